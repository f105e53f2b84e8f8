import Derived.Test.YtpkcfamminlmaaaGreatTab
import Derived.Test.YtpkcfamminlmaaaGreatEvSix
set_option linter.unusedVariables false
set_option linter.unusedSimpArgs false
set_option linter.unusedSectionVars false
namespace Go.Ev
open Go.Proofs
set_option maxRecDepth 100000
noncomputable section
def o0:Ac->Option EV:=Tr.top
def g0:EF:=gO o0
def p0:PF:=Tr.A0
theorem Bro(tm:Ac):g0 tm=tmp tm 0:=A1 (show o0=Az (pathOf 0) by kernel_rfl) tm
theorem Brc(v:Option EV)(tm:Ac):p0 v tm=tm.put 0 v:=A2 (show p0=Bx (pathOf 0) by kernel_rfl) v tm
theorem Bsd(w:Bool)(tm:Ac):Am o0 w tm=Ah (tmp tm 0) w:=Ak (show o0=Az (pathOf 0) by kernel_rfl) w tm
def o1:Ac->Option EV:=Tr.Be (Tr.top)
def g1:EF:=gO o1
def p1:PF:=Tr.Ao (Tr.A0)
theorem Br8(tm:Ac):g1 tm=tmp tm 1:=A1 (show o1=Az (pathOf 1) by kernel_rfl) tm
theorem Bsh(v:Option EV)(tm:Ac):p1 v tm=tm.put 1 v:=A2 (show p1=Bx (pathOf 1) by kernel_rfl) v tm
theorem Bru(w:Bool)(tm:Ac):Am o1 w tm=Ah (tmp tm 1) w:=Ak (show o1=Az (pathOf 1) by kernel_rfl) w tm
def o2:Ac->Option EV:=Tr.Bm (Tr.top)
def g2:EF:=gO o2
def p2:PF:=Tr.Au (Tr.A0)
theorem Bsf(tm:Ac):g2 tm=tmp tm 2:=A1 (show o2=Az (pathOf 2) by kernel_rfl) tm
theorem Brz(v:Option EV)(tm:Ac):p2 v tm=tm.put 2 v:=A2 (show p2=Bx (pathOf 2) by kernel_rfl) v tm
theorem Br4(w:Bool)(tm:Ac):Am o2 w tm=Ah (tmp tm 2) w:=Ak (show o2=Az (pathOf 2) by kernel_rfl) w tm
def o3:Ac->Option EV:=Tr.Be (Tr.Be (Tr.top))
def g3:EF:=gO o3
def p3:PF:=Tr.Ao (Tr.Ao (Tr.A0))
theorem Bsc(tm:Ac):g3 tm=tmp tm 3:=A1 (show o3=Az (pathOf 3) by kernel_rfl) tm
theorem Brl(v:Option EV)(tm:Ac):p3 v tm=tm.put 3 v:=A2 (show p3=Bx (pathOf 3) by kernel_rfl) v tm
theorem Br6(w:Bool)(tm:Ac):Am o3 w tm=Ah (tmp tm 3) w:=Ak (show o3=Az (pathOf 3) by kernel_rfl) w tm
def o4:Ac->Option EV:=Tr.Bm (Tr.Be (Tr.top))
def g4:EF:=gO o4
def p4:PF:=Tr.Au (Tr.Ao (Tr.A0))
theorem Brf(tm:Ac):g4 tm=tmp tm 4:=A1 (show o4=Az (pathOf 4) by kernel_rfl) tm
theorem Brs(v:Option EV)(tm:Ac):p4 v tm=tm.put 4 v:=A2 (show p4=Bx (pathOf 4) by kernel_rfl) v tm
theorem Brm(w:Bool)(tm:Ac):Am o4 w tm=Ah (tmp tm 4) w:=Ak (show o4=Az (pathOf 4) by kernel_rfl) w tm
def o5:Ac->Option EV:=Tr.Be (Tr.Bm (Tr.top))
def g5:EF:=gO o5
def p5:PF:=Tr.Ao (Tr.Au (Tr.A0))
theorem Bsa(tm:Ac):g5 tm=tmp tm 5:=A1 (show o5=Az (pathOf 5) by kernel_rfl) tm
theorem Bre(v:Option EV)(tm:Ac):p5 v tm=tm.put 5 v:=A2 (show p5=Bx (pathOf 5) by kernel_rfl) v tm
theorem Brp(w:Bool)(tm:Ac):Am o5 w tm=Ah (tmp tm 5) w:=Ak (show o5=Az (pathOf 5) by kernel_rfl) w tm
def o6:Ac->Option EV:=Tr.Bm (Tr.Bm (Tr.top))
def g6:EF:=gO o6
def p6:PF:=Tr.Au (Tr.Au (Tr.A0))
theorem Brw(tm:Ac):g6 tm=tmp tm 6:=A1 (show o6=Az (pathOf 6) by kernel_rfl) tm
theorem Brk(v:Option EV)(tm:Ac):p6 v tm=tm.put 6 v:=A2 (show p6=Bx (pathOf 6) by kernel_rfl) v tm
theorem Brx(w:Bool)(tm:Ac):Am o6 w tm=Ah (tmp tm 6) w:=Ak (show o6=Az (pathOf 6) by kernel_rfl) w tm
def o7:Ac->Option EV:=Tr.Be (Tr.Be (Tr.Be (Tr.top)))
def g7:EF:=gO o7
def p7:PF:=Tr.Ao (Tr.Ao (Tr.Ao (Tr.A0)))
theorem Bsb(tm:Ac):g7 tm=tmp tm 7:=A1 (show o7=Az (pathOf 7) by kernel_rfl) tm
theorem Brg(v:Option EV)(tm:Ac):p7 v tm=tm.put 7 v:=A2 (show p7=Bx (pathOf 7) by kernel_rfl) v tm
theorem Brt(w:Bool)(tm:Ac):Am o7 w tm=Ah (tmp tm 7) w:=Ak (show o7=Az (pathOf 7) by kernel_rfl) w tm
def o8:Ac->Option EV:=Tr.Bm (Tr.Be (Tr.Be (Tr.top)))
def g8:EF:=gO o8
def p8:PF:=Tr.Au (Tr.Ao (Tr.Ao (Tr.A0)))
theorem Brd(tm:Ac):g8 tm=tmp tm 8:=A1 (show o8=Az (pathOf 8) by kernel_rfl) tm
theorem Br1(v:Option EV)(tm:Ac):p8 v tm=tm.put 8 v:=A2 (show p8=Bx (pathOf 8) by kernel_rfl) v tm
theorem Br3(w:Bool)(tm:Ac):Am o8 w tm=Ah (tmp tm 8) w:=Ak (show o8=Az (pathOf 8) by kernel_rfl) w tm
def o9:Ac->Option EV:=Tr.Be (Tr.Bm (Tr.Be (Tr.top)))
def g9:EF:=gO o9
def p9:PF:=Tr.Ao (Tr.Au (Tr.Ao (Tr.A0)))
theorem Br7(tm:Ac):g9 tm=tmp tm 9:=A1 (show o9=Az (pathOf 9) by kernel_rfl) tm
theorem Brb(v:Option EV)(tm:Ac):p9 v tm=tm.put 9 v:=A2 (show p9=Bx (pathOf 9) by kernel_rfl) v tm
theorem Br5(w:Bool)(tm:Ac):Am o9 w tm=Ah (tmp tm 9) w:=Ak (show o9=Az (pathOf 9) by kernel_rfl) w tm
def o10:Ac->Option EV:=Tr.Bm (Tr.Bm (Tr.Be (Tr.top)))
def g10:EF:=gO o10
def p10:PF:=Tr.Au (Tr.Au (Tr.Ao (Tr.A0)))
theorem Bp7(tm:Ac):g10 tm=tmp tm 10:=A1 (show o10=Az (pathOf 10) by kernel_rfl) tm
theorem Bmg(v:Option EV)(tm:Ac):p10 v tm=tm.put 10 v:=A2 (show p10=Bx (pathOf 10) by kernel_rfl) v tm
theorem Bpc(w:Bool)(tm:Ac):Am o10 w tm=Ah (tmp tm 10) w:=Ak (show o10=Az (pathOf 10) by kernel_rfl) w tm
def o11:Ac->Option EV:=Tr.Be (Tr.Be (Tr.Bm (Tr.top)))
def g11:EF:=gO o11
def p11:PF:=Tr.Ao (Tr.Ao (Tr.Au (Tr.A0)))
theorem Bj7(tm:Ac):g11 tm=tmp tm 11:=A1 (show o11=Az (pathOf 11) by kernel_rfl) tm
theorem Bpt(v:Option EV)(tm:Ac):p11 v tm=tm.put 11 v:=A2 (show p11=Bx (pathOf 11) by kernel_rfl) v tm
theorem Bkh(w:Bool)(tm:Ac):Am o11 w tm=Ah (tmp tm 11) w:=Ak (show o11=Az (pathOf 11) by kernel_rfl) w tm
def o12:Ac->Option EV:=Tr.Bm (Tr.Be (Tr.Bm (Tr.top)))
def g12:EF:=gO o12
def p12:PF:=Tr.Au (Tr.Ao (Tr.Au (Tr.A0)))
theorem Bjs(tm:Ac):g12 tm=tmp tm 12:=A1 (show o12=Az (pathOf 12) by kernel_rfl) tm
theorem Bk9(v:Option EV)(tm:Ac):p12 v tm=tm.put 12 v:=A2 (show p12=Bx (pathOf 12) by kernel_rfl) v tm
theorem Bod(w:Bool)(tm:Ac):Am o12 w tm=Ah (tmp tm 12) w:=Ak (show o12=Az (pathOf 12) by kernel_rfl) w tm
def o13:Ac->Option EV:=Tr.Be (Tr.Bm (Tr.Bm (Tr.top)))
def g13:EF:=gO o13
def p13:PF:=Tr.Ao (Tr.Au (Tr.Au (Tr.A0)))
theorem Bpk(tm:Ac):g13 tm=tmp tm 13:=A1 (show o13=Az (pathOf 13) by kernel_rfl) tm
theorem Bke(v:Option EV)(tm:Ac):p13 v tm=tm.put 13 v:=A2 (show p13=Bx (pathOf 13) by kernel_rfl) v tm
theorem Bpv(w:Bool)(tm:Ac):Am o13 w tm=Ah (tmp tm 13) w:=Ak (show o13=Az (pathOf 13) by kernel_rfl) w tm
def o14:Ac->Option EV:=Tr.Bm (Tr.Bm (Tr.Bm (Tr.top)))
def g14:EF:=gO o14
def p14:PF:=Tr.Au (Tr.Au (Tr.Au (Tr.A0)))
theorem Bmx(tm:Ac):g14 tm=tmp tm 14:=A1 (show o14=Az (pathOf 14) by kernel_rfl) tm
theorem Blu(v:Option EV)(tm:Ac):p14 v tm=tm.put 14 v:=A2 (show p14=Bx (pathOf 14) by kernel_rfl) v tm
theorem Bnr(w:Bool)(tm:Ac):Am o14 w tm=Ah (tmp tm 14) w:=Ak (show o14=Az (pathOf 14) by kernel_rfl) w tm
def o15:Ac->Option EV:=Tr.Be (Tr.Be (Tr.Be (Tr.Be (Tr.top))))
def g15:EF:=gO o15
def p15:PF:=Tr.Ao (Tr.Ao (Tr.Ao (Tr.Ao (Tr.A0))))
theorem Bql(tm:Ac):g15 tm=tmp tm 15:=A1 (show o15=Az (pathOf 15) by kernel_rfl) tm
theorem Bpe(v:Option EV)(tm:Ac):p15 v tm=tm.put 15 v:=A2 (show p15=Bx (pathOf 15) by kernel_rfl) v tm
theorem Bjm(w:Bool)(tm:Ac):Am o15 w tm=Ah (tmp tm 15) w:=Ak (show o15=Az (pathOf 15) by kernel_rfl) w tm
def o16:Ac->Option EV:=Tr.Bm (Tr.Be (Tr.Be (Tr.Be (Tr.top))))
def g16:EF:=gO o16
def p16:PF:=Tr.Au (Tr.Ao (Tr.Ao (Tr.Ao (Tr.A0))))
theorem Bow(tm:Ac):g16 tm=tmp tm 16:=A1 (show o16=Az (pathOf 16) by kernel_rfl) tm
theorem Bp8(v:Option EV)(tm:Ac):p16 v tm=tm.put 16 v:=A2 (show p16=Bx (pathOf 16) by kernel_rfl) v tm
theorem Bi7(w:Bool)(tm:Ac):Am o16 w tm=Ah (tmp tm 16) w:=Ak (show o16=Az (pathOf 16) by kernel_rfl) w tm
def o17:Ac->Option EV:=Tr.Be (Tr.Bm (Tr.Be (Tr.Be (Tr.top))))
def g17:EF:=gO o17
def p17:PF:=Tr.Ao (Tr.Au (Tr.Ao (Tr.Ao (Tr.A0))))
theorem Bqg(tm:Ac):g17 tm=tmp tm 17:=A1 (show o17=Az (pathOf 17) by kernel_rfl) tm
theorem Bo5(v:Option EV)(tm:Ac):p17 v tm=tm.put 17 v:=A2 (show p17=Bx (pathOf 17) by kernel_rfl) v tm
theorem Blh(w:Bool)(tm:Ac):Am o17 w tm=Ah (tmp tm 17) w:=Ak (show o17=Az (pathOf 17) by kernel_rfl) w tm
def o18:Ac->Option EV:=Tr.Bm (Tr.Bm (Tr.Be (Tr.Be (Tr.top))))
def g18:EF:=gO o18
def p18:PF:=Tr.Au (Tr.Au (Tr.Ao (Tr.Ao (Tr.A0))))
theorem Blx(tm:Ac):g18 tm=tmp tm 18:=A1 (show o18=Az (pathOf 18) by kernel_rfl) tm
theorem Bo6(v:Option EV)(tm:Ac):p18 v tm=tm.put 18 v:=A2 (show p18=Bx (pathOf 18) by kernel_rfl) v tm
theorem Bqt(w:Bool)(tm:Ac):Am o18 w tm=Ah (tmp tm 18) w:=Ak (show o18=Az (pathOf 18) by kernel_rfl) w tm
def o19:Ac->Option EV:=Tr.Be (Tr.Be (Tr.Bm (Tr.Be (Tr.top))))
def g19:EF:=gO o19
def p19:PF:=Tr.Ao (Tr.Ao (Tr.Au (Tr.Ao (Tr.A0))))
theorem Bk4(tm:Ac):g19 tm=tmp tm 19:=A1 (show o19=Az (pathOf 19) by kernel_rfl) tm
theorem Bnd(v:Option EV)(tm:Ac):p19 v tm=tm.put 19 v:=A2 (show p19=Bx (pathOf 19) by kernel_rfl) v tm
theorem Bjq(w:Bool)(tm:Ac):Am o19 w tm=Ah (tmp tm 19) w:=Ak (show o19=Az (pathOf 19) by kernel_rfl) w tm
def o20:Ac->Option EV:=Tr.Bm (Tr.Be (Tr.Bm (Tr.Be (Tr.top))))
def g20:EF:=gO o20
def p20:PF:=Tr.Au (Tr.Ao (Tr.Au (Tr.Ao (Tr.A0))))
theorem Bme(tm:Ac):g20 tm=tmp tm 20:=A1 (show o20=Az (pathOf 20) by kernel_rfl) tm
theorem Blt(v:Option EV)(tm:Ac):p20 v tm=tm.put 20 v:=A2 (show p20=Bx (pathOf 20) by kernel_rfl) v tm
theorem Bqq(w:Bool)(tm:Ac):Am o20 w tm=Ah (tmp tm 20) w:=Ak (show o20=Az (pathOf 20) by kernel_rfl) w tm
def o21:Ac->Option EV:=Tr.Be (Tr.Bm (Tr.Bm (Tr.Be (Tr.top))))
def g21:EF:=gO o21
def p21:PF:=Tr.Ao (Tr.Au (Tr.Au (Tr.Ao (Tr.A0))))
theorem Bno(tm:Ac):g21 tm=tmp tm 21:=A1 (show o21=Az (pathOf 21) by kernel_rfl) tm
theorem Bki(v:Option EV)(tm:Ac):p21 v tm=tm.put 21 v:=A2 (show p21=Bx (pathOf 21) by kernel_rfl) v tm
theorem Bom(w:Bool)(tm:Ac):Am o21 w tm=Ah (tmp tm 21) w:=Ak (show o21=Az (pathOf 21) by kernel_rfl) w tm
def o22:Ac->Option EV:=Tr.Bm (Tr.Bm (Tr.Bm (Tr.Be (Tr.top))))
def g22:EF:=gO o22
def p22:PF:=Tr.Au (Tr.Au (Tr.Au (Tr.Ao (Tr.A0))))
theorem Bk3(tm:Ac):g22 tm=tmp tm 22:=A1 (show o22=Az (pathOf 22) by kernel_rfl) tm
theorem Bl3(v:Option EV)(tm:Ac):p22 v tm=tm.put 22 v:=A2 (show p22=Bx (pathOf 22) by kernel_rfl) v tm
theorem Bll(w:Bool)(tm:Ac):Am o22 w tm=Ah (tmp tm 22) w:=Ak (show o22=Az (pathOf 22) by kernel_rfl) w tm
def o23:Ac->Option EV:=Tr.Be (Tr.Be (Tr.Be (Tr.Bm (Tr.top))))
def g23:EF:=gO o23
def p23:PF:=Tr.Ao (Tr.Ao (Tr.Ao (Tr.Au (Tr.A0))))
theorem Bpq(tm:Ac):g23 tm=tmp tm 23:=A1 (show o23=Az (pathOf 23) by kernel_rfl) tm
theorem Bok(v:Option EV)(tm:Ac):p23 v tm=tm.put 23 v:=A2 (show p23=Bx (pathOf 23) by kernel_rfl) v tm
theorem Bon(w:Bool)(tm:Ac):Am o23 w tm=Ah (tmp tm 23) w:=Ak (show o23=Az (pathOf 23) by kernel_rfl) w tm
def o24:Ac->Option EV:=Tr.Bm (Tr.Be (Tr.Be (Tr.Bm (Tr.top))))
def g24:EF:=gO o24
def p24:PF:=Tr.Au (Tr.Ao (Tr.Ao (Tr.Au (Tr.A0))))
theorem Bkz(tm:Ac):g24 tm=tmp tm 24:=A1 (show o24=Az (pathOf 24) by kernel_rfl) tm
theorem Bji(v:Option EV)(tm:Ac):p24 v tm=tm.put 24 v:=A2 (show p24=Bx (pathOf 24) by kernel_rfl) v tm
theorem Bnj(w:Bool)(tm:Ac):Am o24 w tm=Ah (tmp tm 24) w:=Ak (show o24=Az (pathOf 24) by kernel_rfl) w tm
def o25:Ac->Option EV:=Tr.Be (Tr.Bm (Tr.Be (Tr.Bm (Tr.top))))
def g25:EF:=gO o25
def p25:PF:=Tr.Ao (Tr.Au (Tr.Ao (Tr.Au (Tr.A0))))
theorem Bnh(tm:Ac):g25 tm=tmp tm 25:=A1 (show o25=Az (pathOf 25) by kernel_rfl) tm
theorem Bqc(v:Option EV)(tm:Ac):p25 v tm=tm.put 25 v:=A2 (show p25=Bx (pathOf 25) by kernel_rfl) v tm
theorem Bph(w:Bool)(tm:Ac):Am o25 w tm=Ah (tmp tm 25) w:=Ak (show o25=Az (pathOf 25) by kernel_rfl) w tm
def o26:Ac->Option EV:=Tr.Bm (Tr.Bm (Tr.Be (Tr.Bm (Tr.top))))
def g26:EF:=gO o26
def p26:PF:=Tr.Au (Tr.Au (Tr.Ao (Tr.Au (Tr.A0))))
theorem Boe(tm:Ac):g26 tm=tmp tm 26:=A1 (show o26=Az (pathOf 26) by kernel_rfl) tm
theorem Bjk(v:Option EV)(tm:Ac):p26 v tm=tm.put 26 v:=A2 (show p26=Bx (pathOf 26) by kernel_rfl) v tm
theorem Bj5(w:Bool)(tm:Ac):Am o26 w tm=Ah (tmp tm 26) w:=Ak (show o26=Az (pathOf 26) by kernel_rfl) w tm
def o27:Ac->Option EV:=Tr.Be (Tr.Be (Tr.Bm (Tr.Bm (Tr.top))))
def g27:EF:=gO o27
def p27:PF:=Tr.Ao (Tr.Ao (Tr.Au (Tr.Au (Tr.A0))))
theorem Blz(tm:Ac):g27 tm=tmp tm 27:=A1 (show o27=Az (pathOf 27) by kernel_rfl) tm
theorem Bpn(v:Option EV)(tm:Ac):p27 v tm=tm.put 27 v:=A2 (show p27=Bx (pathOf 27) by kernel_rfl) v tm
theorem Bnt(w:Bool)(tm:Ac):Am o27 w tm=Ah (tmp tm 27) w:=Ak (show o27=Az (pathOf 27) by kernel_rfl) w tm
def o28:Ac->Option EV:=Tr.Bm (Tr.Be (Tr.Bm (Tr.Bm (Tr.top))))
def g28:EF:=gO o28
def p28:PF:=Tr.Au (Tr.Ao (Tr.Au (Tr.Au (Tr.A0))))
theorem Blb(tm:Ac):g28 tm=tmp tm 28:=A1 (show o28=Az (pathOf 28) by kernel_rfl) tm
theorem Bj1(v:Option EV)(tm:Ac):p28 v tm=tm.put 28 v:=A2 (show p28=Bx (pathOf 28) by kernel_rfl) v tm
theorem Boi(w:Bool)(tm:Ac):Am o28 w tm=Ah (tmp tm 28) w:=Ak (show o28=Az (pathOf 28) by kernel_rfl) w tm
def o29:Ac->Option EV:=Tr.Be (Tr.Bm (Tr.Bm (Tr.Bm (Tr.top))))
def g29:EF:=gO o29
def p29:PF:=Tr.Ao (Tr.Au (Tr.Au (Tr.Au (Tr.A0))))
theorem Bny(tm:Ac):g29 tm=tmp tm 29:=A1 (show o29=Az (pathOf 29) by kernel_rfl) tm
theorem Bnn(v:Option EV)(tm:Ac):p29 v tm=tm.put 29 v:=A2 (show p29=Bx (pathOf 29) by kernel_rfl) v tm
theorem Bk5(w:Bool)(tm:Ac):Am o29 w tm=Ah (tmp tm 29) w:=Ak (show o29=Az (pathOf 29) by kernel_rfl) w tm
def o30:Ac->Option EV:=Tr.Bm (Tr.Bm (Tr.Bm (Tr.Bm (Tr.top))))
def g30:EF:=gO o30
def p30:PF:=Tr.Au (Tr.Au (Tr.Au (Tr.Au (Tr.A0))))
theorem Bqy(tm:Ac):g30 tm=tmp tm 30:=A1 (show o30=Az (pathOf 30) by kernel_rfl) tm
theorem Boy(v:Option EV)(tm:Ac):p30 v tm=tm.put 30 v:=A2 (show p30=Bx (pathOf 30) by kernel_rfl) v tm
theorem Bo9(w:Bool)(tm:Ac):Am o30 w tm=Ah (tmp tm 30) w:=Ak (show o30=Az (pathOf 30) by kernel_rfl) w tm
def o31:Ac->Option EV:=Tr.Be (Tr.Be (Tr.Be (Tr.Be (Tr.Be (Tr.top)))))
def g31:EF:=gO o31
def p31:PF:=Tr.Ao (Tr.Ao (Tr.Ao (Tr.Ao (Tr.Ao (Tr.A0)))))
theorem Bl0(tm:Ac):g31 tm=tmp tm 31:=A1 (show o31=Az (pathOf 31) by kernel_rfl) tm
theorem Bj0(v:Option EV)(tm:Ac):p31 v tm=tm.put 31 v:=A2 (show p31=Bx (pathOf 31) by kernel_rfl) v tm
theorem Bm9(w:Bool)(tm:Ac):Am o31 w tm=Ah (tmp tm 31) w:=Ak (show o31=Az (pathOf 31) by kernel_rfl) w tm
def o32:Ac->Option EV:=Tr.Bm (Tr.Be (Tr.Be (Tr.Be (Tr.Be (Tr.top)))))
def g32:EF:=gO o32
def p32:PF:=Tr.Au (Tr.Ao (Tr.Ao (Tr.Ao (Tr.Ao (Tr.A0)))))
theorem Blj(tm:Ac):g32 tm=tmp tm 32:=A1 (show o32=Az (pathOf 32) by kernel_rfl) tm
theorem Bns(v:Option EV)(tm:Ac):p32 v tm=tm.put 32 v:=A2 (show p32=Bx (pathOf 32) by kernel_rfl) v tm
theorem Bnz(w:Bool)(tm:Ac):Am o32 w tm=Ah (tmp tm 32) w:=Ak (show o32=Az (pathOf 32) by kernel_rfl) w tm
def o33:Ac->Option EV:=Tr.Be (Tr.Bm (Tr.Be (Tr.Be (Tr.Be (Tr.top)))))
def g33:EF:=gO o33
def p33:PF:=Tr.Ao (Tr.Au (Tr.Ao (Tr.Ao (Tr.Ao (Tr.A0)))))
theorem Bja(tm:Ac):g33 tm=tmp tm 33:=A1 (show o33=Az (pathOf 33) by kernel_rfl) tm
theorem Bjg(v:Option EV)(tm:Ac):p33 v tm=tm.put 33 v:=A2 (show p33=Bx (pathOf 33) by kernel_rfl) v tm
theorem Bq2(w:Bool)(tm:Ac):Am o33 w tm=Ah (tmp tm 33) w:=Ak (show o33=Az (pathOf 33) by kernel_rfl) w tm
def o34:Ac->Option EV:=Tr.Bm (Tr.Bm (Tr.Be (Tr.Be (Tr.Be (Tr.top)))))
def g34:EF:=gO o34
def p34:PF:=Tr.Au (Tr.Au (Tr.Ao (Tr.Ao (Tr.Ao (Tr.A0)))))
theorem Bob(tm:Ac):g34 tm=tmp tm 34:=A1 (show o34=Az (pathOf 34) by kernel_rfl) tm
theorem Bor(v:Option EV)(tm:Ac):p34 v tm=tm.put 34 v:=A2 (show p34=Bx (pathOf 34) by kernel_rfl) v tm
theorem Bmv(w:Bool)(tm:Ac):Am o34 w tm=Ah (tmp tm 34) w:=Ak (show o34=Az (pathOf 34) by kernel_rfl) w tm
def o35:Ac->Option EV:=Tr.Be (Tr.Be (Tr.Bm (Tr.Be (Tr.Be (Tr.top)))))
def g35:EF:=gO o35
def p35:PF:=Tr.Ao (Tr.Ao (Tr.Au (Tr.Ao (Tr.Ao (Tr.A0)))))
theorem Blr(tm:Ac):g35 tm=tmp tm 35:=A1 (show o35=Az (pathOf 35) by kernel_rfl) tm
theorem Bqr(v:Option EV)(tm:Ac):p35 v tm=tm.put 35 v:=A2 (show p35=Bx (pathOf 35) by kernel_rfl) v tm
theorem Bpa(w:Bool)(tm:Ac):Am o35 w tm=Ah (tmp tm 35) w:=Ak (show o35=Az (pathOf 35) by kernel_rfl) w tm
def o36:Ac->Option EV:=Tr.Bm (Tr.Be (Tr.Bm (Tr.Be (Tr.Be (Tr.top)))))
def g36:EF:=gO o36
def p36:PF:=Tr.Au (Tr.Ao (Tr.Au (Tr.Ao (Tr.Ao (Tr.A0)))))
theorem Bqf(tm:Ac):g36 tm=tmp tm 36:=A1 (show o36=Az (pathOf 36) by kernel_rfl) tm
theorem Bkr(v:Option EV)(tm:Ac):p36 v tm=tm.put 36 v:=A2 (show p36=Bx (pathOf 36) by kernel_rfl) v tm
theorem Bkk(w:Bool)(tm:Ac):Am o36 w tm=Ah (tmp tm 36) w:=Ak (show o36=Az (pathOf 36) by kernel_rfl) w tm
def o37:Ac->Option EV:=Tr.Be (Tr.Bm (Tr.Bm (Tr.Be (Tr.Be (Tr.top)))))
def g37:EF:=gO o37
def p37:PF:=Tr.Ao (Tr.Au (Tr.Au (Tr.Ao (Tr.Ao (Tr.A0)))))
theorem Bjx(tm:Ac):g37 tm=tmp tm 37:=A1 (show o37=Az (pathOf 37) by kernel_rfl) tm
theorem Blc(v:Option EV)(tm:Ac):p37 v tm=tm.put 37 v:=A2 (show p37=Bx (pathOf 37) by kernel_rfl) v tm
theorem Bnw(w:Bool)(tm:Ac):Am o37 w tm=Ah (tmp tm 37) w:=Ak (show o37=Az (pathOf 37) by kernel_rfl) w tm
def o38:Ac->Option EV:=Tr.Bm (Tr.Bm (Tr.Bm (Tr.Be (Tr.Be (Tr.top)))))
def g38:EF:=gO o38
def p38:PF:=Tr.Au (Tr.Au (Tr.Au (Tr.Ao (Tr.Ao (Tr.A0)))))
theorem Bqe(tm:Ac):g38 tm=tmp tm 38:=A1 (show o38=Az (pathOf 38) by kernel_rfl) tm
theorem Bne(v:Option EV)(tm:Ac):p38 v tm=tm.put 38 v:=A2 (show p38=Bx (pathOf 38) by kernel_rfl) v tm
theorem Bkj(w:Bool)(tm:Ac):Am o38 w tm=Ah (tmp tm 38) w:=Ak (show o38=Az (pathOf 38) by kernel_rfl) w tm
def o39:Ac->Option EV:=Tr.Be (Tr.Be (Tr.Be (Tr.Bm (Tr.Be (Tr.top)))))
def g39:EF:=gO o39
def p39:PF:=Tr.Ao (Tr.Ao (Tr.Ao (Tr.Au (Tr.Ao (Tr.A0)))))
theorem Bmt(tm:Ac):g39 tm=tmp tm 39:=A1 (show o39=Az (pathOf 39) by kernel_rfl) tm
theorem Boa(v:Option EV)(tm:Ac):p39 v tm=tm.put 39 v:=A2 (show p39=Bx (pathOf 39) by kernel_rfl) v tm
theorem Bng(w:Bool)(tm:Ac):Am o39 w tm=Ah (tmp tm 39) w:=Ak (show o39=Az (pathOf 39) by kernel_rfl) w tm
def o40:Ac->Option EV:=Tr.Bm (Tr.Be (Tr.Be (Tr.Bm (Tr.Be (Tr.top)))))
def g40:EF:=gO o40
def p40:PF:=Tr.Au (Tr.Ao (Tr.Ao (Tr.Au (Tr.Ao (Tr.A0)))))
theorem Bog(tm:Ac):g40 tm=tmp tm 40:=A1 (show o40=Az (pathOf 40) by kernel_rfl) tm
theorem Bni(v:Option EV)(tm:Ac):p40 v tm=tm.put 40 v:=A2 (show p40=Bx (pathOf 40) by kernel_rfl) v tm
theorem Ble(w:Bool)(tm:Ac):Am o40 w tm=Ah (tmp tm 40) w:=Ak (show o40=Az (pathOf 40) by kernel_rfl) w tm
def o41:Ac->Option EV:=Tr.Be (Tr.Bm (Tr.Be (Tr.Bm (Tr.Be (Tr.top)))))
def g41:EF:=gO o41
def p41:PF:=Tr.Ao (Tr.Au (Tr.Ao (Tr.Au (Tr.Ao (Tr.A0)))))
theorem Bot(tm:Ac):g41 tm=tmp tm 41:=A1 (show o41=Az (pathOf 41) by kernel_rfl) tm
theorem Bn5(v:Option EV)(tm:Ac):p41 v tm=tm.put 41 v:=A2 (show p41=Bx (pathOf 41) by kernel_rfl) v tm
theorem Bpu(w:Bool)(tm:Ac):Am o41 w tm=Ah (tmp tm 41) w:=Ak (show o41=Az (pathOf 41) by kernel_rfl) w tm
def o42:Ac->Option EV:=Tr.Bm (Tr.Bm (Tr.Be (Tr.Bm (Tr.Be (Tr.top)))))
def g42:EF:=gO o42
def p42:PF:=Tr.Au (Tr.Au (Tr.Ao (Tr.Au (Tr.Ao (Tr.A0)))))
theorem Bl1(tm:Ac):g42 tm=tmp tm 42:=A1 (show o42=Az (pathOf 42) by kernel_rfl) tm
theorem Bn6(v:Option EV)(tm:Ac):p42 v tm=tm.put 42 v:=A2 (show p42=Bx (pathOf 42) by kernel_rfl) v tm
theorem Bp0(w:Bool)(tm:Ac):Am o42 w tm=Ah (tmp tm 42) w:=Ak (show o42=Az (pathOf 42) by kernel_rfl) w tm
def o43:Ac->Option EV:=Tr.Be (Tr.Be (Tr.Bm (Tr.Bm (Tr.Be (Tr.top)))))
def g43:EF:=gO o43
def p43:PF:=Tr.Ao (Tr.Ao (Tr.Au (Tr.Au (Tr.Ao (Tr.A0)))))
theorem Bk7(tm:Ac):g43 tm=tmp tm 43:=A1 (show o43=Az (pathOf 43) by kernel_rfl) tm
theorem Bna(v:Option EV)(tm:Ac):p43 v tm=tm.put 43 v:=A2 (show p43=Bx (pathOf 43) by kernel_rfl) v tm
theorem Boq(w:Bool)(tm:Ac):Am o43 w tm=Ah (tmp tm 43) w:=Ak (show o43=Az (pathOf 43) by kernel_rfl) w tm
def o44:Ac->Option EV:=Tr.Bm (Tr.Be (Tr.Bm (Tr.Bm (Tr.Be (Tr.top)))))
def g44:EF:=gO o44
def p44:PF:=Tr.Au (Tr.Ao (Tr.Au (Tr.Au (Tr.Ao (Tr.A0)))))
theorem Bov(tm:Ac):g44 tm=tmp tm 44:=A1 (show o44=Az (pathOf 44) by kernel_rfl) tm
theorem Bqw(v:Option EV)(tm:Ac):p44 v tm=tm.put 44 v:=A2 (show p44=Bx (pathOf 44) by kernel_rfl) v tm
theorem Boo(w:Bool)(tm:Ac):Am o44 w tm=Ah (tmp tm 44) w:=Ak (show o44=Az (pathOf 44) by kernel_rfl) w tm
def o45:Ac->Option EV:=Tr.Be (Tr.Bm (Tr.Bm (Tr.Bm (Tr.Be (Tr.top)))))
def g45:EF:=gO o45
def p45:PF:=Tr.Ao (Tr.Au (Tr.Au (Tr.Au (Tr.Ao (Tr.A0)))))
theorem Bqo(tm:Ac):g45 tm=tmp tm 45:=A1 (show o45=Az (pathOf 45) by kernel_rfl) tm
theorem Bqs(v:Option EV)(tm:Ac):p45 v tm=tm.put 45 v:=A2 (show p45=Bx (pathOf 45) by kernel_rfl) v tm
theorem Bju(w:Bool)(tm:Ac):Am o45 w tm=Ah (tmp tm 45) w:=Ak (show o45=Az (pathOf 45) by kernel_rfl) w tm
def o46:Ac->Option EV:=Tr.Bm (Tr.Bm (Tr.Bm (Tr.Bm (Tr.Be (Tr.top)))))
def g46:EF:=gO o46
def p46:PF:=Tr.Au (Tr.Au (Tr.Au (Tr.Au (Tr.Ao (Tr.A0)))))
theorem Bpr(tm:Ac):g46 tm=tmp tm 46:=A1 (show o46=Az (pathOf 46) by kernel_rfl) tm
theorem Bnv(v:Option EV)(tm:Ac):p46 v tm=tm.put 46 v:=A2 (show p46=Bx (pathOf 46) by kernel_rfl) v tm
theorem Bjr(w:Bool)(tm:Ac):Am o46 w tm=Ah (tmp tm 46) w:=Ak (show o46=Az (pathOf 46) by kernel_rfl) w tm
def o47:Ac->Option EV:=Tr.Be (Tr.Be (Tr.Be (Tr.Be (Tr.Bm (Tr.top)))))
def g47:EF:=gO o47
def p47:PF:=Tr.Ao (Tr.Ao (Tr.Ao (Tr.Ao (Tr.Au (Tr.A0)))))
theorem Bjp(tm:Ac):g47 tm=tmp tm 47:=A1 (show o47=Az (pathOf 47) by kernel_rfl) tm
theorem Bnl(v:Option EV)(tm:Ac):p47 v tm=tm.put 47 v:=A2 (show p47=Bx (pathOf 47) by kernel_rfl) v tm
theorem Bmu(w:Bool)(tm:Ac):Am o47 w tm=Ah (tmp tm 47) w:=Ak (show o47=Az (pathOf 47) by kernel_rfl) w tm
def o48:Ac->Option EV:=Tr.Bm (Tr.Be (Tr.Be (Tr.Be (Tr.Bm (Tr.top)))))
def g48:EF:=gO o48
def p48:PF:=Tr.Au (Tr.Ao (Tr.Ao (Tr.Ao (Tr.Au (Tr.A0)))))
theorem Bml(tm:Ac):g48 tm=tmp tm 48:=A1 (show o48=Az (pathOf 48) by kernel_rfl) tm
theorem Bn8(v:Option EV)(tm:Ac):p48 v tm=tm.put 48 v:=A2 (show p48=Bx (pathOf 48) by kernel_rfl) v tm
theorem Bjc(w:Bool)(tm:Ac):Am o48 w tm=Ah (tmp tm 48) w:=Ak (show o48=Az (pathOf 48) by kernel_rfl) w tm
def o49:Ac->Option EV:=Tr.Be (Tr.Bm (Tr.Be (Tr.Be (Tr.Bm (Tr.top)))))
def g49:EF:=gO o49
def p49:PF:=Tr.Ao (Tr.Au (Tr.Ao (Tr.Ao (Tr.Au (Tr.A0)))))
theorem Bos(tm:Ac):g49 tm=tmp tm 49:=A1 (show o49=Az (pathOf 49) by kernel_rfl) tm
theorem Bq5(v:Option EV)(tm:Ac):p49 v tm=tm.put 49 v:=A2 (show p49=Bx (pathOf 49) by kernel_rfl) v tm
theorem Bks(w:Bool)(tm:Ac):Am o49 w tm=Ah (tmp tm 49) w:=Ak (show o49=Az (pathOf 49) by kernel_rfl) w tm
def o50:Ac->Option EV:=Tr.Bm (Tr.Bm (Tr.Be (Tr.Be (Tr.Bm (Tr.top)))))
def g50:EF:=gO o50
def p50:PF:=Tr.Au (Tr.Au (Tr.Ao (Tr.Ao (Tr.Au (Tr.A0)))))
theorem Bq3(tm:Ac):g50 tm=tmp tm 50:=A1 (show o50=Az (pathOf 50) by kernel_rfl) tm
theorem Bqa(v:Option EV)(tm:Ac):p50 v tm=tm.put 50 v:=A2 (show p50=Bx (pathOf 50) by kernel_rfl) v tm
theorem Bmc(w:Bool)(tm:Ac):Am o50 w tm=Ah (tmp tm 50) w:=Ak (show o50=Az (pathOf 50) by kernel_rfl) w tm
def o51:Ac->Option EV:=Tr.Be (Tr.Be (Tr.Bm (Tr.Be (Tr.Bm (Tr.top)))))
def g51:EF:=gO o51
def p51:PF:=Tr.Ao (Tr.Ao (Tr.Au (Tr.Ao (Tr.Au (Tr.A0)))))
theorem Bq1(tm:Ac):g51 tm=tmp tm 51:=A1 (show o51=Az (pathOf 51) by kernel_rfl) tm
theorem Bqj(v:Option EV)(tm:Ac):p51 v tm=tm.put 51 v:=A2 (show p51=Bx (pathOf 51) by kernel_rfl) v tm
theorem Bl5(w:Bool)(tm:Ac):Am o51 w tm=Ah (tmp tm 51) w:=Ak (show o51=Az (pathOf 51) by kernel_rfl) w tm
def o52:Ac->Option EV:=Tr.Bm (Tr.Be (Tr.Bm (Tr.Be (Tr.Bm (Tr.top)))))
def g52:EF:=gO o52
def p52:PF:=Tr.Au (Tr.Ao (Tr.Au (Tr.Ao (Tr.Au (Tr.A0)))))
theorem Bpj(tm:Ac):g52 tm=tmp tm 52:=A1 (show o52=Az (pathOf 52) by kernel_rfl) tm
theorem Bm6(v:Option EV)(tm:Ac):p52 v tm=tm.put 52 v:=A2 (show p52=Bx (pathOf 52) by kernel_rfl) v tm
theorem Bo4(w:Bool)(tm:Ac):Am o52 w tm=Ah (tmp tm 52) w:=Ak (show o52=Az (pathOf 52) by kernel_rfl) w tm
def o53:Ac->Option EV:=Tr.Be (Tr.Bm (Tr.Bm (Tr.Be (Tr.Bm (Tr.top)))))
def g53:EF:=gO o53
def p53:PF:=Tr.Ao (Tr.Au (Tr.Au (Tr.Ao (Tr.Au (Tr.A0)))))
theorem Bra(tm:Ac):g53 tm=tmp tm 53:=A1 (show o53=Az (pathOf 53) by kernel_rfl) tm
theorem Bla(v:Option EV)(tm:Ac):p53 v tm=tm.put 53 v:=A2 (show p53=Bx (pathOf 53) by kernel_rfl) v tm
theorem Bp9(w:Bool)(tm:Ac):Am o53 w tm=Ah (tmp tm 53) w:=Ak (show o53=Az (pathOf 53) by kernel_rfl) w tm
def o54:Ac->Option EV:=Tr.Bm (Tr.Bm (Tr.Bm (Tr.Be (Tr.Bm (Tr.top)))))
def g54:EF:=gO o54
def p54:PF:=Tr.Au (Tr.Au (Tr.Au (Tr.Ao (Tr.Au (Tr.A0)))))
theorem Bld(tm:Ac):g54 tm=tmp tm 54:=A1 (show o54=Az (pathOf 54) by kernel_rfl) tm
theorem Bi8(v:Option EV)(tm:Ac):p54 v tm=tm.put 54 v:=A2 (show p54=Bx (pathOf 54) by kernel_rfl) v tm
theorem Bjw(w:Bool)(tm:Ac):Am o54 w tm=Ah (tmp tm 54) w:=Ak (show o54=Az (pathOf 54) by kernel_rfl) w tm
def o55:Ac->Option EV:=Tr.Be (Tr.Be (Tr.Be (Tr.Bm (Tr.Bm (Tr.top)))))
def g55:EF:=gO o55
def p55:PF:=Tr.Ao (Tr.Ao (Tr.Ao (Tr.Au (Tr.Au (Tr.A0)))))
theorem Bjd(tm:Ac):g55 tm=tmp tm 55:=A1 (show o55=Az (pathOf 55) by kernel_rfl) tm
theorem Bje(v:Option EV)(tm:Ac):p55 v tm=tm.put 55 v:=A2 (show p55=Bx (pathOf 55) by kernel_rfl) v tm
theorem Bqx(w:Bool)(tm:Ac):Am o55 w tm=Ah (tmp tm 55) w:=Ak (show o55=Az (pathOf 55) by kernel_rfl) w tm
def o56:Ac->Option EV:=Tr.Bm (Tr.Be (Tr.Be (Tr.Bm (Tr.Bm (Tr.top)))))
def g56:EF:=gO o56
def p56:PF:=Tr.Au (Tr.Ao (Tr.Ao (Tr.Au (Tr.Au (Tr.A0)))))
theorem Blq(tm:Ac):g56 tm=tmp tm 56:=A1 (show o56=Az (pathOf 56) by kernel_rfl) tm
theorem Bpo(v:Option EV)(tm:Ac):p56 v tm=tm.put 56 v:=A2 (show p56=Bx (pathOf 56) by kernel_rfl) v tm
theorem Bo3(w:Bool)(tm:Ac):Am o56 w tm=Ah (tmp tm 56) w:=Ak (show o56=Az (pathOf 56) by kernel_rfl) w tm
def o57:Ac->Option EV:=Tr.Be (Tr.Bm (Tr.Be (Tr.Bm (Tr.Bm (Tr.top)))))
def g57:EF:=gO o57
def p57:PF:=Tr.Ao (Tr.Au (Tr.Ao (Tr.Au (Tr.Au (Tr.A0)))))
theorem Bp4(tm:Ac):g57 tm=tmp tm 57:=A1 (show o57=Az (pathOf 57) by kernel_rfl) tm
theorem Bou(v:Option EV)(tm:Ac):p57 v tm=tm.put 57 v:=A2 (show p57=Bx (pathOf 57) by kernel_rfl) v tm
theorem Bn4(w:Bool)(tm:Ac):Am o57 w tm=Ah (tmp tm 57) w:=Ak (show o57=Az (pathOf 57) by kernel_rfl) w tm
def o58:Ac->Option EV:=Tr.Bm (Tr.Bm (Tr.Be (Tr.Bm (Tr.Bm (Tr.top)))))
def g58:EF:=gO o58
def p58:PF:=Tr.Au (Tr.Au (Tr.Ao (Tr.Au (Tr.Au (Tr.A0)))))
theorem Bk6(tm:Ac):g58 tm=tmp tm 58:=A1 (show o58=Az (pathOf 58) by kernel_rfl) tm
theorem Bpp(v:Option EV)(tm:Ac):p58 v tm=tm.put 58 v:=A2 (show p58=Bx (pathOf 58) by kernel_rfl) v tm
theorem Bly(w:Bool)(tm:Ac):Am o58 w tm=Ah (tmp tm 58) w:=Ak (show o58=Az (pathOf 58) by kernel_rfl) w tm
def o59:Ac->Option EV:=Tr.Be (Tr.Be (Tr.Bm (Tr.Bm (Tr.Bm (Tr.top)))))
def g59:EF:=gO o59
def p59:PF:=Tr.Ao (Tr.Ao (Tr.Au (Tr.Au (Tr.Au (Tr.A0)))))
theorem Bpf(tm:Ac):g59 tm=tmp tm 59:=A1 (show o59=Az (pathOf 59) by kernel_rfl) tm
theorem Bm5(v:Option EV)(tm:Ac):p59 v tm=tm.put 59 v:=A2 (show p59=Bx (pathOf 59) by kernel_rfl) v tm
theorem Bpx(w:Bool)(tm:Ac):Am o59 w tm=Ah (tmp tm 59) w:=Ak (show o59=Az (pathOf 59) by kernel_rfl) w tm
def o60:Ac->Option EV:=Tr.Bm (Tr.Be (Tr.Bm (Tr.Bm (Tr.Bm (Tr.top)))))
def g60:EF:=gO o60
def p60:PF:=Tr.Au (Tr.Ao (Tr.Au (Tr.Au (Tr.Au (Tr.A0)))))
theorem Bq0(tm:Ac):g60 tm=tmp tm 60:=A1 (show o60=Az (pathOf 60) by kernel_rfl) tm
theorem Bkw(v:Option EV)(tm:Ac):p60 v tm=tm.put 60 v:=A2 (show p60=Bx (pathOf 60) by kernel_rfl) v tm
theorem Bpw(w:Bool)(tm:Ac):Am o60 w tm=Ah (tmp tm 60) w:=Ak (show o60=Az (pathOf 60) by kernel_rfl) w tm
def o61:Ac->Option EV:=Tr.Be (Tr.Bm (Tr.Bm (Tr.Bm (Tr.Bm (Tr.top)))))
def g61:EF:=gO o61
def p61:PF:=Tr.Ao (Tr.Au (Tr.Au (Tr.Au (Tr.Au (Tr.A0)))))
theorem Bkc(tm:Ac):g61 tm=tmp tm 61:=A1 (show o61=Az (pathOf 61) by kernel_rfl) tm
theorem Bmi(v:Option EV)(tm:Ac):p61 v tm=tm.put 61 v:=A2 (show p61=Bx (pathOf 61) by kernel_rfl) v tm
theorem Bnq(w:Bool)(tm:Ac):Am o61 w tm=Ah (tmp tm 61) w:=Ak (show o61=Az (pathOf 61) by kernel_rfl) w tm
def o62:Ac->Option EV:=Tr.Bm (Tr.Bm (Tr.Bm (Tr.Bm (Tr.Bm (Tr.top)))))
def g62:EF:=gO o62
def p62:PF:=Tr.Au (Tr.Au (Tr.Au (Tr.Au (Tr.Au (Tr.A0)))))
theorem Bjb(tm:Ac):g62 tm=tmp tm 62:=A1 (show o62=Az (pathOf 62) by kernel_rfl) tm
theorem Bkb(v:Option EV)(tm:Ac):p62 v tm=tm.put 62 v:=A2 (show p62=Bx (pathOf 62) by kernel_rfl) v tm
theorem Bl4(w:Bool)(tm:Ac):Am o62 w tm=Ah (tmp tm 62) w:=Ak (show o62=Az (pathOf 62) by kernel_rfl) w tm
def o63:Ac->Option EV:=Tr.Be (Tr.Be (Tr.Be (Tr.Be (Tr.Be (Tr.Be (Tr.top))))))
def g63:EF:=gO o63
def p63:PF:=Tr.Ao (Tr.Ao (Tr.Ao (Tr.Ao (Tr.Ao (Tr.Ao (Tr.A0))))))
theorem Bli(tm:Ac):g63 tm=tmp tm 63:=A1 (show o63=Az (pathOf 63) by kernel_rfl) tm
theorem Bmp(v:Option EV)(tm:Ac):p63 v tm=tm.put 63 v:=A2 (show p63=Bx (pathOf 63) by kernel_rfl) v tm
theorem Blf(w:Bool)(tm:Ac):Am o63 w tm=Ah (tmp tm 63) w:=Ak (show o63=Az (pathOf 63) by kernel_rfl) w tm
def o64:Ac->Option EV:=Tr.Bm (Tr.Be (Tr.Be (Tr.Be (Tr.Be (Tr.Be (Tr.top))))))
def g64:EF:=gO o64
def p64:PF:=Tr.Au (Tr.Ao (Tr.Ao (Tr.Ao (Tr.Ao (Tr.Ao (Tr.A0))))))
theorem Bp1(tm:Ac):g64 tm=tmp tm 64:=A1 (show o64=Az (pathOf 64) by kernel_rfl) tm
theorem Bm3(v:Option EV)(tm:Ac):p64 v tm=tm.put 64 v:=A2 (show p64=Bx (pathOf 64) by kernel_rfl) v tm
theorem Bpd(w:Bool)(tm:Ac):Am o64 w tm=Ah (tmp tm 64) w:=Ak (show o64=Az (pathOf 64) by kernel_rfl) w tm
def o65:Ac->Option EV:=Tr.Be (Tr.Bm (Tr.Be (Tr.Be (Tr.Be (Tr.Be (Tr.top))))))
def g65:EF:=gO o65
def p65:PF:=Tr.Ao (Tr.Au (Tr.Ao (Tr.Ao (Tr.Ao (Tr.Ao (Tr.A0))))))
theorem Bq6(tm:Ac):g65 tm=tmp tm 65:=A1 (show o65=Az (pathOf 65) by kernel_rfl) tm
theorem Bp6(v:Option EV)(tm:Ac):p65 v tm=tm.put 65 v:=A2 (show p65=Bx (pathOf 65) by kernel_rfl) v tm
theorem Bjj(w:Bool)(tm:Ac):Am o65 w tm=Ah (tmp tm 65) w:=Ak (show o65=Az (pathOf 65) by kernel_rfl) w tm
def o66:Ac->Option EV:=Tr.Bm (Tr.Bm (Tr.Be (Tr.Be (Tr.Be (Tr.Be (Tr.top))))))
def g66:EF:=gO o66
def p66:PF:=Tr.Au (Tr.Au (Tr.Ao (Tr.Ao (Tr.Ao (Tr.Ao (Tr.A0))))))
theorem Bol(tm:Ac):g66 tm=tmp tm 66:=A1 (show o66=Az (pathOf 66) by kernel_rfl) tm
theorem Bk1(v:Option EV)(tm:Ac):p66 v tm=tm.put 66 v:=A2 (show p66=Bx (pathOf 66) by kernel_rfl) v tm
theorem Bmr(w:Bool)(tm:Ac):Am o66 w tm=Ah (tmp tm 66) w:=Ak (show o66=Az (pathOf 66) by kernel_rfl) w tm
def o67:Ac->Option EV:=Tr.Be (Tr.Be (Tr.Bm (Tr.Be (Tr.Be (Tr.Be (Tr.top))))))
def g67:EF:=gO o67
def p67:PF:=Tr.Ao (Tr.Ao (Tr.Au (Tr.Ao (Tr.Ao (Tr.Ao (Tr.A0))))))
theorem Bkl(tm:Ac):g67 tm=tmp tm 67:=A1 (show o67=Az (pathOf 67) by kernel_rfl) tm
theorem Bqn(v:Option EV)(tm:Ac):p67 v tm=tm.put 67 v:=A2 (show p67=Bx (pathOf 67) by kernel_rfl) v tm
theorem Bko(w:Bool)(tm:Ac):Am o67 w tm=Ah (tmp tm 67) w:=Ak (show o67=Az (pathOf 67) by kernel_rfl) w tm
def o68:Ac->Option EV:=Tr.Bm (Tr.Be (Tr.Bm (Tr.Be (Tr.Be (Tr.Be (Tr.top))))))
def g68:EF:=gO o68
def p68:PF:=Tr.Au (Tr.Ao (Tr.Au (Tr.Ao (Tr.Ao (Tr.Ao (Tr.A0))))))
theorem Bi4(tm:Ac):g68 tm=tmp tm 68:=A1 (show o68=Az (pathOf 68) by kernel_rfl) tm
theorem Bnk(v:Option EV)(tm:Ac):p68 v tm=tm.put 68 v:=A2 (show p68=Bx (pathOf 68) by kernel_rfl) v tm
theorem Bkq(w:Bool)(tm:Ac):Am o68 w tm=Ah (tmp tm 68) w:=Ak (show o68=Az (pathOf 68) by kernel_rfl) w tm
def o69:Ac->Option EV:=Tr.Be (Tr.Bm (Tr.Bm (Tr.Be (Tr.Be (Tr.Be (Tr.top))))))
def g69:EF:=gO o69
def p69:PF:=Tr.Ao (Tr.Au (Tr.Au (Tr.Ao (Tr.Ao (Tr.Ao (Tr.A0))))))
theorem Bn1(tm:Ac):g69 tm=tmp tm 69:=A1 (show o69=Az (pathOf 69) by kernel_rfl) tm
theorem Bpl(v:Option EV)(tm:Ac):p69 v tm=tm.put 69 v:=A2 (show p69=Bx (pathOf 69) by kernel_rfl) v tm
theorem Bnu(w:Bool)(tm:Ac):Am o69 w tm=Ah (tmp tm 69) w:=Ak (show o69=Az (pathOf 69) by kernel_rfl) w tm
def o70:Ac->Option EV:=Tr.Bm (Tr.Bm (Tr.Bm (Tr.Be (Tr.Be (Tr.Be (Tr.top))))))
def g70:EF:=gO o70
def p70:PF:=Tr.Au (Tr.Au (Tr.Au (Tr.Ao (Tr.Ao (Tr.Ao (Tr.A0))))))
theorem Bqb(tm:Ac):g70 tm=tmp tm 70:=A1 (show o70=Az (pathOf 70) by kernel_rfl) tm
theorem Bkf(v:Option EV)(tm:Ac):p70 v tm=tm.put 70 v:=A2 (show p70=Bx (pathOf 70) by kernel_rfl) v tm
theorem Bq7(w:Bool)(tm:Ac):Am o70 w tm=Ah (tmp tm 70) w:=Ak (show o70=Az (pathOf 70) by kernel_rfl) w tm
def o71:Ac->Option EV:=Tr.Be (Tr.Be (Tr.Be (Tr.Bm (Tr.Be (Tr.Be (Tr.top))))))
def g71:EF:=gO o71
def p71:PF:=Tr.Ao (Tr.Ao (Tr.Ao (Tr.Au (Tr.Ao (Tr.Ao (Tr.A0))))))
theorem Bpb(tm:Ac):g71 tm=tmp tm 71:=A1 (show o71=Az (pathOf 71) by kernel_rfl) tm
theorem Bkx(v:Option EV)(tm:Ac):p71 v tm=tm.put 71 v:=A2 (show p71=Bx (pathOf 71) by kernel_rfl) v tm
theorem Bqk(w:Bool)(tm:Ac):Am o71 w tm=Ah (tmp tm 71) w:=Ak (show o71=Az (pathOf 71) by kernel_rfl) w tm
def o72:Ac->Option EV:=Tr.Bm (Tr.Be (Tr.Be (Tr.Bm (Tr.Be (Tr.Be (Tr.top))))))
def g72:EF:=gO o72
def p72:PF:=Tr.Au (Tr.Ao (Tr.Ao (Tr.Au (Tr.Ao (Tr.Ao (Tr.A0))))))
theorem Bi5(tm:Ac):g72 tm=tmp tm 72:=A1 (show o72=Az (pathOf 72) by kernel_rfl) tm
theorem Bpz(v:Option EV)(tm:Ac):p72 v tm=tm.put 72 v:=A2 (show p72=Bx (pathOf 72) by kernel_rfl) v tm
theorem Bmj(w:Bool)(tm:Ac):Am o72 w tm=Ah (tmp tm 72) w:=Ak (show o72=Az (pathOf 72) by kernel_rfl) w tm
def o73:Ac->Option EV:=Tr.Be (Tr.Bm (Tr.Be (Tr.Bm (Tr.Be (Tr.Be (Tr.top))))))
def g73:EF:=gO o73
def p73:PF:=Tr.Ao (Tr.Au (Tr.Ao (Tr.Au (Tr.Ao (Tr.Ao (Tr.A0))))))
theorem Bkn(tm:Ac):g73 tm=tmp tm 73:=A1 (show o73=Az (pathOf 73) by kernel_rfl) tm
theorem Bof(v:Option EV)(tm:Ac):p73 v tm=tm.put 73 v:=A2 (show p73=Bx (pathOf 73) by kernel_rfl) v tm
theorem Bkt(w:Bool)(tm:Ac):Am o73 w tm=Ah (tmp tm 73) w:=Ak (show o73=Az (pathOf 73) by kernel_rfl) w tm
def o74:Ac->Option EV:=Tr.Bm (Tr.Bm (Tr.Be (Tr.Bm (Tr.Be (Tr.Be (Tr.top))))))
def g74:EF:=gO o74
def p74:PF:=Tr.Au (Tr.Au (Tr.Ao (Tr.Au (Tr.Ao (Tr.Ao (Tr.A0))))))
theorem Bqv(tm:Ac):g74 tm=tmp tm 74:=A1 (show o74=Az (pathOf 74) by kernel_rfl) tm
theorem Bln(v:Option EV)(tm:Ac):p74 v tm=tm.put 74 v:=A2 (show p74=Bx (pathOf 74) by kernel_rfl) v tm
theorem Bl2(w:Bool)(tm:Ac):Am o74 w tm=Ah (tmp tm 74) w:=Ak (show o74=Az (pathOf 74) by kernel_rfl) w tm
def o75:Ac->Option EV:=Tr.Be (Tr.Be (Tr.Bm (Tr.Bm (Tr.Be (Tr.Be (Tr.top))))))
def g75:EF:=gO o75
def p75:PF:=Tr.Ao (Tr.Ao (Tr.Au (Tr.Au (Tr.Ao (Tr.Ao (Tr.A0))))))
theorem Bq9(tm:Ac):g75 tm=tmp tm 75:=A1 (show o75=Az (pathOf 75) by kernel_rfl) tm
theorem Blg(v:Option EV)(tm:Ac):p75 v tm=tm.put 75 v:=A2 (show p75=Bx (pathOf 75) by kernel_rfl) v tm
theorem Bp2(w:Bool)(tm:Ac):Am o75 w tm=Ah (tmp tm 75) w:=Ak (show o75=Az (pathOf 75) by kernel_rfl) w tm
def o76:Ac->Option EV:=Tr.Bm (Tr.Be (Tr.Bm (Tr.Bm (Tr.Be (Tr.Be (Tr.top))))))
def g76:EF:=gO o76
def p76:PF:=Tr.Au (Tr.Ao (Tr.Au (Tr.Au (Tr.Ao (Tr.Ao (Tr.A0))))))
theorem Bo0(tm:Ac):g76 tm=tmp tm 76:=A1 (show o76=Az (pathOf 76) by kernel_rfl) tm
theorem Bn7(v:Option EV)(tm:Ac):p76 v tm=tm.put 76 v:=A2 (show p76=Bx (pathOf 76) by kernel_rfl) v tm
theorem Bmh(w:Bool)(tm:Ac):Am o76 w tm=Ah (tmp tm 76) w:=Ak (show o76=Az (pathOf 76) by kernel_rfl) w tm
def o77:Ac->Option EV:=Tr.Be (Tr.Bm (Tr.Bm (Tr.Bm (Tr.Be (Tr.Be (Tr.top))))))
def g77:EF:=gO o77
def p77:PF:=Tr.Ao (Tr.Au (Tr.Au (Tr.Au (Tr.Ao (Tr.Ao (Tr.A0))))))
theorem Bls(tm:Ac):g77 tm=tmp tm 77:=A1 (show o77=Az (pathOf 77) by kernel_rfl) tm
theorem Bm7(v:Option EV)(tm:Ac):p77 v tm=tm.put 77 v:=A2 (show p77=Bx (pathOf 77) by kernel_rfl) v tm
theorem Bn9(w:Bool)(tm:Ac):Am o77 w tm=Ah (tmp tm 77) w:=Ak (show o77=Az (pathOf 77) by kernel_rfl) w tm
def o78:Ac->Option EV:=Tr.Bm (Tr.Bm (Tr.Bm (Tr.Bm (Tr.Be (Tr.Be (Tr.top))))))
def g78:EF:=gO o78
def p78:PF:=Tr.Au (Tr.Au (Tr.Au (Tr.Au (Tr.Ao (Tr.Ao (Tr.A0))))))
theorem Bo7(tm:Ac):g78 tm=tmp tm 78:=A1 (show o78=Az (pathOf 78) by kernel_rfl) tm
theorem Bk0(v:Option EV)(tm:Ac):p78 v tm=tm.put 78 v:=A2 (show p78=Bx (pathOf 78) by kernel_rfl) v tm
theorem Bn2(w:Bool)(tm:Ac):Am o78 w tm=Ah (tmp tm 78) w:=Ak (show o78=Az (pathOf 78) by kernel_rfl) w tm
def o79:Ac->Option EV:=Tr.Be (Tr.Be (Tr.Be (Tr.Be (Tr.Bm (Tr.Be (Tr.top))))))
def g79:EF:=gO o79
def p79:PF:=Tr.Ao (Tr.Ao (Tr.Ao (Tr.Ao (Tr.Au (Tr.Ao (Tr.A0))))))
theorem Bms(tm:Ac):g79 tm=tmp tm 79:=A1 (show o79=Az (pathOf 79) by kernel_rfl) tm
theorem Bk2(v:Option EV)(tm:Ac):p79 v tm=tm.put 79 v:=A2 (show p79=Bx (pathOf 79) by kernel_rfl) v tm
theorem Bqh(w:Bool)(tm:Ac):Am o79 w tm=Ah (tmp tm 79) w:=Ak (show o79=Az (pathOf 79) by kernel_rfl) w tm
def o80:Ac->Option EV:=Tr.Bm (Tr.Be (Tr.Be (Tr.Be (Tr.Bm (Tr.Be (Tr.top))))))
def g80:EF:=gO o80
def p80:PF:=Tr.Au (Tr.Ao (Tr.Ao (Tr.Ao (Tr.Au (Tr.Ao (Tr.A0))))))
theorem Bo1(tm:Ac):g80 tm=tmp tm 80:=A1 (show o80=Az (pathOf 80) by kernel_rfl) tm
theorem Blk(v:Option EV)(tm:Ac):p80 v tm=tm.put 80 v:=A2 (show p80=Bx (pathOf 80) by kernel_rfl) v tm
theorem Bi2(w:Bool)(tm:Ac):Am o80 w tm=Ah (tmp tm 80) w:=Ak (show o80=Az (pathOf 80) by kernel_rfl) w tm
def o81:Ac->Option EV:=Tr.Be (Tr.Bm (Tr.Be (Tr.Be (Tr.Bm (Tr.Be (Tr.top))))))
def g81:EF:=gO o81
def p81:PF:=Tr.Ao (Tr.Au (Tr.Ao (Tr.Ao (Tr.Au (Tr.Ao (Tr.A0))))))
theorem Bqu(tm:Ac):g81 tm=tmp tm 81:=A1 (show o81=Az (pathOf 81) by kernel_rfl) tm
theorem Blo(v:Option EV)(tm:Ac):p81 v tm=tm.put 81 v:=A2 (show p81=Bx (pathOf 81) by kernel_rfl) v tm
theorem Blp(w:Bool)(tm:Ac):Am o81 w tm=Ah (tmp tm 81) w:=Ak (show o81=Az (pathOf 81) by kernel_rfl) w tm
def o82:Ac->Option EV:=Tr.Bm (Tr.Bm (Tr.Be (Tr.Be (Tr.Bm (Tr.Be (Tr.top))))))
def g82:EF:=gO o82
def p82:PF:=Tr.Au (Tr.Au (Tr.Ao (Tr.Ao (Tr.Au (Tr.Ao (Tr.A0))))))
theorem Bmn(tm:Ac):g82 tm=tmp tm 82:=A1 (show o82=Az (pathOf 82) by kernel_rfl) tm
theorem Bqd(v:Option EV)(tm:Ac):p82 v tm=tm.put 82 v:=A2 (show p82=Bx (pathOf 82) by kernel_rfl) v tm
theorem Bl6(w:Bool)(tm:Ac):Am o82 w tm=Ah (tmp tm 82) w:=Ak (show o82=Az (pathOf 82) by kernel_rfl) w tm
def o83:Ac->Option EV:=Tr.Be (Tr.Be (Tr.Bm (Tr.Be (Tr.Bm (Tr.Be (Tr.top))))))
def g83:EF:=gO o83
def p83:PF:=Tr.Ao (Tr.Ao (Tr.Au (Tr.Ao (Tr.Au (Tr.Ao (Tr.A0))))))
theorem Bpi(tm:Ac):g83 tm=tmp tm 83:=A1 (show o83=Az (pathOf 83) by kernel_rfl) tm
theorem Bmz(v:Option EV)(tm:Ac):p83 v tm=tm.put 83 v:=A2 (show p83=Bx (pathOf 83) by kernel_rfl) v tm
theorem Bmq(w:Bool)(tm:Ac):Am o83 w tm=Ah (tmp tm 83) w:=Ak (show o83=Az (pathOf 83) by kernel_rfl) w tm
def o84:Ac->Option EV:=Tr.Bm (Tr.Be (Tr.Bm (Tr.Be (Tr.Bm (Tr.Be (Tr.top))))))
def g84:EF:=gO o84
def p84:PF:=Tr.Au (Tr.Ao (Tr.Au (Tr.Ao (Tr.Au (Tr.Ao (Tr.A0))))))
theorem Bl7(tm:Ac):g84 tm=tmp tm 84:=A1 (show o84=Az (pathOf 84) by kernel_rfl) tm
theorem Bqi(v:Option EV)(tm:Ac):p84 v tm=tm.put 84 v:=A2 (show p84=Bx (pathOf 84) by kernel_rfl) v tm
theorem Blm(w:Bool)(tm:Ac):Am o84 w tm=Ah (tmp tm 84) w:=Ak (show o84=Az (pathOf 84) by kernel_rfl) w tm
def o85:Ac->Option EV:=Tr.Be (Tr.Bm (Tr.Bm (Tr.Be (Tr.Bm (Tr.Be (Tr.top))))))
def g85:EF:=gO o85
def p85:PF:=Tr.Ao (Tr.Au (Tr.Au (Tr.Ao (Tr.Au (Tr.Ao (Tr.A0))))))
theorem Boj(tm:Ac):g85 tm=tmp tm 85:=A1 (show o85=Az (pathOf 85) by kernel_rfl) tm
theorem Bo2(v:Option EV)(tm:Ac):p85 v tm=tm.put 85 v:=A2 (show p85=Bx (pathOf 85) by kernel_rfl) v tm
theorem Bnf(w:Bool)(tm:Ac):Am o85 w tm=Ah (tmp tm 85) w:=Ak (show o85=Az (pathOf 85) by kernel_rfl) w tm
def o86:Ac->Option EV:=Tr.Bm (Tr.Bm (Tr.Bm (Tr.Be (Tr.Bm (Tr.Be (Tr.top))))))
def g86:EF:=gO o86
def p86:PF:=Tr.Au (Tr.Au (Tr.Au (Tr.Ao (Tr.Au (Tr.Ao (Tr.A0))))))
theorem Bm2(tm:Ac):g86 tm=tmp tm 86:=A1 (show o86=Az (pathOf 86) by kernel_rfl) tm
theorem Bj4(v:Option EV)(tm:Ac):p86 v tm=tm.put 86 v:=A2 (show p86=Bx (pathOf 86) by kernel_rfl) v tm
theorem Bqz(w:Bool)(tm:Ac):Am o86 w tm=Ah (tmp tm 86) w:=Ak (show o86=Az (pathOf 86) by kernel_rfl) w tm
def o87:Ac->Option EV:=Tr.Be (Tr.Be (Tr.Be (Tr.Bm (Tr.Bm (Tr.Be (Tr.top))))))
def g87:EF:=gO o87
def p87:PF:=Tr.Ao (Tr.Ao (Tr.Ao (Tr.Au (Tr.Au (Tr.Ao (Tr.A0))))))
theorem Blv(tm:Ac):g87 tm=tmp tm 87:=A1 (show o87=Az (pathOf 87) by kernel_rfl) tm
theorem Bmd(v:Option EV)(tm:Ac):p87 v tm=tm.put 87 v:=A2 (show p87=Bx (pathOf 87) by kernel_rfl) v tm
theorem Bj3(w:Bool)(tm:Ac):Am o87 w tm=Ah (tmp tm 87) w:=Ak (show o87=Az (pathOf 87) by kernel_rfl) w tm
def o88:Ac->Option EV:=Tr.Bm (Tr.Be (Tr.Be (Tr.Bm (Tr.Bm (Tr.Be (Tr.top))))))
def g88:EF:=gO o88
def p88:PF:=Tr.Au (Tr.Ao (Tr.Ao (Tr.Au (Tr.Au (Tr.Ao (Tr.A0))))))
theorem Bnp(tm:Ac):g88 tm=tmp tm 88:=A1 (show o88=Az (pathOf 88) by kernel_rfl) tm
theorem Bi6(v:Option EV)(tm:Ac):p88 v tm=tm.put 88 v:=A2 (show p88=Bx (pathOf 88) by kernel_rfl) v tm
theorem Bmm(w:Bool)(tm:Ac):Am o88 w tm=Ah (tmp tm 88) w:=Ak (show o88=Az (pathOf 88) by kernel_rfl) w tm
def o89:Ac->Option EV:=Tr.Be (Tr.Bm (Tr.Be (Tr.Bm (Tr.Bm (Tr.Be (Tr.top))))))
def g89:EF:=gO o89
def p89:PF:=Tr.Ao (Tr.Au (Tr.Ao (Tr.Au (Tr.Au (Tr.Ao (Tr.A0))))))
theorem Bjl(tm:Ac):g89 tm=tmp tm 89:=A1 (show o89=Az (pathOf 89) by kernel_rfl) tm
theorem Box(v:Option EV)(tm:Ac):p89 v tm=tm.put 89 v:=A2 (show p89=Bx (pathOf 89) by kernel_rfl) v tm
theorem Bnx(w:Bool)(tm:Ac):Am o89 w tm=Ah (tmp tm 89) w:=Ak (show o89=Az (pathOf 89) by kernel_rfl) w tm
def o90:Ac->Option EV:=Tr.Bm (Tr.Bm (Tr.Be (Tr.Bm (Tr.Bm (Tr.Be (Tr.top))))))
def g90:EF:=gO o90
def p90:PF:=Tr.Au (Tr.Au (Tr.Ao (Tr.Au (Tr.Au (Tr.Ao (Tr.A0))))))
theorem Bnm(tm:Ac):g90 tm=tmp tm 90:=A1 (show o90=Az (pathOf 90) by kernel_rfl) tm
theorem Bjf(v:Option EV)(tm:Ac):p90 v tm=tm.put 90 v:=A2 (show p90=Bx (pathOf 90) by kernel_rfl) v tm
theorem Bkg(w:Bool)(tm:Ac):Am o90 w tm=Ah (tmp tm 90) w:=Ak (show o90=Az (pathOf 90) by kernel_rfl) w tm
def o91:Ac->Option EV:=Tr.Be (Tr.Be (Tr.Bm (Tr.Bm (Tr.Bm (Tr.Be (Tr.top))))))
def g91:EF:=gO o91
def p91:PF:=Tr.Ao (Tr.Ao (Tr.Au (Tr.Au (Tr.Au (Tr.Ao (Tr.A0))))))
theorem Blw(tm:Ac):g91 tm=tmp tm 91:=A1 (show o91=Az (pathOf 91) by kernel_rfl) tm
theorem Bpy(v:Option EV)(tm:Ac):p91 v tm=tm.put 91 v:=A2 (show p91=Bx (pathOf 91) by kernel_rfl) v tm
theorem Bq4(w:Bool)(tm:Ac):Am o91 w tm=Ah (tmp tm 91) w:=Ak (show o91=Az (pathOf 91) by kernel_rfl) w tm
def o92:Ac->Option EV:=Tr.Bm (Tr.Be (Tr.Bm (Tr.Bm (Tr.Bm (Tr.Be (Tr.top))))))
def g92:EF:=gO o92
def p92:PF:=Tr.Au (Tr.Ao (Tr.Au (Tr.Au (Tr.Au (Tr.Ao (Tr.A0))))))
theorem Bnc(tm:Ac):g92 tm=tmp tm 92:=A1 (show o92=Az (pathOf 92) by kernel_rfl) tm
theorem Bp3(v:Option EV)(tm:Ac):p92 v tm=tm.put 92 v:=A2 (show p92=Bx (pathOf 92) by kernel_rfl) v tm
theorem Bkm(w:Bool)(tm:Ac):Am o92 w tm=Ah (tmp tm 92) w:=Ak (show o92=Az (pathOf 92) by kernel_rfl) w tm
def o93:Ac->Option EV:=Tr.Be (Tr.Bm (Tr.Bm (Tr.Bm (Tr.Bm (Tr.Be (Tr.top))))))
def g93:EF:=gO o93
def p93:PF:=Tr.Ao (Tr.Au (Tr.Au (Tr.Au (Tr.Au (Tr.Ao (Tr.A0))))))
theorem Bkd(tm:Ac):g93 tm=tmp tm 93:=A1 (show o93=Az (pathOf 93) by kernel_rfl) tm
theorem Bi1(v:Option EV)(tm:Ac):p93 v tm=tm.put 93 v:=A2 (show p93=Bx (pathOf 93) by kernel_rfl) v tm
theorem Bl8(w:Bool)(tm:Ac):Am o93 w tm=Ah (tmp tm 93) w:=Ak (show o93=Az (pathOf 93) by kernel_rfl) w tm
def o94:Ac->Option EV:=Tr.Bm (Tr.Bm (Tr.Bm (Tr.Bm (Tr.Bm (Tr.Be (Tr.top))))))
def g94:EF:=gO o94
def p94:PF:=Tr.Au (Tr.Au (Tr.Au (Tr.Au (Tr.Au (Tr.Ao (Tr.A0))))))
theorem Bop(tm:Ac):g94 tm=tmp tm 94:=A1 (show o94=Az (pathOf 94) by kernel_rfl) tm
theorem Bkp(v:Option EV)(tm:Ac):p94 v tm=tm.put 94 v:=A2 (show p94=Bx (pathOf 94) by kernel_rfl) v tm
theorem Bm4(w:Bool)(tm:Ac):Am o94 w tm=Ah (tmp tm 94) w:=Ak (show o94=Az (pathOf 94) by kernel_rfl) w tm
def o95:Ac->Option EV:=Tr.Be (Tr.Be (Tr.Be (Tr.Be (Tr.Be (Tr.Bm (Tr.top))))))
def g95:EF:=gO o95
def p95:PF:=Tr.Ao (Tr.Ao (Tr.Ao (Tr.Ao (Tr.Ao (Tr.Au (Tr.A0))))))
theorem Bj2(tm:Ac):g95 tm=tmp tm 95:=A1 (show o95=Az (pathOf 95) by kernel_rfl) tm
theorem Bo8(v:Option EV)(tm:Ac):p95 v tm=tm.put 95 v:=A2 (show p95=Bx (pathOf 95) by kernel_rfl) v tm
theorem Bmw(w:Bool)(tm:Ac):Am o95 w tm=Ah (tmp tm 95) w:=Ak (show o95=Az (pathOf 95) by kernel_rfl) w tm
def o96:Ac->Option EV:=Tr.Bm (Tr.Be (Tr.Be (Tr.Be (Tr.Be (Tr.Bm (Tr.top))))))
def g96:EF:=gO o96
def p96:PF:=Tr.Au (Tr.Ao (Tr.Ao (Tr.Ao (Tr.Ao (Tr.Au (Tr.A0))))))
theorem Boh(tm:Ac):g96 tm=tmp tm 96:=A1 (show o96=Az (pathOf 96) by kernel_rfl) tm
theorem Bp5(v:Option EV)(tm:Ac):p96 v tm=tm.put 96 v:=A2 (show p96=Bx (pathOf 96) by kernel_rfl) v tm
theorem Bj8(w:Bool)(tm:Ac):Am o96 w tm=Ah (tmp tm 96) w:=Ak (show o96=Az (pathOf 96) by kernel_rfl) w tm
def o97:Ac->Option EV:=Tr.Be (Tr.Bm (Tr.Be (Tr.Be (Tr.Be (Tr.Bm (Tr.top))))))
def g97:EF:=gO o97
def p97:PF:=Tr.Ao (Tr.Au (Tr.Ao (Tr.Ao (Tr.Ao (Tr.Au (Tr.A0))))))
theorem Bnb(tm:Ac):g97 tm=tmp tm 97:=A1 (show o97=Az (pathOf 97) by kernel_rfl) tm
theorem Boz(v:Option EV)(tm:Ac):p97 v tm=tm.put 97 v:=A2 (show p97=Bx (pathOf 97) by kernel_rfl) v tm
theorem Bl9(w:Bool)(tm:Ac):Am o97 w tm=Ah (tmp tm 97) w:=Ak (show o97=Az (pathOf 97) by kernel_rfl) w tm
def o98:Ac->Option EV:=Tr.Bm (Tr.Bm (Tr.Be (Tr.Be (Tr.Be (Tr.Bm (Tr.top))))))
def g98:EF:=gO o98
def p98:PF:=Tr.Au (Tr.Au (Tr.Ao (Tr.Ao (Tr.Ao (Tr.Au (Tr.A0))))))
theorem Bjz(tm:Ac):g98 tm=tmp tm 98:=A1 (show o98=Az (pathOf 98) by kernel_rfl) tm
theorem Bq8(v:Option EV)(tm:Ac):p98 v tm=tm.put 98 v:=A2 (show p98=Bx (pathOf 98) by kernel_rfl) v tm
theorem Bjy(w:Bool)(tm:Ac):Am o98 w tm=Ah (tmp tm 98) w:=Ak (show o98=Az (pathOf 98) by kernel_rfl) w tm
def o99:Ac->Option EV:=Tr.Be (Tr.Be (Tr.Bm (Tr.Be (Tr.Be (Tr.Bm (Tr.top))))))
def g99:EF:=gO o99
def p99:PF:=Tr.Ao (Tr.Ao (Tr.Au (Tr.Ao (Tr.Ao (Tr.Au (Tr.A0))))))
theorem Bmk(tm:Ac):g99 tm=tmp tm 99:=A1 (show o99=Az (pathOf 99) by kernel_rfl) tm
theorem Bjh(v:Option EV)(tm:Ac):p99 v tm=tm.put 99 v:=A2 (show p99=Bx (pathOf 99) by kernel_rfl) v tm
theorem Bqm(w:Bool)(tm:Ac):Am o99 w tm=Ah (tmp tm 99) w:=Ak (show o99=Az (pathOf 99) by kernel_rfl) w tm
def A3k:Ac->Option EV:=Tr.Bm (Tr.Be (Tr.Bm (Tr.Be (Tr.Be (Tr.Bm (Tr.top))))))
def Bip:EF:=gO A3k
def Bba:PF:=Tr.Au (Tr.Ao (Tr.Au (Tr.Ao (Tr.Ao (Tr.Au (Tr.A0))))))
theorem Bdz(tm:Ac):Bip tm=tmp tm 100:=A1 (show A3k=Az (pathOf 100) by kernel_rfl) tm
theorem Bhj(v:Option EV)(tm:Ac):Bba v tm=tm.put 100 v:=A2 (show Bba=Bx (pathOf 100) by kernel_rfl) v tm
theorem Bgf(w:Bool)(tm:Ac):Am A3k w tm=Ah (tmp tm 100) w:=Ak (show A3k=Az (pathOf 100) by kernel_rfl) w tm
def A8d:Ac->Option EV:=Tr.Be (Tr.Bm (Tr.Bm (Tr.Be (Tr.Be (Tr.Bm (Tr.top))))))
def Bie:EF:=gO A8d
def A6q:PF:=Tr.Ao (Tr.Au (Tr.Au (Tr.Ao (Tr.Ao (Tr.Au (Tr.A0))))))
theorem Bfr(tm:Ac):Bie tm=tmp tm 101:=A1 (show A8d=Az (pathOf 101) by kernel_rfl) tm
theorem Bgj(v:Option EV)(tm:Ac):A6q v tm=tm.put 101 v:=A2 (show A6q=Bx (pathOf 101) by kernel_rfl) v tm
theorem Bfs(w:Bool)(tm:Ac):Am A8d w tm=Ah (tmp tm 101) w:=Ak (show A8d=Az (pathOf 101) by kernel_rfl) w tm
def A6h:Ac->Option EV:=Tr.Bm (Tr.Bm (Tr.Bm (Tr.Be (Tr.Be (Tr.Bm (Tr.top))))))
def Beq:EF:=gO A6h
def A7r:PF:=Tr.Au (Tr.Au (Tr.Au (Tr.Ao (Tr.Ao (Tr.Au (Tr.A0))))))
theorem Be3(tm:Ac):Beq tm=tmp tm 102:=A1 (show A6h=Az (pathOf 102) by kernel_rfl) tm
theorem Bey(v:Option EV)(tm:Ac):A7r v tm=tm.put 102 v:=A2 (show A7r=Bx (pathOf 102) by kernel_rfl) v tm
theorem Bf6(w:Bool)(tm:Ac):Am A6h w tm=Ah (tmp tm 102) w:=Ak (show A6h=Az (pathOf 102) by kernel_rfl) w tm
def Bad:Ac->Option EV:=Tr.Be (Tr.Be (Tr.Be (Tr.Bm (Tr.Be (Tr.Bm (Tr.top))))))
def Bic:EF:=gO Bad
def A79:PF:=Tr.Ao (Tr.Ao (Tr.Ao (Tr.Au (Tr.Ao (Tr.Au (Tr.A0))))))
theorem Bdu(tm:Ac):Bic tm=tmp tm 103:=A1 (show Bad=Az (pathOf 103) by kernel_rfl) tm
theorem Bgo(v:Option EV)(tm:Ac):A79 v tm=tm.put 103 v:=A2 (show A79=Bx (pathOf 103) by kernel_rfl) v tm
theorem Bhw(w:Bool)(tm:Ac):Am Bad w tm=Ah (tmp tm 103) w:=Ak (show Bad=Az (pathOf 103) by kernel_rfl) w tm
def A84:Ac->Option EV:=Tr.Bm (Tr.Be (Tr.Be (Tr.Bm (Tr.Be (Tr.Bm (Tr.top))))))
def Biy:EF:=gO A84
def A7n:PF:=Tr.Au (Tr.Ao (Tr.Ao (Tr.Au (Tr.Ao (Tr.Au (Tr.A0))))))
theorem Bea(tm:Ac):Biy tm=tmp tm 104:=A1 (show A84=Az (pathOf 104) by kernel_rfl) tm
theorem Bho(v:Option EV)(tm:Ac):A7n v tm=tm.put 104 v:=A2 (show A7n=Bx (pathOf 104) by kernel_rfl) v tm
theorem Bhl(w:Bool)(tm:Ac):Am A84 w tm=Ah (tmp tm 104) w:=Ak (show A84=Az (pathOf 104) by kernel_rfl) w tm
def A51:Ac->Option EV:=Tr.Be (Tr.Bm (Tr.Be (Tr.Bm (Tr.Be (Tr.Bm (Tr.top))))))
def Be6:EF:=gO A51
def Bav:PF:=Tr.Ao (Tr.Au (Tr.Ao (Tr.Au (Tr.Ao (Tr.Au (Tr.A0))))))
theorem Bgx(tm:Ac):Be6 tm=tmp tm 105:=A1 (show A51=Az (pathOf 105) by kernel_rfl) tm
theorem Bd9(v:Option EV)(tm:Ac):Bav v tm=tm.put 105 v:=A2 (show Bav=Bx (pathOf 105) by kernel_rfl) v tm
theorem Bis(w:Bool)(tm:Ac):Am A51 w tm=Ah (tmp tm 105) w:=Ak (show A51=Az (pathOf 105) by kernel_rfl) w tm
def A7q:Ac->Option EV:=Tr.Bm (Tr.Bm (Tr.Be (Tr.Bm (Tr.Be (Tr.Bm (Tr.top))))))
def Bhq:EF:=gO A7q
def Ba9:PF:=Tr.Au (Tr.Au (Tr.Ao (Tr.Au (Tr.Ao (Tr.Au (Tr.A0))))))
theorem Bix(tm:Ac):Bhq tm=tmp tm 106:=A1 (show A7q=Az (pathOf 106) by kernel_rfl) tm
theorem Bgd(v:Option EV)(tm:Ac):Ba9 v tm=tm.put 106 v:=A2 (show Ba9=Bx (pathOf 106) by kernel_rfl) v tm
theorem Bdx(w:Bool)(tm:Ac):Am A7q w tm=Ah (tmp tm 106) w:=Ak (show A7q=Az (pathOf 106) by kernel_rfl) w tm
def A81:Ac->Option EV:=Tr.Be (Tr.Be (Tr.Bm (Tr.Bm (Tr.Be (Tr.Bm (Tr.top))))))
def Bej:EF:=gO A81
def Bb3:PF:=Tr.Ao (Tr.Ao (Tr.Au (Tr.Au (Tr.Ao (Tr.Au (Tr.A0))))))
theorem Bfk(tm:Ac):Bej tm=tmp tm 107:=A1 (show A81=Az (pathOf 107) by kernel_rfl) tm
theorem Bf3(v:Option EV)(tm:Ac):Bb3 v tm=tm.put 107 v:=A2 (show Bb3=Bx (pathOf 107) by kernel_rfl) v tm
theorem Biz(w:Bool)(tm:Ac):Am A81 w tm=Ah (tmp tm 107) w:=Ak (show A81=Az (pathOf 107) by kernel_rfl) w tm
def Bae:Ac->Option EV:=Tr.Bm (Tr.Be (Tr.Bm (Tr.Bm (Tr.Be (Tr.Bm (Tr.top))))))
def Bh7:EF:=gO Bae
def Bc8:PF:=Tr.Au (Tr.Ao (Tr.Au (Tr.Au (Tr.Ao (Tr.Au (Tr.A0))))))
theorem Be0(tm:Ac):Bh7 tm=tmp tm 108:=A1 (show Bae=Az (pathOf 108) by kernel_rfl) tm
theorem Bhn(v:Option EV)(tm:Ac):Bc8 v tm=tm.put 108 v:=A2 (show Bc8=Bx (pathOf 108) by kernel_rfl) v tm
theorem Bf9(w:Bool)(tm:Ac):Am Bae w tm=Ah (tmp tm 108) w:=Ak (show Bae=Az (pathOf 108) by kernel_rfl) w tm
def A6r:Ac->Option EV:=Tr.Be (Tr.Bm (Tr.Bm (Tr.Bm (Tr.Be (Tr.Bm (Tr.top))))))
def Bhc:EF:=gO A6r
def Bbj:PF:=Tr.Ao (Tr.Au (Tr.Au (Tr.Au (Tr.Ao (Tr.Au (Tr.A0))))))
theorem Be9(tm:Ac):Bhc tm=tmp tm 109:=A1 (show A6r=Az (pathOf 109) by kernel_rfl) tm
theorem Bg9(v:Option EV)(tm:Ac):Bbj v tm=tm.put 109 v:=A2 (show Bbj=Bx (pathOf 109) by kernel_rfl) v tm
theorem Ben(w:Bool)(tm:Ac):Am A6r w tm=Ah (tmp tm 109) w:=Ak (show A6r=Az (pathOf 109) by kernel_rfl) w tm
def A5y:Ac->Option EV:=Tr.Bm (Tr.Bm (Tr.Bm (Tr.Bm (Tr.Be (Tr.Bm (Tr.top))))))
def Bqp:EF:=gO A5y
def Bcm:PF:=Tr.Au (Tr.Au (Tr.Au (Tr.Au (Tr.Ao (Tr.Au (Tr.A0))))))
theorem Be8(tm:Ac):Bqp tm=tmp tm 110:=A1 (show A5y=Az (pathOf 110) by kernel_rfl) tm
theorem Bfu(v:Option EV)(tm:Ac):Bcm v tm=tm.put 110 v:=A2 (show Bcm=Bx (pathOf 110) by kernel_rfl) v tm
theorem Bgu(w:Bool)(tm:Ac):Am A5y w tm=Ah (tmp tm 110) w:=Ak (show A5y=Az (pathOf 110) by kernel_rfl) w tm
def A6v:Ac->Option EV:=Tr.Be (Tr.Be (Tr.Be (Tr.Be (Tr.Bm (Tr.Bm (Tr.top))))))
def Bet:EF:=gO A6v
def Bgy:PF:=Tr.Ao (Tr.Ao (Tr.Ao (Tr.Ao (Tr.Au (Tr.Au (Tr.A0))))))
theorem Bfg(tm:Ac):Bet tm=tmp tm 111:=A1 (show A6v=Az (pathOf 111) by kernel_rfl) tm
theorem Bex(v:Option EV)(tm:Ac):Bgy v tm=tm.put 111 v:=A2 (show Bgy=Bx (pathOf 111) by kernel_rfl) v tm
theorem Bhr(w:Bool)(tm:Ac):Am A6v w tm=Ah (tmp tm 111) w:=Ak (show A6v=Az (pathOf 111) by kernel_rfl) w tm
def A83:Ac->Option EV:=Tr.Bm (Tr.Be (Tr.Be (Tr.Be (Tr.Bm (Tr.Bm (Tr.top))))))
def Bei:EF:=gO A83
def Bas:PF:=Tr.Au (Tr.Ao (Tr.Ao (Tr.Ao (Tr.Au (Tr.Au (Tr.A0))))))
theorem Bgb(tm:Ac):Bei tm=tmp tm 112:=A1 (show A83=Az (pathOf 112) by kernel_rfl) tm
theorem Bep(v:Option EV)(tm:Ac):Bas v tm=tm.put 112 v:=A2 (show Bas=Bx (pathOf 112) by kernel_rfl) v tm
theorem Bfv(w:Bool)(tm:Ac):Am A83 w tm=Ah (tmp tm 112) w:=Ak (show A83=Az (pathOf 112) by kernel_rfl) w tm
def A6p:Ac->Option EV:=Tr.Be (Tr.Bm (Tr.Be (Tr.Be (Tr.Bm (Tr.Bm (Tr.top))))))
def Bgi:EF:=gO A6p
def Bb1:PF:=Tr.Ao (Tr.Au (Tr.Ao (Tr.Ao (Tr.Au (Tr.Au (Tr.A0))))))
theorem Bgw(tm:Ac):Bgi tm=tmp tm 113:=A1 (show A6p=Az (pathOf 113) by kernel_rfl) tm
theorem Bhz(v:Option EV)(tm:Ac):Bb1 v tm=tm.put 113 v:=A2 (show Bb1=Bx (pathOf 113) by kernel_rfl) v tm
theorem Bdv(w:Bool)(tm:Ac):Am A6p w tm=Ah (tmp tm 113) w:=Ak (show A6p=Az (pathOf 113) by kernel_rfl) w tm
def A9f:Ac->Option EV:=Tr.Bm (Tr.Bm (Tr.Be (Tr.Be (Tr.Bm (Tr.Bm (Tr.top))))))
def Biu:EF:=gO A9f
def Bbx:PF:=Tr.Au (Tr.Au (Tr.Ao (Tr.Ao (Tr.Au (Tr.Au (Tr.A0))))))
theorem Bd4(tm:Ac):Biu tm=tmp tm 114:=A1 (show A9f=Az (pathOf 114) by kernel_rfl) tm
theorem Bh4(v:Option EV)(tm:Ac):Bbx v tm=tm.put 114 v:=A2 (show Bbx=Bx (pathOf 114) by kernel_rfl) v tm
theorem Bf4(w:Bool)(tm:Ac):Am A9f w tm=Ah (tmp tm 114) w:=Ak (show A9f=Az (pathOf 114) by kernel_rfl) w tm
def A6s:Ac->Option EV:=Tr.Be (Tr.Be (Tr.Bm (Tr.Be (Tr.Bm (Tr.Bm (Tr.top))))))
def Bge:EF:=gO A6s
def Bcs:PF:=Tr.Ao (Tr.Ao (Tr.Au (Tr.Ao (Tr.Au (Tr.Au (Tr.A0))))))
theorem Be1(tm:Ac):Bge tm=tmp tm 115:=A1 (show A6s=Az (pathOf 115) by kernel_rfl) tm
theorem Bf1(v:Option EV)(tm:Ac):Bcs v tm=tm.put 115 v:=A2 (show Bcs=Bx (pathOf 115) by kernel_rfl) v tm
theorem Bh6(w:Bool)(tm:Ac):Am A6s w tm=Ah (tmp tm 115) w:=Ak (show A6s=Az (pathOf 115) by kernel_rfl) w tm
def A8e:Ac->Option EV:=Tr.Bm (Tr.Be (Tr.Bm (Tr.Be (Tr.Bm (Tr.Bm (Tr.top))))))
def Bhx:EF:=gO A8e
def Ba2:PF:=Tr.Au (Tr.Ao (Tr.Au (Tr.Ao (Tr.Au (Tr.Au (Tr.A0))))))
theorem Bhg(tm:Ac):Bhx tm=tmp tm 116:=A1 (show A8e=Az (pathOf 116) by kernel_rfl) tm
theorem Be2(v:Option EV)(tm:Ac):Ba2 v tm=tm.put 116 v:=A2 (show Ba2=Bx (pathOf 116) by kernel_rfl) v tm
theorem Bd8(w:Bool)(tm:Ac):Am A8e w tm=Ah (tmp tm 116) w:=Ak (show A8e=Az (pathOf 116) by kernel_rfl) w tm
def Az6:Ac->Option EV:=Tr.Be (Tr.Bm (Tr.Bm (Tr.Be (Tr.Bm (Tr.Bm (Tr.top))))))
def Bh9:EF:=gO Az6
def Bb6:PF:=Tr.Ao (Tr.Au (Tr.Au (Tr.Ao (Tr.Au (Tr.Au (Tr.A0))))))
theorem Bez(tm:Ac):Bh9 tm=tmp tm 117:=A1 (show Az6=Az (pathOf 117) by kernel_rfl) tm
theorem Bfd(v:Option EV)(tm:Ac):Bb6 v tm=tm.put 117 v:=A2 (show Bb6=Bx (pathOf 117) by kernel_rfl) v tm
theorem Beh(w:Bool)(tm:Ac):Am Az6 w tm=Ah (tmp tm 117) w:=Ak (show Az6=Az (pathOf 117) by kernel_rfl) w tm
def A82:Ac->Option EV:=Tr.Bm (Tr.Bm (Tr.Bm (Tr.Be (Tr.Bm (Tr.Bm (Tr.top))))))
def Bfi:EF:=gO A82
def Ban:PF:=Tr.Au (Tr.Au (Tr.Au (Tr.Ao (Tr.Au (Tr.Au (Tr.A0))))))
theorem Bfh(tm:Ac):Bfi tm=tmp tm 118:=A1 (show A82=Az (pathOf 118) by kernel_rfl) tm
theorem Bhp(v:Option EV)(tm:Ac):Ban v tm=tm.put 118 v:=A2 (show Ban=Bx (pathOf 118) by kernel_rfl) v tm
theorem Bgs(w:Bool)(tm:Ac):Am A82 w tm=Ah (tmp tm 118) w:=Ak (show A82=Az (pathOf 118) by kernel_rfl) w tm
def A6n:Ac->Option EV:=Tr.Be (Tr.Be (Tr.Be (Tr.Bm (Tr.Bm (Tr.Bm (Tr.top))))))
def Bg0:EF:=gO A6n
def A6w:PF:=Tr.Ao (Tr.Ao (Tr.Ao (Tr.Au (Tr.Au (Tr.Au (Tr.A0))))))
theorem Bht(tm:Ac):Bg0 tm=tmp tm 119:=A1 (show A6n=Az (pathOf 119) by kernel_rfl) tm
theorem Bf8(v:Option EV)(tm:Ac):A6w v tm=tm.put 119 v:=A2 (show A6w=Bx (pathOf 119) by kernel_rfl) v tm
theorem Bgz(w:Bool)(tm:Ac):Am A6n w tm=Ah (tmp tm 119) w:=Ak (show A6n=Az (pathOf 119) by kernel_rfl) w tm
def A8p:Ac->Option EV:=Tr.Bm (Tr.Be (Tr.Be (Tr.Bm (Tr.Bm (Tr.Bm (Tr.top))))))
def Bfj:EF:=gO A8p
def A7s:PF:=Tr.Au (Tr.Ao (Tr.Ao (Tr.Au (Tr.Au (Tr.Au (Tr.A0))))))
theorem Bgg(tm:Ac):Bfj tm=tmp tm 120:=A1 (show A8p=Az (pathOf 120) by kernel_rfl) tm
theorem Bia(v:Option EV)(tm:Ac):A7s v tm=tm.put 120 v:=A2 (show A7s=Bx (pathOf 120) by kernel_rfl) v tm
theorem Bii(w:Bool)(tm:Ac):Am A8p w tm=Ah (tmp tm 120) w:=Ak (show A8p=Az (pathOf 120) by kernel_rfl) w tm
def A71:Ac->Option EV:=Tr.Be (Tr.Bm (Tr.Be (Tr.Bm (Tr.Bm (Tr.Bm (Tr.top))))))
def Bfq:EF:=gO A71
def A6m:PF:=Tr.Ao (Tr.Au (Tr.Ao (Tr.Au (Tr.Au (Tr.Au (Tr.A0))))))
theorem Bfo(tm:Ac):Bfq tm=tmp tm 121:=A1 (show A71=Az (pathOf 121) by kernel_rfl) tm
theorem Bi0(v:Option EV)(tm:Ac):A6m v tm=tm.put 121 v:=A2 (show A6m=Bx (pathOf 121) by kernel_rfl) v tm
theorem Be7(w:Bool)(tm:Ac):Am A71 w tm=Ah (tmp tm 121) w:=Ak (show A71=Az (pathOf 121) by kernel_rfl) w tm
def A6g:Ac->Option EV:=Tr.Bm (Tr.Bm (Tr.Be (Tr.Bm (Tr.Bm (Tr.Bm (Tr.top))))))
def Bfm:EF:=gO A6g
def A98:PF:=Tr.Au (Tr.Au (Tr.Ao (Tr.Au (Tr.Au (Tr.Au (Tr.A0))))))
theorem Bhv(tm:Ac):Bfm tm=tmp tm 122:=A1 (show A6g=Az (pathOf 122) by kernel_rfl) tm
theorem Bev(v:Option EV)(tm:Ac):A98 v tm=tm.put 122 v:=A2 (show A98=Bx (pathOf 122) by kernel_rfl) v tm
theorem Bdw(w:Bool)(tm:Ac):Am A6g w tm=Ah (tmp tm 122) w:=Ak (show A6g=Az (pathOf 122) by kernel_rfl) w tm
def A40:Ac->Option EV:=Tr.Be (Tr.Be (Tr.Bm (Tr.Bm (Tr.Bm (Tr.Bm (Tr.top))))))
def Bhu:EF:=gO A40
def A9d:PF:=Tr.Ao (Tr.Ao (Tr.Au (Tr.Au (Tr.Au (Tr.Au (Tr.A0))))))
theorem Bfc(tm:Ac):Bhu tm=tmp tm 123:=A1 (show A40=Az (pathOf 123) by kernel_rfl) tm
theorem Bg8(v:Option EV)(tm:Ac):A9d v tm=tm.put 123 v:=A2 (show A9d=Bx (pathOf 123) by kernel_rfl) v tm
theorem Bfe(w:Bool)(tm:Ac):Am A40 w tm=Ah (tmp tm 123) w:=Ak (show A40=Az (pathOf 123) by kernel_rfl) w tm
def A8l:Ac->Option EV:=Tr.Bm (Tr.Be (Tr.Bm (Tr.Bm (Tr.Bm (Tr.Bm (Tr.top))))))
def Bid:EF:=gO A8l
def A7t:PF:=Tr.Au (Tr.Ao (Tr.Au (Tr.Au (Tr.Au (Tr.Au (Tr.A0))))))
theorem Bdy(tm:Ac):Bid tm=tmp tm 124:=A1 (show A8l=Az (pathOf 124) by kernel_rfl) tm
theorem Bio(v:Option EV)(tm:Ac):A7t v tm=tm.put 124 v:=A2 (show A7t=Bx (pathOf 124) by kernel_rfl) v tm
theorem Bf2(w:Bool)(tm:Ac):Am A8l w tm=Ah (tmp tm 124) w:=Ak (show A8l=Az (pathOf 124) by kernel_rfl) w tm
def A7o:Ac->Option EV:=Tr.Be (Tr.Bm (Tr.Bm (Tr.Bm (Tr.Bm (Tr.Bm (Tr.top))))))
def Bh1:EF:=gO A7o
def A75:PF:=Tr.Ao (Tr.Au (Tr.Au (Tr.Au (Tr.Au (Tr.Au (Tr.A0))))))
theorem Bfp(tm:Ac):Bh1 tm=tmp tm 125:=A1 (show A7o=Az (pathOf 125) by kernel_rfl) tm
theorem Bhh(v:Option EV)(tm:Ac):A75 v tm=tm.put 125 v:=A2 (show A75=Bx (pathOf 125) by kernel_rfl) v tm
theorem Bhb(w:Bool)(tm:Ac):Am A7o w tm=Ah (tmp tm 125) w:=Ak (show A7o=Az (pathOf 125) by kernel_rfl) w tm
def A8h:Ac->Option EV:=Tr.Bm (Tr.Bm (Tr.Bm (Tr.Bm (Tr.Bm (Tr.Bm (Tr.top))))))
def Bgt:EF:=gO A8h
def A7x:PF:=Tr.Au (Tr.Au (Tr.Au (Tr.Au (Tr.Au (Tr.Au (Tr.A0))))))
theorem Bee(tm:Ac):Bgt tm=tmp tm 126:=A1 (show A8h=Az (pathOf 126) by kernel_rfl) tm
theorem Bg6(v:Option EV)(tm:Ac):A7x v tm=tm.put 126 v:=A2 (show A7x=Bx (pathOf 126) by kernel_rfl) v tm
theorem Bha(w:Bool)(tm:Ac):Am A8h w tm=Ah (tmp tm 126) w:=Ak (show A8h=Az (pathOf 126) by kernel_rfl) w tm
def A6o:Ac->Option EV:=Tr.Be (Tr.Be (Tr.Be (Tr.Be (Tr.Be (Tr.Be (Tr.Be (Tr.top)))))))
def Bg2:EF:=gO A6o
def A9r:PF:=Tr.Ao (Tr.Ao (Tr.Ao (Tr.Ao (Tr.Ao (Tr.Ao (Tr.Ao (Tr.A0)))))))
theorem Bd3(tm:Ac):Bg2 tm=tmp tm 127:=A1 (show A6o=Az (pathOf 127) by kernel_rfl) tm
theorem Be5(v:Option EV)(tm:Ac):A9r v tm=tm.put 127 v:=A2 (show A9r=Bx (pathOf 127) by kernel_rfl) v tm
theorem Bin(w:Bool)(tm:Ac):Am A6o w tm=Ah (tmp tm 127) w:=Ak (show A6o=Az (pathOf 127) by kernel_rfl) w tm
def A7z:Ac->Option EV:=Tr.Bm (Tr.Be (Tr.Be (Tr.Be (Tr.Be (Tr.Be (Tr.Be (Tr.top)))))))
def Bes:EF:=gO A7z
def A6t:PF:=Tr.Au (Tr.Ao (Tr.Ao (Tr.Ao (Tr.Ao (Tr.Ao (Tr.Ao (Tr.A0)))))))
theorem Bel(tm:Ac):Bes tm=tmp tm 128:=A1 (show A7z=Az (pathOf 128) by kernel_rfl) tm
theorem Bf7(v:Option EV)(tm:Ac):A6t v tm=tm.put 128 v:=A2 (show A6t=Bx (pathOf 128) by kernel_rfl) v tm
theorem Bit(w:Bool)(tm:Ac):Am A7z w tm=Ah (tmp tm 128) w:=Ak (show A7z=Az (pathOf 128) by kernel_rfl) w tm
def A8j:Ac->Option EV:=Tr.Be (Tr.Bm (Tr.Be (Tr.Be (Tr.Be (Tr.Be (Tr.Be (Tr.top)))))))
def Bef:EF:=gO A8j
def A99:PF:=Tr.Ao (Tr.Au (Tr.Ao (Tr.Ao (Tr.Ao (Tr.Ao (Tr.Ao (Tr.A0)))))))
theorem Bga(tm:Ac):Bef tm=tmp tm 129:=A1 (show A8j=Az (pathOf 129) by kernel_rfl) tm
theorem Bd0(v:Option EV)(tm:Ac):A99 v tm=tm.put 129 v:=A2 (show A99=Bx (pathOf 129) by kernel_rfl) v tm
theorem Bgn(w:Bool)(tm:Ac):Am A8j w tm=Ah (tmp tm 129) w:=Ak (show A8j=Az (pathOf 129) by kernel_rfl) w tm
def A76:Ac->Option EV:=Tr.Bm (Tr.Bm (Tr.Be (Tr.Be (Tr.Be (Tr.Be (Tr.Be (Tr.top)))))))
def Bdt:EF:=gO A76
def Bc5:PF:=Tr.Au (Tr.Au (Tr.Ao (Tr.Ao (Tr.Ao (Tr.Ao (Tr.Ao (Tr.A0)))))))
theorem Beb(tm:Ac):Bdt tm=tmp tm 130:=A1 (show A76=Az (pathOf 130) by kernel_rfl) tm
theorem Bhd(v:Option EV)(tm:Ac):Bc5 v tm=tm.put 130 v:=A2 (show Bc5=Bx (pathOf 130) by kernel_rfl) v tm
theorem Bek(w:Bool)(tm:Ac):Am A76 w tm=Ah (tmp tm 130) w:=Ak (show A76=Az (pathOf 130) by kernel_rfl) w tm
def A7e:Ac->Option EV:=Tr.Be (Tr.Be (Tr.Bm (Tr.Be (Tr.Be (Tr.Be (Tr.Be (Tr.top)))))))
def Bff:EF:=gO A7e
def Bc3:PF:=Tr.Ao (Tr.Ao (Tr.Au (Tr.Ao (Tr.Ao (Tr.Ao (Tr.Ao (Tr.A0)))))))
theorem Bir(tm:Ac):Bff tm=tmp tm 131:=A1 (show A7e=Az (pathOf 131) by kernel_rfl) tm
theorem Bhm(v:Option EV)(tm:Ac):Bc3 v tm=tm.put 131 v:=A2 (show Bc3=Bx (pathOf 131) by kernel_rfl) v tm
theorem Bfx(w:Bool)(tm:Ac):Am A7e w tm=Ah (tmp tm 131) w:=Ak (show A7e=Az (pathOf 131) by kernel_rfl) w tm
def A8z:Ac->Option EV:=Tr.Bm (Tr.Be (Tr.Bm (Tr.Be (Tr.Be (Tr.Be (Tr.Be (Tr.top)))))))
def Bds:EF:=gO A8z
def Bcq:PF:=Tr.Au (Tr.Ao (Tr.Au (Tr.Ao (Tr.Ao (Tr.Ao (Tr.Ao (Tr.A0)))))))
theorem Bim(tm:Ac):Bds tm=tmp tm 132:=A1 (show A8z=Az (pathOf 132) by kernel_rfl) tm
theorem Bd1(v:Option EV)(tm:Ac):Bcq v tm=tm.put 132 v:=A2 (show Bcq=Bx (pathOf 132) by kernel_rfl) v tm
theorem Bg1(w:Bool)(tm:Ac):Am A8z w tm=Ah (tmp tm 132) w:=Ak (show A8z=Az (pathOf 132) by kernel_rfl) w tm
def Bak:Ac->Option EV:=Tr.Be (Tr.Bm (Tr.Bm (Tr.Be (Tr.Be (Tr.Be (Tr.Be (Tr.top)))))))
def Bij:EF:=gO Bak
def Bb5:PF:=Tr.Ao (Tr.Au (Tr.Au (Tr.Ao (Tr.Ao (Tr.Ao (Tr.Ao (Tr.A0)))))))
theorem Bg5(tm:Ac):Bij tm=tmp tm 133:=A1 (show Bak=Az (pathOf 133) by kernel_rfl) tm
theorem Bfz(v:Option EV)(tm:Ac):Bb5 v tm=tm.put 133 v:=A2 (show Bb5=Bx (pathOf 133) by kernel_rfl) v tm
theorem Bih(w:Bool)(tm:Ac):Am Bak w tm=Ah (tmp tm 133) w:=Ak (show Bak=Az (pathOf 133) by kernel_rfl) w tm
def A6b:Ac->Option EV:=Tr.Bm (Tr.Bm (Tr.Bm (Tr.Be (Tr.Be (Tr.Be (Tr.Be (Tr.top)))))))
def Bil:EF:=gO A6b
def Bat:PF:=Tr.Au (Tr.Au (Tr.Au (Tr.Ao (Tr.Ao (Tr.Ao (Tr.Ao (Tr.A0)))))))
theorem Bhi(tm:Ac):Bil tm=tmp tm 134:=A1 (show A6b=Az (pathOf 134) by kernel_rfl) tm
theorem Bgr(v:Option EV)(tm:Ac):Bat v tm=tm.put 134 v:=A2 (show Bat=Bx (pathOf 134) by kernel_rfl) v tm
theorem Bib(w:Bool)(tm:Ac):Am A6b w tm=Ah (tmp tm 134) w:=Ak (show A6b=Az (pathOf 134) by kernel_rfl) w tm
def A88:Ac->Option EV:=Tr.Be (Tr.Be (Tr.Be (Tr.Bm (Tr.Be (Tr.Be (Tr.Be (Tr.top)))))))
def Bh0:EF:=gO A88
def Bb7:PF:=Tr.Ao (Tr.Ao (Tr.Ao (Tr.Au (Tr.Ao (Tr.Ao (Tr.Ao (Tr.A0)))))))
theorem Bgq(tm:Ac):Bh0 tm=tmp tm 135:=A1 (show A88=Az (pathOf 135) by kernel_rfl) tm
theorem Bh2(v:Option EV)(tm:Ac):Bb7 v tm=tm.put 135 v:=A2 (show Bb7=Bx (pathOf 135) by kernel_rfl) v tm
theorem Beo(w:Bool)(tm:Ac):Am A88 w tm=Ah (tmp tm 135) w:=Ak (show A88=Az (pathOf 135) by kernel_rfl) w tm
theorem tt0:(∀ tm,g0 tm=tmp tm 0)/\(∀ v tm,p0 v tm=tm.put 0 v)/\(∀ w tm,Am o0 w tm=Ah (tmp tm 0) w)/\(∀ tm,g1 tm=tmp tm 1)/\(∀ v tm,p1 v tm=tm.put 1 v)/\(∀ w tm,Am o1 w tm=Ah (tmp tm 1) w)/\(∀ tm,g2 tm=tmp tm 2)/\(∀ v tm,p2 v tm=tm.put 2 v)/\(∀ w tm,Am o2 w tm=Ah (tmp tm 2) w)/\(∀ tm,g3 tm=tmp tm 3)/\(∀ v tm,p3 v tm=tm.put 3 v)/\(∀ w tm,Am o3 w tm=Ah (tmp tm 3) w)/\(∀ tm,g4 tm=tmp tm 4)/\(∀ v tm,p4 v tm=tm.put 4 v)/\(∀ w tm,Am o4 w tm=Ah (tmp tm 4) w)/\(∀ tm,g5 tm=tmp tm 5)/\(∀ v tm,p5 v tm=tm.put 5 v)/\(∀ w tm,Am o5 w tm=Ah (tmp tm 5) w)/\(∀ tm,g6 tm=tmp tm 6)/\(∀ v tm,p6 v tm=tm.put 6 v)/\(∀ w tm,Am o6 w tm=Ah (tmp tm 6) w)/\(∀ tm,g7 tm=tmp tm 7)/\(∀ v tm,p7 v tm=tm.put 7 v)/\(∀ w tm,Am o7 w tm=Ah (tmp tm 7) w)/\(∀ tm,g8 tm=tmp tm 8)/\(∀ v tm,p8 v tm=tm.put 8 v)/\(∀ w tm,Am o8 w tm=Ah (tmp tm 8) w)/\(∀ tm,g9 tm=tmp tm 9)/\(∀ v tm,p9 v tm=tm.put 9 v)/\(∀ w tm,Am o9 w tm=Ah (tmp tm 9) w)/\(∀ tm,g10 tm=tmp tm 10)/\(∀ v tm,p10 v tm=tm.put 10 v)/\(∀ w tm,Am o10 w tm=Ah (tmp tm 10) w)/\(∀ tm,g11 tm=tmp tm 11)/\(∀ v tm,p11 v tm=tm.put 11 v)/\(∀ w tm,Am o11 w tm=Ah (tmp tm 11) w)/\(∀ tm,g12 tm=tmp tm 12)/\(∀ v tm,p12 v tm=tm.put 12 v)/\(∀ w tm,Am o12 w tm=Ah (tmp tm 12) w)/\(∀ tm,g13 tm=tmp tm 13)/\(∀ v tm,p13 v tm=tm.put 13 v)/\(∀ w tm,Am o13 w tm=Ah (tmp tm 13) w)/\(∀ tm,g14 tm=tmp tm 14)/\(∀ v tm,p14 v tm=tm.put 14 v)/\(∀ w tm,Am o14 w tm=Ah (tmp tm 14) w)/\(∀ tm,g15 tm=tmp tm 15)/\(∀ v tm,p15 v tm=tm.put 15 v)/\(∀ w tm,Am o15 w tm=Ah (tmp tm 15) w)/\(∀ tm,g16 tm=tmp tm 16)/\(∀ v tm,p16 v tm=tm.put 16 v)/\(∀ w tm,Am o16 w tm=Ah (tmp tm 16) w)/\(∀ tm,g17 tm=tmp tm 17)/\(∀ v tm,p17 v tm=tm.put 17 v)/\(∀ w tm,Am o17 w tm=Ah (tmp tm 17) w)/\(∀ tm,g18 tm=tmp tm 18)/\(∀ v tm,p18 v tm=tm.put 18 v)/\(∀ w tm,Am o18 w tm=Ah (tmp tm 18) w)/\(∀ tm,g19 tm=tmp tm 19)/\(∀ v tm,p19 v tm=tm.put 19 v)/\(∀ w tm,Am o19 w tm=Ah (tmp tm 19) w)/\(∀ tm,g20 tm=tmp tm 20)/\(∀ v tm,p20 v tm=tm.put 20 v)/\(∀ w tm,Am o20 w tm=Ah (tmp tm 20) w)/\(∀ tm,g21 tm=tmp tm 21)/\(∀ v tm,p21 v tm=tm.put 21 v)/\(∀ w tm,Am o21 w tm=Ah (tmp tm 21) w)/\(∀ tm,g22 tm=tmp tm 22)/\(∀ v tm,p22 v tm=tm.put 22 v)/\(∀ w tm,Am o22 w tm=Ah (tmp tm 22) w)/\(∀ tm,g23 tm=tmp tm 23)/\(∀ v tm,p23 v tm=tm.put 23 v)/\(∀ w tm,Am o23 w tm=Ah (tmp tm 23) w)/\(∀ tm,g24 tm=tmp tm 24)/\(∀ v tm,p24 v tm=tm.put 24 v)/\(∀ w tm,Am o24 w tm=Ah (tmp tm 24) w)/\(∀ tm,g25 tm=tmp tm 25)/\(∀ v tm,p25 v tm=tm.put 25 v)/\(∀ w tm,Am o25 w tm=Ah (tmp tm 25) w)/\(∀ tm,g26 tm=tmp tm 26)/\(∀ v tm,p26 v tm=tm.put 26 v)/\(∀ w tm,Am o26 w tm=Ah (tmp tm 26) w)/\(∀ tm,g27 tm=tmp tm 27)/\(∀ v tm,p27 v tm=tm.put 27 v)/\(∀ w tm,Am o27 w tm=Ah (tmp tm 27) w)/\(∀ tm,g28 tm=tmp tm 28)/\(∀ v tm,p28 v tm=tm.put 28 v)/\(∀ w tm,Am o28 w tm=Ah (tmp tm 28) w)/\(∀ tm,g29 tm=tmp tm 29)/\(∀ v tm,p29 v tm=tm.put 29 v)/\(∀ w tm,Am o29 w tm=Ah (tmp tm 29) w)/\(∀ tm,g30 tm=tmp tm 30)/\(∀ v tm,p30 v tm=tm.put 30 v)/\(∀ w tm,Am o30 w tm=Ah (tmp tm 30) w)/\(∀ tm,g31 tm=tmp tm 31)/\(∀ v tm,p31 v tm=tm.put 31 v)/\(∀ w tm,Am o31 w tm=Ah (tmp tm 31) w):=⟨Bro,Brc,Bsd,Br8,Bsh,Bru,Bsf,Brz,Br4,Bsc,Brl,Br6,Brf,Brs,Brm,Bsa,Bre,Brp,Brw,Brk,Brx,Bsb,Brg,Brt,Brd,Br1,Br3,Br7,Brb,Br5,Bp7,Bmg,Bpc,Bj7,Bpt,Bkh,Bjs,Bk9,Bod,Bpk,Bke,Bpv,Bmx,Blu,Bnr,Bql,Bpe,Bjm,Bow,Bp8,Bi7,Bqg,Bo5,Blh,Blx,Bo6,Bqt,Bk4,Bnd,Bjq,Bme,Blt,Bqq,Bno,Bki,Bom,Bk3,Bl3,Bll,Bpq,Bok,Bon,Bkz,Bji,Bnj,Bnh,Bqc,Bph,Boe,Bjk,Bj5,Blz,Bpn,Bnt,Blb,Bj1,Boi,Bny,Bnn,Bk5,Bqy,Boy,Bo9,Bl0,Bj0,Bm9⟩
theorem tt1:(∀ tm,g32 tm=tmp tm 32)/\(∀ v tm,p32 v tm=tm.put 32 v)/\(∀ w tm,Am o32 w tm=Ah (tmp tm 32) w)/\(∀ tm,g33 tm=tmp tm 33)/\(∀ v tm,p33 v tm=tm.put 33 v)/\(∀ w tm,Am o33 w tm=Ah (tmp tm 33) w)/\(∀ tm,g34 tm=tmp tm 34)/\(∀ v tm,p34 v tm=tm.put 34 v)/\(∀ w tm,Am o34 w tm=Ah (tmp tm 34) w)/\(∀ tm,g35 tm=tmp tm 35)/\(∀ v tm,p35 v tm=tm.put 35 v)/\(∀ w tm,Am o35 w tm=Ah (tmp tm 35) w)/\(∀ tm,g36 tm=tmp tm 36)/\(∀ v tm,p36 v tm=tm.put 36 v)/\(∀ w tm,Am o36 w tm=Ah (tmp tm 36) w)/\(∀ tm,g37 tm=tmp tm 37)/\(∀ v tm,p37 v tm=tm.put 37 v)/\(∀ w tm,Am o37 w tm=Ah (tmp tm 37) w)/\(∀ tm,g38 tm=tmp tm 38)/\(∀ v tm,p38 v tm=tm.put 38 v)/\(∀ w tm,Am o38 w tm=Ah (tmp tm 38) w)/\(∀ tm,g39 tm=tmp tm 39)/\(∀ v tm,p39 v tm=tm.put 39 v)/\(∀ w tm,Am o39 w tm=Ah (tmp tm 39) w)/\(∀ tm,g40 tm=tmp tm 40)/\(∀ v tm,p40 v tm=tm.put 40 v)/\(∀ w tm,Am o40 w tm=Ah (tmp tm 40) w)/\(∀ tm,g41 tm=tmp tm 41)/\(∀ v tm,p41 v tm=tm.put 41 v)/\(∀ w tm,Am o41 w tm=Ah (tmp tm 41) w)/\(∀ tm,g42 tm=tmp tm 42)/\(∀ v tm,p42 v tm=tm.put 42 v)/\(∀ w tm,Am o42 w tm=Ah (tmp tm 42) w)/\(∀ tm,g43 tm=tmp tm 43)/\(∀ v tm,p43 v tm=tm.put 43 v)/\(∀ w tm,Am o43 w tm=Ah (tmp tm 43) w)/\(∀ tm,g44 tm=tmp tm 44)/\(∀ v tm,p44 v tm=tm.put 44 v)/\(∀ w tm,Am o44 w tm=Ah (tmp tm 44) w)/\(∀ tm,g45 tm=tmp tm 45)/\(∀ v tm,p45 v tm=tm.put 45 v)/\(∀ w tm,Am o45 w tm=Ah (tmp tm 45) w)/\(∀ tm,g46 tm=tmp tm 46)/\(∀ v tm,p46 v tm=tm.put 46 v)/\(∀ w tm,Am o46 w tm=Ah (tmp tm 46) w)/\(∀ tm,g47 tm=tmp tm 47)/\(∀ v tm,p47 v tm=tm.put 47 v)/\(∀ w tm,Am o47 w tm=Ah (tmp tm 47) w)/\(∀ tm,g48 tm=tmp tm 48)/\(∀ v tm,p48 v tm=tm.put 48 v)/\(∀ w tm,Am o48 w tm=Ah (tmp tm 48) w)/\(∀ tm,g49 tm=tmp tm 49)/\(∀ v tm,p49 v tm=tm.put 49 v)/\(∀ w tm,Am o49 w tm=Ah (tmp tm 49) w)/\(∀ tm,g50 tm=tmp tm 50)/\(∀ v tm,p50 v tm=tm.put 50 v)/\(∀ w tm,Am o50 w tm=Ah (tmp tm 50) w)/\(∀ tm,g51 tm=tmp tm 51)/\(∀ v tm,p51 v tm=tm.put 51 v)/\(∀ w tm,Am o51 w tm=Ah (tmp tm 51) w)/\(∀ tm,g52 tm=tmp tm 52)/\(∀ v tm,p52 v tm=tm.put 52 v)/\(∀ w tm,Am o52 w tm=Ah (tmp tm 52) w)/\(∀ tm,g53 tm=tmp tm 53)/\(∀ v tm,p53 v tm=tm.put 53 v)/\(∀ w tm,Am o53 w tm=Ah (tmp tm 53) w)/\(∀ tm,g54 tm=tmp tm 54)/\(∀ v tm,p54 v tm=tm.put 54 v)/\(∀ w tm,Am o54 w tm=Ah (tmp tm 54) w)/\(∀ tm,g55 tm=tmp tm 55)/\(∀ v tm,p55 v tm=tm.put 55 v)/\(∀ w tm,Am o55 w tm=Ah (tmp tm 55) w)/\(∀ tm,g56 tm=tmp tm 56)/\(∀ v tm,p56 v tm=tm.put 56 v)/\(∀ w tm,Am o56 w tm=Ah (tmp tm 56) w)/\(∀ tm,g57 tm=tmp tm 57)/\(∀ v tm,p57 v tm=tm.put 57 v)/\(∀ w tm,Am o57 w tm=Ah (tmp tm 57) w)/\(∀ tm,g58 tm=tmp tm 58)/\(∀ v tm,p58 v tm=tm.put 58 v)/\(∀ w tm,Am o58 w tm=Ah (tmp tm 58) w)/\(∀ tm,g59 tm=tmp tm 59)/\(∀ v tm,p59 v tm=tm.put 59 v)/\(∀ w tm,Am o59 w tm=Ah (tmp tm 59) w)/\(∀ tm,g60 tm=tmp tm 60)/\(∀ v tm,p60 v tm=tm.put 60 v)/\(∀ w tm,Am o60 w tm=Ah (tmp tm 60) w)/\(∀ tm,g61 tm=tmp tm 61)/\(∀ v tm,p61 v tm=tm.put 61 v)/\(∀ w tm,Am o61 w tm=Ah (tmp tm 61) w)/\(∀ tm,g62 tm=tmp tm 62)/\(∀ v tm,p62 v tm=tm.put 62 v)/\(∀ w tm,Am o62 w tm=Ah (tmp tm 62) w)/\(∀ tm,g63 tm=tmp tm 63)/\(∀ v tm,p63 v tm=tm.put 63 v)/\(∀ w tm,Am o63 w tm=Ah (tmp tm 63) w):=⟨Blj,Bns,Bnz,Bja,Bjg,Bq2,Bob,Bor,Bmv,Blr,Bqr,Bpa,Bqf,Bkr,Bkk,Bjx,Blc,Bnw,Bqe,Bne,Bkj,Bmt,Boa,Bng,Bog,Bni,Ble,Bot,Bn5,Bpu,Bl1,Bn6,Bp0,Bk7,Bna,Boq,Bov,Bqw,Boo,Bqo,Bqs,Bju,Bpr,Bnv,Bjr,Bjp,Bnl,Bmu,Bml,Bn8,Bjc,Bos,Bq5,Bks,Bq3,Bqa,Bmc,Bq1,Bqj,Bl5,Bpj,Bm6,Bo4,Bra,Bla,Bp9,Bld,Bi8,Bjw,Bjd,Bje,Bqx,Blq,Bpo,Bo3,Bp4,Bou,Bn4,Bk6,Bpp,Bly,Bpf,Bm5,Bpx,Bq0,Bkw,Bpw,Bkc,Bmi,Bnq,Bjb,Bkb,Bl4,Bli,Bmp,Blf⟩
theorem tt2:(∀ tm,g64 tm=tmp tm 64)/\(∀ v tm,p64 v tm=tm.put 64 v)/\(∀ w tm,Am o64 w tm=Ah (tmp tm 64) w)/\(∀ tm,g65 tm=tmp tm 65)/\(∀ v tm,p65 v tm=tm.put 65 v)/\(∀ w tm,Am o65 w tm=Ah (tmp tm 65) w)/\(∀ tm,g66 tm=tmp tm 66)/\(∀ v tm,p66 v tm=tm.put 66 v)/\(∀ w tm,Am o66 w tm=Ah (tmp tm 66) w)/\(∀ tm,g67 tm=tmp tm 67)/\(∀ v tm,p67 v tm=tm.put 67 v)/\(∀ w tm,Am o67 w tm=Ah (tmp tm 67) w)/\(∀ tm,g68 tm=tmp tm 68)/\(∀ v tm,p68 v tm=tm.put 68 v)/\(∀ w tm,Am o68 w tm=Ah (tmp tm 68) w)/\(∀ tm,g69 tm=tmp tm 69)/\(∀ v tm,p69 v tm=tm.put 69 v)/\(∀ w tm,Am o69 w tm=Ah (tmp tm 69) w)/\(∀ tm,g70 tm=tmp tm 70)/\(∀ v tm,p70 v tm=tm.put 70 v)/\(∀ w tm,Am o70 w tm=Ah (tmp tm 70) w)/\(∀ tm,g71 tm=tmp tm 71)/\(∀ v tm,p71 v tm=tm.put 71 v)/\(∀ w tm,Am o71 w tm=Ah (tmp tm 71) w)/\(∀ tm,g72 tm=tmp tm 72)/\(∀ v tm,p72 v tm=tm.put 72 v)/\(∀ w tm,Am o72 w tm=Ah (tmp tm 72) w)/\(∀ tm,g73 tm=tmp tm 73)/\(∀ v tm,p73 v tm=tm.put 73 v)/\(∀ w tm,Am o73 w tm=Ah (tmp tm 73) w)/\(∀ tm,g74 tm=tmp tm 74)/\(∀ v tm,p74 v tm=tm.put 74 v)/\(∀ w tm,Am o74 w tm=Ah (tmp tm 74) w)/\(∀ tm,g75 tm=tmp tm 75)/\(∀ v tm,p75 v tm=tm.put 75 v)/\(∀ w tm,Am o75 w tm=Ah (tmp tm 75) w)/\(∀ tm,g76 tm=tmp tm 76)/\(∀ v tm,p76 v tm=tm.put 76 v)/\(∀ w tm,Am o76 w tm=Ah (tmp tm 76) w)/\(∀ tm,g77 tm=tmp tm 77)/\(∀ v tm,p77 v tm=tm.put 77 v)/\(∀ w tm,Am o77 w tm=Ah (tmp tm 77) w)/\(∀ tm,g78 tm=tmp tm 78)/\(∀ v tm,p78 v tm=tm.put 78 v)/\(∀ w tm,Am o78 w tm=Ah (tmp tm 78) w)/\(∀ tm,g79 tm=tmp tm 79)/\(∀ v tm,p79 v tm=tm.put 79 v)/\(∀ w tm,Am o79 w tm=Ah (tmp tm 79) w)/\(∀ tm,g80 tm=tmp tm 80)/\(∀ v tm,p80 v tm=tm.put 80 v)/\(∀ w tm,Am o80 w tm=Ah (tmp tm 80) w)/\(∀ tm,g81 tm=tmp tm 81)/\(∀ v tm,p81 v tm=tm.put 81 v)/\(∀ w tm,Am o81 w tm=Ah (tmp tm 81) w)/\(∀ tm,g82 tm=tmp tm 82)/\(∀ v tm,p82 v tm=tm.put 82 v)/\(∀ w tm,Am o82 w tm=Ah (tmp tm 82) w)/\(∀ tm,g83 tm=tmp tm 83)/\(∀ v tm,p83 v tm=tm.put 83 v)/\(∀ w tm,Am o83 w tm=Ah (tmp tm 83) w)/\(∀ tm,g84 tm=tmp tm 84)/\(∀ v tm,p84 v tm=tm.put 84 v)/\(∀ w tm,Am o84 w tm=Ah (tmp tm 84) w)/\(∀ tm,g85 tm=tmp tm 85)/\(∀ v tm,p85 v tm=tm.put 85 v)/\(∀ w tm,Am o85 w tm=Ah (tmp tm 85) w)/\(∀ tm,g86 tm=tmp tm 86)/\(∀ v tm,p86 v tm=tm.put 86 v)/\(∀ w tm,Am o86 w tm=Ah (tmp tm 86) w)/\(∀ tm,g87 tm=tmp tm 87)/\(∀ v tm,p87 v tm=tm.put 87 v)/\(∀ w tm,Am o87 w tm=Ah (tmp tm 87) w)/\(∀ tm,g88 tm=tmp tm 88)/\(∀ v tm,p88 v tm=tm.put 88 v)/\(∀ w tm,Am o88 w tm=Ah (tmp tm 88) w)/\(∀ tm,g89 tm=tmp tm 89)/\(∀ v tm,p89 v tm=tm.put 89 v)/\(∀ w tm,Am o89 w tm=Ah (tmp tm 89) w)/\(∀ tm,g90 tm=tmp tm 90)/\(∀ v tm,p90 v tm=tm.put 90 v)/\(∀ w tm,Am o90 w tm=Ah (tmp tm 90) w)/\(∀ tm,g91 tm=tmp tm 91)/\(∀ v tm,p91 v tm=tm.put 91 v)/\(∀ w tm,Am o91 w tm=Ah (tmp tm 91) w)/\(∀ tm,g92 tm=tmp tm 92)/\(∀ v tm,p92 v tm=tm.put 92 v)/\(∀ w tm,Am o92 w tm=Ah (tmp tm 92) w)/\(∀ tm,g93 tm=tmp tm 93)/\(∀ v tm,p93 v tm=tm.put 93 v)/\(∀ w tm,Am o93 w tm=Ah (tmp tm 93) w)/\(∀ tm,g94 tm=tmp tm 94)/\(∀ v tm,p94 v tm=tm.put 94 v)/\(∀ w tm,Am o94 w tm=Ah (tmp tm 94) w)/\(∀ tm,g95 tm=tmp tm 95)/\(∀ v tm,p95 v tm=tm.put 95 v)/\(∀ w tm,Am o95 w tm=Ah (tmp tm 95) w):=⟨Bp1,Bm3,Bpd,Bq6,Bp6,Bjj,Bol,Bk1,Bmr,Bkl,Bqn,Bko,Bi4,Bnk,Bkq,Bn1,Bpl,Bnu,Bqb,Bkf,Bq7,Bpb,Bkx,Bqk,Bi5,Bpz,Bmj,Bkn,Bof,Bkt,Bqv,Bln,Bl2,Bq9,Blg,Bp2,Bo0,Bn7,Bmh,Bls,Bm7,Bn9,Bo7,Bk0,Bn2,Bms,Bk2,Bqh,Bo1,Blk,Bi2,Bqu,Blo,Blp,Bmn,Bqd,Bl6,Bpi,Bmz,Bmq,Bl7,Bqi,Blm,Boj,Bo2,Bnf,Bm2,Bj4,Bqz,Blv,Bmd,Bj3,Bnp,Bi6,Bmm,Bjl,Box,Bnx,Bnm,Bjf,Bkg,Blw,Bpy,Bq4,Bnc,Bp3,Bkm,Bkd,Bi1,Bl8,Bop,Bkp,Bm4,Bj2,Bo8,Bmw⟩
theorem tt3:(∀ tm,g96 tm=tmp tm 96)/\(∀ v tm,p96 v tm=tm.put 96 v)/\(∀ w tm,Am o96 w tm=Ah (tmp tm 96) w)/\(∀ tm,g97 tm=tmp tm 97)/\(∀ v tm,p97 v tm=tm.put 97 v)/\(∀ w tm,Am o97 w tm=Ah (tmp tm 97) w)/\(∀ tm,g98 tm=tmp tm 98)/\(∀ v tm,p98 v tm=tm.put 98 v)/\(∀ w tm,Am o98 w tm=Ah (tmp tm 98) w)/\(∀ tm,g99 tm=tmp tm 99)/\(∀ v tm,p99 v tm=tm.put 99 v)/\(∀ w tm,Am o99 w tm=Ah (tmp tm 99) w)/\(∀ tm,Bip tm=tmp tm 100)/\(∀ v tm,Bba v tm=tm.put 100 v)/\(∀ w tm,Am A3k w tm=Ah (tmp tm 100) w)/\(∀ tm,Bie tm=tmp tm 101)/\(∀ v tm,A6q v tm=tm.put 101 v)/\(∀ w tm,Am A8d w tm=Ah (tmp tm 101) w)/\(∀ tm,Beq tm=tmp tm 102)/\(∀ v tm,A7r v tm=tm.put 102 v)/\(∀ w tm,Am A6h w tm=Ah (tmp tm 102) w)/\(∀ tm,Bic tm=tmp tm 103)/\(∀ v tm,A79 v tm=tm.put 103 v)/\(∀ w tm,Am Bad w tm=Ah (tmp tm 103) w)/\(∀ tm,Biy tm=tmp tm 104)/\(∀ v tm,A7n v tm=tm.put 104 v)/\(∀ w tm,Am A84 w tm=Ah (tmp tm 104) w)/\(∀ tm,Be6 tm=tmp tm 105)/\(∀ v tm,Bav v tm=tm.put 105 v)/\(∀ w tm,Am A51 w tm=Ah (tmp tm 105) w)/\(∀ tm,Bhq tm=tmp tm 106)/\(∀ v tm,Ba9 v tm=tm.put 106 v)/\(∀ w tm,Am A7q w tm=Ah (tmp tm 106) w)/\(∀ tm,Bej tm=tmp tm 107)/\(∀ v tm,Bb3 v tm=tm.put 107 v)/\(∀ w tm,Am A81 w tm=Ah (tmp tm 107) w)/\(∀ tm,Bh7 tm=tmp tm 108)/\(∀ v tm,Bc8 v tm=tm.put 108 v)/\(∀ w tm,Am Bae w tm=Ah (tmp tm 108) w)/\(∀ tm,Bhc tm=tmp tm 109)/\(∀ v tm,Bbj v tm=tm.put 109 v)/\(∀ w tm,Am A6r w tm=Ah (tmp tm 109) w)/\(∀ tm,Bqp tm=tmp tm 110)/\(∀ v tm,Bcm v tm=tm.put 110 v)/\(∀ w tm,Am A5y w tm=Ah (tmp tm 110) w)/\(∀ tm,Bet tm=tmp tm 111)/\(∀ v tm,Bgy v tm=tm.put 111 v)/\(∀ w tm,Am A6v w tm=Ah (tmp tm 111) w)/\(∀ tm,Bei tm=tmp tm 112)/\(∀ v tm,Bas v tm=tm.put 112 v)/\(∀ w tm,Am A83 w tm=Ah (tmp tm 112) w)/\(∀ tm,Bgi tm=tmp tm 113)/\(∀ v tm,Bb1 v tm=tm.put 113 v)/\(∀ w tm,Am A6p w tm=Ah (tmp tm 113) w)/\(∀ tm,Biu tm=tmp tm 114)/\(∀ v tm,Bbx v tm=tm.put 114 v)/\(∀ w tm,Am A9f w tm=Ah (tmp tm 114) w)/\(∀ tm,Bge tm=tmp tm 115)/\(∀ v tm,Bcs v tm=tm.put 115 v)/\(∀ w tm,Am A6s w tm=Ah (tmp tm 115) w)/\(∀ tm,Bhx tm=tmp tm 116)/\(∀ v tm,Ba2 v tm=tm.put 116 v)/\(∀ w tm,Am A8e w tm=Ah (tmp tm 116) w)/\(∀ tm,Bh9 tm=tmp tm 117)/\(∀ v tm,Bb6 v tm=tm.put 117 v)/\(∀ w tm,Am Az6 w tm=Ah (tmp tm 117) w)/\(∀ tm,Bfi tm=tmp tm 118)/\(∀ v tm,Ban v tm=tm.put 118 v)/\(∀ w tm,Am A82 w tm=Ah (tmp tm 118) w)/\(∀ tm,Bg0 tm=tmp tm 119)/\(∀ v tm,A6w v tm=tm.put 119 v)/\(∀ w tm,Am A6n w tm=Ah (tmp tm 119) w)/\(∀ tm,Bfj tm=tmp tm 120)/\(∀ v tm,A7s v tm=tm.put 120 v)/\(∀ w tm,Am A8p w tm=Ah (tmp tm 120) w)/\(∀ tm,Bfq tm=tmp tm 121)/\(∀ v tm,A6m v tm=tm.put 121 v)/\(∀ w tm,Am A71 w tm=Ah (tmp tm 121) w)/\(∀ tm,Bfm tm=tmp tm 122)/\(∀ v tm,A98 v tm=tm.put 122 v)/\(∀ w tm,Am A6g w tm=Ah (tmp tm 122) w)/\(∀ tm,Bhu tm=tmp tm 123)/\(∀ v tm,A9d v tm=tm.put 123 v)/\(∀ w tm,Am A40 w tm=Ah (tmp tm 123) w)/\(∀ tm,Bid tm=tmp tm 124)/\(∀ v tm,A7t v tm=tm.put 124 v)/\(∀ w tm,Am A8l w tm=Ah (tmp tm 124) w)/\(∀ tm,Bh1 tm=tmp tm 125)/\(∀ v tm,A75 v tm=tm.put 125 v)/\(∀ w tm,Am A7o w tm=Ah (tmp tm 125) w)/\(∀ tm,Bgt tm=tmp tm 126)/\(∀ v tm,A7x v tm=tm.put 126 v)/\(∀ w tm,Am A8h w tm=Ah (tmp tm 126) w)/\(∀ tm,Bg2 tm=tmp tm 127)/\(∀ v tm,A9r v tm=tm.put 127 v)/\(∀ w tm,Am A6o w tm=Ah (tmp tm 127) w):=⟨Boh,Bp5,Bj8,Bnb,Boz,Bl9,Bjz,Bq8,Bjy,Bmk,Bjh,Bqm,Bdz,Bhj,Bgf,Bfr,Bgj,Bfs,Be3,Bey,Bf6,Bdu,Bgo,Bhw,Bea,Bho,Bhl,Bgx,Bd9,Bis,Bix,Bgd,Bdx,Bfk,Bf3,Biz,Be0,Bhn,Bf9,Be9,Bg9,Ben,Be8,Bfu,Bgu,Bfg,Bex,Bhr,Bgb,Bep,Bfv,Bgw,Bhz,Bdv,Bd4,Bh4,Bf4,Be1,Bf1,Bh6,Bhg,Be2,Bd8,Bez,Bfd,Beh,Bfh,Bhp,Bgs,Bht,Bf8,Bgz,Bgg,Bia,Bii,Bfo,Bi0,Be7,Bhv,Bev,Bdw,Bfc,Bg8,Bfe,Bdy,Bio,Bf2,Bfp,Bhh,Bhb,Bee,Bg6,Bha,Bd3,Be5,Bin⟩
theorem tt4:(∀ tm,Bes tm=tmp tm 128)/\(∀ v tm,A6t v tm=tm.put 128 v)/\(∀ w tm,Am A7z w tm=Ah (tmp tm 128) w)/\(∀ tm,Bef tm=tmp tm 129)/\(∀ v tm,A99 v tm=tm.put 129 v)/\(∀ w tm,Am A8j w tm=Ah (tmp tm 129) w)/\(∀ tm,Bdt tm=tmp tm 130)/\(∀ v tm,Bc5 v tm=tm.put 130 v)/\(∀ w tm,Am A76 w tm=Ah (tmp tm 130) w)/\(∀ tm,Bff tm=tmp tm 131)/\(∀ v tm,Bc3 v tm=tm.put 131 v)/\(∀ w tm,Am A7e w tm=Ah (tmp tm 131) w)/\(∀ tm,Bds tm=tmp tm 132)/\(∀ v tm,Bcq v tm=tm.put 132 v)/\(∀ w tm,Am A8z w tm=Ah (tmp tm 132) w)/\(∀ tm,Bij tm=tmp tm 133)/\(∀ v tm,Bb5 v tm=tm.put 133 v)/\(∀ w tm,Am Bak w tm=Ah (tmp tm 133) w)/\(∀ tm,Bil tm=tmp tm 134)/\(∀ v tm,Bat v tm=tm.put 134 v)/\(∀ w tm,Am A6b w tm=Ah (tmp tm 134) w)/\(∀ tm,Bh0 tm=tmp tm 135)/\(∀ v tm,Bb7 v tm=tm.put 135 v)/\(∀ w tm,Am A88 w tm=Ah (tmp tm 135) w):=⟨Bel,Bf7,Bit,Bga,Bd0,Bgn,Beb,Bhd,Bek,Bir,Bhm,Bfx,Bim,Bd1,Bg1,Bg5,Bfz,Bih,Bhi,Bgr,Bib,Bgq,Bh2,Beo⟩
end
end Go.Ev

namespace Go.Ev
open Go.Proofs
set_option maxRecDepth 100000
noncomputable section
def Ll:CF:=(Aj4 TT [.cell 8 4])
def A9t(call round:Ae)(K:Nat):CF:=
 L7 1 g8 (Ci (.bool true)) (Sv (Ll))
def Bc7(call round:Ae)(K:Nat)(ih1_:CF):CF:=
 Q1 Fx (bin TT .add 3) g65 (Ci (.int .i64 (.ofNat 1))) (put Bb7 (mv Bh0 p65 (ih1_)))
def Bbl(call round:Ae)(K:Nat)(ih1_:CF):CF:=
 It g20 (put Bb5 (Q1 E5 (bin TT .neq 3) Bij (Ci (.int .i64 (.ofNat 2))) (put Bat (Wc Bil (L7 1 g8 (Ci (.bool false)) (Sv (Ll))) ((Bc7 call round K ih1_))))))
def Biv(call round:Ae)(K:Nat)(ih1_:CF):CF:=
 Yn [(.int .i64 (.ofNat 0))] 3 (put p20 (L7 1 g20 (Ci (.int .i64 (.ofNat 0))) (Sv (Al5 3 g18 (put Ba9 (mv g3 Bb3 (mv g15 Bc8 (Q1 Fx (bin TT .add 3) Bh7 (Ci (.int .i64 (.ofNat 1))) (put Bbj (Yh call 47 (fun tm=>[Bhq tm,Bej tm,Bhc tm]) (put Bcm (Afb TT call 9 136 none 0 (fun _=>Dz) [(4,(Bbl call round K ih1_)),(3,(Bc7 call round K ih1_)),(2,(A9t call round K))] Ll ((Bbl call round K ih1_))))))))))))))
def Baw(call round:Ae)(K:Nat)(ih1_:CF):CF:=
 Zv Bip (Ci (.bool true)) Biy (put Bav (Wc Be6 (L7 1 g8 (Ci (.bool false)) (Sv (Ll))) ((Biv call round K ih1_))))
def Bb4(call round:Ae)(K:Nat)(ih1_:CF):CF:=
 Zv g92 (Ci (.bool true)) g98 (put p99 (mv g99 Bba (Ri (Am A3k false) (Agr 2 g18 (put A6q (It Bie (put A7r (mv g3 A79 (Q1 E5 (bin TT .neq 3) Beq Bic (put A7n ((Baw call round K ih1_))))))))) (put A6q (put A7r (put A79 (put A7n ((Baw call round K ih1_)) (.tuple [])) (.tuple [])) (.tuple [])) (.tuple [])))))
def Ber(call round:Ae)(K:Nat)(ih1_:CF):CF:=
 mv g14 p83 (Q1 Fx (bin TT .add 3) g83 (Ci (.int .i64 (.ofNat 1))) (put p84 (mv g84 p14 (mv g9 p86 (Yh call 46 (fun tm=>[g86 tm]) (put p87 (mv g87 p85 (Ajb 0 g85 (put p88 (Ajb 1 g85 (put p89 (Yn [.Af,.Af,(.int .i64 (.ofNat 0))] 112 (put p18 (L7 3 g18 g88 (Sv (mv g89 p19 (mv g19 p90 (Q1 E5 (bin TT .neq 28) g90 (Ci (.int .i64 (.ofNat 0))) (put p91 (mv g91 p92 (Ri (Am o92 false) (Agr 0 g18 (put p93 (It g93 (put p94 (A4r g94 (put p95 (mv g14 p96 (Q1 Vm (bin TT .mul 3) (Ci (.int .i64 (.ofNat 2))) g96 (put p97 (Q1 E5 (bin TT .neq 3) g95 g97 (put p98 ((Bb4 call round K ih1_))))))))))))) (put p93 (put p94 (put p95 (put p96 (put p97 (put p98 ((Bb4 call round K ih1_)) (.tuple [])) (.tuple [])) (.tuple [])) (.tuple [])) (.tuple [])) (.tuple [])))))))))))))))))))))))
def Biq(call round:Ae)(K:Nat)(ih1_:CF):CF:=
 mv g65 p67 (mv g67 p15 (mv g9 p69 (mv g15 p70 (Q1 Fx (bin TT .add 3) g70 (Ci (.int .i64 (.ofNat 1))) (put p71 (mv g15 p72 (Bif (bin TT .and 3) g72 (Ci (.int .i64 (.ofNat 7))) (put p73 (Y2 (Alo (Dj [(0,1),(1,1),(2,1),(3,1),(4,1),(5,1),(6,32)]) (List.replicate 6 (.int .i64 (.ofNat 0))++List.replicate 32 (.int .u8 (.ofNat 0))) (fun tm=>[(0,(Ci (.int .i64 (.ofNat 3))) tm),(1,g71 tm),(2,(Ci (.int .i64 (.ofNat 1))) tm),(3,g73 tm)])) (put p74 (mv g3 p75 (mv g15 p76 (Q1 Fx (bin TT .add 3) g76 (Ci (.int .i64 (.ofNat 1))) (put p77 (Yh call 34 (fun tm=>[g69 tm,g74 tm,g75 tm,g77 tm]) (put p78 (mv g78 p68 (Ajb 0 g68 (put p79 (Ajb 1 g68 (put p80 (Yn [(.int .i64 (.ofNat 0)),(.int .i64 (.ofNat 0)),(.int .i64 (.ofNat 0)),(.int .i64 (.ofNat 0)),(.int .i64 (.ofNat 0)),(.int .i64 (.ofNat 0))] 83 (put p16 (L7 6 g16 g79 (Sv (mv g80 p17 (mv g17 p81 (Q1 E5 (bin TT .neq 28) g81 (Ci (.int .i64 (.ofNat 0))) (put p82 (Wc g82 ((A9t call round K)) ((Ber call round K ih1_))))))))))))))))))))))))))))))))
def Bg7(call round:Ae)(K:Nat)(ih1_:CF):CF:=
 Q1 Gc (bin TT .lss 3) g65 g64 (put p66 (Wc g66 ((Biq call round K ih1_)) ((A9t call round K))))
def A80(call round:Ae)(K:Nat):CF:=
 mv (Ci (.int .i64 (.ofNat 0))) p14 (mv g2 p64 (mv (Ci (.int .i64 (.ofNat 0))) p65 (Adm (Bg7 call round K) K)))
def A7k(call round:Ae)(K:Nat)(ih11_:CF):CF:=
 Q1 Fx (bin TT .add 3) g55 (Ci (.int .i64 (.ofNat 1))) (put p63 (mv g63 p55 (ih11_)))
def A7g(call round:Ae)(K:Nat)(ih11_:CF):CF:=
 Alj 1 g53 g55 (put p57 (It g57 (put p58 (mv g58 p13 (mv g9 p59 (Yh call 14 (fun tm=>[g59 tm]) (put p60 (mv g13 p61 (Yh call 15 (fun tm=>[g60 tm,g61 tm]) (put p62 ((A7k call round K ih11_))))))))))))
def A8y(call round:Ae)(K:Nat)(ih11_:CF):CF:=
 Q1 Gc (bin TT .lss 3) g55 g54 (put p56 (Wc g56 ((A7g call round K ih11_)) ((A80 call round K))))
def A9x(call round:Ae)(K:Nat):CF:=
 mv g1 p53 (A4r g53 (put p54 (mv (Ci (.int .i64 (.ofNat 0))) p55 (Adm (A8y call round K) K))))
def A1u(call round:Ae)(K:Nat):CF:=
 Zv g49 (Ci (.bool true)) g51 (put p52 (Wc g52 (L7 1 g8 (Ci (.bool true)) (Sv (Ll))) ((A9x call round K))))
def A2m(call round:Ae)(K:Nat):CF:=
 Zv g45 (Ci (.bool true)) g47 (put p48 (mv g48 p49 (Ri (Am o49 false) (mv g3 p50 (Q1 Sc (bin TT .gtr 3) g50 (Ci (.int .i64 (.ofNat 4294967295))) (put p51 ((A1u call round K))))) (put p50 (put p51 ((A1u call round K)) (.tuple [])) (.tuple [])))))
def A1t(call round:Ae)(K:Nat):CF:=
 Zv g41 (Ci (.bool true)) g43 (put p44 (mv g44 p45 (Ri (Am o45 false) (mv g3 p46 (Q1 Gc (bin TT .lss 3) g46 (Ci (.int .i64 (.ofNat 1))) (put p47 ((A2m call round K))))) (put p46 (put p47 ((A2m call round K)) (.tuple [])) (.tuple [])))))
def A1x(call round:Ae)(K:Nat):CF:=
 Zv g37 (Ci (.bool true)) g39 (put p40 (mv g40 p41 (Ri (Am o41 false) (mv g2 p42 (Q1 Sc (bin TT .gtr 3) g42 (Ci (.int .i64 (.ofNat 60))) (put p43 ((A1t call round K))))) (put p42 (put p43 ((A1t call round K)) (.tuple [])) (.tuple [])))))
def A10(call round:Ae)(K:Nat):CF:=
 Zv g32 (Ci (.bool true)) g35 (put p36 (mv g36 p37 (Ri (Am o37 false) (mv g2 p38 (Q1 Gc (bin TT .lss 3) g38 (Ci (.int .i64 (.ofNat 0))) (put p39 ((A1x call round K))))) (put p38 (put p39 ((A1x call round K)) (.tuple [])) (.tuple [])))))
def Bam(call round:Ae)(K:Nat):CF:=
 Al5 6 g4 (put p25 (Yh call 45 (fun tm=>[g25 tm]) (put p26 (mv g26 p24 (Ajb 0 g24 (put p27 (Ajb 1 g24 (put p28 (Ajb 2 g24 (put p29 (Yn ([.Af]++List.replicate 3 (.int .i64 (.ofNat 0))++[(.bool false)]++List.replicate 2 .Af++List.replicate 8 (.int .i64 (.ofNat 0))++List.replicate 2 .Af++List.replicate 3 (.int .i64 (.ofNat 0))) 42 (put p10 (mv g27 p9 (L7 20 g10 g28 (Sv (mv g29 p11 (mv g11 p30 (Ax3 g30 (put p31 (mv g31 p32 (Ri (Am o32 false) (mv g1 p33 (A4r g33 (put p34 (Q1 Sc (bin TT .gtr 3) g34 (Ci (.int .i64 (.ofNat 64))) (put p35 ((A10 call round K))))))) (put p33 (put p34 (put p35 ((A10 call round K)) (.tuple [])) (.tuple [])) (.tuple [])))))))))))))))))))))))
def F9(call round:Ae)(K:Nat):FnT:=Aw4 136 (A5s 23 g0 (put p4 (Yn [(.bool false)] 4 (put p8 (Yh call 44 (fun tm=>[]) (put p22 (Ax3 g22 (put p23 (Wc g23 (L7 1 g8 (Ci (.bool false)) (Sv (Ll))) ((Bam call round K)))))))))))
theorem Bi9(call round:Ae)(K:Nat):Afq TT call round K 9=F9 call round K:=by kernel_rfl
def A0o(call round:Ae)(K l:Nat):CF:=
 It g20 (put Bc3 (Q1 Fx (bin TT .add 3) Bff (Ci (.int .i64 (.ofNat 1))) (put Bcq (L7 1 g20 Bds (Sv ((B0 l true .ready none)))))))
def Aur(call round:Ae)(K l:Nat):CF:=
 Zv Bh9 (Ci (.bool true)) Bef (put Bc5 (Wc Bdt (L7 1 g8 (Ci (.bool false)) (Sv ((B0 l false .done (some .ret))))) ((A0o call round K l))))
def Aum(call round:Ae)(K l:Nat):CF:=
 Ri (Am Az6 false) (Zv Bhu Bes (Ci (.bool false)) (put A99 ((Aur call round K l)))) (put A99 ((Aur call round K l)) (.tuple []))
def Aub(call round:Ae)(K l:Nat):CF:=
 Ri (Am A40 true) (Agr 0 g21 (put A7t (It Bid (put A75 (Agr 2 g16 (put A7x (It Bgt (put A9r (Q1 E5 (bin TT .neq 3) Bh1 Bg2 (put A6t ((Aum call round K l)))))))))))) (put A7t (put A75 (put A7x (put A9r (put A6t ((Aum call round K l)) (.tuple [])) (.tuple [])) (.tuple [])) (.tuple [])) (.tuple []))
def Ap4(call round:Ae)(K l:Nat):CF:=
 Agr 1 g21 (put Bas (It Bei (put Bb1 (Agr 3 g16 (put Bbx (It Biu (put Bcs (Q1 E5 (bin TT .neq 3) Bgi Bge (put Ba2 (mv Bhx Bb6 (Ri (Am Az6 false) (Agr 0 g21 (put Ban (It Bfi (put A6w (Agr 1 g16 (put A7s (It Bfj (put A6m (Q1 E5 (bin TT .neq 3) Bg0 Bfq (put A98 (mv Bfm A9d ((Aub call round K l))))))))))))) (put Ban (put A6w (put A7s (put A6m (put A98 (put A9d ((Aub call round K l)) (.tuple [])) (.tuple [])) (.tuple [])) (.tuple [])) (.tuple [])) (.tuple [])))))))))))))
def Bd2(call round:Ae)(K l:Nat):CF:=
 Yn (List.replicate 7 (.int .i64 (.ofNat 0))++List.replicate 44 (.int .u8 (.ofNat 0))) 122 (put p21 (L7 51 g21 Bet (Sv (Tv l (Ap4 call round K l)))))
theorem Bcy(call round:Ae)(K l:Nat):Ou TT call round K 9 136 (some l) (fun id=>B0 l false .done (some (.exit id))) (B0 l false .done (some .ret)) (Ds TT 9 0).2.2.1 [] (Tv l (Ou TT call round K 9 136 (some l) (fun id=>B0 l false .done (some (.exit id))) (B0 l false .done (some .ret)) (Ds TT 9 0).2.2.2 [] (B0 l true .ready none)))=Bd2 call round K l:=by kernel_rfl
def Avm:CF:=(Aj4 TT [.cell 4 4])
def A2o(call round:Ae)(K:Nat):CF:=
 L7 1 g4 (Ci (.bool false)) (Sv (Avm))
def F49(call round:Ae)(K:Nat):FnT:=Aw4 14 (A5s 3 g1 (put p3 (Yn [(.bool false)] 4 (put p4 (mv g0 p7 (Yh call 105 (fun tm=>[g7 tm]) (put p8 (Afb TT call 49 14 none 0 (fun _=>Dz) [(0,(A2o call round K))] Avm ((A2o call round K))))))))))
theorem Bfy(call round:Ae)(K:Nat):Afq TT call round K 49=F49 call round K:=by kernel_rfl
def Amd(call round:Ae)(K l:Nat):CF:=
 mv g6 p11 (It g3 (put p12 (Q1 G1 (bin TT .eql 3) g11 g12 (put p13 (Wc g13 (L7 1 g4 (Ci (.bool true)) (Sv ((B0 l false .done (some .ret))))) ((B0 l true .ready none)))))))
def A87(call round:Ae)(K l:Nat):CF:=
 mv g10 p6 (Tv l (Amd call round K l))
theorem A6c(call round:Ae)(K l:Nat):Ou TT call round K 49 14 (some l) (fun id=>B0 l false .done (some (.exit id))) (B0 l false .done (some .ret)) (Ds TT 49 0).2.2.1 [] (Tv l (Ou TT call round K 49 14 (some l) (fun id=>B0 l false .done (some (.exit id))) (B0 l false .done (some .ret)) (Ds TT 49 0).2.2.2 [] (B0 l true .ready none)))=A87 call round K l:=by kernel_rfl
def Azu:CF:=(Aj4 TT [.cell 2 4])
def Bdk(call round:Ae)(K:Nat):CF:=
 L7 1 g2 (Ci (.bool true)) (Sv (Azu))
def Bka(call round:Ae)(K:Nat):CF:=
 Agr 3 g1 (put p26 (It g26 (put p27 (Yh call 115 (fun tm=>[g27 tm]) (put p28 (Afb TT call 64 36 none 0 (fun _=>Dz) [(0,(Bdk call round K))] Azu ((Bdk call round K))))))))
def Bdd(call round:Ae)(K:Nat):CF:=
 Zv g20 (Ci (.bool true)) g24 (put p25 (Wc g25 (L7 1 g2 (Ci (.bool false)) (Sv (Azu))) ((Bka call round K))))
def Bdq(call round:Ae)(K:Nat):CF:=
 Zv g14 (Ci (.bool true)) g18 (put p19 (mv g19 p20 (Ri (Am o20 false) (Agr 2 g1 (put p21 (It g21 (put p22 (Yh call 114 (fun tm=>[g22 tm,(Ci (.int .i64 (.ofNat 281474976710655))) tm]) (put p23 (Ax3 g23 (put p24 ((Bdd call round K)))))))))) (put p21 (put p22 (put p23 (put p24 ((Bdd call round K)) (.tuple [])) (.tuple [])) (.tuple [])) (.tuple [])))))
def Bdm(call round:Ae)(K:Nat):CF:=
 Zv g8 (Ci (.bool true)) g12 (put p13 (mv g13 p14 (Ri (Am o14 false) (Agr 1 g1 (put p15 (It g15 (put p16 (Yh call 114 (fun tm=>[g16 tm,(Ci (.int .i64 (.ofNat 4294967295))) tm]) (put p17 (Ax3 g17 (put p18 ((Bdq call round K)))))))))) (put p15 (put p16 (put p17 (put p18 ((Bdq call round K)) (.tuple [])) (.tuple [])) (.tuple [])) (.tuple [])))))
def F64(call round:Ae)(K:Nat):FnT:=Aw4 36 (A5s 60 g0 (put p1 (Yn [(.bool false)] 4 (put p2 (Agr 3 g1 (put p5 (It g5 (put p6 (Q1 G1 (bin TT .eql 52) g6 (Ci .Bi) (put p7 (mv g7 p8 (Ri (Am o8 false) (Agr 0 g1 (put p9 (It g9 (put p10 (Yh call 114 (fun tm=>[g10 tm,(Ci (.int .i64 (.ofNat 281474976710655))) tm]) (put p11 (Ax3 g11 (put p12 ((Bdm call round K)))))))))) (put p9 (put p10 (put p11 (put p12 ((Bdm call round K)) (.tuple [])) (.tuple [])) (.tuple [])) (.tuple []))))))))))))))
theorem Bgv(call round:Ae)(K:Nat):Afq TT call round K 64=F64 call round K:=by kernel_rfl
def Acr:CF:=Bj6
def Aqj(call round:Ae)(K:Nat)(ih0_:CF):CF:=
 Q1 Fx (bin TT .add 3) g12 (Ci (.int .i64 (.ofNat 1))) (put p26 (mv g26 p12 (ih0_)))
def Azd(call round:Ae)(K:Nat)(ih0_:CF):CF:=
 mv g12 p14 (Alj 1 g10 g12 (put p15 (It g15 (put p16 (Yn [(.int .i64 (.ofNat 0))] 3 (put p3 (L7 1 g3 g14 (Sv (mv g16 p4 (mv g4 p17 (Yh call 150 (fun tm=>[g17 tm]) (put p18 (Afb TT call 149 27 none 0 (fun _=>Dz) [(2,(Aqj call round K ih0_)),(1,(Aqj call round K ih0_)),(0,Acr)] Acr ((Aqj call round K ih0_)))))))))))))))
def Azg(call round:Ae)(K:Nat)(ih0_:CF):CF:=
 Q1 Gc (bin TT .lss 3) g12 g11 (put p13 (Wc g13 ((Azd call round K ih0_)) (Acr)))
def Bb9(call round:Ae)(K:Nat):FnT:=Aw4 27 (A5s 142 g0 (put p2 (It g1 (put p7 (Bd6 g7 (put p8 (Agr 6 g8 (put p9 (It g9 (put p10 (A4r g10 (put p11 (mv (Ci (.int .i64 (.ofNat 0))) p12 (Adm (Azg call round K) K))))))))))))))
theorem Bbf(call round:Ae)(K:Nat):Afq TT call round K 149=Bb9 call round K:=by kernel_rfl
def Ah5(call round:Ae)(K l:Nat):CF:=
 It g2 (put p21 (It g3 (put p22 (mv g6 p23 (Aic call round g21 (fun tm=>[g22 tm,g23 tm]) (put p24 (Ax3 g24 (put p25 (Wc g25 ((B0 l false .done (some .ret))) ((B0 l true .ready none)))))))))))
def A0p(call round:Ae)(K l:Nat):CF:=
 mv g20 p6 (Tv l (Ah5 call round K l))
theorem A5h(call round:Ae)(K l:Nat):Ou TT call round K 149 27 (some l) (fun id=>B0 l false .done (some (.exit id))) (B0 l false .done (some .ret)) (Ds TT 149 0).2.2.1 [] (Tv l (Ou TT call round K 149 27 (some l) (fun id=>B0 l false .done (some (.exit id))) (B0 l false .done (some .ret)) (Ds TT 149 0).2.2.2 [] (B0 l true .ready none)))=A0p call round K l:=by kernel_rfl
end
end Go.Ev

namespace Go.Ev
open Go.Proofs
set_option maxRecDepth 100000
noncomputable section
def Bdc:List (Nat × FT):=[(9,F9),(49,F49),(64,F64),(149,Bb9)]
def Ala:Nat->Option FT:=fun f=>Az (pathOf f) (Avt Bdc)
end
theorem A70:A73 TP Bdc:=⟨Ad0.of Apg Bi9,Ad0.of Apg Bfy,Ad0.of Apg Bgv,Ad0.of Apg Bbf,trivial⟩
theorem Axs:∀ g F,Ala g=some F->Ad0 TP g F:=fun g F h=>Aqh A70 (by rw[<-Aou];exact h)
end Go.Ev

namespace Go.Ev
open Go.Proofs
set_option maxRecDepth 100000
noncomputable section
def A8:List EV:=[.int .u32 (.ofNat 0),.int .u32 (.ofNat 4067132163),.int .u32 (.ofNat 3778769143),.int .u32 (.ofNat 324072436),.int .u32 (.ofNat 3348797215),.int .u32 (.ofNat 904991772),.int .u32 (.ofNat 648144872),.int .u32 (.ofNat 3570033899),.int .u32 (.ofNat 2329499855),.int .u32 (.ofNat 2024987596),.int .u32 (.ofNat 1809983544),.int .u32 (.ofNat 2575936315),.int .u32 (.ofNat 1296289744),.int .u32 (.ofNat 3207089363),.int .u32 (.ofNat 2893594407),.int .u32 (.ofNat 1578318884),.int .u32 (.ofNat 274646895),.int .u32 (.ofNat 3795141740),.int .u32 (.ofNat 4049975192),.int .u32 (.ofNat 51262619),.int .u32 (.ofNat 3619967088),.int .u32 (.ofNat 632279923),.int .u32 (.ofNat 922689671),.int .u32 (.ofNat 3298075524),.int .u32 (.ofNat 2592579488),.int .u32 (.ofNat 1760304291),.int .u32 (.ofNat 2075979607),.int .u32 (.ofNat 2312596564),.int .u32 (.ofNat 1562183871),.int .u32 (.ofNat 2943781820),.int .u32 (.ofNat 3156637768),.int .u32 (.ofNat 1313733451),.int .u32 (.ofNat 549293790),.int .u32 (.ofNat 3537243613),.int .u32 (.ofNat 3246849577),.int .u32 (.ofNat 871202090),.int .u32 (.ofNat 3878099393),.int .u32 (.ofNat 357341890),.int .u32 (.ofNat 102525238),.int .u32 (.ofNat 4101499445),.int .u32 (.ofNat 2858735121),.int .u32 (.ofNat 1477399826),.int .u32 (.ofNat 1264559846),.int .u32 (.ofNat 3107202533),.int .u32 (.ofNat 1845379342),.int .u32 (.ofNat 2677391885),.int .u32 (.ofNat 2361733625),.int .u32 (.ofNat 2125378298),.int .u32 (.ofNat 820201905),.int .u32 (.ofNat 3263744690),.int .u32 (.ofNat 3520608582),.int .u32 (.ofNat 598981189),.int .u32 (.ofNat 4151959214),.int .u32 (.ofNat 85089709),.int .u32 (.ofNat 373468761),.int .u32 (.ofNat 3827903834),.int .u32 (.ofNat 3124367742),.int .u32 (.ofNat 1213305469),.int .u32 (.ofNat 1526817161),.int .u32 (.ofNat 2842354314),.int .u32 (.ofNat 2107672161),.int .u32 (.ofNat 2412447074),.int .u32 (.ofNat 2627466902),.int .u32 (.ofNat 1861252501),.int .u32 (.ofNat 1098587580),.int .u32 (.ofNat 3004210879),.int .u32 (.ofNat 2688576843),.int .u32 (.ofNat 1378610760),.int .u32 (.ofNat 2262928035),.int .u32 (.ofNat 1955203488),.int .u32 (.ofNat 1742404180),.int .u32 (.ofNat 2511436119),.int .u32 (.ofNat 3416409459),.int .u32 (.ofNat 969524848),.int .u32 (.ofNat 714683780),.int .u32 (.ofNat 3639785095),.int .u32 (.ofNat 205050476),.int .u32 (.ofNat 4266873199),.int .u32 (.ofNat 3976438427),.int .u32 (.ofNat 526918040),.int .u32 (.ofNat 1361435347),.int .u32 (.ofNat 2739821008),.int .u32 (.ofNat 2954799652),.int .u32 (.ofNat 1114974503),.int .u32 (.ofNat 2529119692),.int .u32 (.ofNat 1691668175),.int .u32 (.ofNat 2005155131),.int .u32 (.ofNat 2247081528),.int .u32 (.ofNat 3690758684),.int .u32 (.ofNat 697762079),.int .u32 (.ofNat 986182379),.int .u32 (.ofNat 3366744552),.int .u32 (.ofNat 476452099),.int .u32 (.ofNat 3993867776),.int .u32 (.ofNat 4250756596),.int .u32 (.ofNat 255256311),.int .u32 (.ofNat 1640403810),.int .u32 (.ofNat 2477592673),.int .u32 (.ofNat 2164122517),.int .u32 (.ofNat 1922457750),.int .u32 (.ofNat 2791048317),.int .u32 (.ofNat 1412925310),.int .u32 (.ofNat 1197962378),.int .u32 (.ofNat 3037525897),.int .u32 (.ofNat 3944729517),.int .u32 (.ofNat 427051182),.int .u32 (.ofNat 170179418),.int .u32 (.ofNat 4165941337),.int .u32 (.ofNat 746937522),.int .u32 (.ofNat 3740196785),.int .u32 (.ofNat 3451792453),.int .u32 (.ofNat 1070968646),.int .u32 (.ofNat 1905808397),.int .u32 (.ofNat 2213795598),.int .u32 (.ofNat 2426610938),.int .u32 (.ofNat 1657317369),.int .u32 (.ofNat 3053634322),.int .u32 (.ofNat 1147748369),.int .u32 (.ofNat 1463399397),.int .u32 (.ofNat 2773627110),.int .u32 (.ofNat 4215344322),.int .u32 (.ofNat 153784257),.int .u32 (.ofNat 444234805),.int .u32 (.ofNat 3893493558),.int .u32 (.ofNat 1021025245),.int .u32 (.ofNat 3467647198),.int .u32 (.ofNat 3722505002),.int .u32 (.ofNat 797665321),.int .u32 (.ofNat 2197175160),.int .u32 (.ofNat 1889384571),.int .u32 (.ofNat 1674398607),.int .u32 (.ofNat 2443626636),.int .u32 (.ofNat 1164749927),.int .u32 (.ofNat 3070701412),.int .u32 (.ofNat 2757221520),.int .u32 (.ofNat 1446797203),.int .u32 (.ofNat 137323447),.int .u32 (.ofNat 4198817972),.int .u32 (.ofNat 3910406976),.int .u32 (.ofNat 461344835),.int .u32 (.ofNat 3484808360),.int .u32 (.ofNat 1037989803),.int .u32 (.ofNat 781091935),.int .u32 (.ofNat 3705997148),.int .u32 (.ofNat 2460548119),.int .u32 (.ofNat 1623424788),.int .u32 (.ofNat 1939049696),.int .u32 (.ofNat 2180517859),.int .u32 (.ofNat 1429367560),.int .u32 (.ofNat 2807687179),.int .u32 (.ofNat 3020495871),.int .u32 (.ofNat 1180866812),.int .u32 (.ofNat 410100952),.int .u32 (.ofNat 3927582683),.int .u32 (.ofNat 4182430767),.int .u32 (.ofNat 186734380),.int .u32 (.ofNat 3756733383),.int .u32 (.ofNat 763408580),.int .u32 (.ofNat 1053836080),.int .u32 (.ofNat 3434856499),.int .u32 (.ofNat 2722870694),.int .u32 (.ofNat 1344288421),.int .u32 (.ofNat 1131464017),.int .u32 (.ofNat 2971354706),.int .u32 (.ofNat 1708204729),.int .u32 (.ofNat 2545590714),.int .u32 (.ofNat 2229949006),.int .u32 (.ofNat 1988219213),.int .u32 (.ofNat 680717673),.int .u32 (.ofNat 3673779818),.int .u32 (.ofNat 3383336350),.int .u32 (.ofNat 1002577565),.int .u32 (.ofNat 4010310262),.int .u32 (.ofNat 493091189),.int .u32 (.ofNat 238226049),.int .u32 (.ofNat 4233660802),.int .u32 (.ofNat 2987750089),.int .u32 (.ofNat 1082061258),.int .u32 (.ofNat 1395524158),.int .u32 (.ofNat 2705686845),.int .u32 (.ofNat 1972364758),.int .u32 (.ofNat 2279892693),.int .u32 (.ofNat 2494862625),.int .u32 (.ofNat 1725896226),.int .u32 (.ofNat 952904198),.int .u32 (.ofNat 3399985413),.int .u32 (.ofNat 3656866545),.int .u32 (.ofNat 731699698),.int .u32 (.ofNat 4283874585),.int .u32 (.ofNat 222117402),.int .u32 (.ofNat 510512622),.int .u32 (.ofNat 3959836397),.int .u32 (.ofNat 3280807620),.int .u32 (.ofNat 837199303),.int .u32 (.ofNat 582374963),.int .u32 (.ofNat 3504198960),.int .u32 (.ofNat 68661723),.int .u32 (.ofNat 4135334616),.int .u32 (.ofNat 3844915500),.int .u32 (.ofNat 390545967),.int .u32 (.ofNat 1230274059),.int .u32 (.ofNat 3141532936),.int .u32 (.ofNat 2825850620),.int .u32 (.ofNat 1510247935),.int .u32 (.ofNat 2395924756),.int .u32 (.ofNat 2091215383),.int .u32 (.ofNat 1878366691),.int .u32 (.ofNat 2644384480),.int .u32 (.ofNat 3553878443),.int .u32 (.ofNat 565732008),.int .u32 (.ofNat 854102364),.int .u32 (.ofNat 3229815391),.int .u32 (.ofNat 340358836),.int .u32 (.ofNat 3861050807),.int .u32 (.ofNat 4117890627),.int .u32 (.ofNat 119113024),.int .u32 (.ofNat 1493875044),.int .u32 (.ofNat 2875275879),.int .u32 (.ofNat 3090270611),.int .u32 (.ofNat 1247431312),.int .u32 (.ofNat 2660249211),.int .u32 (.ofNat 1828433272),.int .u32 (.ofNat 2141937292),.int .u32 (.ofNat 2378227087),.int .u32 (.ofNat 3811616794),.int .u32 (.ofNat 291187481),.int .u32 (.ofNat 34330861),.int .u32 (.ofNat 4032846830),.int .u32 (.ofNat 615137029),.int .u32 (.ofNat 3603020806),.int .u32 (.ofNat 3314634738),.int .u32 (.ofNat 939183345),.int .u32 (.ofNat 1776939221),.int .u32 (.ofNat 2609017814),.int .u32 (.ofNat 2295496738),.int .u32 (.ofNat 2058945313),.int .u32 (.ofNat 2926798794),.int .u32 (.ofNat 1545135305),.int .u32 (.ofNat 1330124605),.int .u32 (.ofNat 3173225534),.int .u32 (.ofNat 4084100981),.int .u32 (.ofNat 17165430),.int .u32 (.ofNat 307568514),.int .u32 (.ofNat 3762199681),.int .u32 (.ofNat 888469610),.int .u32 (.ofNat 3332340585),.int .u32 (.ofNat 3587147933),.int .u32 (.ofNat 665062302),.int .u32 (.ofNat 2042050490),.int .u32 (.ofNat 2346497209),.int .u32 (.ofNat 2559330125),.int .u32 (.ofNat 1793573966),.int .u32 (.ofNat 3190661285),.int .u32 (.ofNat 1279665062),.int .u32 (.ofNat 1595330642),.int .u32 (.ofNat 2910671697)]
def Qv:EV:=.agg A8
def Atz:FT:=fun _ _ _ args h=>@List.rec EV (fun _=>R) (some (Qv,h)) (fun _ _ _=>none) args
def A1m(_:Nat)(h:Aa):R:=some (Qv,h)
end
structure Aq(disp:Nat->Option FT):Prop where
 plain:∀ g,A9l g=true->disp g=Ala g
 crc:disp 26=some Atz
theorem Ax4 {disp:Nat->Option FT}(H:Aq disp){K d:Nat}(hd:1<=d)(h:Aa):Ad TT disp K d false 26 [] h=A1m K h:=by
 obtain⟨d,rfl⟩:∃ e,d=e+1:=⟨d-1,by omega⟩
 rw[Ae6 H.crc];rfl
noncomputable def Bma(g:Nat):Bool:=Ay (A9l g) (match Ala g with|none=>true|some _=>false) false
theorem Aq.bare {disp:Nat->Option FT}(H:Aq disp){g:Nat}(e:Bma g=true):disp g=none:=by
 obtain⟨h1,h2⟩:=Rl e
 rw[H.plain g h1]
 cases hx:Ala g with
 | none=>rfl
 | some _=>rw[hx]at h2;cases h2
theorem Q5 {disp:Nat->Option FT}{g d K:Nat}{args:List EV}{h:Aa}{X:R}{C:Ae}{B:CD}(hn:disp g=none)(hk:Bf0 TT g (Jh args)=true)(e:Ad TT disp K d false=C)
 (hx:Ny TT C (Ad TT disp K d false) (Ad TT disp K d true) K (nOf TT g) (F7 TT g) .no (Alz TT g) [] (F7 TT g)=B) (hy:B (Aqy args 0 u0) h=X):Ad TT disp K (d+1) false g args h=X:=by
 have e0:Ad TT disp K (d+1) false g args h=Afq TT (Ad TT disp K d false) (Ad TT disp K d true) K g args h:=by
  have e:Ad TT disp K (d+1) false g args h = @Option.rec FT (fun _=>FnT) (Afq TT (Ad TT disp K d false) (Ad TT disp K d true) K g) (fun F=>F (Ad TT disp K d false) (Ad TT disp K d true) K) (disp g) args h:=rfl
  rw[e,hn]
 rw[e0,A5d hk]
 exact(congrArg (fun C=>Ny TT C (Ad TT disp K d false) (Ad TT disp K d true) K (nOf TT g) (F7 TT g) .no (Alz TT g) [] (F7 TT g) (Aqy args 0 u0) h) e).trans ((congrFun (congrFun hx _) h).trans hy)
theorem Cm {disp:Nat->Option FT}{g m d K:Nat}{args:List EV}{h:Aa}{X:R}{C:Nat->Ae}{B:Nat->Ae->Ae->CD}(hn:disp g=none)(hd:m+1<=d)(hk:Bf0 TT g (Jh args)=true)
 (e:∀ d,m<=d->Ad TT disp K d false=C d) (hx:∀ d c r,Ny TT (C d) c r K (nOf TT g) (F7 TT g) .no (Alz TT g) [] (F7 TT g)=B d c r) (hy:∀ d c r,B d c r (Aqy args 0 u0) h=X):Ad TT disp K d false g args h=X:=by
 obtain⟨d,rfl⟩:∃ e,d=e+1:=⟨d-1,by omega⟩
 exact Q5 hn hk (e d (Nat.le_of_succ_le_succ hd)) (hx _ _ _) (hy _ _ _)
end Go.Ev
