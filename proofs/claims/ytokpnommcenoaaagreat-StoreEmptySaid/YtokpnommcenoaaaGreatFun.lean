import Derived.Test.YtokpnommcenoaaaGreatTab
import Derived.Test.YtokpnommcenoaaaGreatEvSix
set_option linter.unusedVariables false
set_option linter.unusedSimpArgs false
set_option linter.unusedSectionVars false
namespace Go.Ev
open Go.Proofs
set_option maxRecDepth 100000
noncomputable section
def o0:Ag->Option EV:=Tr.top
def g0:EF:=gO o0
def p0:PF:=Tr.By
def o1:Ag->Option EV:=Tr.Fc (Tr.top)
def g1:EF:=gO o1
def p1:PF:=Tr.B1 (Tr.By)
def o2:Ag->Option EV:=Tr.Ho (Tr.top)
def g2:EF:=gO o2
def p2:PF:=Tr.Cz (Tr.By)
def o3:Ag->Option EV:=Tr.Fc (Tr.Fc (Tr.top))
def g3:EF:=gO o3
def p3:PF:=Tr.B1 (Tr.B1 (Tr.By))
def o4:Ag->Option EV:=Tr.Ho (Tr.Fc (Tr.top))
def g4:EF:=gO o4
def p4:PF:=Tr.Cz (Tr.B1 (Tr.By))
def o5:Ag->Option EV:=Tr.Fc (Tr.Ho (Tr.top))
def g5:EF:=gO o5
def p5:PF:=Tr.B1 (Tr.Cz (Tr.By))
def o6:Ag->Option EV:=Tr.Ho (Tr.Ho (Tr.top))
def g6:EF:=gO o6
def p6:PF:=Tr.Cz (Tr.Cz (Tr.By))
def o7:Ag->Option EV:=Tr.Fc (Tr.Fc (Tr.Fc (Tr.top)))
def g7:EF:=gO o7
def p7:PF:=Tr.B1 (Tr.B1 (Tr.B1 (Tr.By)))
def o8:Ag->Option EV:=Tr.Ho (Tr.Fc (Tr.Fc (Tr.top)))
def g8:EF:=gO o8
def p8:PF:=Tr.Cz (Tr.B1 (Tr.B1 (Tr.By)))
def o9:Ag->Option EV:=Tr.Fc (Tr.Ho (Tr.Fc (Tr.top)))
def g9:EF:=gO o9
def p9:PF:=Tr.B1 (Tr.Cz (Tr.B1 (Tr.By)))
def o10:Ag->Option EV:=Tr.Ho (Tr.Ho (Tr.Fc (Tr.top)))
def g10:EF:=gO o10
def p10:PF:=Tr.Cz (Tr.Cz (Tr.B1 (Tr.By)))
def o11:Ag->Option EV:=Tr.Fc (Tr.Fc (Tr.Ho (Tr.top)))
def g11:EF:=gO o11
def p11:PF:=Tr.B1 (Tr.B1 (Tr.Cz (Tr.By)))
def o12:Ag->Option EV:=Tr.Ho (Tr.Fc (Tr.Ho (Tr.top)))
def g12:EF:=gO o12
def p12:PF:=Tr.Cz (Tr.B1 (Tr.Cz (Tr.By)))
def o13:Ag->Option EV:=Tr.Fc (Tr.Ho (Tr.Ho (Tr.top)))
def g13:EF:=gO o13
def p13:PF:=Tr.B1 (Tr.Cz (Tr.Cz (Tr.By)))
def o14:Ag->Option EV:=Tr.Ho (Tr.Ho (Tr.Ho (Tr.top)))
def g14:EF:=gO o14
def p14:PF:=Tr.Cz (Tr.Cz (Tr.Cz (Tr.By)))
def o15:Ag->Option EV:=Tr.Fc (Tr.Fc (Tr.Fc (Tr.Fc (Tr.top))))
def g15:EF:=gO o15
def p15:PF:=Tr.B1 (Tr.B1 (Tr.B1 (Tr.B1 (Tr.By))))
def o16:Ag->Option EV:=Tr.Ho (Tr.Fc (Tr.Fc (Tr.Fc (Tr.top))))
def g16:EF:=gO o16
def p16:PF:=Tr.Cz (Tr.B1 (Tr.B1 (Tr.B1 (Tr.By))))
def o17:Ag->Option EV:=Tr.Fc (Tr.Ho (Tr.Fc (Tr.Fc (Tr.top))))
def g17:EF:=gO o17
def p17:PF:=Tr.B1 (Tr.Cz (Tr.B1 (Tr.B1 (Tr.By))))
def o18:Ag->Option EV:=Tr.Ho (Tr.Ho (Tr.Fc (Tr.Fc (Tr.top))))
def g18:EF:=gO o18
def p18:PF:=Tr.Cz (Tr.Cz (Tr.B1 (Tr.B1 (Tr.By))))
def o19:Ag->Option EV:=Tr.Fc (Tr.Fc (Tr.Ho (Tr.Fc (Tr.top))))
def g19:EF:=gO o19
def p19:PF:=Tr.B1 (Tr.B1 (Tr.Cz (Tr.B1 (Tr.By))))
def o20:Ag->Option EV:=Tr.Ho (Tr.Fc (Tr.Ho (Tr.Fc (Tr.top))))
def g20:EF:=gO o20
def p20:PF:=Tr.Cz (Tr.B1 (Tr.Cz (Tr.B1 (Tr.By))))
def o21:Ag->Option EV:=Tr.Fc (Tr.Ho (Tr.Ho (Tr.Fc (Tr.top))))
def g21:EF:=gO o21
def p21:PF:=Tr.B1 (Tr.Cz (Tr.Cz (Tr.B1 (Tr.By))))
def o22:Ag->Option EV:=Tr.Ho (Tr.Ho (Tr.Ho (Tr.Fc (Tr.top))))
def g22:EF:=gO o22
def p22:PF:=Tr.Cz (Tr.Cz (Tr.Cz (Tr.B1 (Tr.By))))
def o23:Ag->Option EV:=Tr.Fc (Tr.Fc (Tr.Fc (Tr.Ho (Tr.top))))
def g23:EF:=gO o23
def p23:PF:=Tr.B1 (Tr.B1 (Tr.B1 (Tr.Cz (Tr.By))))
def o24:Ag->Option EV:=Tr.Ho (Tr.Fc (Tr.Fc (Tr.Ho (Tr.top))))
def g24:EF:=gO o24
def p24:PF:=Tr.Cz (Tr.B1 (Tr.B1 (Tr.Cz (Tr.By))))
def o25:Ag->Option EV:=Tr.Fc (Tr.Ho (Tr.Fc (Tr.Ho (Tr.top))))
def g25:EF:=gO o25
def p25:PF:=Tr.B1 (Tr.Cz (Tr.B1 (Tr.Cz (Tr.By))))
def o26:Ag->Option EV:=Tr.Ho (Tr.Ho (Tr.Fc (Tr.Ho (Tr.top))))
def g26:EF:=gO o26
def p26:PF:=Tr.Cz (Tr.Cz (Tr.B1 (Tr.Cz (Tr.By))))
def o27:Ag->Option EV:=Tr.Fc (Tr.Fc (Tr.Ho (Tr.Ho (Tr.top))))
def g27:EF:=gO o27
def p27:PF:=Tr.B1 (Tr.B1 (Tr.Cz (Tr.Cz (Tr.By))))
def o28:Ag->Option EV:=Tr.Ho (Tr.Fc (Tr.Ho (Tr.Ho (Tr.top))))
def g28:EF:=gO o28
def p28:PF:=Tr.Cz (Tr.B1 (Tr.Cz (Tr.Cz (Tr.By))))
def o29:Ag->Option EV:=Tr.Fc (Tr.Ho (Tr.Ho (Tr.Ho (Tr.top))))
def g29:EF:=gO o29
def p29:PF:=Tr.B1 (Tr.Cz (Tr.Cz (Tr.Cz (Tr.By))))
def o30:Ag->Option EV:=Tr.Ho (Tr.Ho (Tr.Ho (Tr.Ho (Tr.top))))
def g30:EF:=gO o30
def p30:PF:=Tr.Cz (Tr.Cz (Tr.Cz (Tr.Cz (Tr.By))))
def o31:Ag->Option EV:=Tr.Fc (Tr.Fc (Tr.Fc (Tr.Fc (Tr.Fc (Tr.top)))))
def g31:EF:=gO o31
def p31:PF:=Tr.B1 (Tr.B1 (Tr.B1 (Tr.B1 (Tr.B1 (Tr.By)))))
def o32:Ag->Option EV:=Tr.Ho (Tr.Fc (Tr.Fc (Tr.Fc (Tr.Fc (Tr.top)))))
def g32:EF:=gO o32
def p32:PF:=Tr.Cz (Tr.B1 (Tr.B1 (Tr.B1 (Tr.B1 (Tr.By)))))
def o33:Ag->Option EV:=Tr.Fc (Tr.Ho (Tr.Fc (Tr.Fc (Tr.Fc (Tr.top)))))
def g33:EF:=gO o33
def p33:PF:=Tr.B1 (Tr.Cz (Tr.B1 (Tr.B1 (Tr.B1 (Tr.By)))))
def o34:Ag->Option EV:=Tr.Ho (Tr.Ho (Tr.Fc (Tr.Fc (Tr.Fc (Tr.top)))))
def g34:EF:=gO o34
def p34:PF:=Tr.Cz (Tr.Cz (Tr.B1 (Tr.B1 (Tr.B1 (Tr.By)))))
def o35:Ag->Option EV:=Tr.Fc (Tr.Fc (Tr.Ho (Tr.Fc (Tr.Fc (Tr.top)))))
def g35:EF:=gO o35
def p35:PF:=Tr.B1 (Tr.B1 (Tr.Cz (Tr.B1 (Tr.B1 (Tr.By)))))
def o36:Ag->Option EV:=Tr.Ho (Tr.Fc (Tr.Ho (Tr.Fc (Tr.Fc (Tr.top)))))
def g36:EF:=gO o36
def p36:PF:=Tr.Cz (Tr.B1 (Tr.Cz (Tr.B1 (Tr.B1 (Tr.By)))))
def o37:Ag->Option EV:=Tr.Fc (Tr.Ho (Tr.Ho (Tr.Fc (Tr.Fc (Tr.top)))))
def g37:EF:=gO o37
def p37:PF:=Tr.B1 (Tr.Cz (Tr.Cz (Tr.B1 (Tr.B1 (Tr.By)))))
def o38:Ag->Option EV:=Tr.Ho (Tr.Ho (Tr.Ho (Tr.Fc (Tr.Fc (Tr.top)))))
def g38:EF:=gO o38
def p38:PF:=Tr.Cz (Tr.Cz (Tr.Cz (Tr.B1 (Tr.B1 (Tr.By)))))
def o39:Ag->Option EV:=Tr.Fc (Tr.Fc (Tr.Fc (Tr.Ho (Tr.Fc (Tr.top)))))
def g39:EF:=gO o39
def p39:PF:=Tr.B1 (Tr.B1 (Tr.B1 (Tr.Cz (Tr.B1 (Tr.By)))))
end
end Go.Ev

namespace Go.Ev
open Go.Proofs
set_option maxRecDepth 100000
noncomputable section
def Al4:CF:=(R9 TT [.cell 4 4])
def As5(call round:Ae)(K:Nat):CF:=
 Oa 1 g4 (Ez (.bool false)) (Vc (Al4))
def F18(call round:Ae)(K:Nat):FnT:=Yz 14 (Abe 3 g1 (put p3 (N4 [(.bool false)] 4 (put p4 (mv g0 p7 (Mb call 77 (fun tm=>[g7 tm]) (put p8 (Pw TT call 18 14 none 0 (fun _=>Bw) [(0,(As5 call round K))] Al4 ((As5 call round K))))))))))
theorem Aua(call round:Ae)(K:Nat):Ly TT call round K 18=F18 call round K:=by kernel_rfl
def Aof:CF:=(R9 TT [.cell 4 4])
def As2(call round:Ae)(K:Nat):CF:=
 Oa 1 g4 (Ez (.bool false)) (Vc (Aof))
def F20(call round:Ae)(K:Nat):FnT:=Yz 12 (Abe 3 g1 (put p3 (N4 [(.bool false)] 4 (put p4 (mv g0 p6 (Mb call 78 (fun tm=>[g6 tm]) (put p7 (Pw TT call 20 12 none 0 (fun _=>Bw) [(0,(As2 call round K))] Aof ((As2 call round K))))))))))
theorem At5(call round:Ae)(K:Nat):Ly TT call round K 20=F20 call round K:=by kernel_rfl
def Ams:CF:=(Aui g4)
def As0(call round:Ae)(K:Nat):CF:=
 E9 g5 (put p38 (mv g38 p4 (Ams)))
def F27(call round:Ae)(K:Nat):FnT:=Yz 39 (Abe 26 g0 (put p2 (mv (Ez (.int .i64 (.ofNat 0))) p4 (N4 [(.int .i64 (.ofNat 0))] 3 (put p5 (Oa 1 g5 (Ez (.int .i64 (.negSucc 0))) (Vc (E9 g2 (put p7 (Ain g7 (put p8 (Xe 0 g8 (put p9 (E9 g9 (put p10 (Mb call 79 (fun tm=>[g10 tm]) (put p11 (mv g1 p12 (Mb call 26 (fun tm=>[g11 tm,g12 tm]) (put p13 (Pw TT call 27 39 none 0 (fun _=>Bw) [(0,(As0 call round K))] Ams ((As0 call round K)))))))))))))))))))))))
theorem Aut(call round:Ae)(K:Nat):Ly TT call round K 27=F27 call round K:=by kernel_rfl
def Afr:CF:=Aul
def F80(call round:Ae)(K:Nat):FnT:=Yz 31 (Abe 42 g0 (put p3 (E9 g1 (put p6 (Mb call 81 (fun tm=>[g6 tm]) (put p7 (Pw TT call 80 31 none 0 (fun _=>Bw) [(0,Afr)] Afr (Afr))))))))
theorem At6(call round:Ae)(K:Nat):Ly TT call round K 80=F80 call round K:=by kernel_rfl
def Anl:CF:=(R9 TT [.cell 4 4])
def As1(call round:Ae)(K:Nat):CF:=
 Oa 1 g4 (Ez (.bool true)) (Vc (Anl))
def F84(call round:Ae)(K:Nat):FnT:=Yz 40 (Abe 26 g0 (put p2 (N4 [(.bool false)] 4 (put p4 (E9 g2 (put p8 (Ain g8 (put p9 (Xe 2 g9 (put p10 (E9 g10 (put p11 (mv g1 p12 (Mb call 23 (fun tm=>[g11 tm,g12 tm]) (put p13 (Pw TT call 84 40 none 0 (fun _=>Bw) [(0,(As1 call round K))] Anl ((As1 call round K))))))))))))))))))
theorem Atx(call round:Ae)(K:Nat):Ly TT call round K 84=F84 call round K:=by kernel_rfl
def Agj:CF:=(Aui g4)
def Al9(call round:Ae)(K:Nat):CF:=
 E9 g5 (put p18 (mv g18 p4 (Agj)))
def Avj(call round:Ae)(K:Nat):FnT:=Yz 19 (mv (Ez .Ab) p4 (N4 [.Ab] 28 (put p5 (mv g0 p7 (Ain g7 (put p8 (Xe 2 g8 (put p9 (E9 g9 (put p10 (mv g1 p11 (Mb call 23 (fun tm=>[g10 tm,g11 tm]) (put p12 (Pw TT call 144 19 none 0 (fun _=>Bw) [(0,(Al9 call round K))] Agj ((Al9 call round K))))))))))))))))
theorem Apf(call round:Ae)(K:Nat):Ly TT call round K 144=Avj call round K:=by kernel_rfl
def Abr:CF:=Aul
def Aek(call round:Ae)(K:Nat)(ih0_:CF):CF:=
 Ahg He (bin TT .add 3) g12 (Ez (.int .i64 (.ofNat 1))) (put p26 (mv g26 p12 (ih0_)))
def Ats(call round:Ae)(K:Nat)(ih0_:CF):CF:=
 mv g12 p14 (Xp 1 g10 g12 (put p15 (E9 g15 (put p16 (N4 [(.int .i64 (.ofNat 0))] 3 (put p3 (Oa 1 g3 g14 (Vc (mv g16 p4 (mv g4 p17 (Mb call 147 (fun tm=>[g17 tm]) (put p18 (Pw TT call 146 27 none 0 (fun _=>Bw) [(2,(Aek call round K ih0_)),(1,(Aek call round K ih0_)),(0,Abr)] Abr ((Aek call round K ih0_)))))))))))))))
def Atj(call round:Ae)(K:Nat)(ih0_:CF):CF:=
 Ahg H5 (bin TT .lss 3) g12 g11 (put p13 (Z4 g13 ((Ats call round K ih0_)) (Abr)))
def Avl(call round:Ae)(K:Nat):FnT:=Yz 27 (Abe 213 g0 (put p2 (E9 g1 (put p7 (Ain g7 (put p8 (Xe 6 g8 (put p9 (E9 g9 (put p10 (Atq g10 (put p11 (mv (Ez (.int .i64 (.ofNat 0))) p12 (Adu (Atj call round K) K))))))))))))))
theorem Aph(call round:Ae)(K:Nat):Ly TT call round K 146=Avl call round K:=by kernel_rfl
def Aax:CF:=(R9 TT [.cell 2 4])
def Ajm(call round:Ae)(K:Nat):CF:=
 Oa 1 g2 (Ez (.bool true)) (Vc (Aax))
def Au5(call round:Ae)(K:Nat):CF:=
 Xe 3 g1 (put p26 (E9 g26 (put p27 (Mb call 81 (fun tm=>[g27 tm]) (put p28 (Pw TT call 159 36 none 0 (fun _=>Bw) [(0,(Ajm call round K))] Aax ((Ajm call round K))))))))
def Akk(call round:Ae)(K:Nat):CF:=
 Aca g20 (Ez (.bool true)) g24 (put p25 (Z4 g25 (Oa 1 g2 (Ez (.bool false)) (Vc (Aax))) ((Au5 call round K))))
def Am3(call round:Ae)(K:Nat):CF:=
 Aca g14 (Ez (.bool true)) g18 (put p19 (mv g19 p20 (Aak (Ab7 o20 false) (Xe 2 g1 (put p21 (E9 g21 (put p22 (Mb call 209 (fun tm=>[g22 tm,(Ez (.int .i64 (.ofNat 281474976710655))) tm]) (put p23 (Alp g23 (put p24 ((Akk call round K)))))))))) (put p21 (put p22 (put p23 (put p24 ((Akk call round K)) (.tuple [])) (.tuple [])) (.tuple [])) (.tuple [])))))
def Alh(call round:Ae)(K:Nat):CF:=
 Aca g8 (Ez (.bool true)) g12 (put p13 (mv g13 p14 (Aak (Ab7 o14 false) (Xe 1 g1 (put p15 (E9 g15 (put p16 (Mb call 209 (fun tm=>[g16 tm,(Ez (.int .i64 (.ofNat 4294967295))) tm]) (put p17 (Alp g17 (put p18 ((Am3 call round K)))))))))) (put p15 (put p16 (put p17 (put p18 ((Am3 call round K)) (.tuple [])) (.tuple [])) (.tuple [])) (.tuple [])))))
def Avr(call round:Ae)(K:Nat):FnT:=Yz 36 (Abe 163 g0 (put p1 (N4 [(.bool false)] 4 (put p2 (Xe 3 g1 (put p5 (E9 g5 (put p6 (Ahg G7 (bin TT .eql 49) g6 (Ez .Bj) (put p7 (mv g7 p8 (Aak (Ab7 o8 false) (Xe 0 g1 (put p9 (E9 g9 (put p10 (Mb call 209 (fun tm=>[g10 tm,(Ez (.int .i64 (.ofNat 281474976710655))) tm]) (put p11 (Alp g11 (put p12 ((Alh call round K)))))))))) (put p9 (put p10 (put p11 (put p12 ((Alh call round K)) (.tuple [])) (.tuple [])) (.tuple [])) (.tuple []))))))))))))))
theorem Ar0(call round:Ae)(K:Nat):Ly TT call round K 159=Avr call round K:=by kernel_rfl
end
end Go.Ev

namespace Go.Ev
open Go.Proofs
set_option maxRecDepth 100000
noncomputable section
def Atb:List (Nat × FT):=[(18,F18),(20,F20),(27,F27),(80,F80),(84,F84),(144,Avj),(146,Avl),(159,Avr)]
def Zl:Nat->Option FT:=fun f=>Ab2 (pathOf f) (Aaq Atb)
end
theorem Anr:Akt TP Atb:=⟨Aq.of A7 Aua,Aq.of A7 At5,Aq.of A7 Aut,Aq.of A7 At6,Aq.of A7 Atx,Aq.of A7 Apf,Aq.of A7 Aph,Aq.of A7 Ar0,trivial⟩
theorem Ac1:∀ g F,Zl g=some F->Aq TP g F:=fun g F h=>Yl Anr (by rw[<-Tk];exact h)
end Go.Ev

namespace Go.Ev
open Go.Proofs
set_option maxRecDepth 100000
noncomputable section
def mi(n:Nat):EV:=.int .i64 (.ofNat n)
def mb(n:Nat):EV:=.int .u8 (.ofNat n)
def Ad(n:Nat)(v:EV):List EV:=@Nat.rec (fun _=>List EV) [] (fun _ ih=>v::ih) n
def Bl:List EV:=[.int .u32 (.ofNat 0),.int .u32 (.ofNat 4067132163),.int .u32 (.ofNat 3778769143),.int .u32 (.ofNat 324072436),.int .u32 (.ofNat 3348797215),.int .u32 (.ofNat 904991772),.int .u32 (.ofNat 648144872),.int .u32 (.ofNat 3570033899),.int .u32 (.ofNat 2329499855),.int .u32 (.ofNat 2024987596),.int .u32 (.ofNat 1809983544),.int .u32 (.ofNat 2575936315),.int .u32 (.ofNat 1296289744),.int .u32 (.ofNat 3207089363),.int .u32 (.ofNat 2893594407),.int .u32 (.ofNat 1578318884),.int .u32 (.ofNat 274646895),.int .u32 (.ofNat 3795141740),.int .u32 (.ofNat 4049975192),.int .u32 (.ofNat 51262619),.int .u32 (.ofNat 3619967088),.int .u32 (.ofNat 632279923),.int .u32 (.ofNat 922689671),.int .u32 (.ofNat 3298075524),.int .u32 (.ofNat 2592579488),.int .u32 (.ofNat 1760304291),.int .u32 (.ofNat 2075979607),.int .u32 (.ofNat 2312596564),.int .u32 (.ofNat 1562183871),.int .u32 (.ofNat 2943781820),.int .u32 (.ofNat 3156637768),.int .u32 (.ofNat 1313733451),.int .u32 (.ofNat 549293790),.int .u32 (.ofNat 3537243613),.int .u32 (.ofNat 3246849577),.int .u32 (.ofNat 871202090),.int .u32 (.ofNat 3878099393),.int .u32 (.ofNat 357341890),.int .u32 (.ofNat 102525238),.int .u32 (.ofNat 4101499445),.int .u32 (.ofNat 2858735121),.int .u32 (.ofNat 1477399826),.int .u32 (.ofNat 1264559846),.int .u32 (.ofNat 3107202533),.int .u32 (.ofNat 1845379342),.int .u32 (.ofNat 2677391885),.int .u32 (.ofNat 2361733625),.int .u32 (.ofNat 2125378298),.int .u32 (.ofNat 820201905),.int .u32 (.ofNat 3263744690),.int .u32 (.ofNat 3520608582),.int .u32 (.ofNat 598981189),.int .u32 (.ofNat 4151959214),.int .u32 (.ofNat 85089709),.int .u32 (.ofNat 373468761),.int .u32 (.ofNat 3827903834),.int .u32 (.ofNat 3124367742),.int .u32 (.ofNat 1213305469),.int .u32 (.ofNat 1526817161),.int .u32 (.ofNat 2842354314),.int .u32 (.ofNat 2107672161),.int .u32 (.ofNat 2412447074),.int .u32 (.ofNat 2627466902),.int .u32 (.ofNat 1861252501),.int .u32 (.ofNat 1098587580),.int .u32 (.ofNat 3004210879),.int .u32 (.ofNat 2688576843),.int .u32 (.ofNat 1378610760),.int .u32 (.ofNat 2262928035),.int .u32 (.ofNat 1955203488),.int .u32 (.ofNat 1742404180),.int .u32 (.ofNat 2511436119),.int .u32 (.ofNat 3416409459),.int .u32 (.ofNat 969524848),.int .u32 (.ofNat 714683780),.int .u32 (.ofNat 3639785095),.int .u32 (.ofNat 205050476),.int .u32 (.ofNat 4266873199),.int .u32 (.ofNat 3976438427),.int .u32 (.ofNat 526918040),.int .u32 (.ofNat 1361435347),.int .u32 (.ofNat 2739821008),.int .u32 (.ofNat 2954799652),.int .u32 (.ofNat 1114974503),.int .u32 (.ofNat 2529119692),.int .u32 (.ofNat 1691668175),.int .u32 (.ofNat 2005155131),.int .u32 (.ofNat 2247081528),.int .u32 (.ofNat 3690758684),.int .u32 (.ofNat 697762079),.int .u32 (.ofNat 986182379),.int .u32 (.ofNat 3366744552),.int .u32 (.ofNat 476452099),.int .u32 (.ofNat 3993867776),.int .u32 (.ofNat 4250756596),.int .u32 (.ofNat 255256311),.int .u32 (.ofNat 1640403810),.int .u32 (.ofNat 2477592673),.int .u32 (.ofNat 2164122517),.int .u32 (.ofNat 1922457750),.int .u32 (.ofNat 2791048317),.int .u32 (.ofNat 1412925310),.int .u32 (.ofNat 1197962378),.int .u32 (.ofNat 3037525897),.int .u32 (.ofNat 3944729517),.int .u32 (.ofNat 427051182),.int .u32 (.ofNat 170179418),.int .u32 (.ofNat 4165941337),.int .u32 (.ofNat 746937522),.int .u32 (.ofNat 3740196785),.int .u32 (.ofNat 3451792453),.int .u32 (.ofNat 1070968646),.int .u32 (.ofNat 1905808397),.int .u32 (.ofNat 2213795598),.int .u32 (.ofNat 2426610938),.int .u32 (.ofNat 1657317369),.int .u32 (.ofNat 3053634322),.int .u32 (.ofNat 1147748369),.int .u32 (.ofNat 1463399397),.int .u32 (.ofNat 2773627110),.int .u32 (.ofNat 4215344322),.int .u32 (.ofNat 153784257),.int .u32 (.ofNat 444234805),.int .u32 (.ofNat 3893493558),.int .u32 (.ofNat 1021025245),.int .u32 (.ofNat 3467647198),.int .u32 (.ofNat 3722505002),.int .u32 (.ofNat 797665321),.int .u32 (.ofNat 2197175160),.int .u32 (.ofNat 1889384571),.int .u32 (.ofNat 1674398607),.int .u32 (.ofNat 2443626636),.int .u32 (.ofNat 1164749927),.int .u32 (.ofNat 3070701412),.int .u32 (.ofNat 2757221520),.int .u32 (.ofNat 1446797203),.int .u32 (.ofNat 137323447),.int .u32 (.ofNat 4198817972),.int .u32 (.ofNat 3910406976),.int .u32 (.ofNat 461344835),.int .u32 (.ofNat 3484808360),.int .u32 (.ofNat 1037989803),.int .u32 (.ofNat 781091935),.int .u32 (.ofNat 3705997148),.int .u32 (.ofNat 2460548119),.int .u32 (.ofNat 1623424788),.int .u32 (.ofNat 1939049696),.int .u32 (.ofNat 2180517859),.int .u32 (.ofNat 1429367560),.int .u32 (.ofNat 2807687179),.int .u32 (.ofNat 3020495871),.int .u32 (.ofNat 1180866812),.int .u32 (.ofNat 410100952),.int .u32 (.ofNat 3927582683),.int .u32 (.ofNat 4182430767),.int .u32 (.ofNat 186734380),.int .u32 (.ofNat 3756733383),.int .u32 (.ofNat 763408580),.int .u32 (.ofNat 1053836080),.int .u32 (.ofNat 3434856499),.int .u32 (.ofNat 2722870694),.int .u32 (.ofNat 1344288421),.int .u32 (.ofNat 1131464017),.int .u32 (.ofNat 2971354706),.int .u32 (.ofNat 1708204729),.int .u32 (.ofNat 2545590714),.int .u32 (.ofNat 2229949006),.int .u32 (.ofNat 1988219213),.int .u32 (.ofNat 680717673),.int .u32 (.ofNat 3673779818),.int .u32 (.ofNat 3383336350),.int .u32 (.ofNat 1002577565),.int .u32 (.ofNat 4010310262),.int .u32 (.ofNat 493091189),.int .u32 (.ofNat 238226049),.int .u32 (.ofNat 4233660802),.int .u32 (.ofNat 2987750089),.int .u32 (.ofNat 1082061258),.int .u32 (.ofNat 1395524158),.int .u32 (.ofNat 2705686845),.int .u32 (.ofNat 1972364758),.int .u32 (.ofNat 2279892693),.int .u32 (.ofNat 2494862625),.int .u32 (.ofNat 1725896226),.int .u32 (.ofNat 952904198),.int .u32 (.ofNat 3399985413),.int .u32 (.ofNat 3656866545),.int .u32 (.ofNat 731699698),.int .u32 (.ofNat 4283874585),.int .u32 (.ofNat 222117402),.int .u32 (.ofNat 510512622),.int .u32 (.ofNat 3959836397),.int .u32 (.ofNat 3280807620),.int .u32 (.ofNat 837199303),.int .u32 (.ofNat 582374963),.int .u32 (.ofNat 3504198960),.int .u32 (.ofNat 68661723),.int .u32 (.ofNat 4135334616),.int .u32 (.ofNat 3844915500),.int .u32 (.ofNat 390545967),.int .u32 (.ofNat 1230274059),.int .u32 (.ofNat 3141532936),.int .u32 (.ofNat 2825850620),.int .u32 (.ofNat 1510247935),.int .u32 (.ofNat 2395924756),.int .u32 (.ofNat 2091215383),.int .u32 (.ofNat 1878366691),.int .u32 (.ofNat 2644384480),.int .u32 (.ofNat 3553878443),.int .u32 (.ofNat 565732008),.int .u32 (.ofNat 854102364),.int .u32 (.ofNat 3229815391),.int .u32 (.ofNat 340358836),.int .u32 (.ofNat 3861050807),.int .u32 (.ofNat 4117890627),.int .u32 (.ofNat 119113024),.int .u32 (.ofNat 1493875044),.int .u32 (.ofNat 2875275879),.int .u32 (.ofNat 3090270611),.int .u32 (.ofNat 1247431312),.int .u32 (.ofNat 2660249211),.int .u32 (.ofNat 1828433272),.int .u32 (.ofNat 2141937292),.int .u32 (.ofNat 2378227087),.int .u32 (.ofNat 3811616794),.int .u32 (.ofNat 291187481),.int .u32 (.ofNat 34330861),.int .u32 (.ofNat 4032846830),.int .u32 (.ofNat 615137029),.int .u32 (.ofNat 3603020806),.int .u32 (.ofNat 3314634738),.int .u32 (.ofNat 939183345),.int .u32 (.ofNat 1776939221),.int .u32 (.ofNat 2609017814),.int .u32 (.ofNat 2295496738),.int .u32 (.ofNat 2058945313),.int .u32 (.ofNat 2926798794),.int .u32 (.ofNat 1545135305),.int .u32 (.ofNat 1330124605),.int .u32 (.ofNat 3173225534),.int .u32 (.ofNat 4084100981),.int .u32 (.ofNat 17165430),.int .u32 (.ofNat 307568514),.int .u32 (.ofNat 3762199681),.int .u32 (.ofNat 888469610),.int .u32 (.ofNat 3332340585),.int .u32 (.ofNat 3587147933),.int .u32 (.ofNat 665062302),.int .u32 (.ofNat 2042050490),.int .u32 (.ofNat 2346497209),.int .u32 (.ofNat 2559330125),.int .u32 (.ofNat 1793573966),.int .u32 (.ofNat 3190661285),.int .u32 (.ofNat 1279665062),.int .u32 (.ofNat 1595330642),.int .u32 (.ofNat 2910671697)]
def Aaf:EV:=.agg Bl
def Abn:FT:=fun _ _ _ args h=>@List.rec EV (fun _=>R) (some (Aaf,h)) (fun _ _ _=>none) args
def Agp(_:Nat)(h:Ac):R:=some (Aaf,h)
end
structure Bp(disp:Nat->Option FT):Prop where
 plain:∀ g,Amp g=true->disp g=Zl g
 crc:disp 63=some Abn
theorem Abz {disp:Nat->Option FT}(H:Bp disp){K d:Nat}(hd:1<=d)(h:Ac):Af TT disp K d false 63 [] h=Agp K h:=by
 obtain⟨d,rfl⟩:∃ e,d=e+1:=⟨d-1,by omega⟩
 rw[X1 H.crc];rfl
noncomputable def Avm(g:Nat):Bool:=Al (Amp g) (match Zl g with|none=>true|some _=>false) false
theorem Bp.bare {disp:Nat->Option FT}(H:Bp disp){g:Nat}(e:Avm g=true):disp g=none:=by
 obtain⟨h1,h2⟩:=Ih e
 rw[H.plain g h1]
 cases hx:Zl g with
 | none=>rfl
 | some _=>rw[hx]at h2;cases h2
theorem V6 {disp:Nat->Option FT}{g d K:Nat}{args:List EV}{h:Ac}{X:R}{C:Ae}{B:CD}(hn:disp g=none)(hk:Aun TT g (Kb args)=true)(e:Af TT disp K d false=C)
 (hx:Gc TT C (Af TT disp K d false) (Af TT disp K d true) K (nOf TT g) (Hc TT g) .no (Ul TT g) [] (Hc TT g)=B) (hy:B (Wx args 0 u0) h=X):Af TT disp K (d+1) false g args h=X:=by
 have e0:Af TT disp K (d+1) false g args h=Ly TT (Af TT disp K d false) (Af TT disp K d true) K g args h:=by
  have e:Af TT disp K (d+1) false g args h = @Option.rec FT (fun _=>FnT) (Ly TT (Af TT disp K d false) (Af TT disp K d true) K g) (fun F=>F (Af TT disp K d false) (Af TT disp K d true) K) (disp g) args h:=rfl
  rw[e,hn]
 rw[e0,Ai0 hk]
 exact(congrArg (fun C=>Gc TT C (Af TT disp K d false) (Af TT disp K d true) K (nOf TT g) (Hc TT g) .no (Ul TT g) [] (Hc TT g) (Wx args 0 u0) h) e).trans ((congrFun (congrFun hx _) h).trans hy)
theorem Ek {disp:Nat->Option FT}{g m d K:Nat}{args:List EV}{h:Ac}{X:R}{C:Nat->Ae}{B:Nat->Ae->Ae->CD}(hn:disp g=none)(hd:m+1<=d)(hk:Aun TT g (Kb args)=true)
 (e:∀ d,m<=d->Af TT disp K d false=C d) (hx:∀ d c r,Gc TT (C d) c r K (nOf TT g) (Hc TT g) .no (Ul TT g) [] (Hc TT g)=B d c r) (hy:∀ d c r,B d c r (Wx args 0 u0) h=X):Af TT disp K d false g args h=X:=by
 obtain⟨d,rfl⟩:∃ e,d=e+1:=⟨d-1,by omega⟩
 exact V6 hn hk (e d (Nat.le_of_succ_le_succ hd)) (hx _ _ _) (hy _ _ _)
end Go.Ev
