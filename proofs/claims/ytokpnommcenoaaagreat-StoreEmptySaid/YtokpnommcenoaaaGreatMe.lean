import Derived.Test.YtokpnommcenoaaaGreatCrc
set_option linter.unusedVariables false
set_option linter.unusedSimpArgs false
set_option linter.unusedSectionVars false
namespace Go.Ev
open Go.Proofs
set_option maxRecDepth 100000
noncomputable section
def mK1:Bs:=⟨[(.agg [(mi 3),(mi 8),(mi 8),(mi 4),(mi 0),(mi 4)]),(mi 1),(.agg (Aa [(mi 0),(mi 0),(mi 4),(mi 0),(mi 0),(mi 1),(mi 1),(mb 1),(mb 0),(mb 0),(mb 0),(mb 0),(mb 0),(mb 3),(mb 8),(mb 8),(mb 4),(mb 0),(mb 0),(mb 4)] (Ad 31 (mb 0))))],16058,[],(.tuple [(.agg (Aa [(mi 0),(mi 0),(mi 0),(mi 0),(mi 0),(mi 0)] (Ad 32 (mb 0)))),(.bool false)]),16077,16058,[]⟩
def mK2:Bs:=⟨[(.agg [(mi 3),(mi 8),(mi 8),(mi 4),(mi 0),(mi 4)]),(mi 1),(.agg (Aa [(mi 0),(mi 1),(mi 5),(mi 0),(mi 1),(mi 1),(mi 1),(mb 1)] (Ad 43 (mb 0))))],16080,[],(.tuple [(.agg (Aa [(mi 0),(mi 0),(mi 0),(mi 0),(mi 0),(mi 0)] (Ad 32 (mb 0)))),(.bool false)]),16099,16080,[]⟩
def mK3:Bs:=⟨[(.agg [(mi 3),(mi 8),(mi 8),(mi 4),(mi 0),(mi 4)]),(mi 1),(.agg (Aa [(mi 0),(mi 2),(mi 5),(mi 0),(mi 2),(mi 1),(mi 1),(mb 2)] (Ad 43 (mb 0))))],16102,[],(.tuple [(.agg (Aa [(mi 0),(mi 0),(mi 0),(mi 0),(mi 0),(mi 0)] (Ad 32 (mb 0)))),(.bool false)]),16121,16102,[]⟩
def mK4:Bs:=⟨[(.agg [(mi 3),(mi 8),(mi 8),(mi 4),(mi 0),(mi 4)]),(mi 1),(.agg (Aa [(mi 1),(mi 0),(mi 1),(mi 1),(mi 0),(mi 1),(mi 1),(mb 1),(mb 0),(mb 0),(mb 0),(mb 0),(mb 0),(mb 1),(mb 0),(mb 0),(mb 0),(mb 9),(mb 0)] (Ad 32 (mb 9))))],16124,[],(.tuple [(.agg (Aa [(mi 1),(mi 1),(mi 1),(mi 0),(mi 0),(mi 9)] (Ad 32 (mb 9)))),(.bool true)]),16227,16124,[]⟩
def mK5:Bs:=⟨[(.agg [(mi 3),(mi 8),(mi 8),(mi 4),(mi 0),(mi 4)]),(mi 1),(.agg (Aa [(mi 2),(mi 0),(mi 4),(mi 2),(mi 0),(mi 1),(mi 2),(mb 2),(mb 0),(mb 0),(mb 0),(mb 0),(mb 0),(mb 3),(mb 8),(mb 8),(mb 4),(mb 0),(mb 0),(mb 4)] (Ad 31 (mb 0))))],16230,[],(.tuple [(.agg (Aa [(mi 0),(mi 0),(mi 0),(mi 0),(mi 0),(mi 0)] (Ad 32 (mb 0)))),(.bool false)]),16249,16230,[]⟩
def mK6:Bs:=⟨[(.agg [(mi 3),(mi 8),(mi 8),(mi 4),(mi 0),(mi 4)]),(mi 1),(.agg (Aa [(mi 2),(mi 1),(mi 5),(mi 2),(mi 1),(mi 1),(mi 2),(mb 1),(mb 1),(mb 1),(mb 0),(mb 9),(mb 0),(mb 0),(mb 1),(mb 0),(mb 0),(mb 0),(mb 0),(mb 0),(mb 7),(mb 151),(mb 141),(mb 111)] (Ad 27 (mb 0))))],16252,[],(.tuple [(.agg (Aa [(mi 0),(mi 0),(mi 0),(mi 0),(mi 0),(mi 0)] (Ad 32 (mb 0)))),(.bool false)]),16271,16252,[]⟩
def mK7:Bs:=⟨[(.agg [(mi 3),(mi 8),(mi 8),(mi 4),(mi 0),(mi 4)]),(mi 1),(.agg (Aa [(mi 2),(mi 2),(mi 5),(mi 2),(mi 2),(mi 1),(mi 2),(mb 2)] (Ad 43 (mb 0))))],16274,[],(.tuple [(.agg (Aa [(mi 0),(mi 0),(mi 0),(mi 0),(mi 0),(mi 0)] (Ad 32 (mb 0)))),(.bool false)]),16293,16274,[]⟩
def mK8:Bs:=⟨[(.agg [(mi 3),(mi 8),(mi 8),(mi 4),(mi 0),(mi 4)]),(mi 1),(.agg (Aa [(mi 8),(mi 0),(mi 4),(mi 8),(mi 0),(mi 1),(mi 1),(mb 1),(mb 0),(mb 0),(mb 0),(mb 0),(mb 0),(mb 3),(mb 8),(mb 8),(mb 4),(mb 0),(mb 0),(mb 4)] (Ad 31 (mb 0))))],16296,[],(.tuple [(.agg (Aa [(mi 0),(mi 0),(mi 0),(mi 0),(mi 0),(mi 0)] (Ad 32 (mb 0)))),(.bool false)]),16315,16296,[]⟩
def mK9:Bs:=⟨[(.agg [(mi 3),(mi 8),(mi 8),(mi 4),(mi 0),(mi 4)]),(mi 1),(.agg (Aa [(mi 8),(mi 1),(mi 5),(mi 8),(mi 1),(mi 1),(mi 1),(mb 1)] (Ad 43 (mb 0))))],16318,[],(.tuple [(.agg (Aa [(mi 0),(mi 0),(mi 0),(mi 0),(mi 0),(mi 0)] (Ad 32 (mb 0)))),(.bool false)]),16337,16318,[]⟩
def Am2:Bs:=⟨[(.agg [(mi 3),(mi 8),(mi 8),(mi 4),(mi 0),(mi 4)]),(mi 1),(.agg (Aa [(mi 8),(mi 2),(mi 5),(mi 8),(mi 2),(mi 1),(mi 1),(mb 2)] (Ad 43 (mb 0))))],16340,[],(.tuple [(.agg (Aa [(mi 0),(mi 0),(mi 0),(mi 0),(mi 0),(mi 0)] (Ad 32 (mb 0)))),(.bool false)]),16359,16340,[]⟩
def Aol:Bs:=⟨[(.agg [(mi 3),(mi 8),(mi 8),(mi 4),(mi 0),(mi 4)]),(mi 1),(.agg (Aa [(mi 9),(mi 0),(mi 1),(mi 9),(mi 0),(mi 1),(mi 1),(mb 1),(mb 0),(mb 0),(mb 0),(mb 0),(mb 0),(mb 1),(mb 0),(mb 0),(mb 0),(mb 1),(mb 0)] (Ad 32 (mb 9))))],16362,[],(.tuple [(.agg (Aa [(mi 1),(mi 1),(mi 1),(mi 0),(mi 0),(mi 1)] (Ad 32 (mb 9)))),(.bool true)]),16465,16362,[]⟩
def Ann:Bs:=⟨[(.agg [(mi 3),(mi 8),(mi 8),(mi 4),(mi 0),(mi 4)]),(mi 1),(.agg (Aa [(mi 10),(mi 0),(mi 4),(mi 10),(mi 0),(mi 1),(mi 2),(mb 2),(mb 0),(mb 0),(mb 0),(mb 0),(mb 0),(mb 3),(mb 8),(mb 8),(mb 4),(mb 0),(mb 0),(mb 4)] (Ad 31 (mb 0))))],16468,[],(.tuple [(.agg (Aa [(mi 0),(mi 0),(mi 0),(mi 0),(mi 0),(mi 0)] (Ad 32 (mb 0)))),(.bool false)]),16487,16468,[]⟩
def Ajr:Bs:=⟨[(.agg [(mi 3),(mi 8),(mi 8),(mi 4),(mi 0),(mi 4)]),(mi 1),(.agg (Aa [(mi 10),(mi 1),(mi 5),(mi 10),(mi 1),(mi 1),(mi 2),(mb 1),(mb 1),(mb 1),(mb 0),(mb 9),(mb 0),(mb 0),(mb 1),(mb 0),(mb 0),(mb 0),(mb 0),(mb 0),(mb 7),(mb 151),(mb 141),(mb 111)] (Ad 27 (mb 0))))],16490,[],(.tuple [(.agg (Aa [(mi 0),(mi 0),(mi 0),(mi 0),(mi 0),(mi 0)] (Ad 32 (mb 0)))),(.bool false)]),16509,16490,[]⟩
def Aji:Bs:=⟨[(.agg [(mi 3),(mi 8),(mi 8),(mi 4),(mi 0),(mi 4)]),(mi 1),(.agg (Aa [(mi 10),(mi 2),(mi 5),(mi 10),(mi 2),(mi 1),(mi 2),(mb 2)] (Ad 43 (mb 0))))],16512,[],(.tuple [(.agg (Aa [(mi 0),(mi 0),(mi 0),(mi 0),(mi 0),(mi 0)] (Ad 32 (mb 0)))),(.bool false)]),16531,16512,[]⟩
def Anp:Bs:=⟨[(.agg [(mi 3),(mi 8),(mi 8),(mi 4),(mi 0),(mi 4)]),(mi 1),(.agg (Aa [(mi 16),(mi 0),(mi 4),(mi 16),(mi 0),(mi 1),(mi 1),(mb 1),(mb 0),(mb 0),(mb 0),(mb 0),(mb 0),(mb 3),(mb 8),(mb 8),(mb 4),(mb 0),(mb 0),(mb 4)] (Ad 31 (mb 0))))],16534,[],(.tuple [(.agg (Aa [(mi 0),(mi 0),(mi 0),(mi 0),(mi 0),(mi 0)] (Ad 32 (mb 0)))),(.bool false)]),16553,16534,[]⟩
def Ajh:Bs:=⟨[(.agg [(mi 3),(mi 8),(mi 8),(mi 4),(mi 0),(mi 4)]),(mi 1),(.agg (Aa [(mi 16),(mi 1),(mi 5),(mi 16),(mi 1),(mi 1),(mi 1),(mb 1)] (Ad 43 (mb 0))))],16556,[],(.tuple [(.agg (Aa [(mi 0),(mi 0),(mi 0),(mi 0),(mi 0),(mi 0)] (Ad 32 (mb 0)))),(.bool false)]),16575,16556,[]⟩
def Aop:Bs:=⟨[(.agg [(mi 3),(mi 8),(mi 8),(mi 4),(mi 0),(mi 4)]),(mi 1),(.agg (Aa [(mi 16),(mi 2),(mi 5),(mi 16),(mi 2),(mi 1),(mi 1),(mb 2)] (Ad 43 (mb 0))))],16578,[],(.tuple [(.agg (Aa [(mi 0),(mi 0),(mi 0),(mi 0),(mi 0),(mi 0)] (Ad 32 (mb 0)))),(.bool false)]),16597,16578,[]⟩
def Akl:Bs:=⟨[(.agg [(mi 3),(mi 8),(mi 8),(mi 4),(mi 0),(mi 4)]),(mi 1),(.agg (Aa [(mi 17),(mi 0),(mi 4),(mi 17),(mi 0),(mi 1),(mi 2),(mb 2),(mb 0),(mb 0),(mb 0),(mb 0),(mb 0),(mb 3),(mb 8),(mb 8),(mb 4),(mb 0),(mb 0),(mb 4)] (Ad 31 (mb 0))))],16600,[],(.tuple [(.agg (Aa [(mi 0),(mi 0),(mi 0),(mi 0),(mi 0),(mi 0)] (Ad 32 (mb 0)))),(.bool false)]),16619,16600,[]⟩
def Anj:Bs:=⟨[(.agg [(mi 3),(mi 8),(mi 8),(mi 4),(mi 0),(mi 4)]),(mi 1),(.agg (Aa [(mi 17),(mi 1),(mi 5),(mi 17),(mi 1),(mi 1),(mi 2),(mb 1),(mb 1),(mb 1),(mb 0),(mb 9),(mb 0),(mb 0),(mb 1),(mb 0),(mb 0),(mb 0),(mb 0),(mb 0),(mb 7),(mb 151),(mb 141),(mb 111)] (Ad 27 (mb 0))))],16622,[],(.tuple [(.agg (Aa [(mi 0),(mi 0),(mi 0),(mi 0),(mi 0),(mi 0)] (Ad 32 (mb 0)))),(.bool false)]),16641,16622,[]⟩
def Am5:Bs:=⟨[(.agg [(mi 3),(mi 8),(mi 8),(mi 4),(mi 0),(mi 4)]),(mi 1),(.agg (Aa [(mi 17),(mi 2),(mi 5),(mi 17),(mi 2),(mi 1),(mi 2),(mb 2)] (Ad 43 (mb 0))))],16644,[],(.tuple [(.agg (Aa [(mi 0),(mi 0),(mi 0),(mi 0),(mi 0),(mi 0)] (Ad 32 (mb 0)))),(.bool false)]),16663,16644,[]⟩
end
theorem Aqy:Bx (Af TT Ay many 60 false 171 mK1.args mK1.heap) mK1=true:=by kernel_rfl
theorem Atz(F:FT)(h:Aq TP 171 F):Aq TP 171 (An mK1 F):=Ao h (Am A7 Ai many 60).1 Aqy
theorem Arp:Bx (Af TT Ay many 60 false 171 mK2.args mK2.heap) mK2=true:=by kernel_rfl
theorem Aur(F:FT)(h:Aq TP 171 F):Aq TP 171 (An mK2 F):=Ao h (Am A7 Ai many 60).1 Arp
theorem Aps:Bx (Af TT Ay many 60 false 171 mK3.args mK3.heap) mK3=true:=by kernel_rfl
theorem Atl(F:FT)(h:Aq TP 171 F):Aq TP 171 (An mK3 F):=Ao h (Am A7 Ai many 60).1 Aps
theorem Aqp:Bx (Af TT Ay many 60 false 171 mK4.args mK4.heap) mK4=true:=by kernel_rfl
theorem Aug(F:FT)(h:Aq TP 171 F):Aq TP 171 (An mK4 F):=Ao h (Am A7 Ai many 60).1 Aqp
theorem Aqh:Bx (Af TT Ay many 60 false 171 mK5.args mK5.heap) mK5=true:=by kernel_rfl
theorem Au1(F:FT)(h:Aq TP 171 F):Aq TP 171 (An mK5 F):=Ao h (Am A7 Ai many 60).1 Aqh
theorem Aq5:Bx (Af TT Ay many 60 false 171 mK6.args mK6.heap) mK6=true:=by kernel_rfl
theorem Auy(F:FT)(h:Aq TP 171 F):Aq TP 171 (An mK6 F):=Ao h (Am A7 Ai many 60).1 Aq5
theorem Are:Bx (Af TT Ay many 60 false 171 mK7.args mK7.heap) mK7=true:=by kernel_rfl
theorem Aus(F:FT)(h:Aq TP 171 F):Aq TP 171 (An mK7 F):=Ao h (Am A7 Ai many 60).1 Are
theorem Aqk:Bx (Af TT Ay many 60 false 171 mK8.args mK8.heap) mK8=true:=by kernel_rfl
theorem Atg(F:FT)(h:Aq TP 171 F):Aq TP 171 (An mK8 F):=Ao h (Am A7 Ai many 60).1 Aqk
theorem Apm:Bx (Af TT Ay many 60 false 171 mK9.args mK9.heap) mK9=true:=by kernel_rfl
theorem Au0(F:FT)(h:Aq TP 171 F):Aq TP 171 (An mK9 F):=Ao h (Am A7 Ai many 60).1 Apm
theorem Amf:Bx (Af TT Ay many 60 false 171 Am2.args Am2.heap) Am2=true:=by kernel_rfl
theorem Aq3(F:FT)(h:Aq TP 171 F):Aq TP 171 (An Am2 F):=Ao h (Am A7 Ai many 60).1 Amf
theorem Aj6:Bx (Af TT Ay many 60 false 171 Aol.args Aol.heap) Aol=true:=by kernel_rfl
theorem Arj(F:FT)(h:Aq TP 171 F):Aq TP 171 (An Aol F):=Ao h (Am A7 Ai many 60).1 Aj6
theorem Akx:Bx (Af TT Ay many 60 false 171 Ann.args Ann.heap) Ann=true:=by kernel_rfl
theorem Aqi(F:FT)(h:Aq TP 171 F):Aq TP 171 (An Ann F):=Ao h (Am A7 Ai many 60).1 Akx
theorem Ai5:Bx (Af TT Ay many 60 false 171 Ajr.args Ajr.heap) Ajr=true:=by kernel_rfl
theorem Ar2(F:FT)(h:Aq TP 171 F):Aq TP 171 (An Ajr F):=Ao h (Am A7 Ai many 60).1 Ai5
theorem Anv:Bx (Af TT Ay many 60 false 171 Aji.args Aji.heap) Aji=true:=by kernel_rfl
theorem Arw(F:FT)(h:Aq TP 171 F):Aq TP 171 (An Aji F):=Ao h (Am A7 Ai many 60).1 Anv
theorem Ai8:Bx (Af TT Ay many 60 false 171 Anp.args Anp.heap) Anp=true:=by kernel_rfl
theorem Ase(F:FT)(h:Aq TP 171 F):Aq TP 171 (An Anp F):=Ao h (Am A7 Ai many 60).1 Ai8
theorem Aln:Bx (Af TT Ay many 60 false 171 Ajh.args Ajh.heap) Ajh=true:=by kernel_rfl
theorem Arc(F:FT)(h:Aq TP 171 F):Aq TP 171 (An Ajh F):=Ao h (Am A7 Ai many 60).1 Aln
theorem Anq:Bx (Af TT Ay many 60 false 171 Aop.args Aop.heap) Aop=true:=by kernel_rfl
theorem Asq(F:FT)(h:Aq TP 171 F):Aq TP 171 (An Aop F):=Ao h (Am A7 Ai many 60).1 Anq
theorem Ak2:Bx (Af TT Ay many 60 false 171 Akl.args Akl.heap) Akl=true:=by kernel_rfl
theorem Asm(F:FT)(h:Aq TP 171 F):Aq TP 171 (An Akl F):=Ao h (Am A7 Ai many 60).1 Ak2
theorem Ajs:Bx (Af TT Ay many 60 false 171 Anj.args Anj.heap) Anj=true:=by kernel_rfl
theorem Arl(F:FT)(h:Aq TP 171 F):Aq TP 171 (An Anj F):=Ao h (Am A7 Ai many 60).1 Ajs
theorem Amc:Bx (Af TT Ay many 60 false 171 Am5.args Am5.heap) Am5=true:=by kernel_rfl
theorem Aq2(F:FT)(h:Aq TP 171 F):Aq TP 171 (An Am5 F):=Ao h (Am A7 Ai many 60).1 Amc
end Go.Ev

namespace Go.Ev
open Go.Proofs
set_option maxRecDepth 100000
noncomputable section
def Alk:Bs:=⟨[(.agg [(mi 3),(mi 8),(mi 8),(mi 4),(mi 0),(mi 4)]),(mi 1),(.agg (Aa [(mi 0),(mi 0),(mi 4),(mi 0),(mi 0),(mi 1),(mi 1),(mb 1),(mb 0),(mb 0),(mb 0),(mb 0),(mb 0),(mb 3),(mb 8),(mb 8),(mb 4),(mb 0),(mb 0),(mb 4)] (Ad 31 (mb 0))))],18204,[],(.tuple [(.agg (Aa [(mi 0),(mi 0),(mi 0),(mi 0),(mi 0),(mi 0)] (Ad 32 (mb 0)))),(.bool false)]),18223,18204,[]⟩
def Amg:Bs:=⟨[(.agg [(mi 3),(mi 8),(mi 8),(mi 4),(mi 0),(mi 4)]),(mi 1),(.agg (Aa [(mi 0),(mi 1),(mi 5),(mi 0),(mi 1),(mi 1),(mi 1),(mb 1)] (Ad 43 (mb 0))))],18226,[],(.tuple [(.agg (Aa [(mi 0),(mi 0),(mi 0),(mi 0),(mi 0),(mi 0)] (Ad 32 (mb 0)))),(.bool false)]),18245,18226,[]⟩
def Aok:Bs:=⟨[(.agg [(mi 3),(mi 8),(mi 8),(mi 4),(mi 0),(mi 4)]),(mi 1),(.agg (Aa [(mi 0),(mi 2),(mi 5),(mi 0),(mi 2),(mi 1),(mi 1),(mb 2)] (Ad 43 (mb 0))))],18248,[],(.tuple [(.agg (Aa [(mi 0),(mi 0),(mi 0),(mi 0),(mi 0),(mi 0)] (Ad 32 (mb 0)))),(.bool false)]),18267,18248,[]⟩
def Akd:Bs:=⟨[(.agg [(mi 3),(mi 8),(mi 8),(mi 4),(mi 0),(mi 4)]),(mi 1),(.agg (Aa [(mi 1),(mi 0),(mi 1),(mi 1),(mi 0),(mi 1),(mi 1),(mb 1),(mb 0),(mb 0),(mb 0),(mb 0),(mb 0),(mb 1),(mb 0),(mb 0),(mb 0),(mb 9),(mb 0)] (Ad 32 (mb 9))))],18270,[],(.tuple [(.agg (Aa [(mi 1),(mi 1),(mi 1),(mi 0),(mi 0),(mi 9)] (Ad 32 (mb 9)))),(.bool true)]),18373,18270,[]⟩
def Ake:Bs:=⟨[(.agg [(mi 3),(mi 8),(mi 8),(mi 4),(mi 0),(mi 4)]),(mi 1),(.agg (Aa [(mi 2),(mi 0),(mi 4),(mi 2),(mi 0),(mi 1),(mi 2),(mb 2),(mb 0),(mb 0),(mb 0),(mb 0),(mb 0),(mb 3),(mb 8),(mb 8),(mb 4),(mb 0),(mb 0),(mb 4)] (Ad 31 (mb 0))))],18376,[],(.tuple [(.agg (Aa [(mi 0),(mi 0),(mi 0),(mi 0),(mi 0),(mi 0)] (Ad 32 (mb 0)))),(.bool false)]),18395,18376,[]⟩
def Ai4:Bs:=⟨[(.agg [(mi 3),(mi 8),(mi 8),(mi 4),(mi 0),(mi 4)]),(mi 1),(.agg (Aa [(mi 2),(mi 1),(mi 5),(mi 2),(mi 1),(mi 1),(mi 2),(mb 1),(mb 1),(mb 1),(mb 0),(mb 9),(mb 0),(mb 0),(mb 1),(mb 0),(mb 0),(mb 0),(mb 0),(mb 0),(mb 7),(mb 151),(mb 141),(mb 111)] (Ad 27 (mb 0))))],18398,[],(.tuple [(.agg (Aa [(mi 0),(mi 0),(mi 0),(mi 0),(mi 0),(mi 0)] (Ad 32 (mb 0)))),(.bool false)]),18417,18398,[]⟩
def Ajy:Bs:=⟨[(.agg [(mi 3),(mi 8),(mi 8),(mi 4),(mi 0),(mi 4)]),(mi 1),(.agg (Aa [(mi 2),(mi 2),(mi 5),(mi 2),(mi 2),(mi 1),(mi 2),(mb 2)] (Ad 43 (mb 0))))],18420,[],(.tuple [(.agg (Aa [(mi 0),(mi 0),(mi 0),(mi 0),(mi 0),(mi 0)] (Ad 32 (mb 0)))),(.bool false)]),18439,18420,[]⟩
def Aku:Bs:=⟨[(.agg [(mi 3),(mi 8),(mi 8),(mi 4),(mi 0),(mi 4)]),(mi 1),(.agg (Aa [(mi 8),(mi 0),(mi 4),(mi 8),(mi 0),(mi 1),(mi 1),(mb 1),(mb 0),(mb 0),(mb 0),(mb 0),(mb 0),(mb 3),(mb 8),(mb 8),(mb 4),(mb 0),(mb 0),(mb 4)] (Ad 31 (mb 0))))],18442,[],(.tuple [(.agg (Aa [(mi 0),(mi 0),(mi 0),(mi 0),(mi 0),(mi 0)] (Ad 32 (mb 0)))),(.bool false)]),18461,18442,[]⟩
def Amo:Bs:=⟨[(.agg [(mi 3),(mi 8),(mi 8),(mi 4),(mi 0),(mi 4)]),(mi 1),(.agg (Aa [(mi 8),(mi 1),(mi 5),(mi 8),(mi 1),(mi 1),(mi 1),(mb 1)] (Ad 43 (mb 0))))],18464,[],(.tuple [(.agg (Aa [(mi 0),(mi 0),(mi 0),(mi 0),(mi 0),(mi 0)] (Ad 32 (mb 0)))),(.bool false)]),18483,18464,[]⟩
def Aly:Bs:=⟨[(.agg [(mi 3),(mi 8),(mi 8),(mi 4),(mi 0),(mi 4)]),(mi 1),(.agg (Aa [(mi 8),(mi 2),(mi 5),(mi 8),(mi 2),(mi 1),(mi 1),(mb 2)] (Ad 43 (mb 0))))],18486,[],(.tuple [(.agg (Aa [(mi 0),(mi 0),(mi 0),(mi 0),(mi 0),(mi 0)] (Ad 32 (mb 0)))),(.bool false)]),18505,18486,[]⟩
def Anf:Bs:=⟨[(.agg [(mi 3),(mi 8),(mi 8),(mi 4),(mi 0),(mi 4)]),(mi 1),(.agg (Aa [(mi 9),(mi 0),(mi 1),(mi 9),(mi 0),(mi 1),(mi 1),(mb 1),(mb 0),(mb 0),(mb 0),(mb 0),(mb 0),(mb 1),(mb 0),(mb 0),(mb 0),(mb 1),(mb 0)] (Ad 32 (mb 9))))],18508,[],(.tuple [(.agg (Aa [(mi 1),(mi 1),(mi 1),(mi 0),(mi 0),(mi 1)] (Ad 32 (mb 9)))),(.bool true)]),18611,18508,[]⟩
def Ak9:Bs:=⟨[(.agg [(mi 3),(mi 8),(mi 8),(mi 4),(mi 0),(mi 4)]),(mi 1),(.agg (Aa [(mi 10),(mi 0),(mi 4),(mi 10),(mi 0),(mi 1),(mi 2),(mb 2),(mb 0),(mb 0),(mb 0),(mb 0),(mb 0),(mb 3),(mb 8),(mb 8),(mb 4),(mb 0),(mb 0),(mb 4)] (Ad 31 (mb 0))))],18614,[],(.tuple [(.agg (Aa [(mi 0),(mi 0),(mi 0),(mi 0),(mi 0),(mi 0)] (Ad 32 (mb 0)))),(.bool false)]),18633,18614,[]⟩
def An0:Bs:=⟨[(.agg [(mi 3),(mi 8),(mi 8),(mi 4),(mi 0),(mi 4)]),(mi 1),(.agg (Aa [(mi 10),(mi 1),(mi 5),(mi 10),(mi 1),(mi 1),(mi 2),(mb 1),(mb 1),(mb 1),(mb 0),(mb 9),(mb 0),(mb 0),(mb 1),(mb 0),(mb 0),(mb 0),(mb 0),(mb 0),(mb 7),(mb 151),(mb 141),(mb 111)] (Ad 27 (mb 0))))],18636,[],(.tuple [(.agg (Aa [(mi 0),(mi 0),(mi 0),(mi 0),(mi 0),(mi 0)] (Ad 32 (mb 0)))),(.bool false)]),18655,18636,[]⟩
def Ajt:Bs:=⟨[(.agg [(mi 3),(mi 8),(mi 8),(mi 4),(mi 0),(mi 4)]),(mi 1),(.agg (Aa [(mi 10),(mi 2),(mi 5),(mi 10),(mi 2),(mi 1),(mi 2),(mb 2)] (Ad 43 (mb 0))))],18658,[],(.tuple [(.agg (Aa [(mi 0),(mi 0),(mi 0),(mi 0),(mi 0),(mi 0)] (Ad 32 (mb 0)))),(.bool false)]),18677,18658,[]⟩
def Alz:Bs:=⟨[(.agg [(mi 3),(mi 8),(mi 8),(mi 4),(mi 0),(mi 4)]),(mi 1),(.agg (Aa [(mi 16),(mi 0),(mi 4),(mi 16),(mi 0),(mi 1),(mi 1),(mb 1),(mb 0),(mb 0),(mb 0),(mb 0),(mb 0),(mb 3),(mb 8),(mb 8),(mb 4),(mb 0),(mb 0),(mb 4)] (Ad 31 (mb 0))))],18680,[],(.tuple [(.agg (Aa [(mi 0),(mi 0),(mi 0),(mi 0),(mi 0),(mi 0)] (Ad 32 (mb 0)))),(.bool false)]),18699,18680,[]⟩
def Ald:Bs:=⟨[(.agg [(mi 3),(mi 8),(mi 8),(mi 4),(mi 0),(mi 4)]),(mi 1),(.agg (Aa [(mi 16),(mi 1),(mi 5),(mi 16),(mi 1),(mi 1),(mi 1),(mb 1)] (Ad 43 (mb 0))))],18702,[],(.tuple [(.agg (Aa [(mi 0),(mi 0),(mi 0),(mi 0),(mi 0),(mi 0)] (Ad 32 (mb 0)))),(.bool false)]),18721,18702,[]⟩
def Ana:Bs:=⟨[(.agg [(mi 3),(mi 8),(mi 8),(mi 4),(mi 0),(mi 4)]),(mi 1),(.agg (Aa [(mi 16),(mi 2),(mi 5),(mi 16),(mi 2),(mi 1),(mi 1),(mb 2)] (Ad 43 (mb 0))))],18724,[],(.tuple [(.agg (Aa [(mi 0),(mi 0),(mi 0),(mi 0),(mi 0),(mi 0)] (Ad 32 (mb 0)))),(.bool false)]),18743,18724,[]⟩
def Ai7:Bs:=⟨[(.agg [(mi 3),(mi 8),(mi 8),(mi 4),(mi 0),(mi 4)]),(mi 1),(.agg (Aa [(mi 17),(mi 0),(mi 4),(mi 17),(mi 0),(mi 1),(mi 2),(mb 2),(mb 0),(mb 0),(mb 0),(mb 0),(mb 0),(mb 3),(mb 8),(mb 8),(mb 4),(mb 0),(mb 0),(mb 4)] (Ad 31 (mb 0))))],18746,[],(.tuple [(.agg (Aa [(mi 0),(mi 0),(mi 0),(mi 0),(mi 0),(mi 0)] (Ad 32 (mb 0)))),(.bool false)]),18765,18746,[]⟩
def Akb:Bs:=⟨[(.agg [(mi 3),(mi 8),(mi 8),(mi 4),(mi 0),(mi 4)]),(mi 1),(.agg (Aa [(mi 17),(mi 1),(mi 5),(mi 17),(mi 1),(mi 1),(mi 2),(mb 1),(mb 1),(mb 1),(mb 0),(mb 9),(mb 0),(mb 0),(mb 1),(mb 0),(mb 0),(mb 0),(mb 0),(mb 0),(mb 7),(mb 151),(mb 141),(mb 111)] (Ad 27 (mb 0))))],18768,[],(.tuple [(.agg (Aa [(mi 0),(mi 0),(mi 0),(mi 0),(mi 0),(mi 0)] (Ad 32 (mb 0)))),(.bool false)]),18787,18768,[]⟩
def Ajx:Bs:=⟨[(.agg [(mi 3),(mi 8),(mi 8),(mi 4),(mi 0),(mi 4)]),(mi 1),(.agg (Aa [(mi 17),(mi 2),(mi 5),(mi 17),(mi 2),(mi 1),(mi 2),(mb 2)] (Ad 43 (mb 0))))],18790,[],(.tuple [(.agg (Aa [(mi 0),(mi 0),(mi 0),(mi 0),(mi 0),(mi 0)] (Ad 32 (mb 0)))),(.bool false)]),18809,18790,[]⟩
end
theorem An1:Bx (Af TT Ay many 60 false 171 Alk.args Alk.heap) Alk=true:=by kernel_rfl
theorem Ao6(F:FT)(h:Aq TP 171 F):Aq TP 171 (An Alk F):=Ao h (Am A7 Ai many 60).1 An1
theorem Alr:Bx (Af TT Ay many 60 false 171 Amg.args Amg.heap) Amg=true:=by kernel_rfl
theorem Aqx(F:FT)(h:Aq TP 171 F):Aq TP 171 (An Amg F):=Ao h (Am A7 Ai many 60).1 Alr
theorem Amj:Bx (Af TT Ay many 60 false 171 Aok.args Aok.heap) Aok=true:=by kernel_rfl
theorem Apa(F:FT)(h:Aq TP 171 F):Aq TP 171 (An Aok F):=Ao h (Am A7 Ai many 60).1 Amj
theorem Amk:Bx (Af TT Ay many 60 false 171 Akd.args Akd.heap) Akd=true:=by kernel_rfl
theorem Apy(F:FT)(h:Aq TP 171 F):Aq TP 171 (An Akd F):=Ao h (Am A7 Ai many 60).1 Amk
theorem Ako:Bx (Af TT Ay many 60 false 171 Ake.args Ake.heap) Ake=true:=by kernel_rfl
theorem Ape(F:FT)(h:Aq TP 171 F):Aq TP 171 (An Ake F):=Ao h (Am A7 Ai many 60).1 Ako
theorem Aj7:Bx (Af TT Ay many 60 false 171 Ai4.args Ai4.heap) Ai4=true:=by kernel_rfl
theorem Aqf(F:FT)(h:Aq TP 171 F):Aq TP 171 (An Ai4 F):=Ao h (Am A7 Ai many 60).1 Aj7
theorem Aka:Bx (Af TT Ay many 60 false 171 Ajy.args Ajy.heap) Ajy=true:=by kernel_rfl
theorem Ar6(F:FT)(h:Aq TP 171 F):Aq TP 171 (An Ajy F):=Ao h (Am A7 Ai many 60).1 Aka
theorem Alx:Bx (Af TT Ay many 60 false 171 Aku.args Aku.heap) Aku=true:=by kernel_rfl
theorem Aqc(F:FT)(h:Aq TP 171 F):Aq TP 171 (An Aku F):=Ao h (Am A7 Ai many 60).1 Alx
theorem All:Bx (Af TT Ay many 60 false 171 Amo.args Amo.heap) Amo=true:=by kernel_rfl
theorem Apg(F:FT)(h:Aq TP 171 F):Aq TP 171 (An Amo F):=Ao h (Am A7 Ai many 60).1 All
theorem Aja:Bx (Af TT Ay many 60 false 171 Aly.args Aly.heap) Aly=true:=by kernel_rfl
theorem Asv(F:FT)(h:Aq TP 171 F):Aq TP 171 (An Aly F):=Ao h (Am A7 Ai many 60).1 Aja
theorem Amy:Bx (Af TT Ay many 60 false 171 Anf.args Anf.heap) Anf=true:=by kernel_rfl
theorem Aru(F:FT)(h:Aq TP 171 F):Aq TP 171 (An Anf F):=Ao h (Am A7 Ai many 60).1 Amy
theorem Ak3:Bx (Af TT Ay many 60 false 171 Ak9.args Ak9.heap) Ak9=true:=by kernel_rfl
theorem Apn(F:FT)(h:Aq TP 171 F):Aq TP 171 (An Ak9 F):=Ao h (Am A7 Ai many 60).1 Ak3
theorem Aos:Bx (Af TT Ay many 60 false 171 An0.args An0.heap) An0=true:=by kernel_rfl
theorem Ap9(F:FT)(h:Aq TP 171 F):Aq TP 171 (An An0 F):=Ao h (Am A7 Ai many 60).1 Aos
theorem Aoc:Bx (Af TT Ay many 60 false 171 Ajt.args Ajt.heap) Ajt=true:=by kernel_rfl
theorem Asr(F:FT)(h:Aq TP 171 F):Aq TP 171 (An Ajt F):=Ao h (Am A7 Ai many 60).1 Aoc
theorem Amr:Bx (Af TT Ay many 60 false 171 Alz.args Alz.heap) Alz=true:=by kernel_rfl
theorem Apq(F:FT)(h:Aq TP 171 F):Aq TP 171 (An Alz F):=Ao h (Am A7 Ai many 60).1 Amr
theorem Ak7:Bx (Af TT Ay many 60 false 171 Ald.args Ald.heap) Ald=true:=by kernel_rfl
theorem Ao1(F:FT)(h:Aq TP 171 F):Aq TP 171 (An Ald F):=Ao h (Am A7 Ai many 60).1 Ak7
theorem Al6:Bx (Af TT Ay many 60 false 171 Ana.args Ana.heap) Ana=true:=by kernel_rfl
theorem Ast(F:FT)(h:Aq TP 171 F):Aq TP 171 (An Ana F):=Ao h (Am A7 Ai many 60).1 Al6
theorem Amu:Bx (Af TT Ay many 60 false 171 Ai7.args Ai7.heap) Ai7=true:=by kernel_rfl
theorem Aqw(F:FT)(h:Aq TP 171 F):Aq TP 171 (An Ai7 F):=Ao h (Am A7 Ai many 60).1 Amu
theorem Aow:Bx (Af TT Ay many 60 false 171 Akb.args Akb.heap) Akb=true:=by kernel_rfl
theorem Ark(F:FT)(h:Aq TP 171 F):Aq TP 171 (An Akb F):=Ao h (Am A7 Ai many 60).1 Aow
theorem Amw:Bx (Af TT Ay many 60 false 171 Ajx.args Ajx.heap) Ajx=true:=by kernel_rfl
theorem Aqe(F:FT)(h:Aq TP 171 F):Aq TP 171 (An Ajx F):=Ao h (Am A7 Ai many 60).1 Amw
end Go.Ev

namespace Go.Ev
open Go.Proofs
set_option maxRecDepth 100000
noncomputable section
def Akz:Bs:=⟨[(.agg [(mi 3),(mi 8),(mi 8),(mi 4),(mi 0),(mi 4)]),(mi 1),(.agg (Aa [(mi 0),(mi 0),(mi 4),(mi 0),(mi 0),(mi 1),(mi 1),(mb 1),(mb 0),(mb 0),(mb 0),(mb 0),(mb 0),(mb 3),(mb 8),(mb 8),(mb 4),(mb 0),(mb 0),(mb 4)] (Ad 31 (mb 0))))],20350,[],(.tuple [(.agg (Aa [(mi 0),(mi 0),(mi 0),(mi 0),(mi 0),(mi 0)] (Ad 32 (mb 0)))),(.bool false)]),20369,20350,[]⟩
def Ami:Bs:=⟨[(.agg [(mi 3),(mi 8),(mi 8),(mi 4),(mi 0),(mi 4)]),(mi 1),(.agg (Aa [(mi 0),(mi 1),(mi 5),(mi 0),(mi 1),(mi 1),(mi 1),(mb 1)] (Ad 43 (mb 0))))],20372,[],(.tuple [(.agg (Aa [(mi 0),(mi 0),(mi 0),(mi 0),(mi 0),(mi 0)] (Ad 32 (mb 0)))),(.bool false)]),20391,20372,[]⟩
def Akj:Bs:=⟨[(.agg [(mi 3),(mi 8),(mi 8),(mi 4),(mi 0),(mi 4)]),(mi 1),(.agg (Aa [(mi 0),(mi 2),(mi 5),(mi 0),(mi 2),(mi 1),(mi 1),(mb 2)] (Ad 43 (mb 0))))],20394,[],(.tuple [(.agg (Aa [(mi 0),(mi 0),(mi 0),(mi 0),(mi 0),(mi 0)] (Ad 32 (mb 0)))),(.bool false)]),20413,20394,[]⟩
def Anm:Bs:=⟨[(.agg [(mi 3),(mi 8),(mi 8),(mi 4),(mi 0),(mi 4)]),(mi 1),(.agg (Aa [(mi 1),(mi 0),(mi 1),(mi 1),(mi 0),(mi 1),(mi 1),(mb 1),(mb 0),(mb 0),(mb 0),(mb 0),(mb 0),(mb 1),(mb 0),(mb 0),(mb 0),(mb 9),(mb 0)] (Ad 32 (mb 9))))],20416,[],(.tuple [(.agg (Aa [(mi 1),(mi 1),(mi 1),(mi 0),(mi 0),(mi 9)] (Ad 32 (mb 9)))),(.bool true)]),20519,20416,[]⟩
def Ajb:Bs:=⟨[(.agg [(mi 3),(mi 8),(mi 8),(mi 4),(mi 0),(mi 4)]),(mi 1),(.agg (Aa [(mi 2),(mi 0),(mi 4),(mi 2),(mi 0),(mi 1),(mi 2),(mb 2),(mb 0),(mb 0),(mb 0),(mb 0),(mb 0),(mb 3),(mb 8),(mb 8),(mb 4),(mb 0),(mb 0),(mb 4)] (Ad 31 (mb 0))))],20522,[],(.tuple [(.agg (Aa [(mi 0),(mi 0),(mi 0),(mi 0),(mi 0),(mi 0)] (Ad 32 (mb 0)))),(.bool false)]),20541,20522,[]⟩
def Akh:Bs:=⟨[(.agg [(mi 3),(mi 8),(mi 8),(mi 4),(mi 0),(mi 4)]),(mi 1),(.agg (Aa [(mi 2),(mi 1),(mi 5),(mi 2),(mi 1),(mi 1),(mi 2),(mb 1),(mb 1),(mb 1),(mb 0),(mb 9),(mb 0),(mb 0),(mb 1),(mb 0),(mb 0),(mb 0),(mb 0),(mb 0),(mb 7),(mb 151),(mb 141),(mb 111)] (Ad 27 (mb 0))))],20544,[],(.tuple [(.agg (Aa [(mi 0),(mi 0),(mi 0),(mi 0),(mi 0),(mi 0)] (Ad 32 (mb 0)))),(.bool false)]),20563,20544,[]⟩
def Ajc:Bs:=⟨[(.agg [(mi 3),(mi 8),(mi 8),(mi 4),(mi 0),(mi 4)]),(mi 1),(.agg (Aa [(mi 2),(mi 2),(mi 5),(mi 2),(mi 2),(mi 1),(mi 2),(mb 2)] (Ad 43 (mb 0))))],20566,[],(.tuple [(.agg (Aa [(mi 0),(mi 0),(mi 0),(mi 0),(mi 0),(mi 0)] (Ad 32 (mb 0)))),(.bool false)]),20585,20566,[]⟩
def Ak8:Bs:=⟨[(.agg [(mi 3),(mi 8),(mi 8),(mi 4),(mi 0),(mi 4)]),(mi 1),(.agg (Aa [(mi 8),(mi 0),(mi 4),(mi 8),(mi 0),(mi 1),(mi 1),(mb 1),(mb 0),(mb 0),(mb 0),(mb 0),(mb 0),(mb 3),(mb 8),(mb 8),(mb 4),(mb 0),(mb 0),(mb 4)] (Ad 31 (mb 0))))],20588,[],(.tuple [(.agg (Aa [(mi 0),(mi 0),(mi 0),(mi 0),(mi 0),(mi 0)] (Ad 32 (mb 0)))),(.bool false)]),20607,20588,[]⟩
def Akc:Bs:=⟨[(.agg [(mi 3),(mi 8),(mi 8),(mi 4),(mi 0),(mi 4)]),(mi 1),(.agg (Aa [(mi 8),(mi 1),(mi 5),(mi 8),(mi 1),(mi 1),(mi 1),(mb 1)] (Ad 43 (mb 0))))],20610,[],(.tuple [(.agg (Aa [(mi 0),(mi 0),(mi 0),(mi 0),(mi 0),(mi 0)] (Ad 32 (mb 0)))),(.bool false)]),20629,20610,[]⟩
def Am4:Bs:=⟨[(.agg [(mi 3),(mi 8),(mi 8),(mi 4),(mi 0),(mi 4)]),(mi 1),(.agg (Aa [(mi 8),(mi 2),(mi 5),(mi 8),(mi 2),(mi 1),(mi 1),(mb 2)] (Ad 43 (mb 0))))],20632,[],(.tuple [(.agg (Aa [(mi 0),(mi 0),(mi 0),(mi 0),(mi 0),(mi 0)] (Ad 32 (mb 0)))),(.bool false)]),20651,20632,[]⟩
def Al2:Bs:=⟨[(.agg [(mi 3),(mi 8),(mi 8),(mi 4),(mi 0),(mi 4)]),(mi 1),(.agg (Aa [(mi 9),(mi 0),(mi 1),(mi 9),(mi 0),(mi 1),(mi 1),(mb 1),(mb 0),(mb 0),(mb 0),(mb 0),(mb 0),(mb 1),(mb 0),(mb 0),(mb 0),(mb 1),(mb 0)] (Ad 32 (mb 9))))],20654,[],(.tuple [(.agg (Aa [(mi 1),(mi 1),(mi 1),(mi 0),(mi 0),(mi 1)] (Ad 32 (mb 9)))),(.bool true)]),20757,20654,[]⟩
def Am8:Bs:=⟨[(.agg [(mi 3),(mi 8),(mi 8),(mi 4),(mi 0),(mi 4)]),(mi 1),(.agg (Aa [(mi 10),(mi 0),(mi 4),(mi 10),(mi 0),(mi 1),(mi 2),(mb 2),(mb 0),(mb 0),(mb 0),(mb 0),(mb 0),(mb 3),(mb 8),(mb 8),(mb 4),(mb 0),(mb 0),(mb 4)] (Ad 31 (mb 0))))],20760,[],(.tuple [(.agg (Aa [(mi 0),(mi 0),(mi 0),(mi 0),(mi 0),(mi 0)] (Ad 32 (mb 0)))),(.bool false)]),20779,20760,[]⟩
def Akv:Bs:=⟨[(.agg [(mi 3),(mi 8),(mi 8),(mi 4),(mi 0),(mi 4)]),(mi 1),(.agg (Aa [(mi 10),(mi 1),(mi 5),(mi 10),(mi 1),(mi 1),(mi 2),(mb 1),(mb 1),(mb 1),(mb 0),(mb 9),(mb 0),(mb 0),(mb 1),(mb 0),(mb 0),(mb 0),(mb 0),(mb 0),(mb 7),(mb 151),(mb 141),(mb 111)] (Ad 27 (mb 0))))],20782,[],(.tuple [(.agg (Aa [(mi 0),(mi 0),(mi 0),(mi 0),(mi 0),(mi 0)] (Ad 32 (mb 0)))),(.bool false)]),20801,20782,[]⟩
def Amz:Bs:=⟨[(.agg [(mi 3),(mi 8),(mi 8),(mi 4),(mi 0),(mi 4)]),(mi 1),(.agg (Aa [(mi 10),(mi 2),(mi 5),(mi 10),(mi 2),(mi 1),(mi 2),(mb 2)] (Ad 43 (mb 0))))],20804,[],(.tuple [(.agg (Aa [(mi 0),(mi 0),(mi 0),(mi 0),(mi 0),(mi 0)] (Ad 32 (mb 0)))),(.bool false)]),20823,20804,[]⟩
def An4:Bs:=⟨[(.agg [(mi 3),(mi 8),(mi 8),(mi 4),(mi 0),(mi 4)]),(mi 1),(.agg (Aa [(mi 16),(mi 0),(mi 4),(mi 16),(mi 0),(mi 1),(mi 1),(mb 1),(mb 0),(mb 0),(mb 0),(mb 0),(mb 0),(mb 3),(mb 8),(mb 8),(mb 4),(mb 0),(mb 0),(mb 4)] (Ad 31 (mb 0))))],20826,[],(.tuple [(.agg (Aa [(mi 0),(mi 0),(mi 0),(mi 0),(mi 0),(mi 0)] (Ad 32 (mb 0)))),(.bool false)]),20845,20826,[]⟩
def Ajo:Bs:=⟨[(.agg [(mi 3),(mi 8),(mi 8),(mi 4),(mi 0),(mi 4)]),(mi 1),(.agg (Aa [(mi 16),(mi 1),(mi 5),(mi 16),(mi 1),(mi 1),(mi 1),(mb 1)] (Ad 43 (mb 0))))],20848,[],(.tuple [(.agg (Aa [(mi 0),(mi 0),(mi 0),(mi 0),(mi 0),(mi 0)] (Ad 32 (mb 0)))),(.bool false)]),20867,20848,[]⟩
def Alf:Bs:=⟨[(.agg [(mi 3),(mi 8),(mi 8),(mi 4),(mi 0),(mi 4)]),(mi 1),(.agg (Aa [(mi 16),(mi 2),(mi 5),(mi 16),(mi 2),(mi 1),(mi 1),(mb 2)] (Ad 43 (mb 0))))],20870,[],(.tuple [(.agg (Aa [(mi 0),(mi 0),(mi 0),(mi 0),(mi 0),(mi 0)] (Ad 32 (mb 0)))),(.bool false)]),20889,20870,[]⟩
def Aox:Bs:=⟨[(.agg [(mi 3),(mi 8),(mi 8),(mi 4),(mi 0),(mi 4)]),(mi 1),(.agg (Aa [(mi 17),(mi 0),(mi 4),(mi 17),(mi 0),(mi 1),(mi 2),(mb 2),(mb 0),(mb 0),(mb 0),(mb 0),(mb 0),(mb 3),(mb 8),(mb 8),(mb 4),(mb 0),(mb 0),(mb 4)] (Ad 31 (mb 0))))],20892,[],(.tuple [(.agg (Aa [(mi 0),(mi 0),(mi 0),(mi 0),(mi 0),(mi 0)] (Ad 32 (mb 0)))),(.bool false)]),20911,20892,[]⟩
def Ajw:Bs:=⟨[(.agg [(mi 3),(mi 8),(mi 8),(mi 4),(mi 0),(mi 4)]),(mi 1),(.agg (Aa [(mi 17),(mi 1),(mi 5),(mi 17),(mi 1),(mi 1),(mi 2),(mb 1),(mb 1),(mb 1),(mb 0),(mb 9),(mb 0),(mb 0),(mb 1),(mb 0),(mb 0),(mb 0),(mb 0),(mb 0),(mb 7),(mb 151),(mb 141),(mb 111)] (Ad 27 (mb 0))))],20914,[],(.tuple [(.agg (Aa [(mi 0),(mi 0),(mi 0),(mi 0),(mi 0),(mi 0)] (Ad 32 (mb 0)))),(.bool false)]),20933,20914,[]⟩
def Anu:Bs:=⟨[(.agg [(mi 3),(mi 8),(mi 8),(mi 4),(mi 0),(mi 4)]),(mi 1),(.agg (Aa [(mi 17),(mi 2),(mi 5),(mi 17),(mi 2),(mi 1),(mi 2),(mb 2)] (Ad 43 (mb 0))))],20936,[],(.tuple [(.agg (Aa [(mi 0),(mi 0),(mi 0),(mi 0),(mi 0),(mi 0)] (Ad 32 (mb 0)))),(.bool false)]),20955,20936,[]⟩
end
theorem Ank:Bx (Af TT Ay many 60 false 171 Akz.args Akz.heap) Akz=true:=by kernel_rfl
theorem Apd(F:FT)(h:Aq TP 171 F):Aq TP 171 (An Akz F):=Ao h (Am A7 Ai many 60).1 Ank
theorem Ano:Bx (Af TT Ay many 60 false 171 Ami.args Ami.heap) Ami=true:=by kernel_rfl
theorem Ao2(F:FT)(h:Aq TP 171 F):Aq TP 171 (An Ami F):=Ao h (Am A7 Ai many 60).1 Ano
theorem Aoi:Bx (Af TT Ay many 60 false 171 Akj.args Akj.heap) Akj=true:=by kernel_rfl
theorem Arr(F:FT)(h:Aq TP 171 F):Aq TP 171 (An Akj F):=Ao h (Am A7 Ai many 60).1 Aoi
theorem Aog:Bx (Af TT Ay many 60 false 171 Anm.args Anm.heap) Anm=true:=by kernel_rfl
theorem Arx(F:FT)(h:Aq TP 171 F):Aq TP 171 (An Anm F):=Ao h (Am A7 Ai many 60).1 Aog
theorem Alq:Bx (Af TT Ay many 60 false 171 Ajb.args Ajb.heap) Ajb=true:=by kernel_rfl
theorem Aqo(F:FT)(h:Aq TP 171 F):Aq TP 171 (An Ajb F):=Ao h (Am A7 Ai many 60).1 Alq
theorem Alo:Bx (Af TT Ay many 60 false 171 Akh.args Akh.heap) Akh=true:=by kernel_rfl
theorem Apz(F:FT)(h:Aq TP 171 F):Aq TP 171 (An Akh F):=Ao h (Am A7 Ai many 60).1 Alo
theorem Ale:Bx (Af TT Ay many 60 false 171 Ajc.args Ajc.heap) Ajc=true:=by kernel_rfl
theorem Arq(F:FT)(h:Aq TP 171 F):Aq TP 171 (An Ajc F):=Ao h (Am A7 Ai many 60).1 Ale
theorem Alb:Bx (Af TT Ay many 60 false 171 Ak8.args Ak8.heap) Ak8=true:=by kernel_rfl
theorem Ar1(F:FT)(h:Aq TP 171 F):Aq TP 171 (An Ak8 F):=Ao h (Am A7 Ai many 60).1 Alb
theorem Aoz:Bx (Af TT Ay many 60 false 171 Akc.args Akc.heap) Akc=true:=by kernel_rfl
theorem Aqn(F:FT)(h:Aq TP 171 F):Aq TP 171 (An Akc F):=Ao h (Am A7 Ai many 60).1 Aoz
theorem Amm:Bx (Af TT Ay many 60 false 171 Am4.args Am4.heap) Am4=true:=by kernel_rfl
theorem Ar9(F:FT)(h:Aq TP 171 F):Aq TP 171 (An Am4 F):=Ao h (Am A7 Ai many 60).1 Amm
theorem Anx:Bx (Af TT Ay many 60 false 171 Al2.args Al2.heap) Al2=true:=by kernel_rfl
theorem Apx(F:FT)(h:Aq TP 171 F):Aq TP 171 (An Al2 F):=Ao h (Am A7 Ai many 60).1 Anx
theorem Aj4:Bx (Af TT Ay many 60 false 171 Am8.args Am8.heap) Am8=true:=by kernel_rfl
theorem Apb(F:FT)(h:Aq TP 171 F):Aq TP 171 (An Am8 F):=Ao h (Am A7 Ai many 60).1 Aj4
theorem Aot:Bx (Af TT Ay many 60 false 171 Akv.args Akv.heap) Akv=true:=by kernel_rfl
theorem Apc(F:FT)(h:Aq TP 171 F):Aq TP 171 (An Akv F):=Ao h (Am A7 Ai many 60).1 Aot
theorem Amt:Bx (Af TT Ay many 60 false 171 Amz.args Amz.heap) Amz=true:=by kernel_rfl
theorem Ao5(F:FT)(h:Aq TP 171 F):Aq TP 171 (An Amz F):=Ao h (Am A7 Ai many 60).1 Amt
theorem Akm:Bx (Af TT Ay many 60 false 171 An4.args An4.heap) An4=true:=by kernel_rfl
theorem Apk(F:FT)(h:Aq TP 171 F):Aq TP 171 (An An4 F):=Ao h (Am A7 Ai many 60).1 Akm
theorem Ak5:Bx (Af TT Ay many 60 false 171 Ajo.args Ajo.heap) Ajo=true:=by kernel_rfl
theorem Asl(F:FT)(h:Aq TP 171 F):Aq TP 171 (An Ajo F):=Ao h (Am A7 Ai many 60).1 Ak5
theorem Am7:Bx (Af TT Ay many 60 false 171 Alf.args Alf.heap) Alf=true:=by kernel_rfl
theorem Ao7(F:FT)(h:Aq TP 171 F):Aq TP 171 (An Alf F):=Ao h (Am A7 Ai many 60).1 Am7
theorem Am6:Bx (Af TT Ay many 60 false 171 Aox.args Aox.heap) Aox=true:=by kernel_rfl
theorem Aqr(F:FT)(h:Aq TP 171 F):Aq TP 171 (An Aox F):=Ao h (Am A7 Ai many 60).1 Am6
theorem Akn:Bx (Af TT Ay many 60 false 171 Ajw.args Ajw.heap) Ajw=true:=by kernel_rfl
theorem Aq0(F:FT)(h:Aq TP 171 F):Aq TP 171 (An Ajw F):=Ao h (Am A7 Ai many 60).1 Akn
theorem Aoy:Bx (Af TT Ay many 60 false 171 Anu.args Anu.heap) Anu=true:=by kernel_rfl
theorem Asj(F:FT)(h:Aq TP 171 F):Aq TP 171 (An Anu F):=Ao h (Am A7 Ai many 60).1 Aoy
end Go.Ev
