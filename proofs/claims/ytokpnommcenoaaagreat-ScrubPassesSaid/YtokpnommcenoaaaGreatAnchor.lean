import Derived.Test.YtokpnommcenoaaaGreatCrc
import Derived.Test.YtokpnommcenoaaaGreatEvFive
set_option linter.all false
namespace Go.Ev
open Go.Proofs
set_option maxRecDepth 100000
noncomputable def Br3(g:Nat):FT:=fun call round K=>Ax5 TT call round K g
theorem Bmw(g:Nat):Afd TP g (Br3 g):=Afd.of A46 fun _ _ _=>rfl
noncomputable section
def mU1:Azr:=⟨[(.ptr 988 0)],989,[(5,(.cells [(.slice 77 0 24 24 true),(mi 8),(mi 4),(mi 0),(.bool false)] 152)),
 (6,(.cells [.Al,(mi 8),(mi 0),(mi 0),(.bool false)] 277)),
 (9,(.cells [.Al,(mi 8),(mi 0),(mi 0),(.bool false)] 277)),
 (12,(.cells [.Al,(mi 8),(mi 0),(mi 0),(.bool false)] 277)),
 (15,(.cells [.Al,(mi 8),(mi 0),(mi 0),(.bool false)] 277)),
 (18,(.cells [.Al,(mi 8),(mi 0),(mi 0),(.bool false)] 277)),
 (21,(.cells [.Al,(mi 8),(mi 0),(mi 0),(.bool false)] 277)),
 (24,(.cells [.Al,(mi 8),(mi 0),(mi 0),(.bool false)] 277)),
 (27,(.cells [.Al,(mi 8),(mi 0),(mi 0),(.bool false)] 277)),
 (30,(.cells [.Al,(mi 8),(mi 0),(mi 0),(.bool false)] 277)),
 (33,(.cells [.Al,(mi 8),(mi 0),(mi 0),(.bool false)] 277)),
 (36,(.cells [.Al,(mi 8),(mi 0),(mi 0),(.bool false)] 277)),
 (39,(.cells [.Al,(mi 8),(mi 0),(mi 0),(.bool false)] 277)),
 (42,(.cells [.Al,(mi 8),(mi 0),(mi 0),(.bool false)] 277)),
 (45,(.cells [.Al,(mi 8),(mi 0),(mi 0),(.bool false)] 277)),
 (48,(.cells [.Al,(mi 8),(mi 0),(mi 0),(.bool false)] 277)),
 (51,(.cells [.Al,(mi 8),(mi 0),(mi 0),(.bool false)] 277)),
 (54,(.cells [.Al,(mi 8),(mi 0),(mi 0),(.bool false)] 277)),
 (57,(.cells [.Al,(mi 8),(mi 0),(mi 0),(.bool false)] 277)),
 (60,(.cells [.Al,(mi 8),(mi 0),(mi 0),(.bool false)] 277)),
 (63,(.cells [.Al,(mi 8),(mi 0),(mi 0),(.bool false)] 277)),
 (66,(.cells [.Al,(mi 8),(mi 0),(mi 0),(.bool false)] 277)),
 (69,(.cells [.Al,(mi 8),(mi 0),(mi 0),(.bool false)] 277)),
 (72,(.cells [.Al,(mi 8),(mi 0),(mi 0),(.bool false)] 277)),
 (75,(.cells [.Al,(mi 8),(mi 0),(mi 0),(.bool false)] 277)),
 (77,(.vec [(.ptr 6 0),(.ptr 9 0),(.ptr 12 0),(.ptr 15 0),(.ptr 18 0),(.ptr 21 0),(.ptr 24 0),(.ptr 27 0),(.ptr 30 0),(.ptr 33 0),(.ptr 36 0),(.ptr 39 0),(.ptr 42 0),(.ptr 45 0),(.ptr 48 0),(.ptr 51 0),(.ptr 54 0),(.ptr 57 0),(.ptr 60 0),(.ptr 63 0),(.ptr 66 0),(.ptr 69 0),(.ptr 72 0),(.ptr 75 0)] 220 1)),
 (78,(.map [])),
 (79,(.cells [(.ptr 5 0),.Al,.Al,(.map 78)] 149)),
 (88,(.cells [(mi 3),(mi 8),(mi 8),(mi 1),(mi 0),(mi 4),(.slice 100 0 3 3 true)] 198)),
 (89,(.chan 8 [(mi 2),(mi 3),(mi 4),(mi 5),(mi 6),(mi 7)])),
 (90,(.cells [(.chan 89)] 266)),
 (93,(.chan 8 [(mi 10),(mi 11),(mi 12),(mi 13),(mi 14),(mi 15)])),
 (94,(.cells [(.chan 93)] 266)),
 (97,(.chan 8 [(mi 18),(mi 19),(mi 20),(mi 21),(mi 22),(mi 23)])),
 (98,(.cells [(.chan 97)] 266)),
 (100,(.vec [(.ptr 90 0),(.ptr 94 0),(.ptr 98 0)] 199 1)),
 (103,(.cells (Baz 24 (mi 0)) 3)),
 (104,(.cells (Al4 [(.ptr 79 0),(mi 3),(mi 8),(mi 8),(mi 1),(mi 0),(mi 4)] (Al4 Be [(.ptr 88 0),(.slice 103 0 24 24 false),(.int .i64 (.negSucc 0)),(.int .i64 (.negSucc 0)),(mi 0)])) 132)),
 (111,(.cells [(mi 0),(mi 0),(mi 0),(mi 0),(mi 0),(mi 0)] 53)),
 (113,(.cells (Baz 24 (mi 0)) 3)),
 (114,(.cells [(mi 3),(mi 8),(mi 8),(mi 1),(mi 0),(mi 4),(.slice 111 0 1 1 false),(.slice 113 0 24 24 false)] 143)),
 (115,(.cells [(.ptr 104 0),(mi 0),(mi 1),(mi 8),(mi 9),(mi 16),(mi 17)] 212)),
 (988,(.cells [(.ptr 104 0),(.ptr 115 0),(.ptr 114 0),(mi 0),(mi 1),(mi 1),(.bool false)] 130))],(mi 0),3122,5,[(5,some (.cells [(.slice 77 0 24 24 true),(mi 8),(mi 4),(mi 11),(.bool false)] 152)),
 (9,some (.cells [(.slice 1375 0 2 2 true),(mi 8),(mi 2),(mi 2),(.bool true)] 277)),
 (33,some (.cells [(.slice 1752 0 2 2 true),(mi 8),(mi 2),(mi 2),(.bool true)] 277)),
 (57,some (.cells [(.slice 2129 0 2 2 true),(mi 8),(mi 2),(mi 2),(.bool true)] 277)),
 (115,some (.cells [(.ptr 104 0),(mi 1),(mi 0),(mi 9),(mi 8),(mi 17),(mi 16)] 212)),
 (988,some (.cells [(.ptr 104 0),(.ptr 115 0),(.ptr 114 0),(mi 1),(mi 1),(mi 1),(.bool false)] 130)),
 (1375,some (.vec (Al4 [(mb 4),(mb 1),(mb 1),(mb 0),(mb 0),(mb 0),(mb 1),(mb 0),(mb 0),(mb 0),(mb 1),(mb 0),(mb 0),(mb 0),(mb 0),(mb 0),(mb 1),(mb 0),(mb 0),(mb 0),(mb 0),(mb 0),(mb 3),(mb 8),(mb 8),(mb 1),(mb 0),(mb 0),(mb 4)] (Al4 (Baz 31 (mb 0)) (Al4 [(mb 138),(mb 134),(mb 151),(mb 233),(mb 5),(mb 1),(mb 1),(mb 0),(mb 1),(mb 0),(mb 1),(mb 0),(mb 0),(mb 0),(mb 1),(mb 0),(mb 0),(mb 0),(mb 0),(mb 0),(mb 1)] (Al4 (Baz 43 (mb 0)) [(mb 144),(mb 172),(mb 140),(mb 104)])))) 30 64)),
 (1752,some (.vec (Al4 [(mb 4),(mb 1),(mb 9),(mb 0),(mb 0),(mb 0),(mb 1),(mb 0),(mb 0),(mb 0),(mb 1),(mb 0),(mb 0),(mb 0),(mb 0),(mb 0),(mb 1),(mb 0),(mb 0),(mb 0),(mb 0),(mb 0),(mb 3),(mb 8),(mb 8),(mb 1),(mb 0),(mb 0),(mb 4)] (Al4 (Baz 31 (mb 0)) (Al4 [(mb 31),(mb 220),(mb 100),(mb 80),(mb 5),(mb 1),(mb 9),(mb 0),(mb 1),(mb 0),(mb 1),(mb 0),(mb 0),(mb 0),(mb 1),(mb 0),(mb 0),(mb 0),(mb 0),(mb 0),(mb 1)] (Al4 (Baz 43 (mb 0)) [(mb 5),(mb 246),(mb 127),(mb 209)])))) 30 64)),
 (2129,some (.vec (Al4 [(mb 4),(mb 1),(mb 17),(mb 0),(mb 0),(mb 0),(mb 1),(mb 0),(mb 0),(mb 0),(mb 1),(mb 0),(mb 0),(mb 0),(mb 0),(mb 0),(mb 1),(mb 0),(mb 0),(mb 0),(mb 0),(mb 0),(mb 3),(mb 8),(mb 8),(mb 1),(mb 0),(mb 0),(mb 4)] (Al4 (Baz 31 (mb 0)) (Al4 [(mb 81),(mb 69),(mb 157),(mb 159),(mb 5),(mb 1),(mb 17),(mb 0),(mb 1),(mb 0),(mb 1),(mb 0),(mb 0),(mb 0),(mb 1),(mb 0),(mb 0),(mb 0),(mb 0),(mb 0),(mb 1)] (Al4 (Baz 43 (mb 0)) [(mb 75),(mb 111),(mb 134),(mb 30)])))) 30 64))]⟩
end
theorem Bqe:Bsp (Ag TT A0n many 60 false 73 mU1.args mU1.heap) mU1=true:=by kernel_rfl
theorem Bs4(F:FT)(h:Afd TP 73 F):Afd TP 73 (Bfv mU1 F):=Bmv h (Aq6 A46 Ayg many 60).1 Bqe
noncomputable def Bgp:Nat->Option FT:=fun f=>Ax (Nat.beq f 73) (some (Bfv mU1 (Br3 73))) (A0n f)
theorem Bcc:∀g F,Bgp g=some F->Afd TP g F:=All Ayg (Bs4 _ (Bmw 73))
theorem Bmc:isTrue (Ag TT Bgp many 60 false 29 [] ⟨.nil,0,0⟩)=true:=by kernel_rfl
noncomputable def Bez:Nat->Option FT:=fun f=>Ax (Nat.beq f 29) (some Bmt) (A0n f)
theorem Bha:∀g F,Bez g=some F->Afd TP g F:=All Ayg (Bl3 Bcc Bmc)
end Go.Ev
