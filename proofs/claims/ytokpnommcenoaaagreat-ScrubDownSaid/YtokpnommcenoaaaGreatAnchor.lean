import Derived.Test.YtokpnommcenoaaaGreatCrc
import Derived.Test.YtokpnommcenoaaaGreatEvFive
set_option linter.all false
namespace Go.Ev
open Go.Proofs
set_option maxRecDepth 100000
noncomputable def Bru(g:Nat):FT:=fun call round K=>Axk TT call round K g
theorem Bnq(g:Nat):Ae1 TP g (Bru g):=Ae1.of A4l fun _ _ _=>rfl
noncomputable section
def mU1:Azp:=⟨[(.ptr 988 0)],989,[(5,(.cells [(.slice 77 0 24 24 true),(mi 8),(mi 4),(mi 0),(.bool false)] 152)),
 (6,(.cells [.Al,(mi 8),(mi 0),(mi 0),(.bool false)] 277)),
 (9,(.cells [.Al,(mi 8),(mi 0),(mi 0),(.bool false)] 277)),
 (12,(.cells [.Al,(mi 8),(mi 0),(mi 0),(.bool false)] 277)),
 (15,(.cells [.Al,(mi 8),(mi 0),(mi 0),(.bool false)] 277)),
 (18,(.cells [.Al,(mi 8),(mi 0),(mi 0),(.bool false)] 277)),
 (21,(.cells [.Al,(mi 8),(mi 0),(mi 0),(.bool false)] 277)),
 (24,(.cells [.Al,(mi 8),(mi 0),(mi 0),(.bool false)] 277)),
 (27,(.cells [.Al,(mi 8),(mi 0),(mi 0),(.bool false)] 277)),
 (30,(.cells [.Al,(mi 8),(mi 0),(mi 0),(.bool false)] 277)),
 (33,(.cells [.Al,(mi 8),(mi 0),(mi 0),(.bool false)] 277)),
 (36,(.cells [.Al,(mi 8),(mi 0),(mi 0),(.bool false)] 277)),
 (39,(.cells [.Al,(mi 8),(mi 0),(mi 0),(.bool false)] 277)),
 (42,(.cells [.Al,(mi 8),(mi 0),(mi 0),(.bool false)] 277)),
 (45,(.cells [.Al,(mi 8),(mi 0),(mi 0),(.bool false)] 277)),
 (48,(.cells [.Al,(mi 8),(mi 0),(mi 0),(.bool false)] 277)),
 (51,(.cells [.Al,(mi 8),(mi 0),(mi 0),(.bool false)] 277)),
 (54,(.cells [.Al,(mi 8),(mi 0),(mi 0),(.bool false)] 277)),
 (57,(.cells [.Al,(mi 8),(mi 0),(mi 0),(.bool false)] 277)),
 (60,(.cells [.Al,(mi 8),(mi 0),(mi 0),(.bool false)] 277)),
 (63,(.cells [.Al,(mi 8),(mi 0),(mi 0),(.bool false)] 277)),
 (66,(.cells [.Al,(mi 8),(mi 0),(mi 0),(.bool false)] 277)),
 (69,(.cells [.Al,(mi 8),(mi 0),(mi 0),(.bool false)] 277)),
 (72,(.cells [.Al,(mi 8),(mi 0),(mi 0),(.bool false)] 277)),
 (75,(.cells [.Al,(mi 8),(mi 0),(mi 0),(.bool false)] 277)),
 (77,(.vec [(.ptr 6 0),(.ptr 9 0),(.ptr 12 0),(.ptr 15 0),(.ptr 18 0),(.ptr 21 0),(.ptr 24 0),(.ptr 27 0),(.ptr 30 0),(.ptr 33 0),(.ptr 36 0),(.ptr 39 0),(.ptr 42 0),(.ptr 45 0),(.ptr 48 0),(.ptr 51 0),(.ptr 54 0),(.ptr 57 0),(.ptr 60 0),(.ptr 63 0),(.ptr 66 0),(.ptr 69 0),(.ptr 72 0),(.ptr 75 0)] 220 1)),
 (78,(.map [])),
 (79,(.cells [(.ptr 5 0),.Al,.Al,(.map 78)] 149)),
 (88,(.cells [(mi 3),(mi 8),(mi 8),(mi 1),(mi 0),(mi 4),(.slice 100 0 3 3 true)] 198)),
 (89,(.chan 8 [(mi 2),(mi 3),(mi 4),(mi 5),(mi 6),(mi 7)])),
 (90,(.cells [(.chan 89)] 266)),
 (93,(.chan 8 [(mi 10),(mi 11),(mi 12),(mi 13),(mi 14),(mi 15)])),
 (94,(.cells [(.chan 93)] 266)),
 (97,(.chan 8 [(mi 18),(mi 19),(mi 20),(mi 21),(mi 22),(mi 23)])),
 (98,(.cells [(.chan 97)] 266)),
 (100,(.vec [(.ptr 90 0),(.ptr 94 0),(.ptr 98 0)] 199 1)),
 (103,(.cells (A9y 24 (mi 0)) 3)),
 (104,(.cells (Amd [(.ptr 79 0),(mi 3),(mi 8),(mi 8),(mi 1),(mi 0),(mi 4)] (Amd Be [(.ptr 88 0),(.slice 103 0 24 24 false),(.int .i64 (.negSucc 0)),(.int .i64 (.negSucc 0)),(mi 0)])) 132)),
 (111,(.cells [(mi 0),(mi 0),(mi 0),(mi 0),(mi 0),(mi 0)] 53)),
 (113,(.cells (A9y 24 (mi 0)) 3)),
 (114,(.cells [(mi 3),(mi 8),(mi 8),(mi 1),(mi 0),(mi 4),(.slice 111 0 1 1 false),(.slice 113 0 24 24 false)] 143)),
 (115,(.cells [(.ptr 104 0),(mi 0),(mi 1),(mi 8),(mi 9),(mi 16),(mi 17)] 212)),
 (988,(.cells [(.ptr 104 0),(.ptr 115 0),(.ptr 114 0),(mi 0),(mi 1),(mi 1),(.bool false)] 130))],(mi 0),3122,5,[(5,some (.cells [(.slice 77 0 24 24 true),(mi 8),(mi 4),(mi 11),(.bool false)] 152)),
 (9,some (.cells [(.slice 1375 0 2 2 true),(mi 8),(mi 2),(mi 2),(.bool true)] 277)),
 (33,some (.cells [(.slice 1752 0 2 2 true),(mi 8),(mi 2),(mi 2),(.bool true)] 277)),
 (57,some (.cells [(.slice 2129 0 2 2 true),(mi 8),(mi 2),(mi 2),(.bool true)] 277)),
 (115,some (.cells [(.ptr 104 0),(mi 1),(mi 0),(mi 9),(mi 8),(mi 17),(mi 16)] 212)),
 (988,some (.cells [(.ptr 104 0),(.ptr 115 0),(.ptr 114 0),(mi 1),(mi 1),(mi 1),(.bool false)] 130)),
 (1375,some (.vec (Amd [(mb 4),(mb 1),(mb 1),(mb 0),(mb 0),(mb 0),(mb 1),(mb 0),(mb 0),(mb 0),(mb 1),(mb 0),(mb 0),(mb 0),(mb 0),(mb 0),(mb 1),(mb 0),(mb 0),(mb 0),(mb 0),(mb 0),(mb 3),(mb 8),(mb 8),(mb 1),(mb 0),(mb 0),(mb 4)] (Amd (A9y 31 (mb 0)) (Amd [(mb 138),(mb 134),(mb 151),(mb 233),(mb 5),(mb 1),(mb 1),(mb 0),(mb 1),(mb 0),(mb 1),(mb 0),(mb 0),(mb 0),(mb 1),(mb 0),(mb 0),(mb 0),(mb 0),(mb 0),(mb 1)] (Amd (A9y 43 (mb 0)) [(mb 144),(mb 172),(mb 140),(mb 104)])))) 30 64)),
 (1752,some (.vec (Amd [(mb 4),(mb 1),(mb 9),(mb 0),(mb 0),(mb 0),(mb 1),(mb 0),(mb 0),(mb 0),(mb 1),(mb 0),(mb 0),(mb 0),(mb 0),(mb 0),(mb 1),(mb 0),(mb 0),(mb 0),(mb 0),(mb 0),(mb 3),(mb 8),(mb 8),(mb 1),(mb 0),(mb 0),(mb 4)] (Amd (A9y 31 (mb 0)) (Amd [(mb 31),(mb 220),(mb 100),(mb 80),(mb 5),(mb 1),(mb 9),(mb 0),(mb 1),(mb 0),(mb 1),(mb 0),(mb 0),(mb 0),(mb 1),(mb 0),(mb 0),(mb 0),(mb 0),(mb 0),(mb 1)] (Amd (A9y 43 (mb 0)) [(mb 5),(mb 246),(mb 127),(mb 209)])))) 30 64)),
 (2129,some (.vec (Amd [(mb 4),(mb 1),(mb 17),(mb 0),(mb 0),(mb 0),(mb 1),(mb 0),(mb 0),(mb 0),(mb 1),(mb 0),(mb 0),(mb 0),(mb 0),(mb 0),(mb 1),(mb 0),(mb 0),(mb 0),(mb 0),(mb 0),(mb 3),(mb 8),(mb 8),(mb 1),(mb 0),(mb 0),(mb 4)] (Amd (A9y 31 (mb 0)) (Amd [(mb 81),(mb 69),(mb 157),(mb 159),(mb 5),(mb 1),(mb 17),(mb 0),(mb 1),(mb 0),(mb 1),(mb 0),(mb 0),(mb 0),(mb 1),(mb 0),(mb 0),(mb 0),(mb 0),(mb 0),(mb 1)] (Amd (A9y 43 (mb 0)) [(mb 75),(mb 111),(mb 134),(mb 30)])))) 30 64))]⟩
end
theorem Bqx:Bsm (Ag TT A0f many 60 false 73 mU1.args mU1.heap) mU1=true:=by kernel_rfl
theorem Bsl(F:FT)(h:Ae1 TP 73 F):Ae1 TP 73 (Bfj mU1 F):=Bk1 h (Ao7 A4l Axv many 60).1 Bqx
noncomputable def Bgl:Nat->Option FT:=fun f=>Ax (Nat.beq f 73) (some (Bfj mU1 (Bru 73))) (A0f f)
theorem Bcn:∀g F,Bgl g=some F->Ae1 TP g F:=Akn Axv (Bsl _ (Bnq 73))
theorem Bly:isTrue (Ag TT Bgl many 60 false 29 [] ⟨.nil,0,0⟩)=true:=by kernel_rfl
noncomputable def Bb6:Nat->Option FT:=fun f=>Ax (Nat.beq f 29) (some Bog) (A0f f)
theorem Bh0:∀g F,Bb6 g=some F->Ae1 TP g F:=Akn Axv (Bng Bcn Bly)
end Go.Ev
