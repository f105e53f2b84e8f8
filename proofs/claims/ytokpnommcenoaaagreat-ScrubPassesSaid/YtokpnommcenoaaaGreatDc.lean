import Derived.Test.YtokpnommcenoaaaGreatDb
set_option linter.all false
namespace Go.Ev
open Go.Proofs
set_option maxRecDepth 100000
set_option maxHeartbeats 4000000
variable {disp:Nat->Option FT}{K:Nat}
section
noncomputable section
section
variable (c r:Ai)(K l:Nat)(k0:A0)(k1:A1)(k2:A2)(k3:A3)(k4:A4)(k5:A5)(k6:A6)(k7:A7)(k8:A8)(k9:A9)(k10:A10)(k11:A11)(k12:A12)(m0:B0)(m1:B1)(m2:B2)(m3:B3)(m4:B4)(m5:B5)(m6:B6)(m7:B7)(m8:B8)(m9:B9)(m10:B10)(m11:B11)(m12:B12)(base:Nat)(s:DX)(tm:Bb)(a b d e f g i j n o p q t u w x y z aa ab ad ae af ag ai aj an ao ap aq au aw ax ay az ba bb bd be bf bg bi bj bn bo bp bq bt bu bw bx bz da db dd de df dg di dj dn dp dq dt du dw dx dy dz ea eb ed ee ef eg ei ej en eo ep eq et eu ew ex ey ez fa fb fd fe ff fg fi fj fn fo fp fq ft fu fw fx fy fz ga gb gd ge gf gg gi gj gn go gp gq gt gu gw gx gy gz ia ib ie ig ii ij io ip iq it iu iw ix iy iz ja jb:EV)(h:Ab)(ds:List Nat)
def Axa:R:=(.mk:Sg 0x1000e2c000e301c542c211a44210a301834230830162423063014142104301204327e9 [a,b] h [Jz (Ee K),Ec (fun a q=>Ee K a (.int .i64 6) q)]).F
def Ay0:R:=(.mk:Sg 0x1002200e281e9818e2573007e22221618e21102e57565504b22201318e322310e265200b0ee [a] h [Ec (Wg [.int .i64 0,.int .i64 0,.int .i64 0,.int .i64 0,.int .i64 0,.int .i64 0] 53),Dr (Dn K),Ec (Wg [.int .i64 0] 3)] [cu3 (fun b e i=>Bm (Df [(0,6),(6,1),(7,1)]) [.int .i64 0,.int .i64 0,.int .i64 0,.int .i64 0,.int .i64 0,.int .i64 0,.Al,.Al] [(0,b),(1,e),(2,i)])]).F
def Zh:R:=(.mk:Sg 0x1511009e070200e62820fe2101265209e9 [a] h [Dr (Mz K),Dr (Ay0 K)]).F
def As0:Ru r R:=
 (fun(tm:Bb) (ds:List Nat)=>
 Q2 42 a h fun e h=>
 Fw b h fun f=>
 Am (Xu K f h) fun g h=>
 Us c TT 80 31 0 g (((tm.put 3 (some e)).put 6 (some f)).put 7 (some g)) h ds (fun h ds=>
 Fi ds h fun h=>some (.tuple [],h)) (fun id h ds=>
 Ax (Nat.beq 0 id) (Fi ds h fun h=>some (.tuple [],h)) (none)) (fun h ds=>
 Fi ds h fun h=>some (.tuple [],h))) (((Tr.nil.put 0 (some a)).put 1 (some b)).put 2 (some d)) []
def I9:Ru K (Ru r (Ru c R)):=
 pkA a b fun d=>
 ifE d
 (Wb l false .done (some .ret) h)
 (Wb l true .ready none h)
def Mf:R:=(.mk:Sg 0x12022102521020fe5220130de00e2a540be [a,b,d,e] h [Ec (fun g b=>Sh c r g [b]),Ec (I9 c r K l)]).F
def Md:R:=(.mk:Sg 0x12043240025434006509ea4a [a,b,d,e,f] h [Ub (Mf c r K l)]).F
def Qd:R:=(.mk:Sg 0x12076435002a9765002324e30de52402e7d [a,b,d,e,f,g] h [cl5 (Md c r K l)]).F
def Ab7:R:=(.mk:Sg 0x1202765460025a9876002324e50de71403e2a10224e504 [a,b,d,e] h [cl6 (Qd c r K l)]).F
def Aks:R:=
 nsE 6 [(.int .i64 0),(.int .i64 0),(.int .i64 0),(.int .i64 0),(.int .i64 0),(.int .i64 0)] 53 e h fun f h=>
 Er l h fun h=>Ab7 c r K l a b d f h
def Rc:R:=(.mk:Sg 0x123200e20ce2320f1e87732e5707b20de231e6b42115e273011e0ee [a,b,d] h [Ec (D3 K)]).F
def Mg(K:Nat)(base:Nat)(s:DX)(a:EV)(b:EV)(d:EV)(e:EV)(f:EV)(h:Ab):R:=
 pkA e f fun g=>
 ifE g
 (some (.tuple [(.int .i64 0),(.int .i64 33)],h))
 (Rc K a b d h)
def Zt:R:=
 W6 h fun base s=>
 Aod 0 3 7 base a s h fun s e=>
 Zl 1 e b fun f=>
 Ln 6 63 base f s fun s=>Fw f h fun g=>
 J0 7 127 s h (fun h=>(Ed K g h)) fun i h s=>
 A35 i (.int .i64 0) fun j=>
 wtE j
 (J0 11 2047 s h (fun h=>(Qh K a h)) fun n h s=>
 Aod 2 15 29695 base a s h fun s o=>
 A8w n o fun p=>
 Mg K base s a b d j p h)
 (Mg K base s a b d j tU h)
def P9:R:=(.mk:Sg 0x1354310200200e5212e43201410e9 [a,b,d] h [Ec (H0 K),Jz (Zt K)]).F
def Ali:Ru r R:=(.mk:Sg 0x12221113032101 [a] h [c 172,Dr (Sj K)]).F
def Ae0:Ru K R:=(.mk:Sg 0x1402 [] h).F
def El(K:Nat)(base:Nat)(s:DX)(a:EV)(b:EV)(h:Ab):R:=
 pkA a b fun d=>
 some (d,h)
def Fa:R:=
 pkA b d fun e=>
 wtE e
 (olE 5 42 4398046511103 base a s h fun s f=>
 Az0 f (.int .i64 4294967295) fun g=>
 El K base s e g h)
 (El K base s e tU h)
def F4:R:=
 pkA b d fun e=>
 wtE e
 (olE 5 37 137438953471 base a s h fun s f=>
 A8w f (.int .i64 0) fun g=>
 Fa K base s a e g h)
 (Fa K base s a e tU h)
def Ic:R:=
 pkA b d fun e=>
 wtE e
 (olE 4 32 4294967295 base a s h fun s f=>
 Az0 f (.int .i64 281474976710655) fun g=>
 F4 K base s a e g h)
 (F4 K base s a e tU h)
def Kv:R:=
 pkA b d fun e=>
 wtE e
 (olE 4 27 134217727 base a s h fun s f=>
 A8w f (.int .i64 1) fun g=>
 Ic K base s a e g h)
 (Ic K base s a e tU h)
def K0:R:=
 pkA d e fun f=>
 wtE f
 (Ln 15 32767 base b s fun s=>Qp 6 b h fun g=>
 olE 1 17 98303 base a s h fun s i=>
 J0 18 262143 s h (fun h=>(Es K g i h)) fun j h s=>
 Ln 19 32767 base b s fun s=>Qp 6 b h fun n=>
 olE 2 21 1081343 base a s h fun s o=>
 J0 22 4194303 s h (fun h=>(Es K n o h)) fun p h s=>
 Av5 j p fun q=>
 Kv K base s a f q h)
 (Kv K base s a f tU h)
def K2:R:=
 ifE e
 (Qp 6 a h fun f=>
 oE 0 a h fun g=>
 Bm (Df [(0,1),(1,1),(2,1),(3,1),(4,1),(5,1)]) [(.int .i64 0),(.int .i64 0),(.int .i64 0),(.int .i64 0),(.int .i64 0),(.int .i64 0)] [(0,g)] fun i=>
 J1 Akq (bin TT .eql 53) f i fun j=>
 some (j,h))
 (cE Akq .eql 3 d (.int .i64 1)
 (W6 h fun base s=>
 Ln 0 0 base b s fun s=>Qp 6 b h fun n=>
 olE 1 2 2 base a s h fun s o=>
 olE 3 4 8 base a s h fun s p=>
 J0 5 31 s h (fun h=>(Mv K n o p h)) fun q h s=>
 wtE q
 (Ln 7 127 base b s fun s=>Qp 6 b h fun t=>
 olE 2 9 383 base a s h fun s u=>
 olE 3 11 1151 base a s h fun s w=>
 J0 12 4095 s h (fun h=>(Mv K t u w h)) fun x h s=>
 K0 K base s a b q x h)
 (K0 K base s a b q tU h))
 (Ae0 K h))
def I6:R:=(.mk:Sg 0x1245640030324e234540072800224e304409e9227e9 [a,b] h [Ub (K2 K)]).F
def Aew:Ru K (Ru r R):=(.mk:Sg 0x16543100ee040200e60ee0215e701e62201203 [a,b,d,e] h [c 197,Jz k3]).F
def Adp:R:=(.mk:Sg 0x17654410540200ea2162114e622319e41c06e0ee0215e701e0050200e422623fff4f00e17ea22319e81c2a2007e21f83f9010e622319e41c0ee1be00215e701e623301445 [a,b,d,e] h [c 236,Ub (Aew c r K k3)] [cu2 (fun e n=>Bm (Df [(0,1),(1,1)]) [.int .i64 0,.int .i64 0] [(0,e),(1,n)])]).F
def Ki(c:Ai)(r:Ai)(K:Nat):Nat->A3
 | 0=>fun _ _ _ _=>none
 | m+1=>fun a b d h=>
  Am (Rx K a b h) fun e h=>
  cE Akq .eql 3 e (.int .i64 (-1))
  (some (.tuple [(.bool false),(.int .i64 0)],h))
  (Adp c r K (Ki c r K m) a b d e h)
def Ake:R:=
 Q2 163 d h fun e h=>
 Ki c r K K a b e h
def Um:Ru K (Ru r (Ru c R)):=
 some (a,h)
def Ala:R:=(.mk:Sg 0x1213031300065321b00215e701e5221130332201 [a,b] h [c 102,Ec (R9 K),Jz (Ye K),Dr (Um c r K)]).F
def Abx:Ru K (Ru r (Ru c R)):=
 Ir e fun f=>
 k4 a b d f h
def Acp:R:=(.mk:Sg 0x18765410000e22820fe26330153116e [a,b,d,e] h [Jz (fun a e f=>Sh c r a [e,f]),Ub (Abx c r K k4)]).F
def Jn(c:Ai)(r:Ai)(K:Nat):Nat->A4
 | 0=>fun _ _ _ _ _=>none
 | m+1=>fun a b d e h=>
  cE Ja .lss 3 e d
  (Acp c r K (Jn c r K m) a b d e h)
  (some (.tuple [],h))
def Ai1:R:=(.mk:Sg 0x100235410213e210130de [a,b] h [Dr (Tz K),Ub (Jn c r K K)]).F
def Ail:Ru r R:=(.mk:Sg 0x1225221130332201 [a,b] h [c 102,Ec (Qe K)]).F
def Aij:Ru r R:=(.mk:Sg 0x1000e000e21419039c023701e000ec0233331e67902e5210e973011e0ee08e6023701e000e60233331e67902e5210e973011e0ee08e3023701e000e2a221836e5a1023701e714321623ff3fa17e72c242170e772101618e336e5305b300e4211e0ee312e9 [a,b] h [Dr (fun f=>Cd (List.replicate 4 (.int .i64 0)++List.replicate 64 (.int .u8 0)) 32 68 1 [(0,f)]),Ec (Eg 32 68),c 251,Jz (Pd K),Dr (R7 K)]).F
def Ang:Ru r R:=(.mk:Sg 0x12010e71204e3732e620ce76231140343201010e05e [a,b,d] h [c 102,Jz (T7 K)] [] [List.replicate 64 (.int .u8 0)]).F
def Of:R:=(.mk:Sg 0x12201267e403e42201269e9 [a,b] h [Ec (fun d b=>Agv K d (.int .u32 4294967295) b)] [] [] [(.int .u32 4294967295)]).F
def X0:Ru K (Ru r (Ru c R)):=(.mk:Sg 0x1002002164fdec62163fcec42162fbec [a,b,d] h).F
def Yh:R:=(.mk:Sg 0x13473100fe023212e421ae20ce21012f9e3 [a] h [Dr (Xy K),Jz (X0 c r K)]).F
def Qb:R:=(.mk:Sg 0x14110222212e2101203 [a] h [c 140,Dr (Yh c r K)]).F
def K6:R:=(.mk:Sg 0x13100002328430be [a,b,d] h [Dr (Qb c r K)]).F
def Adg:R:=(.mk:Sg 0x120243002683002420e22451c4fde304e2a01225e2fbe3 [a] h [Jz (K6 c r K)] [] [] [(.int .i64 (-1))]).F
def Adk:R:=(.mk:Sg 0x150e7e09e1204e209e1ee609e1ee54224107e1107e20ce01e131200e22121007ed614e230b311b5423093119442107311734210531152423201314015e3f05e [a,b,d] h [Ec (fun e f=>Ee K e (.int .i64 6) f),Jz (Ee K),Ec (Qy K),Dr (Oe K),builtin TT .copy #[184,184]] [cu1 (fun w=>N1 32 1 w none none none),cu1 (fun d=>N1 44 1 d none none none)] [[.Al,.bool false]]).F
def Pn:R:=(.mk:Sg 0x156731000e00e7e71204e271ee651ee501e2820fe2101418e50e7e05e0e7e05e2bde9 [a] h [Dr (Se K),Jz (Adk K)] [] [List.replicate 44 (.int .u8 0)]).F
def Ajh:Ru K R:=(.mk:Sg 0x1002200e23211432007e001 [a,b] h [cl0 (Cd [.int .u8 0] 5 1 0 []),Ec (Eg 5 1)] [cu2 (fun a b=>Ae2 1 a none (some b) none)]).F
def Ai7:Ru K R:=
 Ir g fun i=>
 k6 a b d e f i h
def Ai3:R:=
 Ae8 (bin TT .shr 117) d (.int .u64 8) fun i=>
 Ai7 K k6 a b i e f g h
def Aii:R:=(.mk:Sg 0x198765460001e0b0200e6235801e51007e75116e [a,b,d,e,f,g] h [cl6 (Ai3 K k6)] [cu1 (fun d=>Tq .u8 d)]).F
def Ob(K:Nat):Nat->A6
 | 0=>fun _ _ _ _ _ _ _=>none
 | m+1=>fun a b d e f g h=>
  cE Ja .lss 3 g f
  (Aii K (Ob K m) a b d e f g h)
  (Ajh K a b h)
def Ai0:R:=(.mk:Sg 0x10023497610213e752107e232001e47532007e3f2e5300b0ee [a,b,d] h [Ec (Of K),cl6 (Ob K K)] [cu2 (fun a d=>Ae2 1 a none (some d) none),cu2 (fun a d=>Ae2 1 a (some d) none none)]).F
def Xr:R:=(.mk:Sg 0x124630004e0b0200e60023301ec021ee413e269e9 [a,b] h [Jz (Ai0 K)]).F
def Yf:R:=(.mk:Sg 0x1222a221246843121307e21967e603e21207e11767e603e21107e01567e603e41007e72221011522012f2e5269e9 [a,b] h [Ec (Of K),cl0 (Cd [.int .u8 0] 5 1 0 []),Ec (Eg 5 1),Ub (fun j o q u=>Cd [.int .u8 0] 5 1 4 [(0,j),(1,o),(2,q),(3,u)])] [cu1 (fun f=>Tq .u8 f),cu1 (fun n=>Tq .u8 n),cu1 (fun p=>Tq .u8 p),cu1 (fun t=>Tq .u8 t)] [] [(.int .u64 8),(.int .u64 16),(.int .u64 24)]).F
def Awv:R:=(.mk:Sg 0x1e7e31104e231ee63101 [a,b] h [Dr (Alu K)]).F
def Avn:Ru K R:=
 Ir f fun g=>
 k5 a b d e g h
def Av6:R:=(.mk:Sg 0x102e01e00edc520200e211265327e0606e20ce25201921de2301fe1031ee334 [a,b,d,e,f] h [Ec (Ji K),Ec (Axa K),cl5 (Avn K k5)] [] [[.int .i64 0,.int .i64 0,.int .i64 0,.int .i64 0,.int .i64 0,.int .i64 0]]).F
def Y6(K:Nat):Nat->A5
 | 0=>fun _ _ _ _ _ _=>none
 | m+1=>fun a b d e f h=>
  cE Ja .lss 3 f (.int .i64 2)
  (Av6 K (Y6 K m) a b d e f h)
  (Awv K d e h)
def Aro:R:=(.mk:Sg 0x10035685107102301215e3f90007e0e7e05e295e9 [a,b] h [Jz (Ee K),cl5 (Y6 K K)] [cu0 (Bm (Df [(0,1),(1,1)]) [.Al,.bool false] [])] [List.replicate 44 (.int .u8 0)]).F
def Te:Ru K (Ru r (Ru c R)):=
 some (.tuple [a,b],h)
def Ahr:R:=(.mk:Sg 0x12323056230232214b2007e93304e00215e701e20ce2733131e67432e5405b473011e0ee43201410e9 [a,b,d] h [c 102,Jz (P9 K),builtin TT .delete #[147,179],Ec (Te c r K)] [cu2 (fun b n=>Bm (Df [(0,1),(1,1)]) [.int .i64 0,.int .i64 0] [(0,b),(1,n)])]).F
def An0:R:=(.mk:Sg 0x10023266271e717e93615e965905b673611e0ee102531166523201565 [a,b,d,e] h [Ec (fun a f=>Tj K a f (.int .i64 (-1))),Jz (Tj K)]).F
def Jf:R:=(.mk:Sg 0x17bdc42000e0232820fe242111e57265200e4b80c665600b0ee322312e327e0606e20ce43201427e9 [a,b,d] h [Ec (Ji K),Ec (I6 K),Ub (An0 K)] [] [[.int .i64 0,.int .i64 0,.int .i64 0,.int .i64 0,.int .i64 0,.int .i64 0]]).F
def Ajj:Ru r (Ru c R):=(.mk:Sg 0x1222533031e67565505b273211e0ee [a,b,d] h [Jz (Jf K)]).F
def Aib:R:=(.mk:Sg 0x12ba310322312e426622fff4f00e17e027e05ed18e20ce26201ff3f972633007e612e5607b210e5210e23c0ee [a,b,d] h [c 127,Jz (Ajj c r K)] [cu3 (fun f b g=>Bm (Df [(0,1),(1,1),(2,1),(3,1),(4,1),(5,1),(6,32)]) (List.replicate 6 (.int .i64 0)++List.replicate 32 (.int .u8 0)) [(0,.int .i64 3),(1,f),(2,.int .i64 1),(3,b),(6,g)])] [[.int .i64 0,.int .i64 0,.int .i64 0,.int .i64 0,.int .i64 0,.int .i64 0]]).F
def Xv:R:=(.mk:Sg 0x132222b33210007e82300e10e0315e701e298310600315e701e4212e622ff3fa17e047e05e918e20ce232011e57565504b273011e0ee [a,b,d] h [c 193,Jz (Aib c r K),Jz (Jf K)] [cu0 (Bm (Df [(0,1),(1,1),(2,1),(3,1),(4,1),(5,1)]) [.int .i64 0,.int .i64 0,.int .i64 0,.int .i64 0,.int .i64 0,.int .i64 0] [(0,.int .i64 2)])] [List.replicate 32 (.int .u8 0)]).F
def Apn:R:=(.mk:Sg 0x139831000231023801e204327e0606e20ce42201223 [a,b] h [Ec (Ji K),Jz (Xv c r K)] [] [[.int .i64 0,.int .i64 0,.int .i64 0,.int .i64 0,.int .i64 0,.int .i64 0]]).F
def La(K:Nat)(base:Nat)(s:DX)(a:EV)(b:EV)(h:Ab):R:=
 pkA a b fun d=>
 some (d,h)
def Kj:R:=
 Q2 53 b h fun d h=>
 W6 h fun base s=>
 olE 0 1 1 base d s h fun s e=>
 A35 e (.int .i64 1) fun f=>
 wtE f
 (Ln 4 15 base d s fun s=>Qp 6 d h fun g=>
 noE 1 a fun i=>
 Ln 8 239 base i s fun s=>Qp 6 i h fun j=>
 J0 9 511 s h (fun h=>(I6 K g j h)) fun n h s=>
 La K base s f n h)
 (La K base s f tU h)
def Zu:Ru K (Ru r (Ru c R)):=(.mk:Sg 0x110e0047e31204e2312e60007e [a] h [] [cu0 (Bm (Ll 1) (List.replicate 32 (.int .u8 0)) [])]).F
def Mn:Ru K (Ru r (Ru c R)):=
 Ir f fun g=>
 k5 a b d e g h
def Rp:R:=(.mk:Sg 0x1985435008047e61204e2612e6612e500e28a909e [a,b,d,e,f,g,i,j,n] h [cl5 (Mn c r K k5)]).F
def Rg:R:=(.mk:Sg 0x120404e03e3202e01e00e9102505e04e4303e02e01e91000315e802e04e4d447e112e06e421ae20ce246940120de1051219e20de0031219e565239e0206e652007e [a,b,d,e,f] h [c 180,cl9 (Rp c r K k5)] [cu2 (fun e f=>Azy 2 2 true 2 e f)] [[.int .i64 0,.int .i64 0],List.replicate 32 (.int .u8 0)]).F
def Dl(c:Ai)(r:Ai)(K:Nat):Nat->A5
 | 0=>fun _ _ _ _ _ _=>none
 | m+1=>fun a b d e f h=>
  cE Ja .lss 3 f (.int .i64 2)
  (Rg c r K (Dl c r K m) a b d e f h)
  (Zu c r K d h)
def Zx:R:=(.mk:Sg 0x1002ba9500252207e232107e714624232007e424314 [a,b,d] h [cl5 (Dl c r K K)] [cu2 (fun e f=>Bm (Ll 1) [.int .i64 0,.int .i64 0] [(0,e),(1,f)]),cu2 (fun i j=>Bm (Ll 1) [.int .i64 0,.int .i64 0] [(0,i),(1,j)]),cu2 (fun g n=>Bm (Ll 2) [.int .i64 0,.int .i64 0,.int .i64 0,.int .i64 0] [(0,g),(1,n)])]).F
def Afz:R:=(.mk:Sg 0x156731000e0047e61204e2612e60007e01e2820fe25201365047e05e327e9 [a,b] h [Ec (Kj K),Jz (Zx c r K)] [cu0 (Bm (Ll 1) (List.replicate 32 (.int .u8 0)) [])] [List.replicate 32 (.int .u8 0)]).F
def Abh:Ru K R:=(.mk:Sg 0x1000e9e31204e2323e6323e5 [a,b] h).F
def Hb:R:=(.mk:Sg 0x14320000e00e9e41204e2423e60007e01e285409e [a,b,d,e] h [Ec (Abh K)] [cu0 (Bm (Df [(0,1),(1,1),(2,1),(3,1),(4,1),(5,44)]) (List.replicate 5 (.int .i64 0)++List.replicate 44 (.int .u8 0)) [])]).F
def Jw:R:=(.mk:Sg 0x12026540026a94002421e251ee52441405e2d7609e [a,b,d,e,f,g] h [Ub (Hb K)]).F
def Ns:R:=(.mk:Sg 0x120265436002487656004222e41401e2d7609e [a,b,d,e,f,g] h [cl6 (Jw K)]).F
def Kb:R:=(.mk:Sg 0x12023cd04e62025601e02e07e62020fe2111323e504e2d00715e802e2e9e023e06e201e00edc36007e31ee58043e7e11ee06e20ce2101318e50e9e05e2bde9 [a,b,d,e,f] h [Dr (Pn K),Dr (Ke K),cl6 (Ns K)] [cu6 (fun t b d e f u=>Bm (Df [(0,1),(1,1),(2,1),(3,1),(4,1),(5,44)]) (List.replicate 5 (.int .i64 0)++List.replicate 44 (.int .u8 0)) [(0,t),(1,b),(2,d),(3,e),(4,f),(5,u)])] [List.replicate 5 (.int .i64 0)++List.replicate 44 (.int .u8 0),List.replicate 44 (.int .u8 0)]).F
def Ay7:Ru K R:=(.mk:Sg 0x1000bde31204e2318e6318e5 [a,b] h).F
def Ah9:R:=(.mk:Sg 0x14320000e00bde41204e2418e60007e01e285409e [a,b,d,e] h [Ec (Ay7 K)] [cu0 (Bm (Df [(0,1),(1,1),(2,1),(3,1),(4,1),(5,1),(6,32)]) (List.replicate 6 (.int .i64 0)++List.replicate 32 (.int .u8 0)) [])]).F
def Awz:R:=(.mk:Sg 0x1202c07e4602501e0ae46023e7e802e09e1ee531ee504e2d00315e802e3e7e11ee06e20ce2151618e5232401e470ce0b2343721207e2614e0ee2bde018e06e23456b6107e3062213052211042211032212111210131007e0bde05e3e7e9 [a,b] h [Dr (Aas K),Dr (fun g=>Ew K g (.int .i64 6)),Ec (Ew K),Ec (L8 K),builtin TT .copy #[184,184],Dr (Pn K),Ub (Ah9 K)] [cu1 (fun d=>N1 44 1 d none none none),cu6 (fun a i j n o p=>Bm (Df [(0,1),(1,1),(2,1),(3,1),(4,1),(5,1),(6,32)]) (List.replicate 6 (.int .i64 0)++List.replicate 32 (.int .u8 0)) [(0,a),(1,i),(2,j),(3,n),(4,o),(5,p)]),cu1 (fun u=>N1 32 1 u none none none)] [List.replicate 6 (.int .i64 0)++List.replicate 32 (.int .u8 0),List.replicate 44 (.int .u8 0)]).F
def An3:Ru K R:=(.mk:Sg 0x1000e9e31204e2323e6323e5 [a,b] h).F
def Vx:R:=(.mk:Sg 0x14320000e00e9e41204e2423e60007e01e285409e [a,b,d,e] h [Ec (An3 K)] [cu0 (Bm (Df [(0,1),(1,1),(2,1),(3,1),(4,1),(5,44)]) (List.replicate 5 (.int .i64 0)++List.replicate 44 (.int .u8 0)) [])]).F
def Vu:R:=(.mk:Sg 0x120253410247541000215e802e410103e2d6509e [a,b,d,e,f] h [Dr (Sl K),Ub (Vx K)]).F
def An1:R:=(.mk:Sg 0x120202e05e06e5602505e08e09e56020fe215102e23e503e2d1000e25e232401e4713e002e2343721107eb514e0ee6216a414e62169314e62168214e62167114e9121c082113072113062111052112e9e023e06e21007e1022113101 [a,b] h [Dr (Aas K),Ec (Ew K),Dr (fun d=>Ew K d (.int .i64 6)),Ec (L8 K),builtin TT .copy #[184,184],Dr (Ke K),cl5 (Vu K)] [cu1 (fun e=>Bm (Df [(0,1),(1,1),(2,1),(3,1),(4,1),(5,44)]) (List.replicate 5 (.int .i64 0)++List.replicate 44 (.int .u8 0)) [(0,e)]),cu1 (fun x=>N1 44 1 x none none none)] [List.replicate 5 (.int .i64 0)++List.replicate 44 (.int .u8 0)]).F
def Ae4:R:=(.mk:Sg 0x13721030e9e81204e2823e60107e00e212e20ce232032741007e4f2e5400b0ee0e9e05e410e9269e9 [a,b] h [Ec (Xr K),Ec (An1 K)] [cu1 (fun e=>N1 64 1 e none none none),cu0 (Bm (Df [(0,1),(1,1),(2,1),(3,1),(4,1),(5,44)]) (List.replicate 5 (.int .i64 0)++List.replicate 44 (.int .u8 0)) [])] [List.replicate 5 (.int .i64 0)++List.replicate 44 (.int .u8 0)]).F
def Ana:R:=(.mk:Sg 0x100010e71204e2732e6232e5232e26e522012f2e5 [a,b,d] h [Ec (Yf K)]).F
def Ane:R:=(.mk:Sg 0x1308e06e3403010e09e1204e209e32e60107e00e212e20ce02e131201e22121007e01e514e2c211d442c0a301b3423083019242306301714101043012103301404015e3f05e [a,b,d] h [Jz (Ee K),Ec (fun e u=>Ee K e (.int .i64 6) u),Ec (Qy K),Dr (Oe K),Jz (Ana K)] [cu1 (fun x=>N1 44 1 x none none none),cu0 (Bm (Ll 1) (List.replicate 64 (.int .u8 0)) [])] [[.Al,.bool false]]).F
def Yu:R:=(.mk:Sg 0x156731000e0010e61204e2632e60007e01e2820fe2101323e5010e05e4e9e9269e9 [a,b] h [Dr (Ke K),Jz (Ane K)] [cu0 (Bm (Ll 1) (List.replicate 64 (.int .u8 0)) [])] [List.replicate 64 (.int .u8 0)]).F
def Are:Ru K (Ru r (Ru c R)):=(.mk:Sg 0x1002200e [a] h).F
def Ape:Ru K (Ru r (Ru c R)):=
 Ir e fun f=>
 k4 a b d f h
def Ap8:R:=(.mk:Sg 0x1d2ba4302b2212111823e5521ee67514e92166214e802165014e62201245 [a,b,d,e] h [Ec (Aro K),Dr (fun o=>Cd (List.replicate 5 (.int .i64 0)++List.replicate 44 (.int .u8 0)) 247 49 1 [(0,o)]),Ec (Eg 247 49),Ub (Ape c r K k4)]).F
def Sx(c:Ai)(r:Ai)(K:Nat):Nat->A4
 | 0=>fun _ _ _ _ _=>none
 | m+1=>fun a b d e h=>
  oE 3 a h fun f=>
  Am (Ef K f h) fun g h=>
  Am (Ii K g h) fun i h=>
  cE Ja .lss 3 e i
  (Ap8 c r K (Sx c r K m) a b d e h)
  (Are c r K d h)
def Api:R:=(.mk:Sg 0x11024b4202111223e53223e621ff3f917e0e9e05e818e24564007e21012e67545505b484010e322110e0ee [a,b] h [Dr (Ary K),Dr (fun n=>Cd (List.replicate 5 (.int .i64 0)++List.replicate 44 (.int .u8 0)) 247 49 1 [(0,n)]),Ub (Sx c r K K)] [cu4 (fun a d e g=>Bm (Df [(0,1),(1,1),(2,1),(3,1),(4,1),(5,44)]) (List.replicate 5 (.int .i64 0)++List.replicate 44 (.int .u8 0)) [(0,.int .i64 4),(1,a),(3,d),(4,e),(5,g)])] [List.replicate 5 (.int .i64 0)++List.replicate 44 (.int .u8 0)]).F
def Xn:R:=(.mk:Sg 0x14320000e0b0200e6285409e [a,b,d,e] h [Ec (Api c r K)]).F
def Apz:R:=(.mk:Sg 0x120257430269b43020fe0092321211153409e2d20fe2101245295e9 [a,b] h [c 159,Dr (Ef K),Jz (Mv K),Ub (Xn c r K)]).F
def Wn:Ru K (Ru r (Ru c R)):=(.mk:Sg 0x1002 [] h).F
def Agt:Ru K (Ru r (Ru c R)):=
 Ir f fun g=>
 k5 a b d e g h
def Agy:R:=(.mk:Sg 0x100edcba510245303ff3fa726521c03f9bb8615e302e5010e573211e0ee262e013e06e213e56413e15e [a,b,d,e,f] h [Jz (Jf K),cl5 (Agt c r K k5)] [] [[.int .i64 0]++List.replicate 32 (.int .u8 0)]).F
def Iz(c:Ai)(r:Ai)(K:Nat):Nat->A5
 | 0=>fun _ _ _ _ _ _=>none
 | m+1=>fun a b d e f h=>
  cE Ja .lss 3 f e
  (Agy c r K (Iz c r K m) a b d e f h)
  (Wn c r K h)
def Wc:R:=
 Hf b fun e=>
 Iz c r K K a d b e (.int .i64 0) h
def Ahd:Ru K (Ru r (Ru c R)):=
 Ir i fun j=>
 k7 a b d e f g j h
def Ahc:R:=(.mk:Sg 0x1cba2765720272112101665 [a,b,d,e,f,g,i,j] h [Dr (fun n=>Cd [.int .i64 0,.int .i64 0,.int .i64 0,.int .i64 0,.int .i64 0,.int .i64 0] 53 6 1 [(0,n)]),Ec (Eg 53 6),cl7 (Ahd c r K k7)]).F
def Agi:R:=(.mk:Sg 0x106e05e04e203e02e01e00e810322312e327e1606e20ce2a201245b4007e212e54114e304613e262e013e06e213e58613e15e [a,b,d,e,f,g,i] h [c 127,cl8 (Ahc c r K k7)] [cu4 (fun d p q u=>Bm (Df [(0,1),(1,1),(2,1),(3,1),(4,1),(5,1),(6,32)]) (List.replicate 6 (.int .i64 0)++List.replicate 32 (.int .u8 0)) [(0,.int .i64 1),(1,d),(2,p),(3,q),(6,u)])] [[.int .i64 0]++List.replicate 32 (.int .u8 0),[.int .i64 0,.int .i64 0,.int .i64 0,.int .i64 0,.int .i64 0,.int .i64 0]]).F
def H9(c:Ai)(r:Ai)(K:Nat):Nat->A7
 | 0=>fun _ _ _ _ _ _ _ _=>none
 | m+1=>fun a b d e f g i h=>
  cE Ja .lss 3 i g
  (Agi c r K (H9 c r K m) a b d e f g i h)
  (Wc c r K a b e h)
def Ads:R:=(.mk:Sg 0x10026b0365700513e22423c [a,b] h [cl7 (H9 c r K K)]).F
def Adw:R:=(.mk:Sg 0x143210222212e2101 [a,b] h [c 126,Ec (Ads c r K)]).F
def Anh:R:=(.mk:Sg 0x15421003e0232820fe32201 [a,b] h [Ec (Ze K),Ec (Adw c r K)]).F
abbrev Xp(K:Nat)(c:Ai):Ai:=(w2 125 (Ze K) (w3 128 (Jf K) c))
def Ah0:Ru K (Ru r (Ru c R)):=(.mk:Sg 0x1002 [] h).F
def Aiv:Ru K (Ru r (Ru c R)):=
 Ir e fun f=>
 k4 a b d f h
def Ai8:R:=(.mk:Sg 0x187654102733010007e223 [a,b,d,e] h [Jz (Jf K),Ub (Aiv c r K k4)] [cu0 (Bm (Df [(0,1),(1,1),(2,1),(3,1),(4,1),(5,1)]) [.int .i64 0,.int .i64 0,.int .i64 0,.int .i64 0,.int .i64 0,.int .i64 0] [])]).F
def No(c:Ai)(r:Ai)(K:Nat):Nat->A4
 | 0=>fun _ _ _ _ _=>none
 | m+1=>fun a b d e h=>
  A9j b d fun f=>
  cE Ja .lss 3 e f
  (Ai8 c r K (No c r K m) a b d e h)
  (Ah0 c r K h)
def Aja:R:=
 No c r K K a b d b h
def Ai6:R:=(.mk:Sg 0x1ba9310322312e327e0606e20ce252016523007e22423c [a,b,d] h [c 127,Jz (Aja c r K)] [cu3 (fun f b d=>Bm (Df [(0,1),(1,1),(2,1),(3,1),(4,1),(5,1),(6,32)]) (List.replicate 6 (.int .i64 0)++List.replicate 32 (.int .u8 0)) [(0,.int .i64 2),(1,f),(2,.int .i64 1),(3,b),(4,d)])] [[.int .i64 0,.int .i64 0,.int .i64 0,.int .i64 0,.int .i64 0,.int .i64 0]]).F
def Ahn:R:=(.mk:Sg 0x1543310222212e2101 [a,b,d] h [c 126,Jz (Ai6 c r K)]).F
def N9:R:=(.mk:Sg 0x154330003e023286509e [a,b,d,e,f] h [Jz (Ahn c r K)]).F
def Rt:R:=(.mk:Sg 0x120254351027a985102922e721ee21007e21013030be2d6509e [a,b,d,e,f] h [Dr (Cf K),cl5 (N9 c r K)] [cu1 (fun j=>V9 3 false 0 j)]).F
def Apr:R:=(.mk:Sg 0x12026545102376551010620ec2d20fe32201 [a,b,d] h [Ec (Ve K),cl5 (Rt c r K)]).F
def Le:Ru K (Ru r (Ru c R)):=(.mk:Sg 0x10005047e31304e2312e6312e5 [a,b,d] h).F
def Xx:R:=(.mk:Sg 0x143230010e0000047e31304e2312e60007e04e0053701e [a,b,d,e] h [Jz (Le c r K)] [cu0 (Bm (Ll 1) (List.replicate 32 (.int .u8 0)) [])]).F
def Hq:Ru K (Ru r (Ru c R)):=
 Ir j fun n=>
 k8 a b d e f g i n h
def Xz:R:=(.mk:Sg 0x103e02e6cba9881004e03e72cba9810c0aed2820fe2620120de00a1219e80ae2612e6912e5 [a,b,d,e,f,g,i,j,n,o] h [Ec (Dw K),cl8 (Hq c r K k8)]).F
def Xq:R:=
 Alz n fun q=>
 ifE q
 (Hq c r K k8 a b d e f g o p h)
 (Xz c r K k8 a b d e f g i j o p h)
def Qg:R:=(.mk:Sg 0x107e06e42c05e04e03e02e01e00eb104000047e03e1304e203e12e60107e03e312e447e112e06e421ae20ce246940120de1051219e20de0031219e565239e0206e982007e [a,b,d,e,f,g,i,j] h [c 180,Bqq (Xq c r K k8)] [cu2 (fun i j=>Azy 2 2 true 2 i j),cu0 (Bm (Ll 1) (List.replicate 32 (.int .u8 0)) [])] [[.int .i64 0,.int .i64 0],List.replicate 32 (.int .u8 0)]).F
def De(c:Ai)(r:Ai)(K:Nat):Nat->A8
 | 0=>fun _ _ _ _ _ _ _ _ _=>none
 | m+1=>fun a b d e f g i j h=>
  cE Ja .lss 3 j (.int .i64 2)
  (Qg c r K (De c r K m) a b d e f g i j h)
  (Xx c r K d e f g h)
def Zf:R:=(.mk:Sg 0x100200009cba800252207e232107e814724232007e524414047e05e [a,b,d] h [cl8 (De c r K K)] [cu2 (fun f g=>Bm (Ll 1) [.int .i64 0,.int .i64 0] [(0,f),(1,g)]),cu2 (fun j n=>Bm (Ll 1) [.int .i64 0,.int .i64 0] [(0,j),(1,n)]),cu2 (fun i o=>Bm (Ll 2) [.int .i64 0,.int .i64 0,.int .i64 0,.int .i64 0] [(0,i),(1,o)])] [List.replicate 32 (.int .u8 0)]).F
def Aes:R:=(.mk:Sg 0x156731000e0000047e61304e2612e60007e04e2820fe25201365047e05e327e9 [a,b] h [Ec (Kj K),Jz (Zf c r K)] [cu0 (Bm (Ll 1) (List.replicate 32 (.int .u8 0)) [])] [List.replicate 32 (.int .u8 0)]).F
def Ql:Ru K (Ru r R):=(.mk:Sg 0x1765435100ee0027e81204e28660007e01e0ee0215e701e72201 [a,b,d,e,f,g] h [c 197,cl5 k5] [cu0 (Bm (Df [(0,1),(1,1),(2,1),(3,1),(4,1),(5,1)]) [.int .i64 0,.int .i64 0,.int .i64 0,.int .i64 0,.int .i64 0,.int .i64 0] [])]).F
def X7:R:=(.mk:Sg 0x1876543600ba987660032165fdec20ae3fde307e283701e2fce3 [a,b,d,e,f,g] h [cl6 (Ql c r K k5)]).F
def Xl:R:=(.mk:Sg 0x13a98766203027eb1204e2b660307e00e0ee0215e701e00027e0be1204e20be66565321605efdec20ae03efde3326627fffff6f09e17e027e05e08e18e203e89a5207e21107e24217e0005f05e721007e00e614e2f2e52e0004f02eb97c87003fbfde11e762e7fce11e673fbe11e0ee4ee00215e701e20ce5423401518e5 [a,b,d,e,f] h [c 233,Ec (Of K),cl6 (X7 c r K k5)] [cu1 (fun w=>N1 32 1 w none none none),cu1 (fun y=>Tq .i64 y),cu5 (fun o p q d z=>Bm (Df [(0,1),(1,1),(2,1),(3,1),(4,1),(5,1)]) [.int .i64 0,.int .i64 0,.int .i64 0,.int .i64 0,.int .i64 0,.int .i64 0] [(0,.int .i64 1),(1,o),(2,p),(3,q),(4,d),(5,z)]),cu0 (Bm (Df [(0,1),(1,1),(2,1),(3,1),(4,1),(5,1)]) [.int .i64 0,.int .i64 0,.int .i64 0,.int .i64 0,.int .i64 0,.int .i64 0] [])] [[.int .i64 0,.int .i64 0,.int .i64 0,.int .i64 0,.int .i64 0,.int .i64 0]]).F
def Fy(c:Ai)(r:Ai)(K:Nat):Nat->A5
 | 0=>fun _ _ _ _ _ _=>none
 | m+1=>fun a b d e f h=>
  Am (c 232 [a] h) fun g h=>
  A9p g
  (Bm (Df [(0,1),(1,1),(2,1),(3,1),(4,1),(5,1)]) [(.int .i64 0),(.int .i64 0),(.int .i64 0),(.int .i64 0),(.int .i64 0),(.int .i64 0)] [] fun i=>
  stE 6 f i h fun h=>
  Ij TT [.c f 53,.v g] h)
  (Xl c r K (Fy c r K m) a b d e f h)
def Xo:R:=
 Fy c r K K a b d e f h
def Ad0:R:=(.mk:Sg 0x178cb95104027e81204e28660007e00e312e3e9e123e06e20ce8700002501318e5027e05e3bde9 [a,b,d,e] h [cl5 (Kb K),cl5 (Xo c r K)] [cu0 (Bm (Df [(0,1),(1,1),(2,1),(3,1),(4,1),(5,1)]) [.int .i64 0,.int .i64 0,.int .i64 0,.int .i64 0,.int .i64 0,.int .i64 0] [])] [[.int .i64 0,.int .i64 0,.int .i64 0,.int .i64 0,.int .i64 0,.int .i64 0],List.replicate 5 (.int .i64 0)++List.replicate 44 (.int .u8 0)]).F
def As8:Ru K R:=(.mk:Sg 0x1000bde31204e2318e6318e5 [a,b] h).F
def Atb:R:=(.mk:Sg 0x1cb21030bdec1204e2c18e60007e00e212e20ce23456501644534424314418e5 [a,b,d] h [cl5 (Kb K),Ec (As8 K)] [cu0 (Bm (Df [(0,1),(1,1),(2,1),(3,1),(4,1),(5,1),(6,32)]) (List.replicate 6 (.int .i64 0)++List.replicate 32 (.int .u8 0)) [])]).F
def Am0:R:=(.mk:Sg 0x129a31040bdea1204e2a18e60007e00e312e3bde018e06e20ce2420121ee54514e3040bde05e2e9e9 [a] h [Ec (Awz K),Jz (Atb K)] [cu0 (Bm (Df [(0,1),(1,1),(2,1),(3,1),(4,1),(5,1),(6,32)]) (List.replicate 6 (.int .i64 0)++List.replicate 32 (.int .u8 0)) [])] [List.replicate 6 (.int .i64 0)++List.replicate 32 (.int .u8 0)]).F
def Ayo:Ru K R:=(.mk:Sg 0x1000e9e31204e2323e6323e5 [a,b] h).F
def Aia:R:=(.mk:Sg 0x14320002e00e9e41204e2423e60007e01e285409e [a,b,d,e] h [Ec (Ayo K)] [cu0 (Bm (Df [(0,1),(1,1),(2,1),(3,1),(4,1),(5,44)]) (List.replicate 5 (.int .i64 0)++List.replicate 44 (.int .u8 0)) [])]).F
def Azf:R:=(.mk:Sg 0x12027640024984006225e724d2d3225e514 [a,b,d,e] h [Ub (Aia K)]).F
def Ao7:R:=(.mk:Sg 0x12800ed41040e9e91204e2923e60007e00e312e3e9e023e06e20ce23201432e54f2e50e9e05e410e9269e9 [a,b,d,e] h [Ec (Ae4 K),Ub (Azf K)] [cu0 (Bm (Df [(0,1),(1,1),(2,1),(3,1),(4,1),(5,44)]) (List.replicate 5 (.int .i64 0)++List.replicate 44 (.int .u8 0)) [])] [List.replicate 5 (.int .i64 0)++List.replicate 44 (.int .u8 0)]).F
def Nt:Ru K (Ru r (Ru c R)):=
 some (a,h)
def Nq:R:=(.mk:Sg 0x131000ae02328430be [a,b,d] h [Dr (Nt c r K)]).F
def Abw:R:=(.mk:Sg 0x120233102453102525e8fde3c2a00215e702e20ce2533031e67532e5505b273011e0ee [a,b,d] h [c 45,Jz (Nq c r K)]).F
def Abt:R:=(.mk:Sg 0x12a9310322312e4232e622ff3fa17e010e05e918e20ce232011e57623e5604b2f2e5273b27c0ee [a,b,d] h [Ec (Yu K),Jz (Abw c r K)] [] [List.replicate 64 (.int .u8 0)]).F
def Ahp:R:=(.mk:Sg 0x12ca310322312e4223e6217ff4fd17e0e9e05ec18e20ceba28350f1e8750ee5fde11e318e5300b0ee72162514e3bde9 [a,b,d,e,f,g] h [cl5 (Kb K),Jz (Abt c r K)] [] [List.replicate 5 (.int .i64 0)++List.replicate 44 (.int .u8 0)]).F
def Anf:Ru K (Ru r (Ru c R)):=(.mk:Sg 0x1002200e [a] h).F
def Am8:Ru K (Ru r (Ru c R)):=
 Ir f fun g=>
 k5 a b d e g h
def Ant:R:=
 Qp 64 d h fun i=>
 Am (Cd (List.replicate 64 (.int .u8 0)) 30 64 1 [(0,i)] h) fun j h=>
 Am (Eg 30 64 b j h) fun n h=>
 Am8 c r K k5 a n e f g h
def Anu:R:=(.mk:Sg 0x101e00ed2cb6103b0200e5312e310e132e06e20ce23201323e55f2e52e9e023e06e223e56423e15e [a,b,d,e,f] h [Ec (Yu K),cl6 (Ant c r K k5)] [] [List.replicate 5 (.int .i64 0)++List.replicate 44 (.int .u8 0),List.replicate 64 (.int .u8 0)]).F
def Q4(c:Ai)(r:Ai)(K:Nat):Nat->A5
 | 0=>fun _ _ _ _ _ _=>none
 | m+1=>fun a b d e f h=>
  cE Ja .lss 3 f e
  (Anu c r K (Q4 c r K m) a b d e f h)
  (Anf c r K b h)
def Anp:R:=(.mk:Sg 0x10024b03500313e [a,b] h [cl5 (Q4 c r K K)]).F
def Axr:R:=(.mk:Sg 0x1372102b0200e5212e20ce72201245495e9269e9 [a,b,d] h [c 296,Ec (Anp c r K)]).F
def Z8:Ru K (Ru r (Ru c R)):=(.mk:Sg 0x100050047e41304e2412e6212e53614e [a,b] h).F
def Gi(c:Ai)(r:Ai)(K:Nat)(base:Nat)(s:DX)(a:EV)(b:EV)(d:EV)(e:EV)(h:Ab):R:=
 pkO d e fun f=>
 ifE f
 (Bm (Ll 1) (List.replicate 32 (.int .u8 0)) [] fun g=>
 stE 32 a g h fun h=>
 Ij TT [.c a 85,.v (.bool false),.v (.int .i64 0)] h)
 (Z8 c r K a b h)
def It:R:=
 pkO f g fun i=>
 wfE i
 (noE 7 a fun j=>
 Ln 12 4095 base j s fun s=>Qp 256 j h fun n=>
 Ahh 6 e fun o=>
 N1 32 1 o none none none fun p=>
 J0 15 32767 s h (fun h=>(Of K n p h)) fun q h s=>
 Tq .i64 q fun t=>
 olE 5 18 131583 base b s h fun s u=>
 Av5 t u fun w=>
 Gi c r K base s d e i w h)
 (Gi c r K base s d e i tU h)
def Zr:R:=
 Qp 49 f h fun g=>
 Am (Am0 K g h) fun i h=>
 x2E i fun j n=>
 nsE 38 (List.replicate 6 (.int .i64 0)++List.replicate 32 (.int .u8 0)) 203 j h fun o h=>
 W6 h fun base s=>
 J1 Alb (bin TT .neq 35) n (.int .i64 0) fun p=>
 wfE p
 (olE 5 4 15 base o s h fun s q=>
 Av5 q b fun t=>
 It c r K base s a d e o p t h)
 (It c r K base s a d e o p tU h)
def Iv:R:=(.mk:Sg 0x17654350000040047e71304e2712e60007e04e288709e [a,b,d,e,f,g,i] h [cl5 (Zr c r K)] [cu0 (Bm (Ll 1) (List.replicate 32 (.int .u8 0)) [])]).F
def Is:R:=(.mk:Sg 0x12027654370025a98767002325e64474405e2d8709e [a,b,d,e,f,g,i] h [cl7 (Iv c r K)]).F
def Aab:R:=(.mk:Sg 0x1202301e00edb71024503e02e01ed71030224e30403e2d00315e802e4223e6217ff4fd17e0e9e05ec18e20ce273440f1e87832e7310e932e5904b2f2e5273b27c0ee [a,b,d,e,f,g] h [Ub (Ao7 K),cl7 (Is c r K)] [] [List.replicate 5 (.int .i64 0)++List.replicate 44 (.int .u8 0)]).F
def Ag6:R:=(.mk:Sg 0x100040047e91304e2912e60007e2040047ea1304e3a12e6db2210007e08e0ce0315e701e4040047e91304e2912e60007e03e0ee0315e701e289dca610900315e701e4232e62bff3fc17e110e05eb18e20ce2833071e77412e6310e473011e0ee047e05e327e9 [a,b,d,e] h [c 227,cl6 (Aab c r K),c 228] [cu0 (Bm (Ll 1) (List.replicate 32 (.int .u8 0)) [])] [List.replicate 32 (.int .u8 0),List.replicate 64 (.int .u8 0)]).F
end
variable{d:Nat}(H:By disp)
include H
theorem A7v(hd:3<=d):R2 disp K d 317 (Axa K):=fun _ _=>rl H hd fun d hd=>V3 (Nb H) hd<|rfl
theorem Axm(hd:4<=d):R1 disp K d 64 (Zh K):=fun _=>rl H hd fun d hd=>V1 (U7 H) hd<|V1 (Ey H) hd<|rfl
theorem Aw1(hd:2<=d):S3 disp K d 80 As0:=fun _ _ _=>rd rfl rfl H (V1 (Aki H) hd<|rfl)
theorem Ap2(hd:2<=d){l:Nat}(tm:Bb)(h:Ab)(k:EV)(m:EV){st:LoopState}{p:Option Code}{d0:Nat}(v:h.get l=some (.loop st p 80 31 tm [8,9] (Ek TT 80 0).2.2.1 (Ek TT 80 0).2.2.2 d0)):
 Ag TT disp K (d+1) true l [k,m] h=Aks (Ag TT disp K d false) (Ag TT disp K d true) K l (tmp tm 2) (tmp tm 3) k m h:=rr rfl rfl (rfl) v rfl (by kernel_rfl)
theorem Aly(hd:3<=d):R3 disp K d 103 (P9 K):=fun _ _ _=>rl H hd fun d hd=>V2 (Mj H) hd<|V2 (Xj H) hd<|V1 (Ht H) hd<|V1 (Aml H) hd<|rfl
theorem Apb(hd:2<=d):S1 disp K d 140 Ali:=fun _=>rd rfl rfl H (V1 (Aow H) hd<|rfl)
theorem Acu(hd:5<=d):R2 disp K d 186 (I6 K):=fun _ _=>rl H hd fun d hd=>V2 (Fq H) hd<|V3 (Ad5 H) hd<|rfl
theorem Aqy(hd:4<=d):S3 disp K d 195 Ake:=fun _ _ _=>ld rfl rfl H (V2 (An6 H) hd<|rfl) 5 (fun c r=>e3 (Ki c r K) 0 1 5)
theorem Arf(hd:3<=d):S2 disp K d 196 Ala:=fun _ _=>rd rfl rfl H (V2 (Aos H) hd<|V3 (Aoi H) hd<|rfl)
theorem Aop(hd:2<=d):S2 disp K d 199 Ai1:=fun _ _=>ld rfl rfl H (V1 (Arj H) hd<|rfl) 5 (fun c r=>e4 (Jn c r K) 0 6 7 8)
theorem Aov(hd:3<=d):S2 disp K d 219 Ail:=fun _ _=>rd rfl rfl H (V2 (Amj H) hd<|rfl)
theorem Aoe(hd:2<=d):S2 disp K d 224 Aij:=fun _ _=>rd rfl rfl H (V3 (Ap5 H) hd<|V1 (Aou H) hd<|rfl)
theorem Ase(hd:3<=d):S3 disp K d 227 Ang:=fun _ _ _=>rd rfl rfl H (V3 (Aqm H) hd<|rfl)
theorem R6(hd:3<=d):R2 disp K d 230 (Of K):=fun _ _=>rl H hd fun d hd=>V3 (At5 H) hd<|rfl
theorem Akb(hd:4<=d):S1 disp K d 232 Adg:=fun _=>rd rfl rfl H (V1 (Au6 H) hd<|rfl)
theorem Acw(hd:4<=d):R1 disp K d 257 (Pn K):=fun _=>rl H hd fun d hd=>V1 (An9 H) hd<|V3 (Nb H) hd<|V2 (Aec H) hd<|V1 (Yt H) hd<|rfl
theorem Auo(hd:4<=d):R2 disp K d 287 (Xr K):=fun _ _=>ll H hd (fun d hd=>V2 (R6 H) hd<|rfl) 207 (e6 (Ob K) 1 6 7 22 23 24)
theorem Auu(hd:4<=d):R2 disp K d 311 (Yf K):=fun _ _=>rl H hd fun d hd=>V2 (R6 H) hd<|rfl
theorem A3u(hd:4<=d):R2 disp K d 313 (Aro K):=fun _ _=>ll H hd (fun d hd=>V3 (Nb H) hd<|V1 (Asx H) hd<|V2 (Iw H) hd<|V2 (A7v H) hd<|rfl) 103 (e5 (Y6 K) 1 2 4 5 14)
theorem Aoq(hd:3<=d):S3 disp K d 45 Ahr:=fun _ _ _=>rd rfl rfl H (V3 (Aly H) hd<|rfl)
theorem T6(hd:6<=d):R3 disp K d 128 (Jf K):=fun _ _ _=>rl H hd fun d hd=>V2 (Iw H) hd<|V2 (Acu H) hd<|V3 (Atm H) hd<|rfl
theorem Ato(hd:6<=d):S2 disp K d 139 Apn:=fun _ _=>rd rfl rfl H (V2 (Iw H) hd<|V3 (T6 H) hd<|rfl)
theorem Wt(hd:6<=d):R2 disp K d 179 (Kj K):=fun _ _=>rl H hd fun d hd=>V2 (Acu H) hd<|rfl
theorem Ame(hd:6<=d):S2 disp K d 193 Afz:=fun _ _=>ld rfl rfl H (V2 (Wt H) hd<|rfl) 51 (fun c r=>e5 (Dl c r K) 0 3 4 26 27)
theorem Re(hd:5<=d):R5 disp K d 231 (Kb K):=fun _ _ _ _ _=>rl H hd fun d hd=>V1 (Acw H) hd<|V1 (Rk H) hd<|rfl
theorem A7j(hd:5<=d):R2 disp K d 250 (Awz K):=fun _ _=>rl H hd fun d hd=>V1 (Aa6 H) hd<|V2 (Ng H) hd<|V2 (X2 H) hd<|V1 (Acw H) hd<|rfl
theorem Ax6(hd:5<=d):R2 disp K d 255 (Ae4 K):=fun _ _=>rl H hd fun d hd=>V2 (Auo H) hd<|V1 (Aor H) hd<|V1 (Aa6 H) hd<|V2 (Ng H) hd<|V2 (X2 H) hd<|V1 (Rk H) hd<|rfl
theorem Akw(hd:5<=d):R2 disp K d 295 (Yu K):=fun _ _=>rl H hd fun d hd=>V1 (Rk H) hd<|V2 (Auu H) hd<|V3 (Nb H) hd<|V2 (Aec H) hd<|V1 (Yt H) hd<|rfl
theorem Anv(hd:4<=d):S2 disp K d 296 Apz:=fun _ _=>ld rfl rfl H (V1 (Fg H) hd<|V3 (Ad5 H) hd<|V2 (A3u H) hd<|V1 (Ur H) hd<|V1 (A3l H) hd<|rfl) 207 (fun c r=>e4 (Sx c r K) 2 6 7 8)
omit H in
theorem Ao4(c r:Ai)(K:Nat)(m:Nat):lpB false (Xp K c) c r K 59 831 [(2,fun k tm h ds=>Wn c r K h)] m=(fun m k tm h ds=>Iz c r K m (k 0) (k 7) (k 55) (k 56) (k 57) h) m:=
 Qv (E:=fun m k tm h ds=>Iz c r K m (k 0) (k 7) (k 55) (k 56) (k 57) h) rfl (fun m=>A2m fun k tm h ds=>by kernel_rfl) m
omit H in
theorem Aoh(c r:Ai)(K:Nat)(m:Nat):lpB false (Xp K c) c r K 59 415 [(0,fun k tm h ds=>Wc c r K (k 0) (k 1) (k 7) h)] m=(fun m k tm h ds=>H9 c r K m (k 0) (k 1) (k 6) (k 7) (k 28) (k 29) (k 30) h) m:=
 Qv (E:=fun m k tm h ds=>H9 c r K m (k 0) (k 1) (k 6) (k 7) (k 28) (k 29) (k 30) h) rfl (fun m=>A2m fun k tm h ds=>by kernel_rfl) m
theorem Asf(hd:6<=d):S2 disp K d 59 Anh:=fun _ _=>rm (q:=false) (D:=Xp K (Ag TT disp K d false)) (by kernel_rfl) rfl rfl H (V2 (Auz H) hd<|V3 (T6 H) hd<|rfl) (cut [true,true,true,true,true,true,false,true,false] (Ao4 (Ag TT disp K d false) (Ag TT disp K d true) K K) (by kernel_rfl) (by kernel_rfl) (cut [true,true,true,true,true,false,true,false] (Aoh (Ag TT disp K d false) (Ag TT disp K d true) K K) (by kernel_rfl) (by kernel_rfl) rfl))
theorem At7(hd:6<=d):S3 disp K d 70 Apr:=fun _ _ _=>ld rfl rfl H (V2 (Aiw H) hd<|V3 (T6 H) hd<|V1 (Cw H) hd<|rfl) 207 (fun c r=>e4 (No c r K) 0 1 2 10)
theorem Ak0(hd:6<=d):S2 disp K d 106 Aes:=fun _ _=>ld rfl rfl H (V2 (Wt H) hd<|V2 (Ei H) hd<|rfl) 207 (fun c r=>e8 (De c r K) 0 3 4 7 8 9 30 31)
theorem Alm(hd:5<=d):S4 disp K d 185 Ad0:=fun _ _ _ _=>ld rfl rfl H (V5 (Re H) hd<|V2 (R6 H) hd<|rfl) 11 (fun c r=>e5 (Fy c r K) 0 2 3 5 8)
theorem A1u(hd:6<=d):R1 disp K d 220 (Am0 K):=fun _=>rl H hd fun d hd=>V2 (A7j H) hd<|V5 (Re H) hd<|rfl
theorem Axg(hd:6<=d):R4 disp K d 229 (Ao7 K):=fun _ _ _ _=>rl H hd fun d hd=>V2 (Ax6 H) hd<|rfl
theorem Aoc(hd:5<=d):S6 disp K d 260 Ahp:=fun _ _ _ _ _ _=>rd rfl rfl H (V5 (Re H) hd<|V2 (Akw H) hd<|rfl)
theorem Axy(hd:5<=d):S3 disp K d 261 Axr:=fun _ _ _=>ld rfl rfl H (V2 (Akw H) hd<|rfl) 207 (fun c r=>e5 (Q4 c r K) 3 10 24 25 26)
theorem Am6(hd:6<=d):S4 disp K d 180 Ag6:=fun _ _ _ _=>rd rfl rfl H (V2 (R6 H) hd<|V1 (A1u H) hd<|V4 (Axg H) hd<|rfl)
end
end
section
noncomputable section
section
variable (c r:Ai)(K l:Nat)(k0:A0)(k1:A1)(k2:A2)(k3:A3)(k4:A4)(k5:A5)(k6:A6)(k7:A7)(k8:A8)(k9:A9)(k10:A10)(k11:A11)(k12:A12)(m0:B0)(m1:B1)(m2:B2)(m3:B3)(m4:B4)(m5:B5)(m6:B6)(m7:B7)(m8:B8)(m9:B9)(m10:B10)(m11:B11)(m12:B12)(base:Nat)(s:DX)(tm:Bb)(a b d e f g i j n o p q t u w x y z aa ab ad ae af ag ai aj an ao ap aq au aw ax ay az ba bb bd be bf bg bi bj bn bo bp bq bt bu bw bx bz da db dd de df dg di dj dn dp dq dt du dw dx dy dz ea eb ed ee ef eg ei ej en eo ep eq et eu ew ex ey ez fa fb fd fe ff fg fi fj fn fo fp fq ft fu fw fx fy fz ga gb gd ge gf gg gi gj gn go gp gq gt gu gw gx gy gz ia ib ie ig ii ij io ip iq it iu iw ix iy iz ja jb:EV)(h:Ab)(ds:List Nat)
def Adm:Ru K R:=(.mk:Sg 0x125200e214722319e51c204422319e21c [a,b] h).F
def T8:R:=(.mk:Sg 0x1542100101200e62820fe3101 [a,b] h [Dr (Apm K),Ec (Adm K)] [] [] [(.int .i64 (-1))]).F
def Ho:Ru K R:=(.mk:Sg 0x122213e203 [a] h).F
def Agq:R:=(.mk:Sg 0x122210142116e203 [a,b] h [Dr (Ho K)]).F
def Qx:R:=(.mk:Sg 0x15421000232820fe32201 [a,b] h [Ec (Gs K),Ec (Agq K)]).F
end
variable{d:Nat}(H:By disp)
include H
theorem Aqc(hd:2<=d):R2 disp K d 241 (T8 K):=fun _ _=>rl H hd fun d hd=>V1 (Av0 H) hd<|rfl
theorem Aa3(hd:1<=d):R1 disp K d 248 (Ho K):=fun _=>rl H hd
theorem Ar6(hd:2<=d):R2 disp K d 216 (Qx K):=fun _ _=>rl H hd fun d hd=>V2 (Kk H) hd<|V1 (Aa3 H) hd<|rfl
end
end
section
noncomputable section
section
variable (c r:Ai)(K l:Nat)(k0:A0)(k1:A1)(k2:A2)(k3:A3)(k4:A4)(k5:A5)(k6:A6)(k7:A7)(k8:A8)(k9:A9)(k10:A10)(k11:A11)(k12:A12)(m0:B0)(m1:B1)(m2:B2)(m3:B3)(m4:B4)(m5:B5)(m6:B6)(m7:B7)(m8:B8)(m9:B9)(m10:B10)(m11:B11)(m12:B12)(base:Nat)(s:DX)(tm:Bb)(a b d e f g i j n o p q t u w x y z aa ab ad ae af ag ai aj an ao ap aq au aw ax ay az ba bb bd be bf bg bi bj bn bo bp bq bt bu bw bx bz da db dd de df dg di dj dn dp dq dt du dw dx dy dz ea eb ed ee ef eg ei ej en eo ep eq et eu ew ex ey ez fa fb fd fe ff fg fi fj fn fo fp fq ft fu fw fx fy fz ga gb gd ge gf gg gi gj gn go gp gq gt gu gw gx gy gz ia ib ie ig ii ij io ip iq it iu iw ix iy iz ja jb:EV)(h:Ab)(ds:List Nat)
def Axx:Ru K R:=(.mk:Sg 0x122284e921007e [a] h [] [cu1 (fun a=>Bm (Df [(0,1),(1,1),(2,1),(3,1),(4,1),(5,1),(6,2)]) [.Bw,.int .i64 0,.bool false,.int .i64 0,.int .i64 0,.int .i64 0,.int .i64 0,.int .i64 0] [(0,a)])]).F
def T1:Ru K R:=(.mk:Sg 0x125200e20de1021219e56c20de0021219e26c [a] h).F
def Uk:Ru K (Ru r R):=(.mk:Sg 0x1240200e32201 [a,b] h [c 203]).F
def O5:R:=
 pkO f g fun i=>
 ifE i
 (some (.tuple [d,e],h))
 (Uk c r K a b h)
def Ak9:R:=(.mk:Sg 0x1203236561024347661000215e802e01e3d20ce32201 [a,b] h [c 202,cl6 (O5 c r K)]).F
def S8:Ru K (Ru r R):=(.mk:Sg 0x1240200e42201203 [a,b] h [c 71]).F
def Sw:R:=(.mk:Sg 0x1322000050200e63043701e [a,b,d] h [Ec (S8 c r K)]).F
def Sr:R:=(.mk:Sg 0x14ba320340200e50ee0315e701e5212e629ff3fc17e047e05eb18e421ae20ce232131e67665605b21001e47273011e0ee [a,b,d] h [Dr (Du K),c 106,Jz (Sw c r K)] [] [List.replicate 32 (.int .u8 0)]).F
def Aji:R:=(.mk:Sg 0x13a93200050200e61023801e204327e0606e20ce522112101203 [a,b] h [Dr (Gn K),Ec (Ji K),Jz (Sr c r K)] [] [[.int .i64 0,.int .i64 0,.int .i64 0,.int .i64 0,.int .i64 0,.int .i64 0]]).F
def Uv:Ru K (Ru r R):=(.mk:Sg 0x1222101203 [a] h [c 73]).F
def Uq:R:=(.mk:Sg 0x14110222212e42201203 [a,b] h [c 74,Dr (Uv c r K)]).F
def K3:R:=
 pkO e f fun g=>
 ifE g
 (some (b,h))
 (Uq c r K a d h)
def O7:R:=(.mk:Sg 0x12025435002365450001524ec2d6509e [a,b,d,e,f] h [cl5 (K3 c r K)] [] [] [(.int .i64 (-1))]).F
def Ady:R:=(.mk:Sg 0x12052475202635852000415e802e00e5d7221150320ce32201 [a,b] h [c 202,c 27,cl5 (O7 c r K)]).F
def Aah:R:=(.mk:Sg 0x154210222212e2101203 [a,b] h [c 73,Ec (Ady c r K)]).F
def Pc:Ru K (Ru r (Ru c R)):=(.mk:Sg 0x10040200e [] h).F
def Ach:R:=(.mk:Sg 0x10a00a0242911e57236e5284b5314e2183275171170ee13e0123701e23200e20ce6161a8023701e240200e51519c023701e340200e347e012e06e20ce2624131406e6023701e240200e102633131401e3023701e240200e2b221ff3f972111818e252107e2102ae6721007e484210e322110e0ee1ee1023701e204230e9 [a,b,d] h [Dr (Amn K),Dr (fun o=>Cd ([.int .i64 0]++List.replicate 32 (.int .u8 0)) 112 33 1 [(0,o)]),c 59,c 70,c 47,c 73,c 39,Dr (Du K),Dr (Bn K),c 46,cl0 (Pc c r K)] [cu1 (fun i=>Tq .u8 i),cu2 (fun g n=>Bm (Df [(0,1),(1,32)]) ([.int .i64 0]++List.replicate 32 (.int .u8 0)) [(0,g),(1,n)])] [List.replicate 32 (.int .u8 0)] [(.int .i64 6)]).F
def Aaa:Ru K R:=
 some (a,h)
def Rh:Ru K R:=
 Ir e fun f=>
 k4 a b d f h
def Z7:R:=(.mk:Sg 0x18765420982642060ae928722112101203 [a,b,d,e] h [Dr (Du K),Ec (Dw K),Ub (Rh K k4)]).F
def Im(K:Nat):Nat->A4
 | 0=>fun _ _ _ _ _=>none
 | m+1=>fun a b d e h=>
  cE Ja .lss 3 e d
  (Z7 K (Im K m) a b d e h)
  (Aaa K b h)
def L2:R:=(.mk:Sg 0x1002006430212121112101203 [a] h [Dr (Gn K),Dr (Ef K),Dr (Dn K),Ub (Im K K)]).F
def Ad3:Ru K (Ru r R):=(.mk:Sg 0x123200e20ce23201213 [a] h [c 151]).F
def Aka:R:=(.mk:Sg 0x1713023200e20ce29221421ee71303e323601e61321007e21112101203 [a] h [Dr (Gn K),Dr (Ef K),c 150,Dr (Ad3 c r K)] [cu1 (fun e=>V9 3 false 0 e)]).F
def N3:R:=(.mk:Sg 0x1222724e6021de21007e2113e03fa72101e03f974d2e8011e20ae273111e0ee [a] h [Dr (Gn K),Dr (Ef K)] [cu1 (fun g=>V9 3 false 0 g)]).F
def Lg(c:Ai)(r:Ai)(K:Nat)(base:Nat)(s:DX)(a:EV)(b:EV)(h:Ab):R:=
 pkA a b fun d=>
 some (.tuple [d,(.int .i64 0)],h)
def Za:R:=
 fE 0 a h fun e=>
 Am (Du K e h) fun f h=>
 Am (Gb K f h) fun g h=>
 Am (c 243 [g,b,d] h) fun i h=>
 x2E i fun j n=>
 nsE 4 [(.int .i64 0),(.int .i64 0),(.int .i64 0),.Bw] 163 j h fun o h=>
 W6 h fun base s=>
 J1 Akq (bin TT .eql 35) n (.int .i64 0) fun p=>
 wtE p
 (olE 0 4 15 base o s h fun s q=>
 Aod 0 8 231 base a s h fun s t=>
 J0 9 487 s h (fun h=>(So K t h)) fun u h s=>
 V9 0 false 0 u fun w=>
 A35 q w fun x=>
 Lg c r K base s p x h)
 (Lg c r K base s p tU h)
def Ld:R:=(.mk:Sg 0x1543300640200e5287609e [a,b,d,e,f,g] h [Jz (Za c r K)]).F
def Y0:R:=(.mk:Sg 0x1202358761023469861040feb2d00215e802e421ae20ce32201 [a,b] h [c 242,cl6 (Ld c r K)]).F
def Lh:R:=(.mk:Sg 0x1432000040200e6285409e [a,b,d,e] h [Ec (Y0 c r K)]).F
def Adx:R:=(.mk:Sg 0x120248440257b44062231212180305e2d01324e20ce522112101203 [a,b] h [Dr (Acy K),Ec (T8 K),Dr (Du K),Ec (Dw K),Ub (Lh c r K)] [] [] [(.int .i64 (-1))]).F
def Ado:Ru K (Ru r (Ru c R)):=(.mk:Sg 0x100050020304e [a] h).F
def Aem:Ru K (Ru r (Ru c R)):=
 Ir f fun g=>
 k5 a b d e g h
def Ad4:R:=
 Qp 64 e h fun i=>
 Am (Cd (List.replicate 64 (.int .u8 0)) 30 64 1 [(0,i)] h) fun j h=>
 Am (Eg 30 64 d j h) fun n h=>
 Aem c r K k5 a b n f g h
def Un:R:=(.mk:Sg 0x1875432600000400b00304eb612e [a,b,d,e,f,g,i] h [cl6 (Ad4 c r K k5)]).F
def Kz:R:=(.mk:Sg 0x198765437000ee00400b00304eb28a909e [a,b,d,e,f,g,i,j,n] h [cl7 (Un c r K k5)]).F
def K1:R:=(.mk:Sg 0x120987654329002a9876543900ba0be01e9d [a,b,d,e,f,g,i,j,n,o] h [cl9 (Kz c r K k5)]).F
def Ox:R:=(.mk:Sg 0x120a98765432a102cba987654a100ee0215e702e232010aeaa [a,b,d,e,f,g,i,j,n] h [c 197,Bqd (K1 c r K k5)]).F
def Aep:R:=(.mk:Sg 0x1202cb43a9892023dc54ba99200ce0415e702e04e2d0ee0315e702e310e032e06e20ce7323113101 [a,b,d,e,f] h [Dr (Bn K),c 227,cl9 (Ox c r K k5)] [] [List.replicate 64 (.int .u8 0)]).F
def Kl(c:Ai)(r:Ai)(K:Nat):Nat->A5
 | 0=>fun _ _ _ _ _ _=>none
 | m+1=>fun a b d e f h=>
  cE Ja .lss 3 f e
  (Aep c r K (Kl c r K m) a b d e f h)
  (Ado c r K d h)
def Akj:R:=(.mk:Sg 0x1002b05854072231212121112101203 [a,b] h [Dr (Du K),Dr (Bn K),Dr (Dy K),Ec (Qx K),cl5 (Kl c r K K)]).F
def Ar1:R:=(.mk:Sg 0x127e02e1104e202e66c654216b514e4216a414ec0d201c11152167314e52166214e52165114e108201307201306201227e0606e21007e103201027e05e [a] h [Ec (Ew K),Dr (fun a=>Ew K a (.int .i64 6))] [cu1 (fun d=>Bm (Df [(0,1),(1,1),(2,1),(3,1),(4,1),(5,1)]) [.int .i64 0,.int .i64 0,.int .i64 0,.int .i64 0,.int .i64 0,.int .i64 0] [(0,d)])] [[.int .i64 0,.int .i64 0,.int .i64 0,.int .i64 0,.int .i64 0,.int .i64 0]]).F
def Aee:Ru K (Ru r (Ru c R)):=
 some (.tuple [a,b],h)
def Ov:R:=(.mk:Sg 0x105e04e22009e08e22032262fff3fc17e06e6c232107e04ed2e8311e03e00e4411e0ee12e04e808e21602e2c06e21601e5c04e21600e4c321621ffff5f03e17ed1c273103e6021de21007e2117c03fb72103c03fa771c03f9011e20ae500e4111e0ee321643c20ae233 [a,b,d,e,f,g] h [Dr (Gn K),Dr (Ef K),Ec (Aee c r K)] [cu1 (fun u=>V9 3 false 0 u),cu2 (fun ae af=>Bm (Ll 1) [.int .i64 0,.int .i64 0] [(0,ae),(1,af)])]).F
def Kt:R:=(.mk:Sg 0x18765436000ee040200e628980be [a,b,d,e,f,g,i,j] h [cl6 (Ov c r K)]).F
def Ot:R:=(.mk:Sg 0x120276542381025a9875681000215e802e21013030ae2a870be [a,b,d,e,f,g,i] h [c 72,cl8 (Kt c r K)]).F
def Uu:R:=(.mk:Sg 0x120237654710234876571030fec2a31017609e [a,b,d,e,f,g] h [Dr (N3 K),cl7 (Ot c r K)]).F
def Ks:R:=(.mk:Sg 0x12065432600276543600870bec6d [a,b,d,e,f,g,i] h [cl6 (Uu c r K)]).F
def Kn:R:=(.mk:Sg 0x12076543271029876547106225e210103e7a [a,b,d,e,f,g] h [Dr (L2 K),cl7 (Ks c r K)]).F
def Ow:R:=(.mk:Sg 0x120265436102376546103101d2d7609e [a,b,d,e,f,g] h [Dr (N3 K),cl6 (Kn c r K)]).F
def Kq:R:=(.mk:Sg 0x1207653260028764360040feb7d [a,b,d,e,f,g] h [cl6 (Ow c r K)]).F
def U3:R:=(.mk:Sg 0x134597660040a2b9860020ae63301e0023701e513423353243 [a,b,d,e] h [cl6 (Kq c r K)]).F
def Akv:R:=(.mk:Sg 0x13526420240200e50ee0215e701e20ce31112101 [a] h [Dr (L2 K),c 86,Ub (U3 c r K)]).F
def Ag0:R:=(.mk:Sg 0x14095e0de1204e20de4604e45421603e314e20ce213186552167514e52166414e52165314e1000e22110d22130c221209e1606e2343207e10922110822110722132462f1e817e095e05e718e2343107e41102e57743310e611410e0ee210121007e3514e095e05e2e9e9 [a] h [Dr (Aas K),Dr (fun g=>Ew K g (.int .i64 6)),Ec (Ew K),Dr (Zh K)] [cu1 (fun e=>N1 44 1 e none none none),cu3 (fun i j n=>Bm (Df [(0,1),(1,1),(2,1),(3,1)]) [.int .i64 0,.int .i64 0,.int .i64 0,.Bw] [(0,i),(1,j),(2,n)]),cu3 (fun q t u=>Bm (Df [(0,1),(1,1),(2,1),(3,1),(4,1),(5,1)]) [.int .i64 0,.int .i64 0,.int .i64 0,.int .i64 0,.int .i64 0,.int .i64 0] [(0,q),(1,t),(2,u)])] [[.int .i64 0,.int .i64 0,.int .i64 0,.Bw],[.int .i64 0,.int .i64 0,.int .i64 0,.int .i64 0,.int .i64 0,.int .i64 0]]).F
def Ae5:Ru K R:=(.mk:Sg 0x1002 [] h).F
def Aw6:Ru K R:=
 Ir e fun f=>
 k4 a b d f h
def Awf:R:=(.mk:Sg 0x1a765410222212e283301665234 [a,b,d,e,f,g] h [Jz (Jf K),Ub (Aw6 K k4)]).F
def Av7:R:=(.mk:Sg 0x100e65dcb6300203263601e21007e211183472662f5e917e027e05e818e921de2301fe1021ee443210e4101170ee [a,b,d,e] h [Dr (Ar1 K),Dr (Ef K),cl0 (Ae5 K),cl6 (Awf K k4)] [cu1 (fun q=>V9 3 false 0 q)] [[.int .i64 0,.int .i64 0,.int .i64 0,.int .i64 0,.int .i64 0,.int .i64 0]]).F
def Yi(K:Nat):Nat->A4
 | 0=>fun _ _ _ _ _=>none
 | m+1=>fun a b d e h=>
  cE Ja .lss 3 e (.int .i64 2)
  (Av7 K (Yi K m) a b d e h)
  (Ae5 K h)
def Alp:R:=(.mk:Sg 0x100256410210121007e2514e4e9e9295e9 [a,b] h [Dr (Aas K),Ub (Yi K K)] [cu1 (fun f=>N1 44 1 f (some (.int .i64 1)) none none)]).F
def Ud:Ru K (Ru r (Ru c R)):=
 some (a,h)
def F3:R:=(.mk:Sg 0x131207023212e211124534010007e [a,b,d] h [Ub (Ao9 K),c 73,Dr (Ud c r K)] [cu0 (Bm (Df [(0,1),(1,1),(2,1)]) [.int .i64 0,.int .i64 0,.int .i64 0] [(1,.int .i64 1),(2,.int .i64 1)])]).F
def Ms:Ru K (Ru r (Ru c R)):=
 Ir f fun g=>
 k5 a b d e g h
def Uf:R:=(.mk:Sg 0x187654530a987653092221411103e2820fe64201 [a,b,d,e,f] h [c 20,Dr (Cn K),c 67,cl5 (Ms c r K k5)]).F
def D9(c:Ai)(r:Ai)(K:Nat):Nat->A5
 | 0=>fun _ _ _ _ _ _=>none
 | m+1=>fun a b d e f h=>
  cE Ja .lss 3 f e
  (Uf c r K (D9 c r K m) a b d e f h)
  (F3 c r K a b d h)
def Mt:R:=(.mk:Sg 0x10027655102101265 [a,b,d,e] h [Dr (Dn K),cl5 (D9 c r K K)]).F
def Ua:Ru K (Ru r (Ru c R)):=
 Ir f fun g=>
 k5 a b d e g h
def Uh:R:=(.mk:Sg 0x1cba9851025ba40120ae291fe414271fe214 [a,b,d,e,f] h [Ub (Tk K),cl5 (Ua c r K k5)]).F
def Di(c:Ai)(r:Ai)(K:Nat):Nat->A5
 | 0=>fun _ _ _ _ _ _=>none
 | m+1=>fun a b d e f h=>
  cE Ja .lss 3 f (.int .i64 3)
  (Uh c r K (Di c r K m) a b d e f h)
  (Mt c r K a b d e h)
def L9:R:=
 Am (Apv K b h) fun e h=>
 Di c r K K a b d e (.int .i64 0) h
def Tb:R:=(.mk:Sg 0x15433007023286509e [a,b,d,e,f] h [Jz (L9 c r K)]).F
def Su:R:=(.mk:Sg 0x120248c5302359d53000315e802e00e2d00615e802e20ce212176520ce2353173700027265201b0ee [a,b] h [cl0 (A6o K),Jz (Af5 K),Dr (Zh K),cl5 (Tb c r K)]).F
def Sv:R:=(.mk:Sg 0x1392207023212e20ce2343131e67502e5510e443210e210117265200b0ee [a] h [Dr (Dn K),Jz (Aqr K),Ec (Su c r K)]).F
def Hu:R:=(.mk:Sg 0x131007023284309e [a,b,d] h [Dr (Sv c r K)]).F
def Yw:R:=(.mk:Sg 0x1202531026931015e0222e231fe61450405e2d20fe2101265209e9 [a] h [Dr (H5 K),Jz (Hu c r K)]).F
abbrev Oc(K:Nat)(c:Ai):Ai:=(w1 61 (H5 K) (w4 68 (Ao9 K) (w1 17 (Cn K) (w1 15 (Dn K) (w4 66 (Tk K) (w1 65 (Apv K) (w0 63 (A6o K) (w3 62 (Af5 K) (w1 64 (Zh K) (w3 43 (Aqr K) c))))))))))
def Aba:Ru K (Ru r R):=(.mk:Sg 0x12095e51204e354620ce3101 [a,b] h [c 267]).F
def As1:Ru K (Ru r (Ru c R)):=
 Ir i fun j=>
 k7 a b d e f g j h
def As3:R:=
 Qp 49 f h fun n=>
 Am (Cd (List.replicate 5 (.int .i64 0)++List.replicate 44 (.int .u8 0)) 247 49 1 [(0,n)] h) fun o h=>
 Am (Eg 247 49 e o h) fun p h=>
 As1 c r K k7 a b d p g i j h
def Asv:R:=(.mk:Sg 0x103e02e01e200edcb82000ed2105312e3e9e123e06e20ced723401332e56f2e5210e032e06e232e58632e15e [a,b,d,e,f,g,i] h [Ub (Ao7 K),Ec (Aba c r K),cl8 (As3 c r K k7)] [] [List.replicate 64 (.int .u8 0),List.replicate 5 (.int .i64 0)++List.replicate 44 (.int .u8 0)]).F
def Vm(c:Ai)(r:Ai)(K:Nat):Nat->A7
 | 0=>fun _ _ _ _ _ _ _ _=>none
 | m+1=>fun a b d e f g i h=>
  cE Ja .lss 3 i g
  (Asv c r K (Vm c r K m) a b d e f g i h)
  (Aba c r K d e h)
def A1n:R:=(.mk:Sg 0x10027b0346700613e095e05e269e9 [a,b,d] h [cl7 (Vm c r K K)] [] [[.int .i64 0,.int .i64 0,.int .i64 0,.Bw]]).F
def Al2:Ru K (Ru r (Ru c R)):=(.mk:Sg 0x100095e31204e2346345 [a,b] h).F
def Axi:Ru K (Ru r (Ru c R)):=
 Ir g fun i=>
 k6 a b d e f i h
def Av1:R:=(.mk:Sg 0x1dcba9860000e0095ea1204e2a460007e01e24e9e801e223e5b623e15e223e52e9e023e06e223e57523e15e [a,b,d,e,f,g] h [cl6 (Axi c r K k6)] [cu0 (Bm (Df [(0,1),(1,1),(2,1),(3,1)]) [.int .i64 0,.int .i64 0,.int .i64 0,.Bw] [])] [List.replicate 5 (.int .i64 0)++List.replicate 44 (.int .u8 0)]).F
def T3(c:Ai)(r:Ai)(K:Nat):Nat->A6
 | 0=>fun _ _ _ _ _ _ _=>none
 | m+1=>fun a b d e f g h=>
  cE Ja .lss 3 g f
  (Av1 c r K (T3 c r K m) a b d e f g h)
  (Al2 c r K b d h)
def Aw2:R:=
 Hf e fun f=>
 T3 c r K K a b d e f (.int .i64 0) h
def Ae9:R:=(.mk:Sg 0x13a9841000e0095ea1204e2a460007e01e212e20ce242011e57200e4110e00323e15e445400b0ee [a,b,d] h [c 296,Ub (Aw2 c r K)] [cu0 (Bm (Df [(0,1),(1,1),(2,1),(3,1)]) [.int .i64 0,.int .i64 0,.int .i64 0,.Bw] [])]).F
def Ava:Ru K (Ru r (Ru c R)):=
 Ir g fun i=>
 k6 a b d e f i h
def Ae6:R:=(.mk:Sg 0x187654360000e0095e51204e25460007e01e289809e [a,b,d,e,f,g,i,j] h [cl6 (Ava c r K k6)] [cu0 (Bm (Df [(0,1),(1,1),(2,1),(3,1)]) [.int .i64 0,.int .i64 0,.int .i64 0,.Bw] [])]).F
def Ata:R:=(.mk:Sg 0x1202dcba988102603e02e01e00edc81000215e802e23201623e5a450ee2d2325eb0ae2242e9e023e06e223e57523e15e [a,b,d,e,f,g] h [Ec (Alp K),cl8 (Ae6 c r K k6)] [] [List.replicate 5 (.int .i64 0)++List.replicate 44 (.int .u8 0)]).F
def Rb(c:Ai)(r:Ai)(K:Nat):Nat->A6
 | 0=>fun _ _ _ _ _ _ _=>none
 | m+1=>fun a b d e f g h=>
  cE Ja .lss 3 g f
  (Ata c r K (Rb c r K m) a b d e f g h)
  (Ae9 c r K a b d h)
def As5:R:=(.mk:Sg 0x10023987620213e252007e21112101434 [a,b,d] h [Dr (Ef K),Dr (Ii K),cl6 (Rb c r K K)] [cu2 (fun a g=>Ae2 49 a (some (.int .i64 1)) (some g) none)]).F
def Aa7:R:=(.mk:Sg 0x154330000e0095e51204e25460007e01e286509e [a,b,d,e,f] h [Jz (As5 c r K)] [cu0 (Bm (Df [(0,1),(1,1),(2,1),(3,1)]) [.int .i64 0,.int .i64 0,.int .i64 0,.Bw] [])]).F
def Aso:R:=(.mk:Sg 0x12023a953027801e00e5302322ec13e212121113340ae2d00315e802e395e0406e20ce2101223e500223e15e [a,b] h [Dr (Ag0 K),Dr (Ef K),Dr (Ii K),cl5 (Aa7 c r K)] [] [[.int .i64 0,.int .i64 0,.int .i64 0,.Bw]]).F
def A4k:R:=(.mk:Sg 0x13420000e0095e41204e24460007e01e0023701e313e095e05e [a] h [Ec (Aso c r K)] [cu0 (Bm (Df [(0,1),(1,1),(2,1),(3,1)]) [.int .i64 0,.int .i64 0,.int .i64 0,.Bw] [])] [[.int .i64 0,.int .i64 0,.int .i64 0,.Bw]]).F
abbrev Aqh(K:Nat)(c:Ai):Ai:=(w2 298 (Alp K) (w1 88 (Ef K) (w1 191 (Ii K) (w1 297 (Ag0 K) c))))
end
variable{d:Nat}(H:By disp)
include H
theorem A4g(hd:1<=d):R1 disp K d 31 (Axx K):=fun _=>rl H hd
theorem Aq9(hd:1<=d):R1 disp K d 40 (T1 K):=fun _=>rl H hd
theorem Aqz(hd:0<=d):S2 disp K d 150 Ak9:=fun _ _=>rd rfl rfl H rfl
theorem Aof(hd:1<=d):S2 disp K d 151 Aji:=fun _ _=>rd rfl rfl H (V1 (N7 H) hd<|V2 (Iw H) hd<|V1 (Jm H) hd<|rfl)
theorem Abn(hd:0<=d):S2 disp K d 203 Aah:=fun _ _=>rd rfl rfl H rfl
theorem Ajw(hd:1<=d):S3 disp K d 32 Ach:=fun _ _ _=>rd rfl rfl H (V1 (A1h H) hd<|V1 (Jm H) hd<|V1 (D4 H) hd<|rfl)
theorem Al5(hd:4<=d):R1 disp K d 85 (L2 K):=fun _=>ll H hd (fun d hd=>V1 (N7 H) hd<|V1 (Fg H) hd<|V1 (Ey H) hd<|V1 (Jm H) hd<|V2 (Ei H) hd<|rfl) 51 (e4 (Im K) 0 3 11 12)
theorem Ap1(hd:1<=d):S1 disp K d 86 Aka:=fun _=>rd rfl rfl H (V1 (N7 H) hd<|V1 (Fg H) hd<|rfl)
theorem An5(hd:2<=d):R1 disp K d 87 (N3 K):=fun _=>rl H hd fun d hd=>V1 (N7 H) hd<|V1 (Fg H) hd<|rfl
theorem Aj9(hd:3<=d):S2 disp K d 202 Adx:=fun _ _=>rd rfl rfl H (V1 (Ar5 H) hd<|V2 (Aqc H) hd<|V1 (Jm H) hd<|V2 (Ei H) hd<|V1 (Xc H) hd<|V1 (An7 H) hd<|rfl)
theorem Apk(hd:2<=d):S2 disp K d 242 Akj:=fun _ _=>ld rfl rfl H (V1 (Jm H) hd<|V1 (D4 H) hd<|V1 (Ml H) hd<|V2 (Ar6 H) hd<|rfl) 103 (fun c r=>e5 (Kl c r K) 1 7 8 21 22)
theorem A3o(hd:3<=d):R1 disp K d 314 (Ar1 K):=fun _=>rl H hd fun d hd=>V2 (Ng H) hd<|rfl
theorem Aqn(hd:4<=d):S1 disp K d 39 Akv:=fun _=>rd rfl rfl H (V1 (Al5 H) hd<|V1 (N7 H) hd<|V1 (Fg H) hd<|V1 (An5 H) hd<|rfl)
theorem A2y(hd:5<=d):R1 disp K d 297 (Ag0 K):=fun _=>rl H hd fun d hd=>V1 (Aa6 H) hd<|V2 (Ng H) hd<|V1 (Axm H) hd<|rfl
theorem A3t(hd:7<=d):R2 disp K d 298 (Alp K):=fun _ _=>ll H hd (fun d hd=>V1 (Aa6 H) hd<|V3 (T6 H) hd<|V1 (A3o H) hd<|V1 (Fg H) hd<|rfl) 51 (e4 (Yi K) 2 3 5 13)
omit H in
theorem Afh(c r:Ai)(K:Nat)(m:Nat):lpB false (Oc K c) c r K 30 6655 [(2,fun k tm h ds=>F3 c r K (k 5) (k 7) (k 9) h)] m=(fun m k tm h ds=>D9 c r K m (k 5) (k 7) (k 9) (k 73) (k 74) h) m:=
 Qv (E:=fun m k tm h ds=>D9 c r K m (k 5) (k 7) (k 9) (k 73) (k 74) h) rfl (fun m=>A2m fun k tm h ds=>by kernel_rfl) m
omit H in
theorem Ac7(c r:Ai)(K:Nat)(m:Nat):lpB false (Oc K c) c r K 30 3327 [(0,fun k tm h ds=>Mt c r K (k 1) (k 5) (k 7) (k 9) h)] m=(fun m k tm h ds=>Di c r K m (k 1) (k 5) (k 7) (k 9) (k 56) h) m:=
 Qv (E:=fun m k tm h ds=>Di c r K m (k 1) (k 5) (k 7) (k 9) (k 56) h) rfl (fun m=>A2m fun k tm h ds=>by kernel_rfl) m
theorem Af8(hd:5<=d):S1 disp K d 30 Yw:=fun _=>rm (q:=false) (D:=Oc K (Ag TT disp K d false)) (by kernel_rfl) rfl rfl H (V1 (Ag8 H) hd<|V4 (A8b H) hd<|V1 (Hz H) hd<|V1 (Ey H) hd<|V4 (At3 H) hd<|V1 (A7i H) hd<|V0 (Bbo H) hd<|V3 (A17 H) hd<|V1 (Axm H) hd<|V3 (A8k H) hd<|rfl) (cut [true,true,true,true,true,true,true,true,true,false,true,false] (Afh (Ag TT disp K d false) (Ag TT disp K d true) K K) (by kernel_rfl) (by kernel_rfl) (cut [true,true,true,true,true,true,true,true,false,true,false] (Ac7 (Ag TT disp K d false) (Ag TT disp K d true) K K) (by kernel_rfl) (by kernel_rfl) rfl))
theorem A1i(hd:6<=d):S3 disp K d 243 A1n:=fun _ _ _=>ld rfl rfl H (V4 (Axg H) hd<|rfl) 51 (fun c r=>e7 (Vm c r K) 1 3 6 8 13 14 15)
omit H in
theorem A2l(c r:Ai)(K:Nat)(m:Nat):lpB false (Aqh K c) c r K 267 3327 [(2,fun k tm h ds=>Al2 c r K (k 2) (k 4) h)] m=(fun m k tm h ds=>T3 c r K m (k 0) (k 2) (k 4) (k 73) (k 74) (k 75) h) m:=
 Qv (E:=fun m k tm h ds=>T3 c r K m (k 0) (k 2) (k 4) (k 73) (k 74) (k 75) h) rfl (fun m=>A2m fun k tm h ds=>by kernel_rfl) m
omit H in
theorem Azv(c r:Ai)(K:Nat)(m:Nat):lpB false (Aqh K c) c r K 267 415 [(0,fun k tm h ds=>Ae9 c r K (k 0) (k 2) (k 4) h)] m=(fun m k tm h ds=>Rb c r K m (k 0) (k 2) (k 4) (k 41) (k 42) (k 43) h) m:=
 Qv (E:=fun m k tm h ds=>Rb c r K m (k 0) (k 2) (k 4) (k 41) (k 42) (k 43) h) rfl (fun m=>A2m fun k tm h ds=>by kernel_rfl) m
theorem A4d(hd:7<=d):S1 disp K d 267 A4k:=fun _=>rm (q:=false) (D:=Aqh K (Ag TT disp K d false)) (by kernel_rfl) rfl rfl H (V2 (A3t H) hd<|V1 (Fg H) hd<|V1 (Ur H) hd<|V1 (A2y H) hd<|rfl) (cut [true,true,true,true,true,true,true,true,false,true,false] (A2l (Ag TT disp K d false) (Ag TT disp K d true) K K) (by kernel_rfl) (by kernel_rfl) (cut [true,true,true,true,true,false,true,false] (Azv (Ag TT disp K d false) (Ag TT disp K d true) K K) (by kernel_rfl) (by kernel_rfl) rfl))
end
end
noncomputable section
section
variable (c r:Ai)(K l:Nat)(k0:A0)(k1:A1)(k2:A2)(k3:A3)(k4:A4)(k5:A5)(k6:A6)(k7:A7)(k8:A8)(k9:A9)(k10:A10)(k11:A11)(k12:A12)(m0:B0)(m1:B1)(m2:B2)(m3:B3)(m4:B4)(m5:B5)(m6:B6)(m7:B7)(m8:B8)(m9:B9)(m10:B10)(m11:B11)(m12:B12)(base:Nat)(s:DX)(tm:Bb)(a b d e f g i j n o p q t u w x y z aa ab ad ae af ag ai aj an ao ap aq au aw ax ay az ba bb bd be bf bg bi bj bn bo bp bq bt bu bw bx bz da db dd de df dg di dj dn dp dq dt du dw dx dy dz ea eb ed ee ef eg ei ej en eo ep eq et eu ew ex ey ez fa fb fd fe ff fg fi fj fn fo fp fq ft fu fw fx fy fz ga gb gd ge gf gg gi gj gn go gp gq gt gu gw gx gy gz ia ib ie ig ii ij io ip iq it iu iw ix iy iz ja jb:EV)(h:Ab)(ds:List Nat)
def Pw:Ru K (Ru r (Ru c R)):=
 some ((.bool true),h)
def Gg:Ru K (Ru r (Ru c R)):=
 Ir o fun p=>
 k10 a b d e f g i j n p h
def Px:R:=
 pkO p q fun t=>
 ifE t
 (some ((.bool false),h))
 (Gg c r K k10 a b d e f g i j n o h)
def Jp:R:=(.mk:Sg 0x120203e02e01e00edcba98c102506e05e04e03e02e01e00edcbc102725e20de1000e1219e0ce2d2525e20de00b1219e20ce4101 [a,b,d,e,f,g,i,j,n,o] h [Dr (T1 K),Bo7 (Px c r K k10)]).F
def Gc:R:=(.mk:Sg 0x1cba8765432a00dcb9876543a002926672007e08e98 [a,b,d,e,f,g,i,j,n,o,p] h [Bqd (Jp c r K k10)] [cu2 (fun g f=>Bm (Ll 1) [.int .i64 0,.int .i64 0] [(0,g),(1,f)])]).F
def Jo:R:=
 pkO q t fun u=>
 ifE u
 (some ((.bool false),h))
 (Gc c r K k10 a b d e f g i j n o p h)
def Jr:R:=
 pkO q t fun u=>
 wfE u
 (Am (Nl K d h) fun w h=>
 Av5 w f fun x=>
 Jo c r K k10 a b d e f g i j n o p u x h)
 (Jo c r K k10 a b d e f g i j n o p u tU h)
def Ge:R:=
 pkA t u fun w=>
 J1 Alb (bin TT .neq 4) q w fun x=>
 wfE x
 (Am (Lu K d h) fun y h=>
 Av5 y e fun z=>
 Jr c r K k10 a b d e f g i j n o p x z h)
 (Jr c r K k10 a b d e f g i j n o p x tU h)
def Jx:R:=
 Ir e fun q=>
 oE 3 a h fun t=>
 A9j t (.int .i64 3) fun u=>
 Ae8 (bin TT .rem 3) q u fun w=>
 A35 w (.int .i64 0) fun x=>
 wtE x
 (Am (Py K d h) fun y h=>
 Alz y fun z=>
 Ge c r K k10 a b d w f g i j n o p j x z h)
 (Ge c r K k10 a b d w f g i j n o p j x tU h)
def Pm:R:=(.mk:Sg 0x1dcba9826543b00dcba9226543b0000e0063701e60ae [a,b,d,e,f,g,i,j,n,o,p] h [Bqq (Jx c r K k10)]).F
def Pg:R:=
 pkO p q fun t=>
 ifE t
 (some ((.bool false),h))
 (Gg c r K k10 a b d e f g i j n o h)
def Pl:R:=(.mk:Sg 0x1202cba9876543c102400edcba98765c108225e510108e2ddc09e [a,b,d,e,f,g,i,j,n,o,p,q] h [Dr (Nl K),Bo7 (Pg c r K k10)]).F
def Eo:R:=(.mk:Sg 0x1dcba9876543b2020adcb9876543c102c01e00edba98765c107225e510108ead1be2800ed09e [a,b,d,e,f,g,i,j,n,o,p,q,t] h [Dr (Lu K),Bo7 (Pl c r K k10),Bqq (Pm c r K k10)]).F
def Po:R:=
 Zl 71 j o fun p=>
 Qp 71 p h fun q=>
 nsE 71 (List.replicate 7 (.int .i64 0)++List.replicate 64 (.int .u8 0)) 62 q h fun t h=>
 Qp 71 t h fun u=>
 Am (c 32 [u,b,d] h) fun w h=>
 x2E w fun x y=>
 oE 0 t h fun z=>
 Av5 z (.int .i64 5) fun aa=>
 wfE aa
 (J1 Akq (bin TT .eql 35) y (.int .i64 34) fun ab=>
 Eo c r K k10 a b d e f g i x j n o aa ab h)
 (Eo c r K k10 a b d e f g i x j n o aa tU h)
def Bt(c:Ai)(r:Ai)(K:Nat):Nat->A10
 | 0=>fun _ _ _ _ _ _ _ _ _ _ _=>none
 | m+1=>fun a b d e f g i j n o h=>
  cE Ja .lss 3 o n
  (Po c r K (Bt c r K m) a b d e f g i j n o h)
  (Pw c r K h)
def Pj:R:=(.mk:Sg 0x100263000000587a10513e239e0206e0007e4101 [a,b,d] h [Dr (Axx K),Bqd (Bt c r K K)] [cu0 (Bm (Ll 1) [.int .i64 0,.int .i64 0] [])] [[.int .i64 0,.int .i64 0]]).F
def Fz:R:=(.mk:Sg 0x15433005023286509e [a,b,d,e,f] h [Jz (Pj c r K)]).F
def Pp:R:=(.mk:Sg 0x12023655102458751001222e513e00e2d7020ce702e2101365 [a,b] h [c 30,cl5 (Fz c r K)] [] [] [(.int .i64 120)]).F
def L5:R:=(.mk:Sg 0x14621040232820fe001209e9 [a,b] h [c 29,Ec (Pp c r K)]).F
end
variable{d:Nat}(H:By disp)
include H
theorem Aaj(hd:1<=d):S2 disp K d 5 L5:=fun _ _=>ld rfl rfl H (V1 (Aq9 H) hd<|V1 (An4 H) hd<|V1 (Am4 H) hd<|V1 (Al3 H) hd<|V1 (A4g H) hd<|rfl) 1663 (fun c r=>e10 (Bt c r K) 2 5 6 7 8 9 10 31 32 33)
end
end Go.Ev
