import Derived.Test.YtokpnommcenoaaaGreatDb
set_option linter.all false
namespace Go.Ev
open Go.Proofs
set_option maxRecDepth 100000
set_option maxHeartbeats 4000000
variable {disp:Nat->Option FT}{K:Nat}
section
noncomputable section
section
variable (c r:Ai)(K l:Nat)(k0:A0)(k1:A1)(k2:A2)(k3:A3)(k4:A4)(k5:A5)(k6:A6)(k7:A7)(k8:A8)(k9:A9)(k10:A10)(k11:A11)(k12:A12)(m0:B0)(m1:B1)(m2:B2)(m3:B3)(m4:B4)(m5:B5)(m6:B6)(m7:B7)(m8:B8)(m9:B9)(m10:B10)(m11:B11)(m12:B12)(base:Nat)(s:DX)(tm:Bb)(a b d e f g i j n o p q t u w x y z aa ab ad ae af ag ai aj an ao ap aq au aw ax ay az ba bb bd be bf bg bi bj bn bo bp bq bt bu bw bx bz da db dd de df dg di dj dn dp dq dt du dw dx dy dz ea eb ed ee ef eg ei ej en eo ep eq et eu ew ex ey ez fa fb fd fe ff fg fi fj fn fo fp fq ft fu fw fx fy fz ga gb gd ge gf gg gi gj gn go gp gq gt gu gw gx gy gz ia ib ie ig ii ij io ip iq it iu iw ix iy iz ja jb:EV)(h:Ab)(ds:List Nat)
def Axe:R:=(.mk:Sg 0x1000e2c000e301c542c211a44210a301834230830162423063014142104301204327e9 [a,b] h [Jx (Ee K),D7 (fun a q=>Ee K a (.int .i64 6) q)]).F
def Ay5:R:=(.mk:Sg 0x1002200e281e9818e2573007e22221618e21102e57565504b22201318e322310e265200b0ee [a] h [D7 (Vs [.int .i64 0,.int .i64 0,.int .i64 0,.int .i64 0,.int .i64 0,.int .i64 0] 53),Dq (Dp K),D7 (Vs [.int .i64 0] 3)] [cu3 (fun b e i=>Bo (Dg [(0,6),(6,1),(7,1)]) [.int .i64 0,.int .i64 0,.int .i64 0,.int .i64 0,.int .i64 0,.int .i64 0,.Al,.Al] [(0,b),(1,e),(2,i)])]).F
def Yd:R:=(.mk:Sg 0x1511009e070200e62820fe2101265209e9 [a] h [Dq (Ms K),Dq (Ay5 K)]).F
def Asd:Ru r R:=
 (fun(tm:Bb) (ds:List Nat)=>
 P9 42 a h fun e h=>
 Fy b h fun f=>
 Am (Yl K f h) fun g h=>
 Uv c TT 80 31 0 g (((tm.put 3 (some e)).put 6 (some f)).put 7 (some g)) h ds (fun h ds=>
 Fi ds h fun h=>some (.tuple [],h)) (fun id h ds=>
 Ax (Nat.beq 0 id) (Fi ds h fun h=>some (.tuple [],h)) (none)) (fun h ds=>
 Fi ds h fun h=>some (.tuple [],h))) (((Tr.nil.put 0 (some a)).put 1 (some b)).put 2 (some d)) []
def Ix:Ru K (Ru r (Ru c R)):=
 pkA a b fun d=>
 ifE d
 (V6 l false .done (some .ret) h)
 (V6 l true .ready none h)
def L5:R:=(.mk:Sg 0x12022102521020fe5220130de00e2a540be [a,b,d,e] h [D7 (fun g b=>Rf c r g [b]),D7 (Ix c r K l)]).F
def L2:R:=(.mk:Sg 0x12043240025434006509ea4a [a,b,d,e,f] h [Sx (L5 c r K l)]).F
def Pq:R:=(.mk:Sg 0x12076435002a9765002324e30de52402e7d [a,b,d,e,f,g] h [cl5 (L2 c r K l)]).F
def Abp:R:=(.mk:Sg 0x1202765460025a9876002324e50de71403e2a10224e504 [a,b,d,e] h [cl6 (Pq c r K l)]).F
def Aj2:R:=
 nsE 6 [(.int .i64 0),(.int .i64 0),(.int .i64 0),(.int .i64 0),(.int .i64 0),(.int .i64 0)] 53 e h fun f h=>
 Et l h fun h=>Abp c r K l a b d f h
def Q4:R:=(.mk:Sg 0x123200e20ce2320f1e87732e5707b20de231e6b42115e273011e0ee [a,b,d] h [D7 (D3 K)]).F
def Mb(K:Nat)(base:Nat)(s:DX)(a:EV)(b:EV)(d:EV)(e:EV)(f:EV)(h:Ab):R:=
 pkA e f fun g=>
 ifE g
 (some (.tuple [(.int .i64 0),(.int .i64 33)],h))
 (Q4 K a b d h)
def Zg:R:=
 Wm h fun base s=>
 Aod 0 3 7 base a s h fun s e=>
 Aal 1 e b fun f=>
 Le 6 63 base f s fun s=>Fy f h fun g=>
 Js 7 127 s h (fun h=>(Eb K g h)) fun i h s=>
 A62 i (.int .i64 0) fun j=>
 wtE j
 (Js 11 2047 s h (fun h=>(Pz K a h)) fun n h s=>
 Aod 2 15 29695 base a s h fun s o=>
 A8u n o fun p=>
 Mb K base s a b d j p h)
 (Mb K base s a b d j tU h)
def Pw:R:=(.mk:Sg 0x1354310200200e5212e43201410e9 [a,b,d] h [D7 (H0 K),Jx (Zg K)]).F
def Ake:Ru r R:=(.mk:Sg 0x12221113032101 [a] h [c 172,Dq (Rq K)]).F
def Ac8:Ru K R:=(.mk:Sg 0x1402 [] h).F
def Ej(K:Nat)(base:Nat)(s:DX)(a:EV)(b:EV)(h:Ab):R:=
 pkA a b fun d=>
 some (d,h)
def Fa:R:=
 pkA b d fun e=>
 wtE e
 (olE 5 42 4398046511103 base a s h fun s f=>
 Azo f (.int .i64 4294967295) fun g=>
 Ej K base s e g h)
 (Ej K base s e tU h)
def Ga:R:=
 pkA b d fun e=>
 wtE e
 (olE 5 37 137438953471 base a s h fun s f=>
 A8u f (.int .i64 0) fun g=>
 Fa K base s a e g h)
 (Fa K base s a e tU h)
def Ic:R:=
 pkA b d fun e=>
 wtE e
 (olE 4 32 4294967295 base a s h fun s f=>
 Azo f (.int .i64 281474976710655) fun g=>
 Ga K base s a e g h)
 (Ga K base s a e tU h)
def Kr:R:=
 pkA b d fun e=>
 wtE e
 (olE 4 27 134217727 base a s h fun s f=>
 A8u f (.int .i64 1) fun g=>
 Ic K base s a e g h)
 (Ic K base s a e tU h)
def Ki:R:=
 pkA d e fun f=>
 wtE f
 (Le 15 32767 base b s fun s=>Q2 6 b h fun g=>
 olE 1 17 98303 base a s h fun s i=>
 Js 18 262143 s h (fun h=>(Er K g i h)) fun j h s=>
 Le 19 32767 base b s fun s=>Q2 6 b h fun n=>
 olE 2 21 1081343 base a s h fun s o=>
 Js 22 4194303 s h (fun h=>(Er K n o h)) fun p h s=>
 A0u j p fun q=>
 Kr K base s a f q h)
 (Kr K base s a f tU h)
def Kj:R:=
 ifE e
 (Q2 6 a h fun f=>
 oE 0 a h fun g=>
 Bo (Dg [(0,1),(1,1),(2,1),(3,1),(4,1),(5,1)]) [(.int .i64 0),(.int .i64 0),(.int .i64 0),(.int .i64 0),(.int .i64 0),(.int .i64 0)] [(0,g)] fun i=>
 Ko Aj7 (bin TT .eql 53) f i fun j=>
 some (j,h))
 (cE Aj7 .eql 3 d (.int .i64 1)
 (Wm h fun base s=>
 Le 0 0 base b s fun s=>Q2 6 b h fun n=>
 olE 1 2 2 base a s h fun s o=>
 olE 3 4 8 base a s h fun s p=>
 Js 5 31 s h (fun h=>(Mp K n o p h)) fun q h s=>
 wtE q
 (Le 7 127 base b s fun s=>Q2 6 b h fun t=>
 olE 2 9 383 base a s h fun s u=>
 olE 3 11 1151 base a s h fun s w=>
 Js 12 4095 s h (fun h=>(Mp K t u w h)) fun x h s=>
 Ki K base s a b q x h)
 (Ki K base s a b q tU h))
 (Ac8 K h))
def Iz:R:=(.mk:Sg 0x1245640030324e234540072800224e304409e9227e9 [a,b] h [Sx (Kj K)]).F
def Adr:Ru K (Ru r R):=(.mk:Sg 0x16543100ee040200e60ee0215e701e62201203 [a,b,d,e] h [c 197,Jx k3]).F
def Ade:R:=(.mk:Sg 0x17654410540200ea2162114e622319e41c06e0ee0215e701e0050200e422623fff4f00e17ea22319e81c2a2007e21f83f9010e622319e41c0ee1be00215e701e623301445 [a,b,d,e] h [c 236,Sx (Adr c r K k3)] [cu2 (fun e n=>Bo (Dg [(0,1),(1,1)]) [.int .i64 0,.int .i64 0] [(0,e),(1,n)])]).F
def Ku(c:Ai)(r:Ai)(K:Nat):Nat->A3
 | 0=>fun _ _ _ _=>none
 | m+1=>fun a b d h=>
  Am (Rp K a b h) fun e h=>
  cE Aj7 .eql 3 e (.int .i64 (-1))
  (some (.tuple [(.bool false),(.int .i64 0)],h))
  (Ade c r K (Ku c r K m) a b d e h)
def Alj:R:=
 P9 163 d h fun e h=>
 Ku c r K K a b e h
def Uf:Ru K (Ru r (Ru c R)):=
 some (a,h)
def Alf:R:=(.mk:Sg 0x1213031300065321b00215e701e5221130332201 [a,b] h [c 102,D7 (Rm K),Jx (Yw K),Dq (Uf c r K)]).F
def Acg:Ru K (Ru r (Ru c R)):=
 I6 e fun f=>
 k4 a b d f h
def Abn:R:=(.mk:Sg 0x18765410000e22820fe26330153116e [a,b,d,e] h [Jx (fun a e f=>Rf c r a [e,f]),Sx (Acg c r K k4)]).F
def Jn(c:Ai)(r:Ai)(K:Nat):Nat->A4
 | 0=>fun _ _ _ _ _=>none
 | m+1=>fun a b d e h=>
  cE Iy .lss 3 e d
  (Abn c r K (Jn c r K m) a b d e h)
  (some (.tuple [],h))
def Ah9:R:=(.mk:Sg 0x100235410213e210130de [a,b] h [Dq (Ty K),Sx (Jn c r K K)]).F
def Ah3:Ru r R:=(.mk:Sg 0x1225221130332201 [a,b] h [c 102,D7 (Pt K)]).F
def Ahl:Ru r R:=(.mk:Sg 0x1000e000e21419039c023701e000ec0233331e67902e5210e973011e0ee08e6023701e000e60233331e67902e5210e973011e0ee08e3023701e000e2a221836e5a1023701e714321623ff3fa17e72c242170e772101618e336e5305b300e4211e0ee312e9 [a,b] h [Dq (fun f=>Bz (List.replicate 4 (.int .i64 0)++List.replicate 64 (.int .u8 0)) 32 68 1 [(0,f)]),D7 (Ef 32 68),c 251,Jx (O0 K),Dq (J5 K)]).F
def Am6:Ru r R:=(.mk:Sg 0x12010e71204e3732e620ce76231140343201010e05e [a,b,d] h [c 102,Jx (Tx K)] [] [List.replicate 64 (.int .u8 0)]).F
def Oe:R:=(.mk:Sg 0x12201267e403e42201269e9 [a,b] h [D7 (fun d b=>Ag1 K d (.int .u32 4294967295) b)] [] [] [(.int .u32 4294967295)]).F
def Xg:Ru K (Ru r (Ru c R)):=(.mk:Sg 0x1002002164fdec62163fcec42162fbec [a,b,d] h).F
def Y7:R:=(.mk:Sg 0x13473100fe023212e421ae20ce21012f9e3 [a] h [Dq (Y0 K),Jx (Xg c r K)]).F
def Pk:R:=(.mk:Sg 0x14110222212e2101203 [a] h [c 140,Dq (Y7 c r K)]).F
def K0:R:=(.mk:Sg 0x13100002328430be [a,b,d] h [Dq (Pk c r K)]).F
def Ad2:R:=(.mk:Sg 0x120243002683002420e22451c4fde304e2a01225e2fbe3 [a] h [Jx (K0 c r K)] [] [] [(.int .i64 (-1))]).F
def Aea:R:=(.mk:Sg 0x150e7e09e1204e209e1ee609e1ee54224107e1107e20ce01e131200e22121007ed614e230b311b5423093119442107311734210531152423201314015e3f05e [a,b,d] h [D7 (fun e f=>Ee K e (.int .i64 6) f),Jx (Ee K),D7 (Qd K),Dq (Oa K),builtin TT .copy #[184,184]] [cu1 (fun w=>Nv 32 1 w none none none),cu1 (fun d=>Nv 44 1 d none none none)] [[.Al,.bool false]]).F
def Pc:R:=(.mk:Sg 0x156731000e00e7e71204e271ee651ee501e2820fe2101418e50e7e05e0e7e05e2bde9 [a] h [Dq (Q9 K),Jx (Aea K)] [] [List.replicate 44 (.int .u8 0)]).F
def Aht:Ru K R:=(.mk:Sg 0x1002200e23211432007e001 [a,b] h [cl0 (Bz [.int .u8 0] 5 1 0 []),D7 (Ef 5 1)] [cu2 (fun a b=>Aex 1 a none (some b) none)]).F
def Ah0:Ru K R:=
 I6 g fun i=>
 k6 a b d e f i h
def Aib:R:=
 Agi (bin TT .shr 117) d (.int .u64 8) fun i=>
 Ah0 K k6 a b i e f g h
def Ah6:R:=(.mk:Sg 0x198765460001e0b0200e6235801e51007e75116e [a,b,d,e,f,g] h [cl6 (Aib K k6)] [cu1 (fun d=>Sf .u8 d)]).F
def Nz(K:Nat):Nat->A6
 | 0=>fun _ _ _ _ _ _ _=>none
 | m+1=>fun a b d e f g h=>
  cE Iy .lss 3 g f
  (Ah6 K (Nz K m) a b d e f g h)
  (Aht K a b h)
def Aio:R:=(.mk:Sg 0x10023497610213e752107e232001e47532007e3f2e5300b0ee [a,b,d] h [D7 (Oe K),cl6 (Nz K K)] [cu2 (fun a d=>Aex 1 a none (some d) none),cu2 (fun a d=>Aex 1 a (some d) none none)]).F
def Xm:R:=(.mk:Sg 0x124630004e0b0200e60023301ec021ee413e269e9 [a,b] h [Jx (Aio K)]).F
def Yz:R:=(.mk:Sg 0x1222a221246843121307e21967e603e21207e11767e603e21107e01567e603e41007e72221011522012f2e5269e9 [a,b] h [D7 (Oe K),cl0 (Bz [.int .u8 0] 5 1 0 []),D7 (Ef 5 1),Sx (fun j o q u=>Bz [.int .u8 0] 5 1 4 [(0,j),(1,o),(2,q),(3,u)])] [cu1 (fun f=>Sf .u8 f),cu1 (fun n=>Sf .u8 n),cu1 (fun p=>Sf .u8 p),cu1 (fun t=>Sf .u8 t)] [] [(.int .u64 8),(.int .u64 16),(.int .u64 24)]).F
def Avv:R:=(.mk:Sg 0x1e7e31104e231ee63101 [a,b] h [Dq (Aki K)]).F
def Au4:Ru K R:=
 I6 f fun g=>
 k5 a b d e g h
def Awf:R:=(.mk:Sg 0x102e01e00edc520200e211265327e0606e20ce25201921de2301fe1031ee334 [a,b,d,e,f] h [D7 (Hr K),D7 (Axe K),cl5 (Au4 K k5)] [] [[.int .i64 0,.int .i64 0,.int .i64 0,.int .i64 0,.int .i64 0,.int .i64 0]]).F
def X1(K:Nat):Nat->A5
 | 0=>fun _ _ _ _ _ _=>none
 | m+1=>fun a b d e f h=>
  cE Iy .lss 3 f (.int .i64 2)
  (Awf K (X1 K m) a b d e f h)
  (Avv K d e h)
def Arh:R:=(.mk:Sg 0x10035685107102301215e3f90007e0e7e05e295e9 [a,b] h [Jx (Ee K),cl5 (X1 K K)] [cu0 (Bo (Dg [(0,1),(1,1)]) [.Al,.bool false] [])] [List.replicate 44 (.int .u8 0)]).F
def Sp:Ru K (Ru r (Ru c R)):=
 some (.tuple [a,b],h)
def Ai9:R:=(.mk:Sg 0x12323056230232214b2007e93304e00215e701e20ce2733131e67432e5405b473011e0ee43201410e9 [a,b,d] h [c 102,Jx (Pw K),builtin TT .delete #[147,179],D7 (Sp c r K)] [cu2 (fun b n=>Bo (Dg [(0,1),(1,1)]) [.int .i64 0,.int .i64 0] [(0,b),(1,n)])]).F
def Anf:R:=(.mk:Sg 0x10023266271e717e93615e965905b673611e0ee102531166523201565 [a,b,d,e] h [D7 (fun a f=>Sr K a f (.int .i64 (-1))),Jx (Sr K)]).F
def Jc:R:=(.mk:Sg 0x17bdc42000e0232820fe242111e57265200e4b80c665600b0ee322312e327e0606e20ce43201427e9 [a,b,d] h [D7 (Hr K),D7 (Iz K),Sx (Anf K)] [] [[.int .i64 0,.int .i64 0,.int .i64 0,.int .i64 0,.int .i64 0,.int .i64 0]]).F
def Ah7:Ru r (Ru c R):=(.mk:Sg 0x1222533031e67565505b273211e0ee [a,b,d] h [Jx (Jc K)]).F
def Ahs:R:=(.mk:Sg 0x12ba310322312e426622fff4f00e17e027e05ed18e20ce26201ff3f972633007e612e5607b210e5210e23c0ee [a,b,d] h [c 127,Jx (Ah7 c r K)] [cu3 (fun f b g=>Bo (Dg [(0,1),(1,1),(2,1),(3,1),(4,1),(5,1),(6,32)]) (List.replicate 6 (.int .i64 0)++List.replicate 32 (.int .u8 0)) [(0,.int .i64 3),(1,f),(2,.int .i64 1),(3,b),(6,g)])] [[.int .i64 0,.int .i64 0,.int .i64 0,.int .i64 0,.int .i64 0,.int .i64 0]]).F
def X6:R:=(.mk:Sg 0x132222b33210007e82300e10e0315e701e298310600315e701e4212e622ff3fa17e047e05e918e20ce232011e57565504b273011e0ee [a,b,d] h [c 193,Jx (Ahs c r K),Jx (Jc K)] [cu0 (Bo (Dg [(0,1),(1,1),(2,1),(3,1),(4,1),(5,1)]) [.int .i64 0,.int .i64 0,.int .i64 0,.int .i64 0,.int .i64 0,.int .i64 0] [(0,.int .i64 2)])] [List.replicate 32 (.int .u8 0)]).F
def Aqq:R:=(.mk:Sg 0x139831000231023801e204327e0606e20ce42201223 [a,b] h [D7 (Hr K),Jx (X6 c r K)] [] [[.int .i64 0,.int .i64 0,.int .i64 0,.int .i64 0,.int .i64 0,.int .i64 0]]).F
def K8(K:Nat)(base:Nat)(s:DX)(a:EV)(b:EV)(h:Ab):R:=
 pkA a b fun d=>
 some (d,h)
def Ke:R:=
 P9 53 b h fun d h=>
 Wm h fun base s=>
 olE 0 1 1 base d s h fun s e=>
 A62 e (.int .i64 1) fun f=>
 wtE f
 (Le 4 15 base d s fun s=>Q2 6 d h fun g=>
 noE 1 a fun i=>
 Le 8 239 base i s fun s=>Q2 6 i h fun j=>
 Js 9 511 s h (fun h=>(Iz K g j h)) fun n h s=>
 K8 K base s f n h)
 (K8 K base s f tU h)
def Zl:Ru K (Ru r (Ru c R)):=(.mk:Sg 0x110e0047e31204e2312e60007e [a] h [] [cu0 (Bo (Mg 1) (List.replicate 32 (.int .u8 0)) [])]).F
def L8:Ru K (Ru r (Ru c R)):=
 I6 f fun g=>
 k5 a b d e g h
def Q1:R:=(.mk:Sg 0x1985435008047e61204e2612e6612e500e28a909e [a,b,d,e,f,g,i,j,n] h [cl5 (L8 c r K k5)]).F
def Q3:R:=(.mk:Sg 0x120404e03e3202e01e00e9102505e04e4303e02e01e91000315e802e04e4d447e112e06e421ae20ce246940120de1051219e20de0031219e565239e0206e652007e [a,b,d,e,f] h [c 180,cl9 (Q1 c r K k5)] [cu2 (fun e f=>Azl 2 2 true 2 e f)] [[.int .i64 0,.int .i64 0],List.replicate 32 (.int .u8 0)]).F
def Dr(c:Ai)(r:Ai)(K:Nat):Nat->A5
 | 0=>fun _ _ _ _ _ _=>none
 | m+1=>fun a b d e f h=>
  cE Iy .lss 3 f (.int .i64 2)
  (Q3 c r K (Dr c r K m) a b d e f h)
  (Zl c r K d h)
def Zy:R:=(.mk:Sg 0x1002ba9500252207e232107e714624232007e424314 [a,b,d] h [cl5 (Dr c r K K)] [cu2 (fun e f=>Bo (Mg 1) [.int .i64 0,.int .i64 0] [(0,e),(1,f)]),cu2 (fun i j=>Bo (Mg 1) [.int .i64 0,.int .i64 0] [(0,i),(1,j)]),cu2 (fun g n=>Bo (Mg 2) [.int .i64 0,.int .i64 0,.int .i64 0,.int .i64 0] [(0,g),(1,n)])]).F
def Aft:R:=(.mk:Sg 0x156731000e0047e61204e2612e60007e01e2820fe25201365047e05e327e9 [a,b] h [D7 (Ke K),Jx (Zy c r K)] [cu0 (Bo (Mg 1) (List.replicate 32 (.int .u8 0)) [])] [List.replicate 32 (.int .u8 0)]).F
def Abh:Ru K R:=(.mk:Sg 0x1000e9e31204e2323e6323e5 [a,b] h).F
def G9:R:=(.mk:Sg 0x14320000e00e9e41204e2423e60007e01e285409e [a,b,d,e] h [D7 (Abh K)] [cu0 (Bo (Dg [(0,1),(1,1),(2,1),(3,1),(4,1),(5,44)]) (List.replicate 5 (.int .i64 0)++List.replicate 44 (.int .u8 0)) [])]).F
def Jm:R:=(.mk:Sg 0x12026540026a94002421e251ee52441405e2d7609e [a,b,d,e,f,g] h [Sx (G9 K)]).F
def Mv:R:=(.mk:Sg 0x120265436002487656004222e41401e2d7609e [a,b,d,e,f,g] h [cl6 (Jm K)]).F
def J6:R:=(.mk:Sg 0x12023cd04e62025601e02e07e62020fe2111323e504e2d00715e802e2e9e023e06e201e00edc36007e31ee58043e7e11ee06e20ce2101318e50e9e05e2bde9 [a,b,d,e,f] h [Dq (Pc K),Dq (J1 K),cl6 (Mv K)] [cu6 (fun t b d e f u=>Bo (Dg [(0,1),(1,1),(2,1),(3,1),(4,1),(5,44)]) (List.replicate 5 (.int .i64 0)++List.replicate 44 (.int .u8 0)) [(0,t),(1,b),(2,d),(3,e),(4,f),(5,u)])] [List.replicate 5 (.int .i64 0)++List.replicate 44 (.int .u8 0),List.replicate 44 (.int .u8 0)]).F
def Ayq:Ru K R:=(.mk:Sg 0x1000bde31204e2318e6318e5 [a,b] h).F
def Aif:R:=(.mk:Sg 0x14320000e00bde41204e2418e60007e01e285409e [a,b,d,e] h [D7 (Ayq K)] [cu0 (Bo (Dg [(0,1),(1,1),(2,1),(3,1),(4,1),(5,1),(6,32)]) (List.replicate 6 (.int .i64 0)++List.replicate 32 (.int .u8 0)) [])]).F
def Au8:R:=(.mk:Sg 0x1202c07e4602501e0ae46023e7e802e09e1ee531ee504e2d00315e802e3e7e11ee06e20ce2151618e5232401e470ce0b2343721207e2614e0ee2bde018e06e23456b6107e3062213052211042211032212111210131007e0bde05e3e7e9 [a,b] h [Dq (Aae K),Dq (fun g=>Ep K g (.int .i64 6)),D7 (Ep K),D7 (Lv K),builtin TT .copy #[184,184],Dq (Pc K),Sx (Aif K)] [cu1 (fun d=>Nv 44 1 d none none none),cu6 (fun a i j n o p=>Bo (Dg [(0,1),(1,1),(2,1),(3,1),(4,1),(5,1),(6,32)]) (List.replicate 6 (.int .i64 0)++List.replicate 32 (.int .u8 0)) [(0,a),(1,i),(2,j),(3,n),(4,o),(5,p)]),cu1 (fun u=>Nv 32 1 u none none none)] [List.replicate 6 (.int .i64 0)++List.replicate 32 (.int .u8 0),List.replicate 44 (.int .u8 0)]).F
def Anl:Ru K R:=(.mk:Sg 0x1000e9e31204e2323e6323e5 [a,b] h).F
def Vn:R:=(.mk:Sg 0x14320000e00e9e41204e2423e60007e01e285409e [a,b,d,e] h [D7 (Anl K)] [cu0 (Bo (Dg [(0,1),(1,1),(2,1),(3,1),(4,1),(5,44)]) (List.replicate 5 (.int .i64 0)++List.replicate 44 (.int .u8 0)) [])]).F
def Vm:R:=(.mk:Sg 0x120253410247541000215e802e410103e2d6509e [a,b,d,e,f] h [Dq (Ra K),Sx (Vn K)]).F
def Ank:R:=(.mk:Sg 0x120202e05e06e5602505e08e09e56020fe215102e23e503e2d1000e25e232401e4713e002e2343721107eb514e0ee6216a414e62169314e62168214e62167114e9121c082113072113062111052112e9e023e06e21007e1022113101 [a,b] h [Dq (Aae K),D7 (Ep K),Dq (fun d=>Ep K d (.int .i64 6)),D7 (Lv K),builtin TT .copy #[184,184],Dq (J1 K),cl5 (Vm K)] [cu1 (fun e=>Bo (Dg [(0,1),(1,1),(2,1),(3,1),(4,1),(5,44)]) (List.replicate 5 (.int .i64 0)++List.replicate 44 (.int .u8 0)) [(0,e)]),cu1 (fun x=>Nv 44 1 x none none none)] [List.replicate 5 (.int .i64 0)++List.replicate 44 (.int .u8 0)]).F
def Aes:R:=(.mk:Sg 0x13721030e9e81204e2823e60107e00e212e20ce232032741007e4f2e5400b0ee0e9e05e410e9269e9 [a,b] h [D7 (Xm K),D7 (Ank K)] [cu1 (fun e=>Nv 64 1 e none none none),cu0 (Bo (Dg [(0,1),(1,1),(2,1),(3,1),(4,1),(5,44)]) (List.replicate 5 (.int .i64 0)++List.replicate 44 (.int .u8 0)) [])] [List.replicate 5 (.int .i64 0)++List.replicate 44 (.int .u8 0)]).F
def Am1:R:=(.mk:Sg 0x100010e71204e2732e6232e5232e26e522012f2e5 [a,b,d] h [D7 (Yz K)]).F
def Anj:R:=(.mk:Sg 0x1308e06e3403010e09e1204e209e32e60107e00e212e20ce02e131201e22121007e01e514e2c211d442c0a301b3423083019242306301714101043012103301404015e3f05e [a,b,d] h [Jx (Ee K),D7 (fun e u=>Ee K e (.int .i64 6) u),D7 (Qd K),Dq (Oa K),Jx (Am1 K)] [cu1 (fun x=>Nv 44 1 x none none none),cu0 (Bo (Mg 1) (List.replicate 64 (.int .u8 0)) [])] [[.Al,.bool false]]).F
def Yb:R:=(.mk:Sg 0x156731000e0010e61204e2632e60007e01e2820fe2101323e5010e05e4e9e9269e9 [a,b] h [Dq (J1 K),Jx (Anj K)] [cu0 (Bo (Mg 1) (List.replicate 64 (.int .u8 0)) [])] [List.replicate 64 (.int .u8 0)]).F
def Ap6:Ru K (Ru r (Ru c R)):=(.mk:Sg 0x1002200e [a] h).F
def Aqe:Ru K (Ru r (Ru c R)):=
 I6 e fun f=>
 k4 a b d f h
def Apo:R:=(.mk:Sg 0x1d2ba4302b2212111823e5521ee67514e92166214e802165014e62201245 [a,b,d,e] h [D7 (Arh K),Dq (fun o=>Bz (List.replicate 5 (.int .i64 0)++List.replicate 44 (.int .u8 0)) 247 49 1 [(0,o)]),D7 (Ef 247 49),Sx (Aqe c r K k4)]).F
def Ss(c:Ai)(r:Ai)(K:Nat):Nat->A4
 | 0=>fun _ _ _ _ _=>none
 | m+1=>fun a b d e h=>
  oE 3 a h fun f=>
  Am (Ed K f h) fun g h=>
  Am (Ie K g h) fun i h=>
  cE Iy .lss 3 e i
  (Apo c r K (Ss c r K m) a b d e h)
  (Ap6 c r K d h)
def Aoz:R:=(.mk:Sg 0x11024b4202111223e53223e621ff3f917e0e9e05e818e24564007e21012e67545505b484010e322110e0ee [a,b] h [Dq (Are K),Dq (fun n=>Bz (List.replicate 5 (.int .i64 0)++List.replicate 44 (.int .u8 0)) 247 49 1 [(0,n)]),Sx (Ss c r K K)] [cu4 (fun a d e g=>Bo (Dg [(0,1),(1,1),(2,1),(3,1),(4,1),(5,44)]) (List.replicate 5 (.int .i64 0)++List.replicate 44 (.int .u8 0)) [(0,.int .i64 4),(1,a),(3,d),(4,e),(5,g)])] [List.replicate 5 (.int .i64 0)++List.replicate 44 (.int .u8 0)]).F
def Yj:R:=(.mk:Sg 0x14320000e0b0200e6285409e [a,b,d,e] h [D7 (Aoz c r K)]).F
def Apm:R:=(.mk:Sg 0x120257430269b43020fe0092321211153409e2d20fe2101245295e9 [a,b] h [c 159,Dq (Ed K),Jx (Mp K),Sx (Yj c r K)]).F
def Wb:Ru K (Ru r (Ru c R)):=(.mk:Sg 0x1002 [] h).F
def Agy:Ru K (Ru r (Ru c R)):=
 I6 f fun g=>
 k5 a b d e g h
def Afz:R:=(.mk:Sg 0x100edcba510245303ff3fa726521c03f9bb8615e302e5010e573211e0ee262e013e06e213e56413e15e [a,b,d,e,f] h [Jx (Jc K),cl5 (Agy c r K k5)] [] [[.int .i64 0]++List.replicate 32 (.int .u8 0)]).F
def I5(c:Ai)(r:Ai)(K:Nat):Nat->A5
 | 0=>fun _ _ _ _ _ _=>none
 | m+1=>fun a b d e f h=>
  cE Iy .lss 3 f e
  (Afz c r K (I5 c r K m) a b d e f h)
  (Wb c r K h)
def Vz:R:=
 Hc b fun e=>
 I5 c r K K a d b e (.int .i64 0) h
def Af4:Ru K (Ru r (Ru c R)):=
 I6 i fun j=>
 k7 a b d e f g j h
def Afo:R:=(.mk:Sg 0x1cba2765720272112101665 [a,b,d,e,f,g,i,j] h [Dq (fun n=>Bz [.int .i64 0,.int .i64 0,.int .i64 0,.int .i64 0,.int .i64 0,.int .i64 0] 53 6 1 [(0,n)]),D7 (Ef 53 6),cl7 (Af4 c r K k7)]).F
def Agc:R:=(.mk:Sg 0x106e05e04e203e02e01e00e810322312e327e1606e20ce2a201245b4007e212e54114e304613e262e013e06e213e58613e15e [a,b,d,e,f,g,i] h [c 127,cl8 (Afo c r K k7)] [cu4 (fun d p q u=>Bo (Dg [(0,1),(1,1),(2,1),(3,1),(4,1),(5,1),(6,32)]) (List.replicate 6 (.int .i64 0)++List.replicate 32 (.int .u8 0)) [(0,.int .i64 1),(1,d),(2,p),(3,q),(6,u)])] [[.int .i64 0]++List.replicate 32 (.int .u8 0),[.int .i64 0,.int .i64 0,.int .i64 0,.int .i64 0,.int .i64 0,.int .i64 0]]).F
def Ib(c:Ai)(r:Ai)(K:Nat):Nat->A7
 | 0=>fun _ _ _ _ _ _ _ _=>none
 | m+1=>fun a b d e f g i h=>
  cE Iy .lss 3 i g
  (Agc c r K (Ib c r K m) a b d e f g i h)
  (Vz c r K a b e h)
def Aef:R:=(.mk:Sg 0x10026b0365700513e22423c [a,b] h [cl7 (Ib c r K K)]).F
def Aei:R:=(.mk:Sg 0x143210222212e2101 [a,b] h [c 126,D7 (Aef c r K)]).F
def Am3:R:=(.mk:Sg 0x15421003e0232820fe32201 [a,b] h [D7 (X4 K),D7 (Aei c r K)]).F
abbrev Xp(K:Nat)(c:Ai):Ai:=(w2 125 (X4 K) (w3 128 (Jc K) c))
def Ajg:Ru K (Ru r (Ru c R)):=(.mk:Sg 0x1002 [] h).F
def Aiq:Ru K (Ru r (Ru c R)):=
 I6 e fun f=>
 k4 a b d f h
def Ah2:R:=(.mk:Sg 0x187654102733010007e223 [a,b,d,e] h [Jx (Jc K),Sx (Aiq c r K k4)] [cu0 (Bo (Dg [(0,1),(1,1),(2,1),(3,1),(4,1),(5,1)]) [.int .i64 0,.int .i64 0,.int .i64 0,.int .i64 0,.int .i64 0,.int .i64 0] [])]).F
def Na(c:Ai)(r:Ai)(K:Nat):Nat->A4
 | 0=>fun _ _ _ _ _=>none
 | m+1=>fun a b d e h=>
  Bdj b d fun f=>
  cE Iy .lss 3 e f
  (Ah2 c r K (Na c r K m) a b d e h)
  (Ajg c r K h)
def Ahp:R:=
 Na c r K K a b d b h
def Ah4:R:=(.mk:Sg 0x1ba9310322312e327e0606e20ce252016523007e22423c [a,b,d] h [c 127,Jx (Ahp c r K)] [cu3 (fun f b d=>Bo (Dg [(0,1),(1,1),(2,1),(3,1),(4,1),(5,1),(6,32)]) (List.replicate 6 (.int .i64 0)++List.replicate 32 (.int .u8 0)) [(0,.int .i64 2),(1,f),(2,.int .i64 1),(3,b),(4,d)])] [[.int .i64 0,.int .i64 0,.int .i64 0,.int .i64 0,.int .i64 0,.int .i64 0]]).F
def Ai1:R:=(.mk:Sg 0x1543310222212e2101 [a,b,d] h [c 126,Jx (Ah4 c r K)]).F
def Mz:R:=(.mk:Sg 0x154330003e023286509e [a,b,d,e,f] h [Jx (Ai1 c r K)]).F
def Rg:R:=(.mk:Sg 0x120254351027a985102922e721ee21007e21013030be2d6509e [a,b,d,e,f] h [Dq (Cd K),cl5 (Mz c r K)] [cu1 (fun j=>Vu 3 false 0 j)]).F
def Api:R:=(.mk:Sg 0x12026545102376551010620ec2d20fe32201 [a,b,d] h [D7 (U3 K),cl5 (Rg c r K)]).F
def K3:Ru K (Ru r (Ru c R)):=(.mk:Sg 0x10005047e31304e2312e6312e5 [a,b,d] h).F
def Xn:R:=(.mk:Sg 0x143230010e0000047e31304e2312e60007e04e0053701e [a,b,d,e] h [Jx (K3 c r K)] [cu0 (Bo (Mg 1) (List.replicate 32 (.int .u8 0)) [])]).F
def Hu:Ru K (Ru r (Ru c R)):=
 I6 j fun n=>
 k8 a b d e f g i n h
def Xd:R:=(.mk:Sg 0x103e02e6cba9881004e03e72cba9810c0aed2820fe2620120de00a1219e80ae2612e6912e5 [a,b,d,e,f,g,i,j,n,o] h [D7 (Dy K),cl8 (Hu c r K k8)]).F
def Xs:R:=
 Aq5 n fun q=>
 ifE q
 (Hu c r K k8 a b d e f g o p h)
 (Xd c r K k8 a b d e f g i j o p h)
def Px:R:=(.mk:Sg 0x107e06e42c05e04e03e02e01e00eb104000047e03e1304e203e12e60107e03e312e447e112e06e421ae20ce246940120de1051219e20de0031219e565239e0206e982007e [a,b,d,e,f,g,i,j] h [c 180,Bt3 (Xs c r K k8)] [cu2 (fun i j=>Azl 2 2 true 2 i j),cu0 (Bo (Mg 1) (List.replicate 32 (.int .u8 0)) [])] [[.int .i64 0,.int .i64 0],List.replicate 32 (.int .u8 0)]).F
def De(c:Ai)(r:Ai)(K:Nat):Nat->A8
 | 0=>fun _ _ _ _ _ _ _ _ _=>none
 | m+1=>fun a b d e f g i j h=>
  cE Iy .lss 3 j (.int .i64 2)
  (Px c r K (De c r K m) a b d e f g i j h)
  (Xn c r K d e f g h)
def Xh:R:=(.mk:Sg 0x100200009cba800252207e232107e814724232007e524414047e05e [a,b,d] h [cl8 (De c r K K)] [cu2 (fun f g=>Bo (Mg 1) [.int .i64 0,.int .i64 0] [(0,f),(1,g)]),cu2 (fun j n=>Bo (Mg 1) [.int .i64 0,.int .i64 0] [(0,j),(1,n)]),cu2 (fun i o=>Bo (Mg 2) [.int .i64 0,.int .i64 0,.int .i64 0,.int .i64 0] [(0,i),(1,o)])] [List.replicate 32 (.int .u8 0)]).F
def Aeo:R:=(.mk:Sg 0x156731000e0000047e61304e2612e60007e04e2820fe25201365047e05e327e9 [a,b] h [D7 (Ke K),Jx (Xh c r K)] [cu0 (Bo (Mg 1) (List.replicate 32 (.int .u8 0)) [])] [List.replicate 32 (.int .u8 0)]).F
def Pn:Ru K (Ru r R):=(.mk:Sg 0x1765435100ee0027e81204e28660007e01e0ee0215e701e72201 [a,b,d,e,f,g] h [c 197,cl5 k5] [cu0 (Bo (Dg [(0,1),(1,1),(2,1),(3,1),(4,1),(5,1)]) [.int .i64 0,.int .i64 0,.int .i64 0,.int .i64 0,.int .i64 0,.int .i64 0] [])]).F
def Xy:R:=(.mk:Sg 0x1876543600ba987660032165fdec20ae3fde307e283701e2fce3 [a,b,d,e,f,g] h [cl6 (Pn c r K k5)]).F
def Y4:R:=(.mk:Sg 0x13a98766203027eb1204e2b660307e00e0ee0215e701e00027e0be1204e20be66565321605efdec20ae03efde3326627fffff6f09e17e027e05e08e18e203e89a5207e21107e24217e0005f05e721007e00e614e2f2e52e0004f02eb97c87003fbfde11e762e7fce11e673fbe11e0ee4ee00215e701e20ce5423401518e5 [a,b,d,e,f] h [c 233,D7 (Oe K),cl6 (Xy c r K k5)] [cu1 (fun w=>Nv 32 1 w none none none),cu1 (fun y=>Sf .i64 y),cu5 (fun o p q d z=>Bo (Dg [(0,1),(1,1),(2,1),(3,1),(4,1),(5,1)]) [.int .i64 0,.int .i64 0,.int .i64 0,.int .i64 0,.int .i64 0,.int .i64 0] [(0,.int .i64 1),(1,o),(2,p),(3,q),(4,d),(5,z)]),cu0 (Bo (Dg [(0,1),(1,1),(2,1),(3,1),(4,1),(5,1)]) [.int .i64 0,.int .i64 0,.int .i64 0,.int .i64 0,.int .i64 0,.int .i64 0] [])] [[.int .i64 0,.int .i64 0,.int .i64 0,.int .i64 0,.int .i64 0,.int .i64 0]]).F
def Fw(c:Ai)(r:Ai)(K:Nat):Nat->A5
 | 0=>fun _ _ _ _ _ _=>none
 | m+1=>fun a b d e f h=>
  Am (c 232 [a] h) fun g h=>
  A9f g
  (Bo (Dg [(0,1),(1,1),(2,1),(3,1),(4,1),(5,1)]) [(.int .i64 0),(.int .i64 0),(.int .i64 0),(.int .i64 0),(.int .i64 0),(.int .i64 0)] [] fun i=>
  stE 6 f i h fun h=>
  Ii TT [.c f 53,.v g] h)
  (Y4 c r K (Fw c r K m) a b d e f h)
def X9:R:=
 Fw c r K K a b d e f h
def Adv:R:=(.mk:Sg 0x178cb95104027e81204e28660007e00e312e3e9e123e06e20ce8700002501318e5027e05e3bde9 [a,b,d,e] h [cl5 (J6 K),cl5 (X9 c r K)] [cu0 (Bo (Dg [(0,1),(1,1),(2,1),(3,1),(4,1),(5,1)]) [.int .i64 0,.int .i64 0,.int .i64 0,.int .i64 0,.int .i64 0,.int .i64 0] [])] [[.int .i64 0,.int .i64 0,.int .i64 0,.int .i64 0,.int .i64 0,.int .i64 0],List.replicate 5 (.int .i64 0)++List.replicate 44 (.int .u8 0)]).F
def Asi:Ru K R:=(.mk:Sg 0x1000bde31204e2318e6318e5 [a,b] h).F
def As0:R:=(.mk:Sg 0x1cb21030bdec1204e2c18e60007e00e212e20ce23456501644534424314418e5 [a,b,d] h [cl5 (J6 K),D7 (Asi K)] [cu0 (Bo (Dg [(0,1),(1,1),(2,1),(3,1),(4,1),(5,1),(6,32)]) (List.replicate 6 (.int .i64 0)++List.replicate 32 (.int .u8 0)) [])]).F
def Amc:R:=(.mk:Sg 0x129a31040bdea1204e2a18e60007e00e312e3bde018e06e20ce2420121ee54514e3040bde05e2e9e9 [a] h [D7 (Au8 K),Jx (As0 K)] [cu0 (Bo (Dg [(0,1),(1,1),(2,1),(3,1),(4,1),(5,1),(6,32)]) (List.replicate 6 (.int .i64 0)++List.replicate 32 (.int .u8 0)) [])] [List.replicate 6 (.int .i64 0)++List.replicate 32 (.int .u8 0)]).F
def Ayu:Ru K R:=(.mk:Sg 0x1000e9e31204e2323e6323e5 [a,b] h).F
def Ah8:R:=(.mk:Sg 0x14320002e00e9e41204e2423e60007e01e285409e [a,b,d,e] h [D7 (Ayu K)] [cu0 (Bo (Dg [(0,1),(1,1),(2,1),(3,1),(4,1),(5,44)]) (List.replicate 5 (.int .i64 0)++List.replicate 44 (.int .u8 0)) [])]).F
def Azh:R:=(.mk:Sg 0x12027640024984006225e724d2d3225e514 [a,b,d,e] h [Sx (Ah8 K)]).F
def Apt:R:=(.mk:Sg 0x12800ed41040e9e91204e2923e60007e00e312e3e9e023e06e20ce23201432e54f2e50e9e05e410e9269e9 [a,b,d,e] h [D7 (Aes K),Sx (Azh K)] [cu0 (Bo (Dg [(0,1),(1,1),(2,1),(3,1),(4,1),(5,44)]) (List.replicate 5 (.int .i64 0)++List.replicate 44 (.int .u8 0)) [])] [List.replicate 5 (.int .i64 0)++List.replicate 44 (.int .u8 0)]).F
def Nr:Ru K (Ru r (Ru c R)):=
 some (a,h)
def N1:R:=(.mk:Sg 0x131000ae02328430be [a,b,d] h [Dq (Nr c r K)]).F
def Acm:R:=(.mk:Sg 0x120233102453102525e8fde3c2a00215e702e20ce2533031e67532e5505b273011e0ee [a,b,d] h [c 45,Jx (N1 c r K)]).F
def Abb:R:=(.mk:Sg 0x12a9310322312e4232e622ff3fa17e010e05e918e20ce232011e57623e5604b2f2e5273b27c0ee [a,b,d] h [D7 (Yb K),Jx (Acm c r K)] [] [List.replicate 64 (.int .u8 0)]).F
def Ah5:R:=(.mk:Sg 0x12ca310322312e4223e6217ff4fd17e0e9e05ec18e20ceba28350f1e8750ee5fde11e318e5300b0ee72162514e3bde9 [a,b,d,e,f,g] h [cl5 (J6 K),Jx (Abb c r K)] [] [List.replicate 5 (.int .i64 0)++List.replicate 44 (.int .u8 0)]).F
def Ang:Ru K (Ru r (Ru c R)):=(.mk:Sg 0x1002200e [a] h).F
def Am9:Ru K (Ru r (Ru c R)):=
 I6 f fun g=>
 k5 a b d e g h
def Am4:R:=
 Q2 64 d h fun i=>
 Am (Bz (List.replicate 64 (.int .u8 0)) 30 64 1 [(0,i)] h) fun j h=>
 Am (Ef 30 64 b j h) fun n h=>
 Am9 c r K k5 a n e f g h
def Amx:R:=(.mk:Sg 0x101e00ed2cb6103b0200e5312e310e132e06e20ce23201323e55f2e52e9e023e06e223e56423e15e [a,b,d,e,f] h [D7 (Yb K),cl6 (Am4 c r K k5)] [] [List.replicate 5 (.int .i64 0)++List.replicate 44 (.int .u8 0),List.replicate 64 (.int .u8 0)]).F
def Ql(c:Ai)(r:Ai)(K:Nat):Nat->A5
 | 0=>fun _ _ _ _ _ _=>none
 | m+1=>fun a b d e f h=>
  cE Iy .lss 3 f e
  (Amx c r K (Ql c r K m) a b d e f h)
  (Ang c r K b h)
def Anr:R:=(.mk:Sg 0x10024b03500313e [a,b] h [cl5 (Ql c r K K)]).F
def Au6:R:=(.mk:Sg 0x1372102b0200e5212e20ce72201245495e9269e9 [a,b,d] h [c 296,D7 (Anr c r K)]).F
def Zv:Ru K (Ru r (Ru c R)):=(.mk:Sg 0x100050047e41304e2412e6212e53614e [a,b] h).F
def Ge(c:Ai)(r:Ai)(K:Nat)(base:Nat)(s:DX)(a:EV)(b:EV)(d:EV)(e:EV)(h:Ab):R:=
 pkO d e fun f=>
 ifE f
 (Bo (Mg 1) (List.replicate 32 (.int .u8 0)) [] fun g=>
 stE 32 a g h fun h=>
 Ii TT [.c a 85,.v (.bool false),.v (.int .i64 0)] h)
 (Zv c r K a b h)
def Ir:R:=
 pkO f g fun i=>
 wfE i
 (noE 7 a fun j=>
 Le 12 4095 base j s fun s=>Q2 256 j h fun n=>
 Ag8 6 e fun o=>
 Nv 32 1 o none none none fun p=>
 Js 15 32767 s h (fun h=>(Oe K n p h)) fun q h s=>
 Sf .i64 q fun t=>
 olE 5 18 131583 base b s h fun s u=>
 A0u t u fun w=>
 Ge c r K base s d e i w h)
 (Ge c r K base s d e i tU h)
def Zt:R:=
 Q2 49 f h fun g=>
 Am (Amc K g h) fun i h=>
 x2E i fun j n=>
 nsE 38 (List.replicate 6 (.int .i64 0)++List.replicate 32 (.int .u8 0)) 203 j h fun o h=>
 Wm h fun base s=>
 Ko Aoa (bin TT .neq 35) n (.int .i64 0) fun p=>
 wfE p
 (olE 5 4 15 base o s h fun s q=>
 A0u q b fun t=>
 Ir c r K base s a d e o p t h)
 (Ir c r K base s a d e o p tU h)
def It:R:=(.mk:Sg 0x17654350000040047e71304e2712e60007e04e288709e [a,b,d,e,f,g,i] h [cl5 (Zt c r K)] [cu0 (Bo (Mg 1) (List.replicate 32 (.int .u8 0)) [])]).F
def Is:R:=(.mk:Sg 0x12027654370025a98767002325e64474405e2d8709e [a,b,d,e,f,g,i] h [cl7 (It c r K)]).F
def Zq:R:=(.mk:Sg 0x1202301e00edb71024503e02e01ed71030224e30403e2d00315e802e4223e6217ff4fd17e0e9e05ec18e20ce273440f1e87832e7310e932e5904b2f2e5273b27c0ee [a,b,d,e,f,g] h [Sx (Apt K),cl7 (Is c r K)] [] [List.replicate 5 (.int .i64 0)++List.replicate 44 (.int .u8 0)]).F
def Ag5:R:=(.mk:Sg 0x100040047e91304e2912e60007e2040047ea1304e3a12e6db2210007e08e0ce0315e701e4040047e91304e2912e60007e03e0ee0315e701e289dca610900315e701e4232e62bff3fc17e110e05eb18e20ce2833071e77412e6310e473011e0ee047e05e327e9 [a,b,d,e] h [c 227,cl6 (Zq c r K),c 228] [cu0 (Bo (Mg 1) (List.replicate 32 (.int .u8 0)) [])] [List.replicate 32 (.int .u8 0),List.replicate 64 (.int .u8 0)]).F
end
variable{d:Nat}(H:Bw disp)
include H
theorem A65(hd:3<=d):R2 disp K d 317 (Axe K):=fun _ _=>rl H hd fun d hd=>V3 (Ng H) hd<|rfl
theorem Avd(hd:4<=d):R1 disp K d 64 (Yd K):=fun _=>rl H hd fun d hd=>V1 (Uk H) hd<|V1 (Ew H) hd<|rfl
theorem Av9(hd:2<=d):S3 disp K d 80 Asd:=fun _ _ _=>rd rfl rfl H (V1 (Aj8 H) hd<|rfl)
theorem Ap4(hd:2<=d){l:Nat}(tm:Bb)(h:Ab)(k:EV)(m:EV){st:LoopState}{p:Option Code}{d0:Nat}(v:h.get l=some (.loop st p 80 31 tm [8,9] (Ek TT 80 0).2.2.1 (Ek TT 80 0).2.2.2 d0)):
 Ag TT disp K (d+1) true l [k,m] h=Aj2 (Ag TT disp K d false) (Ag TT disp K d true) K l (tmp tm 2) (tmp tm 3) k m h:=rr rfl rfl (rfl) v rfl (by kernel_rfl)
theorem Alp(hd:3<=d):R3 disp K d 103 (Pw K):=fun _ _ _=>rl H hd fun d hd=>V2 (L7 H) hd<|V2 (W9 H) hd<|V1 (Hi H) hd<|V1 (Alm H) hd<|rfl
theorem Apx(hd:2<=d):S1 disp K d 140 Ake:=fun _=>rd rfl rfl H (V1 (An7 H) hd<|rfl)
theorem Abd(hd:5<=d):R2 disp K d 186 (Iz K):=fun _ _=>rl H hd fun d hd=>V2 (Fu H) hd<|V3 (Aeh H) hd<|rfl
theorem Apb(hd:4<=d):S3 disp K d 195 Alj:=fun _ _ _=>ld rfl rfl H (V2 (Aoi H) hd<|rfl) 5 (fun c r=>e3 (Ku c r K) 0 1 5)
theorem Aov(hd:3<=d):S2 disp K d 196 Alf:=fun _ _=>rd rfl rfl H (V2 (An8 H) hd<|V3 (Ant H) hd<|rfl)
theorem An2(hd:2<=d):S2 disp K d 199 Ah9:=fun _ _=>ld rfl rfl H (V1 (Aox H) hd<|rfl) 5 (fun c r=>e4 (Jn c r K) 0 6 7 8)
theorem Aof(hd:3<=d):S2 disp K d 219 Ah3:=fun _ _=>rd rfl rfl H (V2 (Ame H) hd<|rfl)
theorem Anz(hd:2<=d):S2 disp K d 224 Ahl:=fun _ _=>rd rfl rfl H (V3 (Aqg H) hd<|V1 (Zc H) hd<|rfl)
theorem Arx(hd:3<=d):S3 disp K d 227 Am6:=fun _ _ _=>rd rfl rfl H (V3 (Aq2 H) hd<|rfl)
theorem Q8(hd:3<=d):R2 disp K d 230 (Oe K):=fun _ _=>rl H hd fun d hd=>V3 (At8 H) hd<|rfl
theorem Alc(hd:4<=d):S1 disp K d 232 Ad2:=fun _=>rd rfl rfl H (V1 (Ato H) hd<|rfl)
theorem Abs(hd:4<=d):R1 disp K d 257 (Pc K):=fun _=>rl H hd fun d hd=>V1 (An0 H) hd<|V3 (Ng H) hd<|V2 (Adg H) hd<|V1 (Yv H) hd<|rfl
theorem Aus(hd:4<=d):R2 disp K d 287 (Xm K):=fun _ _=>ll H hd (fun d hd=>V2 (Q8 H) hd<|rfl) 207 (e6 (Nz K) 1 6 7 22 23 24)
theorem At1(hd:4<=d):R2 disp K d 311 (Yz K):=fun _ _=>rl H hd fun d hd=>V2 (Q8 H) hd<|rfl
theorem A3w(hd:4<=d):R2 disp K d 313 (Arh K):=fun _ _=>ll H hd (fun d hd=>V3 (Ng H) hd<|V1 (As6 H) hd<|V2 (Gz H) hd<|V2 (A65 H) hd<|rfl) 103 (e5 (X1 K) 1 2 4 5 14)
theorem Aoj(hd:3<=d):S3 disp K d 45 Ai9:=fun _ _ _=>rd rfl rfl H (V3 (Alp H) hd<|rfl)
theorem To(hd:6<=d):R3 disp K d 128 (Jc K):=fun _ _ _=>rl H hd fun d hd=>V2 (Gz H) hd<|V2 (Abd H) hd<|V3 (Atm H) hd<|rfl
theorem At6(hd:6<=d):S2 disp K d 139 Aqq:=fun _ _=>rd rfl rfl H (V2 (Gz H) hd<|V3 (To H) hd<|rfl)
theorem Wn(hd:6<=d):R2 disp K d 179 (Ke K):=fun _ _=>rl H hd fun d hd=>V2 (Abd H) hd<|rfl
theorem Al4(hd:6<=d):S2 disp K d 193 Aft:=fun _ _=>ld rfl rfl H (V2 (Wn H) hd<|rfl) 51 (fun c r=>e5 (Dr c r K) 0 3 4 26 27)
theorem Qv(hd:5<=d):R5 disp K d 231 (J6 K):=fun _ _ _ _ _=>rl H hd fun d hd=>V1 (Abs H) hd<|V1 (Qz H) hd<|rfl
theorem A6r(hd:5<=d):R2 disp K d 250 (Au8 K):=fun _ _=>rl H hd fun d hd=>V1 (Aa3 H) hd<|V2 (Nn H) hd<|V2 (Xw H) hd<|V1 (Abs H) hd<|rfl
theorem Axt(hd:5<=d):R2 disp K d 255 (Aes K):=fun _ _=>rl H hd fun d hd=>V2 (Aus H) hd<|V1 (Anu H) hd<|V1 (Aa3 H) hd<|V2 (Nn H) hd<|V2 (Xw H) hd<|V1 (Qz H) hd<|rfl
theorem Aks(hd:5<=d):R2 disp K d 295 (Yb K):=fun _ _=>rl H hd fun d hd=>V1 (Qz H) hd<|V2 (At1 H) hd<|V3 (Ng H) hd<|V2 (Adg H) hd<|V1 (Yv H) hd<|rfl
theorem Ano(hd:4<=d):S2 disp K d 296 Apm:=fun _ _=>ld rfl rfl H (V1 (Fg H) hd<|V3 (Aeh H) hd<|V2 (A3w H) hd<|V1 (Un H) hd<|V1 (A32 H) hd<|rfl) 207 (fun c r=>e4 (Ss c r K) 2 6 7 8)
omit H in
theorem Apg(c r:Ai)(K:Nat)(m:Nat):lpB false (Xp K c) c r K 59 831 [(2,fun k tm h ds=>Wb c r K h)] m=(fun m k tm h ds=>I5 c r K m (k 0) (k 7) (k 55) (k 56) (k 57) h) m:=
 Qj (E:=fun m k tm h ds=>I5 c r K m (k 0) (k 7) (k 55) (k 56) (k 57) h) rfl (fun m=>A14 fun k tm h ds=>by kernel_rfl) m
omit H in
theorem Ans(c r:Ai)(K:Nat)(m:Nat):lpB false (Xp K c) c r K 59 415 [(0,fun k tm h ds=>Vz c r K (k 0) (k 1) (k 7) h)] m=(fun m k tm h ds=>Ib c r K m (k 0) (k 1) (k 6) (k 7) (k 28) (k 29) (k 30) h) m:=
 Qj (E:=fun m k tm h ds=>Ib c r K m (k 0) (k 1) (k 6) (k 7) (k 28) (k 29) (k 30) h) rfl (fun m=>A14 fun k tm h ds=>by kernel_rfl) m
theorem Ar7(hd:6<=d):S2 disp K d 59 Am3:=fun _ _=>rm (q:=false) (D:=Xp K (Ag TT disp K d false)) (by kernel_rfl) rfl rfl H (V2 (Aub H) hd<|V3 (To H) hd<|rfl) (cut [true,true,true,true,true,true,false,true,false] (Apg (Ag TT disp K d false) (Ag TT disp K d true) K K) (by kernel_rfl) (by kernel_rfl) (cut [true,true,true,true,true,false,true,false] (Ans (Ag TT disp K d false) (Ag TT disp K d true) K K) (by kernel_rfl) (by kernel_rfl) rfl))
theorem Atv(hd:6<=d):S3 disp K d 70 Api:=fun _ _ _=>ld rfl rfl H (V2 (Ahv H) hd<|V3 (To H) hd<|V1 (Cw H) hd<|rfl) 207 (fun c r=>e4 (Na c r K) 0 1 2 10)
theorem Akp(hd:6<=d):S2 disp K d 106 Aeo:=fun _ _=>ld rfl rfl H (V2 (Wn H) hd<|V2 (Ei H) hd<|rfl) 207 (fun c r=>e8 (De c r K) 0 3 4 7 8 9 30 31)
theorem Ald(hd:5<=d):S4 disp K d 185 Adv:=fun _ _ _ _=>ld rfl rfl H (V5 (Qv H) hd<|V2 (Q8 H) hd<|rfl) 11 (fun c r=>e5 (Fw c r K) 0 2 3 5 8)
theorem A1l(hd:6<=d):R1 disp K d 220 (Amc K):=fun _=>rl H hd fun d hd=>V2 (A6r H) hd<|V5 (Qv H) hd<|rfl
theorem Avo(hd:6<=d):R4 disp K d 229 (Apt K):=fun _ _ _ _=>rl H hd fun d hd=>V2 (Axt H) hd<|rfl
theorem Aoh(hd:5<=d):S6 disp K d 260 Ah5:=fun _ _ _ _ _ _=>rd rfl rfl H (V5 (Qv H) hd<|V2 (Aks H) hd<|rfl)
theorem Axs(hd:5<=d):S3 disp K d 261 Au6:=fun _ _ _=>ld rfl rfl H (V2 (Aks H) hd<|rfl) 207 (fun c r=>e5 (Ql c r K) 3 10 24 25 26)
theorem Ams(hd:6<=d):S4 disp K d 180 Ag5:=fun _ _ _ _=>rd rfl rfl H (V2 (Q8 H) hd<|V1 (A1l H) hd<|V4 (Avo H) hd<|rfl)
end
end
section
noncomputable section
section
variable (c r:Ai)(K l:Nat)(k0:A0)(k1:A1)(k2:A2)(k3:A3)(k4:A4)(k5:A5)(k6:A6)(k7:A7)(k8:A8)(k9:A9)(k10:A10)(k11:A11)(k12:A12)(m0:B0)(m1:B1)(m2:B2)(m3:B3)(m4:B4)(m5:B5)(m6:B6)(m7:B7)(m8:B8)(m9:B9)(m10:B10)(m11:B11)(m12:B12)(base:Nat)(s:DX)(tm:Bb)(a b d e f g i j n o p q t u w x y z aa ab ad ae af ag ai aj an ao ap aq au aw ax ay az ba bb bd be bf bg bi bj bn bo bp bq bt bu bw bx bz da db dd de df dg di dj dn dp dq dt du dw dx dy dz ea eb ed ee ef eg ei ej en eo ep eq et eu ew ex ey ez fa fb fd fe ff fg fi fj fn fo fp fq ft fu fw fx fy fz ga gb gd ge gf gg gi gj gn go gp gq gt gu gw gx gy gz ia ib ie ig ii ij io ip iq it iu iw ix iy iz ja jb:EV)(h:Ab)(ds:List Nat)
def Ada:Ru K R:=(.mk:Sg 0x125200e214722319e51c204422319e21c [a,b] h).F
def Tq:R:=(.mk:Sg 0x1542100101200e62820fe3101 [a,b] h [Dq (Apf K),D7 (Ada K)] [] [] [(.int .i64 (-1))]).F
def H2:Ru K R:=(.mk:Sg 0x122213e203 [a] h).F
def Af9:R:=(.mk:Sg 0x122210142116e203 [a,b] h [Dq (H2 K)]).F
def Qe:R:=(.mk:Sg 0x15421000232820fe32201 [a,b] h [D7 (Gi K),D7 (Af9 K)]).F
end
variable{d:Nat}(H:Bw disp)
include H
theorem Aqc(hd:2<=d):R2 disp K d 241 (Tq K):=fun _ _=>rl H hd fun d hd=>V1 (Awu H) hd<|rfl
theorem Aag(hd:1<=d):R1 disp K d 248 (H2 K):=fun _=>rl H hd
theorem Ar8(hd:2<=d):R2 disp K d 216 (Qe K):=fun _ _=>rl H hd fun d hd=>V2 (Kt H) hd<|V1 (Aag H) hd<|rfl
end
end
section
noncomputable section
section
variable (c r:Ai)(K l:Nat)(k0:A0)(k1:A1)(k2:A2)(k3:A3)(k4:A4)(k5:A5)(k6:A6)(k7:A7)(k8:A8)(k9:A9)(k10:A10)(k11:A11)(k12:A12)(m0:B0)(m1:B1)(m2:B2)(m3:B3)(m4:B4)(m5:B5)(m6:B6)(m7:B7)(m8:B8)(m9:B9)(m10:B10)(m11:B11)(m12:B12)(base:Nat)(s:DX)(tm:Bb)(a b d e f g i j n o p q t u w x y z aa ab ad ae af ag ai aj an ao ap aq au aw ax ay az ba bb bd be bf bg bi bj bn bo bp bq bt bu bw bx bz da db dd de df dg di dj dn dp dq dt du dw dx dy dz ea eb ed ee ef eg ei ej en eo ep eq et eu ew ex ey ez fa fb fd fe ff fg fi fj fn fo fp fq ft fu fw fx fy fz ga gb gd ge gf gg gi gj gn go gp gq gt gu gw gx gy gz ia ib ie ig ii ij io ip iq it iu iw ix iy iz ja jb:EV)(h:Ab)(ds:List Nat)
def Axy:Ru K R:=(.mk:Sg 0x122284e921007e [a] h [] [cu1 (fun a=>Bo (Dg [(0,1),(1,1),(2,1),(3,1),(4,1),(5,1),(6,2)]) [.Bu,.int .i64 0,.bool false,.int .i64 0,.int .i64 0,.int .i64 0,.int .i64 0,.int .i64 0] [(0,a)])]).F
def Uj:Ru K (Ru r R):=(.mk:Sg 0x1240200e32201 [a,b] h [c 203]).F
def Oq:R:=
 pkO f g fun i=>
 ifE i
 (some (.tuple [d,e],h))
 (Uj c r K a b h)
def Akt:R:=(.mk:Sg 0x1203236561024347661000215e802e01e3d20ce32201 [a,b] h [c 202,cl6 (Oq c r K)]).F
def S8:Ru K (Ru r R):=(.mk:Sg 0x1240200e42201203 [a,b] h [c 71]).F
def So:R:=(.mk:Sg 0x1322000050200e63043701e [a,b,d] h [D7 (S8 c r K)]).F
def Sj:R:=(.mk:Sg 0x14ba320340200e50ee0315e701e5212e629ff3fc17e047e05eb18e421ae20ce232131e67665605b21001e47273011e0ee [a,b,d] h [Dq (Dc K),c 106,Jx (So c r K)] [] [List.replicate 32 (.int .u8 0)]).F
def Ahk:R:=(.mk:Sg 0x13a93200050200e61023801e204327e0606e20ce522112101203 [a,b] h [Dq (E8 K),D7 (Hr K),Jx (Sj c r K)] [] [[.int .i64 0,.int .i64 0,.int .i64 0,.int .i64 0,.int .i64 0,.int .i64 0]]).F
def Uo:Ru K (Ru r R):=(.mk:Sg 0x1222101203 [a] h [c 73]).F
def Us:R:=(.mk:Sg 0x14110222212e42201203 [a,b] h [c 74,Dq (Uo c r K)]).F
def J9:R:=
 pkO e f fun g=>
 ifE g
 (some (b,h))
 (Us c r K a d h)
def Oj:R:=(.mk:Sg 0x12025435002365450001524ec2d6509e [a,b,d,e,f] h [cl5 (J9 c r K)] [] [] [(.int .i64 (-1))]).F
def Ad7:R:=(.mk:Sg 0x12052475202635852000415e802e00e5d7221150320ce32201 [a,b] h [c 202,c 27,cl5 (Oj c r K)]).F
def Z9:R:=(.mk:Sg 0x154210222212e2101203 [a,b] h [c 73,D7 (Ad7 c r K)]).F
def O5:Ru K (Ru r (Ru c R)):=(.mk:Sg 0x10040200e [] h).F
def Abx:R:=(.mk:Sg 0x10a00a0242911e57236e5284b5314e2183275171170ee13e0123701e23200e20ce6161a8023701e240200e51519c023701e340200e347e012e06e20ce2624131406e6023701e240200e102633131401e3023701e240200e2b221ff3f972111818e252107e2102ae6721007e484210e322110e0ee1ee1023701e204230e9 [a,b,d] h [Dq (Al0 K),Dq (fun o=>Bz ([.int .i64 0]++List.replicate 32 (.int .u8 0)) 112 33 1 [(0,o)]),c 59,c 70,c 47,c 73,c 39,Dq (Dc K),Dq (Bj K),c 46,cl0 (O5 c r K)] [cu1 (fun i=>Sf .u8 i),cu2 (fun g n=>Bo (Dg [(0,1),(1,32)]) ([.int .i64 0]++List.replicate 32 (.int .u8 0)) [(0,g),(1,n)])] [List.replicate 32 (.int .u8 0)] [(.int .i64 6)]).F
def Zk:Ru K R:=
 some (a,h)
def Qx:Ru K R:=
 I6 e fun f=>
 k4 a b d f h
def Zu:R:=(.mk:Sg 0x18765420982642060ae928722112101203 [a,b,d,e] h [Dq (Dc K),D7 (Dy K),Sx (Qx K k4)]).F
def Il(K:Nat):Nat->A4
 | 0=>fun _ _ _ _ _=>none
 | m+1=>fun a b d e h=>
  cE Iy .lss 3 e d
  (Zu K (Il K m) a b d e h)
  (Zk K b h)
def Ls:R:=(.mk:Sg 0x1002006430212121112101203 [a] h [Dq (E8 K),Dq (Ed K),Dq (Dp K),Sx (Il K K)]).F
def Aep:Ru K (Ru r R):=(.mk:Sg 0x123200e20ce23201213 [a] h [c 151]).F
def Ak8:R:=(.mk:Sg 0x1713023200e20ce29221421ee71303e323601e61321007e21112101203 [a] h [Dq (E8 K),Dq (Ed K),c 150,Dq (Aep c r K)] [cu1 (fun e=>Vu 3 false 0 e)]).F
def Nc:R:=(.mk:Sg 0x1222724e6021de21007e2113e03fa72101e03f974d2e8011e20ae273111e0ee [a] h [Dq (E8 K),Dq (Ed K)] [cu1 (fun g=>Vu 3 false 0 g)]).F
def K5(c:Ai)(r:Ai)(K:Nat)(base:Nat)(s:DX)(a:EV)(b:EV)(h:Ab):R:=
 pkA a b fun d=>
 some (.tuple [d,(.int .i64 0)],h)
def Yx:R:=
 fE 0 a h fun e=>
 Am (Dc K e h) fun f h=>
 Am (F6 K f h) fun g h=>
 Am (c 243 [g,b,d] h) fun i h=>
 x2E i fun j n=>
 nsE 4 [(.int .i64 0),(.int .i64 0),(.int .i64 0),.Bu] 163 j h fun o h=>
 Wm h fun base s=>
 Ko Aj7 (bin TT .eql 35) n (.int .i64 0) fun p=>
 wtE p
 (olE 0 4 15 base o s h fun s q=>
 Aod 0 8 231 base a s h fun s t=>
 Js 9 487 s h (fun h=>(Rt K t h)) fun u h s=>
 Vu 0 false 0 u fun w=>
 A62 q w fun x=>
 K5 c r K base s p x h)
 (K5 c r K base s p tU h)
def K1:R:=(.mk:Sg 0x1543300640200e5287609e [a,b,d,e,f,g] h [Jx (Yx c r K)]).F
def Xz:R:=(.mk:Sg 0x1202358761023469861040feb2d00215e802e421ae20ce32201 [a,b] h [c 242,cl6 (K1 c r K)]).F
def La:R:=(.mk:Sg 0x1432000040200e6285409e [a,b,d,e] h [D7 (Xz c r K)]).F
def Aem:R:=(.mk:Sg 0x120248440257b44062231212180305e2d01324e20ce522112101203 [a,b] h [Dq (Ac1 K),D7 (Tq K),Dq (Dc K),D7 (Dy K),Sx (La c r K)] [] [] [(.int .i64 (-1))]).F
def Ad1:Ru K (Ru r (Ru c R)):=(.mk:Sg 0x100050020304e [a] h).F
def Adj:Ru K (Ru r (Ru c R)):=
 I6 f fun g=>
 k5 a b d e g h
def Adw:R:=
 Q2 64 e h fun i=>
 Am (Bz (List.replicate 64 (.int .u8 0)) 30 64 1 [(0,i)] h) fun j h=>
 Am (Ef 30 64 d j h) fun n h=>
 Adj c r K k5 a b n f g h
def Ui:R:=(.mk:Sg 0x1875432600000400b00304eb612e [a,b,d,e,f,g,i] h [cl6 (Adw c r K k5)]).F
def Ks:R:=(.mk:Sg 0x198765437000ee00400b00304eb28a909e [a,b,d,e,f,g,i,j,n] h [cl7 (Ui c r K k5)]).F
def Ka:R:=(.mk:Sg 0x120987654329002a9876543900ba0be01e9d [a,b,d,e,f,g,i,j,n,o] h [cl9 (Ks c r K k5)]).F
def Ow:R:=(.mk:Sg 0x120a98765432a102cba987654a100ee0215e702e232010aeaa [a,b,d,e,f,g,i,j,n] h [c 197,Btm (Ka c r K k5)]).F
def Ad9:R:=(.mk:Sg 0x1202cb43a9892023dc54ba99200ce0415e702e04e2d0ee0315e702e310e032e06e20ce7323113101 [a,b,d,e,f] h [Dq (Bj K),c 227,cl9 (Ow c r K k5)] [] [List.replicate 64 (.int .u8 0)]).F
def Kl(c:Ai)(r:Ai)(K:Nat):Nat->A5
 | 0=>fun _ _ _ _ _ _=>none
 | m+1=>fun a b d e f h=>
  cE Iy .lss 3 f e
  (Ad9 c r K (Kl c r K m) a b d e f h)
  (Ad1 c r K d h)
def Aj5:R:=(.mk:Sg 0x1002b05854072231212121112101203 [a,b] h [Dq (Dc K),Dq (Bj K),Dq (Db K),D7 (Qe K),cl5 (Kl c r K K)]).F
def Arr:R:=(.mk:Sg 0x127e02e1104e202e66c654216b514e4216a414ec0d201c11152167314e52166214e52165114e108201307201306201227e0606e21007e103201027e05e [a] h [D7 (Ep K),Dq (fun a=>Ep K a (.int .i64 6))] [cu1 (fun d=>Bo (Dg [(0,1),(1,1),(2,1),(3,1),(4,1),(5,1)]) [.int .i64 0,.int .i64 0,.int .i64 0,.int .i64 0,.int .i64 0,.int .i64 0] [(0,d)])] [[.int .i64 0,.int .i64 0,.int .i64 0,.int .i64 0,.int .i64 0,.int .i64 0]]).F
def Aek:Ru K (Ru r (Ru c R)):=
 some (.tuple [a,b],h)
def On:R:=(.mk:Sg 0x105e04e22009e08e22032262fff3fc17e06e6c232107e04ed2e8311e03e00e4411e0ee12e04e808e21602e2c06e21601e5c04e21600e4c321621ffff5f03e17ed1c273103e6021de21007e2117c03fb72103c03fa771c03f9011e20ae500e4111e0ee321643c20ae233 [a,b,d,e,f,g] h [Dq (E8 K),Dq (Ed K),D7 (Aek c r K)] [cu1 (fun u=>Vu 3 false 0 u),cu2 (fun ae af=>Bo (Mg 1) [.int .i64 0,.int .i64 0] [(0,ae),(1,af)])]).F
def Kb:R:=(.mk:Sg 0x18765436000ee040200e628980be [a,b,d,e,f,g,i,j] h [cl6 (On c r K)]).F
def Og:R:=(.mk:Sg 0x120276542381025a9875681000215e802e21013030ae2a870be [a,b,d,e,f,g,i] h [c 72,cl8 (Kb c r K)]).F
def U0:R:=(.mk:Sg 0x120237654710234876571030fec2a31017609e [a,b,d,e,f,g] h [Dq (Nc K),cl7 (Og c r K)]).F
def Kh:R:=(.mk:Sg 0x12065432600276543600870bec6d [a,b,d,e,f,g,i] h [cl6 (U0 c r K)]).F
def Kq:R:=(.mk:Sg 0x12076543271029876547106225e210103e7a [a,b,d,e,f,g] h [Dq (Ls K),cl7 (Kh c r K)]).F
def Oz:R:=(.mk:Sg 0x120265436102376546103101d2d7609e [a,b,d,e,f,g] h [Dq (Nc K),cl6 (Kq c r K)]).F
def Kk:R:=(.mk:Sg 0x1207653260028764360040feb7d [a,b,d,e,f,g] h [cl6 (Oz c r K)]).F
def Ua:R:=(.mk:Sg 0x134597660040a2b9860020ae63301e0023701e513423353243 [a,b,d,e] h [cl6 (Kk c r K)]).F
def Ali:R:=(.mk:Sg 0x13526420240200e50ee0215e701e20ce31112101 [a] h [Dq (Ls K),c 86,Sx (Ua c r K)]).F
def Agk:R:=(.mk:Sg 0x14095e0de1204e20de4604e45421603e314e20ce213186552167514e52166414e52165314e1000e22110d22130c221209e1606e2343207e10922110822110722132462f1e817e095e05e718e2343107e41102e57743310e611410e0ee210121007e3514e095e05e2e9e9 [a] h [Dq (Aae K),Dq (fun g=>Ep K g (.int .i64 6)),D7 (Ep K),Dq (Yd K)] [cu1 (fun e=>Nv 44 1 e none none none),cu3 (fun i j n=>Bo (Dg [(0,1),(1,1),(2,1),(3,1)]) [.int .i64 0,.int .i64 0,.int .i64 0,.Bu] [(0,i),(1,j),(2,n)]),cu3 (fun q t u=>Bo (Dg [(0,1),(1,1),(2,1),(3,1),(4,1),(5,1)]) [.int .i64 0,.int .i64 0,.int .i64 0,.int .i64 0,.int .i64 0,.int .i64 0] [(0,q),(1,t),(2,u)])] [[.int .i64 0,.int .i64 0,.int .i64 0,.Bu],[.int .i64 0,.int .i64 0,.int .i64 0,.int .i64 0,.int .i64 0,.int .i64 0]]).F
def Ae5:Ru K R:=(.mk:Sg 0x1002 [] h).F
def Av0:Ru K R:=
 I6 e fun f=>
 k4 a b d f h
def Awj:R:=(.mk:Sg 0x1a765410222212e283301665234 [a,b,d,e,f,g] h [Jx (Jc K),Sx (Av0 K k4)]).F
def Au9:R:=(.mk:Sg 0x100e65dcb6300203263601e21007e211183472662f5e917e027e05e818e921de2301fe1021ee443210e4101170ee [a,b,d,e] h [Dq (Arr K),Dq (Ed K),cl0 (Ae5 K),cl6 (Awj K k4)] [cu1 (fun q=>Vu 3 false 0 q)] [[.int .i64 0,.int .i64 0,.int .i64 0,.int .i64 0,.int .i64 0,.int .i64 0]]).F
def Yc(K:Nat):Nat->A4
 | 0=>fun _ _ _ _ _=>none
 | m+1=>fun a b d e h=>
  cE Iy .lss 3 e (.int .i64 2)
  (Au9 K (Yc K m) a b d e h)
  (Ae5 K h)
def Akc:R:=(.mk:Sg 0x100256410210121007e2514e4e9e9295e9 [a,b] h [Dq (Aae K),Sx (Yc K K)] [cu1 (fun f=>Nv 44 1 f (some (.int .i64 1)) none none)]).F
def T4:Ru K (Ru r (Ru c R)):=
 some (a,h)
def F2:R:=(.mk:Sg 0x131207023212e211124534010007e [a,b,d] h [Sx (Aor K),c 73,Dq (T4 c r K)] [cu0 (Bo (Dg [(0,1),(1,1),(2,1)]) [.int .i64 0,.int .i64 0,.int .i64 0] [(1,.int .i64 1),(2,.int .i64 1)])]).F
def Ml:Ru K (Ru r (Ru c R)):=
 I6 f fun g=>
 k5 a b d e g h
def T9:R:=(.mk:Sg 0x187654530a987653092221411103e2820fe64201 [a,b,d,e,f] h [c 20,Dq (Cm K),c 67,cl5 (Ml c r K k5)]).F
def D9(c:Ai)(r:Ai)(K:Nat):Nat->A5
 | 0=>fun _ _ _ _ _ _=>none
 | m+1=>fun a b d e f h=>
  cE Iy .lss 3 f e
  (T9 c r K (D9 c r K m) a b d e f h)
  (F2 c r K a b d h)
def Mm:R:=(.mk:Sg 0x10027655102101265 [a,b,d,e] h [Dq (Dp K),cl5 (D9 c r K K)]).F
def T1:Ru K (Ru r (Ru c R)):=
 I6 f fun g=>
 k5 a b d e g h
def T7:R:=(.mk:Sg 0x1cba9851025ba40120ae291fe414271fe214 [a,b,d,e,f] h [Sx (Sk K),cl5 (T1 c r K k5)]).F
def Dj(c:Ai)(r:Ai)(K:Nat):Nat->A5
 | 0=>fun _ _ _ _ _ _=>none
 | m+1=>fun a b d e f h=>
  cE Iy .lss 3 f (.int .i64 3)
  (T7 c r K (Dj c r K m) a b d e f h)
  (Mm c r K a b d e h)
def Lq:R:=
 Am (Aoo K b h) fun e h=>
 Dj c r K K a b d e (.int .i64 0) h
def Sh:R:=(.mk:Sg 0x15433007023286509e [a,b,d,e,f] h [Jx (Lq c r K)]).F
def Sv:R:=(.mk:Sg 0x120248c5302359d53000315e802e00e2d00615e802e20ce212176520ce2353173700027265201b0ee [a,b] h [cl0 (A6y K),Jx (Ags K),Dq (Yd K),cl5 (Sh c r K)]).F
def S9:R:=(.mk:Sg 0x1392207023212e20ce2343131e67502e5510e443210e210117265200b0ee [a] h [Dq (Dp K),Jx (Ap0 K),D7 (Sv c r K)]).F
def Hw:R:=(.mk:Sg 0x131007023284309e [a,b,d] h [Dq (S9 c r K)]).F
def Ys:R:=(.mk:Sg 0x1202531026931015e0222e231fe61450405e2d20fe2101265209e9 [a] h [Dq (Hz K),Jx (Hw c r K)]).F
abbrev N6(K:Nat)(c:Ai):Ai:=(w1 61 (Hz K) (w4 68 (Aor K) (w1 17 (Cm K) (w1 15 (Dp K) (w4 66 (Sk K) (w1 65 (Aoo K) (w0 63 (A6y K) (w3 62 (Ags K) (w1 64 (Yd K) (w3 43 (Ap0 K) c))))))))))
def Aaw:Ru K (Ru r R):=(.mk:Sg 0x12095e51204e354620ce3101 [a,b] h [c 267]).F
def As1:Ru K (Ru r (Ru c R)):=
 I6 i fun j=>
 k7 a b d e f g j h
def As7:R:=
 Q2 49 f h fun n=>
 Am (Bz (List.replicate 5 (.int .i64 0)++List.replicate 44 (.int .u8 0)) 247 49 1 [(0,n)] h) fun o h=>
 Am (Ef 247 49 e o h) fun p h=>
 As1 c r K k7 a b d p g i j h
def Asj:R:=(.mk:Sg 0x103e02e01e200edcb82000ed2105312e3e9e123e06e20ced723401332e56f2e5210e032e06e232e58632e15e [a,b,d,e,f,g,i] h [Sx (Apt K),D7 (Aaw c r K),cl8 (As7 c r K k7)] [] [List.replicate 64 (.int .u8 0),List.replicate 5 (.int .i64 0)++List.replicate 44 (.int .u8 0)]).F
def Vc(c:Ai)(r:Ai)(K:Nat):Nat->A7
 | 0=>fun _ _ _ _ _ _ _ _=>none
 | m+1=>fun a b d e f g i h=>
  cE Iy .lss 3 i g
  (Asj c r K (Vc c r K m) a b d e f g i h)
  (Aaw c r K d e h)
def A1n:R:=(.mk:Sg 0x10027b0346700613e095e05e269e9 [a,b,d] h [cl7 (Vc c r K K)] [] [[.int .i64 0,.int .i64 0,.int .i64 0,.Bu]]).F
def Amp:Ru K (Ru r (Ru c R)):=(.mk:Sg 0x100095e31204e2346345 [a,b] h).F
def Avj:Ru K (Ru r (Ru c R)):=
 I6 g fun i=>
 k6 a b d e f i h
def Av2:R:=(.mk:Sg 0x1dcba9860000e0095ea1204e2a460007e01e24e9e801e223e5b623e15e223e52e9e023e06e223e57523e15e [a,b,d,e,f,g] h [cl6 (Avj c r K k6)] [cu0 (Bo (Dg [(0,1),(1,1),(2,1),(3,1)]) [.int .i64 0,.int .i64 0,.int .i64 0,.Bu] [])] [List.replicate 5 (.int .i64 0)++List.replicate 44 (.int .u8 0)]).F
def Tt(c:Ai)(r:Ai)(K:Nat):Nat->A6
 | 0=>fun _ _ _ _ _ _ _=>none
 | m+1=>fun a b d e f g h=>
  cE Iy .lss 3 g f
  (Av2 c r K (Tt c r K m) a b d e f g h)
  (Amp c r K b d h)
def Awa:R:=
 Hc e fun f=>
 Tt c r K K a b d e f (.int .i64 0) h
def Ae9:R:=(.mk:Sg 0x13a9841000e0095ea1204e2a460007e01e212e20ce242011e57200e4110e00323e15e445400b0ee [a,b,d] h [c 296,Sx (Awa c r K)] [cu0 (Bo (Dg [(0,1),(1,1),(2,1),(3,1)]) [.int .i64 0,.int .i64 0,.int .i64 0,.Bu] [])]).F
def Avy:Ru K (Ru r (Ru c R)):=
 I6 g fun i=>
 k6 a b d e f i h
def Ae7:R:=(.mk:Sg 0x187654360000e0095e51204e25460007e01e289809e [a,b,d,e,f,g,i,j] h [cl6 (Avy c r K k6)] [cu0 (Bo (Dg [(0,1),(1,1),(2,1),(3,1)]) [.int .i64 0,.int .i64 0,.int .i64 0,.Bu] [])]).F
def Asf:R:=(.mk:Sg 0x1202dcba988102603e02e01e00edc81000215e802e23201623e5a450ee2d2325eb0ae2242e9e023e06e223e57523e15e [a,b,d,e,f,g] h [D7 (Akc K),cl8 (Ae7 c r K k6)] [] [List.replicate 5 (.int .i64 0)++List.replicate 44 (.int .u8 0)]).F
def Qm(c:Ai)(r:Ai)(K:Nat):Nat->A6
 | 0=>fun _ _ _ _ _ _ _=>none
 | m+1=>fun a b d e f g h=>
  cE Iy .lss 3 g f
  (Asf c r K (Qm c r K m) a b d e f g h)
  (Ae9 c r K a b d h)
def Aso:R:=(.mk:Sg 0x10023987620213e252007e21112101434 [a,b,d] h [Dq (Ed K),Dq (Ie K),cl6 (Qm c r K K)] [cu2 (fun a g=>Aex 49 a (some (.int .i64 1)) (some g) none)]).F
def Aa5:R:=(.mk:Sg 0x154330000e0095e51204e25460007e01e286509e [a,b,d,e,f] h [Jx (Aso c r K)] [cu0 (Bo (Dg [(0,1),(1,1),(2,1),(3,1)]) [.int .i64 0,.int .i64 0,.int .i64 0,.Bu] [])]).F
def Asx:R:=(.mk:Sg 0x12023a953027801e00e5302322ec13e212121113340ae2d00315e802e395e0406e20ce2101223e500223e15e [a,b] h [Dq (Agk K),Dq (Ed K),Dq (Ie K),cl5 (Aa5 c r K)] [] [[.int .i64 0,.int .i64 0,.int .i64 0,.Bu]]).F
def A39:R:=(.mk:Sg 0x13420000e0095e41204e24460007e01e0023701e313e095e05e [a] h [D7 (Asx c r K)] [cu0 (Bo (Dg [(0,1),(1,1),(2,1),(3,1)]) [.int .i64 0,.int .i64 0,.int .i64 0,.Bu] [])] [[.int .i64 0,.int .i64 0,.int .i64 0,.Bu]]).F
abbrev Ape(K:Nat)(c:Ai):Ai:=(w2 298 (Akc K) (w1 88 (Ed K) (w1 191 (Ie K) (w1 297 (Agk K) c))))
end
variable{d:Nat}(H:Bw disp)
include H
theorem A3d(hd:1<=d):R1 disp K d 31 (Axy K):=fun _=>rl H hd
theorem Aph(hd:0<=d):S2 disp K d 150 Akt:=fun _ _=>rd rfl rfl H rfl
theorem Aog(hd:1<=d):S2 disp K d 151 Ahk:=fun _ _=>rd rfl rfl H (V1 (Jy H) hd<|V2 (Gz H) hd<|V1 (G7 H) hd<|rfl)
theorem Aa6(hd:0<=d):S2 disp K d 203 Z9:=fun _ _=>rd rfl rfl H rfl
theorem Aj0(hd:1<=d):S3 disp K d 32 Abx:=fun _ _ _=>rd rfl rfl H (V1 (A1a H) hd<|V1 (G7 H) hd<|V1 (Dn H) hd<|rfl)
theorem Alv(hd:4<=d):R1 disp K d 85 (Ls K):=fun _=>ll H hd (fun d hd=>V1 (Jy H) hd<|V1 (Fg H) hd<|V1 (Ew H) hd<|V1 (G7 H) hd<|V2 (Ei H) hd<|rfl) 51 (e4 (Il K) 0 3 11 12)
theorem Apj(hd:1<=d):S1 disp K d 86 Ak8:=fun _=>rd rfl rfl H (V1 (Jy H) hd<|V1 (Fg H) hd<|rfl)
theorem An1(hd:2<=d):R1 disp K d 87 (Nc K):=fun _=>rl H hd fun d hd=>V1 (Jy H) hd<|V1 (Fg H) hd<|rfl
theorem Ak9(hd:3<=d):S2 disp K d 202 Aem:=fun _ _=>rd rfl rfl H (V1 (Arz H) hd<|V2 (Aqc H) hd<|V1 (G7 H) hd<|V2 (Ei H) hd<|V1 (Wt H) hd<|V1 (An4 H) hd<|rfl)
theorem Apd(hd:2<=d):S2 disp K d 242 Aj5:=fun _ _=>ld rfl rfl H (V1 (G7 H) hd<|V1 (Dn H) hd<|V1 (Iq H) hd<|V2 (Ar8 H) hd<|rfl) 103 (fun c r=>e5 (Kl c r K) 1 7 8 21 22)
theorem A3i(hd:3<=d):R1 disp K d 314 (Arr K):=fun _=>rl H hd fun d hd=>V2 (Nn H) hd<|rfl
theorem Aqu(hd:4<=d):S1 disp K d 39 Ali:=fun _=>rd rfl rfl H (V1 (Alv H) hd<|V1 (Jy H) hd<|V1 (Fg H) hd<|V1 (An1 H) hd<|rfl)
theorem A1v(hd:5<=d):R1 disp K d 297 (Agk K):=fun _=>rl H hd fun d hd=>V1 (Aa3 H) hd<|V2 (Nn H) hd<|V1 (Avd H) hd<|rfl
theorem A3b(hd:7<=d):R2 disp K d 298 (Akc K):=fun _ _=>ll H hd (fun d hd=>V1 (Aa3 H) hd<|V3 (To H) hd<|V1 (A3i H) hd<|V1 (Fg H) hd<|rfl) 51 (e4 (Yc K) 2 3 5 13)
omit H in
theorem Aez(c r:Ai)(K:Nat)(m:Nat):lpB false (N6 K c) c r K 30 6655 [(2,fun k tm h ds=>F2 c r K (k 5) (k 7) (k 9) h)] m=(fun m k tm h ds=>D9 c r K m (k 5) (k 7) (k 9) (k 73) (k 74) h) m:=
 Qj (E:=fun m k tm h ds=>D9 c r K m (k 5) (k 7) (k 9) (k 73) (k 74) h) rfl (fun m=>A14 fun k tm h ds=>by kernel_rfl) m
omit H in
theorem Acn(c r:Ai)(K:Nat)(m:Nat):lpB false (N6 K c) c r K 30 3327 [(0,fun k tm h ds=>Mm c r K (k 1) (k 5) (k 7) (k 9) h)] m=(fun m k tm h ds=>Dj c r K m (k 1) (k 5) (k 7) (k 9) (k 56) h) m:=
 Qj (E:=fun m k tm h ds=>Dj c r K m (k 1) (k 5) (k 7) (k 9) (k 56) h) rfl (fun m=>A14 fun k tm h ds=>by kernel_rfl) m
theorem Afs(hd:5<=d):S1 disp K d 30 Ys:=fun _=>rm (q:=false) (D:=N6 K (Ag TT disp K d false)) (by kernel_rfl) rfl rfl H (V1 (Agh H) hd<|V4 (A59 H) hd<|V1 (Hl H) hd<|V1 (Ew H) hd<|V4 (At9 H) hd<|V1 (A7j H) hd<|V0 (A9v H) hd<|V3 (A0e H) hd<|V1 (Avd H) hd<|V3 (A7i H) hd<|rfl) (cut [true,true,true,true,true,true,true,true,true,false,true,false] (Aez (Ag TT disp K d false) (Ag TT disp K d true) K K) (by kernel_rfl) (by kernel_rfl) (cut [true,true,true,true,true,true,true,true,false,true,false] (Acn (Ag TT disp K d false) (Ag TT disp K d true) K K) (by kernel_rfl) (by kernel_rfl) rfl))
theorem A2w(hd:6<=d):S3 disp K d 243 A1n:=fun _ _ _=>ld rfl rfl H (V4 (Avo H) hd<|rfl) 51 (fun c r=>e7 (Vc c r K) 1 3 6 8 13 14 15)
omit H in
theorem A1q(c r:Ai)(K:Nat)(m:Nat):lpB false (Ape K c) c r K 267 3327 [(2,fun k tm h ds=>Amp c r K (k 2) (k 4) h)] m=(fun m k tm h ds=>Tt c r K m (k 0) (k 2) (k 4) (k 73) (k 74) (k 75) h) m:=
 Qj (E:=fun m k tm h ds=>Tt c r K m (k 0) (k 2) (k 4) (k 73) (k 74) (k 75) h) rfl (fun m=>A14 fun k tm h ds=>by kernel_rfl) m
omit H in
theorem Azw(c r:Ai)(K:Nat)(m:Nat):lpB false (Ape K c) c r K 267 415 [(0,fun k tm h ds=>Ae9 c r K (k 0) (k 2) (k 4) h)] m=(fun m k tm h ds=>Qm c r K m (k 0) (k 2) (k 4) (k 41) (k 42) (k 43) h) m:=
 Qj (E:=fun m k tm h ds=>Qm c r K m (k 0) (k 2) (k 4) (k 41) (k 42) (k 43) h) rfl (fun m=>A14 fun k tm h ds=>by kernel_rfl) m
theorem A3j(hd:7<=d):S1 disp K d 267 A39:=fun _=>rm (q:=false) (D:=Ape K (Ag TT disp K d false)) (by kernel_rfl) rfl rfl H (V2 (A3b H) hd<|V1 (Fg H) hd<|V1 (Un H) hd<|V1 (A1v H) hd<|rfl) (cut [true,true,true,true,true,true,true,true,false,true,false] (A1q (Ag TT disp K d false) (Ag TT disp K d true) K K) (by kernel_rfl) (by kernel_rfl) (cut [true,true,true,true,true,false,true,false] (Azw (Ag TT disp K d false) (Ag TT disp K d true) K K) (by kernel_rfl) (by kernel_rfl) rfl))
end
end
noncomputable section
section
variable (c r:Ai)(K l:Nat)(k0:A0)(k1:A1)(k2:A2)(k3:A3)(k4:A4)(k5:A5)(k6:A6)(k7:A7)(k8:A8)(k9:A9)(k10:A10)(k11:A11)(k12:A12)(m0:B0)(m1:B1)(m2:B2)(m3:B3)(m4:B4)(m5:B5)(m6:B6)(m7:B7)(m8:B8)(m9:B9)(m10:B10)(m11:B11)(m12:B12)(base:Nat)(s:DX)(tm:Bb)(a b d e f g i j n o p q t u w x y z aa ab ad ae af ag ai aj an ao ap aq au aw ax ay az ba bb bd be bf bg bi bj bn bo bp bq bt bu bw bx bz da db dd de df dg di dj dn dp dq dt du dw dx dy dz ea eb ed ee ef eg ei ej en eo ep eq et eu ew ex ey ez fa fb fd fe ff fg fi fj fn fo fp fq ft fu fw fx fy fz ga gb gd ge gf gg gi gj gn go gp gq gt gu gw gx gy gz ia ib ie ig ii ij io ip iq it iu iw ix iy iz ja jb:EV)(h:Ab)(ds:List Nat)
def Rw:Ru K (Ru r (Ru c R)):=
 pkA a b fun d=>
 some (d,h)
def Rx:R:=(.mk:Sg 0x120221024210524702e310100e2a540be [a,b,d,e] h [Dq (L6 K),D7 (Rw c r K)]).F
def R8:R:=(.mk:Sg 0x12025341024754105224e310100e2a650be [a,b,d,e,f] h [Dq (J3 K),Sx (Rx c r K)]).F
def Rs:R:=(.mk:Sg 0x1202653510248755105224e310101e2a760be [a,b,d,e,f,g] h [Dq (Lp K),cl5 (R8 c r K)]).F
def R6:R:=(.mk:Sg 0x120265436002376546000ee0815e702e01e2a60fe [a,b,d,e,f,g] h [cl6 (Rs c r K)]).F
def Rl:Ru K (Ru r (Ru c R)):=
 pkA a b fun d=>
 some (d,h)
def R9:R:=(.mk:Sg 0x1202210252102324e50ae310100e2a540be [a,b,d,e] h [Dq (J3 K),D7 (Rl c r K)]).F
def K6:R:=(.mk:Sg 0x123abc04e6b0202c05e4a02400e07e4a010225e60400e2a00615e702e11e00215e701e20ce01e191327e0606e20ce5228191719161815171412131212121112101 [a,b] h [Dq (Dc K),Dq (Bj K),Dq (Db K),Dq (J5 K),Dq (Lp K),Dq (J3 K),Dq (L6 K),Dq (E8 K),D7 (Hr K),c 39,Sx (R9 c r K),cl6 (R6 c r K)] [] [[.int .i64 0,.int .i64 0,.int .i64 0,.int .i64 0,.int .i64 0,.int .i64 0]]).F
def Rc:Ru K (Ru r (Ru c R)):=
 I6 f fun g=>
 k5 a b d e g h
def Qf:R:=(.mk:Sg 0x1ba987510762301239e5230e039e06e239e56439e15e [a,b,d,e,f] h [c 32,cl5 (Rc c r K k5)] [] [List.replicate 7 (.int .i64 0)++List.replicate 64 (.int .u8 0)]).F
def E4(c:Ai)(r:Ai)(K:Nat):Nat->A5
 | 0=>fun _ _ _ _ _ _=>none
 | m+1=>fun a b d e f h=>
  cE Iy .lss 3 f e
  (Qf c r K (E4 c r K m) a b d e f h)
  (K6 c r K a b h)
def Qa:R:=(.mk:Sg 0x1002435510313e3101 [a,b] h [Dq (Axy K),cl5 (E4 c r K K)]).F
def Gj:R:=(.mk:Sg 0x1432005023285409e [a,b,d,e] h [D7 (Qa c r K)]).F
def P8:R:=(.mk:Sg 0x120235410245741001222e513ed2d7020ce702e2101365 [a,b] h [c 30,Sx (Gj c r K)] [] [] [(.int .i64 120)]).F
def Oc:R:=(.mk:Sg 0x14621040232820fe001209e9 [a,b] h [c 29,D7 (P8 c r K)]).F
end
variable{d:Nat}(H:Bw disp)
include H
theorem Acs(hd:1<=d):S2 disp K d 4 Oc:=fun _ _=>ld rfl rfl H (V1 (Ami H) hd<|V1 (Anw H) hd<|V1 (Al6 H) hd<|V1 (G7 H) hd<|V1 (Dn H) hd<|V1 (Iq H) hd<|V1 (Zc H) hd<|V1 (Jy H) hd<|V2 (Gz H) hd<|V1 (A3d H) hd<|rfl) 415 (fun c r=>e5 (E4 c r K) 5 6 29 30 31)
end
end Go.Ev
