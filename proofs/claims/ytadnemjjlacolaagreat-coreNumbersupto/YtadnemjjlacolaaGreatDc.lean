import Derived.Test.YtadnemjjlacolaaGreatDb
set_option linter.all false
namespace Go.Ev
open Go.Proofs
set_option maxRecDepth 100000
set_option maxHeartbeats 4000000
variable {disp:Nat->Option FT}{K:Nat}
section
noncomputable section
section
variable (c r:Ai)(K l:Nat)(k0:A0)(k1:A1)(k2:A2)(k3:A3)(k4:A4)(k5:A5)(k6:A6)(k7:A7)(k8:A8)(k9:A9)(k10:A10)(k11:A11)(k12:A12)(m0:B0)(m1:B1)(m2:B2)(m3:B3)(m4:B4)(m5:B5)(m6:B6)(m7:B7)(m8:B8)(m9:B9)(m10:B10)(m11:B11)(m12:B12)(base:Nat)(s:DX)(tm:Az)(a b d e f g i j n o p q t u w x y z aa ab ad ae af ag ai aj an ao ap aq au aw ax ay az ba bb bd be bf bg bi bj bn bo bp bq bt bu bw bx bz da db dd de df dg di dj dn dp dq dt du dw dx dy dz ea eb ed ee ef eg ei ej en eo ep eq et eu ew ex ey ez fa fb fd fe ff fg fi fj fn fo fp fq ft fu fw fx fy fz ga gb gd ge gf gg gi gj gn go gp gq gt gu gw gx gy gz ia ib ie ig ii ij io ip iq it iu iw ix iy iz ja jb:EV)(h:Aa)(ds:List Nat)
def Aqc:Ru r R:=
 (fun(tm:Az) (ds:List Nat)=>
 Sh 53 a h fun e h=>
 Ez b h fun f=>
 Ap (Wj K f h) fun g h=>
 Wd c TT 144 31 0 g (((tm.put 3 (some e)).put 6 (some f)).put 7 (some g)) h ds (fun h ds=>
 Fp ds h fun h=>some (.tuple [],h)) (fun id h ds=>
 Ba (Nat.beq 0 id) (Fp ds h fun h=>some (.tuple [],h)) (none)) (fun h ds=>
 Fp ds h fun h=>some (.tuple [],h))) (((Tr.nil.put 0 (some a)).put 1 (some b)).put 2 (some d)) []
def Iz:Ru K (Ru r (Ru c R)):=
 pkA a b fun d=>
 ifE d
 (Wa l false .done (some .ret) h)
 (Wa l true .ready none h)
def Ln:R:=(.mk:Sg 0x12022102521020fe5220130de00e2a540be [a,b,d,e] h [El (fun g b=>S7 c r g [b]),El (Iz c r K l)]).F
def Le:R:=(.mk:Sg 0x12043240025434006509ea4a [a,b,d,e,f] h [Vp (Ln c r K l)]).F
def O2:R:=(.mk:Sg 0x12076435002a9765002324e30de52402e7d [a,b,d,e,f,g] h [cl5 (Le c r K l)]).F
def Aar:R:=(.mk:Sg 0x1202765460025a9876002324e50de71403e2a10224e504 [a,b,d,e] h [cl6 (O2 c r K l)]).F
def Aip:R:=
 nsE 6 [(.int .i64 0),(.int .i64 0),(.int .i64 0),(.int .i64 0),(.int .i64 0),(.int .i64 0)] 47 e h fun f h=>
 E1 l h fun h=>Aar c r K l a b d f h
def Qg:R:=(.mk:Sg 0x123200e20ce2320f1e87732e5707b20de231e6b42115e273011e0ee [a,b,d] h [El (Dx K)]).F
def Lw(K:Nat)(base:Nat)(s:DX)(a:EV)(b:EV)(d:EV)(e:EV)(f:EV)(h:Aa):R:=
 pkA e f fun g=>
 ifE g
 (some (.tuple [(.int .i64 0),(.int .i64 33)],h))
 (Qg K a b d h)
def X2:R:=
 Aaa h fun base s=>
 Aq4 0 3 7 base a s h fun s e=>
 Aac 1 e b fun f=>
 Ov 6 63 base f s fun s=>Ez f h fun g=>
 L6 7 127 s h (fun h=>(D5 K g h)) fun i h s=>
 A8k i (.int .i64 0) fun j=>
 wtE j
 (L6 11 2047 s h (fun h=>(O3 K a h)) fun n h s=>
 Aq4 2 15 29695 base a s h fun s o=>
 A7e n o fun p=>
 Lw K base s a b d j p h)
 (Lw K base s a b d j tU h)
def Pn:R:=(.mk:Sg 0x1354310200200e5212e43201410e9 [a,b,d] h [El (Hw K),K7 (X2 K)]).F
def Asj:R:=(.mk:Sg 0x1000e2c000e301c542c211a44210a301834230830162423063014142104301204321e9 [a,b] h [K7 (D7 K),El (fun a q=>D7 K a (.int .i64 6) q)]).F
def Ajd:Ru r R:=(.mk:Sg 0x12221113032101 [a] h [c 129,Es (Q7 K)]).F
def Np:R:=(.mk:Sg 0x12201250e403e42201252e9 [a,b] h [El (fun d b=>Adz K d (.int .u32 4294967295) b)] [] [] [(.int .u32 4294967295)]).F
def Apr:Ru K (Ru r R):=(.mk:Sg 0x16543100ee040200e60ee0215e701e62201203 [a,b,d,e] h [c 134,K7 k3]).F
def Ac0:R:=(.mk:Sg 0x17654410540200ea2162114e622319e41c06e0ee0215e701e0050200e422623fff4f00e17ea22319e81c2a2007e21f83f9010e622319e41c0ee1be00215e701e623301445 [a,b,d,e] h [c 159,Vp (Apr c r K k3)] [cu2 (fun e n=>Bq (Dh [(0,1),(1,1)]) [.int .i64 0,.int .i64 0] [(0,e),(1,n)])]).F
def N0(c:Ai)(r:Ai)(K:Nat):Nat->A3
 | 0=>fun _ _ _ _=>none
 | m+1=>fun a b d h=>
  Ap (Q9 K a b h) fun e h=>
  cE Al0 .eql 3 e (.int .i64 (-1))
  (some (.tuple [(.bool false),(.int .i64 0)],h))
  (Ac0 c r K (N0 c r K m) a b d e h)
def Ain:R:=
 Sh 160 d h fun e h=>
 N0 c r K K a b e h
def Aan:Ru K (Ru r (Ru c R)):=
 K3 e fun f=>
 k4 a b d f h
def Aa4:R:=(.mk:Sg 0x18765410000e22820fe26330153116e [a,b,d,e] h [K7 (fun a e f=>S7 c r a [e,f]),Vp (Aan c r K k4)]).F
def Jo(c:Ai)(r:Ai)(K:Nat):Nat->A4
 | 0=>fun _ _ _ _ _=>none
 | m+1=>fun a b d e h=>
  cE Ky .lss 3 e d
  (Aa4 c r K (Jo c r K m) a b d e h)
  (some (.tuple [],h))
def Ag7:R:=(.mk:Sg 0x100235410213e210130de [a,b] h [Es (Sy K),Vp (Jo c r K K)]).F
def Xa:Ru K (Ru r (Ru c R)):=(.mk:Sg 0x1002002164fdec62163fcec42162fbec [a,b,d] h).F
def Ws:R:=(.mk:Sg 0x13473100fe023212e421ae20ce21012f9e3 [a] h [Es (W6 K),K7 (Xa c r K)]).F
def O9:R:=(.mk:Sg 0x14110222212e2101203 [a] h [c 98,Es (Ws c r K)]).F
def Kv:R:=(.mk:Sg 0x13100002328430be [a,b,d] h [Es (O9 c r K)]).F
def Ab7:R:=(.mk:Sg 0x120243002683002420e22451c4fde304e2a01225e2fbe3 [a] h [K7 (Kv c r K)] [] [] [(.int .i64 (-1))]).F
def Ag3:Ru r R:=(.mk:Sg 0x1000e000e21419039c023701e000ec0233331e67902e5210e973011e0ee08e6023701e000e60233331e67902e5210e973011e0ee08e3023701e000e2a221836e5a1023701e714321623ff3fa17e72c242170e772101618e336e5305b300e4211e0ee312e9 [a,b] h [Es (fun f=>Bx (List.replicate 4 (.int .i64 0)++List.replicate 64 (.int .u8 0)) 32 68 1 [(0,f)]),El (D9 32 68),c 180,K7 (Om K),Es (Rf K)]).F
def Afs:Ru K R:=(.mk:Sg 0x1002200e23211432007e001 [a,b] h [cl0 (Bx [.int .u8 0] 5 1 0 []),El (D9 5 1)] [cu2 (fun a b=>Ah3 1 a none (some b) none)]).F
def Af9:Ru K R:=
 K3 g fun i=>
 k6 a b d e f i h
def Agh:R:=
 Afi (bin TT .shr 94) d (.int .u64 8) fun i=>
 Af9 K k6 a b i e f g h
def Agz:R:=(.mk:Sg 0x198765460001e0b0200e6235801e51007e75116e [a,b,d,e,f,g] h [cl6 (Agh K k6)] [cu1 (fun d=>R6 .u8 d)]).F
def Ms(K:Nat):Nat->A6
 | 0=>fun _ _ _ _ _ _ _=>none
 | m+1=>fun a b d e f g h=>
  cE Ky .lss 3 g f
  (Agz K (Ms K m) a b d e f g h)
  (Afs K a b h)
def Ag1:R:=(.mk:Sg 0x10023497610213e752107e232001e47532007e3f2e5300b0ee [a,b,d] h [El (Np K),cl6 (Ms K K)] [cu2 (fun a d=>Ah3 1 a none (some d) none),cu2 (fun a d=>Ah3 1 a (some d) none none)]).F
def Wu:R:=(.mk:Sg 0x124630004e0b0200e60023301ec021ee413e252e9 [a,b] h [K7 (Ag1 K)]).F
def Abv:R:=(.mk:Sg 0x15097e09e1204e209e1ee609e1ee54224107e1107e20ce01e131200e22121007ed614e230b311b54230931194421073117342105311524232013140dbe05e [a,b,d] h [El (fun e f=>D7 K e (.int .i64 6) f),K7 (D7 K),El (Pw K),Es (Nr K),builtin TT .copy #[173,173]] [cu1 (fun w=>Ps 32 1 w none none none),cu1 (fun d=>Ps 44 1 d none none none)] [[.Ao,.bool false]]).F
def Og:R:=(.mk:Sg 0x156731000e0097e71204e271ee651ee501e2820fe2101418e5097e05e097e05e275e9 [a] h [Es (Q4 K),K7 (Abv K)] [] [List.replicate 44 (.int .u8 0)]).F
def Ry:Ru K (Ru r (Ru c R)):=
 some (.tuple [a,b],h)
def Afu:R:=(.mk:Sg 0x12323056230232214b2007e93304e00215e701e20ce2733131e67432e5405b473011e0ee43201410e9 [a,b,d] h [c 138,K7 (Pn K),builtin TT .delete #[140,227],El (Ry c r K)] [cu2 (fun b n=>Bq (Dh [(0,1),(1,1)]) [.int .i64 0,.int .i64 0] [(0,b),(1,n)])]).F
def Ag5:Ru r R:=(.mk:Sg 0x1225221130332201 [a,b] h [c 138,El (Pb K)]).F
def W9:R:=(.mk:Sg 0x1222a221246843121307e21950e603e21207e11750e603e21107e01550e603e41007e72221011522012f2e5252e9 [a,b] h [El (Np K),cl0 (Bx [.int .u8 0] 5 1 0 []),El (D9 5 1),Vp (fun j o q u=>Bx [.int .u8 0] 5 1 4 [(0,j),(1,o),(2,q),(3,u)])] [cu1 (fun f=>R6 .u8 f),cu1 (fun n=>R6 .u8 n),cu1 (fun p=>R6 .u8 p),cu1 (fun t=>R6 .u8 t)] [] [(.int .u64 8),(.int .u64 16),(.int .u64 24)]).F
def As8:R:=(.mk:Sg 0x197e31104e231ee63101 [a,b] h [Es (Ai7 K)]).F
def Atg:Ru K R:=
 K3 f fun g=>
 k5 a b d e g h
def Atk:R:=(.mk:Sg 0x102e01e00edc520200e211265321e0606e20ce25201921de2301fe1031ee334 [a,b,d,e,f] h [El (K4 K),El (Asj K),cl5 (Atg K k5)] [] [[.int .i64 0,.int .i64 0,.int .i64 0,.int .i64 0,.int .i64 0,.int .i64 0]]).F
def Xc(K:Nat):Nat->A5
 | 0=>fun _ _ _ _ _ _=>none
 | m+1=>fun a b d e f h=>
  cE Ky .lss 3 f (.int .i64 2)
  (Atk K (Xc K m) a b d e f h)
  (As8 K d e h)
def Aow:R:=(.mk:Sg 0x100356851071023012dbe90007e097e05e292e9 [a,b] h [K7 (D7 K),cl5 (Xc K K)] [cu0 (Bq (Dh [(0,1),(1,1)]) [.Ao,.bool false] [])] [List.replicate 44 (.int .u8 0)]).F
def Ave:R:=(.mk:Sg 0x1002200e265e9818e2573007e22221618e21102e57565504b22201318e322310e265200b0ee [a] h [El (Uu [.int .i64 0,.int .i64 0,.int .i64 0,.int .i64 0,.int .i64 0,.int .i64 0] 47),Es (Dn K),El (Uu [.int .i64 0] 3)] [cu3 (fun b e i=>Bq (Dh [(0,6),(6,1),(7,1)]) [.int .i64 0,.int .i64 0,.int .i64 0,.int .i64 0,.int .i64 0,.int .i64 0,.Ao,.Ao] [(0,b),(1,e),(2,i)])]).F
def Amz:R:=(.mk:Sg 0x1511009e070200e62820fe2101265209e9 [a] h [Es (Md K),Es (Ave K)]).F
def Acn:Ru K R:=(.mk:Sg 0x1402 [] h).F
def Ea(K:Nat)(base:Nat)(s:DX)(a:EV)(b:EV)(h:Aa):R:=
 pkA a b fun d=>
 some (d,h)
def Fc:R:=
 pkA b d fun e=>
 wtE e
 (olE 5 42 4398046511103 base a s h fun s f=>
 Awx f (.int .i64 4294967295) fun g=>
 Ea K base s e g h)
 (Ea K base s e tU h)
def Gf:R:=
 pkA b d fun e=>
 wtE e
 (olE 5 37 137438953471 base a s h fun s f=>
 A7e f (.int .i64 0) fun g=>
 Fc K base s a e g h)
 (Fc K base s a e tU h)
def H3:R:=
 pkA b d fun e=>
 wtE e
 (olE 4 32 4294967295 base a s h fun s f=>
 Awx f (.int .i64 281474976710655) fun g=>
 Gf K base s a e g h)
 (Gf K base s a e tU h)
def Kj:R:=
 pkA b d fun e=>
 wtE e
 (olE 4 27 134217727 base a s h fun s f=>
 A7e f (.int .i64 1) fun g=>
 H3 K base s a e g h)
 (H3 K base s a e tU h)
def Ka:R:=
 pkA d e fun f=>
 wtE f
 (Ov 15 32767 base b s fun s=>Ox 6 b h fun g=>
 olE 1 17 98303 base a s h fun s i=>
 L6 18 262143 s h (fun h=>(Ed K g i h)) fun j h s=>
 Ov 19 32767 base b s fun s=>Ox 6 b h fun n=>
 olE 2 21 1081343 base a s h fun s o=>
 L6 22 4194303 s h (fun h=>(Ed K n o h)) fun p h s=>
 Ayf j p fun q=>
 Kj K base s a f q h)
 (Kj K base s a f tU h)
def Kb:R:=
 ifE e
 (Ox 6 a h fun f=>
 oE 0 a h fun g=>
 Bq (Dh [(0,1),(1,1),(2,1),(3,1),(4,1),(5,1)]) [(.int .i64 0),(.int .i64 0),(.int .i64 0),(.int .i64 0),(.int .i64 0),(.int .i64 0)] [(0,g)] fun i=>
 Kk Al0 (bin TT .eql 47) f i fun j=>
 some (j,h))
 (cE Al0 .eql 3 d (.int .i64 1)
 (Aaa h fun base s=>
 Ov 0 0 base b s fun s=>Ox 6 b h fun n=>
 olE 1 2 2 base a s h fun s o=>
 olE 3 4 8 base a s h fun s p=>
 L6 5 31 s h (fun h=>(Mc K n o p h)) fun q h s=>
 wtE q
 (Ov 7 127 base b s fun s=>Ox 6 b h fun t=>
 olE 2 9 383 base a s h fun s u=>
 olE 3 11 1151 base a s h fun s w=>
 L6 12 4095 s h (fun h=>(Mc K t u w h)) fun x h s=>
 Ka K base s a b q x h)
 (Ka K base s a b q tU h))
 (Acn K h))
def Ix:R:=(.mk:Sg 0x1245640030324e234540072800224e304409e9221e9 [a,b] h [Vp (Kb K)]).F
def Alb:Ru r R:=(.mk:Sg 0x12010e71204e3732e620ce76231140343201010e05e [a,b,d] h [c 138,K7 (St K)] [] [List.replicate 64 (.int .u8 0)]).F
def Tw:Ru K (Ru r (Ru c R)):=
 some (a,h)
def Aii:R:=(.mk:Sg 0x1213031300065321b00215e701e5221130332201 [a,b] h [c 138,El (Qu K),K7 (Vy K),Es (Tw c r K)]).F
def Ak2:Ru K R:=(.mk:Sg 0x100099e31204e2323e6323e5 [a,b] h).F
def Ug:R:=(.mk:Sg 0x14320000e0099e41204e2423e60007e01e285409e [a,b,d,e] h [El (Ak2 K)] [cu0 (Bq (Dh [(0,1),(1,1),(2,1),(3,1),(4,1),(5,44)]) (List.replicate 5 (.int .i64 0)++List.replicate 44 (.int .u8 0)) [])]).F
def Uj:R:=(.mk:Sg 0x120253410247541000215e802e410103e2d6509e [a,b,d,e,f] h [Es (Qw K),Vp (Ug K)]).F
def Ak8:R:=(.mk:Sg 0x120202e05e06e5602505e08e09e56020fe215102e23e503e2d1000e25e232401e4713e002e2343721107eb514e0ee6216a414e62169314e62168214e62167114e9121c08211307211306211105211299e023e06e21007e1022113101 [a,b] h [Es (Ajj K),El (Iv K),Es (fun d=>Iv K d (.int .i64 6)),El (Lg K),builtin TT .copy #[173,173],Es (J1 K),cl5 (Uj K)] [cu1 (fun e=>Bq (Dh [(0,1),(1,1),(2,1),(3,1),(4,1),(5,44)]) (List.replicate 5 (.int .i64 0)++List.replicate 44 (.int .u8 0)) [(0,e)]),cu1 (fun x=>Ps 44 1 x none none none)] [List.replicate 5 (.int .i64 0)++List.replicate 44 (.int .u8 0)]).F
def Ac9:R:=(.mk:Sg 0x1372103099e81204e2823e60107e00e212e20ce232032741007e4f2e5400b0ee099e05e410e9252e9 [a,b] h [El (Wu K),El (Ak8 K)] [cu1 (fun e=>Ps 64 1 e none none none),cu0 (Bq (Dh [(0,1),(1,1),(2,1),(3,1),(4,1),(5,44)]) (List.replicate 5 (.int .i64 0)++List.replicate 44 (.int .u8 0)) [])] [List.replicate 5 (.int .i64 0)++List.replicate 44 (.int .u8 0)]).F
def Avs:Ru K R:=(.mk:Sg 0x100075e31204e2318e6318e5 [a,b] h).F
def Ahl:R:=(.mk:Sg 0x14320000e0075e41204e2418e60007e01e285409e [a,b,d,e] h [El (Avs K)] [cu0 (Bq (Dh [(0,1),(1,1),(2,1),(3,1),(4,1),(5,1),(6,32)]) (List.replicate 6 (.int .i64 0)++List.replicate 32 (.int .u8 0)) [])]).F
def Atq:R:=(.mk:Sg 0x1202c07e4602501e0ae4602397e802e09e1ee531ee504e2d00315e802e397e11ee06e20ce2151618e5232401e470ce0b2343721207e2614e0ee275e018e06e23456b6107e3062213052211042211032212111210131007e075e05e397e9 [a,b] h [Es (Ajj K),Es (fun g=>Iv K g (.int .i64 6)),El (Iv K),El (Lg K),builtin TT .copy #[173,173],Es (Og K),Vp (Ahl K)] [cu1 (fun d=>Ps 44 1 d none none none),cu6 (fun a i j n o p=>Bq (Dh [(0,1),(1,1),(2,1),(3,1),(4,1),(5,1),(6,32)]) (List.replicate 6 (.int .i64 0)++List.replicate 32 (.int .u8 0)) [(0,a),(1,i),(2,j),(3,n),(4,o),(5,p)]),cu1 (fun u=>Ps 32 1 u none none none)] [List.replicate 6 (.int .i64 0)++List.replicate 32 (.int .u8 0),List.replicate 44 (.int .u8 0)]).F
def Aax:Ru K R:=(.mk:Sg 0x100099e31204e2323e6323e5 [a,b] h).F
def Hd:R:=(.mk:Sg 0x14320000e0099e41204e2423e60007e01e285409e [a,b,d,e] h [El (Aax K)] [cu0 (Bq (Dh [(0,1),(1,1),(2,1),(3,1),(4,1),(5,44)]) (List.replicate 5 (.int .i64 0)++List.replicate 44 (.int .u8 0)) [])]).F
def Ji:R:=(.mk:Sg 0x12026540026a94002421e251ee52441405e2d7609e [a,b,d,e,f,g] h [Vp (Hd K)]).F
def Mn:R:=(.mk:Sg 0x120265436002487656004222e41401e2d7609e [a,b,d,e,f,g] h [cl6 (Ji K)]).F
def J5:R:=(.mk:Sg 0x12023cd04e62025601e02e07e62020fe2111323e504e2d00715e802e299e023e06e201e00edc36007e31ee5804397e11ee06e20ce2101318e5099e05e275e9 [a,b,d,e,f] h [Es (Og K),Es (J1 K),cl6 (Mn K)] [cu6 (fun t b d e f u=>Bq (Dh [(0,1),(1,1),(2,1),(3,1),(4,1),(5,44)]) (List.replicate 5 (.int .i64 0)++List.replicate 44 (.int .u8 0)) [(0,t),(1,b),(2,d),(3,e),(4,f),(5,u)])] [List.replicate 5 (.int .i64 0)++List.replicate 44 (.int .u8 0),List.replicate 44 (.int .u8 0)]).F
def Ak3:R:=(.mk:Sg 0x100010e71204e2732e6232e5232e26e522012f2e5 [a,b,d] h [El (W9 K)]).F
def Akz:R:=(.mk:Sg 0x1308e06e3403010e09e1204e209e32e60107e00e212e20ce02e131201e22121007e01e514e2c211d442c0a301b34230830192423063017141010430121033014040dbe05e [a,b,d] h [K7 (D7 K),El (fun e u=>D7 K e (.int .i64 6) u),El (Pw K),Es (Nr K),K7 (Ak3 K)] [cu1 (fun x=>Ps 44 1 x none none none),cu0 (Bq (Nb 1) (List.replicate 64 (.int .u8 0)) [])] [[.Ao,.bool false]]).F
def Wn:R:=(.mk:Sg 0x156731000e0010e61204e2632e60007e01e2820fe2101323e5010e05e499e9252e9 [a,b] h [Es (J1 K),K7 (Akz K)] [cu0 (Bq (Nb 1) (List.replicate 64 (.int .u8 0)) [])] [List.replicate 64 (.int .u8 0)]).F
def Am3:Ru K (Ru r (Ru c R)):=(.mk:Sg 0x1002200e [a] h).F
def Ami:Ru K (Ru r (Ru c R)):=
 K3 e fun f=>
 k4 a b d f h
def Anl:R:=(.mk:Sg 0x1d2ba4302b2212111823e5521ee67514e92166214e802165014e62201245 [a,b,d,e] h [El (Aow K),Es (fun o=>Bx (List.replicate 5 (.int .i64 0)++List.replicate 44 (.int .u8 0)) 167 49 1 [(0,o)]),El (D9 167 49),Vp (Ami c r K k4)]).F
def Ro(c:Ai)(r:Ai)(K:Nat):Nat->A4
 | 0=>fun _ _ _ _ _=>none
 | m+1=>fun a b d e h=>
  oE 3 a h fun f=>
  Ap (Nv K f h) fun g h=>
  Ap (Pu K g h) fun i h=>
  cE Ky .lss 3 e i
  (Anl c r K (Ro c r K m) a b d e h)
  (Am3 c r K d h)
def Anm:R:=(.mk:Sg 0x11024b4202111223e53223e621ff3f917e099e05e818e24564007e21012e67545505b484010e322110e0ee [a,b] h [Es (Ao5 K),Es (fun n=>Bx (List.replicate 5 (.int .i64 0)++List.replicate 44 (.int .u8 0)) 167 49 1 [(0,n)]),Vp (Ro c r K K)] [cu4 (fun a d e g=>Bq (Dh [(0,1),(1,1),(2,1),(3,1),(4,1),(5,44)]) (List.replicate 5 (.int .i64 0)++List.replicate 44 (.int .u8 0)) [(0,.int .i64 4),(1,a),(3,d),(4,e),(5,g)])] [List.replicate 5 (.int .i64 0)++List.replicate 44 (.int .u8 0)]).F
def Aob:R:=(.mk:Sg 0x14320000e0b0200e6285409e [a,b,d,e] h [El (Anm c r K)]).F
def Ava:R:=(.mk:Sg 0x120257430269b43020fe0092321211153409e2d20fe2101245292e9 [a,b] h [c 131,Es (Nv K),K7 (Mc K),Vp (Aob c r K)]).F
def K0(K:Nat)(base:Nat)(s:DX)(a:EV)(b:EV)(h:Aa):R:=
 pkA a b fun d=>
 some (d,h)
def Kr:R:=
 Sh 47 b h fun d h=>
 Aaa h fun base s=>
 olE 0 1 1 base d s h fun s e=>
 A8k e (.int .i64 1) fun f=>
 wtE f
 (Ov 4 15 base d s fun s=>Ox 6 d h fun g=>
 noE 1 a fun i=>
 Ov 8 239 base i s fun s=>Ox 6 i h fun j=>
 L6 9 511 s h (fun h=>(Ix K g j h)) fun n h s=>
 K0 K base s f n h)
 (K0 K base s f tU h)
def Alc:R:=(.mk:Sg 0x10023266271e717e93615e965905b673611e0ee102531166523201565 [a,b,d,e] h [El (fun a f=>R9 K a f (.int .i64 (-1))),K7 (R9 K)]).F
def M0:R:=(.mk:Sg 0x17bdc42000e0232820fe242111e57265200e4b80c665600b0ee322312e321e0606e20ce43201421e9 [a,b,d] h [El (K4 K),El (Ix K),Vp (Alc K)] [] [[.int .i64 0,.int .i64 0,.int .i64 0,.int .i64 0,.int .i64 0,.int .i64 0]]).F
def Awf:Ru K R:=(.mk:Sg 0x100099e31204e2323e6323e5 [a,b] h).F
def Afr:R:=(.mk:Sg 0x14320002e0099e41204e2423e60007e01e285409e [a,b,d,e] h [El (Awf K)] [cu0 (Bq (Dh [(0,1),(1,1),(2,1),(3,1),(4,1),(5,44)]) (List.replicate 5 (.int .i64 0)++List.replicate 44 (.int .u8 0)) [])]).F
def Avp:R:=(.mk:Sg 0x12027640024984006225e724d2d3225e514 [a,b,d,e] h [Vp (Afr K)]).F
def As0:R:=(.mk:Sg 0x12800ed4104099e91204e2923e60007e00e312e399e023e06e20ce23201432e54f2e5099e05e410e9252e9 [a,b,d,e] h [El (Ac9 K),Vp (Avp K)] [cu0 (Bq (Dh [(0,1),(1,1),(2,1),(3,1),(4,1),(5,44)]) (List.replicate 5 (.int .i64 0)++List.replicate 44 (.int .u8 0)) [])] [List.replicate 5 (.int .i64 0)++List.replicate 44 (.int .u8 0)]).F
def Ap9:Ru K R:=(.mk:Sg 0x100075e31204e2318e6318e5 [a,b] h).F
def Aqa:R:=(.mk:Sg 0x1cb2103075ec1204e2c18e60007e00e212e20ce23456501644534424314418e5 [a,b,d] h [cl5 (J5 K),El (Ap9 K)] [cu0 (Bq (Dh [(0,1),(1,1),(2,1),(3,1),(4,1),(5,1),(6,32)]) (List.replicate 6 (.int .i64 0)++List.replicate 32 (.int .u8 0)) [])]).F
def Aj4:R:=(.mk:Sg 0x129a3104075ea1204e2a18e60007e00e312e375e018e06e20ce2420121ee54514e304075e05e299e9 [a] h [El (Atq K),K7 (Aqa K)] [cu0 (Bq (Dh [(0,1),(1,1),(2,1),(3,1),(4,1),(5,1),(6,32)]) (List.replicate 6 (.int .i64 0)++List.replicate 32 (.int .u8 0)) [])] [List.replicate 6 (.int .i64 0)++List.replicate 32 (.int .u8 0)]).F
def X8:Ru K (Ru r (Ru c R)):=(.mk:Sg 0x110e0023e31204e2312e60007e [a] h [] [cu0 (Bq (Nb 1) (List.replicate 32 (.int .u8 0)) [])]).F
def Lz:Ru K (Ru r (Ru c R)):=
 K3 f fun g=>
 k5 a b d e g h
def Qk:R:=(.mk:Sg 0x1985435008023e61204e2612e6612e500e28a909e [a,b,d,e,f,g,i,j,n] h [cl5 (Lz c r K k5)]).F
def Ql:R:=(.mk:Sg 0x120404e03e3202e01e00e9102505e04e4303e02e01e91000315e802e04e4d423e112e06e421ae20ce246940120de1051219e20de0031219e565226e0206e652007e [a,b,d,e,f] h [c 66,cl9 (Qk c r K k5)] [cu2 (fun e f=>Awy 2 2 true 2 e f)] [[.int .i64 0,.int .i64 0],List.replicate 32 (.int .u8 0)]).F
def C8(c:Ai)(r:Ai)(K:Nat):Nat->A5
 | 0=>fun _ _ _ _ _ _=>none
 | m+1=>fun a b d e f h=>
  cE Ky .lss 3 f (.int .i64 2)
  (Ql c r K (C8 c r K m) a b d e f h)
  (X8 c r K d h)
def X1:R:=(.mk:Sg 0x1002ba9500252207e232107e714624232007e424314 [a,b,d] h [cl5 (C8 c r K K)] [cu2 (fun e f=>Bq (Nb 1) [.int .i64 0,.int .i64 0] [(0,e),(1,f)]),cu2 (fun i j=>Bq (Nb 1) [.int .i64 0,.int .i64 0] [(0,i),(1,j)]),cu2 (fun g n=>Bq (Nb 2) [.int .i64 0,.int .i64 0,.int .i64 0,.int .i64 0] [(0,g),(1,n)])]).F
def Adk:R:=(.mk:Sg 0x156731000e0023e61204e2612e60007e01e2820fe25201365023e05e321e9 [a,b] h [El (Kr K),K7 (X1 c r K)] [cu0 (Bq (Nb 1) (List.replicate 32 (.int .u8 0)) [])] [List.replicate 32 (.int .u8 0)]).F
def Pd:Ru K (Ru r R):=(.mk:Sg 0x1765435100ee0021e81204e28660007e01e0ee0215e701e72201 [a,b,d,e,f,g] h [c 134,cl5 k5] [cu0 (Bq (Dh [(0,1),(1,1),(2,1),(3,1),(4,1),(5,1)]) [.int .i64 0,.int .i64 0,.int .i64 0,.int .i64 0,.int .i64 0,.int .i64 0] [])]).F
def V8:R:=(.mk:Sg 0x1876543600ba987660032165fdec20ae3fde307e283701e2fce3 [a,b,d,e,f,g] h [cl6 (Pd c r K k5)]).F
def Wc:R:=(.mk:Sg 0x13a98766203021eb1204e2b660307e00e0ee0215e701e00021e0be1204e20be66565321605efdec20ae03efde3326627fffff6f09e17e021e05e08e18e203e89a5207e21107e24217e0005f05e721007e00e614e2f2e52e0004f02eb97c87003fbfde11e762e7fce11e673fbe11e0ee4ee00215e701e20ce5423401518e5 [a,b,d,e,f] h [c 148,El (Np K),cl6 (V8 c r K k5)] [cu1 (fun w=>Ps 32 1 w none none none),cu1 (fun y=>R6 .i64 y),cu5 (fun o p q d z=>Bq (Dh [(0,1),(1,1),(2,1),(3,1),(4,1),(5,1)]) [.int .i64 0,.int .i64 0,.int .i64 0,.int .i64 0,.int .i64 0,.int .i64 0] [(0,.int .i64 1),(1,o),(2,p),(3,q),(4,d),(5,z)]),cu0 (Bq (Dh [(0,1),(1,1),(2,1),(3,1),(4,1),(5,1)]) [.int .i64 0,.int .i64 0,.int .i64 0,.int .i64 0,.int .i64 0,.int .i64 0] [])] [[.int .i64 0,.int .i64 0,.int .i64 0,.int .i64 0,.int .i64 0,.int .i64 0]]).F
def F3(c:Ai)(r:Ai)(K:Nat):Nat->A5
 | 0=>fun _ _ _ _ _ _=>none
 | m+1=>fun a b d e f h=>
  Ap (c 147 [a] h) fun g h=>
  A6q g
  (Bq (Dh [(0,1),(1,1),(2,1),(3,1),(4,1),(5,1)]) [(.int .i64 0),(.int .i64 0),(.int .i64 0),(.int .i64 0),(.int .i64 0),(.int .i64 0)] [] fun i=>
  stE 6 f i h fun h=>
  It TT [.c f 47,.v g] h)
  (Wc c r K (F3 c r K m) a b d e f h)
def Xi:R:=
 F3 c r K K a b d e f h
def Aca:R:=(.mk:Sg 0x178cb95104021e81204e28660007e00e312e399e123e06e20ce8700002501318e5021e05e375e9 [a,b,d,e] h [cl5 (J5 K),cl5 (Xi c r K)] [cu0 (Bq (Dh [(0,1),(1,1),(2,1),(3,1),(4,1),(5,1)]) [.int .i64 0,.int .i64 0,.int .i64 0,.int .i64 0,.int .i64 0,.int .i64 0] [])] [[.int .i64 0,.int .i64 0,.int .i64 0,.int .i64 0,.int .i64 0,.int .i64 0],List.replicate 5 (.int .i64 0)++List.replicate 44 (.int .u8 0)]).F
def Mp:Ru K (Ru r (Ru c R)):=
 some (a,h)
def Mr:R:=(.mk:Sg 0x131000ae02328430be [a,b,d] h [Es (Mp c r K)]).F
def Aay:R:=(.mk:Sg 0x120233102453102525e8fde3c2a00215e702e20ce2533031e67532e5505b273011e0ee [a,b,d] h [c 187,K7 (Mr c r K)]).F
def Zv:R:=(.mk:Sg 0x12a9310322312e4232e622ff3fa17e010e05e918e20ce232011e57623e5604b2f2e5273b27c0ee [a,b,d] h [El (Wn K),K7 (Aay c r K)] [] [List.replicate 64 (.int .u8 0)]).F
def Agf:R:=(.mk:Sg 0x12ca310322312e4223e6217ff4fd17e099e05ec18e20ceba28350f1e8750ee5fde11e318e5300b0ee72162514e375e9 [a,b,d,e,f,g] h [cl5 (J5 K),K7 (Zv c r K)] [] [List.replicate 5 (.int .i64 0)++List.replicate 44 (.int .u8 0)]).F
def Ale:Ru K (Ru r (Ru c R)):=(.mk:Sg 0x1002200e [a] h).F
def Alf:Ru K (Ru r (Ru c R)):=
 K3 f fun g=>
 k5 a b d e g h
def Ak1:R:=
 Ox 64 d h fun i=>
 Ap (Bx (List.replicate 64 (.int .u8 0)) 30 64 1 [(0,i)] h) fun j h=>
 Ap (D9 30 64 b j h) fun n h=>
 Alf c r K k5 a n e f g h
def Ak0:R:=(.mk:Sg 0x101e00ed2cb6103b0200e5312e310e132e06e20ce23201323e55f2e5299e023e06e223e56423e15e [a,b,d,e,f] h [El (Wn K),cl6 (Ak1 c r K k5)] [] [List.replicate 5 (.int .i64 0)++List.replicate 44 (.int .u8 0),List.replicate 64 (.int .u8 0)]).F
def P0(c:Ai)(r:Ai)(K:Nat):Nat->A5
 | 0=>fun _ _ _ _ _ _=>none
 | m+1=>fun a b d e f h=>
  cE Ky .lss 3 f e
  (Ak0 c r K (P0 c r K m) a b d e f h)
  (Ale c r K b h)
def Ali:R:=(.mk:Sg 0x10024b03500313e [a,b] h [cl5 (P0 c r K K)]).F
def Ata:R:=(.mk:Sg 0x1372102b0200e5212e20ce72201245492e9252e9 [a,b,d] h [c 212,El (Ali c r K)]).F
def Gd:Ru r (Ru c R):=(.mk:Sg 0x12224534010007e [a,b,d] h [Vp (Anu K)] [cu0 (Bq (Dh [(0,1),(1,1),(2,1)]) [.int .i64 0,.int .i64 0,.int .i64 0] [(1,.int .i64 1),(2,.int .i64 1)])]).F
def L9:Ru K (Ru r (Ru c R)):=
 K3 f fun g=>
 k5 a b d e g h
def Ta:R:=(.mk:Sg 0x187654530a987653092221411103e2820fe64201 [a,b,d,e,f] h [c 55,Es (Ci K),c 56,cl5 (L9 c r K k5)]).F
def D4(c:Ai)(r:Ai)(K:Nat):Nat->A5
 | 0=>fun _ _ _ _ _ _=>none
 | m+1=>fun a b d e f h=>
  cE Ky .lss 3 f e
  (Ta c r K (D4 c r K m) a b d e f h)
  (Gd c r K a b d h)
def Ma:R:=(.mk:Sg 0x10027655102101265 [a,b,d,e] h [Es (Dn K),cl5 (D4 c r K K)]).F
def Tc:Ru K (Ru r (Ru c R)):=
 K3 f fun g=>
 k5 a b d e g h
def Tb:R:=(.mk:Sg 0x1cba9851025ba40120ae291fe414271fe214 [a,b,d,e,f] h [Vp (Rx K),cl5 (Tc c r K k5)]).F
def Da(c:Ai)(r:Ai)(K:Nat):Nat->A5
 | 0=>fun _ _ _ _ _ _=>none
 | m+1=>fun a b d e f h=>
  cE Ky .lss 3 f (.int .i64 3)
  (Tb c r K (Da c r K m) a b d e f h)
  (Ma c r K a b d e h)
def Lr:R:=
 Ap (Anf K b h) fun e h=>
 Da c r K K a b d e (.int .i64 0) h
def Sa:R:=(.mk:Sg 0x15433007023286509e [a,b,d,e,f] h [K7 (Lr c r K)]).F
def Sf:R:=(.mk:Sg 0x120248c5302359d53000315e802e00e2d00615e802e20ce212176520ce2353173700027265201b0ee [a,b] h [cl0 (A4n K),K7 (Aeg K),Es (Amz K),cl5 (Sa c r K)]).F
def Si:R:=(.mk:Sg 0x1392207023212e20ce2343131e67502e5510e443210e210117265200b0ee [a] h [Es (Dn K),K7 (An8 K),El (Sf c r K)]).F
def Hm:R:=(.mk:Sg 0x131007023284309e [a,b,d] h [Es (Si c r K)]).F
def Vr:R:=(.mk:Sg 0x1202531026931015e0222e231fe61450405e2d20fe2101265209e9 [a] h [Es (Hu K),K7 (Hm c r K)]).F
abbrev Nq(K:Nat)(c:Ai):Ai:=(w1 48 (Hu K) (w4 57 (Anu K) (w1 22 (Ci K) (w1 24 (Dn K) (w4 54 (Rx K) (w1 53 (Anf K) (w0 51 (A4n K) (w3 50 (Aeg K) (w1 52 (Amz K) (w3 49 (An8 K) c))))))))))
def K5:Ru K (Ru r (Ru c R)):=(.mk:Sg 0x10005023e31304e2312e6312e5 [a,b,d] h).F
def Xd:R:=(.mk:Sg 0x143230010e0000023e31304e2312e60007e04e0053701e [a,b,d,e] h [K7 (K5 c r K)] [cu0 (Bq (Nb 1) (List.replicate 32 (.int .u8 0)) [])]).F
def Hs:Ru K (Ru r (Ru c R)):=
 K3 j fun n=>
 k8 a b d e f g i n h
def Xt:R:=(.mk:Sg 0x103e02e6cba9881004e03e72cba9810c0aed2820fe2620120de00a1219e80ae2612e6912e5 [a,b,d,e,f,g,i,j,n,o] h [El (Ej K),cl8 (Hs c r K k8)]).F
def Vz:R:=
 An0 n fun q=>
 ifE q
 (Hs c r K k8 a b d e f g o p h)
 (Xt c r K k8 a b d e f g i j o p h)
def O8:R:=(.mk:Sg 0x107e06e42c05e04e03e02e01e00eb104000023e03e1304e203e12e60107e03e312e423e112e06e421ae20ce246940120de1051219e20de0031219e565226e0206e982007e [a,b,d,e,f,g,i,j] h [c 66,Bol (Vz c r K k8)] [cu2 (fun i j=>Awy 2 2 true 2 i j),cu0 (Bq (Nb 1) (List.replicate 32 (.int .u8 0)) [])] [[.int .i64 0,.int .i64 0],List.replicate 32 (.int .u8 0)]).F
def Cx(c:Ai)(r:Ai)(K:Nat):Nat->A8
 | 0=>fun _ _ _ _ _ _ _ _ _=>none
 | m+1=>fun a b d e f g i j h=>
  cE Ky .lss 3 j (.int .i64 2)
  (O8 c r K (Cx c r K m) a b d e f g i j h)
  (Xd c r K d e f g h)
def Xs:R:=(.mk:Sg 0x100200009cba800252207e232107e814724232007e524414023e05e [a,b,d] h [cl8 (Cx c r K K)] [cu2 (fun f g=>Bq (Nb 1) [.int .i64 0,.int .i64 0] [(0,f),(1,g)]),cu2 (fun j n=>Bq (Nb 1) [.int .i64 0,.int .i64 0] [(0,j),(1,n)]),cu2 (fun i o=>Bq (Nb 2) [.int .i64 0,.int .i64 0,.int .i64 0,.int .i64 0] [(0,i),(1,o)])] [List.replicate 32 (.int .u8 0)]).F
def Aby:R:=(.mk:Sg 0x156731000e0000023e61304e2612e60007e04e2820fe25201365023e05e321e9 [a,b] h [El (Kr K),K7 (Xs c r K)] [cu0 (Bq (Nb 1) (List.replicate 32 (.int .u8 0)) [])] [List.replicate 32 (.int .u8 0)]).F
def Ahb:Ru K (Ru r (Ru c R)):=(.mk:Sg 0x1002 [] h).F
def Aga:Ru K (Ru r (Ru c R)):=
 K3 e fun f=>
 k4 a b d f h
def Afk:R:=(.mk:Sg 0x187654102733010007e223 [a,b,d,e] h [K7 (M0 K),Vp (Aga c r K k4)] [cu0 (Bq (Dh [(0,1),(1,1),(2,1),(3,1),(4,1),(5,1)]) [.int .i64 0,.int .i64 0,.int .i64 0,.int .i64 0,.int .i64 0,.int .i64 0] [])]).F
def Mj(c:Ai)(r:Ai)(K:Nat):Nat->A4
 | 0=>fun _ _ _ _ _=>none
 | m+1=>fun a b d e h=>
  Baq b d fun f=>
  cE Ky .lss 3 e f
  (Afk c r K (Mj c r K m) a b d e h)
  (Ahb c r K h)
def Ags:R:=
 Mj c r K K a b d b h
def Afp:R:=(.mk:Sg 0x1ba9310322312e321e0606e20ce252016523007e22423c [a,b,d] h [c 78,K7 (Ags c r K)] [cu3 (fun f b d=>Bq (Dh [(0,1),(1,1),(2,1),(3,1),(4,1),(5,1),(6,32)]) (List.replicate 6 (.int .i64 0)++List.replicate 32 (.int .u8 0)) [(0,.int .i64 2),(1,f),(2,.int .i64 1),(3,b),(4,d)])] [[.int .i64 0,.int .i64 0,.int .i64 0,.int .i64 0,.int .i64 0,.int .i64 0]]).F
def Agd:R:=(.mk:Sg 0x1543310222212e2101 [a,b,d] h [c 77,K7 (Afp c r K)]).F
def Ni:R:=(.mk:Sg 0x154330003e023286509e [a,b,d,e,f] h [K7 (Agd c r K)]).F
def Rb:R:=(.mk:Sg 0x120254351027a985102922e721ee21007e21013030be2d6509e [a,b,d,e,f] h [Es (Ca K),cl5 (Ni c r K)] [cu1 (fun j=>Ahq 3 false 0 j)]).F
def Amu:R:=(.mk:Sg 0x12026545102376551010620ec2d20fe32201 [a,b,d] h [El (Ub K),cl5 (Rb c r K)]).F
def Ur:Ru K (Ru r (Ru c R)):=(.mk:Sg 0x1002 [] h).F
def Ae5:Ru K (Ru r (Ru c R)):=
 K3 f fun g=>
 k5 a b d e g h
def Ae0:R:=(.mk:Sg 0x100edcba510245303ff3fa726521c03f9bb8615e302e5010e573211e0ee246e013e06e213e56413e15e [a,b,d,e,f] h [K7 (M0 K),cl5 (Ae5 c r K k5)] [] [[.int .i64 0]++List.replicate 32 (.int .u8 0)]).F
def Iu(c:Ai)(r:Ai)(K:Nat):Nat->A5
 | 0=>fun _ _ _ _ _ _=>none
 | m+1=>fun a b d e f h=>
  cE Ky .lss 3 f e
  (Ae0 c r K (Iu c r K m) a b d e f h)
  (Ur c r K h)
def Up:R:=
 H5 b fun e=>
 Iu c r K K a d b e (.int .i64 0) h
def Adl:Ru K (Ru r (Ru c R)):=
 K3 i fun j=>
 k7 a b d e f g j h
def Aek:R:=(.mk:Sg 0x1cba2765720272112101665 [a,b,d,e,f,g,i,j] h [Es (fun n=>Bx [.int .i64 0,.int .i64 0,.int .i64 0,.int .i64 0,.int .i64 0,.int .i64 0] 47 6 1 [(0,n)]),El (D9 47 6),cl7 (Adl c r K k7)]).F
def Ad4:R:=(.mk:Sg 0x106e05e04e203e02e01e00e810322312e321e1606e20ce2a201245b4007e212e54114e304613e246e013e06e213e58613e15e [a,b,d,e,f,g,i] h [c 78,cl8 (Aek c r K k7)] [cu4 (fun d p q u=>Bq (Dh [(0,1),(1,1),(2,1),(3,1),(4,1),(5,1),(6,32)]) (List.replicate 6 (.int .i64 0)++List.replicate 32 (.int .u8 0)) [(0,.int .i64 1),(1,d),(2,p),(3,q),(6,u)])] [[.int .i64 0]++List.replicate 32 (.int .u8 0),[.int .i64 0,.int .i64 0,.int .i64 0,.int .i64 0,.int .i64 0,.int .i64 0]]).F
def Hz(c:Ai)(r:Ai)(K:Nat):Nat->A7
 | 0=>fun _ _ _ _ _ _ _ _=>none
 | m+1=>fun a b d e f g i h=>
  cE Ky .lss 3 i g
  (Ad4 c r K (Hz c r K m) a b d e f g i h)
  (Up c r K a b e h)
def Ac2:R:=(.mk:Sg 0x10026b0365700513e22423c [a,b] h [cl7 (Hz c r K K)]).F
def Ab0:R:=(.mk:Sg 0x143210222212e2101 [a,b] h [c 77,El (Ac2 c r K)]).F
def Alk:R:=(.mk:Sg 0x15421003e0232820fe32201 [a,b] h [El (Xo K),El (Ab0 c r K)]).F
abbrev W7(K:Nat)(c:Ai):Ai:=(w2 85 (Xo K) (w3 79 (M0 K) c))
def X3:Ru K (Ru r (Ru c R)):=(.mk:Sg 0x100050023e41304e2412e6212e53614e [a,b] h).F
def Gn(c:Ai)(r:Ai)(K:Nat)(base:Nat)(s:DX)(a:EV)(b:EV)(d:EV)(e:EV)(h:Aa):R:=
 pkO d e fun f=>
 ifE f
 (Bq (Nb 1) (List.replicate 32 (.int .u8 0)) [] fun g=>
 stE 32 a g h fun h=>
 It TT [.c a 49,.v (.bool false),.v (.int .i64 0)] h)
 (X3 c r K a b h)
def Ii:R:=
 pkO f g fun i=>
 wfE i
 (noE 7 a fun j=>
 Ov 12 4095 base j s fun s=>Ox 256 j h fun n=>
 Aht 6 e fun o=>
 Ps 32 1 o none none none fun p=>
 L6 15 32767 s h (fun h=>(Np K n p h)) fun q h s=>
 R6 .i64 q fun t=>
 olE 5 18 131583 base b s h fun s u=>
 Ayf t u fun w=>
 Gn c r K base s d e i w h)
 (Gn c r K base s d e i tU h)
def Yh:R:=
 Ox 49 f h fun g=>
 Ap (Aj4 K g h) fun i h=>
 x2E i fun j n=>
 nsE 38 (List.replicate 6 (.int .i64 0)++List.replicate 32 (.int .u8 0)) 131 j h fun o h=>
 Aaa h fun base s=>
 Kk Ajg (bin TT .neq 35) n (.int .i64 0) fun p=>
 wfE p
 (olE 5 4 15 base o s h fun s q=>
 Ayf q b fun t=>
 Ii c r K base s a d e o p t h)
 (Ii c r K base s a d e o p tU h)
def Ie:R:=(.mk:Sg 0x17654350000040023e71304e2712e60007e04e288709e [a,b,d,e,f,g,i] h [cl5 (Yh c r K)] [cu0 (Bq (Nb 1) (List.replicate 32 (.int .u8 0)) [])]).F
def Ig:R:=(.mk:Sg 0x12027654370025a98767002325e64474405e2d8709e [a,b,d,e,f,g,i] h [cl7 (Ie c r K)]).F
def Yf:R:=(.mk:Sg 0x1202301e00edb71024503e02e01ed71030224e30403e2d00315e802e4223e6217ff4fd17e099e05ec18e20ce273440f1e87832e7310e932e5904b2f2e5273b27c0ee [a,b,d,e,f,g] h [Vp (As0 K),cl7 (Ig c r K)] [] [List.replicate 5 (.int .i64 0)++List.replicate 44 (.int .u8 0)]).F
def Aeq:R:=(.mk:Sg 0x100040023e91304e2912e60007e2040023ea1304e3a12e6db2210007e08e0ce0315e701e4040023e91304e2912e60007e03e0ee0315e701e289dca610900315e701e4232e62bff3fc17e110e05eb18e20ce2833071e77412e6310e473011e0ee023e05e321e9 [a,b,d,e] h [c 106,cl6 (Yf c r K),c 107] [cu0 (Bq (Nb 1) (List.replicate 32 (.int .u8 0)) [])] [List.replicate 32 (.int .u8 0),List.replicate 64 (.int .u8 0)]).F
def Agy:Ru r (Ru c R):=(.mk:Sg 0x1222533031e67565505b273211e0ee [a,b,d] h [K7 (M0 K)]).F
def Ahm:R:=(.mk:Sg 0x12ba310322312e426622fff4f00e17e021e05ed18e20ce26201ff3f972633007e612e5607b210e5210e23c0ee [a,b,d] h [c 78,K7 (Agy c r K)] [cu3 (fun f b g=>Bq (Dh [(0,1),(1,1),(2,1),(3,1),(4,1),(5,1),(6,32)]) (List.replicate 6 (.int .i64 0)++List.replicate 32 (.int .u8 0)) [(0,.int .i64 3),(1,f),(2,.int .i64 1),(3,b),(6,g)])] [[.int .i64 0,.int .i64 0,.int .i64 0,.int .i64 0,.int .i64 0,.int .i64 0]]).F
def Vv:R:=(.mk:Sg 0x132222b33210007e82300e10e0315e701e298310600315e701e4212e622ff3fa17e023e05e918e20ce232011e57565504b273011e0ee [a,b,d] h [c 112,K7 (Ahm c r K),K7 (M0 K)] [cu0 (Bq (Dh [(0,1),(1,1),(2,1),(3,1),(4,1),(5,1)]) [.int .i64 0,.int .i64 0,.int .i64 0,.int .i64 0,.int .i64 0,.int .i64 0] [(0,.int .i64 2)])] [List.replicate 32 (.int .u8 0)]).F
def Aea:R:=(.mk:Sg 0x139831000231023801e204321e0606e20ce42201223 [a,b] h [El (K4 K),K7 (Vv c r K)] [] [[.int .i64 0,.int .i64 0,.int .i64 0,.int .i64 0,.int .i64 0,.int .i64 0]]).F
end
variable{d:Nat}(H:Bv disp)
include H
theorem Asz(hd:2<=d):S3 disp K d 144 Aqc:=fun _ _ _=>rd rfl rfl H (V1 (Air H) hd<|rfl)
theorem An7(hd:2<=d){l:Nat}(tm:Az)(h:Aa)(k:EV)(m:EV){st:LoopState}{p:Option Code}{d0:Nat}(v:h.get l=some (.loop st p 144 31 tm [8,9] (E4 TT 144 0).2.2.1 (E4 TT 144 0).2.2.2 d0)):
 Ag TT disp K (d+1) true l [k,m] h=Aip (Ag TT disp K d false) (Ag TT disp K d true) K l (tmp tm 2) (tmp tm 3) k m h:=rr rfl rfl (rfl) v rfl (by kernel_rfl)
theorem Ajy(hd:3<=d):R3 disp K d 213 (Pn K):=fun _ _ _=>rl H hd fun d hd=>V2 (Lv H) hd<|V2 (Vj H) hd<|V1 (Hj H) hd<|V1 (Aka H) hd<|rfl
theorem A4k(hd:3<=d):R2 disp K d 236 (Asj K):=fun _ _=>rl H hd fun d hd=>V3 (Nd H) hd<|rfl
theorem Aoh(hd:2<=d):S1 disp K d 98 Ajd:=fun _=>rd rfl rfl H (V1 (Als H) hd<|rfl)
theorem Q5(hd:3<=d):R2 disp K d 110 (Np K):=fun _ _=>rl H hd fun d hd=>V3 (Aqv H) hd<|rfl
theorem Amv(hd:4<=d):S3 disp K d 132 Ain:=fun _ _ _=>ld rfl rfl H (V2 (Al7 H) hd<|rfl) 5 (fun c r=>e3 (N0 c r K) 0 1 5)
theorem Alu(hd:2<=d):S2 disp K d 145 Ag7:=fun _ _=>ld rfl rfl H (V1 (Ana H) hd<|rfl) 5 (fun c r=>e4 (Jo c r K) 0 6 7 8)
theorem Aig(hd:4<=d):S1 disp K d 147 Ab7:=fun _=>rd rfl rfl H (V1 (Ar1 H) hd<|rfl)
theorem Aly(hd:2<=d):S2 disp K d 155 Ag3:=fun _ _=>rd rfl rfl H (V3 (Aoi H) hd<|V1 (Al6 H) hd<|rfl)
theorem Aqp(hd:4<=d):R2 disp K d 167 (Wu K):=fun _ _=>ll H hd (fun d hd=>V2 (Q5 H) hd<|rfl) 207 (e6 (Ms K) 1 6 7 22 23 24)
theorem Zy(hd:4<=d):R1 disp K d 173 (Og K):=fun _=>rl H hd fun d hd=>V1 (Alz H) hd<|V3 (Nd H) hd<|V2 (Acq H) hd<|V1 (Vx H) hd<|rfl
theorem Aln(hd:3<=d):S3 disp K d 187 Afu:=fun _ _ _=>rd rfl rfl H (V3 (Ajy H) hd<|rfl)
theorem Ama(hd:3<=d):S2 disp K d 189 Ag5:=fun _ _=>rd rfl rfl H (V2 (Ajq H) hd<|rfl)
theorem Arq(hd:4<=d):R2 disp K d 220 (W9 K):=fun _ _=>rl H hd fun d hd=>V2 (Q5 H) hd<|rfl
theorem Az5(hd:4<=d):R2 disp K d 227 (Aow K):=fun _ _=>ll H hd (fun d hd=>V3 (Nd H) hd<|V1 (Aql H) hd<|V2 (La H) hd<|V2 (A4k H) hd<|rfl) 103 (e5 (Xc K) 1 2 4 5 14)
theorem A2o(hd:4<=d):R1 disp K d 52 (Amz K):=fun _=>rl H hd fun d hd=>V1 (Ts H) hd<|V1 (Fl H) hd<|rfl
theorem Aag(hd:5<=d):R2 disp K d 105 (Ix K):=fun _ _=>rl H hd fun d hd=>V2 (Fu H) hd<|V3 (Ach H) hd<|rfl
theorem Apq(hd:3<=d):S3 disp K d 106 Alb:=fun _ _ _=>rd rfl rfl H (V3 (An1 H) hd<|rfl)
theorem Anh(hd:3<=d):S2 disp K d 133 Aii:=fun _ _=>rd rfl rfl H (V2 (Al9 H) hd<|V3 (Alx H) hd<|rfl)
theorem Auz(hd:5<=d):R2 disp K d 140 (Ac9 K):=fun _ _=>rl H hd fun d hd=>V2 (Aqp H) hd<|V1 (Amc H) hd<|V1 (Apv H) hd<|V2 (Aa3 H) hd<|V2 (We H) hd<|V1 (Qj H) hd<|rfl
theorem A3a(hd:5<=d):R2 disp K d 141 (Atq K):=fun _ _=>rl H hd fun d hd=>V1 (Apv H) hd<|V2 (Aa3 H) hd<|V2 (We H) hd<|V1 (Zy H) hd<|rfl
theorem Qq(hd:5<=d):R5 disp K d 142 (J5 K):=fun _ _ _ _ _=>rl H hd fun d hd=>V1 (Zy H) hd<|V1 (Qj H) hd<|rfl
theorem Aim(hd:5<=d):R2 disp K d 203 (Wn K):=fun _ _=>rl H hd fun d hd=>V1 (Qj H) hd<|V2 (Arq H) hd<|V3 (Nd H) hd<|V2 (Acq H) hd<|V1 (Vx H) hd<|rfl
theorem Aw0(hd:4<=d):S2 disp K d 212 Ava:=fun _ _=>ld rfl rfl H (V1 (Wx H) hd<|V3 (Ach H) hd<|V2 (Az5 H) hd<|V1 (Acg H) hd<|V1 (Azv H) hd<|rfl) 207 (fun c r=>e4 (Ro c r K) 2 6 7 8)
theorem Vd(hd:6<=d):R2 disp K d 65 (Kr K):=fun _ _=>rl H hd fun d hd=>V2 (Aag H) hd<|rfl
theorem Yz(hd:6<=d):R3 disp K d 79 (M0 K):=fun _ _ _=>rl H hd fun d hd=>V2 (La H) hd<|V2 (Aag H) hd<|V3 (Aqo H) hd<|rfl
theorem A2h(hd:6<=d):R4 disp K d 108 (As0 K):=fun _ _ _ _=>rl H hd fun d hd=>V2 (Auz H) hd<|rfl
theorem Azg(hd:6<=d):R1 disp K d 109 (Aj4 K):=fun _=>rl H hd fun d hd=>V2 (A3a H) hd<|V5 (Qq H) hd<|rfl
theorem Aj3(hd:6<=d):S2 disp K d 112 Adk:=fun _ _=>ld rfl rfl H (V2 (Vd H) hd<|rfl) 51 (fun c r=>e5 (C8 c r K) 0 3 4 26 27)
theorem Ail(hd:5<=d):S4 disp K d 115 Aca:=fun _ _ _ _=>ld rfl rfl H (V5 (Qq H) hd<|V2 (Q5 H) hd<|rfl) 11 (fun c r=>e5 (F3 c r K) 0 2 3 5 8)
theorem Al2(hd:5<=d):S6 disp K d 177 Agf:=fun _ _ _ _ _ _=>rd rfl rfl H (V5 (Qq H) hd<|V2 (Aim H) hd<|rfl)
theorem Aud(hd:5<=d):S3 disp K d 184 Ata:=fun _ _ _=>ld rfl rfl H (V2 (Aim H) hd<|rfl) 207 (fun c r=>e5 (P0 c r K) 3 10 24 25 26)
omit H in
theorem Ada(c r:Ai)(K:Nat)(m:Nat):lpB false (Nq K c) c r K 12 6655 [(2,fun k tm h ds=>Gd c r K (k 5) (k 7) (k 9) h)] m=(fun m k tm h ds=>D4 c r K m (k 5) (k 7) (k 9) (k 72) (k 73) h) m:=
 Uc (E:=fun m k tm h ds=>D4 c r K m (k 5) (k 7) (k 9) (k 72) (k 73) h) rfl (fun m=>A2r fun k tm h ds=>by kernel_rfl) m
omit H in
theorem Ade(c r:Ai)(K:Nat)(m:Nat):lpB false (Nq K c) c r K 12 3327 [(0,fun k tm h ds=>Ma c r K (k 1) (k 5) (k 7) (k 9) h)] m=(fun m k tm h ds=>Da c r K m (k 1) (k 5) (k 7) (k 9) (k 55) h) m:=
 Uc (E:=fun m k tm h ds=>Da c r K m (k 1) (k 5) (k 7) (k 9) (k 55) h) rfl (fun m=>A2r fun k tm h ds=>by kernel_rfl) m
theorem Aev(hd:5<=d):S1 disp K d 12 Vr:=fun _=>rm (q:=false) (D:=Nq K (Ag TT disp K d false)) (by kernel_rfl) rfl rfl H (V1 (Ad1 H) hd<|V4 (A24 H) hd<|V1 (F2 H) hd<|V1 (Fl H) hd<|V4 (Arx H) hd<|V1 (A35 H) hd<|V0 (A6y H) hd<|V3 (Ayr H) hd<|V1 (A2o H) hd<|V3 (A2l H) hd<|rfl) (cut [true,true,true,true,true,true,true,true,true,false,true,false] (Ada (Ag TT disp K d false) (Ag TT disp K d true) K K) (by kernel_rfl) (by kernel_rfl) (cut [true,true,true,true,true,true,true,true,false,true,false] (Ade (Ag TT disp K d false) (Ag TT disp K d true) K K) (by kernel_rfl) (by kernel_rfl) rfl))
theorem Aiy(hd:6<=d):S2 disp K d 18 Aby:=fun _ _=>ld rfl rfl H (V2 (Vd H) hd<|V2 (Gp H) hd<|rfl) 207 (fun c r=>e8 (Cx c r K) 0 3 4 7 8 9 30 31)
theorem Aqw(hd:6<=d):S3 disp K d 30 Amu:=fun _ _ _=>ld rfl rfl H (V2 (Af7 H) hd<|V3 (Yz H) hd<|V1 (Cy H) hd<|rfl) 207 (fun c r=>e4 (Mj c r K) 0 1 2 10)
omit H in
theorem Aop(c r:Ai)(K:Nat)(m:Nat):lpB false (W7 K c) c r K 45 831 [(2,fun k tm h ds=>Ur c r K h)] m=(fun m k tm h ds=>Iu c r K m (k 0) (k 7) (k 55) (k 56) (k 57) h) m:=
 Uc (E:=fun m k tm h ds=>Iu c r K m (k 0) (k 7) (k 55) (k 56) (k 57) h) rfl (fun m=>A2r fun k tm h ds=>by kernel_rfl) m
omit H in
theorem Al8(c r:Ai)(K:Nat)(m:Nat):lpB false (W7 K c) c r K 45 415 [(0,fun k tm h ds=>Up c r K (k 0) (k 1) (k 7) h)] m=(fun m k tm h ds=>Hz c r K m (k 0) (k 1) (k 6) (k 7) (k 28) (k 29) (k 30) h) m:=
 Uc (E:=fun m k tm h ds=>Hz c r K m (k 0) (k 1) (k 6) (k 7) (k 28) (k 29) (k 30) h) rfl (fun m=>A2r fun k tm h ds=>by kernel_rfl) m
theorem Apc(hd:6<=d):S2 disp K d 45 Alk:=fun _ _=>rm (q:=false) (D:=W7 K (Ag TT disp K d false)) (by kernel_rfl) rfl rfl H (V2 (Arf H) hd<|V3 (Yz H) hd<|rfl) (cut [true,true,true,true,true,true,false,true,false] (Aop (Ag TT disp K d false) (Ag TT disp K d true) K K) (by kernel_rfl) (by kernel_rfl) (cut [true,true,true,true,true,false,true,false] (Al8 (Ag TT disp K d false) (Ag TT disp K d true) K K) (by kernel_rfl) (by kernel_rfl) rfl))
theorem Ajp(hd:6<=d):S4 disp K d 66 Aeq:=fun _ _ _ _=>rd rfl rfl H (V2 (Q5 H) hd<|V1 (Azg H) hd<|V4 (A2h H) hd<|rfl)
theorem Adv(hd:6<=d):S2 disp K d 74 Aea:=fun _ _=>rd rfl rfl H (V2 (La H) hd<|V3 (Yz H) hd<|rfl)
end
end
section
noncomputable section
section
variable (c r:Ai)(K l:Nat)(k0:A0)(k1:A1)(k2:A2)(k3:A3)(k4:A4)(k5:A5)(k6:A6)(k7:A7)(k8:A8)(k9:A9)(k10:A10)(k11:A11)(k12:A12)(m0:B0)(m1:B1)(m2:B2)(m3:B3)(m4:B4)(m5:B5)(m6:B6)(m7:B7)(m8:B8)(m9:B9)(m10:B10)(m11:B11)(m12:B12)(base:Nat)(s:DX)(tm:Az)(a b d e f g i j n o p q t u w x y z aa ab ad ae af ag ai aj an ao ap aq au aw ax ay az ba bb bd be bf bg bi bj bn bo bp bq bt bu bw bx bz da db dd de df dg di dj dn dp dq dt du dw dx dy dz ea eb ed ee ef eg ei ej en eo ep eq et eu ew ex ey ez fa fb fd fe ff fg fi fj fn fo fp fq ft fu fw fx fy fz ga gb gd ge gf gg gi gj gn go gp gq gt gu gw gx gy gz ia ib ie ig ii ij io ip iq it iu iw ix iy iz ja jb:EV)(h:Aa)(ds:List Nat)
end
variable{d:Nat}
end
end
noncomputable section
section
variable (c r:Ai)(K l:Nat)(k0:A0)(k1:A1)(k2:A2)(k3:A3)(k4:A4)(k5:A5)(k6:A6)(k7:A7)(k8:A8)(k9:A9)(k10:A10)(k11:A11)(k12:A12)(m0:B0)(m1:B1)(m2:B2)(m3:B3)(m4:B4)(m5:B5)(m6:B6)(m7:B7)(m8:B8)(m9:B9)(m10:B10)(m11:B11)(m12:B12)(base:Nat)(s:DX)(tm:Az)(a b d e f g i j n o p q t u w x y z aa ab ad ae af ag ai aj an ao ap aq au aw ax ay az ba bb bd be bf bg bi bj bn bo bp bq bt bu bw bx bz da db dd de df dg di dj dn dp dq dt du dw dx dy dz ea eb ed ee ef eg ei ej en eo ep eq et eu ew ex ey ez fa fb fd fe ff fg fi fj fn fo fp fq ft fu fw fx fy fz ga gb gd ge gf gg gi gj gn go gp gq gt gu gw gx gy gz ia ib ie ig ii ij io ip iq it iu iw ix iy iz ja jb:EV)(h:Aa)(ds:List Nat)
def Oz:Ru K (Ru r (Ru c R)):=
 some ((.bool true),h)
def Er:Ru K (Ru r (Ru c R)):=
 K3 f fun g=>
 k5 a b d e g h
def Gj:R:=(.mk:Sg 0x1765435004023288709e [a,b,d,e,f,g,i] h [cl5 (Er c r K k5)]).F
def Gi:R:=(.mk:Sg 0x1207654327002876543700980bed7d [a,b,d,e,f,g,i,j] h [cl7 (Gj c r K k5)]).F
def Gh:R:=(.mk:Sg 0x120a987632800203e02e01e00eda98002737e802e2343007e82471420ae50453516eaa [a,b,d,e,f,g,i,j,n] h [cl8 (Gi c r K k5)] [cu3 (fun q t u=>Bq (Dh [(0,1),(1,1),(2,1)]) [.int .i64 0,.int .i64 0,.int .i64 0] [(0,q),(1,t),(2,u)])]).F
def Jl:R:=(.mk:Sg 0x1202a98764390024cba986590001224e50405e2dba0be [a,b,d,e,f,g,i,j,n,o] h [cl9 (Gh c r K k5)] [] [] [(.int .i64 6)]).F
def Jg:R:=(.mk:Sg 0x1202ba987654a002500edcba987a002337e802e8358350ae2a80224e404 [a,b,d,e,f,g,i,j] h [Bkv (Jl c r K k5)]).F
def Eo:R:=
 pkA n o fun p=>
 ifE p
 (some ((.bool false),h))
 (Jg c r K k5 a b d e f g i j h)
def Ep:R:=(.mk:Sg 0x1202a9876543a002b05e04e03e02e01e00edca002937e802e2673007e241de213e9349248147047351ee2aba0be [a,b,d,e,f,g,i,j,n,o] h [Bkv (Eo c r K k5)] [cu3 (fun t u z=>Bq (Dh [(0,1),(1,1),(2,1)]) [.int .i64 0,.int .i64 0,.int .i64 0] [(0,t),(1,u),(2,z)])]).F
def F9:R:=(.mk:Sg 0x1202ba986543a102500edcb9876a102923e210136509e2acb0be [a,b,d,e,f,g,i,j,n,o,p] h [Es (J2 K),Bkv (Ep c r K k5)]).F
def I7:R:=(.mk:Sg 0x1202dcba87654b002300edcb98765b0000915e702e06e2a10224e404 [a,b,d,e,f,g,i,j,n,o] h [Bol (F9 c r K k5)]).F
def Im:R:=
 pkA p q fun t=>
 ifE t
 (some ((.bool false),h))
 (I7 c r K k5 a b d e f g i j n o h)
def F7:R:=(.mk:Sg 0x120cba98765432c002dcba9876543c0000ed09e04eca [a,b,d,e,f,g,i,j,n,o,p,q,t] h [Bg6 (Im c r K k5)]).F
def I5:R:=
 wfE q
 (Kk Ajg (bin TT .neq 35) g (.int .i64 13) fun t=>
 F7 c r K k5 a b d e f g i j n o p q t h)
 (F7 c r K k5 a b d e f g i j n o p q tU h)
def Ip:R:=(.mk:Sg 0x1202cba9876543c002501e00edcba9876c002337e802e7359350ce2a00715e802e [a,b,d,e,f,g,i,j,n,o] h [Bg6 (I5 c r K k5)]).F
def Oh:R:=
 pkO p q fun t=>
 ifE t
 (some ((.bool false),h))
 (Ip c r K k5 a b d e f g i j n o h)
def Ou:R:=(.mk:Sg 0x1202cba9876543c002501e00edcba9876c002320e7049040ae2ddc09e [a,b,d,e,f,g,i,j,n,o,p,q] h [Bg6 (Oh c r K k5)]).F
def Of:R:=(.mk:Sg 0x120205e04e03e579c02e01e00ec502508e07e06e8ac01e05e04e03ec502320ed245240ae2d2325ea14214237e0306ea1019224193ae5213121215111237e0306e3101 [a,b,d,e,f,g] h [Es (Q2 K),Es (Sw K),Es (Ci K),Es (Gw K),c 13,Bg6 (Ou c r K k5)] [] [[.int .i64 0,.int .i64 0,.int .i64 0]]).F
def Oc:R:=(.mk:Sg 0x1a98376610a987650080123701e204214e03ae06e23ae5643ae15e [a,b,d,e,f] h [cl5 (Er c r K k5),cl6 (Of c r K k5)] [] [List.replicate 3 (.int .i64 0)++[.Ao]++List.replicate 4 (.int .i64 0)++List.replicate 64 (.int .u8 0)] [(.int .i64 9)]).F
def Dp(c:Ai)(r:Ai)(K:Nat):Nat->A5
 | 0=>fun _ _ _ _ _ _=>none
 | m+1=>fun a b d e f h=>
  cE Ky .lss 3 f e
  (Oc c r K (Dp c r K m) a b d e f h)
  (Oz c r K h)
def Oi:R:=
 H5 a fun e=>
 Dp c r K K b d a e (.int .i64 0) h
def F6:R:=(.mk:Sg 0x15433005023286509e [a,b,d,e,f] h [K7 (Oi c r K)]).F
def Ob:R:=(.mk:Sg 0x12023655102458751001222e513e00e2d7020ce702e2101365 [a,b] h [c 12,cl5 (F6 c r K)] [] [] [(.int .i64 60)]).F
def Lt:R:=(.mk:Sg 0x14621040232820fe001209e9 [a,b] h [c 11,El (Ob c r K)]).F
end
variable{d:Nat}(H:Bv disp)
include H
theorem Y4(hd:3<=d):S2 disp K d 7 Lt:=fun _ _=>ld rfl rfl H (V1 (Qp H) hd<|V1 (Alo H) hd<|V1 (Zw H) hd<|V1 (F2 H) hd<|V1 (Tk H) hd<|rfl) 207 (fun c r=>e5 (Dp c r K) 2 5 23 24 25)
end
end Go.Ev
