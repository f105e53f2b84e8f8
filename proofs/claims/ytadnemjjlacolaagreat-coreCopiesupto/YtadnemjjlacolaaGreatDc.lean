import Derived.Test.YtadnemjjlacolaaGreatDb
set_option linter.all false
namespace Go.Ev
open Go.Proofs
set_option maxRecDepth 100000
set_option maxHeartbeats 4000000
variable {disp:Nat->Option FT}
section
noncomputable section
section
variable (c r:Ah)(K l:Nat)(k0:A0)(k1:A1)(k2:A2)(k3:A3)(k4:A4)(k5:A5)(k6:A6)(k7:A7)(k8:A8)(k9:A9)(k10:A10)(k11:A11)(k12:A12)(m0:B0)(m1:B1)(m2:B2)(m3:B3)(m4:B4)(m5:B5)(m6:B6)(m7:B7)(m8:B8)(m9:B9)(m10:B10)(m11:B11)(m12:B12)(base:Nat)(s:DX)(tm:Ax)(a b d e f g i j n o p q t u w x y z aa ab ad ae af ag ai aj an ao ap aq au aw ax ay az ba bb bd be bf bg bi bj bn bo bp bq bt bu bw bx bz da db dd de df dg di dj dn dp dq dt du dw dx dy dz ea eb ed ee ef eg ei ej en eo ep eq et eu ew ex ey ez fa fb fd fe ff fg fi fj fn fo fp fq ft fu fw fx fy fz ga gb gd ge gf gg gi gj gn go gp gq gt gu gw gx gy gz ia ib ie ig ii ij io ip iq it iu iw ix iy iz ja jb:EV)(h:Ab)(ds:List Nat)
def Awh:Ru r R:=
 (fun(tm:Ax) (ds:List Nat)=>
 Wy 53 a h fun e h=>
 Fm b h fun f=>
 An (Tc K f h) fun g h=>
 Zk c TT 144 31 0 g (((tm.put 3 (some e)).put 6 (some f)).put 7 (some g)) h ds (fun h ds=>
 E1 ds h fun h=>some (.tuple [],h)) (fun id h ds=>
 Bf (Nat.beq 0 id) (E1 ds h fun h=>some (.tuple [],h)) (none)) (fun h ds=>
 E1 ds h fun h=>some (.tuple [],h))) (((Tr.nil.put 0 (some a)).put 1 (some b)).put 2 (some d)) []
def Kx:Ru K (Ru r (Ru c R)):=
 pkA a b fun d=>
 ifE d
 (Vh l false .done (some .ret) h)
 (Vh l true .ready none h)
def N4:R:=(.mk:Sg 0x12022102521020fe5220130de00e2a540be [a,b,d,e] h [D5 (fun g b=>Xq c r g [b]),D5 (Kx c r K l)]).F
def Oi:R:=(.mk:Sg 0x12043240025434006509ea4a [a,b,d,e,f] h [Zc (N4 c r K l)]).F
def S8:R:=(.mk:Sg 0x12076435002a9765002324e30de52402e7d [a,b,d,e,f,g] h [cl5 (Oi c r K l)]).F
def Af9:R:=(.mk:Sg 0x1202765460025a9876002324e50de71403e2a10224e504 [a,b,d,e] h [cl6 (S8 c r K l)]).F
def Ao4:R:=
 nsE 6 [(.int .i64 0),(.int .i64 0),(.int .i64 0),(.int .i64 0),(.int .i64 0),(.int .i64 0)] 47 e h fun f h=>
 Fs l h fun h=>Af9 c r K l a b d f h
def Vb:R:=(.mk:Sg 0x123200e20ce2320f1e87732e5707b20de231e6b42115e273011e0ee [a,b,d] h [D5 (Eh K)]).F
def Ox(K:Nat)(base:Nat)(s:DX)(a:EV)(b:EV)(d:EV)(e:EV)(f:EV)(h:Ab):R:=
 pkA e f fun g=>
 ifE g
 (some (.tuple [(.int .i64 0),(.int .i64 33)],h))
 (Vb K a b d h)
def Aed:R:=
 Adz h fun base s=>
 Ax8 0 3 7 base a s h fun s e=>
 Z8 1 e b fun f=>
 P8 6 63 base f s fun s=>Fm f h fun g=>
 L5 7 127 s h (fun h=>(Er K g h)) fun i h s=>
 Bcl i (.int .i64 0) fun j=>
 wtE j
 (L5 11 2047 s h (fun h=>(S9 K a h)) fun n h s=>
 Ax8 2 15 29695 base a s h fun s o=>
 Bc5 n o fun p=>
 Ox K base s a b d j p h)
 (Ox K base s a b d j tU h)
def To:R:=(.mk:Sg 0x1354310200200e5212e43201410e9 [a,b,d] h [D5 (Jk K),Lz (Aed K)]).F
def Ay2:R:=(.mk:Sg 0x1000e2c000e301c542c211a44210a301834230830162423063014142104301204321e9 [a,b] h [Lz (Ex K),D5 (fun a q=>Ex K a (.int .i64 6) q)]).F
def Aos:Ru r R:=(.mk:Sg 0x12221113032101 [a] h [c 129,Ey (Wo K)]).F
def Qi:R:=(.mk:Sg 0x12201250e403e42201252e9 [a,b] h [D5 (fun d b=>Akj K d (.int .u32 4294967295) b)] [] [] [(.int .u32 4294967295)]).F
def Avj:Ru K (Ru r R):=(.mk:Sg 0x16543100ee040200e60ee0215e701e62201203 [a,b,d,e] h [c 134,Lz k3]).F
def Aij:R:=(.mk:Sg 0x17654410540200ea2162114e622319e41c06e0ee0215e701e0050200e422623fff4f00e17ea22319e81c2a2007e21f83f9010e622319e41c0ee1be00215e701e623301445 [a,b,d,e] h [c 159,Zc (Avj c r K k3)] [cu2 (fun e n=>Bv (Ed [(0,1),(1,1)]) [.int .i64 0,.int .i64 0] [(0,e),(1,n)])]).F
def Q3(c:Ah)(r:Ah)(K:Nat):Nat->A3
 | 0=>fun _ _ _ _=>none
 | m+1=>fun a b d h=>
  An (Wi K a b h) fun e h=>
  cE An2 .eql 3 e (.int .i64 (-1))
  (some (.tuple [(.bool false),(.int .i64 0)],h))
  (Aij c r K (Q3 c r K m) a b d e h)
def Apn:R:=
 Wy 160 d h fun e h=>
 Q3 c r K K a b e h
def Afn:Ru K (Ru r (Ru c R)):=
 Iz e fun f=>
 k4 a b d f h
def Af1:R:=(.mk:Sg 0x18765410000e22820fe26330153116e [a,b,d,e] h [Lz (fun a e f=>Xq c r a [e,f]),Zc (Afn c r K k4)]).F
def Lx(c:Ah)(r:Ah)(K:Nat):Nat->A4
 | 0=>fun _ _ _ _ _=>none
 | m+1=>fun a b d e h=>
  cE Iq .lss 3 e d
  (Af1 c r K (Lx c r K m) a b d e h)
  (some (.tuple [],h))
def Amc:R:=(.mk:Sg 0x100235410213e210130de [a,b] h [Ey (Ys K),Zc (Lx c r K K)]).F
def Ab9:Ru K (Ru r (Ru c R)):=(.mk:Sg 0x1002002164fdec62163fcec42162fbec [a,b,d] h).F
def Acn:R:=(.mk:Sg 0x13473100fe023212e421ae20ce21012f9e3 [a] h [Ey (Acu K),Lz (Ab9 c r K)]).F
def Tk:R:=(.mk:Sg 0x14110222212e2101203 [a] h [c 98,Ey (Acn c r K)]).F
def Nx:R:=(.mk:Sg 0x13100002328430be [a,b,d] h [Ey (Tk c r K)]).F
def Ahg:R:=(.mk:Sg 0x120243002683002420e22451c4fde304e2a01225e2fbe3 [a] h [Lz (Nx c r K)] [] [] [(.int .i64 (-1))]).F
def Al5:Ru r R:=(.mk:Sg 0x1000e000e21419039c023701e000ec0233331e67902e5210e973011e0ee08e6023701e000e60233331e67902e5210e973011e0ee08e3023701e000e2a221836e5a1023701e714321623ff3fa17e72c242170e772101618e336e5305b300e4211e0ee312e9 [a,b] h [Ey (fun f=>Cd (List.replicate 4 (.int .i64 0)++List.replicate 64 (.int .u8 0)) 32 68 1 [(0,f)]),D5 (E0 32 68),c 180,Lz (Rc K),Ey (V9 K)]).F
def Amn:Ru K R:=(.mk:Sg 0x1002200e23211432007e001 [a,b] h [cl0 (Cd [.int .u8 0] 5 1 0 []),D5 (E0 5 1)] [cu2 (fun a b=>Ant 1 a none (some b) none)]).F
def Amo:Ru K R:=
 Iz g fun i=>
 k6 a b d e f i h
def Ame:R:=
 Ale (bin TT .shr 94) d (.int .u64 8) fun i=>
 Amo K k6 a b i e f g h
def Amu:R:=(.mk:Sg 0x198765460001e0b0200e6235801e51007e75116e [a,b,d,e,f,g] h [cl6 (Ame K k6)] [cu1 (fun d=>Xp .u8 d)]).F
def Pp(K:Nat):Nat->A6
 | 0=>fun _ _ _ _ _ _ _=>none
 | m+1=>fun a b d e f g h=>
  cE Iq .lss 3 g f
  (Amu K (Pp K m) a b d e f g h)
  (Amn K a b h)
def All:R:=(.mk:Sg 0x10023497610213e752107e232001e47532007e3f2e5300b0ee [a,b,d] h [D5 (Qi K),cl6 (Pp K K)] [cu2 (fun a d=>Ant 1 a none (some d) none),cu2 (fun a d=>Ant 1 a (some d) none none)]).F
def Ac0:R:=(.mk:Sg 0x124630004e0b0200e60023301ec021ee413e252e9 [a,b] h [Lz (All K)]).F
def Ah5:R:=(.mk:Sg 0x15097e09e1204e209e1ee609e1ee54224107e1107e20ce01e131200e22121007ed614e230b311b54230931194421073117342105311524232013140dbe05e [a,b,d] h [D5 (fun e f=>Ex K e (.int .i64 6) f),Lz (Ex K),D5 (T2 K),Ey (Qj K),builtin TT .copy #[173,173]] [cu1 (fun w=>Uk 32 1 w none none none),cu1 (fun d=>Uk 44 1 d none none none)] [[.Ao,.bool false]]).F
def Rz:R:=(.mk:Sg 0x156731000e0097e71204e271ee651ee501e2820fe2101418e5097e05e097e05e275e9 [a] h [Ey (Ww K),Lz (Ah5 K)] [] [List.replicate 44 (.int .u8 0)]).F
def Yf:Ru K (Ru r (Ru c R)):=
 some (.tuple [a,b],h)
def Am7:R:=(.mk:Sg 0x12323056230232214b2007e93304e00215e701e20ce2733131e67432e5405b473011e0ee43201410e9 [a,b,d] h [c 138,Lz (To K),builtin TT .delete #[140,227],D5 (Yf c r K)] [cu2 (fun b n=>Bv (Ed [(0,1),(1,1)]) [.int .i64 0,.int .i64 0] [(0,b),(1,n)])]).F
def Am0:Ru r R:=(.mk:Sg 0x1225221130332201 [a,b] h [c 138,D5 (Ti K)]).F
def Aby:R:=(.mk:Sg 0x1222a221246843121307e21950e603e21207e11750e603e21107e01550e603e41007e72221011522012f2e5252e9 [a,b] h [D5 (Qi K),cl0 (Cd [.int .u8 0] 5 1 0 []),D5 (E0 5 1),Zc (fun j o q u=>Cd [.int .u8 0] 5 1 4 [(0,j),(1,o),(2,q),(3,u)])] [cu1 (fun f=>Xp .u8 f),cu1 (fun n=>Xp .u8 n),cu1 (fun p=>Xp .u8 p),cu1 (fun t=>Xp .u8 t)] [] [(.int .u64 8),(.int .u64 16),(.int .u64 24)]).F
def Ayr:R:=(.mk:Sg 0x197e31104e231ee63101 [a,b] h [Ey (Apd K)]).F
def Ay5:Ru K R:=
 Iz f fun g=>
 k5 a b d e g h
def Ay9:R:=(.mk:Sg 0x102e01e00edc520200e211265321e0606e20ce25201921de2301fe1031ee334 [a,b,d,e,f] h [D5 (Gp K),D5 (Ay2 K),cl5 (Ay5 K k5)] [] [[.int .i64 0,.int .i64 0,.int .i64 0,.int .i64 0,.int .i64 0,.int .i64 0]]).F
def Abw(K:Nat):Nat->A5
 | 0=>fun _ _ _ _ _ _=>none
 | m+1=>fun a b d e f h=>
  cE Iq .lss 3 f (.int .i64 2)
  (Ay9 K (Abw K m) a b d e f h)
  (Ayr K d e h)
def Ava:R:=(.mk:Sg 0x100356851071023012dbe90007e097e05e292e9 [a,b] h [Lz (Ex K),cl5 (Abw K K)] [cu0 (Bv (Ed [(0,1),(1,1)]) [.Ao,.bool false] [])] [List.replicate 44 (.int .u8 0)]).F
def A2u:R:=(.mk:Sg 0x1002200e265e9818e2573007e22221618e21102e57565504b22201318e322310e265200b0ee [a] h [D5 (Mp [.int .i64 0,.int .i64 0,.int .i64 0,.int .i64 0,.int .i64 0,.int .i64 0] 47),Ey (Da K),D5 (Mp [.int .i64 0] 3)] [cu3 (fun b e i=>Bv (Ed [(0,6),(6,1),(7,1)]) [.int .i64 0,.int .i64 0,.int .i64 0,.int .i64 0,.int .i64 0,.int .i64 0,.Ao,.Ao] [(0,b),(1,e),(2,i)])]).F
def Atf:R:=(.mk:Sg 0x1511009e070200e62820fe2101265209e9 [a] h [Ey (O8 K),Ey (A2u K)]).F
def Ah1:Ru K R:=(.mk:Sg 0x1402 [] h).F
def E6(K:Nat)(base:Nat)(s:DX)(a:EV)(b:EV)(h:Ab):R:=
 pkA a b fun d=>
 some (d,h)
def Ge:R:=
 pkA b d fun e=>
 wtE e
 (olE 5 42 4398046511103 base a s h fun s f=>
 A28 f (.int .i64 4294967295) fun g=>
 E6 K base s e g h)
 (E6 K base s e tU h)
def Hm:R:=
 pkA b d fun e=>
 wtE e
 (olE 5 37 137438953471 base a s h fun s f=>
 Bc5 f (.int .i64 0) fun g=>
 Ge K base s a e g h)
 (Ge K base s a e tU h)
def Kb:R:=
 pkA b d fun e=>
 wtE e
 (olE 4 32 4294967295 base a s h fun s f=>
 A28 f (.int .i64 281474976710655) fun g=>
 Hm K base s a e g h)
 (Hm K base s a e tU h)
def Mu:R:=
 pkA b d fun e=>
 wtE e
 (olE 4 27 134217727 base a s h fun s f=>
 Bc5 f (.int .i64 1) fun g=>
 Kb K base s a e g h)
 (Kb K base s a e tU h)
def Ng:R:=
 pkA d e fun f=>
 wtE f
 (P8 15 32767 base b s fun s=>Oz 6 b h fun g=>
 olE 1 17 98303 base a s h fun s i=>
 L5 18 262143 s h (fun h=>(Fe K g i h)) fun j h s=>
 P8 19 32767 base b s fun s=>Oz 6 b h fun n=>
 olE 2 21 1081343 base a s h fun s o=>
 L5 22 4194303 s h (fun h=>(Fe K n o h)) fun p h s=>
 A3x j p fun q=>
 Mu K base s a f q h)
 (Mu K base s a f tU h)
def My:R:=
 ifE e
 (Oz 6 a h fun f=>
 oE 0 a h fun g=>
 Bv (Ed [(0,1),(1,1),(2,1),(3,1),(4,1),(5,1)]) [(.int .i64 0),(.int .i64 0),(.int .i64 0),(.int .i64 0),(.int .i64 0),(.int .i64 0)] [(0,g)] fun i=>
 Kl An2 (bin TT .eql 47) f i fun j=>
 some (j,h))
 (cE An2 .eql 3 d (.int .i64 1)
 (Adz h fun base s=>
 P8 0 0 base b s fun s=>Oz 6 b h fun n=>
 olE 1 2 2 base a s h fun s o=>
 olE 3 4 8 base a s h fun s p=>
 L5 5 31 s h (fun h=>(Pa K n o p h)) fun q h s=>
 wtE q
 (P8 7 127 base b s fun s=>Oz 6 b h fun t=>
 olE 2 9 383 base a s h fun s u=>
 olE 3 11 1151 base a s h fun s w=>
 L5 12 4095 s h (fun h=>(Pa K t u w h)) fun x h s=>
 Ng K base s a b q x h)
 (Ng K base s a b q tU h))
 (Ah1 K h))
def Kz:R:=(.mk:Sg 0x1245640030324e234540072800224e304409e9221e9 [a,b] h [Zc (My K)]).F
def Aro:Ru r R:=(.mk:Sg 0x12010e71204e3732e620ce76231140343201010e05e [a,b,d] h [c 138,Lz (Yy K)] [] [List.replicate 64 (.int .u8 0)]).F
def Zw:Ru K (Ru r (Ru c R)):=
 some (a,h)
def Aof:R:=(.mk:Sg 0x1213031300065321b00215e701e5221130332201 [a,b] h [c 138,D5 (Vr K),Lz (Acy K),Ey (Zw c r K)]).F
def Arc:Ru K R:=(.mk:Sg 0x100099e31204e2323e6323e5 [a,b] h).F
def Aah:R:=(.mk:Sg 0x14320000e0099e41204e2423e60007e01e285409e [a,b,d,e] h [D5 (Arc K)] [cu0 (Bv (Ed [(0,1),(1,1),(2,1),(3,1),(4,1),(5,44)]) (List.replicate 5 (.int .i64 0)++List.replicate 44 (.int .u8 0)) [])]).F
def Aaj:R:=(.mk:Sg 0x120253410247541000215e802e410103e2d6509e [a,b,d,e,f] h [Ey (V8 K),Zc (Aah K)]).F
def Arr:R:=(.mk:Sg 0x120202e05e06e5602505e08e09e56020fe215102e23e503e2d1000e25e232401e4713e002e2343721107eb514e0ee6216a414e62169314e62168214e62167114e9121c08211307211306211105211299e023e06e21007e1022113101 [a,b] h [Ey (Aol K),D5 (K6 K),Ey (fun d=>K6 K d (.int .i64 6)),D5 (N5 K),builtin TT .copy #[173,173],Ey (Ma K),cl5 (Aaj K)] [cu1 (fun e=>Bv (Ed [(0,1),(1,1),(2,1),(3,1),(4,1),(5,44)]) (List.replicate 5 (.int .i64 0)++List.replicate 44 (.int .u8 0)) [(0,e)]),cu1 (fun x=>Uk 44 1 x none none none)] [List.replicate 5 (.int .i64 0)++List.replicate 44 (.int .u8 0)]).F
def Ai0:R:=(.mk:Sg 0x1372103099e81204e2823e60107e00e212e20ce232032741007e4f2e5400b0ee099e05e410e9252e9 [a,b] h [D5 (Ac0 K),D5 (Arr K)] [cu1 (fun e=>Uk 64 1 e none none none),cu0 (Bv (Ed [(0,1),(1,1),(2,1),(3,1),(4,1),(5,44)]) (List.replicate 5 (.int .i64 0)++List.replicate 44 (.int .u8 0)) [])] [List.replicate 5 (.int .i64 0)++List.replicate 44 (.int .u8 0)]).F
def A2a:Ru K R:=(.mk:Sg 0x100075e31204e2318e6318e5 [a,b] h).F
def Ams:R:=(.mk:Sg 0x14320000e0075e41204e2418e60007e01e285409e [a,b,d,e] h [D5 (A2a K)] [cu0 (Bv (Ed [(0,1),(1,1),(2,1),(3,1),(4,1),(5,1),(6,32)]) (List.replicate 6 (.int .i64 0)++List.replicate 32 (.int .u8 0)) [])]).F
def Ayl:R:=(.mk:Sg 0x1202c07e4602501e0ae4602397e802e09e1ee531ee504e2d00315e802e397e11ee06e20ce2151618e5232401e470ce0b2343721207e2614e0ee275e018e06e23456b6107e3062213052211042211032212111210131007e075e05e397e9 [a,b] h [Ey (Aol K),Ey (fun g=>K6 K g (.int .i64 6)),D5 (K6 K),D5 (N5 K),builtin TT .copy #[173,173],Ey (Rz K),Zc (Ams K)] [cu1 (fun d=>Uk 44 1 d none none none),cu6 (fun a i j n o p=>Bv (Ed [(0,1),(1,1),(2,1),(3,1),(4,1),(5,1),(6,32)]) (List.replicate 6 (.int .i64 0)++List.replicate 32 (.int .u8 0)) [(0,a),(1,i),(2,j),(3,n),(4,o),(5,p)]),cu1 (fun u=>Uk 32 1 u none none none)] [List.replicate 6 (.int .i64 0)++List.replicate 32 (.int .u8 0),List.replicate 44 (.int .u8 0)]).F
def Af5:Ru K R:=(.mk:Sg 0x100099e31204e2323e6323e5 [a,b] h).F
def Iu:R:=(.mk:Sg 0x14320000e0099e41204e2423e60007e01e285409e [a,b,d,e] h [D5 (Af5 K)] [cu0 (Bv (Ed [(0,1),(1,1),(2,1),(3,1),(4,1),(5,44)]) (List.replicate 5 (.int .i64 0)++List.replicate 44 (.int .u8 0)) [])]).F
def Ly:R:=(.mk:Sg 0x12026540026a94002421e251ee52441405e2d7609e [a,b,d,e,f,g] h [Zc (Iu K)]).F
def Pg:R:=(.mk:Sg 0x120265436002487656004222e41401e2d7609e [a,b,d,e,f,g] h [cl6 (Ly K)]).F
def Mg:R:=(.mk:Sg 0x12023cd04e62025601e02e07e62020fe2111323e504e2d00715e802e299e023e06e201e00edc36007e31ee5804397e11ee06e20ce2101318e5099e05e275e9 [a,b,d,e,f] h [Ey (Rz K),Ey (Ma K),cl6 (Pg K)] [cu6 (fun t b d e f u=>Bv (Ed [(0,1),(1,1),(2,1),(3,1),(4,1),(5,44)]) (List.replicate 5 (.int .i64 0)++List.replicate 44 (.int .u8 0)) [(0,t),(1,b),(2,d),(3,e),(4,f),(5,u)])] [List.replicate 5 (.int .i64 0)++List.replicate 44 (.int .u8 0),List.replicate 44 (.int .u8 0)]).F
def Art:R:=(.mk:Sg 0x100010e71204e2732e6232e5232e26e522012f2e5 [a,b,d] h [D5 (Aby K)]).F
def Aq5:R:=(.mk:Sg 0x1308e06e3403010e09e1204e209e32e60107e00e212e20ce02e131201e22121007e01e514e2c211d442c0a301b34230830192423063017141010430121033014040dbe05e [a,b,d] h [Lz (Ex K),D5 (fun e u=>Ex K e (.int .i64 6) u),D5 (T2 K),Ey (Qj K),Lz (Art K)] [cu1 (fun x=>Uk 44 1 x none none none),cu0 (Bv (Mv 1) (List.replicate 64 (.int .u8 0)) [])] [[.Ao,.bool false]]).F
def Acs:R:=(.mk:Sg 0x156731000e0010e61204e2632e60007e01e2820fe2101323e5010e05e499e9252e9 [a,b] h [Ey (Ma K),Lz (Aq5 K)] [cu0 (Bv (Mv 1) (List.replicate 64 (.int .u8 0)) [])] [List.replicate 64 (.int .u8 0)]).F
def Atb:Ru K (Ru r (Ru c R)):=(.mk:Sg 0x1002200e [a] h).F
def Ate:Ru K (Ru r (Ru c R)):=
 Iz e fun f=>
 k4 a b d f h
def Atz:R:=(.mk:Sg 0x1d2ba4302b2212111823e5521ee67514e92166214e802165014e62201245 [a,b,d,e] h [D5 (Ava K),Ey (fun o=>Cd (List.replicate 5 (.int .i64 0)++List.replicate 44 (.int .u8 0)) 167 49 1 [(0,o)]),D5 (E0 167 49),Zc (Ate c r K k4)]).F
def X4(c:Ah)(r:Ah)(K:Nat):Nat->A4
 | 0=>fun _ _ _ _ _=>none
 | m+1=>fun a b d e h=>
  oE 3 a h fun f=>
  An (Qk K f h) fun g h=>
  An (Ub K g h) fun i h=>
  cE Iq .lss 3 e i
  (Atz c r K (X4 c r K m) a b d e h)
  (Atb c r K d h)
def Auo:R:=(.mk:Sg 0x11024b4202111223e53223e621ff3f917e099e05e818e24564007e21012e67545505b484010e322110e0ee [a,b] h [Ey (Auz K),Ey (fun n=>Cd (List.replicate 5 (.int .i64 0)++List.replicate 44 (.int .u8 0)) 167 49 1 [(0,n)]),Zc (X4 c r K K)] [cu4 (fun a d e g=>Bv (Ed [(0,1),(1,1),(2,1),(3,1),(4,1),(5,44)]) (List.replicate 5 (.int .i64 0)++List.replicate 44 (.int .u8 0)) [(0,.int .i64 4),(1,a),(3,d),(4,e),(5,g)])] [List.replicate 5 (.int .i64 0)++List.replicate 44 (.int .u8 0)]).F
def Aub:R:=(.mk:Sg 0x14320000e0b0200e6285409e [a,b,d,e] h [D5 (Auo c r K)]).F
def A1u:R:=(.mk:Sg 0x120257430269b43020fe0092321211153409e2d20fe2101245292e9 [a,b] h [c 131,Ey (Qk K),Lz (Pa K),Zc (Aub c r K)]).F
def Nv(K:Nat)(base:Nat)(s:DX)(a:EV)(b:EV)(h:Ab):R:=
 pkA a b fun d=>
 some (d,h)
def Nb:R:=
 Wy 47 b h fun d h=>
 Adz h fun base s=>
 olE 0 1 1 base d s h fun s e=>
 Bcl e (.int .i64 1) fun f=>
 wtE f
 (P8 4 15 base d s fun s=>Oz 6 d h fun g=>
 noE 1 a fun i=>
 P8 8 239 base i s fun s=>Oz 6 i h fun j=>
 L5 9 511 s h (fun h=>(Kz K g j h)) fun n h s=>
 Nv K base s f n h)
 (Nv K base s f tU h)
def Aq7:R:=(.mk:Sg 0x10023266271e717e93615e965905b673611e0ee102531166523201565 [a,b,d,e] h [D5 (fun a f=>X7 K a f (.int .i64 (-1))),Lz (X7 K)]).F
def Qc:R:=(.mk:Sg 0x17bdc42000e0232820fe242111e57265200e4b80c665600b0ee322312e321e0606e20ce43201421e9 [a,b,d] h [D5 (Gp K),D5 (Kz K),Zc (Aq7 K)] [] [[.int .i64 0,.int .i64 0,.int .i64 0,.int .i64 0,.int .i64 0,.int .i64 0]]).F
def A2q:Ru K R:=(.mk:Sg 0x100099e31204e2323e6323e5 [a,b] h).F
def Al6:R:=(.mk:Sg 0x14320002e0099e41204e2423e60007e01e285409e [a,b,d,e] h [D5 (A2q K)] [cu0 (Bv (Ed [(0,1),(1,1),(2,1),(3,1),(4,1),(5,44)]) (List.replicate 5 (.int .i64 0)++List.replicate 44 (.int .u8 0)) [])]).F
def A1r:R:=(.mk:Sg 0x12027640024984006225e724d2d3225e514 [a,b,d,e] h [Zc (Al6 K)]).F
def Ayj:R:=(.mk:Sg 0x12800ed4104099e91204e2923e60007e00e312e399e023e06e20ce23201432e54f2e5099e05e410e9252e9 [a,b,d,e] h [D5 (Ai0 K),Zc (A1r K)] [cu0 (Bv (Ed [(0,1),(1,1),(2,1),(3,1),(4,1),(5,44)]) (List.replicate 5 (.int .i64 0)++List.replicate 44 (.int .u8 0)) [])] [List.replicate 5 (.int .i64 0)++List.replicate 44 (.int .u8 0)]).F
def Awd:Ru K R:=(.mk:Sg 0x100075e31204e2318e6318e5 [a,b] h).F
def Awr:R:=(.mk:Sg 0x1cb2103075ec1204e2c18e60007e00e212e20ce23456501644534424314418e5 [a,b,d] h [cl5 (Mg K),D5 (Awd K)] [cu0 (Bv (Ed [(0,1),(1,1),(2,1),(3,1),(4,1),(5,1),(6,32)]) (List.replicate 6 (.int .i64 0)++List.replicate 32 (.int .u8 0)) [])]).F
def Aqn:R:=(.mk:Sg 0x129a3104075ea1204e2a18e60007e00e312e375e018e06e20ce2420121ee54514e304075e05e299e9 [a] h [D5 (Ayl K),Lz (Awr K)] [cu0 (Bv (Ed [(0,1),(1,1),(2,1),(3,1),(4,1),(5,1),(6,32)]) (List.replicate 6 (.int .i64 0)++List.replicate 32 (.int .u8 0)) [])] [List.replicate 6 (.int .i64 0)++List.replicate 32 (.int .u8 0)]).F
def Ad0:Ru K (Ru r (Ru c R)):=(.mk:Sg 0x110e0023e31204e2312e60007e [a] h [] [cu0 (Bv (Mv 1) (List.replicate 32 (.int .u8 0)) [])]).F
def Ow:Ru K (Ru r (Ru c R)):=
 Iz f fun g=>
 k5 a b d e g h
def Vo:R:=(.mk:Sg 0x1985435008023e61204e2612e6612e500e28a909e [a,b,d,e,f,g,i,j,n] h [cl5 (Ow c r K k5)]).F
def Vl:R:=(.mk:Sg 0x120404e03e3202e01e00e9102505e04e4303e02e01e91000315e802e04e4d423e112e06e421ae20ce246940120de1051219e20de0031219e565226e0206e652007e [a,b,d,e,f] h [c 66,cl9 (Vo c r K k5)] [cu2 (fun e f=>A08 2 2 true 2 e f)] [[.int .i64 0,.int .i64 0],List.replicate 32 (.int .u8 0)]).F
def Dr(c:Ah)(r:Ah)(K:Nat):Nat->A5
 | 0=>fun _ _ _ _ _ _=>none
 | m+1=>fun a b d e f h=>
  cE Iq .lss 3 f (.int .i64 2)
  (Vl c r K (Dr c r K m) a b d e f h)
  (Ad0 c r K d h)
def Ad9:R:=(.mk:Sg 0x1002ba9500252207e232107e714624232007e424314 [a,b,d] h [cl5 (Dr c r K K)] [cu2 (fun e f=>Bv (Mv 1) [.int .i64 0,.int .i64 0] [(0,e),(1,f)]),cu2 (fun i j=>Bv (Mv 1) [.int .i64 0,.int .i64 0] [(0,i),(1,j)]),cu2 (fun g n=>Bv (Mv 2) [.int .i64 0,.int .i64 0,.int .i64 0,.int .i64 0] [(0,g),(1,n)])]).F
def Akd:R:=(.mk:Sg 0x156731000e0023e61204e2612e60007e01e2820fe25201365023e05e321e9 [a,b] h [D5 (Nb K),Lz (Ad9 c r K)] [cu0 (Bv (Mv 1) (List.replicate 32 (.int .u8 0)) [])] [List.replicate 32 (.int .u8 0)]).F
def Tt:Ru K (Ru r R):=(.mk:Sg 0x1765435100ee0021e81204e28660007e01e0ee0215e701e72201 [a,b,d,e,f,g] h [c 134,cl5 k5] [cu0 (Bv (Ed [(0,1),(1,1),(2,1),(3,1),(4,1),(5,1)]) [.int .i64 0,.int .i64 0,.int .i64 0,.int .i64 0,.int .i64 0,.int .i64 0] [])]).F
def Ab1:R:=(.mk:Sg 0x1876543600ba987660032165fdec20ae3fde307e283701e2fce3 [a,b,d,e,f,g] h [cl6 (Tt c r K k5)]).F
def Ac2:R:=(.mk:Sg 0x13a98766203021eb1204e2b660307e00e0ee0215e701e00021e0be1204e20be66565321605efdec20ae03efde3326627fffff6f09e17e021e05e08e18e203e89a5207e21107e24217e0005f05e721007e00e614e2f2e52e0004f02eb97c87003fbfde11e762e7fce11e673fbe11e0ee4ee00215e701e20ce5423401518e5 [a,b,d,e,f] h [c 148,D5 (Qi K),cl6 (Ab1 c r K k5)] [cu1 (fun w=>Uk 32 1 w none none none),cu1 (fun y=>Xp .i64 y),cu5 (fun o p q d z=>Bv (Ed [(0,1),(1,1),(2,1),(3,1),(4,1),(5,1)]) [.int .i64 0,.int .i64 0,.int .i64 0,.int .i64 0,.int .i64 0,.int .i64 0] [(0,.int .i64 1),(1,o),(2,p),(3,q),(4,d),(5,z)]),cu0 (Bv (Ed [(0,1),(1,1),(2,1),(3,1),(4,1),(5,1)]) [.int .i64 0,.int .i64 0,.int .i64 0,.int .i64 0,.int .i64 0,.int .i64 0] [])] [[.int .i64 0,.int .i64 0,.int .i64 0,.int .i64 0,.int .i64 0,.int .i64 0]]).F
def He(c:Ah)(r:Ah)(K:Nat):Nat->A5
 | 0=>fun _ _ _ _ _ _=>none
 | m+1=>fun a b d e f h=>
  An (c 147 [a] h) fun g h=>
  Bbz g
  (Bv (Ed [(0,1),(1,1),(2,1),(3,1),(4,1),(5,1)]) [(.int .i64 0),(.int .i64 0),(.int .i64 0),(.int .i64 0),(.int .i64 0),(.int .i64 0)] [] fun i=>
  stE 6 f i h fun h=>
  Ji TT [.c f 47,.v g] h)
  (Ac2 c r K (He c r K m) a b d e f h)
def Ach:R:=
 He c r K K a b d e f h
def Ahz:R:=(.mk:Sg 0x178cb95104021e81204e28660007e00e312e399e123e06e20ce8700002501318e5021e05e375e9 [a,b,d,e] h [cl5 (Mg K),cl5 (Ach c r K)] [cu0 (Bv (Ed [(0,1),(1,1),(2,1),(3,1),(4,1),(5,1)]) [.int .i64 0,.int .i64 0,.int .i64 0,.int .i64 0,.int .i64 0,.int .i64 0] [])] [[.int .i64 0,.int .i64 0,.int .i64 0,.int .i64 0,.int .i64 0,.int .i64 0],List.replicate 5 (.int .i64 0)++List.replicate 44 (.int .u8 0)]).F
def Qb:Ru K (Ru r (Ru c R)):=
 some (a,h)
def Pd:R:=(.mk:Sg 0x131000ae02328430be [a,b,d] h [Ey (Qb c r K)]).F
def Afb:R:=(.mk:Sg 0x120233102453102525e8fde3c2a00215e702e20ce2533031e67532e5505b273011e0ee [a,b,d] h [c 187,Lz (Pd c r K)]).F
def Agr:R:=(.mk:Sg 0x12a9310322312e4232e622ff3fa17e010e05e918e20ce232011e57623e5604b2f2e5273b27c0ee [a,b,d] h [D5 (Acs K),Lz (Afb c r K)] [] [List.replicate 64 (.int .u8 0)]).F
def Amg:R:=(.mk:Sg 0x12ca310322312e4223e6217ff4fd17e099e05ec18e20ceba28350f1e8750ee5fde11e318e5300b0ee72162514e375e9 [a,b,d,e,f,g] h [cl5 (Mg K),Lz (Agr c r K)] [] [List.replicate 5 (.int .i64 0)++List.replicate 44 (.int .u8 0)]).F
def Aq2:Ru K (Ru r (Ru c R)):=(.mk:Sg 0x1002200e [a] h).F
def Arh:Ru K (Ru r (Ru c R)):=
 Iz f fun g=>
 k5 a b d e g h
def Aq6:R:=
 Oz 64 d h fun i=>
 An (Cd (List.replicate 64 (.int .u8 0)) 30 64 1 [(0,i)] h) fun j h=>
 An (E0 30 64 b j h) fun n h=>
 Arh c r K k5 a n e f g h
def Ari:R:=(.mk:Sg 0x101e00ed2cb6103b0200e5312e310e132e06e20ce23201323e55f2e5299e023e06e223e56423e15e [a,b,d,e,f] h [D5 (Acs K),cl6 (Aq6 c r K k5)] [] [List.replicate 5 (.int .i64 0)++List.replicate 44 (.int .u8 0),List.replicate 64 (.int .u8 0)]).F
def Uq(c:Ah)(r:Ah)(K:Nat):Nat->A5
 | 0=>fun _ _ _ _ _ _=>none
 | m+1=>fun a b d e f h=>
  cE Iq .lss 3 f e
  (Ari c r K (Uq c r K m) a b d e f h)
  (Aq2 c r K b h)
def Ard:R:=(.mk:Sg 0x10024b03500313e [a,b] h [cl5 (Uq c r K K)]).F
def Azv:R:=(.mk:Sg 0x1372102b0200e5212e20ce72201245492e9252e9 [a,b,d] h [c 212,D5 (Ard c r K)]).F
def Hj:Ru r (Ru c R):=(.mk:Sg 0x12224534010007e [a,b,d] h [Zc (Asz K)] [cu0 (Bv (Ed [(0,1),(1,1),(2,1)]) [.int .i64 0,.int .i64 0,.int .i64 0] [(1,.int .i64 1),(2,.int .i64 1)])]).F
def O5:Ru K (Ru r (Ru c R)):=
 Iz f fun g=>
 k5 a b d e g h
def Y6:R:=(.mk:Sg 0x187654530a987653092221411103e2820fe64201 [a,b,d,e,f] h [c 55,Ey (Ce K),c 56,cl5 (O5 c r K k5)]).F
def El(c:Ah)(r:Ah)(K:Nat):Nat->A5
 | 0=>fun _ _ _ _ _ _=>none
 | m+1=>fun a b d e f h=>
  cE Iq .lss 3 f e
  (Y6 c r K (El c r K m) a b d e f h)
  (Hj c r K a b d h)
def O7:R:=(.mk:Sg 0x10027655102101265 [a,b,d,e] h [Ey (Da K),cl5 (El c r K K)]).F
def Zb:Ru K (Ru r (Ru c R)):=
 Iz f fun g=>
 k5 a b d e g h
def Y4:R:=(.mk:Sg 0x1cba9851025ba40120ae291fe414271fe214 [a,b,d,e,f] h [Zc (X8 K),cl5 (Zb c r K k5)]).F
def Du(c:Ah)(r:Ah)(K:Nat):Nat->A5
 | 0=>fun _ _ _ _ _ _=>none
 | m+1=>fun a b d e f h=>
  cE Iq .lss 3 f (.int .i64 3)
  (Y4 c r K (Du c r K m) a b d e f h)
  (O7 c r K a b d e h)
def Od:R:=
 An (Auj K b h) fun e h=>
 Du c r K K a b d e (.int .i64 0) h
def Xg:R:=(.mk:Sg 0x15433007023286509e [a,b,d,e,f] h [Lz (Od c r K)]).F
def Xb:R:=(.mk:Sg 0x120248c5302359d53000315e802e00e2d00615e802e20ce212176520ce2353173700027265201b0ee [a,b] h [cl0 (A8k K),Lz (Aks K),Ey (Atf K),cl5 (Xg c r K)]).F
def Xa:R:=(.mk:Sg 0x1392207023212e20ce2343131e67502e5510e443210e210117265200b0ee [a] h [Ey (Da K),Lz (Asq K),D5 (Xb c r K)]).F
def Jq:R:=(.mk:Sg 0x131007023284309e [a,b,d] h [Ey (Xa c r K)]).F
def Adh:R:=(.mk:Sg 0x1202531026931015e0222e231fe61450405e2d20fe2101265209e9 [a] h [Ey (Jt K),Lz (Jq c r K)]).F
abbrev Qg(K:Nat)(c:Ah):Ah:=(w1 48 (Jt K) (w4 57 (Asz K) (w1 22 (Ce K) (w1 24 (Da K) (w4 54 (X8 K) (w1 53 (Auj K) (w0 51 (A8k K) (w3 50 (Aks K) (w1 52 (Atf K) (w3 49 (Asq K) c))))))))))
def Nu:Ru K (Ru r (Ru c R)):=(.mk:Sg 0x10005023e31304e2312e6312e5 [a,b,d] h).F
def Acw:R:=(.mk:Sg 0x143230010e0000023e31304e2312e60007e04e0053701e [a,b,d,e] h [Lz (Nu c r K)] [cu0 (Bv (Mv 1) (List.replicate 32 (.int .u8 0)) [])]).F
def Jv:Ru K (Ru r (Ru c R)):=
 Iz j fun n=>
 k8 a b d e f g i n h
def Acb:R:=(.mk:Sg 0x103e02e6cba9881004e03e72cba9810c0aed2820fe2620120de00a1219e80ae2612e6912e5 [a,b,d,e,f,g,i,j,n,o] h [D5 (Fp K),cl8 (Jv c r K k8)]).F
def Acm:R:=
 Arw n fun q=>
 ifE q
 (Jv c r K k8 a b d e f g o p h)
 (Acb c r K k8 a b d e f g i j o p h)
def Tl:R:=(.mk:Sg 0x107e06e42c05e04e03e02e01e00eb104000023e03e1304e203e12e60107e03e312e423e112e06e421ae20ce246940120de1051219e20de0031219e565226e0206e982007e [a,b,d,e,f,g,i,j] h [c 66,Bsw (Acm c r K k8)] [cu2 (fun i j=>A08 2 2 true 2 i j),cu0 (Bv (Mv 1) (List.replicate 32 (.int .u8 0)) [])] [[.int .i64 0,.int .i64 0],List.replicate 32 (.int .u8 0)]).F
def Dg(c:Ah)(r:Ah)(K:Nat):Nat->A8
 | 0=>fun _ _ _ _ _ _ _ _ _=>none
 | m+1=>fun a b d e f g i j h=>
  cE Iq .lss 3 j (.int .i64 2)
  (Tl c r K (Dg c r K m) a b d e f g i j h)
  (Acw c r K d e f g h)
def Ac7:R:=(.mk:Sg 0x100200009cba800252207e232107e814724232007e524414023e05e [a,b,d] h [cl8 (Dg c r K K)] [cu2 (fun f g=>Bv (Mv 1) [.int .i64 0,.int .i64 0] [(0,f),(1,g)]),cu2 (fun j n=>Bv (Mv 1) [.int .i64 0,.int .i64 0] [(0,j),(1,n)]),cu2 (fun i o=>Bv (Mv 2) [.int .i64 0,.int .i64 0,.int .i64 0,.int .i64 0] [(0,i),(1,o)])] [List.replicate 32 (.int .u8 0)]).F
def Aiq:R:=(.mk:Sg 0x156731000e0000023e61304e2612e60007e04e2820fe25201365023e05e321e9 [a,b] h [D5 (Nb K),Lz (Ac7 c r K)] [cu0 (Bv (Mv 1) (List.replicate 32 (.int .u8 0)) [])] [List.replicate 32 (.int .u8 0)]).F
def Alj:Ru K (Ru r (Ru c R)):=(.mk:Sg 0x1002 [] h).F
def Alk:Ru K (Ru r (Ru c R)):=
 Iz e fun f=>
 k4 a b d f h
def Amd:R:=(.mk:Sg 0x187654102733010007e223 [a,b,d,e] h [Lz (Qc K),Zc (Alk c r K k4)] [cu0 (Bv (Ed [(0,1),(1,1),(2,1),(3,1),(4,1),(5,1)]) [.int .i64 0,.int .i64 0,.int .i64 0,.int .i64 0,.int .i64 0,.int .i64 0] [])]).F
def P7(c:Ah)(r:Ah)(K:Nat):Nat->A4
 | 0=>fun _ _ _ _ _=>none
 | m+1=>fun a b d e h=>
  A8q b d fun f=>
  cE Iq .lss 3 e f
  (Amd c r K (P7 c r K m) a b d e h)
  (Alj c r K h)
def Amw:R:=
 P7 c r K K a b d b h
def Anp:R:=(.mk:Sg 0x1ba9310322312e321e0606e20ce252016523007e22423c [a,b,d] h [c 78,Lz (Amw c r K)] [cu3 (fun f b d=>Bv (Ed [(0,1),(1,1),(2,1),(3,1),(4,1),(5,1),(6,32)]) (List.replicate 6 (.int .i64 0)++List.replicate 32 (.int .u8 0)) [(0,.int .i64 2),(1,f),(2,.int .i64 1),(3,b),(4,d)])] [[.int .i64 0,.int .i64 0,.int .i64 0,.int .i64 0,.int .i64 0,.int .i64 0]]).F
def Ali:R:=(.mk:Sg 0x1543310222212e2101 [a,b,d] h [c 77,Lz (Anp c r K)]).F
def Pk:R:=(.mk:Sg 0x154330003e023286509e [a,b,d,e,f] h [Lz (Ali c r K)]).F
def Vz:R:=(.mk:Sg 0x120254351027a985102922e721ee21007e21013030be2d6509e [a,b,d,e,f] h [Ey (Ch K),cl5 (Pk c r K)] [cu1 (fun j=>Aej 3 false 0 j)]).F
def Ath:R:=(.mk:Sg 0x12026545102376551010620ec2d20fe32201 [a,b,d] h [D5 (U9 K),cl5 (Vz c r K)]).F
def Aam:Ru K (Ru r (Ru c R)):=(.mk:Sg 0x1002 [] h).F
def Ak8:Ru K (Ru r (Ru c R)):=
 Iz f fun g=>
 k5 a b d e g h
def Ajt:R:=(.mk:Sg 0x100edcba510245303ff3fa726521c03f9bb8615e302e5010e573211e0ee246e013e06e213e56413e15e [a,b,d,e,f] h [Lz (Qc K),cl5 (Ak8 c r K k5)] [] [[.int .i64 0]++List.replicate 32 (.int .u8 0)]).F
def K4(c:Ah)(r:Ah)(K:Nat):Nat->A5
 | 0=>fun _ _ _ _ _ _=>none
 | m+1=>fun a b d e f h=>
  cE Iq .lss 3 f e
  (Ajt c r K (K4 c r K m) a b d e f h)
  (Aam c r K h)
def Aaz:R:=
 F3 b fun e=>
 K4 c r K K a d b e (.int .i64 0) h
def Aju:Ru K (Ru r (Ru c R)):=
 Iz i fun j=>
 k7 a b d e f g j h
def Ak1:R:=(.mk:Sg 0x1cba2765720272112101665 [a,b,d,e,f,g,i,j] h [Ey (fun n=>Cd [.int .i64 0,.int .i64 0,.int .i64 0,.int .i64 0,.int .i64 0,.int .i64 0] 47 6 1 [(0,n)]),D5 (E0 47 6),cl7 (Aju c r K k7)]).F
def Ajc:R:=(.mk:Sg 0x106e05e04e203e02e01e00e810322312e321e1606e20ce2a201245b4007e212e54114e304613e246e013e06e213e58613e15e [a,b,d,e,f,g,i] h [c 78,cl8 (Ak1 c r K k7)] [cu4 (fun d p q u=>Bv (Ed [(0,1),(1,1),(2,1),(3,1),(4,1),(5,1),(6,32)]) (List.replicate 6 (.int .i64 0)++List.replicate 32 (.int .u8 0)) [(0,.int .i64 1),(1,d),(2,p),(3,q),(6,u)])] [[.int .i64 0]++List.replicate 32 (.int .u8 0),[.int .i64 0,.int .i64 0,.int .i64 0,.int .i64 0,.int .i64 0,.int .i64 0]]).F
def J8(c:Ah)(r:Ah)(K:Nat):Nat->A7
 | 0=>fun _ _ _ _ _ _ _ _=>none
 | m+1=>fun a b d e f g i h=>
  cE Iq .lss 3 i g
  (Ajc c r K (J8 c r K m) a b d e f g i h)
  (Aaz c r K a b e h)
def Ah4:R:=(.mk:Sg 0x10026b0365700513e22423c [a,b] h [cl7 (J8 c r K K)]).F
def Aid:R:=(.mk:Sg 0x143210222212e2101 [a,b] h [c 77,D5 (Ah4 c r K)]).F
def Ark:R:=(.mk:Sg 0x15421003e0232820fe32201 [a,b] h [D5 (Ac4 K),D5 (Aid c r K)]).F
abbrev Adg(K:Nat)(c:Ah):Ah:=(w2 85 (Ac4 K) (w3 79 (Qc K) c))
def Aeb:Ru K (Ru r (Ru c R)):=(.mk:Sg 0x100050023e41304e2412e6212e53614e [a,b] h).F
def H2(c:Ah)(r:Ah)(K:Nat)(base:Nat)(s:DX)(a:EV)(b:EV)(d:EV)(e:EV)(h:Ab):R:=
 pkO d e fun f=>
 ifE f
 (Bv (Mv 1) (List.replicate 32 (.int .u8 0)) [] fun g=>
 stE 32 a g h fun h=>
 Ji TT [.c a 49,.v (.bool false),.v (.int .i64 0)] h)
 (Aeb c r K a b h)
def Kw:R:=
 pkO f g fun i=>
 wfE i
 (noE 7 a fun j=>
 P8 12 4095 base j s fun s=>Oz 256 j h fun n=>
 Alc 6 e fun o=>
 Uk 32 1 o none none none fun p=>
 L5 15 32767 s h (fun h=>(Qi K n p h)) fun q h s=>
 Xp .i64 q fun t=>
 olE 5 18 131583 base b s h fun s u=>
 A3x t u fun w=>
 H2 c r K base s d e i w h)
 (H2 c r K base s d e i tU h)
def Adv:R:=
 Oz 49 f h fun g=>
 An (Aqn K g h) fun i h=>
 x2E i fun j n=>
 nsE 38 (List.replicate 6 (.int .i64 0)++List.replicate 32 (.int .u8 0)) 131 j h fun o h=>
 Adz h fun base s=>
 Kl Alb (bin TT .neq 35) n (.int .i64 0) fun p=>
 wfE p
 (olE 5 4 15 base o s h fun s q=>
 A3x q b fun t=>
 Kw c r K base s a d e o p t h)
 (Kw c r K base s a d e o p tU h)
def Kv:R:=(.mk:Sg 0x17654350000040023e71304e2712e60007e04e288709e [a,b,d,e,f,g,i] h [cl5 (Adv c r K)] [cu0 (Bv (Mv 1) (List.replicate 32 (.int .u8 0)) [])]).F
def Kt:R:=(.mk:Sg 0x12027654370025a98767002325e64474405e2d8709e [a,b,d,e,f,g,i] h [cl7 (Kv c r K)]).F
def Aec:R:=(.mk:Sg 0x1202301e00edb71024503e02e01ed71030224e30403e2d00315e802e4223e6217ff4fd17e099e05ec18e20ce273440f1e87832e7310e932e5904b2f2e5273b27c0ee [a,b,d,e,f,g] h [Zc (Ayj K),cl7 (Kt c r K)] [] [List.replicate 5 (.int .i64 0)++List.replicate 44 (.int .u8 0)]).F
def Ajg:R:=(.mk:Sg 0x100040023e91304e2912e60007e2040023ea1304e3a12e6db2210007e08e0ce0315e701e4040023e91304e2912e60007e03e0ee0315e701e289dca610900315e701e4232e62bff3fc17e110e05eb18e20ce2833071e77412e6310e473011e0ee023e05e321e9 [a,b,d,e] h [c 106,cl6 (Aec c r K),c 107] [cu0 (Bv (Mv 1) (List.replicate 32 (.int .u8 0)) [])] [List.replicate 32 (.int .u8 0),List.replicate 64 (.int .u8 0)]).F
def Ang:Ru r (Ru c R):=(.mk:Sg 0x1222533031e67565505b273211e0ee [a,b,d] h [Lz (Qc K)]).F
def Amb:R:=(.mk:Sg 0x12ba310322312e426622fff4f00e17e021e05ed18e20ce26201ff3f972633007e612e5607b210e5210e23c0ee [a,b,d] h [c 78,Lz (Ang c r K)] [cu3 (fun f b g=>Bv (Ed [(0,1),(1,1),(2,1),(3,1),(4,1),(5,1),(6,32)]) (List.replicate 6 (.int .i64 0)++List.replicate 32 (.int .u8 0)) [(0,.int .i64 3),(1,f),(2,.int .i64 1),(3,b),(6,g)])] [[.int .i64 0,.int .i64 0,.int .i64 0,.int .i64 0,.int .i64 0,.int .i64 0]]).F
def Ab0:R:=(.mk:Sg 0x132222b33210007e82300e10e0315e701e298310600315e701e4212e622ff3fa17e023e05e918e20ce232011e57565504b273011e0ee [a,b,d] h [c 112,Lz (Amb c r K),Lz (Qc K)] [cu0 (Bv (Ed [(0,1),(1,1),(2,1),(3,1),(4,1),(5,1)]) [.int .i64 0,.int .i64 0,.int .i64 0,.int .i64 0,.int .i64 0,.int .i64 0] [(0,.int .i64 2)])] [List.replicate 32 (.int .u8 0)]).F
def Ajj:R:=(.mk:Sg 0x139831000231023801e204321e0606e20ce42201223 [a,b] h [D5 (Gp K),Lz (Ab0 c r K)] [] [[.int .i64 0,.int .i64 0,.int .i64 0,.int .i64 0,.int .i64 0,.int .i64 0]]).F
end
variable{K d:Nat}(H:Bj disp)
include H
theorem Azh(hd:2<=d):S3 disp K d 144 Awh:=fun _ _ _=>rd rfl rfl H (V1 (Aef H) hd<|rfl)
theorem Ats(hd:2<=d){l:Nat}(tm:Ax)(h:Ab)(k:EV)(m:EV){st:LoopState}{p:Option Code}{d0:Nat}(v:h.get l=some (.loop st p 144 31 tm [8,9] (E4 TT 144 0).2.2.1 (E4 TT 144 0).2.2.2 d0)):
 Ae TT disp K (d+1) true l [k,m] h=Ao4 (Ae TT disp K d false) (Ae TT disp K d true) K l (tmp tm 2) (tmp tm 3) k m h:=rr rfl rfl (rfl) v rfl (by kernel_rfl)
theorem Apx(hd:3<=d):R3 disp K d 213 (To K):=fun _ _ _=>rl H hd fun d hd=>V2 (Ot H) hd<|V2 (Abs H) hd<|V1 (Jx H) hd<|V1 (Aqb H) hd<|rfl
theorem A9g(hd:3<=d):R2 disp K d 236 (Ay2 K):=fun _ _=>rl H hd fun d hd=>V3 (Pe H) hd<|rfl
theorem As4(hd:2<=d):S1 disp K d 98 Aos:=fun _=>rd rfl rfl H (V1 (Ar5 H) hd<|rfl)
theorem Wc(hd:3<=d):R2 disp K d 110 (Qi K):=fun _ _=>rl H hd fun d hd=>V3 (Axg H) hd<|rfl
theorem Asw(hd:4<=d):S3 disp K d 132 Apn:=fun _ _ _=>ld rfl rfl H (V2 (Asa H) hd<|rfl) 5 (fun c r=>e3 (Q3 c r K) 0 1 5)
theorem Ar3(hd:2<=d):S2 disp K d 145 Amc:=fun _ _=>ld rfl rfl H (V1 (As9 H) hd<|rfl) 5 (fun c r=>e4 (Lx c r K) 0 6 7 8)
theorem Aoc(hd:4<=d):S1 disp K d 147 Ahg:=fun _=>rd rfl rfl H (V1 (Ayb H) hd<|rfl)
theorem Asb(hd:2<=d):S2 disp K d 155 Al5:=fun _ _=>rd rfl rfl H (V3 (Ast H) hd<|V1 (Ash H) hd<|rfl)
theorem Awv(hd:4<=d):R2 disp K d 167 (Ac0 K):=fun _ _=>ll H hd (fun d hd=>V2 (Wc H) hd<|rfl) 207 (e6 (Pp K) 1 6 7 22 23 24)
theorem Agh(hd:4<=d):R1 disp K d 173 (Rz K):=fun _=>rl H hd fun d hd=>V1 (Arv H) hd<|V3 (Pe H) hd<|V2 (Ah8 H) hd<|V1 (Ade H) hd<|rfl
theorem Asg(hd:3<=d):S3 disp K d 187 Am7:=fun _ _ _=>rd rfl rfl H (V3 (Apx H) hd<|rfl)
theorem Ar2(hd:3<=d):S2 disp K d 189 Am0:=fun _ _=>rd rfl rfl H (V2 (Apy H) hd<|rfl)
theorem Ax5(hd:4<=d):R2 disp K d 220 (Aby K):=fun _ _=>rl H hd fun d hd=>V2 (Wc H) hd<|rfl
theorem A6q(hd:4<=d):R2 disp K d 227 (Ava K):=fun _ _=>ll H hd (fun d hd=>V3 (Pe H) hd<|V1 (Awf H) hd<|V2 (Ix H) hd<|V2 (A9g H) hd<|rfl) 103 (e5 (Abw K) 1 2 4 5 14)
theorem Baf(hd:4<=d):R1 disp K d 52 (Atf K):=fun _=>rl H hd fun d hd=>V1 (Zg H) hd<|V1 (Es H) hd<|rfl
theorem Age(hd:5<=d):R2 disp K d 105 (Kz K):=fun _ _=>rl H hd fun d hd=>V2 (Gy H) hd<|V3 (Aia H) hd<|rfl
theorem Avu(hd:3<=d):S3 disp K d 106 Aro:=fun _ _ _=>rd rfl rfl H (V3 (At9 H) hd<|rfl)
theorem At4(hd:3<=d):S2 disp K d 133 Aof:=fun _ _=>rd rfl rfl H (V2 (Ar6 H) hd<|V3 (Arx H) hd<|rfl)
theorem A0p(hd:5<=d):R2 disp K d 140 (Ai0 K):=fun _ _=>rl H hd fun d hd=>V2 (Awv H) hd<|V1 (Arz H) hd<|V1 (Av9 H) hd<|V2 (Afg H) hd<|V2 (Acg H) hd<|V1 (Vf H) hd<|rfl
theorem A9d(hd:5<=d):R2 disp K d 141 (Ayl K):=fun _ _=>rl H hd fun d hd=>V1 (Av9 H) hd<|V2 (Afg H) hd<|V2 (Acg H) hd<|V1 (Agh H) hd<|rfl
theorem Vi(hd:5<=d):R5 disp K d 142 (Mg K):=fun _ _ _ _ _=>rl H hd fun d hd=>V1 (Agh H) hd<|V1 (Vf H) hd<|rfl
theorem Ao5(hd:5<=d):R2 disp K d 203 (Acs K):=fun _ _=>rl H hd fun d hd=>V1 (Vf H) hd<|V2 (Ax5 H) hd<|V3 (Pe H) hd<|V2 (Ah8 H) hd<|V1 (Ade H) hd<|rfl
theorem A24(hd:4<=d):S2 disp K d 212 A1u:=fun _ _=>ld rfl rfl H (V1 (Acp H) hd<|V3 (Aia H) hd<|V2 (A6q H) hd<|V1 (Aht H) hd<|V1 (A6n H) hd<|rfl) 207 (fun c r=>e4 (X4 c r K) 2 6 7 8)
theorem Aa8(hd:6<=d):R2 disp K d 65 (Nb K):=fun _ _=>rl H hd fun d hd=>V2 (Age H) hd<|rfl
theorem Aeq(hd:6<=d):R3 disp K d 79 (Qc K):=fun _ _ _=>rl H hd fun d hd=>V2 (Ix H) hd<|V2 (Age H) hd<|V3 (Axw H) hd<|rfl
theorem Baa(hd:6<=d):R4 disp K d 108 (Ayj K):=fun _ _ _ _=>rl H hd fun d hd=>V2 (A0p H) hd<|rfl
theorem A3r(hd:6<=d):R1 disp K d 109 (Aqn K):=fun _=>rl H hd fun d hd=>V2 (A9d H) hd<|V5 (Vi H) hd<|rfl
theorem Aqm(hd:6<=d):S2 disp K d 112 Akd:=fun _ _=>ld rfl rfl H (V2 (Aa8 H) hd<|rfl) 51 (fun c r=>e5 (Dr c r K) 0 3 4 26 27)
theorem Ao8(hd:5<=d):S4 disp K d 115 Ahz:=fun _ _ _ _=>ld rfl rfl H (V5 (Vi H) hd<|V2 (Wc H) hd<|rfl) 11 (fun c r=>e5 (He c r K) 0 2 3 5 8)
theorem Asl(hd:5<=d):S6 disp K d 177 Amg:=fun _ _ _ _ _ _=>rd rfl rfl H (V5 (Vi H) hd<|V2 (Ao5 H) hd<|rfl)
theorem A0f(hd:5<=d):S3 disp K d 184 Azv:=fun _ _ _=>ld rfl rfl H (V2 (Ao5 H) hd<|rfl) 207 (fun c r=>e5 (Uq c r K) 3 10 24 25 26)
omit H in
theorem Aix(c r:Ah)(K:Nat)(m:Nat):lpB false (Qg K c) c r K 12 6655 [(2,fun k tm h ds=>Hj c r K (k 5) (k 7) (k 9) h)] m=(fun m k tm h ds=>El c r K m (k 5) (k 7) (k 9) (k 72) (k 73) h) m:=
 Lp (E:=fun m k tm h ds=>El c r K m (k 5) (k 7) (k 9) (k 72) (k 73) h) rfl (fun m=>Avq fun k tm h ds=>by kernel_rfl) m
omit H in
theorem Ai1(c r:Ah)(K:Nat)(m:Nat):lpB false (Qg K c) c r K 12 3327 [(0,fun k tm h ds=>O7 c r K (k 1) (k 5) (k 7) (k 9) h)] m=(fun m k tm h ds=>Du c r K m (k 1) (k 5) (k 7) (k 9) (k 55) h) m:=
 Lp (E:=fun m k tm h ds=>Du c r K m (k 1) (k 5) (k 7) (k 9) (k 55) h) rfl (fun m=>Avq fun k tm h ds=>by kernel_rfl) m
theorem Aj9(hd:5<=d):S1 disp K d 12 Adh:=fun _=>rm (q:=false) (D:=Qg K (Ae TT disp K d false)) (by kernel_rfl) rfl rfl H (V1 (Ako H) hd<|V4 (A83 H) hd<|V1 (Fx H) hd<|V1 (Es H) hd<|V4 (Axh H) hd<|V1 (Bao H) hd<|V0 (Bdb H) hd<|V3 (A47 H) hd<|V1 (Baf H) hd<|V3 (A8g H) hd<|rfl) (cut [true,true,true,true,true,true,true,true,true,false,true,false] (Aix (Ae TT disp K d false) (Ae TT disp K d true) K K) (by kernel_rfl) (by kernel_rfl) (cut [true,true,true,true,true,true,true,true,false,true,false] (Ai1 (Ae TT disp K d false) (Ae TT disp K d true) K K) (by kernel_rfl) (by kernel_rfl) rfl))
theorem Aoj(hd:6<=d):S2 disp K d 18 Aiq:=fun _ _=>ld rfl rfl H (V2 (Aa8 H) hd<|V2 (H3 H) hd<|rfl) 207 (fun c r=>e8 (Dg c r K) 0 3 4 7 8 9 30 31)
theorem Axa(hd:6<=d):S3 disp K d 30 Ath:=fun _ _ _=>ld rfl rfl H (V2 (Acq H) hd<|V3 (Aeq H) hd<|V1 (Df H) hd<|rfl) 207 (fun c r=>e4 (P7 c r K) 0 1 2 10)
omit H in
theorem Ass(c r:Ah)(K:Nat)(m:Nat):lpB false (Adg K c) c r K 45 831 [(2,fun k tm h ds=>Aam c r K h)] m=(fun m k tm h ds=>K4 c r K m (k 0) (k 7) (k 55) (k 56) (k 57) h) m:=
 Lp (E:=fun m k tm h ds=>K4 c r K m (k 0) (k 7) (k 55) (k 56) (k 57) h) rfl (fun m=>Avq fun k tm h ds=>by kernel_rfl) m
omit H in
theorem Asj(c r:Ah)(K:Nat)(m:Nat):lpB false (Adg K c) c r K 45 415 [(0,fun k tm h ds=>Aaz c r K (k 0) (k 1) (k 7) h)] m=(fun m k tm h ds=>J8 c r K m (k 0) (k 1) (k 6) (k 7) (k 28) (k 29) (k 30) h) m:=
 Lp (E:=fun m k tm h ds=>J8 c r K m (k 0) (k 1) (k 6) (k 7) (k 28) (k 29) (k 30) h) rfl (fun m=>Avq fun k tm h ds=>by kernel_rfl) m
theorem Avr(hd:6<=d):S2 disp K d 45 Ark:=fun _ _=>rm (q:=false) (D:=Adg K (Ae TT disp K d false)) (by kernel_rfl) rfl rfl H (V2 (Aw6 H) hd<|V3 (Aeq H) hd<|rfl) (cut [true,true,true,true,true,true,false,true,false] (Ass (Ae TT disp K d false) (Ae TT disp K d true) K K) (by kernel_rfl) (by kernel_rfl) (cut [true,true,true,true,true,false,true,false] (Asj (Ae TT disp K d false) (Ae TT disp K d true) K K) (by kernel_rfl) (by kernel_rfl) rfl))
theorem Aqp(hd:6<=d):S4 disp K d 66 Ajg:=fun _ _ _ _=>rd rfl rfl H (V2 (Wc H) hd<|V1 (A3r H) hd<|V4 (Baa H) hd<|rfl)
theorem Akn(hd:6<=d):S2 disp K d 74 Ajj:=fun _ _=>rd rfl rfl H (V2 (Ix H) hd<|V3 (Aeq H) hd<|rfl)
end
end
noncomputable section
section
variable (c r:Ah)(K l:Nat)(k0:A0)(k1:A1)(k2:A2)(k3:A3)(k4:A4)(k5:A5)(k6:A6)(k7:A7)(k8:A8)(k9:A9)(k10:A10)(k11:A11)(k12:A12)(m0:B0)(m1:B1)(m2:B2)(m3:B3)(m4:B4)(m5:B5)(m6:B6)(m7:B7)(m8:B8)(m9:B9)(m10:B10)(m11:B11)(m12:B12)(base:Nat)(s:DX)(tm:Ax)(a b d e f g i j n o p q t u w x y z aa ab ad ae af ag ai aj an ao ap aq au aw ax ay az ba bb bd be bf bg bi bj bn bo bp bq bt bu bw bx bz da db dd de df dg di dj dn dp dq dt du dw dx dy dz ea eb ed ee ef eg ei ej en eo ep eq et eu ew ex ey ez fa fb fd fe ff fg fi fj fn fo fp fq ft fu fw fx fy fz ga gb gd ge gf gg gi gj gn go gp gq gt gu gw gx gy gz ia ib ie ig ii ij io ip iq it iu iw ix iy iz ja jb:EV)(h:Ab)(ds:List Nat)
def Aa3:Ru K (Ru r (Ru c R)):=
 some ((.bool true),h)
def Abf:Ru K (Ru r (Ru c R)):=
 Iz e fun f=>
 k4 a b d f h
def Aa4:R:=(.mk:Sg 0x165434004023287609e [a,b,d,e,f,g] h [Zc (Abf c r K k4)]).F
def Aa6:R:=(.mk:Sg 0x120201e00edc6102302e01e00ed61000615e802e01e2d2323e802e712e5212e5323e012e06e20ce85201223e012e06e212e55312e15e [a,b,d,e] h [c 47,cl6 (Aa4 c r K k4)] [] [List.replicate 32 (.int .u8 0)]).F
def Iw(c:Ah)(r:Ah)(K:Nat):Nat->A4
 | 0=>fun _ _ _ _ _=>none
 | m+1=>fun a b d e h=>
  cE Iq .lss 3 e d
  (Aa6 c r K (Iw c r K m) a b d e h)
  (Aa3 c r K h)
def Afs:R:=
 F3 b fun d=>
 Iw c r K K a b d (.int .i64 0) h
def E7:Ru K R:=
 some (a,h)
def Xf:Ru K R:=
 Iz d fun e=>
 k3 a b e h
def Xi:R:=
 Bv (Mv 1) (List.replicate 32 (.int .u8 0)) [] fun e=>
 Z8 32 b d fun f=>
 stE 32 f e h fun h=>
 Xf K k3 a b d h
def Fi(K:Nat):Nat->A3
 | 0=>fun _ _ _ _=>none
 | m+1=>fun a b d h=>
  oE 1 a h fun e=>
  oE 2 a h fun f=>
  A8q e f fun g=>
  cE Iq .lss 3 d g
  (Xi K (Fi K m) a b d h)
  (E7 K b h)
def Fk:R:=(.mk:Sg 0x1411025430031493023701e204 [a,b] h [Lz (Fi K K),Ey (E7 K)]).F
def Ya:Ru K R:=
 Iz f fun g=>
 k5 a b d e g h
def X5:R:=(.mk:Sg 0x1dcba95003212e64912e15e212e53114e204246e013e06e213e56413e15e [a,b,d,e,f] h [cl5 (Ya K k5)] [] [[.int .i64 0]++List.replicate 32 (.int .u8 0)]).F
def Fg(K:Nat):Nat->A5
 | 0=>fun _ _ _ _ _ _=>none
 | m+1=>fun a b d e f h=>
  cE Iq .lss 3 f e
  (X5 K (Fg K m) a b d e f h)
  (Fk K a b h)
def C9:R:=(.mk:Sg 0x135240002368530213e212153ae504e1023701e40452211001214e9 [a,b] h [cl0 (Cd (List.replicate 32 (.int .u8 0)) 49 32 0 []),D5 (E0 49 32),Ey (F9 K),cl5 (Fg K K),D5 (Fk K)]).F
abbrev O6(K:Nat)(c:Ah):Ah:=(w1 58 (F9 K) c)
end
variable{K d:Nat}(H:Bj disp)
include H
theorem Anw(hd:0<=d):S2 disp K d 28 Afs:=fun _ _=>ld rfl rfl H rfl 25 (fun c r=>e4 (Iw c r K) 0 9 10 11)
omit H in
theorem Ahd(c v r:Ah)(K:Nat)(m:Nat):lpB false (O6 K c) v r K 25 423 [(2,fun k tm h ds=>E7 K (k 5) h)] m=(fun m k tm h ds=>Fi K m (k 2) (k 5) (k 8) h) m:=
 Lp (E:=fun m k tm h ds=>Fi K m (k 2) (k 5) (k 8) h) rfl (fun m=>Avq fun k tm h ds=>by kernel_rfl) m
omit H in
theorem Agz(c v r:Ah)(K:Nat)(m:Nat):lpB false (O6 K c) v r K 25 211 [(0,fun k tm h ds=>Fk K (k 2) (k 5) h)] m=(fun m k tm h ds=>Fg K m (k 2) (k 5) (k 16) (k 17) (k 18) h) m:=
 Lp (E:=fun m k tm h ds=>Fg K m (k 2) (k 5) (k 16) (k 17) (k 18) h) rfl (fun m=>Avq fun k tm h ds=>by kernel_rfl) m
theorem Jd(hd:3<=d):R2 disp K d 25 (C9 K):=by
 obtain⟨d,rfl⟩:∃e,d=e+1:=⟨d-1,by omega⟩;have hd:=fH hd;exact fun _ _=>rm (q:=false) (D:=O6 K (Ae TT disp K d false)) (by kernel_rfl) rfl rfl H (V1 (Ua H) hd<|rfl) (cut [true,true,true,false,true,false,true,false] (Ahd (Ae TT disp K d false) (Ae TT disp K d false) (Ae TT disp K d true) K K) (by kernel_rfl) (by kernel_rfl) (cut [true,true,false,true,false,true,false] (Agz (Ae TT disp K d false) (Ae TT disp K d false) (Ae TT disp K d true) K K) (by kernel_rfl) (by kernel_rfl) rfl))
end
end Go.Ev
