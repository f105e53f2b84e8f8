import Derived.Test.YtokpnommcenoaaaGreatDb
import Derived.Test.YtokpnommcenoaaaGreatDa
set_option linter.all false
namespace Go.Ev
open Go.Proofs
set_option maxRecDepth 100000
set_option maxHeartbeats 4000000
variable {K d0:Nat}{disp:Nat->Option FT}
section
noncomputable section
section
variable (c r:Ai)(K l:Nat)(k0:A0)(k1:A1)(k2:A2)(k3:A3)(k4:A4)(k5:A5)(k6:A6)(k7:A7)(k8:A8)(k9:A9)(k10:A10)(k11:A11)(k12:A12)(m0:B0)(m1:B1)(m2:B2)(m3:B3)(m4:B4)(m5:B5)(m6:B6)(m7:B7)(m8:B8)(m9:B9)(m10:B10)(m11:B11)(m12:B12)(base:Nat)(s:DX)(tm:Ax)(a b d e f g i j n o p q t u w x y z aa ab ad ae af ag ai aj an ao ap aq au aw ax ay az ba bb bd be bf bg bi bj bn bo bp bq bt bu bw bx bz da db dd de df dg di dj dn dp dq dt du dw dx dy dz ea eb ed ee ef eg ei ej en eo ep eq et eu ew ex ey ez fa fb fd fe ff fg fi fj fn fo fp fq ft fu fw fx fy fz ga gb gd ge gf gg gi gj gn go gp gq gt gu gw gx gy gz ia ib ie ig ii ij io ip iq it iu iw ix iy iz ja jb:EV)(h:Ab)(ds:List Nat)
def Atw:R:=(.mk:Sg 0x1000e2c000e301c542c211a44210a301834230830162423063014142104301204327e9 [a,b] h [K4 (Eg K),E0 (fun a q=>Eg K a (.int .i64 6) q)]).F
def Avt:R:=(.mk:Sg 0x1002200e281e9818e2573007e22221618e21102e57565504b22201318e322310e265200b0ee [a] h [E0 (Vb [.int .i64 0,.int .i64 0,.int .i64 0,.int .i64 0,.int .i64 0,.int .i64 0] 53),Fi (Cz K),E0 (Vb [.int .i64 0] 3)] [cu3 (fun b e i=>Bu (D5 [(0,6),(6,1),(7,1)]) [.int .i64 0,.int .i64 0,.int .i64 0,.int .i64 0,.int .i64 0,.int .i64 0,.Ao,.Ao] [(0,b),(1,e),(2,i)])]).F
def An2:R:=(.mk:Sg 0x1511009e070200e62820fe2101265209e9 [a] h [Fi (Mo K),Fi (Avt K)]).F
def Aq0:Ru r R:=
 (fun(tm:Ax) (ds:List Nat)=>
 Py 42 a h fun e h=>
 Dr b h fun f=>
 Ap (Xm K f h) fun g h=>
 Q2 c TT 80 31 0 g (((tm.put 3 (some e)).put 6 (some f)).put 7 (some g)) h ds (fun h ds=>
 Fp ds h fun h=>some (.tuple [],h)) (fun id h ds=>
 Bb (Nat.beq 0 id) (Fp ds h fun h=>some (.tuple [],h)) (none)) (fun h ds=>
 Fp ds h fun h=>some (.tuple [],h))) (((Tr.nil.put 0 (some a)).put 1 (some b)).put 2 (some d)) []
def Jk:Ru K (Ru r (Ru c R)):=
 Yj a b fun d=>
 ifE d
 (Su l false .done (some .ret) h)
 (Su l true .ready none h)
def Lv:R:=(.mk:Sg 0x12022102521020fe5220130de00e2a540be [a,b,d,e] h [E0 (fun g b=>Rn c r g [b]),E0 (Jk c r K l)]).F
def Ln:R:=(.mk:Sg 0x12043240025434006509ea4a [a,b,d,e,f] h [Wd (Lv c r K l)]).F
def Px:R:=(.mk:Sg 0x12076435002a9765002324e30de52402e7d [a,b,d,e,f,g] h [cl5 (Ln c r K l)]).F
def Aau:R:=(.mk:Sg 0x1202765460025a9876002324e50de71403e2a10224e504 [a,b,d,e] h [cl6 (Px c r K l)]).F
def Ajx:R:=
 nsE 6 [(.int .i64 0),(.int .i64 0),(.int .i64 0),(.int .i64 0),(.int .i64 0),(.int .i64 0)] 53 e h fun f h=>
 Ff l h fun h=>Aau c r K l a b d f h
def Qw:R:=(.mk:Sg 0x123200e20ce2320f1e87732e5707b20de231e6b42115e273011e0ee [a,b,d] h [E0 (D8 K)]).F
def Ma(K:Nat)(base:Nat)(s:DX)(a:EV)(b:EV)(d:EV)(e:EV)(f:EV)(h:Ab):R:=
 Yj e f fun g=>
 ifE g
 (some (.tuple [(.int .i64 0),(.int .i64 33)],h))
 (Qw K a b d h)
def Yo:R:=
 Ts h fun base s=>
 Am8 0 3 7 base a s h fun s e=>
 X8 1 e b fun f=>
 Hb 6 63 base f s fun s=>Dr f h fun g=>
 Ds 7 127 s h (fun h=>(Ee K g h)) fun i h s=>
 A4m i (.int .i64 0) fun j=>
 wtE j
 (Ds 11 2047 s h (fun h=>(Ph K a h)) fun n h s=>
 Am8 2 15 29695 base a s h fun s o=>
 A7g n o fun p=>
 Ma K base s a b d j p h)
 (Ma K base s a b d j tU h)
def Pd:R:=(.mk:Sg 0x1354310200200e5212e43201410e9 [a,b,d] h [E0 (H4 K),K4 (Yo K)]).F
def Ai2:Ru r R:=(.mk:Sg 0x12221113032101 [a] h [c 172,Fi (Rf K)]).F
def Ac0:Ru K R:=(.mk:Sg 0x1402 [] h).F
def Ep(K:Nat)(base:Nat)(s:DX)(a:EV)(b:EV)(h:Ab):R:=
 Yj a b fun d=>
 some (d,h)
def Fq:R:=
 Yj b d fun e=>
 wtE e
 (olE 5 42 4398046511103 base a s h fun s f=>
 Atu f (.int .i64 4294967295) fun g=>
 Ep K base s e g h)
 (Ep K base s e tU h)
def Gu:R:=
 Yj b d fun e=>
 wtE e
 (olE 5 37 137438953471 base a s h fun s f=>
 A7g f (.int .i64 0) fun g=>
 Fq K base s a e g h)
 (Fq K base s a e tU h)
def Ij:R:=
 Yj b d fun e=>
 wtE e
 (olE 4 32 4294967295 base a s h fun s f=>
 Atu f (.int .i64 281474976710655) fun g=>
 Gu K base s a e g h)
 (Gu K base s a e tU h)
def Ko:R:=
 Yj b d fun e=>
 wtE e
 (olE 4 27 134217727 base a s h fun s f=>
 A7g f (.int .i64 1) fun g=>
 Ij K base s a e g h)
 (Ij K base s a e tU h)
def Kq:R:=
 Yj d e fun f=>
 wtE f
 (Hb 15 32767 base b s fun s=>Oc 6 b h fun g=>
 olE 1 17 98303 base a s h fun s i=>
 Ds 18 262143 s h (fun h=>(Eu K g i h)) fun j h s=>
 Hb 19 32767 base b s fun s=>Oc 6 b h fun n=>
 olE 2 21 1081343 base a s h fun s o=>
 Ds 22 4194303 s h (fun h=>(Eu K n o h)) fun p h s=>
 Auh j p fun q=>
 Ko K base s a f q h)
 (Ko K base s a f tU h)
def Kz:R:=
 ifE e
 (Oc 6 a h fun f=>
 oE 0 a h fun g=>
 Bu (D5 [(0,1),(1,1),(2,1),(3,1),(4,1),(5,1)]) [(.int .i64 0),(.int .i64 0),(.int .i64 0),(.int .i64 0),(.int .i64 0),(.int .i64 0)] [(0,g)] fun i=>
 Kv Ala (bin TT .eql 53) f i fun j=>
 some (j,h))
 (cE Ala .eql 3 d (.int .i64 1)
 (Ts h fun base s=>
 Hb 0 0 base b s fun s=>Oc 6 b h fun n=>
 olE 1 2 2 base a s h fun s o=>
 olE 3 4 8 base a s h fun s p=>
 Ds 5 31 s h (fun h=>(Mp K n o p h)) fun q h s=>
 wtE q
 (Hb 7 127 base b s fun s=>Oc 6 b h fun t=>
 olE 2 9 383 base a s h fun s u=>
 olE 3 11 1151 base a s h fun s w=>
 Ds 12 4095 s h (fun h=>(Mp K t u w h)) fun x h s=>
 Kq K base s a b q x h)
 (Kq K base s a b q tU h))
 (Ac0 K h))
def Jd:R:=(.mk:Sg 0x1245640030324e234540072800224e304409e9227e9 [a,b] h [Wd (Kz K)]).F
def Ac2:Ru K (Ru r R):=(.mk:Sg 0x16543100ee040200e60ee0215e701e62201203 [a,b,d,e] h [c 197,K4 k3]).F
def Acg:R:=(.mk:Sg 0x17654410540200ea2162114e622319e41c06e0ee0215e701e0050200e422623fff4f00e17ea22319e81c2a2007e21f83f9010e622319e41c0ee1be00215e701e623301445 [a,b,d,e] h [c 236,Wd (Ac2 c r K k3)] [cu2 (fun e n=>Bu (D5 [(0,1),(1,1)]) [.int .i64 0,.int .i64 0] [(0,e),(1,n)])]).F
def Kw(c:Ai)(r:Ai)(K:Nat):Nat->A3
 | 0=>fun _ _ _ _=>none
 | m+1=>fun a b d h=>
  Ap (Ra K a b h) fun e h=>
  cE Ala .eql 3 e (.int .i64 (-1))
  (some (.tuple [(.bool false),(.int .i64 0)],h))
  (Acg c r K (Kw c r K m) a b d e h)
def Ai0:R:=
 Py 163 d h fun e h=>
 Kw c r K K a b e h
def T5:Ru K (Ru r (Ru c R)):=
 some (a,h)
def Ai1:R:=(.mk:Sg 0x1213031300065321b00215e701e5221130332201 [a,b] h [c 102,E0 (Rv K),K4 (X2 K),Fi (T5 c r K)]).F
def Aao:Ru K (Ru r (Ru c R)):=
 J6 e fun f=>
 k4 a b d f h
def Aag:R:=(.mk:Sg 0x18765410000e22820fe26330153116e [a,b,d,e] h [K4 (fun a e f=>Rn c r a [e,f]),Wd (Aao c r K k4)]).F
def Ju(c:Ai)(r:Ai)(K:Nat):Nat->A4
 | 0=>fun _ _ _ _ _=>none
 | m+1=>fun a b d e h=>
  cE K7 .lss 3 e d
  (Aag c r K (Ju c r K m) a b d e h)
  (some (.tuple [],h))
def Ahi:R:=(.mk:Sg 0x100235410213e210130de [a,b] h [Fi (S7 K),Wd (Ju c r K K)]).F
def Ah1:Ru r R:=(.mk:Sg 0x1225221130332201 [a,b] h [c 102,E0 (Pr K)]).F
def Aha:Ru r R:=(.mk:Sg 0x1000e000e21419039c023701e000ec0233331e67902e5210e973011e0ee08e6023701e000e60233331e67902e5210e973011e0ee08e3023701e000e2a221836e5a1023701e714321623ff3fa17e72c242170e772101618e336e5305b300e4211e0ee312e9 [a,b] h [Fi (fun f=>Cd (List.replicate 4 (.int .i64 0)++List.replicate 64 (.int .u8 0)) 32 68 1 [(0,f)]),E0 (Em 32 68),c 251,K4 (O2 K),Fi (Rc K)]).F
def Alz:Ru r R:=(.mk:Sg 0x12010e71204e3732e620ce76231140343201010e05e [a,b,d] h [c 102,K4 (Ta K)] [] [List.replicate 64 (.int .u8 0)]).F
def N4:R:=(.mk:Sg 0x12201267e403e42201269e9 [a,b] h [E0 (fun d b=>Aee K d (.int .u32 4294967295) b)] [] [] [(.int .u32 4294967295)]).F
def Yc:Ru K (Ru r (Ru c R)):=(.mk:Sg 0x1002002164fdec62163fcec42162fbec [a,b,d] h).F
def Wl:R:=(.mk:Sg 0x13473100fe023212e421ae20ce21012f9e3 [a] h [Fi (Xb K),K4 (Yc c r K)]).F
def Pv:R:=(.mk:Sg 0x14110222212e2101203 [a] h [c 140,Fi (Wl c r K)]).F
def La:R:=(.mk:Sg 0x13100002328430be [a,b,d] h [Fi (Pv c r K)]).F
def Acl:R:=(.mk:Sg 0x120243002683002420e22451c4fde304e2a01225e2fbe3 [a] h [K4 (La c r K)] [] [] [(.int .i64 (-1))]).F
def Acr:R:=(.mk:Sg 0x150e7e09e1204e209e1ee609e1ee54224107e1107e20ce01e131200e22121007ed614e230b311b5423093119442107311734210531152423201314015e3f05e [a,b,d] h [E0 (fun e f=>Eg K e (.int .i64 6) f),K4 (Eg K),E0 (Qc K),Fi (N5 K),builtin TT .copy #[184,184]] [cu1 (fun w=>Qi 32 1 w none none none),cu1 (fun d=>Qi 44 1 d none none none)] [[.Ao,.bool false]]).F
def Ov:R:=(.mk:Sg 0x156731000e00e7e71204e271ee651ee501e2820fe2101418e50e7e05e0e7e05e2bde9 [a] h [Fi (Q8 K),K4 (Acr K)] [] [List.replicate 44 (.int .u8 0)]).F
def Ag4:Ru K R:=(.mk:Sg 0x1002200e23211432007e001 [a,b] h [cl0 (Cd [.int .u8 0] 5 1 0 []),E0 (Em 5 1)] [cu2 (fun a b=>Aik 1 a none (some b) none)]).F
def Agr:Ru K R:=
 J6 g fun i=>
 k6 a b d e f i h
def Ahe:R:=
 Af0 (bin TT .shr 117) d (.int .u64 8) fun i=>
 Agr K k6 a b i e f g h
def Agi:R:=(.mk:Sg 0x198765460001e0b0200e6235801e51007e75116e [a,b,d,e,f,g] h [cl6 (Ahe K k6)] [cu1 (fun d=>Sj .u8 d)]).F
def Nt(K:Nat):Nat->A6
 | 0=>fun _ _ _ _ _ _ _=>none
 | m+1=>fun a b d e f g h=>
  cE K7 .lss 3 g f
  (Agi K (Nt K m) a b d e f g h)
  (Ag4 K a b h)
def Ahk:R:=(.mk:Sg 0x10023497610213e752107e232001e47532007e3f2e5300b0ee [a,b,d] h [E0 (N4 K),cl6 (Nt K K)] [cu2 (fun a d=>Aik 1 a none (some d) none),cu2 (fun a d=>Aik 1 a (some d) none none)]).F
def Wh:R:=(.mk:Sg 0x124630004e0b0200e60023301ec021ee413e269e9 [a,b] h [K4 (Ahk K)]).F
def Xv:R:=(.mk:Sg 0x1222a221246843121307e21967e603e21207e11767e603e21107e01567e603e41007e72221011522012f2e5269e9 [a,b] h [E0 (N4 K),cl0 (Cd [.int .u8 0] 5 1 0 []),E0 (Em 5 1),Wd (fun j o q u=>Cd [.int .u8 0] 5 1 4 [(0,j),(1,o),(2,q),(3,u)])] [cu1 (fun f=>Sj .u8 f),cu1 (fun n=>Sj .u8 n),cu1 (fun p=>Sj .u8 p),cu1 (fun t=>Sj .u8 t)] [] [(.int .u64 8),(.int .u64 16),(.int .u64 24)]).F
def At9:R:=(.mk:Sg 0x1e7e31104e231ee63101 [a,b] h [Fi (Ajr K)]).F
def Aua:Ru K R:=
 J6 f fun g=>
 k5 a b d e g h
def Aup:R:=(.mk:Sg 0x102e01e00edc520200e211265327e0606e20ce25201921de2301fe1031ee334 [a,b,d,e,f] h [E0 (Jq K),E0 (Atw K),cl5 (Aua K k5)] [] [[.int .i64 0,.int .i64 0,.int .i64 0,.int .i64 0,.int .i64 0,.int .i64 0]]).F
def Xt(K:Nat):Nat->A5
 | 0=>fun _ _ _ _ _ _=>none
 | m+1=>fun a b d e f h=>
  cE K7 .lss 3 f (.int .i64 2)
  (Aup K (Xt K m) a b d e f h)
  (At9 K d e h)
def Apv:R:=(.mk:Sg 0x10035685107102301215e3f90007e0e7e05e295e9 [a,b] h [K4 (Eg K),cl5 (Xt K K)] [cu0 (Bu (D5 [(0,1),(1,1)]) [.Ao,.bool false] [])] [List.replicate 44 (.int .u8 0)]).F
def Si:Ru K (Ru r (Ru c R)):=
 some (.tuple [a,b],h)
def Ag8:R:=(.mk:Sg 0x12323056230232214b2007e93304e00215e701e20ce2733131e67432e5405b473011e0ee43201410e9 [a,b,d] h [c 102,K4 (Pd K),builtin TT .delete #[147,179],E0 (Si c r K)] [cu2 (fun b n=>Bu (D5 [(0,1),(1,1)]) [.int .i64 0,.int .i64 0] [(0,b),(1,n)])]).F
def Alp:R:=(.mk:Sg 0x10023266271e717e93615e965905b673611e0ee102531166523201565 [a,b,d,e] h [E0 (fun a f=>R6 K a f (.int .i64 (-1))),K4 (R6 K)]).F
def K8:R:=(.mk:Sg 0x17bdc42000e0232820fe242111e57265200e4b80c665600b0ee322312e327e0606e20ce43201427e9 [a,b,d] h [E0 (Jq K),E0 (Jd K),Wd (Alp K)] [] [[.int .i64 0,.int .i64 0,.int .i64 0,.int .i64 0,.int .i64 0,.int .i64 0]]).F
def Agw:Ru r (Ru c R):=(.mk:Sg 0x1222533031e67565505b273211e0ee [a,b,d] h [K4 (K8 K)]).F
def Af9:R:=(.mk:Sg 0x12ba310322312e426622fff4f00e17e027e05ed18e20ce26201ff3f972633007e612e5607b210e5210e23c0ee [a,b,d] h [c 127,K4 (Agw c r K)] [cu3 (fun f b g=>Bu (D5 [(0,1),(1,1),(2,1),(3,1),(4,1),(5,1),(6,32)]) (List.replicate 6 (.int .i64 0)++List.replicate 32 (.int .u8 0)) [(0,.int .i64 3),(1,f),(2,.int .i64 1),(3,b),(6,g)])] [[.int .i64 0,.int .i64 0,.int .i64 0,.int .i64 0,.int .i64 0,.int .i64 0]]).F
def Xq:R:=(.mk:Sg 0x132222b33210007e82300e10e0315e701e298310600315e701e4212e622ff3fa17e047e05e918e20ce232011e57565504b273011e0ee [a,b,d] h [c 193,K4 (Af9 c r K),K4 (K8 K)] [cu0 (Bu (D5 [(0,1),(1,1),(2,1),(3,1),(4,1),(5,1)]) [.int .i64 0,.int .i64 0,.int .i64 0,.int .i64 0,.int .i64 0,.int .i64 0] [(0,.int .i64 2)])] [List.replicate 32 (.int .u8 0)]).F
def Aoa:R:=(.mk:Sg 0x139831000231023801e204327e0606e20ce42201223 [a,b] h [E0 (Jq K),K4 (Xq c r K)] [] [[.int .i64 0,.int .i64 0,.int .i64 0,.int .i64 0,.int .i64 0,.int .i64 0]]).F
def K9(K:Nat)(base:Nat)(s:DX)(a:EV)(b:EV)(h:Ab):R:=
 Yj a b fun d=>
 some (d,h)
def K1:R:=
 Py 53 b h fun d h=>
 Ts h fun base s=>
 olE 0 1 1 base d s h fun s e=>
 A4m e (.int .i64 1) fun f=>
 wtE f
 (Hb 4 15 base d s fun s=>Oc 6 d h fun g=>
 noE 1 a fun i=>
 Hb 8 239 base i s fun s=>Oc 6 i h fun j=>
 Ds 9 511 s h (fun h=>(Jd K g j h)) fun n h s=>
 K9 K base s f n h)
 (K9 K base s f tU h)
def Yy:Ru K (Ru r (Ru c R)):=(.mk:Sg 0x110e0047e31204e2312e60007e [a] h [] [cu0 (Bu (Nc 1) (List.replicate 32 (.int .u8 0)) [])]).F
def L8:Ru K (Ru r (Ru c R)):=
 J6 f fun g=>
 k5 a b d e g h
def Q1:R:=(.mk:Sg 0x1985435008047e61204e2612e6612e500e28a909e [a,b,d,e,f,g,i,j,n] h [cl5 (L8 c r K k5)]).F
def Q3:R:=(.mk:Sg 0x120404e03e3202e01e00e9102505e04e4303e02e01e91000315e802e04e4d447e112e06e421ae20ce246940120de1051219e20de0031219e565239e0206e652007e [a,b,d,e,f] h [c 180,cl9 (Q1 c r K k5)] [cu2 (fun e f=>Aw0 2 2 true 2 e f)] [[.int .i64 0,.int .i64 0],List.replicate 32 (.int .u8 0)]).F
def Dl(c:Ai)(r:Ai)(K:Nat):Nat->A5
 | 0=>fun _ _ _ _ _ _=>none
 | m+1=>fun a b d e f h=>
  cE K7 .lss 3 f (.int .i64 2)
  (Q3 c r K (Dl c r K m) a b d e f h)
  (Yy c r K d h)
def Yt:R:=(.mk:Sg 0x1002ba9500252207e232107e714624232007e424314 [a,b,d] h [cl5 (Dl c r K K)] [cu2 (fun e f=>Bu (Nc 1) [.int .i64 0,.int .i64 0] [(0,e),(1,f)]),cu2 (fun i j=>Bu (Nc 1) [.int .i64 0,.int .i64 0] [(0,i),(1,j)]),cu2 (fun g n=>Bu (Nc 2) [.int .i64 0,.int .i64 0,.int .i64 0,.int .i64 0] [(0,g),(1,n)])]).F
def Afr:R:=(.mk:Sg 0x156731000e0047e61204e2612e60007e01e2820fe25201365047e05e327e9 [a,b] h [E0 (K1 K),K4 (Yt c r K)] [cu0 (Bu (Nc 1) (List.replicate 32 (.int .u8 0)) [])] [List.replicate 32 (.int .u8 0)]).F
def Abc:Ru K R:=(.mk:Sg 0x1000e9e31204e2323e6323e5 [a,b] h).F
def Hr:R:=(.mk:Sg 0x14320000e00e9e41204e2423e60007e01e285409e [a,b,d,e] h [E0 (Abc K)] [cu0 (Bu (D5 [(0,1),(1,1),(2,1),(3,1),(4,1),(5,44)]) (List.replicate 5 (.int .i64 0)++List.replicate 44 (.int .u8 0)) [])]).F
def J2:R:=(.mk:Sg 0x12026540026a94002421e251ee52441405e2d7609e [a,b,d,e,f,g] h [Wd (Hr K)]).F
def Nq:R:=(.mk:Sg 0x120265436002487656004222e41401e2d7609e [a,b,d,e,f,g] h [cl6 (J2 K)]).F
def Kc:R:=(.mk:Sg 0x12023cd04e62025601e02e07e62020fe2111323e504e2d00715e802e2e9e023e06e201e00edc36007e31ee58043e7e11ee06e20ce2101318e50e9e05e2bde9 [a,b,d,e,f] h [Fi (Ov K),Fi (J7 K),cl6 (Nq K)] [cu6 (fun t b d e f u=>Bu (D5 [(0,1),(1,1),(2,1),(3,1),(4,1),(5,44)]) (List.replicate 5 (.int .i64 0)++List.replicate 44 (.int .u8 0)) [(0,t),(1,b),(2,d),(3,e),(4,f),(5,u)])] [List.replicate 5 (.int .i64 0)++List.replicate 44 (.int .u8 0),List.replicate 44 (.int .u8 0)]).F
def Avu:Ru K R:=(.mk:Sg 0x1000bde31204e2318e6318e5 [a,b] h).F
def Agt:R:=(.mk:Sg 0x14320000e00bde41204e2418e60007e01e285409e [a,b,d,e] h [E0 (Avu K)] [cu0 (Bu (D5 [(0,1),(1,1),(2,1),(3,1),(4,1),(5,1),(6,32)]) (List.replicate 6 (.int .i64 0)++List.replicate 32 (.int .u8 0)) [])]).F
def Asx:R:=(.mk:Sg 0x1202c07e4602501e0ae46023e7e802e09e1ee531ee504e2d00315e802e3e7e11ee06e20ce2151618e5232401e470ce0b2343721207e2614e0ee2bde018e06e23456b6107e3062213052211042211032212111210131007e0bde05e3e7e9 [a,b] h [Fi (Aiv K),Fi (fun g=>Jj K g (.int .i64 6)),E0 (Jj K),E0 (Lu K),builtin TT .copy #[184,184],Fi (Ov K),Wd (Agt K)] [cu1 (fun d=>Qi 44 1 d none none none),cu6 (fun a i j n o p=>Bu (D5 [(0,1),(1,1),(2,1),(3,1),(4,1),(5,1),(6,32)]) (List.replicate 6 (.int .i64 0)++List.replicate 32 (.int .u8 0)) [(0,a),(1,i),(2,j),(3,n),(4,o),(5,p)]),cu1 (fun u=>Qi 32 1 u none none none)] [List.replicate 6 (.int .i64 0)++List.replicate 32 (.int .u8 0),List.replicate 44 (.int .u8 0)]).F
def Al1:Ru K R:=(.mk:Sg 0x1000e9e31204e2323e6323e5 [a,b] h).F
def Us:R:=(.mk:Sg 0x14320000e00e9e41204e2423e60007e01e285409e [a,b,d,e] h [E0 (Al1 K)] [cu0 (Bu (D5 [(0,1),(1,1),(2,1),(3,1),(4,1),(5,44)]) (List.replicate 5 (.int .i64 0)++List.replicate 44 (.int .u8 0)) [])]).F
def Ux:R:=(.mk:Sg 0x120253410247541000215e802e410103e2d6509e [a,b,d,e,f] h [Fi (Q5 K),Wd (Us K)]).F
def Als:R:=(.mk:Sg 0x120202e05e06e5602505e08e09e56020fe215102e23e503e2d1000e25e232401e4713e002e2343721107eb514e0ee6216a414e62169314e62168214e62167114e9121c082113072113062111052112e9e023e06e21007e1022113101 [a,b] h [Fi (Aiv K),E0 (Jj K),Fi (fun d=>Jj K d (.int .i64 6)),E0 (Lu K),builtin TT .copy #[184,184],Fi (J7 K),cl5 (Ux K)] [cu1 (fun e=>Bu (D5 [(0,1),(1,1),(2,1),(3,1),(4,1),(5,44)]) (List.replicate 5 (.int .i64 0)++List.replicate 44 (.int .u8 0)) [(0,e)]),cu1 (fun x=>Qi 44 1 x none none none)] [List.replicate 5 (.int .i64 0)++List.replicate 44 (.int .u8 0)]).F
def Adu:R:=(.mk:Sg 0x13721030e9e81204e2823e60107e00e212e20ce232032741007e4f2e5400b0ee0e9e05e410e9269e9 [a,b] h [E0 (Wh K),E0 (Als K)] [cu1 (fun e=>Qi 64 1 e none none none),cu0 (Bu (D5 [(0,1),(1,1),(2,1),(3,1),(4,1),(5,44)]) (List.replicate 5 (.int .i64 0)++List.replicate 44 (.int .u8 0)) [])] [List.replicate 5 (.int .i64 0)++List.replicate 44 (.int .u8 0)]).F
def Aln:R:=(.mk:Sg 0x100010e71204e2732e6232e5232e26e522012f2e5 [a,b,d] h [E0 (Xv K)]).F
def Al2:R:=(.mk:Sg 0x1308e06e3403010e09e1204e209e32e60107e00e212e20ce02e131201e22121007e01e514e2c211d442c0a301b3423083019242306301714101043012103301404015e3f05e [a,b,d] h [K4 (Eg K),E0 (fun e u=>Eg K e (.int .i64 6) u),E0 (Qc K),Fi (N5 K),K4 (Aln K)] [cu1 (fun x=>Qi 44 1 x none none none),cu0 (Bu (Nc 1) (List.replicate 64 (.int .u8 0)) [])] [[.Ao,.bool false]]).F
def Wu:R:=(.mk:Sg 0x156731000e0010e61204e2632e60007e01e2820fe2101323e5010e05e4e9e9269e9 [a,b] h [Fi (J7 K),K4 (Al2 K)] [cu0 (Bu (Nc 1) (List.replicate 64 (.int .u8 0)) [])] [List.replicate 64 (.int .u8 0)]).F
def An4:Ru K (Ru r (Ru c R)):=(.mk:Sg 0x1002200e [a] h).F
def Apb:Ru K (Ru r (Ru c R)):=
 J6 e fun f=>
 k4 a b d f h
def Anf:R:=(.mk:Sg 0x1d2ba4302b2212111823e5521ee67514e92166214e802165014e62201245 [a,b,d,e] h [E0 (Apv K),Fi (fun o=>Cd (List.replicate 5 (.int .i64 0)++List.replicate 44 (.int .u8 0)) 247 49 1 [(0,o)]),E0 (Em 247 49),Wd (Apb c r K k4)]).F
def So(c:Ai)(r:Ai)(K:Nat):Nat->A4
 | 0=>fun _ _ _ _ _=>none
 | m+1=>fun a b d e h=>
  oE 3 a h fun f=>
  Ap (Nz K f h) fun g h=>
  Ap (Qe K g h) fun i h=>
  cE K7 .lss 3 e i
  (Anf c r K (So c r K m) a b d e h)
  (An4 c r K d h)
def Aor:R:=(.mk:Sg 0x11024b4202111223e53223e621ff3f917e0e9e05e818e24564007e21012e67545505b484010e322110e0ee [a,b] h [Fi (Apq K),Fi (fun n=>Cd (List.replicate 5 (.int .i64 0)++List.replicate 44 (.int .u8 0)) 247 49 1 [(0,n)]),Wd (So c r K K)] [cu4 (fun a d e g=>Bu (D5 [(0,1),(1,1),(2,1),(3,1),(4,1),(5,44)]) (List.replicate 5 (.int .i64 0)++List.replicate 44 (.int .u8 0)) [(0,.int .i64 4),(1,a),(3,d),(4,e),(5,g)])] [List.replicate 5 (.int .i64 0)++List.replicate 44 (.int .u8 0)]).F
def Ao5:R:=(.mk:Sg 0x14320000e0b0200e6285409e [a,b,d,e] h [E0 (Aor c r K)]).F
def Awr:R:=(.mk:Sg 0x120257430269b43020fe0092321211153409e2d20fe2101245295e9 [a,b] h [c 159,Fi (Nz K),K4 (Mp K),Wd (Ao5 c r K)]).F
def Gr:Ru r (Ru c R):=(.mk:Sg 0x12224534010007e [a,b,d] h [Wd (Aok K)] [cu0 (Bu (D5 [(0,1),(1,1),(2,1)]) [.int .i64 0,.int .i64 0,.int .i64 0] [(1,.int .i64 1),(2,.int .i64 1)])]).F
def Ml:Ru K (Ru r (Ru c R)):=
 J6 f fun g=>
 k5 a b d e g h
def Tu:R:=(.mk:Sg 0x187654530a987653092221411103e2820fe64201 [a,b,d,e,f] h [c 20,Fi (Bw K),c 67,cl5 (Ml c r K k5)]).F
def Ec(c:Ai)(r:Ai)(K:Nat):Nat->A5
 | 0=>fun _ _ _ _ _ _=>none
 | m+1=>fun a b d e f h=>
  cE K7 .lss 3 f e
  (Tu c r K (Ec c r K m) a b d e f h)
  (Gr c r K a b d h)
def Mm:R:=(.mk:Sg 0x10027655102101265 [a,b,d,e] h [Fi (Cz K),cl5 (Ec c r K K)]).F
def Tt:Ru K (Ru r (Ru c R)):=
 J6 f fun g=>
 k5 a b d e g h
def Tp:R:=(.mk:Sg 0x1cba9851025ba40120ae291fe414271fe214 [a,b,d,e,f] h [Wd (Sq K),cl5 (Tt c r K k5)]).F
def Dq(c:Ai)(r:Ai)(K:Nat):Nat->A5
 | 0=>fun _ _ _ _ _ _=>none
 | m+1=>fun a b d e f h=>
  cE K7 .lss 3 f (.int .i64 3)
  (Tp c r K (Dq c r K m) a b d e f h)
  (Mm c r K a b d e h)
def Lm:R:=
 Ap (Ao2 K b h) fun e h=>
 Dq c r K K a b d e (.int .i64 0) h
def Ss:R:=(.mk:Sg 0x15433007023286509e [a,b,d,e,f] h [K4 (Lm c r K)]).F
def R8:R:=(.mk:Sg 0x120248c5302359d53000315e802e00e2d00615e802e20ce212176520ce2353173700027265201b0ee [a,b] h [cl0 (A4e K),K4 (Aey K),Fi (An2 K),cl5 (Ss c r K)]).F
def Rz:R:=(.mk:Sg 0x1392207023212e20ce2343131e67502e5510e443210e210117265200b0ee [a] h [Fi (Cz K),K4 (Ana K),E0 (R8 c r K)]).F
def H3:R:=(.mk:Sg 0x131007023284309e [a,b,d] h [Fi (Rz c r K)]).F
def Xa:R:=(.mk:Sg 0x1202531026931015e0222e231fe61450405e2d20fe2101265209e9 [a] h [Fi (H9 K),K4 (H3 c r K)]).F
abbrev N6(K:Nat)(c:Ai):Ai:=(w1 61 (H9 K) (w4 68 (Aok K) (w1 17 (Bw K) (w1 15 (Cz K) (w4 66 (Sq K) (w1 65 (Ao2 K) (w0 63 (A4e K) (w3 62 (Aey K) (w1 64 (An2 K) (w3 43 (Ana K) c))))))))))
def Vf:Ru K (Ru r (Ru c R)):=(.mk:Sg 0x1002 [] h).F
def Afo:Ru K (Ru r (Ru c R)):=
 J6 f fun g=>
 k5 a b d e g h
def Aeu:R:=(.mk:Sg 0x100edcba510245303ff3fa726521c03f9bb8615e302e5010e573211e0ee262e013e06e213e56413e15e [a,b,d,e,f] h [K4 (K8 K),cl5 (Afo c r K k5)] [] [[.int .i64 0]++List.replicate 32 (.int .u8 0)]).F
def Jl(c:Ai)(r:Ai)(K:Nat):Nat->A5
 | 0=>fun _ _ _ _ _ _=>none
 | m+1=>fun a b d e f h=>
  cE K7 .lss 3 f e
  (Aeu c r K (Jl c r K m) a b d e f h)
  (Vf c r K h)
def U3:R:=
 Hz b fun e=>
 Jl c r K K a d b e (.int .i64 0) h
def Aef:Ru K (Ru r (Ru c R)):=
 J6 i fun j=>
 k7 a b d e f g j h
def Aen:R:=(.mk:Sg 0x1cba2765720272112101665 [a,b,d,e,f,g,i,j] h [Fi (fun n=>Cd [.int .i64 0,.int .i64 0,.int .i64 0,.int .i64 0,.int .i64 0,.int .i64 0] 53 6 1 [(0,n)]),E0 (Em 53 6),cl7 (Aef c r K k7)]).F
def Aeq:R:=(.mk:Sg 0x106e05e04e203e02e01e00e810322312e327e1606e20ce2a201245b4007e212e54114e304613e262e013e06e213e58613e15e [a,b,d,e,f,g,i] h [c 127,cl8 (Aen c r K k7)] [cu4 (fun d p q u=>Bu (D5 [(0,1),(1,1),(2,1),(3,1),(4,1),(5,1),(6,32)]) (List.replicate 6 (.int .i64 0)++List.replicate 32 (.int .u8 0)) [(0,.int .i64 1),(1,d),(2,p),(3,q),(6,u)])] [[.int .i64 0]++List.replicate 32 (.int .u8 0),[.int .i64 0,.int .i64 0,.int .i64 0,.int .i64 0,.int .i64 0,.int .i64 0]]).F
def Iq(c:Ai)(r:Ai)(K:Nat):Nat->A7
 | 0=>fun _ _ _ _ _ _ _ _=>none
 | m+1=>fun a b d e f g i h=>
  cE K7 .lss 3 i g
  (Aeq c r K (Iq c r K m) a b d e f g i h)
  (U3 c r K a b e h)
def Adk:R:=(.mk:Sg 0x10026b0365700513e22423c [a,b] h [cl7 (Iq c r K K)]).F
def Ac6:R:=(.mk:Sg 0x143210222212e2101 [a,b] h [c 126,E0 (Adk c r K)]).F
def Al3:R:=(.mk:Sg 0x15421003e0232820fe32201 [a,b] h [E0 (Wm K),E0 (Ac6 c r K)]).F
abbrev Xp(K:Nat)(c:Ai):Ai:=(w2 125 (Wm K) (w3 128 (K8 K) c))
def Ag9:Ru K (Ru r (Ru c R)):=(.mk:Sg 0x1002 [] h).F
def Agx:Ru K (Ru r (Ru c R)):=
 J6 e fun f=>
 k4 a b d f h
def Aht:R:=(.mk:Sg 0x187654102733010007e223 [a,b,d,e] h [K4 (K8 K),Wd (Agx c r K k4)] [cu0 (Bu (D5 [(0,1),(1,1),(2,1),(3,1),(4,1),(5,1)]) [.int .i64 0,.int .i64 0,.int .i64 0,.int .i64 0,.int .i64 0,.int .i64 0] [])]).F
def Na(c:Ai)(r:Ai)(K:Nat):Nat->A4
 | 0=>fun _ _ _ _ _=>none
 | m+1=>fun a b d e h=>
  A8q b d fun f=>
  cE K7 .lss 3 e f
  (Aht c r K (Na c r K m) a b d e h)
  (Ag9 c r K h)
def Af5:R:=
 Na c r K K a b d b h
def Age:R:=(.mk:Sg 0x1ba9310322312e327e0606e20ce252016523007e22423c [a,b,d] h [c 127,K4 (Af5 c r K)] [cu3 (fun f b d=>Bu (D5 [(0,1),(1,1),(2,1),(3,1),(4,1),(5,1),(6,32)]) (List.replicate 6 (.int .i64 0)++List.replicate 32 (.int .u8 0)) [(0,.int .i64 2),(1,f),(2,.int .i64 1),(3,b),(4,d)])] [[.int .i64 0,.int .i64 0,.int .i64 0,.int .i64 0,.int .i64 0,.int .i64 0]]).F
def Ahz:R:=(.mk:Sg 0x1543310222212e2101 [a,b,d] h [c 126,K4 (Age c r K)]).F
def Mt:R:=(.mk:Sg 0x154330003e023286509e [a,b,d,e,f] h [K4 (Ahz c r K)]).F
def Rs:R:=(.mk:Sg 0x120254351027a985102922e721ee21007e21013030be2d6509e [a,b,d,e,f] h [Fi (Bz K),cl5 (Mt c r K)] [cu1 (fun j=>Aii 3 false 0 j)]).F
def Ao4:R:=(.mk:Sg 0x12026545102376551010620ec2d20fe32201 [a,b,d] h [E0 (Un K),cl5 (Rs c r K)]).F
def Lb:Ru K (Ru r (Ru c R)):=(.mk:Sg 0x10005047e31304e2312e6312e5 [a,b,d] h).F
def Wx:R:=(.mk:Sg 0x143230010e0000047e31304e2312e60007e04e0053701e [a,b,d,e] h [K4 (Lb c r K)] [cu0 (Bu (Nc 1) (List.replicate 32 (.int .u8 0)) [])]).F
def H2:Ru K (Ru r (Ru c R)):=
 J6 j fun n=>
 k8 a b d e f g i n h
def Xl:R:=(.mk:Sg 0x103e02e6cba9881004e03e72cba9810c0aed2820fe2620120de00a1219e80ae2612e6912e5 [a,b,d,e,f,g,i,j,n,o] h [E0 (C9 K),cl8 (H2 c r K k8)]).F
def Xw:R:=
 Afz n fun q=>
 ifE q
 (H2 c r K k8 a b d e f g o p h)
 (Xl c r K k8 a b d e f g i j o p h)
def Pq:R:=(.mk:Sg 0x107e06e42c05e04e03e02e01e00eb104000047e03e1304e203e12e60107e03e312e447e112e06e421ae20ce246940120de1051219e20de0031219e565239e0206e982007e [a,b,d,e,f,g,i,j] h [c 180,Bo6 (Xw c r K k8)] [cu2 (fun i j=>Aw0 2 2 true 2 i j),cu0 (Bu (Nc 1) (List.replicate 32 (.int .u8 0)) [])] [[.int .i64 0,.int .i64 0],List.replicate 32 (.int .u8 0)]).F
def Db(c:Ai)(r:Ai)(K:Nat):Nat->A8
 | 0=>fun _ _ _ _ _ _ _ _ _=>none
 | m+1=>fun a b d e f g i j h=>
  cE K7 .lss 3 j (.int .i64 2)
  (Pq c r K (Db c r K m) a b d e f g i j h)
  (Wx c r K d e f g h)
def Xr:R:=(.mk:Sg 0x100200009cba800252207e232107e814724232007e524414047e05e [a,b,d] h [cl8 (Db c r K K)] [cu2 (fun f g=>Bu (Nc 1) [.int .i64 0,.int .i64 0] [(0,f),(1,g)]),cu2 (fun j n=>Bu (Nc 1) [.int .i64 0,.int .i64 0] [(0,j),(1,n)]),cu2 (fun i o=>Bu (Nc 2) [.int .i64 0,.int .i64 0,.int .i64 0,.int .i64 0] [(0,i),(1,o)])] [List.replicate 32 (.int .u8 0)]).F
def Acm:R:=(.mk:Sg 0x156731000e0000047e61304e2612e60007e04e2820fe25201365047e05e327e9 [a,b] h [E0 (K1 K),K4 (Xr c r K)] [cu0 (Bu (Nc 1) (List.replicate 32 (.int .u8 0)) [])] [List.replicate 32 (.int .u8 0)]).F
def P7:Ru K (Ru r R):=(.mk:Sg 0x1765435100ee0027e81204e28660007e01e0ee0215e701e72201 [a,b,d,e,f,g] h [c 197,cl5 k5] [cu0 (Bu (D5 [(0,1),(1,1),(2,1),(3,1),(4,1),(5,1)]) [.int .i64 0,.int .i64 0,.int .i64 0,.int .i64 0,.int .i64 0,.int .i64 0] [])]).F
def Wk:R:=(.mk:Sg 0x1876543600ba987660032165fdec20ae3fde307e283701e2fce3 [a,b,d,e,f,g] h [cl6 (P7 c r K k5)]).F
def X4:R:=(.mk:Sg 0x13a98766203027eb1204e2b660307e00e0ee0215e701e00027e0be1204e20be66565321605efdec20ae03efde3326627fffff6f09e17e027e05e08e18e203e89a5207e21107e24217e0005f05e721007e00e614e2f2e52e0004f02eb97c87003fbfde11e762e7fce11e673fbe11e0ee4ee00215e701e20ce5423401518e5 [a,b,d,e,f] h [c 233,E0 (N4 K),cl6 (Wk c r K k5)] [cu1 (fun w=>Qi 32 1 w none none none),cu1 (fun y=>Sj .i64 y),cu5 (fun o p q d z=>Bu (D5 [(0,1),(1,1),(2,1),(3,1),(4,1),(5,1)]) [.int .i64 0,.int .i64 0,.int .i64 0,.int .i64 0,.int .i64 0,.int .i64 0] [(0,.int .i64 1),(1,o),(2,p),(3,q),(4,d),(5,z)]),cu0 (Bu (D5 [(0,1),(1,1),(2,1),(3,1),(4,1),(5,1)]) [.int .i64 0,.int .i64 0,.int .i64 0,.int .i64 0,.int .i64 0,.int .i64 0] [])] [[.int .i64 0,.int .i64 0,.int .i64 0,.int .i64 0,.int .i64 0,.int .i64 0]]).F
def Gp(c:Ai)(r:Ai)(K:Nat):Nat->A5
 | 0=>fun _ _ _ _ _ _=>none
 | m+1=>fun a b d e f h=>
  Ap (c 232 [a] h) fun g h=>
  A5j g
  (Bu (D5 [(0,1),(1,1),(2,1),(3,1),(4,1),(5,1)]) [(.int .i64 0),(.int .i64 0),(.int .i64 0),(.int .i64 0),(.int .i64 0),(.int .i64 0)] [] fun i=>
  stE 6 f i h fun h=>
  I9 TT [.c f 53,.v g] h)
  (X4 c r K (Gp c r K m) a b d e f h)
def X0:R:=
 Gp c r K K a b d e f h
def Ac4:R:=(.mk:Sg 0x178cb95104027e81204e28660007e00e312e3e9e123e06e20ce8700002501318e5027e05e3bde9 [a,b,d,e] h [cl5 (Kc K),cl5 (X0 c r K)] [cu0 (Bu (D5 [(0,1),(1,1),(2,1),(3,1),(4,1),(5,1)]) [.int .i64 0,.int .i64 0,.int .i64 0,.int .i64 0,.int .i64 0,.int .i64 0] [])] [[.int .i64 0,.int .i64 0,.int .i64 0,.int .i64 0,.int .i64 0,.int .i64 0],List.replicate 5 (.int .i64 0)++List.replicate 44 (.int .u8 0)]).F
def Aqi:Ru K R:=(.mk:Sg 0x1000bde31204e2318e6318e5 [a,b] h).F
def Aqo:R:=(.mk:Sg 0x1cb21030bdec1204e2c18e60007e00e212e20ce23456501644534424314418e5 [a,b,d] h [cl5 (Kc K),E0 (Aqi K)] [cu0 (Bu (D5 [(0,1),(1,1),(2,1),(3,1),(4,1),(5,1),(6,32)]) (List.replicate 6 (.int .i64 0)++List.replicate 32 (.int .u8 0)) [])]).F
def Akz:R:=(.mk:Sg 0x129a31040bdea1204e2a18e60007e00e312e3bde018e06e20ce2420121ee54514e3040bde05e2e9e9 [a] h [E0 (Asx K),K4 (Aqo K)] [cu0 (Bu (D5 [(0,1),(1,1),(2,1),(3,1),(4,1),(5,1),(6,32)]) (List.replicate 6 (.int .i64 0)++List.replicate 32 (.int .u8 0)) [])] [List.replicate 6 (.int .i64 0)++List.replicate 32 (.int .u8 0)]).F
def Awg:Ru K R:=(.mk:Sg 0x1000e9e31204e2323e6323e5 [a,b] h).F
def Ah8:R:=(.mk:Sg 0x14320002e00e9e41204e2423e60007e01e285409e [a,b,d,e] h [E0 (Awg K)] [cu0 (Bu (D5 [(0,1),(1,1),(2,1),(3,1),(4,1),(5,44)]) (List.replicate 5 (.int .i64 0)++List.replicate 44 (.int .u8 0)) [])]).F
def Avr:R:=(.mk:Sg 0x12027640024984006225e724d2d3225e514 [a,b,d,e] h [Wd (Ah8 K)]).F
def Auu:R:=(.mk:Sg 0x12800ed41040e9e91204e2923e60007e00e312e3e9e023e06e20ce23201432e54f2e50e9e05e410e9269e9 [a,b,d,e] h [E0 (Adu K),Wd (Avr K)] [cu0 (Bu (D5 [(0,1),(1,1),(2,1),(3,1),(4,1),(5,44)]) (List.replicate 5 (.int .i64 0)++List.replicate 44 (.int .u8 0)) [])] [List.replicate 5 (.int .i64 0)++List.replicate 44 (.int .u8 0)]).F
def Ni:Ru K (Ru r (Ru c R)):=
 some (a,h)
def M0:R:=(.mk:Sg 0x131000ae02328430be [a,b,d] h [Fi (Ni c r K)]).F
def Abu:R:=(.mk:Sg 0x120233102453102525e8fde3c2a00215e702e20ce2533031e67532e5505b273011e0ee [a,b,d] h [c 45,K4 (M0 c r K)]).F
def Abl:R:=(.mk:Sg 0x12a9310322312e4232e622ff3fa17e010e05e918e20ce232011e57623e5604b2f2e5273b27c0ee [a,b,d] h [E0 (Wu K),K4 (Abu c r K)] [] [List.replicate 64 (.int .u8 0)]).F
def Agb:R:=(.mk:Sg 0x12ca310322312e4223e6217ff4fd17e0e9e05ec18e20ceba28350f1e8750ee5fde11e318e5300b0ee72162514e3bde9 [a,b,d,e,f,g] h [cl5 (Kc K),K4 (Abl c r K)] [] [List.replicate 5 (.int .i64 0)++List.replicate 44 (.int .u8 0)]).F
def Alv:Ru K (Ru r (Ru c R)):=(.mk:Sg 0x1002200e [a] h).F
def Ama:Ru K (Ru r (Ru c R)):=
 J6 f fun g=>
 k5 a b d e g h
def Alu:R:=
 Oc 64 d h fun i=>
 Ap (Cd (List.replicate 64 (.int .u8 0)) 30 64 1 [(0,i)] h) fun j h=>
 Ap (Em 30 64 b j h) fun n h=>
 Ama c r K k5 a n e f g h
def Al5:R:=(.mk:Sg 0x101e00ed2cb6103b0200e5312e310e132e06e20ce23201323e55f2e52e9e023e06e223e56423e15e [a,b,d,e,f] h [E0 (Wu K),cl6 (Alu c r K k5)] [] [List.replicate 5 (.int .i64 0)++List.replicate 44 (.int .u8 0),List.replicate 64 (.int .u8 0)]).F
def Qh(c:Ai)(r:Ai)(K:Nat):Nat->A5
 | 0=>fun _ _ _ _ _ _=>none
 | m+1=>fun a b d e f h=>
  cE K7 .lss 3 f e
  (Al5 c r K (Qh c r K m) a b d e f h)
  (Alv c r K b h)
def Alx:R:=(.mk:Sg 0x10024b03500313e [a,b] h [cl5 (Qh c r K K)]).F
def Auc:R:=(.mk:Sg 0x1372102b0200e5212e20ce72201245495e9269e9 [a,b,d] h [c 296,E0 (Alx c r K)]).F
def Y3:Ru K (Ru r (Ru c R)):=(.mk:Sg 0x100050047e41304e2412e6212e53614e [a,b] h).F
def G1(c:Ai)(r:Ai)(K:Nat)(base:Nat)(s:DX)(a:EV)(b:EV)(d:EV)(e:EV)(h:Ab):R:=
 pkO d e fun f=>
 ifE f
 (Bu (Nc 1) (List.replicate 32 (.int .u8 0)) [] fun g=>
 stE 32 a g h fun h=>
 I9 TT [.c a 85,.v (.bool false),.v (.int .i64 0)] h)
 (Y3 c r K a b h)
def I6:R:=
 pkO f g fun i=>
 wfE i
 (noE 7 a fun j=>
 Hb 12 4095 base j s fun s=>Oc 256 j h fun n=>
 Ady 6 e fun o=>
 Qi 32 1 o none none none fun p=>
 Ds 15 32767 s h (fun h=>(N4 K n p h)) fun q h s=>
 Sj .i64 q fun t=>
 olE 5 18 131583 base b s h fun s u=>
 Auh t u fun w=>
 G1 c r K base s d e i w h)
 (G1 c r K base s d e i tU h)
def Yz:R:=
 Oc 49 f h fun g=>
 Ap (Akz K g h) fun i h=>
 x2E i fun j n=>
 nsE 38 (List.replicate 6 (.int .i64 0)++List.replicate 32 (.int .u8 0)) 203 j h fun o h=>
 Ts h fun base s=>
 Kv Ake (bin TT .neq 35) n (.int .i64 0) fun p=>
 wfE p
 (olE 5 4 15 base o s h fun s q=>
 Auh q b fun t=>
 I6 c r K base s a d e o p t h)
 (I6 c r K base s a d e o p tU h)
def Jb:R:=(.mk:Sg 0x17654350000040047e71304e2712e60007e04e288709e [a,b,d,e,f,g,i] h [cl5 (Yz c r K)] [cu0 (Bu (Nc 1) (List.replicate 32 (.int .u8 0)) [])]).F
def Jc:R:=(.mk:Sg 0x12027654370025a98767002325e64474405e2d8709e [a,b,d,e,f,g,i] h [cl7 (Jb c r K)]).F
def Yq:R:=(.mk:Sg 0x1202301e00edb71024503e02e01ed71030224e30403e2d00315e802e4223e6217ff4fd17e0e9e05ec18e20ce273440f1e87832e7310e932e5904b2f2e5273b27c0ee [a,b,d,e,f,g] h [Wd (Auu K),cl7 (Jc c r K)] [] [List.replicate 5 (.int .i64 0)++List.replicate 44 (.int .u8 0)]).F
def Afa:R:=(.mk:Sg 0x100040047e91304e2912e60007e2040047ea1304e3a12e6db2210007e08e0ce0315e701e4040047e91304e2912e60007e03e0ee0315e701e289dca610900315e701e4232e62bff3fc17e110e05eb18e20ce2833071e77412e6310e473011e0ee047e05e327e9 [a,b,d,e] h [c 227,cl6 (Yq c r K),c 228] [cu0 (Bu (Nc 1) (List.replicate 32 (.int .u8 0)) [])] [List.replicate 32 (.int .u8 0),List.replicate 64 (.int .u8 0)]).F
end
variable{d:Nat}(H:Ca disp)
include H
theorem A2p(hd:3<=d):R2 disp K d 317 (Atw K):=fun _ _=>rl H hd fun d hd=>V3 (Mw H) hd<|rfl
theorem A3g(hd:4<=d):R1 disp K d 64 (An2 K):=fun _=>rl H hd fun d hd=>V1 (Ud H) hd<|V1 (E4 H) hd<|rfl
theorem Att(hd:2<=d):S3 disp K d 80 Aq0:=fun _ _ _=>rd rfl rfl H (V1 (Aj7 H) hd<|rfl)
theorem Aof(hd:2<=d){l:Nat}(tm:Ax)(h:Ab)(k:EV)(m:EV){st:LoopState}{p:Option Code}(v:h.get l=some (.loop st p 80 31 tm [8,9] (Dt TT 80 0).2.2.1 (Dt TT 80 0).2.2.2 d0)):
 Ag TT disp K (d+1) true l [k,m] h=Ajx (Ag TT disp K d false) (Ag TT disp K d true) K l (tmp tm 2) (tmp tm 3) k m h:=rr rfl rfl (rfl) v rfl (by kernel_rfl)
theorem Aku(hd:3<=d):R3 disp K d 103 (Pd K):=fun _ _ _=>rl H hd fun d hd=>V2 (L6 H) hd<|V2 (V9 H) hd<|V1 (Ia H) hd<|V1 (Akb H) hd<|rfl
theorem Ano(hd:2<=d):S1 disp K d 140 Ai2:=fun _=>rd rfl rfl H (V1 (Amy H) hd<|rfl)
theorem Aa8(hd:5<=d):R2 disp K d 186 (Jd K):=fun _ _=>rl H hd fun d hd=>V2 (F7 H) hd<|V3 (Ack H) hd<|rfl
theorem Anz(hd:4<=d):S3 disp K d 195 Ai0:=fun _ _ _=>ld rfl rfl H (V2 (Amu H) hd<|rfl) 5 (fun c r=>e3 (Kw c r K) 0 1 5)
theorem Ani(hd:3<=d):S2 disp K d 196 Ai1:=fun _ _=>rd rfl rfl H (V2 (Amm H) hd<|V3 (Ami H) hd<|rfl)
theorem Am0(hd:2<=d):S2 disp K d 199 Ahi:=fun _ _=>ld rfl rfl H (V1 (Ao7 H) hd<|rfl) 5 (fun c r=>e4 (Ju c r K) 0 6 7 8)
theorem Amx(hd:3<=d):S2 disp K d 219 Ah1:=fun _ _=>rd rfl rfl H (V2 (Aj8 H) hd<|rfl)
theorem Am1(hd:2<=d):S2 disp K d 224 Aha:=fun _ _=>rd rfl rfl H (V3 (Aoz H) hd<|V1 (Amq H) hd<|rfl)
theorem Aqb(hd:3<=d):S3 disp K d 227 Alz:=fun _ _ _=>rd rfl rfl H (V3 (Anc H) hd<|rfl)
theorem Q7(hd:3<=d):R2 disp K d 230 (N4 K):=fun _ _=>rl H hd fun d hd=>V3 (Asn H) hd<|rfl
theorem Ajk(hd:4<=d):S1 disp K d 232 Acl:=fun _=>rd rfl rfl H (V1 (Arz H) hd<|rfl)
theorem Aav(hd:4<=d):R1 disp K d 257 (Ov K):=fun _=>rl H hd fun d hd=>V1 (Ams H) hd<|V3 (Mw H) hd<|V2 (Acy H) hd<|V1 (W7 H) hd<|rfl
theorem Ar5(hd:4<=d):R2 disp K d 287 (Wh K):=fun _ _=>ll H hd (fun d hd=>V2 (Q7 H) hd<|rfl) 207 (e6 (Nt K) 1 6 7 22 23 24)
theorem Asl(hd:4<=d):R2 disp K d 311 (Xv K):=fun _ _=>rl H hd fun d hd=>V2 (Q7 H) hd<|rfl
theorem Az1(hd:4<=d):R2 disp K d 313 (Apv K):=fun _ _=>ll H hd (fun d hd=>V3 (Mw H) hd<|V1 (Aqj H) hd<|V2 (Jm H) hd<|V2 (A2p H) hd<|rfl) 103 (e5 (Xt K) 1 2 4 5 14)
theorem Amp(hd:3<=d):S3 disp K d 45 Ag8:=fun _ _ _=>rd rfl rfl H (V3 (Aku H) hd<|rfl)
theorem Zt(hd:6<=d):R3 disp K d 128 (K8 K):=fun _ _ _=>rl H hd fun d hd=>V2 (Jm H) hd<|V2 (Aa8 H) hd<|V3 (Ar9 H) hd<|rfl
theorem Arr(hd:6<=d):S2 disp K d 139 Aoa:=fun _ _=>rd rfl rfl H (V2 (Jm H) hd<|V3 (Zt H) hd<|rfl)
theorem Vu(hd:6<=d):R2 disp K d 179 (K1 K):=fun _ _=>rl H hd fun d hd=>V2 (Aa8 H) hd<|rfl
theorem Ak0(hd:6<=d):S2 disp K d 193 Afr:=fun _ _=>ld rfl rfl H (V2 (Vu H) hd<|rfl) 51 (fun c r=>e5 (Dl c r K) 0 3 4 26 27)
theorem Qy(hd:5<=d):R5 disp K d 231 (Kc K):=fun _ _ _ _ _=>rl H hd fun d hd=>V1 (Aav H) hd<|V1 (Qs H) hd<|rfl
theorem A35(hd:5<=d):R2 disp K d 250 (Asx K):=fun _ _=>rl H hd fun d hd=>V1 (Aqs H) hd<|V2 (Aas H) hd<|V2 (Ww H) hd<|V1 (Aav H) hd<|rfl
theorem Avb(hd:5<=d):R2 disp K d 255 (Adu K):=fun _ _=>rl H hd fun d hd=>V2 (Ar5 H) hd<|V1 (Amn H) hd<|V1 (Aqs H) hd<|V2 (Aas H) hd<|V2 (Ww H) hd<|V1 (Qs H) hd<|rfl
theorem Ai7(hd:5<=d):R2 disp K d 295 (Wu K):=fun _ _=>rl H hd fun d hd=>V1 (Qs H) hd<|V2 (Asl H) hd<|V3 (Mw H) hd<|V2 (Acy H) hd<|V1 (W7 H) hd<|rfl
theorem Aw1(hd:4<=d):S2 disp K d 296 Awr:=fun _ _=>ld rfl rfl H (V1 (Yb H) hd<|V3 (Ack H) hd<|V2 (Az1 H) hd<|V1 (Acf H) hd<|V1 (A0s H) hd<|rfl) 207 (fun c r=>e4 (So c r K) 2 6 7 8)
omit H in
theorem Ad1(c r:Ai)(K:Nat)(m:Nat):lpB false (N6 K c) c r K 11 6655 [(2,fun k tm h ds=>Gr c r K (k 5) (k 7) (k 9) h)] m=(fun m k tm h ds=>Ec c r K m (k 5) (k 7) (k 9) (k 72) (k 73) h) m:=
 Ow (E:=fun m k tm h ds=>Ec c r K m (k 5) (k 7) (k 9) (k 72) (k 73) h) rfl (fun m=>Aw8 fun k tm h ds=>by kernel_rfl) m
omit H in
theorem Ad2(c r:Ai)(K:Nat)(m:Nat):lpB false (N6 K c) c r K 11 3327 [(0,fun k tm h ds=>Mm c r K (k 1) (k 5) (k 7) (k 9) h)] m=(fun m k tm h ds=>Dq c r K m (k 1) (k 5) (k 7) (k 9) (k 55) h) m:=
 Ow (E:=fun m k tm h ds=>Dq c r K m (k 1) (k 5) (k 7) (k 9) (k 55) h) rfl (fun m=>Aw8 fun k tm h ds=>by kernel_rfl) m
theorem Ae0(hd:5<=d):S1 disp K d 11 Xa:=fun _=>rm (q:=false) (D:=N6 K (Ag TT disp K d false)) (by kernel_rfl) rfl rfl H (V1 (Afb H) hd<|V4 (A4l H) hd<|V1 (Gn H) hd<|V1 (E4 H) hd<|V4 (Arm H) hd<|V1 (A22 H) hd<|V0 (A6g H) hd<|V3 (Ayl H) hd<|V1 (A3g H) hd<|V3 (A3y H) hd<|rfl) (cut [true,true,true,true,true,true,true,true,true,false,true,false] (Ad1 (Ag TT disp K d false) (Ag TT disp K d true) K K) (by kernel_rfl) (by kernel_rfl) (cut [true,true,true,true,true,true,true,true,false,true,false] (Ad2 (Ag TT disp K d false) (Ag TT disp K d true) K K) (by kernel_rfl) (by kernel_rfl) rfl))
omit H in
theorem Aop(c r:Ai)(K:Nat)(m:Nat):lpB false (Xp K c) c r K 59 831 [(2,fun k tm h ds=>Vf c r K h)] m=(fun m k tm h ds=>Jl c r K m (k 0) (k 7) (k 55) (k 56) (k 57) h) m:=
 Ow (E:=fun m k tm h ds=>Jl c r K m (k 0) (k 7) (k 55) (k 56) (k 57) h) rfl (fun m=>Aw8 fun k tm h ds=>by kernel_rfl) m
omit H in
theorem Amo(c r:Ai)(K:Nat)(m:Nat):lpB false (Xp K c) c r K 59 415 [(0,fun k tm h ds=>U3 c r K (k 0) (k 1) (k 7) h)] m=(fun m k tm h ds=>Iq c r K m (k 0) (k 1) (k 6) (k 7) (k 28) (k 29) (k 30) h) m:=
 Ow (E:=fun m k tm h ds=>Iq c r K m (k 0) (k 1) (k 6) (k 7) (k 28) (k 29) (k 30) h) rfl (fun m=>Aw8 fun k tm h ds=>by kernel_rfl) m
theorem Aqe(hd:6<=d):S2 disp K d 59 Al3:=fun _ _=>rm (q:=false) (D:=Xp K (Ag TT disp K d false)) (by kernel_rfl) rfl rfl H (V2 (Ash H) hd<|V3 (Zt H) hd<|rfl) (cut [true,true,true,true,true,true,false,true,false] (Aop (Ag TT disp K d false) (Ag TT disp K d true) K K) (by kernel_rfl) (by kernel_rfl) (cut [true,true,true,true,true,false,true,false] (Amo (Ag TT disp K d false) (Ag TT disp K d true) K K) (by kernel_rfl) (by kernel_rfl) rfl))
theorem Ary(hd:6<=d):S3 disp K d 70 Ao4:=fun _ _ _=>ld rfl rfl H (V2 (Ahw H) hd<|V3 (Zt H) hd<|V1 (Cw H) hd<|rfl) 207 (fun c r=>e4 (Na c r K) 0 1 2 10)
theorem Ajt(hd:6<=d):S2 disp K d 106 Acm:=fun _ _=>ld rfl rfl H (V2 (Vu H) hd<|V2 (Ek H) hd<|rfl) 207 (fun c r=>e8 (Db c r K) 0 3 4 7 8 9 30 31)
theorem Air(hd:5<=d):S4 disp K d 185 Ac4:=fun _ _ _ _=>ld rfl rfl H (V5 (Qy H) hd<|V2 (Q7 H) hd<|rfl) 11 (fun c r=>e5 (Gp c r K) 0 2 3 5 8)
theorem Azc(hd:6<=d):R1 disp K d 220 (Akz K):=fun _=>rl H hd fun d hd=>V2 (A35 H) hd<|V5 (Qy H) hd<|rfl
theorem A39(hd:6<=d):R4 disp K d 229 (Auu K):=fun _ _ _ _=>rl H hd fun d hd=>V2 (Avb H) hd<|rfl
theorem Amg(hd:5<=d):S6 disp K d 260 Agb:=fun _ _ _ _ _ _=>rd rfl rfl H (V5 (Qy H) hd<|V2 (Ai7 H) hd<|rfl)
theorem Au1(hd:5<=d):S3 disp K d 261 Auc:=fun _ _ _=>ld rfl rfl H (V2 (Ai7 H) hd<|rfl) 207 (fun c r=>e5 (Qh c r K) 3 10 24 25 26)
theorem Alf(hd:6<=d):S4 disp K d 180 Afa:=fun _ _ _ _=>rd rfl rfl H (V2 (Q7 H) hd<|V1 (Azc H) hd<|V4 (A39 H) hd<|rfl)
end
end
section
noncomputable section
section
variable (c r:Ai)(K l:Nat)(k0:A0)(k1:A1)(k2:A2)(k3:A3)(k4:A4)(k5:A5)(k6:A6)(k7:A7)(k8:A8)(k9:A9)(k10:A10)(k11:A11)(k12:A12)(m0:B0)(m1:B1)(m2:B2)(m3:B3)(m4:B4)(m5:B5)(m6:B6)(m7:B7)(m8:B8)(m9:B9)(m10:B10)(m11:B11)(m12:B12)(base:Nat)(s:DX)(tm:Ax)(a b d e f g i j n o p q t u w x y z aa ab ad ae af ag ai aj an ao ap aq au aw ax ay az ba bb bd be bf bg bi bj bn bo bp bq bt bu bw bx bz da db dd de df dg di dj dn dp dq dt du dw dx dy dz ea eb ed ee ef eg ei ej en eo ep eq et eu ew ex ey ez fa fb fd fe ff fg fi fj fn fo fp fq ft fu fw fx fy fz ga gb gd ge gf gg gi gj gn go gp gq gt gu gw gx gy gz ia ib ie ig ii ij io ip iq it iu iw ix iy iz ja jb:EV)(h:Ab)(ds:List Nat)
end
variable{d:Nat}
end
end
noncomputable section
section
variable (c r:Ai)(K l:Nat)(k0:A0)(k1:A1)(k2:A2)(k3:A3)(k4:A4)(k5:A5)(k6:A6)(k7:A7)(k8:A8)(k9:A9)(k10:A10)(k11:A11)(k12:A12)(m0:B0)(m1:B1)(m2:B2)(m3:B3)(m4:B4)(m5:B5)(m6:B6)(m7:B7)(m8:B8)(m9:B9)(m10:B10)(m11:B11)(m12:B12)(base:Nat)(s:DX)(tm:Ax)(a b d e f g i j n o p q t u w x y z aa ab ad ae af ag ai aj an ao ap aq au aw ax ay az ba bb bd be bf bg bi bj bn bo bp bq bt bu bw bx bz da db dd de df dg di dj dn dp dq dt du dw dx dy dz ea eb ed ee ef eg ei ej en eo ep eq et eu ew ex ey ez fa fb fd fe ff fg fi fj fn fo fp fq ft fu fw fx fy fz ga gb gd ge gf gg gi gj gn go gp gq gt gu gw gx gy gz ia ib ie ig ii ij io ip iq it iu iw ix iy iz ja jb:EV)(h:Ab)(ds:List Nat)
def Km(c:Ai)(r:Ai)(K:Nat)(base:Nat)(s:DX)(tm:Ax)(a:EV)(b:EV)(h:Ab)(ds:List Nat):R:=
 Yj a b fun d=>
 uwE d h ds
def Kk:R:=
 Yj d e fun f=>
 wtE f
 (Hb 10 1023 base b s fun s=>Dr b h fun g=>
 Hb 11 1023 base a s fun s=>Oc 6 a h fun i=>
 Ds 12 3071 s h (fun h=>(Cz K i h)) fun j h s=>
 Ds 13 8191 s h (fun h=>(c 21 [g,j] h)) fun n h s=>
 Afz n fun o=>
 Km c r K base s (((((((tm.put 188 (some f)).put 189 (some f)).put 190 (some g)).put 191 (some i)).put 192 (some j)).put 193 (some n)).put 194 (some o)) f o h ds)
 (Km c r K base s (((((((tm.put 188 (some f)).put 189 (some f)).put 190 (some tU)).put 191 (some tU)).put 192 (some tU)).put 193 (some tU)).put 194 (some tU)) f tU h ds)
def Fm:R:=
 Ts h fun base s=>
 Hb 0 0 base b s fun s=>Dr b h fun e=>
 Ds 1 1 s h (fun h=>(c 28 [e] h)) fun f h s=>
 A4m f d fun g=>
 wtE g
 (Hb 5 31 base b s fun s=>Dr b h fun i=>
 Ds 6 63 s h (fun h=>(c 21 [i,(.int .i64 (-1))] h)) fun j h s=>
 Afz j fun n=>
 Kk c r K base s ((((((((tm.put 180 (some e)).put 181 (some f)).put 182 (some d)).put 183 (some g)).put 184 (some g)).put 185 (some i)).put 186 (some j)).put 187 (some n)) a b g n h ds)
 (Kk c r K base s ((((((((tm.put 180 (some e)).put 181 (some f)).put 182 (some d)).put 183 (some g)).put 184 (some g)).put 185 (some tU)).put 186 (some tU)).put 187 (some tU)) a b g tU h ds)
def Kj:Ru K (Ru r (Ru c R)):=
 J6 f fun g=>
 m5 (((tm.put 150 (some f)).put 151 (some g)).put 20 (some g)) a b d e g h ds
def Kn:R:=
 Ts h fun base s=>
 Hb 0 0 base d s fun s=>Dr d h fun i=>
 Ds 2 3 s h (fun h=>(c 27 [i,f] h)) fun j h s=>
 Hb 3 0 base g s fun s=>Dr g h fun n=>
 Auh j n fun o=>
 ifE o
 (uwE (.bool false) h ds)
 (Kj c r K m5 (((((tm.put 175 (some i)).put 176 (some f)).put 177 (some j)).put 178 (some n)).put 179 (some o)) a b d e f h ds)
def Qa:R:=
 nsE 1 [(.int .i64 0)] 3 (.int .i64 (-1)) h fun g h=>
 Oc 6 a h fun i=>
 Ap (Tb K i f h) fun j h=>
 Q2 c TT 3 196 1 j ((((tm.put 21 (some g)).put 152 (some i)).put 153 (some f)).put 154 (some j)) h ds (fun h ds=>
 Kn c r K m5 ((((tm.put 21 (some g)).put 152 (some i)).put 153 (some f)).put 154 (some j)) a b d e f g h ds) (fun id h ds=>
 Bb (Nat.beq 8 id) (Kn c r K m5 ((((tm.put 21 (some g)).put 152 (some i)).put 153 (some f)).put 154 (some j)) a b d e f g h ds) (Bb (Nat.beq 7 id) (Kj c r K m5 ((((tm.put 21 (some g)).put 152 (some i)).put 153 (some f)).put 154 (some j)) a b d e f h ds) (Bb (Nat.beq 6 id) (Fm c r K ((((tm.put 21 (some g)).put 152 (some i)).put 153 (some f)).put 154 (some j)) a d e h ds) (none)))) (fun h ds=>
 uwE b h ds)
def Ef(c:Ai)(r:Ai)(K:Nat):Nat->B5
 | 0=>fun _ _ _ _ _ _ _ _=>none
 | m+1=>fun tm a b d e f h ds=>
  Ady 0 a fun g=>
  Dr g h fun i=>
  Atu f i fun j=>
  ifE j
  (Qa c r K (Ef c r K m) ((((tm.put 146 (some f)).put 147 (some g)).put 148 (some i)).put 149 (some j)) a b d e f h ds)
  (Fm c r K ((((tm.put 146 (some f)).put 147 (some g)).put 148 (some i)).put 149 (some j)) a d e h ds)
def Fk:R:=
 Ef c r K K (tm.put 20 (some (.int .i64 (-1)))) a b d e (.int .i64 (-1)) h ds
def E7:Ru K (Ru r (Ru c R)):=
 J6 n fun o=>
 m9 ((tm.put 145 (some o)).put 54 (some o)) a b d e f g i j o h ds
def Cs:R:=
 Yj p q fun t=>
 ifE t
 (E7 c r K m9 (((tm.put 143 (some t)).put 144 (some j)).put 12 (some j)) a b d e f g j n o h ds)
 (E7 c r K m9 (tm.put 143 (some t)) a b d e f g i n o h ds)
def Dh:R:=
 wtE p
 (pkO q t fun u=>
 Cs c r K m9 (tm.put 142 (some u)) a b d e f g i j n o p u h ds)
 (Cs c r K m9 (tm.put 142 (some tU)) a b d e f g i j n o p tU h ds)
def Df:R:=
 wfE t
 (Dr d h fun u=>
 Ap (E1 K u h) fun w h=>
 Ap (E2 K w i h) fun x h=>
 Af2 n x fun y=>
 Dh c r K m9 ((((((tm.put 136 (some n)).put 137 (some u)).put 138 (some w)).put 139 (some i)).put 140 (some x)).put 141 (some y)) a b d e f g i j o p q t y h ds)
 (Dh c r K m9 ((((((tm.put 136 (some tU)).put 137 (some tU)).put 138 (some tU)).put 139 (some tU)).put 140 (some tU)).put 141 (some tU)) a b d e f g i j o p q t tU h ds)
def D4:R:=
 Yj q t fun u=>
 wtE u
 (Af2 i (.int .i64 0) fun w=>
 Df c r K m9 (((((tm.put 131 (some u)).put 132 (some u)).put 133 (some i)).put 134 (some w)).put 135 (some w)) a b d e f g i j n o p u w h ds)
 (Df c r K m9 (((((tm.put 131 (some u)).put 132 (some u)).put 133 (some tU)).put 134 (some tU)).put 135 (some tU)) a b d e f g i j n o p u tU h ds)
def E9:R:=
 Yj q t fun u=>
 wtE u
 (A0k (.int .i64 2) n fun w=>
 Ady 2 a fun x=>
 Dr x h fun y=>
 Atu w y fun z=>
 D4 c r K m9 (((((((tm.put 124 (some u)).put 125 (some u)).put 126 (some n)).put 127 (some w)).put 128 (some x)).put 129 (some y)).put 130 (some z)) a b d e f g i j n o p u z h ds)
 (D4 c r K m9 (((((((tm.put 124 (some u)).put 125 (some u)).put 126 (some tU)).put 127 (some tU)).put 128 (some tU)).put 129 (some tU)).put 130 (some tU)) a b d e f g i j n o p u tU h ds)
def G0:R:=
 Dr d h fun t=>
 Ap (E1 K t h) fun u h=>
 Ap (E2 K u j h) fun w h=>
 wtE n
 (Dr o h fun x=>
 E9 c r K m9 ((((((((tm.put 117 (some t)).put 118 (some u)).put 119 (some j)).put 120 (some w)).put 19 (some w)).put 121 (some n)).put 122 (some n)).put 123 (some x)) a b d e f g i j w p q n x h ds)
 (E9 c r K m9 ((((((((tm.put 117 (some t)).put 118 (some u)).put 119 (some j)).put 120 (some w)).put 19 (some w)).put 121 (some n)).put 122 (some n)).put 123 (some tU)) a b d e f g i j w p q n tU h ds)
def Jz:R:=
 nsE 1 [(.bool false)] 4 (.bool true) h fun q h=>
 Dr d h fun t=>
 Ap (E1 K t h) fun u h=>
 Ap (Pc K u j h) fun w h=>
 Q2 c TT 3 196 0 w (((((tm.put 15 (some q)).put 90 (some t)).put 91 (some u)).put 92 (some j)).put 93 (some w)) h ds (fun h ds=>
 G0 c r K m9 (((((tm.put 15 (some q)).put 90 (some t)).put 91 (some u)).put 92 (some j)).put 93 (some w)) a b d e f g i j n q o p h ds) (fun id h ds=>
 Bb (Nat.beq 4 id) (G0 c r K m9 (((((tm.put 15 (some q)).put 90 (some t)).put 91 (some u)).put 92 (some j)).put 93 (some w)) a b d e f g i j n q o p h ds) (Bb (Nat.beq 3 id) (E7 c r K m9 (((((tm.put 15 (some q)).put 90 (some t)).put 91 (some u)).put 92 (some j)).put 93 (some w)) a b d e f g i o p h ds) (Bb (Nat.beq 2 id) (Fk c r K (((((tm.put 15 (some q)).put 90 (some t)).put 91 (some u)).put 92 (some j)).put 93 (some w)) a b d i h ds) (none)))) (fun h ds=>
 uwE b h ds)
def Gz:R:=
 Yj p q fun t=>
 Dr d h fun u=>
 Ap (c 21 [u,j] h) fun w h=>
 Kv Ake (bin TT .neq 4) w t fun x=>
 ifE x
 (uwE (.bool false) h ds)
 (Jz c r K m9 (((((((tm.put 84 (some t)).put 14 (some t)).put 85 (some u)).put 86 (some j)).put 87 (some w)).put 88 (some t)).put 89 (some x)) a b d e f g i j t n o h ds)
def De:R:=
 Yj p q fun t=>
 wtE t
 (Dr d h fun u=>
 Ap (Uu K u h) fun w h=>
 Ap (c 20 [w,j] h) fun x h=>
 Afz x fun y=>
 Gz c r K m9 (((((((tm.put 77 (some t)).put 78 (some t)).put 79 (some u)).put 80 (some w)).put 81 (some j)).put 82 (some x)).put 83 (some y)) a b d e f g i j n o t y h ds)
 (Gz c r K m9 (((((((tm.put 77 (some t)).put 78 (some t)).put 79 (some tU)).put 80 (some tU)).put 81 (some tU)).put 82 (some tU)).put 83 (some tU)) a b d e f g i j n o t tU h ds)
def D7:R:=
 Yj p q fun t=>
 wtE t
 (Dr e h fun u=>
 Ap (Bw K u h) fun w h=>
 Ap (c 18 [w,j] h) fun x h=>
 Afz x fun y=>
 De c r K m9 (((((((tm.put 70 (some t)).put 71 (some t)).put 72 (some u)).put 73 (some w)).put 74 (some j)).put 75 (some x)).put 76 (some y)) a b d e f g i j n o t y h ds)
 (De c r K m9 (((((((tm.put 70 (some t)).put 71 (some t)).put 72 (some tU)).put 73 (some tU)).put 74 (some tU)).put 75 (some tU)).put 76 (some tU)) a b d e f g i j n o t tU h ds)
def E8:R:=
 Yj p q fun t=>
 wtE t
 (Dr e h fun u=>
 Ap (C9 K u j h) fun w h=>
 Afz w fun x=>
 D7 c r K m9 ((((((tm.put 64 (some t)).put 65 (some t)).put 66 (some u)).put 67 (some j)).put 68 (some w)).put 69 (some x)) a b d e f g i j n o t x h ds)
 (D7 c r K m9 ((((((tm.put 64 (some t)).put 65 (some t)).put 66 (some tU)).put 67 (some tU)).put 68 (some tU)).put 69 (some tU)) a b d e f g i j n o t tU h ds)
def Jx:R:=
 Auh n f fun o=>
 wtE o
 (Auh n g fun p=>
 E8 c r K m9 (((((((((tm.put 56 (some n)).put 13 (some n)).put 57 (some n)).put 58 (some f)).put 59 (some o)).put 60 (some o)).put 61 (some n)).put 62 (some g)).put 63 (some p)) a b d e f g i n j n o p h ds)
 (E8 c r K m9 (((((((((tm.put 56 (some n)).put 13 (some n)).put 57 (some n)).put 58 (some f)).put 59 (some o)).put 60 (some o)).put 61 (some tU)).put 62 (some tU)).put 63 (some tU)) a b d e f g i n j n o tU h ds)
def D1(c:Ai)(r:Ai)(K:Nat):Nat->B9
 | 0=>fun _ _ _ _ _ _ _ _ _ _ _ _=>none
 | m+1=>fun tm a b d e f g i j n h ds=>
  Af2 n j fun o=>
  ifE o
  (Jx c r K (D1 c r K m) (tm.put 55 (some o)) a b d e f g i j n h ds)
  (Fk c r K (tm.put 55 (some o)) a b d i h ds)
def E5:R:=
 Dr d h fun e=>
 Ap (Ll K e h) fun f h=>
 nsE 1 [.Cl] 37 f h fun g h=>
 Dr g h fun i=>
 Ap (Hj K i h) fun j h=>
 x2E j fun n o=>
 An9 2 j fun p=>
 Oc 6 a h fun q=>
 Ap (Cz K q h) fun t h=>
 D1 c r K K ((((((((((((((((tm.put 44 (some e)).put 45 (some f)).put 8 (some g)).put 47 (some i)).put 48 (some j)).put 46 (some j)).put 49 (some n)).put 50 (some o)).put 51 (some p)).put 9 (some n)).put 10 (some o)).put 11 (some p)).put 12 (some (.int .i64 (-1)))).put 52 (some q)).put 53 (some t)).put 54 (some (.int .i64 0))) a b d g n o (.int .i64 (-1)) t (.int .i64 0) h ds
def Pb:Ru K (Ru r (Ru c R)):=
 J6 g fun i=>
 m6 ((tm.put 43 (some i)).put 36 (some i)) a b d e f i h ds
def O8:R:=
 X8 72 e g fun i=>
 Oc 72 i h fun j=>
 nsE 72 (List.replicate 3 (.int .i64 0)++[.Ao]++List.replicate 4 (.int .i64 0)++List.replicate 64 (.int .u8 0)) 34 j h fun n h=>
 Oc 72 n h fun o=>
 Dr d h fun p=>
 Ap (c 12 [o,p] h) fun q h=>
 Pb c r K m6 ((((((tm.put 38 (some i)).put 39 (some j)).put 7 (some n)).put 40 (some o)).put 41 (some p)).put 42 (some q)) a b d e f g h ds
def D3(c:Ai)(r:Ai)(K:Nat):Nat->B6
 | 0=>fun _ _ _ _ _ _ _ _ _=>none
 | m+1=>fun tm a b d e f g h ds=>
  Af2 g f fun i=>
  ifE i
  (O8 c r K (D3 c r K m) (tm.put 37 (some i)) a b d e f g h ds)
  (E5 c r K (tm.put 37 (some i)) a b d h ds)
def O9:R:=
 Hz a fun f=>
 D3 c r K K (((tm.put 34 (some a)).put 35 (some f)).put 36 (some (.int .i64 0))) b d e a f (.int .i64 0) h ds
def Fa:R:=
 pkO f g fun i=>
 ifE i
 (uwE (.bool true) h ds)
 (O9 c r K (tm.put 33 (some i)) a b d e h ds)
def O7:R:=
 Oc 6 b h fun e=>
 Ap (c 11 [e] h) fun f h=>
 nsE 1 [.Cl] 26 f h fun g h=>
 Dr g h fun i=>
 Kv Ala (bin TT .eql 26) i .Cl fun j=>
 wfE j
 (Hz a fun n=>
 Aqd n (.int .i64 40) fun o=>
 Fa c r K (((((((((tm.put 25 (some e)).put 26 (some f)).put 5 (some g)).put 27 (some i)).put 28 (some j)).put 29 (some j)).put 30 (some a)).put 31 (some n)).put 32 (some o)) a b d g j o h ds)
 (Fa c r K (((((((((tm.put 25 (some e)).put 26 (some f)).put 5 (some g)).put 27 (some i)).put 28 (some j)).put 29 (some j)).put 30 (some tU)).put 31 (some tU)).put 32 (some tU)) a b d g j tU h ds)
def Mj:R:=
 (fun(tm:Ax) (ds:List Nat)=>
 Py 23 a h fun d h=>
 Ap (c 10 [] h) fun e h=>
 Afz e fun f=>
 ifE f
 (uwE (.bool false) h ds)
 (O7 c r K ((((tm.put 2 (some d)).put 4 (some (.bool false))).put 23 (some e)).put 24 (some f)) b d (.bool false) h ds)) ((Tr.nil.put 0 (some a)).put 1 (some b)) []
abbrev Hs(K:Nat)(c:Ai):Ai:=(w1 15 (Cz K) (w2 26 (Tb K) (w1 22 (E1 K) (w2 25 (E2 K) (w2 23 (Pc K) (w1 19 (Uu K) (w1 17 (Bw K) (w2 16 (C9 K) (w1 13 (Ll K) (w1 14 (Hj K) c))))))))))
def Et:Ru K (Ru r (Ru c R)):=
 Yj b d fun e=>
 stE 1 a e h fun h=>
 Su l true .ready none h
def Gi:R:=(.mk:Sg 0x1202431026831020fe2320162430de04e2a650be [a,b,d,e,f] h [E0 (C9 K),K4 (Et c r K l)]).F
def Nb:R:=(.mk:Sg 0x12023ba53026701e00e53020fe23221414a0de06e2aa0de327e0606e20ce72211210120de [a,b,d,e] h [Fi (E1 K),E0 (Jq K),E0 (C9 K),cl5 (Gi c r K l)] [] [[.int .i64 0,.int .i64 0,.int .i64 0,.int .i64 0,.int .i64 0,.int .i64 0]]).F
def Qj:R:=
 Ff l h fun h=>Nb c r K l a b d e h
def Cq(c:Ai)(r:Ai)(K:Nat)(l:Nat)(base:Nat)(s:DX)(a:EV)(b:EV)(d:EV)(e:EV)(h:Ab):R:=
 Yj d e fun f=>
 ifE f
 (stE 1 a b h fun h=>
 Su l true .ready none h)
 (Su l true .ready none h)
def Er:R:=
 wtE d
 (pkO e f fun g=>
 Cq c r K l base s a b d g h)
 (Cq c r K l base s a b d tU h)
def Es:R:=
 wfE f
 (Hb 7 127 base a s fun s=>Dr a h fun g=>
 Ds 8 255 s h (fun h=>(E1 K g h)) fun i h s=>
 Ds 10 1023 s h (fun h=>(E2 K i d h)) fun j h s=>
 Hb 11 127 base a s fun s=>Dr a h fun n=>
 Ds 12 4095 s h (fun h=>(E1 K n h)) fun o h s=>
 Hb 13 127 base b s fun s=>Dr b h fun p=>
 Ds 14 16383 s h (fun h=>(E2 K o p h)) fun q h s=>
 Af2 j q fun t=>
 Er c r K l base s b d e f t h)
 (Er c r K l base s b d e f tU h)
def Mx:R:=
 Ts h fun base s=>
 Hb 0 0 base a s fun s=>Dr a h fun e=>
 Ds 2 3 s h (fun h=>(c 21 [e,d] h)) fun f h s=>
 wtE f
 (Hb 4 15 base b s fun s=>Dr b h fun g=>
 Af2 g (.int .i64 0) fun i=>
 Es c r K l base s a b d f i h)
 (Es c r K l base s a b d f tU h)
def P9:R:=
 Ff l h fun h=>Mx c r K l a b d h
end
variable{d:Nat}(H:Ca disp)
include H
omit H in
theorem Zd(c r:Ai)(K:Nat)(m:Nat):lpB true (Hs K c) c r K 3 6655 [(6,fun k tm h ds=>Fm c r K tm (k 2) (k 5) (k 12) h ds)] m=(fun m k tm h ds=>Ef c r K m tm (k 2) (k 4) (k 5) (k 12) (k 20) h ds) m:=
 Ow (E:=fun m k tm h ds=>Ef c r K m tm (k 2) (k 4) (k 5) (k 12) (k 20) h ds) rfl (fun m=>Aw8 fun k tm h ds=>by kernel_rfl) m
omit H in
theorem Yl(c r:Ai)(K:Nat)(m:Nat):lpB true (Hs K c) c r K 3 3327 [(2,fun k tm h ds=>Fk c r K tm (k 2) (k 4) (k 5) (k 12) h ds)] m=(fun m k tm h ds=>D1 c r K m tm (k 2) (k 4) (k 5) (k 8) (k 9) (k 10) (k 12) (k 53) (k 54) h ds) m:=
 Ow (E:=fun m k tm h ds=>D1 c r K m tm (k 2) (k 4) (k 5) (k 8) (k 9) (k 10) (k 12) (k 53) (k 54) h ds) rfl (fun m=>Aw8 fun k tm h ds=>by kernel_rfl) m
omit H in
theorem Yi(c r:Ai)(K:Nat)(m:Nat):lpB true (Hs K c) c r K 3 207 [(0,fun k tm h ds=>E5 c r K tm (k 2) (k 4) (k 5) h ds)] m=(fun m k tm h ds=>D3 c r K m tm (k 2) (k 4) (k 5) (k 34) (k 35) (k 36) h ds) m:=
 Ow (E:=fun m k tm h ds=>D3 c r K m tm (k 2) (k 4) (k 5) (k 34) (k 35) (k 36) h ds) rfl (fun m=>Aw8 fun k tm h ds=>by kernel_rfl) m
theorem Aba(hd:3<=d):S2 disp K d 3 Mj:=fun _ _=>rm (q:=true) (D:=Hs K (Ag TT disp K d false)) (by kernel_rfl) rfl rfl H (V1 (E4 H) hd<|V2 (Ajy H) hd<|V1 (X6 H) hd<|V2 (Mr H) hd<|V2 (Acd H) hd<|V1 (Aqg H) hd<|V1 (Gn H) hd<|V2 (Ek H) hd<|V1 (Aax H) hd<|V1 (Xn H) hd<|rfl) (Boc 6655 (Zd (Ag TT disp K d false) (Ag TT disp K d true) K K) (Boc 3327 (Yl (Ag TT disp K d false) (Ag TT disp K d true) K K) (Boc 207 (Yi (Ag TT disp K d false) (Ag TT disp K d true) K K) rfl)))
theorem X9(hd:3<=d){l:Nat}(tm:Ax)(h:Ab)(k:EV){st:LoopState}{p:Option Code}(m:h.get l=some (.loop st p 3 196 tm [94] (Dt TT 3 0).2.2.1 (Dt TT 3 0).2.2.2 d0)):
 Ag TT disp K (d+1) true l [k] h=Qj (Ag TT disp K d false) (Ag TT disp K d true) K l (tmp tm 5) (tmp tm 8) (tmp tm 15) k h:=rr rfl rfl (V2 (Ek H) hd<|V1 (X6 H) hd<|V2 (Jm H) hd<|rfl) m rfl (by kernel_rfl)
theorem Wq(hd:3<=d){l:Nat}(tm:Ax)(h:Ab)(k:EV){st:LoopState}{p:Option Code}(m:h.get l=some (.loop st p 3 196 tm [155] (Dt TT 3 1).2.2.1 (Dt TT 3 1).2.2.2 d0)):
 Ag TT disp K (d+1) true l [k] h=P9 (Ag TT disp K d false) (Ag TT disp K d true) K l (tmp tm 5) (tmp tm 21) k h:=rr rfl rfl (V1 (X6 H) hd<|V2 (Mr H) hd<|rfl) m rfl (by kernel_rfl)
end
end Go.Ev
