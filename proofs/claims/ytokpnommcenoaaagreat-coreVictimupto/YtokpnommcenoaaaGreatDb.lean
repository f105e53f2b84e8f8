import Derived.Test.YtokpnommcenoaaaGreatDa
set_option linter.all false
namespace Go.Ev
open Go.Proofs
set_option maxRecDepth 100000
set_option maxHeartbeats 4000000
variable {d0:Nat}{disp:Nat->Option FT}
section
noncomputable section
section
variable (c r:Ai)(K l:Nat)(k0:A0)(k1:A1)(k2:A2)(k3:A3)(k4:A4)(k5:A5)(k6:A6)(k7:A7)(k8:A8)(k9:A9)(k10:A10)(k11:A11)(k12:A12)(m0:B0)(m1:B1)(m2:B2)(m3:B3)(m4:B4)(m5:B5)(m6:B6)(m7:B7)(m8:B8)(m9:B9)(m10:B10)(m11:B11)(m12:B12)(base:Nat)(s:DX)(tm:Ax)(a b d e f g i j n o p q t u w x y z aa ab ad ae af ag ai aj an ao ap aq au aw ax ay az ba bb bd be bf bg bi bj bn bo bp bq bt bu bw bx bz da db dd de df dg di dj dn dp dq dt du dw dx dy dz ea eb ed ee ef eg ei ej en eo ep eq et eu ew ex ey ez fa fb fd fe ff fg fi fj fn fo fp fq ft fu fw fx fy fz ga gb gd ge gf gg gi gj gn go gp gq gt gu gw gx gy gz ia ib ie ig ii ij io ip iq it iu iw ix iy iz ja jb:EV)(h:Ab)(ds:List Nat)
def Gk:Ru K R:=(.mk:Sg 0x105e000200e002200e321ae80023701e201ae200201203 [a] h [E0 Ay5]).F
def Aoe:Ru K R:=
 Yj a b fun d=>
 some (d,h)
def R7:R:=(.mk:Sg 0x1202200232004321e82a10223e [a,b] h [E0 (Aoe K)]).F
def Uy:Ru K R:=
 Yj a b fun d=>
 some (d,h)
def It:R:=(.mk:Sg 0x1202200252002620e213e303d2a00323e [a,b] h [E0 (Uy K)]).F
def Td:Ru K R:=(.mk:Sg 0x122243 [a] h).F
def Ga:Ru K R:=(.mk:Sg 0x12232211001 [a] h [cl0 (Cd (List.replicate 4 (.int .i64 0)++List.replicate 64 (.int .u8 0)) 32 68 0 []),E0 (Em 32 68)]).F
def Dx:R:=(.mk:Sg 0x12100b023b023de701e [a] h [Fi (Ga K)]).F
def Nd:Ru K R:=(.mk:Sg 0x1002 [] h).F
def D6:R:=(.mk:Sg 0x10000ae0236023701e0ce023c023701e233 [a] h [cl0 (Nd K)]).F
def Yw:Ru K (Ru r (Ru c R)):=(.mk:Sg 0x1002 [] h).F
def Afq:R:=(.mk:Sg 0x10100ee0230ee0215e701e32201 [a,b] h [c 197,cl0 (Yw c r K)]).F
def Yr:Ru K (Ru r R):=(.mk:Sg 0x129200e547823601518e5 [a,b,d,e,f,g] h [c 260]).F
def Ae3:R:=(.mk:Sg 0x1456a9761025200e4212e983426601418e54fce33fbe33bde9 [a,b,d,e] h [c 260,cl6 (Yr c r K)]).F
def G6:Ru K R:=(.mk:Sg 0x1000e321642c213e203 [a] h).F
def Abg:Ru K R:=
 J6 d fun e=>
 k3 a b e h
def Aa0:R:=
 fE 3 a h fun e=>
 Bu (D5 [(0,1),(1,1)]) [(.int .i64 0),(.int .i64 0)] [(0,b),(1,d)] fun f=>
 Ap (builtin TT .delete #[147,179] [e,f] h) fun _ h=>
 Abg K k3 a b d h
def Jy(K:Nat):Nat->A3
 | 0=>fun _ _ _ _=>none
 | m+1=>fun a b d h=>
  fE 0 a h fun e=>
  Ap (O0 K e h) fun f h=>
  cE K7 .lss 3 d f
  (Aa0 K (Jy K m) a b d h)
  (some (.tuple [],h))
def X2:R:=
 Jy K K a b d h
def Ag2:Ru K (Ru r (Ru c R)):=(.mk:Sg 0x1002 [] h).F
def Rg:R:=(.mk:Sg 0x100005e023283209e [a,b] h [cl0 (Ag2 c r K)]).F
def Anw:R:=(.mk:Sg 0x12022202622000224e9221142116e86307e2d00220e232011e5740de404b265273b30c0ee339 [a,b] h [E0 (Eu K),E0 (fun o d=>c 264 [o,.func 265 [] [d]]),E0 (Rg c r K)]).F
def P6:Ru K (Ru r (Ru c R)):=
 some (a,h)
def Ada:R:=(.mk:Sg 0x131102110400315e701e679301578301002167fdec012166fcec012165fbec4fde33fce32fbe3 [a] h [c 266,Fi (P6 c r K)] [] [] [(.int .i64 (-1))]).F
def Ob:Ru K R:=(.mk:Sg 0x10024021654c0021643c0021632cb021620c [a] h).F
def G9:R:=(.mk:Sg 0x13110222212e2101 [a] h [Fi (D6 K),Fi (Ob K)]).F
def Ug:Ru K (Ru r (Ru c R)):=
 some (a,h)
def Og:Ru K (Ru r (Ru c R)):=
 J6 f fun g=>
 k5 a b d e g h
def Acq:R:=
 Ap (Ha K a e h) fun i h=>
 Og c r K k5 a b d f g h
def Adl:R:=
 Ap (Rn c r b [e] h) fun i h=>
 Afz i fun j=>
 ifE j
 (J6 d fun n=>
 Og c r K k5 a b n f g h)
 (Acq c r K k5 a b d e f g h)
def Ac3:R:=
 Ap (Gk K a h) fun g h=>
 x2E g fun i j=>
 A5j j
 (Ug c r K d h)
 (Adl c r K k5 a b d i e f h)
def Ks(c:Ai)(r:Ai)(K:Nat):Nat->A5
 | 0=>fun _ _ _ _ _ _=>none
 | m+1=>fun a b d e f h=>
  cE K7 .lss 3 f e
  (Ac3 c r K (Ks c r K m) a b d e f h)
  (Ug c r K d h)
def Ajw:R:=(.mk:Sg 0x100200435102101 [a,b] h [Fi (Fl K),cl5 (Ks c r K K)]).F
def Ai9:Ru K R:=(.mk:Sg 0x1222325e30de [a,b] h).F
def Ns:Ru K R:=(.mk:Sg 0x10025021634c3021623c [a] h).F
def Gy:R:=(.mk:Sg 0x13110222212e2101 [a] h [Fi (D6 K),Fi (Ns K)]).F
def Aiv:Ru K R:=(.mk:Sg 0x122216d3f921007e32211001 [a] h [cl0 (Cd [.int .u8 0] 5 1 0 []),E0 (Em 5 1)] [cu1 (fun d=>Bu (D5 [(0,1),(1,1)]) [.Ao,.bool false] [(0,d)])]).F
def Aah:Ru K (Ru r R):=(.mk:Sg 0x12276230142116e203 [a,b,d,e] h [K4 (fun g d e=>c 306 [g,d,.func 307 [] [e]])]).F
def Agy:R:=(.mk:Sg 0x1476541003e0232820fe43201510e9 [a,b,d,e] h [E0 (It K),Wd (Aah c r K)]).F
def Adp:Ru K R:=(.mk:Sg 0x110e41104e2432e6232e5 [a,b] h).F
def Acn:Ru K R:=
 J6 e fun f=>
 k4 a b d f h
def Acw:R:=(.mk:Sg 0x1ba9840032162f1e817ea7132e19e245403e20de20ae5b75132e19e20de232b52132e19e0ee [a,b,d,e] h [Wd (Acn K k4)]).F
def K3(K:Nat):Nat->A4
 | 0=>fun _ _ _ _ _=>none
 | m+1=>fun a b d e h=>
  cE K7 .lss 3 e (.int .i64 64)
  (Acw K (K3 K m) a b d e h)
  (Adp K a d h)
def Oy:R:=(.mk:Sg 0x100234400010e05e410e9210e9 [a,b] h [Wd (K3 K K)] [] [List.replicate 64 (.int .u8 0)]).F
def Ez:Ru K R:=(.mk:Sg 0x1000e000e521633c9285409e [a,b,d,e] h).F
def Ex:R:=(.mk:Sg 0x1204324002543400650bea4d [a,b,d,e,f] h [Wd (Ez K)]).F
def Gj:R:=(.mk:Sg 0x120543250027654500c0225e23301e5a [a,b,d,e] h [cl5 (Ex K)]).F
def Hu:R:=(.mk:Sg 0x120243400235440060424eb2dc0324e [a,b] h [Wd (Gj K)]).F
def Ox:Ru K R:=(.mk:Sg 0x100010e71204e2732e6232e54232e15e203 [a,b,d] h).F
def Je:R:=(.mk:Sg 0x15433000be0010e61204e2632e6632e501e287609e [a,b,d,e,f,g] h [K4 (Ox K)]).F
def Ht:R:=(.mk:Sg 0x120245766002578a96002923e213e60303e2d00620e0ce0010e51204e2532e6332e501ec023701e433010e05e010e05e [a,b] h [cl6 (Je K)] [] [List.replicate 64 (.int .u8 0)]).F
def Aou:Ru K R:=(.mk:Sg 0x1002 [] h).F
def Am2:R:=(.mk:Sg 0x100004e023283209e [a,b] h [cl0 (Aou K)]).F
def Q5:R:=(.mk:Sg 0x12022002520000222e213e30300e2d213 [a] h [E0 (Am2 K)]).F
def W8:Ru K R:=(.mk:Sg 0x1222667e403e20de251f2e19e725403e51007e01467e603e269e9 [a,b,d] h [] [cu1 (fun b=>Sj .u8 b)] [] [(.int .u64 8)]).F
def Qc:Ru K R:=(.mk:Sg 0x1000e321640c42201203 [a,b] h [E0 (Em 5 1)]).F
def Ajp:Ru K R:=(.mk:Sg 0x1002200e23211303001 [a] h [cl0 (Cd [.int .u8 0] 5 1 0 []),E0 (Em 5 1)]).F
def N5:R:=(.mk:Sg 0x1310003e0b0200e628213 [a] h [Fi (Ajp K)]).F
def Abx:Ru K R:=
 Yj a b fun d=>
 some (d,h)
def My:R:=(.mk:Sg 0x1202200232005321e82a3223e [a,b,d] h [E0 (Abx K)]).F
def Ab8:Ru K R:=
 Yj a b fun d=>
 some (d,h)
def Xz:R:=(.mk:Sg 0x12022002320090321e92a10223e [a] h [E0 (Ab8 K)]).F
def Aam:Ru K R:=(.mk:Sg 0x152321660c622107e403422007e203 [a,b] h [] [cu2 (fun d b=>Aik 1 d none (some b) (some b)),cu2 (fun f b=>Aik 1 f (some b) none none)]).F
def Aal:R:=(.mk:Sg 0x143200b025021641cb021630c05e285409e [a,b,d,e] h [E0 (Aam K)]).F
def Abj:R:=(.mk:Sg 0x12024340025764002622e213e30301e2d5409e [a,b,d,e] h [Wd (Aal K)]).F
def J9:R:=(.mk:Sg 0x120243400235440000420eb2d213 [a,b] h [Wd (Abj K)]).F
def No:Ru K R:=(.mk:Sg 0x10023232e627fff4f01e17e8632e15e28201fe04fd7232e52fc03fcb5232e15e31c03f9011e273011e0ee [a,b,d] h [E0 (fun d i=>Rn c r d [i])]).F
def Fz:R:=(.mk:Sg 0x15433000be023286509e [a,b,d,e,f] h [K4 (No c r K)]).F
def J4:R:=(.mk:Sg 0x1202543500258765002623e213e30302e2d00320e [a,b,d] h [cl5 (Fz c r K)]).F
def Adr:R:=(.mk:Sg 0x110e51104e2532e623201632e5332e5010e05e210e9 [a,b] h [E0 (Oy K)] [] [List.replicate 64 (.int .u8 0)]).F
def Abz:Ru K R:=
 Yj a b fun d=>
 some (d,h)
def Pf:R:=(.mk:Sg 0x1202200232005321e82a3223e [a,b,d] h [E0 (Abz K)]).F
def Yv:Ru K R:=(.mk:Sg 0x1402 [] h).F
def Qz:Ru K R:=
 Yj a b fun d=>
 some (d,h)
def Mb:Ru K R:=
 Yj a b fun d=>
 some (d,h)
def Qu:R:=(.mk:Sg 0x1202200262002347e702e0007e212e53614e05e2a430be [a,b,d] h [E0 (Mb K)] [cu0 (Bu (Nc 1) (List.replicate 32 (.int .u8 0)) [])]).F
def Qq:Ru K R:=
 Yj a b fun d=>
 some (d,h)
def Pj:R:=(.mk:Sg 0x10402022302423000224e544c2a10224e3240ee6023701e202532026932021043012011ee63454409e2a10224e3241ae3023701e2022102421000224e544c2ac010230132412e1023701e2042bde9 [a] h [K4 (Pf K),E0 (Qz K),K4 (Qu K),E0 (Qq K),cl0 (Yv K)] [] [] [(.int .i64 256)]).F
def Anl:Ru K R:=
 some (a,h)
def Xd:R:=(.mk:Sg 0x13100d023284309e [a,b,d] h [Fi (Anl K)]).F
def Wo:R:=(.mk:Sg 0x1202430023530090422ea2d00220e [a,b] h [K4 (Xd K)]).F
def Ao1:Ru K R:=(.mk:Sg 0x12320040ae0123603e [a,b] h [E0 k2] [] [] [(.int .u64 8)]).F
def Lw(K:Nat):Nat->A2
 | 0=>fun _ _ _=>none
 | m+1=>fun a b h=>
  Af0 (bin TT .shr 3) a (.int .u64 8) fun d=>
  cE A7s .gtr 3 d (.int .i64 0)
  (Ao1 K (Lw K m) a b h)
  (Wo K a b h)
def Vo:R:=
 Lw K K a (.int .i64 1) h
def Ajr:R:=(.mk:Sg 0x1e7e91104e291ee671ee54221151007e20ce41010e7e05e0e7e05e [a] h [Fi (N5 K),builtin TT .copy #[184,184]] [cu1 (fun d=>Qi 44 1 d none none none)] [List.replicate 44 (.int .u8 0)]).F
def Ot:Ru K (Ru r (Ru c R)):=(.mk:Sg 0x1002 [] h).F
def Abf:R:=(.mk:Sg 0x10c00c0242b11e57236e5284b5414e21a3275191170ee13e0123701e2226281314ad023701e2226271314a9023701e22516161123701e22515168023701e2226241314ac023701e32347e012e06e20ce2623131403e6023701e2223732142431400e3023701e2227211210133ae500e1023701e204214e9 [a,b] h [Fi (Oa K),c 59,c 70,c 47,c 71,c 72,c 73,c 74,c 75,Fi (Ll K),Fi (Bx K),c 46,cl0 (Ot c r K)] [] [List.replicate 32 (.int .u8 0)] [(.int .i64 9),(.int .i64 6)]).F
def Zj(c:Ai)(r:Ai)(K:Nat)(tm:Ax)(a:EV)(h:Ab)(ds:List Nat):R:=
 stE 1 a (.bool false) h fun h=>
 Fp ds h fun h=>I9 TT [.c a 4] h
def Aq6:R:=
 (fun(tm:Ax) (ds:List Nat)=>
 Py 3 b h fun d h=>
 Au8 (.cells [(.bool false)] 4) h fun e h=>
 Ap (Aia K a h) fun f h=>
 Q2 c TT 18 14 0 f ((((tm.put 3 (some d)).put 4 (some e)).put 7 (some a)).put 8 (some f)) h ds (fun h ds=>
 Zj c r K ((((tm.put 3 (some d)).put 4 (some e)).put 7 (some a)).put 8 (some f)) e h ds) (fun id h ds=>
 Bb (Nat.beq 0 id) (Zj c r K ((((tm.put 3 (some d)).put 4 (some e)).put 7 (some a)).put 8 (some f)) e h ds) (none)) (fun h ds=>
 Fp ds h fun h=>I9 TT [.c e 4] h)) ((Tr.nil.put 0 (some a)).put 1 (some b)) []
def Aai:Ru K (Ru r (Ru c R)):=(.mk:Sg 0x1010000504168253701e20de [a,b,d] h [cl0 (Su l false .done (some .ret)),cl0 (Su l true .ready none)]).F
def Aiz:R:=
 Ff l h fun h=>Aai c r K l a b d h
def X3(c:Ai)(r:Ai)(K:Nat)(tm:Ax)(a:EV)(h:Ab)(ds:List Nat):R:=
 stE 1 a (.bool false) h fun h=>
 Fp ds h fun h=>I9 TT [.c a 4] h
def Aoy:R:=
 (fun(tm:Ax) (ds:List Nat)=>
 Py 3 b h fun d h=>
 Au8 (.cells [(.bool false)] 4) h fun e h=>
 Ap (Ae7 K a h) fun f h=>
 Q2 c TT 20 12 0 f ((((tm.put 3 (some d)).put 4 (some e)).put 6 (some a)).put 7 (some f)) h ds (fun h ds=>
 X3 c r K ((((tm.put 3 (some d)).put 4 (some e)).put 6 (some a)).put 7 (some f)) e h ds) (fun id h ds=>
 Bb (Nat.beq 0 id) (X3 c r K ((((tm.put 3 (some d)).put 4 (some e)).put 6 (some a)).put 7 (some f)) e h ds) (none)) (fun h ds=>
 Fp ds h fun h=>I9 TT [.c e 4] h)) ((Tr.nil.put 0 (some a)).put 1 (some b)) []
def Ys:Ru K (Ru r (Ru c R)):=(.mk:Sg 0x1010000504168253701e20de [a,b,d] h [cl0 (Su l false .done (some .ret)),cl0 (Su l true .ready none)]).F
def Ahh:R:=
 Ff l h fun h=>Ys c r K l a b d h
def Fs:Ru K (Ru r (Ru c R)):=
 Yj a b fun d=>
 some (d,h)
def Gx:R:=(.mk:Sg 0x12022202622020fe62211210130305e2a540be [a,b,d,e] h [Fi (Bw K),c 18,E0 (Fs c r K)]).F
def Ir:R:=(.mk:Sg 0x120243410257641020fe5220131303e2a540be [a,b,d,e] h [c 20,Wd (Gx c r K)]).F
def Oj:R:=(.mk:Sg 0x120243410257641020fe5220130303e2a540be [a,b,d,e] h [E0 (C9 K),Wd (Ir c r K)]).F
def Ue:R:=(.mk:Sg 0x12024340023544005425ea2a650be [a,b,d,e,f] h [Wd (Oj c r K)]).F
def Ai4:R:=(.mk:Sg 0x12027cb530238dc5308c25eb2a00223ea22212111703421ae20ce2101203 [a,b] h [Fi (Hj K),Fi (Bz K),E0 (Eu K),cl5 (Ue c r K)]).F
def T9(c:Ai)(r:Ai)(K:Nat)(tm:Ax)(a:EV)(h:Ab)(ds:List Nat):R:=
 Dr a h fun b=>
 uwE b h ds
def Aj1:R:=
 (fun(tm:Ax) (ds:List Nat)=>
 Py 26 a h fun d h=>
 nsE 1 [(.int .i64 0)] 3 (.int .i64 (-1)) h fun e h=>
 Dr d h fun f=>
 Ap7 f fun g=>
 Ady 0 g fun i=>
 Dr i h fun j=>
 Ap (Bz K j h) fun n h=>
 Ap (Tb K n b h) fun o h=>
 Q2 c TT 27 39 0 o ((((((((((tm.put 2 (some d)).put 4 (some (.int .i64 0))).put 5 (some e)).put 7 (some f)).put 8 (some g)).put 9 (some i)).put 10 (some j)).put 11 (some n)).put 12 (some b)).put 13 (some o)) h ds (fun h ds=>
 T9 c r K ((((((((((tm.put 2 (some d)).put 4 (some (.int .i64 0))).put 5 (some e)).put 7 (some f)).put 8 (some g)).put 9 (some i)).put 10 (some j)).put 11 (some n)).put 12 (some b)).put 13 (some o)) e h ds) (fun id h ds=>
 Bb (Nat.beq 0 id) (T9 c r K ((((((((((tm.put 2 (some d)).put 4 (some (.int .i64 0))).put 5 (some e)).put 7 (some f)).put 8 (some g)).put 9 (some i)).put 10 (some j)).put 11 (some n)).put 12 (some b)).put 13 (some o)) e h ds) (none)) (fun h ds=>
 Fp ds h fun h=>some ((.int .i64 0),h))) ((Tr.nil.put 0 (some a)).put 1 (some b)) []
def El(c:Ai)(r:Ai)(K:Nat)(l:Nat)(base:Nat)(s:DX)(a:EV)(b:EV)(d:EV)(e:EV)(h:Ab):R:=
 Yj d e fun f=>
 ifE f
 (stE 1 a b h fun h=>
 Su l true .ready none h)
 (Su l true .ready none h)
def Iz:R:=
 wtE d
 (pkO e f fun g=>
 El c r K l base s a b d g h)
 (El c r K l base s a b d tU h)
def I5:R:=
 wfE f
 (Hb 7 127 base a s fun s=>Dr a h fun g=>
 Am8 2 10 1023 base g s h fun s i=>
 Ds 12 4095 s h (fun h=>(E2 K i d h)) fun j h s=>
 Hb 13 127 base a s fun s=>Dr a h fun n=>
 Am8 2 16 57471 base n s h fun s o=>
 Hb 17 127 base b s fun s=>Dr b h fun p=>
 Ds 18 262143 s h (fun h=>(E2 K o p h)) fun q h s=>
 Af2 j q fun t=>
 Iz c r K l base s b d e f t h)
 (Iz c r K l base s b d e f tU h)
def V7:R:=
 Ts h fun base s=>
 Hb 0 0 base a s fun s=>Dr a h fun e=>
 Ds 2 3 s h (fun h=>(c 21 [e,d] h)) fun f h s=>
 wtE f
 (Hb 4 15 base b s fun s=>Dr b h fun g=>
 A4m g (.int .i64 (-1)) fun i=>
 I5 c r K l base s a b d f i h)
 (I5 c r K l base s a b d f tU h)
def Ac1:R:=
 Ff l h fun h=>V7 c r K l a b d h
end
variable{K d:Nat}(H:Ca disp)
include H
theorem Sl(hd:1<=d):R1 disp K d 204 (Gk K):=fun _=>rl H hd
theorem Aw2(hd:1<=d):R2 disp K d 209 (R7 K):=fun _ _=>rl H hd
theorem Ol(hd:1<=d):R2 disp K d 217 (It K):=fun _ _=>rl H hd
theorem Aol(hd:1<=d):R1 disp K d 222 (Td K):=fun _=>rl H hd
theorem Rx(hd:1<=d):R1 disp K d 223 (Dx K):=fun _=>rl H hd
theorem Hw(hd:1<=d):R1 disp K d 225 (D6 K):=fun _=>rl H hd
theorem Akm(hd:0<=d):S2 disp K d 228 Afq:=fun _ _=>rd rfl rfl H rfl
theorem Akc(hd:0<=d):S4 disp K d 233 Ae3:=fun _ _ _ _=>rd rfl rfl H rfl
theorem Xu(hd:1<=d):R1 disp K d 234 (G6 K):=fun _=>rl H hd
theorem Ami(hd:2<=d):R3 disp K d 238 (X2 K):=fun _ _ _=>ll H hd (fun d hd=>V1 (Aa5 H) hd<|rfl) 5 (e3 (Jy K) 0 1 6)
theorem Arb(hd:2<=d):S2 disp K d 239 Anw:=fun _ _=>rd rfl rfl H (V2 (F7 H) hd<|rfl)
theorem Aj4(hd:0<=d):S1 disp K d 240 Ada:=fun _=>rd rfl rfl H rfl
theorem X7(hd:2<=d):R1 disp K d 263 (G9 K):=fun _=>rl H hd fun d hd=>V1 (Hw H) hd<|rfl
theorem Anr(hd:1<=d):S2 disp K d 264 Ajw:=fun _ _=>ld rfl rfl H (V1 (Ky H) hd<|V2 (T3 H) hd<|V1 (Sl H) hd<|rfl) 51 (fun c r=>e5 (Ks c r K) 0 1 5 9 10)
theorem Anv(hd:1<=d):R2 disp K d 265 (Ai9 K):=fun _ _=>rl H hd
theorem Wb(hd:2<=d):R1 disp K d 279 (Gy K):=fun _=>rl H hd fun d hd=>V1 (Hw H) hd<|rfl
theorem Aqs(hd:1<=d):R1 disp K d 280 (Aiv K):=fun _=>rl H hd
theorem Amw(hd:1<=d):S4 disp K d 283 Agy:=fun _ _ _ _=>rd rfl rfl H (V2 (Ol H) hd<|rfl)
theorem Aa6(hd:1<=d):R2 disp K d 284 (Oy K):=fun _ _=>ll H hd (fun _ _=>rfl) 25 (e4 (K3 K) 2 3 4 6)
theorem Ym(hd:1<=d):R2 disp K d 285 (Hu K):=fun _ _=>rl H hd
theorem Yk(hd:1<=d):R2 disp K d 286 (Ht K):=fun _ _=>rl H hd
theorem Amn(hd:1<=d):R1 disp K d 288 (Q5 K):=fun _=>rl H hd
theorem Aro(hd:1<=d):R3 disp K d 289 (W8 K):=fun _ _ _=>rl H hd
theorem Acy(hd:1<=d):R2 disp K d 292 (Qc K):=fun _ _=>rl H hd
theorem W7(hd:1<=d):R1 disp K d 293 (N5 K):=fun _=>rl H hd
theorem Au3(hd:1<=d):R3 disp K d 294 (My K):=fun _ _ _=>rl H hd
theorem Aiw(hd:1<=d):R1 disp K d 304 (Xz K):=fun _=>rl H hd
theorem Y6(hd:1<=d):R2 disp K d 305 (J9 K):=fun _ _=>rl H hd
theorem Wa(hd:0<=d):S3 disp K d 306 J4:=fun _ _ _=>rd rfl rfl H rfl
theorem Ai6(hd:2<=d):R2 disp K d 307 (Adr K):=fun _ _=>rl H hd fun d hd=>V2 (Aa6 H) hd<|rfl
theorem Ajl(hd:1<=d):R3 disp K d 308 (Pf K):=fun _ _ _=>rl H hd
theorem Aks(hd:2<=d):R1 disp K d 309 (Pj K):=fun _=>rl H hd fun d hd=>V3 (Ajl H) hd<|rfl
theorem Axf(hd:1<=d):R1 disp K d 310 (Vo K):=fun _=>ll H hd (fun _ _=>rfl) 27 (e2 (Lw K) 0 3)
theorem Aqj(hd:2<=d):R1 disp K d 316 (Ajr K):=fun _=>rl H hd fun d hd=>V1 (W7 H) hd<|rfl
theorem Aid(hd:2<=d):S2 disp K d 12 Abf:=fun _ _=>rd rfl rfl H (V1 (Ab3 H) hd<|V1 (Aax H) hd<|V1 (Ey H) hd<|rfl)
theorem Aud(hd:1<=d):S2 disp K d 18 Aq6:=fun _ _=>rd rfl rfl H (V1 (Atp H) hd<|rfl)
theorem Aoo(hd:1<=d){l:Nat}(tm:Ax)(h:Ab)(m:EV)(k:EV){st:LoopState}{p:Option Code}(v:h.get l=some (.loop st p 18 14 tm [9,10] (Dt TT 18 0).2.2.1 (Dt TT 18 0).2.2.2 d0)):
 Ag TT disp K (d+1) true l [m,k] h=Aiz (Ag TT disp K d false) (Ag TT disp K d true) K l (tmp tm 3) (tmp tm 4) k h:=rr rfl rfl (rfl) v rfl (by kernel_rfl)
theorem Art(hd:1<=d):S2 disp K d 20 Aoy:=fun _ _=>rd rfl rfl H (V1 (Arl H) hd<|rfl)
theorem Amz(hd:1<=d){l:Nat}(tm:Ax)(h:Ab)(k:EV){st:LoopState}{p:Option Code}(m:h.get l=some (.loop st p 20 12 tm [8] (Dt TT 20 0).2.2.1 (Dt TT 20 0).2.2.2 d0)):
 Ag TT disp K (d+1) true l [k] h=Ahh (Ag TT disp K d false) (Ag TT disp K d true) K l (tmp tm 3) (tmp tm 4) k h:=rr rfl rfl (rfl) m rfl (by kernel_rfl)
theorem Aoj(hd:3<=d):S2 disp K d 21 Ai4:=fun _ _=>rd rfl rfl H (V1 (Xn H) hd<|V1 (Cw H) hd<|V2 (F7 H) hd<|V1 (Gn H) hd<|V2 (Ek H) hd<|rfl)
theorem Arf(hd:1<=d):∀a b h,F27 (Ag TT disp K d false) (Ag TT disp K d true) K [a,b] h=Aj1 (Ag TT disp K d false) (Ag TT disp K d true) K a b h:=fun _ _=>rf rfl rfl rfl (B:=cH _ _ _ _ K 27 .no) (V1 (Cw H) hd<|V2 (Ajy H) hd<|rfl) rfl
theorem Aja(hd:1<=d){l:Nat}(tm:Ax)(h:Ab)(k:EV){st:LoopState}{p:Option Code}(m:h.get l=some (.loop st p 27 39 tm [14] (Dt TT 27 0).2.2.1 (Dt TT 27 0).2.2.2 d0)):
 Ag TT disp K (d+1) true l [k] h=Ac1 (Ag TT disp K d false) (Ag TT disp K d true) K l (tmp tm 2) (tmp tm 5) k h:=rr rfl rfl (V2 (Mr H) hd<|rfl) m rfl (by kernel_rfl)
end
end
noncomputable section
section
variable (c r:Ai)(K l:Nat)(k0:A0)(k1:A1)(k2:A2)(k3:A3)(k4:A4)(k5:A5)(k6:A6)(k7:A7)(k8:A8)(k9:A9)(k10:A10)(k11:A11)(k12:A12)(m0:B0)(m1:B1)(m2:B2)(m3:B3)(m4:B4)(m5:B5)(m6:B6)(m7:B7)(m8:B8)(m9:B9)(m10:B10)(m11:B11)(m12:B12)(base:Nat)(s:DX)(tm:Ax)(a b d e f g i j n o p q t u w x y z aa ab ad ae af ag ai aj an ao ap aq au aw ax ay az ba bb bd be bf bg bi bj bn bo bp bq bt bu bw bx bz da db dd de df dg di dj dn dp dq dt du dw dx dy dz ea eb ed ee ef eg ei ej en eo ep eq et eu ew ex ey ez fa fb fd fe ff fg fi fj fn fo fp fq ft fu fw fx fy fz ga gb gd ge gf gg gi gj gn go gp gq gt gu gw gx gy gz ia ib ie ig ii ij io ip iq it iu iw ix iy iz ja jb:EV)(h:Ab)(ds:List Nat)
def Aco:Ru K (Ru r (Ru c R)):=
 some (a,h)
def Oe:Ru K (Ru r (Ru c R)):=
 J6 e fun f=>
 k4 a b d f h
def Ub:R:=(.mk:Sg 0x1764340076534007288709e [a,b,d,e,f,g,i] h [Wd (Oe c r K k4)]).F
def Ach:R:=(.mk:Sg 0x12028754371025ba8767102820e5220132307e2d01324e [a,b,d,e,f,g] h [E0 (E2 K),cl7 (Ub c r K k4)] [] [] [(.int .i64 (-1))]).F
def Kx:R:=
 pkO i j fun n=>
 ifE n
 (Oe c r K k4 a b f g h)
 (Ach c r K k4 a b d e f g h)
def Of:R:=(.mk:Sg 0x120287654381024a9876581020fe5320104e2d9809e [a,b,d,e,f,g,i,j] h [c 84,cl8 (Kx c r K k4)]).F
def Ads:R:=(.mk:Sg 0x12029849768302700ed900ecb8302522e21007e21217034301fe0fe2d20fe7421162201223 [a,b,d,e] h [E0 (E2 K),c 21,Fi (Bz K),cl8 (Of c r K k4)] [cu1 (fun p=>Aii 2 false 0 p)]).F
def Im(c:Ai)(r:Ai)(K:Nat):Nat->A4
 | 0=>fun _ _ _ _ _=>none
 | m+1=>fun a b d e h=>
  cE K7 .lss 3 e d
  (Ads c r K (Im c r K m) a b d e h)
  (Aco c r K b h)
def Aju:R:=
 fE 0 a h fun b=>
 Ap (Bz K b h) fun d h=>
 Ap (Cz K d h) fun e h=>
 Im c r K K a (.int .i64 (-1)) e (.int .i64 0) h
def Agu:Ru K R:=(.mk:Sg 0x10024226522319e31c542007e [a,b,d,e] h [] [cu2 (fun d e=>Bu (D5 [(0,1),(1,1)]) [.int .i64 0,.int .i64 0] [(0,d),(1,e)])]).F
def Ag0:R:=(.mk:Sg 0x1654340003e023287609e [a,b,d,e,f,g] h [Wd (Agu K)]).F
def Ahd:R:=(.mk:Sg 0x12065432600276543600870bec6d [a,b,d,e,f,g,i] h [cl6 (Ag0 K)]).F
def Ahj:R:=(.mk:Sg 0x120765432700287654370001425e00e7a [a,b,d,e,f,g] h [cl7 (Ahd K)] [] [] [(.int .i64 (-1))]).F
def Af8:R:=(.mk:Sg 0x120265436002376546006524ec2d7609e [a,b,d,e,f,g] h [cl6 (Ahj K)]).F
def Ah3:R:=(.mk:Sg 0x1202654361024876561020fe64330103e2d7609e [a,b,d,e,f,g] h [K4 (Qd K),cl6 (Af8 K)]).F
def Sq:R:=(.mk:Sg 0x1202765462024987662020fe65431103e2d20fe3101 [a,b,d,e] h [Fi (Ate K),K4 (Qd K),cl6 (Ah3 K)]).F
def Af3:Ru r (Ru c R):=(.mk:Sg 0x1225220152116e263 [a,b,d] h [E0 (Ha K)]).F
def Aom:R:=(.mk:Sg 0x137632006e023286521103e0230023301e5220126520c [a,b] h [E0 (Eu K),c 18,K4 (Af3 c r K)]).F
def Vq:Ru K (Ru r (Ru c R)):=(.mk:Sg 0x1002 [] h).F
def Kb:Ru K (Ru r (Ru c R)):=
 J6 d fun e=>
 k3 a b e h
def Vz:R:=(.mk:Sg 0x1653310222212e32201 [a,b,d,e] h [c 143,K4 (Kb c r K k3)]).F
def Vm:R:=(.mk:Sg 0x1656442065431062820fe42201 [a,b,d] h [c 142,K4 (Kb c r K k3),Wd (Vz c r K k3)]).F
def F3(c:Ai)(r:Ai)(K:Nat):Nat->A3
 | 0=>fun _ _ _ _=>none
 | m+1=>fun a b d h=>
  cE K7 .lss 3 d b
  (Vm c r K (F3 c r K m) a b d h)
  (Vq c r K h)
def Vt:R:=(.mk:Sg 0x1002532021112101203 [a] h [Fi (Bz K),Fi (Cz K),K4 (F3 c r K K)]).F
def Vg:R:=(.mk:Sg 0x105e110222212e20ce2a20ffffff6f0ae723574007e00e3800006f08e211e23c0005f04e210ec3c21e004fd110ea3c2e2e8010e83c773111e0ee42162014e53c20ae20423c [a] h [c 141,Fi (Vt c r K)] [cu4 (fun n p t u=>Bu (D5 [(0,1),(1,1),(2,1),(3,1)]) [.int .i64 0,.int .i64 0,.int .i64 0,.Cl] [(0,n),(1,p),(2,t),(3,u)])]).F
def Abp:R:=(.mk:Sg 0x15120222212e21112101203 [a] h [Fi (Bx K),c 140,Fi (Vg c r K)]).F
def Yg:Ru K (Ru r (Ru c R)):=(.mk:Sg 0x1002 [] h).F
def Rq:R:=(.mk:Sg 0x10000fe02328320be [a,b] h [cl0 (Yg c r K)]).F
def Q4:R:=(.mk:Sg 0x12022202322000722e92a00224e21112101203 [a,b] h [Fi (Bw K),Fi (Iu K),E0 (Rq c r K)]).F
def Ahv:Ru K (Ru r (Ru c R)):=
 J6 e fun f=>
 k4 a b d f h
def Rt:R:=
 pkO f g fun i=>
 ifE i
 (Q4 c r K a b h)
 (Ahv c r K k4 a b d e h)
def Ahl:R:=(.mk:Sg 0x1202874360023985460000615e802e01e2d40fe [a,b,d,e,f,g] h [cl6 (Rt c r K k4)]).F
def Aga:R:=(.mk:Sg 0x18723656102220ee0215e701e20ce2101 [a,b,d,e] h [c 145,cl6 (Ahl c r K k4)]).F
def Ag7:R:=(.mk:Sg 0x187654200023623601e21112101203 [a,b,d,e] h [Fi (Bw K),Fi (Iu K),Wd (Aga c r K k4)]).F
def Nh(c:Ai)(r:Ai)(K:Nat):Nat->A4
 | 0=>fun _ _ _ _ _=>none
 | m+1=>fun a b d e h=>
  cE K7 .lss 3 e d
  (Ag7 c r K (Nh c r K m) a b d e h)
  (Q4 c r K a b h)
def Aew:R:=(.mk:Sg 0x1002764202301fe21112101203 [a,b] h [Fi (Bz K),Fi (Cz K),Wd (Nh c r K K)]).F
def Pz:R:=(.mk:Sg 0x14320003e023285409e [a,b,d,e] h [E0 (Aew c r K)]).F
def Aos:R:=(.mk:Sg 0x12024342026874202722e2111210130307e2d00320e [a,b] h [Fi (Bz K),Fi (Cz K),Wd (Pz c r K)]).F
def Xm:R:=(.mk:Sg 0x1222101263 [a] h [Fi (Fo K)]).F
def Ah5:Ru K (Ru r (Ru c R)):=
 J6 f fun g=>
 k5 a b d e g h
def Agv:R:=(.mk:Sg 0x1cba98510000e22820fe26201921de231fe51430de [a,b,d,e,f] h [E0 (fun a n=>Rn c r a [n]),cl5 (Ah5 c r K k5)]).F
def Nu(c:Ai)(r:Ai)(K:Nat):Nat->A5
 | 0=>fun _ _ _ _ _ _=>none
 | m+1=>fun a b d e f h=>
  cE K7 .lss 3 f e
  (Agv c r K (Nu c r K m) a b d e f h)
  (some (.tuple [],h))
def Ahr:R:=
 oE 1 d h fun e=>
 Nu c r K K a b d e (.int .i64 0) h
def Ape:R:=(.mk:Sg 0x1987310000e22820fe20043011021ee50430de [a,b,d] h [K4 (Jw K),K4 (Ahr c r K)]).F
def U9(c:Ai)(r:Ai)(K:Nat)(tm:Ax)(a:EV)(h:Ab)(ds:List Nat):R:=
 stE 1 a (.bool true) h fun h=>
 Fp ds h fun h=>I9 TT [.c a 4] h
def Al6:R:=
 (fun(tm:Ax) (ds:List Nat)=>
 Py 26 a h fun d h=>
 Au8 (.cells [(.bool false)] 4) h fun e h=>
 Dr d h fun f=>
 Ap7 f fun g=>
 Ady 2 g fun i=>
 Dr i h fun j=>
 Ap (Pc K j b h) fun n h=>
 Q2 c TT 84 40 0 n ((((((((tm.put 2 (some d)).put 4 (some e)).put 8 (some f)).put 9 (some g)).put 10 (some i)).put 11 (some j)).put 12 (some b)).put 13 (some n)) h ds (fun h ds=>
 U9 c r K ((((((((tm.put 2 (some d)).put 4 (some e)).put 8 (some f)).put 9 (some g)).put 10 (some i)).put 11 (some j)).put 12 (some b)).put 13 (some n)) e h ds) (fun id h ds=>
 Bb (Nat.beq 0 id) (U9 c r K ((((((((tm.put 2 (some d)).put 4 (some e)).put 8 (some f)).put 9 (some g)).put 10 (some i)).put 11 (some j)).put 12 (some b)).put 13 (some n)) e h ds) (none)) (fun h ds=>
 Fp ds h fun h=>I9 TT [.c e 4] h)) ((Tr.nil.put 0 (some a)).put 1 (some b)) []
def Dd(c:Ai)(r:Ai)(K:Nat)(l:Nat)(base:Nat)(s:DX)(a:EV)(b:EV)(d:EV)(h:Ab):R:=
 pkO b d fun e=>
 ifE e
 (stE 1 a (.bool false) h fun h=>
 Su l false .done (some .ret) h)
 (Su l true .ready none h)
def Xc:R:=
 Dr a h fun e=>
 fE 2 e h fun f=>
 Ap (Jq K f d h) fun g h=>
 x2E g fun i j=>
 nsE 6 [(.int .i64 0),(.int .i64 0),(.int .i64 0),(.int .i64 0),(.int .i64 0),(.int .i64 0)] 53 i h fun n h=>
 Ts h fun base s=>
 Hb 0 0 base a s fun s=>Dr a h fun o=>
 Am8 0 3 7 base o s h fun s p=>
 olE 1 5 16 base n s h fun s q=>
 Ds 6 63 s h (fun h=>(C9 K p q h)) fun t h s=>
 wfE t
 (Hb 8 255 base a s fun s=>Dr a h fun u=>
 Am8 0 11 2047 base u s h fun s w=>
 olE 2 13 4351 base n s h fun s x=>
 Ds 14 16383 s h (fun h=>(C9 K w x h)) fun y h s=>
 Dd c r K l base s b t y h)
 (Dd c r K l base s b t tU h)
def Ae8:R:=
 Ff l h fun h=>Xc c r K l a b d h
def T7:Ru K (Ru r R):=(.mk:Sg 0x1000e000e3101628430be [a,b,d] h [c 172]).F
def Ait:R:=(.mk:Sg 0x120233102563102620e210130302e2a00323e [a,b] h [Fi (Ng K),K4 (T7 c r K)]).F
def Ye:Ru K R:=
 Yj a b fun d=>
 some (d,h)
def Ags:R:=(.mk:Sg 0x120220024200c0221e413eb2a10223e213e [a] h [E0 (Ye K)]).F
def Ahf:Ru K R:=
 J6 f fun g=>
 k5 a b d e g h
def Ag5:R:=(.mk:Sg 0x1cba9851040232820fe26201204262e013e06e213e56413e15e [a,b,d,e,f] h [E0 (Un K),cl5 (Ahf K k5)] [] [[.int .i64 0]++List.replicate 32 (.int .u8 0)]).F
def Nv(K:Nat):Nat->A5
 | 0=>fun _ _ _ _ _ _=>none
 | m+1=>fun a b d e f h=>
  cE K7 .lss 3 f e
  (Ag5 K (Nv K m) a b d e f h)
  (Ags K b h)
def Wm:R:=
 Hz b fun d=>
 Nv K K a b b d (.int .i64 0) h
def Ahu:Ru r R:=(.mk:Sg 0x1222522121112101203 [a] h [Fi (Bz K),Fi (Mz K),c 75]).F
def Pk:Ru K (Ru r (Ru c R)):=
 J6 d fun e=>
 m3 ((tm.put 26 (some e)).put 12 (some e)) a b e h ds
def Aeb:R:=
 X8 1 a d fun e=>
 Dr e h fun f=>
 nsE 1 [(.int .i64 0)] 3 d h fun g h=>
 Ap (Acb K f h) fun i h=>
 Q2 c TT 146 27 0 i (((((((tm.put 14 (some d)).put 15 (some e)).put 16 (some f)).put 3 (some g)).put 4 (some f)).put 17 (some f)).put 18 (some i)) h ds (fun h ds=>
 Pk c r K m3 (((((((tm.put 14 (some d)).put 15 (some e)).put 16 (some f)).put 3 (some g)).put 4 (some f)).put 17 (some f)).put 18 (some i)) a b d h ds) (fun id h ds=>
 Bb (Nat.beq 2 id) (Pk c r K m3 (((((((tm.put 14 (some d)).put 15 (some e)).put 16 (some f)).put 3 (some g)).put 4 (some f)).put 17 (some f)).put 18 (some i)) a b d h ds) (Bb (Nat.beq 1 id) (Pk c r K m3 (((((((tm.put 14 (some d)).put 15 (some e)).put 16 (some f)).put 3 (some g)).put 4 (some f)).put 17 (some f)).put 18 (some i)) a b d h ds) (Bb (Nat.beq 0 id) (Fp ds h fun h=>some (.tuple [],h)) (none)))) (fun h ds=>
 uwE tU h ds)
def L2(c:Ai)(r:Ai)(K:Nat):Nat->B3
 | 0=>fun _ _ _ _ _ _=>none
 | m+1=>fun tm a b d h ds=>
  Af2 d b fun e=>
  ifE e
  (Aeb c r K (L2 c r K m) (tm.put 13 (some e)) a b d h ds)
  (uwE tU h ds)
def Aly:R:=
 (fun(tm:Ax) (ds:List Nat)=>
 Py 213 a h fun d h=>
 Dr b h fun e=>
 Ap7 e fun f=>
 Ady 6 f fun g=>
 Dr g h fun i=>
 Hz i fun j=>
 L2 c r K K (((((((tm.put 2 (some d)).put 7 (some e)).put 8 (some f)).put 9 (some g)).put 10 (some i)).put 11 (some j)).put 12 (some (.int .i64 0))) i j (.int .i64 0) h ds) ((Tr.nil.put 0 (some a)).put 1 (some b)) []
def Wt:Ru K R:=(.mk:Sg 0x102001032820fe62330140de20de [a,b,d] h [K4 (fun e f d=>Rn c r e [f,d]),cl0 (Su l false .done (some .ret)),cl0 (Su l true .ready none)]).F
def Afn:R:=
 Ff l h fun h=>Wt c r K l a b d h
def Agf:R:=(.mk:Sg 0x123200e20ce210142116e263 [a,b] h [Fi (Gk K)]).F
def Wv:R:=(.mk:Sg 0x14320003e000200e6285409e [a,b,d,e] h [E0 (Agf K)]).F
def O4:R:=(.mk:Sg 0x12024340025764002623e213e36301e2d00320e [a,b] h [Wd (Wv K)]).F
def U5(c:Ai)(r:Ai)(K:Nat)(tm:Ax)(a:EV)(h:Ab)(ds:List Nat):R:=
 stE 1 a (.bool true) h fun h=>
 Fp ds h fun h=>I9 TT [.c a 4] h
def Va:R:=
 Ady 3 a fun d=>
 Dr d h fun e=>
 Ap (Xm K e h) fun f h=>
 Q2 c TT 159 36 0 f (((tm.put 26 (some d)).put 27 (some e)).put 28 (some f)) h ds (fun h ds=>
 U5 c r K (((tm.put 26 (some d)).put 27 (some e)).put 28 (some f)) b h ds) (fun id h ds=>
 Bb (Nat.beq 0 id) (U5 c r K (((tm.put 26 (some d)).put 27 (some e)).put 28 (some f)) b h ds) (none)) (fun h ds=>
 Fp ds h fun h=>I9 TT [.c b 4] h)
def Jo:R:=
 pkO d e fun f=>
 ifE f
 (stE 1 b (.bool false) h fun h=>
 Fp ds h fun h=>I9 TT [.c b 4] h)
 (Va c r K (tm.put 25 (some f)) a b h ds)
def Lx:R:=
 pkO d e fun f=>
 wfE f
 (Ady 2 a fun g=>
 Dr g h fun i=>
 Ap (R7 K i (.int .i64 281474976710655) h) fun j h=>
 Afz j fun n=>
 Jo c r K ((((((tm.put 19 (some f)).put 20 (some f)).put 21 (some g)).put 22 (some i)).put 23 (some j)).put 24 (some n)) a b f n h ds)
 (Jo c r K ((((((tm.put 19 (some f)).put 20 (some f)).put 21 (some tU)).put 22 (some tU)).put 23 (some tU)).put 24 (some tU)) a b f tU h ds)
def P0:R:=
 pkO d e fun f=>
 wfE f
 (Ady 1 a fun g=>
 Dr g h fun i=>
 Ap (R7 K i (.int .i64 4294967295) h) fun j h=>
 Afz j fun n=>
 Lx c r K ((((((tm.put 13 (some f)).put 14 (some f)).put 15 (some g)).put 16 (some i)).put 17 (some j)).put 18 (some n)) a b f n h ds)
 (Lx c r K ((((((tm.put 13 (some f)).put 14 (some f)).put 15 (some tU)).put 16 (some tU)).put 17 (some tU)).put 18 (some tU)) a b f tU h ds)
def Alo:R:=
 (fun(tm:Ax) (ds:List Nat)=>
 Py 163 a h fun b h=>
 Au8 (.cells [(.bool false)] 4) h fun d h=>
 Ady 3 b fun e=>
 Dr e h fun f=>
 Kv Ala (bin TT .eql 49) f .Cl fun g=>
 wfE g
 (Ady 0 b fun i=>
 Dr i h fun j=>
 Ap (R7 K j (.int .i64 281474976710655) h) fun n h=>
 Afz n fun o=>
 P0 c r K ((((((((((tm.put 1 (some b)).put 2 (some d)).put 5 (some e)).put 6 (some f)).put 7 (some g)).put 8 (some g)).put 9 (some i)).put 10 (some j)).put 11 (some n)).put 12 (some o)) b d g o h ds)
 (P0 c r K ((((((((((tm.put 1 (some b)).put 2 (some d)).put 5 (some e)).put 6 (some f)).put 7 (some g)).put 8 (some g)).put 9 (some tU)).put 10 (some tU)).put 11 (some tU)).put 12 (some tU)) b d g tU h ds)) (Tr.nil.put 0 (some a)) []
def Xh:Ru K (Ru r (Ru c R)):=(.mk:Sg 0x1010000405168233601e324444 [a,b,d] h [cl0 (Su l false .done (some .ret)),cl0 (Su l true .ready none)]).F
def Aes:R:=
 nsE 6 [(.int .i64 0),(.int .i64 0),(.int .i64 0),(.int .i64 0),(.int .i64 0),(.int .i64 0)] 53 d h fun e h=>
 Ff l h fun h=>Xh c r K l a b e h
def Aak:R:=(.mk:Sg 0x122210142116e203 [a,b] h [Fi (Ee K)]).F
def Ki:R:=(.mk:Sg 0x154210c0232820fe32201 [a,b] h [E0 (It K),E0 (Aak K)]).F
def Agj:Ru r R:=(.mk:Sg 0x1c1202b211636e5321691c210121007e613212e036e06e236e500236e15e213 [a] h [Fi (Dx K),c 224,Fi k1] [cu1 (fun g=>Aik 68 g (some (.int .i64 1)) none none)] [List.replicate 4 (.int .i64 0)++List.replicate 64 (.int .u8 0)]).F
def Ka(c:Ai)(r:Ai)(K:Nat)(k1:A1)(base:Nat)(s:DX)(a:EV)(b:EV)(d:EV)(h:Ab):R:=
 Yj b d fun e=>
 ifE e
 (Agj c r K k1 a h)
 (some (.tuple [],h))
def Nw:R:=
 Yj b d fun e=>
 wtE e
 (Am8 1 18 262143 base a s h fun s f=>
 X8 68 f (.int .i64 0) fun g=>
 olE 0 21 2097151 base g s h fun s i=>
 Am8 0 25 29392895 base a s h fun s j=>
 Ds 26 62947327 s h (fun h=>(Q9 K j h)) fun n h s=>
 Atu i n fun o=>
 Ka c r K k1 base s a e o h)
 (Ka c r K k1 base s a e tU h)
def Ke(c:Ai)(r:Ai)(K:Nat):Nat->A1
 | 0=>fun _ _=>none
 | m+1=>fun a h=>
  Ts h fun base s=>
  Am8 0 3 7 base a s h fun s b=>
  Ds 4 15 s h (fun h=>(Td K b h)) fun d h s=>
  Afz d fun e=>
  wtE e
  (Am8 1 10 1023 base a s h fun s f=>
  Hz f fun g=>
  Aqd g (.int .i64 0) fun i=>
  Nw c r K (Ke c r K m) base s a e i h)
  (Nw c r K (Ke c r K m) base s a e tU h)
def Ax0:R:=
 Ke c r K K a h
def Aaj:Ru K R:=(.mk:Sg 0x1002321643c20ae233 [a] h).F
def H4:R:=(.mk:Sg 0x1511003e0232820fe432010ee02328243 [a,b] h [E0 (It K),Fi (Aaj K)]).F
def Ig:Ru K R:=(.mk:Sg 0x1002200e1021ee213e203 [a] h).F
def Nx:R:=(.mk:Sg 0x1b120c12030216b3cc233701ea13213e8031021673c321623ff3fa17e60c242170e772101618e432e5405b200e4011e0ee [a,b] h [Fi (fun e=>Cd (List.replicate 64 (.int .u8 0)) 30 64 1 [(0,e)]),E0 (Em 30 64),Fi (Ig K)]).F
def Ii:R:=(.mk:Sg 0x14320007e000200e63023701e233 [a,b] h [E0 (Nx K)]).F
def D8:R:=(.mk:Sg 0x134210200200e5212e3101310e9 [a,b] h [Fi (D6 K),E0 (Ii K)]).F
def Aaw:Ru K R:=(.mk:Sg 0x1002 [] h).F
def Aa1:Ru K R:=
 J6 d fun e=>
 k3 a b e h
def Aap:R:=
 A62 1 a d h fun e=>
 Ap (G6 K e h) fun f h=>
 Aa1 K k3 a b d h
def J5(K:Nat):Nat->A3
 | 0=>fun _ _ _ _=>none
 | m+1=>fun a b d h=>
  cE K7 .lss 3 d b
  (Aap K (J5 K m) a b d h)
  (Aaw K h)
def Abr:R:=(.mk:Sg 0x10023300213e503321643c20ae233 [a] h [K4 (J5 K K)]).F
def Rf:R:=(.mk:Sg 0x131000ee02328243 [a] h [Fi (Abr K)]).F
def Rm:Ru K (Ru r (Ru c R)):=(.mk:Sg 0x1002 [] h).F
def Ld:R:=(.mk:Sg 0x10100ee0230ee0215e701e2101 [a] h [c 240,cl0 (Rm c r K)]).F
def Le:R:=(.mk:Sg 0x13100002328430be [a,b,d] h [Fi (Ld c r K)]).F
def Ro:R:=(.mk:Sg 0x1202831024a3102a25e8fce3c2a2825e6fbe3622014f9e31021642115e2fae3 [a,b] h [c 239,K4 (Le c r K)]).F
def Ul:R:=(.mk:Sg 0x17622006e023286521103e0230023301e5220126521c [a,b] h [E0 (Eu K),E0 (C9 K),E0 (Ro c r K)]).F
def T4:Ru K R:=
 some (a,h)
def Acx:Ru K R:=
 J6 f fun g=>
 k5 a b d e g h
def Ace:R:=
 A62 1 d f h fun g=>
 Ap (Ha K a g h) fun i h=>
 Acx K k5 a b d e f h
def Ip(K:Nat):Nat->A5
 | 0=>fun _ _ _ _ _ _=>none
 | m+1=>fun a b d e f h=>
  cE K7 .lss 3 f e
  (Ace K (Ip K m) a b d e f h)
  (T4 K b h)
def Tx:R:=
 Hz b fun d=>
 Ip K K a b b d (.int .i64 0) h
def Aci:Ru K R:=
 J6 e fun f=>
 k4 a b d f h
def Acu:R:=(.mk:Sg 0x18765430a92743027221311102e00215e701e20ce2101 [a,b,d,e] h [Fi (Gk K),Fi (fun g=>Cd [.int .i64 0] 3 1 1 [(0,g)]),E0 (Em 3 1),Wd (Aci K k4)]).F
def Il(K:Nat):Nat->A4
 | 0=>fun _ _ _ _ _=>none
 | m+1=>fun a b d e h=>
  cE K7 .lss 3 e d
  (Acu K (Il K m) a b d e h)
  (Tx K a b h)
def S7:R:=(.mk:Sg 0x1002b034102101 [a] h [Fi (Fl K),Wd (Il K K)]).F
abbrev Ve(K:Nat)(c:Ai):Ai:=(w1 122 (Fl K) (w2 137 (Ha K) (w1 204 (Gk K) c)))
def Pm:Ru K R:=
 Yj a b fun d=>
 some (d,h)
def Pt:R:=(.mk:Sg 0x12022102521020053011021ee42405e2a540be [a,b,d,e] h [K4 (Jw K),E0 (Pm K)]).F
def Mp:R:=(.mk:Sg 0x120247430268b43020093211021ee21114650be2a2101265209e9 [a,b,d] h [Fi (Mo K),Fi (Cz K),K4 (Jw K),Wd (Pt K)]).F
def Aat:Ru K R:=
 some (a,h)
def Sp:R:=(.mk:Sg 0x131200123212e20ce522112101203 [a,b] h [Fi (Bw K),E0 (O4 K),Fi (Aat K)] [] [] [(.int .i64 (-1))]).F
def Nl:R:=
 Yj e f fun g=>
 ifE g
 (some (d,h))
 (Sp K a b h)
def Ra:R:=(.mk:Sg 0x12026a9510259dc51020fe7220190304e2a01525e012162114e722319e51c214422319e21c [a,b] h [E0 (C9 K),cl5 (Nl K)] [] [] [(.int .i64 (-1))]).F
def Aed:Ru r R:=(.mk:Sg 0x122522112101203 [a,b] h [Fi (Bx K),c 219]).F
def Afc:R:=(.mk:Sg 0x17623000233023701e6222121112101203 [a,b] h [Fi (Bx K),Fi (E3 K),E0 (Ki K),E0 (Aed c r K)]).F
def Afd:Ru K (Ru r (Ru c R)):=
 J6 f fun g=>
 k5 a b d e g h
def Pw:R:=
 A5j d
 (some (d,h))
 (Afd c r K k5 a b e f g h)
def Pp:R:=(.mk:Sg 0x18765436008760ae043600a28980be [a,b,d,e,f,g,i,j] h [cl6 (Pw c r K k5)]).F
def Afv:R:=(.mk:Sg 0x120202e01e00e3dc8202303e02e01e400ed82002e425e00e2a00215e702e20ce2933171e77432e5406b21001e47573011e0ee210e032e06e232e56432e15e [a,b,d,e,f] h [Fi (Bx K),c 45,cl8 (Pp c r K k5)] [] [List.replicate 64 (.int .u8 0)]).F
def L0(c:Ai)(r:Ai)(K:Nat):Nat->A5
 | 0=>fun _ _ _ _ _ _=>none
 | m+1=>fun a b d e f h=>
  cE K7 .lss 3 f e
  (Afv c r K (L0 c r K m) a b d e f h)
  (Afc c r K a b h)
def Afl:R:=
 Hz d fun e=>
 L0 c r K K a b d e (.int .i64 0) h
def Afe:R:=(.mk:Sg 0x1543310222212e32201 [a,b,d] h [c 262,K4 (Afl c r K)]).F
def Ame:R:=(.mk:Sg 0x13b9320222212e20ce8233171e77445405b21001e47373011e0ee395e9 [a,b,d] h [Fi (K2 K),c 261,K4 (Afe c r K)]).F
def Aae:R:=(.mk:Sg 0x122210142116e203 [a,b] h [Fi (G9 K)]).F
def Rv:R:=(.mk:Sg 0x143210222212e32201 [a,b] h [E0 (H4 K),E0 (Aae K)]).F
def Yp:R:=(.mk:Sg 0x122210142116e203 [a,b] h [Fi (Gy K)]).F
def Pr:R:=(.mk:Sg 0x143210222212e32201 [a,b] h [E0 (H4 K),E0 (Yp K)]).F
def Adc:Ru r (Ru c R):=(.mk:Sg 0x1000e2ab323fff4f00e7242107e20ae94003fb32e10e24211e03f97232e5272e8b01e414e232e5212e6b4014e725704ba73311e0ee3233e6271e717e11563f05e618e232011e57325304b673311e0ee2a5e0206e232007e434324 [a,b] h [E0 (Aph TT 179 342 false),E0 (Oy K),K4 (Zq TT 179)] [cu2 (fun d e=>Bu (D5 [(0,1),(1,1)]) [.int .i64 0,.int .i64 0] [(0,d),(1,e)]),cu2 (fun y aa=>Bu (D5 [(0,64),(64,1)]) (List.replicate 64 (.int .u8 0)++[.int .i64 0]) [(0,y),(1,aa)])] [[.int .i64 0,.int .i64 0],List.replicate 64 (.int .u8 0)++[.int .i64 0]]).F
def Ajf:R:=(.mk:Sg 0x189210000e2212e2456403ff3fa7232e52f2e9b5414e432e7310e302e5210e373011e0ee312e9 [a,b] h [c 283,E0 (Adc c r K)]).F
def Adg:R:=(.mk:Sg 0x10026220142116e203 [a,b,d] h [E0 (Hu K)]).F
def O2:R:=(.mk:Sg 0x165431003e0232820fe32201 [a,b,d] h [E0 (It K),K4 (Adg K)]).F
def Adj:R:=(.mk:Sg 0x12010ea1204e3a32e620ce6220142116e203 [a,b,d,e] h [E0 (Ht K)]).F
def Ta:R:=(.mk:Sg 0x136544103010e41204e2432e60007e00e212e43201010e05e [a,b,d] h [E0 (H4 K),Wd (Adj K)] [cu0 (Bu (Nc 1) (List.replicate 64 (.int .u8 0)) [])] [List.replicate 64 (.int .u8 0)]).F
def Ahq:Ru K R:=
 some (a,h)
def Ag3:Ru K R:=
 J6 f fun g=>
 k5 a b d e g h
def Af6:R:=(.mk:Sg 0x1a98265104623012f2e531be64116e [a,b,d,e,f] h [K4 (W8 K),cl5 (Ag3 K k5)]).F
def Nm(K:Nat):Nat->A5
 | 0=>fun _ _ _ _ _ _=>none
 | m+1=>fun a b d e f h=>
  cE K7 .lss 3 f e
  (Af6 K (Nm K m) a b d e f h)
  (Ahq K b h)
def Aee:R:=
 Hz d fun e=>
 Nm K K a b d e (.int .i64 0) h
def Hm:Ru K R:=
 Yj a b fun d=>
 some (d,h)
def J1:R:=(.mk:Sg 0x1202210242102101344c2a430be [a,b,d] h [Fi (fun f=>My K f (.int .i64 0) (.int .i64 281474976710655)),E0 (Hm K)]).F
def Ny:R:=(.mk:Sg 0x120233102453102101334d2a430be [a,b,d] h [Fi (fun f=>My K f (.int .i64 1) (.int .i64 4294967295)),K4 (J1 K)]).F
def Sv:R:=(.mk:Sg 0x120233102453102101324d2a430be [a,b,d] h [Fi (fun f=>My K f (.int .i64 0) (.int .i64 65535)),K4 (Ny K)]).F
def J7:R:=(.mk:Sg 0x120243202463202111414d2a801023012042e9e9 [a] h [K4 (My K),Fi (fun f=>My K f (.int .i64 0) (.int .i64 65535)),K4 (Sv K)]).F
def Af7:Ru K R:=
 I9 TT [.v a,.v b,.v d] h
def Ahy:R:=(.mk:Sg 0x123633050000000304ea512e20ce5722120ce34221232112101 [a] h [Fi (fun a=>Kg K a (.int .i64 (-1))),E0 (Kg K),E0 (O4 K),K4 (Af7 K)]).F
def Xb:R:=(.mk:Sg 0x1311005e00000000304eb0023701e2101 [a] h [Fi (Iu K),Fi (Ahy K)]).F
def Acz:Ru r R:=(.mk:Sg 0x122522112101203 [a,b] h [Fi (Bx K),c 196]).F
def Ais:R:=(.mk:Sg 0x17623000230023701e6222121112101203 [a,b] h [Fi (Bx K),Fi (E3 K),E0 (Ki K),E0 (Acz c r K)]).F
def Yd:Ru K (Ru r R):=(.mk:Sg 0x12242201203 [a,b] h [c 219]).F
def Ie:R:=(.mk:Sg 0x14321022522013f9e3a0053701e0023286509e [a,b,d,e,f] h [c 67,E0 (Yd c r K)]).F
def Lc:R:=(.mk:Sg 0x1202543500258765002724e22431c03e2d6509e [a,b,d,e,f] h [cl5 (Ie c r K)]).F
def Ac5:R:=(.mk:Sg 0x12025435102365451043201d2d01324e [a,b,d] h [E0 (C9 K),cl5 (Lc c r K)] [] [] [(.int .i64 (-1))]).F
def Adt:Ru K R:=
 some (a,h)
def Adm:Ru K R:=
 J6 e fun f=>
 k4 a b d f h
def Adi:R:=(.mk:Sg 0x1ba92400273303e243503e21107e7d01fe21007e53116e [a,b,d,e] h [Wd (Adm K k4)] [cu1 (fun f=>Sj .i64 f),cu1 (fun i=>Sj .u64 i)]).F
def Kr(K:Nat):Nat->A4
 | 0=>fun _ _ _ _ _=>none
 | m+1=>fun a b d e h=>
  cE K7 .lss 3 e d
  (Adi K (Kr K m) a b d e h)
  (Adt K a h)
def Ac8:R:=(.mk:Sg 0x1002300410213e32201 [a,b] h [E0 (J9 K),Wd (Kr K K)]).F
def Jj:R:=(.mk:Sg 0x154220002411172820fe3101 [a,b] h [Fi (Xz K),Fi (fun a=>J9 K a (.int .i64 (-1))),E0 (Ac8 K)]).F
def Lu:R:=
 Ap (J9 K a b h) fun d h=>
 some (d,h)
def J0:Ru K R:=
 Yj a b fun d=>
 some (d,h)
def Ms:R:=(.mk:Sg 0x1202210242102101318e5c2a430be [a,b,d] h [Fi (Pj K),E0 (J0 K)]).F
def Sr:R:=(.mk:Sg 0x120233102453102101354d2a430be [a,b,d] h [Fi (fun f=>Pf K f (.int .i64 0) (.int .i64 65535)),K4 (Ms K)]).F
def Q8:R:=(.mk:Sg 0x120243202463202111434d2a21012142bde9 [a] h [Fi (fun d=>Pf K d (.int .i64 0) (.int .i64 281474976710655)),Fi (fun f=>Pf K f (.int .i64 0) (.int .i64 255)),K4 (Sr K)]).F
def Zb:Ru K R:=
 J6 e fun f=>
 k4 a b d f h
def Zw:R:=(.mk:Sg 0x1ba284200183603e321660c24211210141007e203 [a,b,d,e] h [Fi (fun g=>Cd [.int .u8 0] 5 1 1 [(0,g)]),E0 (Em 5 1),Wd (Zb K k4)] [cu1 (fun b=>Sj .u8 b)] [] [(.int .u64 8)]).F
def Jh(K:Nat):Nat->A4
 | 0=>fun _ _ _ _ _=>none
 | m+1=>fun a b d e h=>
  cE K7 .lss 3 e d
  (Zw K (Jh K m) a b d e h)
  (some (.tuple [],h))
def Zk:R:=
 Jh K K a d b (.int .i64 0) h
def O5:R:=(.mk:Sg 0x1543300000e5021631ca286509e [a,b,d,e,f] h [K4 (Zk K)]).F
def Eg:R:=(.mk:Sg 0x1202654520248765206222e611101e2d20fe3101 [a,b,d] h [Fi (Xz K),Fi (Vo K),cl5 (O5 K)]).F
def Apq:R:=(.mk:Sg 0x1e7e08e1104e208e1ee602e13121001e32102e54210d32100e44230b321c342109321a242107321814210532160423211824215e3f90007e209e1606e21013340e7e05e295e9 [a] h [Fi (Nz K),E0 (fun j n=>Eg K j (.int .i64 6) n),K4 (Eg K),Fi (Ajr K)] [cu0 (Bu (D5 [(0,1),(1,1)]) [.Ao,.bool false] [])] [List.replicate 44 (.int .u8 0),[.int .i64 0,.int .i64 0,.int .i64 0,.int .i64 0,.int .i64 0,.int .i64 0]]).F
end
variable{K d:Nat}(H:Ca disp)
include H
theorem Ane(hd:1<=d):S1 disp K d 28 Aju:=fun _=>ld rfl rfl H (V1 (Cw H) hd<|V1 (E4 H) hd<|V2 (Mr H) hd<|rfl) 51 (fun c r=>e4 (Im c r K) 0 3 11 12)
theorem Arm(hd:4<=d):R4 disp K d 66 (Sq K):=fun _ _ _ _=>rl H hd fun d hd=>V1 (A4r H) hd<|V3 (Ap9 H) hd<|rfl
theorem Ark(hd:2<=d):S2 disp K d 67 Aom:=fun _ _=>rd rfl rfl H (V2 (F7 H) hd<|V2 (T3 H) hd<|rfl)
theorem Aic(hd:1<=d):S1 disp K d 73 Abp:=fun _=>ld rfl rfl H (V1 (Ey H) hd<|V1 (Cw H) hd<|V1 (E4 H) hd<|rfl) 207 (fun c r=>e3 (F3 c r K) 0 62 63)
theorem Asi(hd:3<=d):S2 disp K d 75 Aos:=fun _ _=>ld rfl rfl H (V1 (Cw H) hd<|V1 (E4 H) hd<|V1 (Gn H) hd<|V1 (Acs H) hd<|rfl) 51 (fun c r=>e4 (Nh c r K) 0 1 25 26)
theorem Aj7(hd:2<=d):R1 disp K d 81 (Xm K):=fun _=>rl H hd fun d hd=>V1 (S8 H) hd<|rfl
theorem Ar4(hd:1<=d):S3 disp K d 82 Ape:=fun _ _ _=>ld rfl rfl H (V3 (Abw H) hd<|rfl) 11 (fun c r=>e5 (Nu c r K) 0 1 2 12 13)
theorem Ap8(hd:3<=d):S2 disp K d 84 Al6:=fun _ _=>rd rfl rfl H (V2 (Acd H) hd<|rfl)
theorem Ak5(hd:3<=d){l:Nat}(tm:Ax)(h:Ab)(k:EV){st:LoopState}{p:Option Code}(m:h.get l=some (.loop st p 84 40 tm [14] (Dt TT 84 0).2.2.1 (Dt TT 84 0).2.2.2 d0)):
 Ag TT disp K (d+1) true l [k] h=Ae8 (Ag TT disp K d false) (Ag TT disp K d true) K l (tmp tm 2) (tmp tm 4) k h:=rr rfl rfl (V2 (Jm H) hd<|V2 (Ek H) hd<|rfl) m rfl (by kernel_rfl)
theorem Am3(hd:1<=d):S2 disp K d 102 Ait:=fun _ _=>rd rfl rfl H (V1 (Y4 H) hd<|rfl)
theorem Ash(hd:3<=d):R2 disp K d 125 (Wm K):=fun _ _=>ll H hd (fun d hd=>V2 (Ahw H) hd<|rfl) 25 (e5 (Nv K) 0 1 7 8 9)
theorem Amf(hd:1<=d):S1 disp K d 126 Ahu:=fun _=>rd rfl rfl H (V1 (Cw H) hd<|V1 (Yn H) hd<|rfl)
theorem Apx(hd:1<=d):S2 disp K d 146 Aly:=fun _ _=>ld rfl rfl H (V1 (Ap2 H) hd<|rfl) 11 (fun c r m k tm h ds=>L2 c r K m tm (k 10) (k 11) (k 12) h ds)
theorem Alj(hd:1<=d){l:Nat}(tm:Ax)(h:Ab)(m:EV)(k:EV){st:LoopState}{p:Option Code}(v:h.get l=some (.loop st p 146 27 tm [19,20] (Dt TT 146 0).2.2.1 (Dt TT 146 0).2.2.2 d0)):
 Ag TT disp K (d+1) true l [m,k] h=Afn (Ag TT disp K d false) (Ag TT disp K d true) K l (tmp tm 2) (tmp tm 3) k h:=rr rfl rfl (rfl) v rfl (by kernel_rfl)
theorem Aez(hd:2<=d):R2 disp K d 153 (O4 K):=fun _ _=>rl H hd fun d hd=>V1 (Sl H) hd<|rfl
theorem Aqc(hd:2<=d):S1 disp K d 159 Alo:=fun _=>rd rfl rfl H (V2 (Aw2 H) hd<|V1 (Aj7 H) hd<|rfl)
theorem Alg(hd:2<=d){l:Nat}(tm:Ax)(h:Ab)(m:EV)(k:EV){st:LoopState}{p:Option Code}(v:h.get l=some (.loop st p 159 36 tm [29,30] (Dt TT 159 0).2.2.1 (Dt TT 159 0).2.2.2 d0)):
 Ag TT disp K (d+1) true l [m,k] h=Aes (Ag TT disp K d false) (Ag TT disp K d true) K l (tmp tm 1) (tmp tm 2) k h:=rr rfl rfl (rfl) v rfl (by kernel_rfl)
theorem Yx(hd:2<=d):R2 disp K d 167 (Ki K):=fun _ _=>rl H hd fun d hd=>V2 (Ol H) hd<|V1 (Ia H) hd<|rfl
theorem Aq7(hd:1<=d):S1 disp K d 172 Ax0:=fun _=>ld rfl rfl H (V1 (Rx H) hd<|V1 (Amj H) hd<|V1 (Aol H) hd<|rfl) 2 (fun c r=>e1 (Ke c r K) 0)
theorem L6(hd:2<=d):R2 disp K d 173 (H4 K):=fun _ _=>rl H hd fun d hd=>V2 (Ol H) hd<|rfl
theorem V9(hd:2<=d):R2 disp K d 176 (D8 K):=fun _ _=>rl H hd fun d hd=>V1 (Hw H) hd<|rfl
theorem Amy(hd:2<=d):R1 disp K d 194 (Rf K):=fun _=>ll H hd (fun d hd=>V1 (Xu H) hd<|rfl) 103 (e3 (J5 K) 19 20 21)
theorem Ab0(hd:3<=d):S2 disp K d 197 Ul:=fun _ _=>rd rfl rfl H (V2 (F7 H) hd<|V2 (Ek H) hd<|rfl)
omit H in
theorem Amh(c v r:Ai)(K:Nat)(m:Nat):lpB false (Ve K c) v r K 200 103 [(2,fun k tm h ds=>T4 K (k 3) h)] m=(fun m k tm h ds=>Ip K m (k 0) (k 3) (k 24) (k 25) (k 26) h) m:=
 Ow (E:=fun m k tm h ds=>Ip K m (k 0) (k 3) (k 24) (k 25) (k 26) h) rfl (fun m=>Aw8 fun k tm h ds=>by kernel_rfl) m
omit H in
theorem Amr(c v r:Ai)(K:Nat)(m:Nat):lpB false (Ve K c) v r K 200 51 [(0,fun k tm h ds=>Tx K (k 0) (k 3) h)] m=(fun m k tm h ds=>Il K m (k 0) (k 3) (k 9) (k 10) h) m:=
 Ow (E:=fun m k tm h ds=>Il K m (k 0) (k 3) (k 9) (k 10) h) rfl (fun m=>Aw8 fun k tm h ds=>by kernel_rfl) m
theorem Ao7(hd:2<=d):R1 disp K d 200 (S7 K):=by
 obtain⟨d,rfl⟩:∃e,d=e+1:=⟨d-1,by omega⟩;have hd:=Nat.le_of_succ_le_succ hd;exact fun _=>rm (q:=false) (D:=Ve K (Ag TT disp K d false)) (by kernel_rfl) rfl rfl H (V1 (Ky H) hd<|V2 (T3 H) hd<|V1 (Sl H) hd<|rfl) (cut [true,true,true,false,true,false] (Amh (Ag TT disp K d false) (Ag TT disp K d false) (Ag TT disp K d true) K K) (by kernel_rfl) (by kernel_rfl) (cut [true,true,false,true,false] (Amr (Ag TT disp K d false) (Ag TT disp K d false) (Ag TT disp K d true) K K) (by kernel_rfl) (by kernel_rfl) rfl))
theorem Ack(hd:4<=d):R3 disp K d 221 (Mp K):=fun _ _ _=>rl H hd fun d hd=>V1 (Ud H) hd<|V1 (E4 H) hd<|V3 (Abw H) hd<|rfl
theorem Amu(hd:4<=d):R2 disp K d 235 (Ra K):=fun _ _=>rl H hd fun d hd=>V2 (Ek H) hd<|V1 (Gn H) hd<|V2 (Aez H) hd<|rfl
theorem Ap6(hd:2<=d):S3 disp K d 236 Ame:=fun _ _ _=>ld rfl rfl H (V1 (Aix H) hd<|V1 (Ey H) hd<|V1 (Qr H) hd<|V2 (Yx H) hd<|rfl) 207 (fun c r=>e5 (L0 c r K) 0 2 34 35 36)
theorem Amm(hd:3<=d):R2 disp K d 237 (Rv K):=fun _ _=>rl H hd fun d hd=>V2 (L6 H) hd<|V1 (X7 H) hd<|rfl
theorem Aj8(hd:3<=d):R2 disp K d 249 (Pr K):=fun _ _=>rl H hd fun d hd=>V2 (L6 H) hd<|V1 (Wb H) hd<|rfl
theorem Ao6(hd:1<=d):S2 disp K d 251 Ajf:=fun _ _=>rd rfl rfl H (V2 (Aa6 H) hd<|rfl)
theorem Aoz(hd:2<=d):R3 disp K d 252 (O2 K):=fun _ _ _=>rl H hd fun d hd=>V2 (Ol H) hd<|V2 (Ym H) hd<|rfl
theorem Anc(hd:3<=d):R3 disp K d 254 (Ta K):=fun _ _ _=>rl H hd fun d hd=>V2 (L6 H) hd<|V2 (Yk H) hd<|rfl
theorem Asn(hd:2<=d):R3 disp K d 256 (Aee K):=fun _ _ _=>ll H hd (fun d hd=>V3 (Aro H) hd<|rfl) 25 (e5 (Nm K) 0 1 9 10 11)
theorem Qs(hd:2<=d):R1 disp K d 258 (J7 K):=fun _=>rl H hd fun d hd=>V3 (Au3 H) hd<|rfl
theorem Arz(hd:4<=d):R1 disp K d 259 (Xb K):=fun _=>rl H hd fun d hd=>V1 (Acs H) hd<|V2 (Y5 H) hd<|V2 (Aez H) hd<|rfl
theorem Anq(hd:2<=d):S2 disp K d 262 Ais:=fun _ _=>rd rfl rfl H (V1 (Ey H) hd<|V1 (Qr H) hd<|V2 (Yx H) hd<|rfl)
theorem Ajj(hd:3<=d):S3 disp K d 266 Ac5:=fun _ _ _=>rd rfl rfl H (V2 (Ek H) hd<|rfl)
theorem Aas(hd:2<=d):R2 disp K d 281 (Jj K):=fun _ _=>ll H hd (fun d hd=>V1 (Aiw H) hd<|V2 (Y6 H) hd<|rfl) 103 (e4 (Kr K) 5 15 16 17)
theorem Ww(hd:2<=d):R2 disp K d 282 (Lu K):=fun _ _=>rl H hd fun d hd=>V2 (Y6 H) hd<|rfl
theorem Ams(hd:3<=d):R1 disp K d 290 (Q8 K):=fun _=>rl H hd fun d hd=>V3 (Ajl H) hd<|V1 (Aks H) hd<|rfl
theorem Mw(hd:2<=d):R3 disp K d 291 (Eg K):=fun _ _ _=>ll H hd (fun d hd=>V1 (Aiw H) hd<|V1 (Axf H) hd<|rfl) 11 (e4 (Jh K) 0 2 18 19)
theorem A0s(hd:3<=d):R1 disp K d 312 (Apq K):=fun _=>rl H hd fun d hd=>V1 (Yb H) hd<|V3 (Mw H) hd<|V1 (Aqj H) hd<|rfl
end
end Go.Ev
