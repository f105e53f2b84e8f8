import Derived.Test.YtokpnommcenoaaaGreatDa
set_option linter.all false
namespace Go.Ev
open Go.Proofs
set_option maxRecDepth 100000
set_option maxHeartbeats 4000000
variable {d0:Nat}{disp:Nat->Option FT}
section
noncomputable section
section
variable (c r:Ai)(K l:Nat)(k0:A0)(k1:A1)(k2:A2)(k3:A3)(k4:A4)(k5:A5)(k6:A6)(k7:A7)(k8:A8)(k9:A9)(k10:A10)(k11:A11)(k12:A12)(m0:B0)(m1:B1)(m2:B2)(m3:B3)(m4:B4)(m5:B5)(m6:B6)(m7:B7)(m8:B8)(m9:B9)(m10:B10)(m11:B11)(m12:B12)(base:Nat)(s:DX)(tm:Bb)(a b d e f g i j n o p q t u w x y z aa ab ad ae af ag ai aj an ao ap aq au aw ax ay az ba bb bd be bf bg bi bj bn bo bp bq bt bu bw bx bz da db dd de df dg di dj dn dp dq dt du dw dx dy dz ea eb ed ee ef eg ei ej en eo ep eq et eu ew ex ey ez fa fb fd fe ff fg fi fj fn fo fp fq ft fu fw fx fy fz ga gb gd ge gf gg gi gj gn go gp gq gt gu gw gx gy gz ia ib ie ig ii ij io ip iq it iu iw ix iy iz ja jb:EV)(h:Ab)(ds:List Nat)
def Fx:Ru K R:=(.mk:Sg 0x105e000200e002200e321ae80023701e201ae200201203 [a] h [Ec A1s]).F
def Ao1:Ru K R:=
 pkA a b fun d=>
 some (d,h)
def Sy:R:=(.mk:Sg 0x1202200232004321e82a10223e [a,b] h [Ec (Ao1 K)]).F
def Wm:Ru K R:=
 pkA a b fun d=>
 some (d,h)
def Gs:R:=(.mk:Sg 0x1202200252002620e213e303d2a00323e [a,b] h [Ec (Wm K)]).F
def Tx:Ru K R:=(.mk:Sg 0x122243 [a] h).F
def Ft:Ru K R:=(.mk:Sg 0x12232211001 [a] h [cl0 (Cd (List.replicate 4 (.int .i64 0)++List.replicate 64 (.int .u8 0)) 32 68 0 []),Ec (Eg 32 68)]).F
def Ds:R:=(.mk:Sg 0x12100b023b023de701e [a] h [Dr (Ft K)]).F
def Oa:Ru K R:=(.mk:Sg 0x1002 [] h).F
def D1:R:=(.mk:Sg 0x10000ae0236023701e0ce023c023701e233 [a] h [cl0 (Oa K)]).F
def Zy:Ru K (Ru r (Ru c R)):=(.mk:Sg 0x1002 [] h).F
def Afp:R:=(.mk:Sg 0x10100ee0230ee0215e701e32201 [a,b] h [c 197,cl0 (Zy c r K)]).F
def Zv:Ru K (Ru r R):=(.mk:Sg 0x129200e547823601518e5 [a,b,d,e,f,g] h [c 260]).F
def Afy:R:=(.mk:Sg 0x1456a9761025200e4212e983426601418e54fce33fbe33bde9 [a,b,d,e] h [c 260,cl6 (Zv c r K)]).F
def Gv:Ru K R:=(.mk:Sg 0x1000e321642c213e203 [a] h).F
def Acx:Ru K R:=
 Ir d fun e=>
 k3 a b e h
def Ab0:R:=
 fE 3 a h fun e=>
 Bm (Df [(0,1),(1,1)]) [(.int .i64 0),(.int .i64 0)] [(0,b),(1,d)] fun f=>
 Am (builtin TT .delete #[147,179] [e,f] h) fun _ h=>
 Acx K k3 a b d h
def Jy(K:Nat):Nat->A3
 | 0=>fun _ _ _ _=>none
 | m+1=>fun a b d h=>
  fE 0 a h fun e=>
  Am (Pb K e h) fun f h=>
  cE Ja .lss 3 d f
  (Ab0 K (Jy K m) a b d h)
  (some (.tuple [],h))
def Ye:R:=
 Jy K K a b d h
def Aix:Ru K (Ru r (Ru c R)):=(.mk:Sg 0x1002 [] h).F
def Sn:R:=(.mk:Sg 0x100005e023283209e [a,b] h [cl0 (Aix c r K)]).F
def Ao0:R:=(.mk:Sg 0x12022202622000224e9221142116e86307e2d00220e232011e5740de404b265273b30c0ee339 [a,b] h [Ec (Es K),Ec (fun o d=>c 264 [o,.func 265 [] [d]]),Ec (Sn c r K)]).F
def Qc:Ru K (Ru r (Ru c R)):=
 some (a,h)
def Aey:R:=(.mk:Sg 0x131102110400315e701e679301578301002167fdec012166fcec012165fbec4fde33fce32fbe3 [a] h [c 266,Dr (Qc c r K)] [] [] [(.int .i64 (-1))]).F
def Oo:Ru K R:=(.mk:Sg 0x10024021654c0021643c0021632cb021620c [a] h).F
def Gr:R:=(.mk:Sg 0x13110222212e2101 [a] h [Dr (D1 K),Dr (Oo K)]).F
def U5:Ru K (Ru r (Ru c R)):=
 some (a,h)
def O3:Ru K (Ru r (Ru c R)):=
 Ir f fun g=>
 k5 a b d e g h
def Adh:R:=
 Am (Gq K a e h) fun i h=>
 O3 c r K k5 a b d f g h
def Adr:R:=
 Am (Sh c r b [e] h) fun i h=>
 Alz i fun j=>
 ifE j
 (Ir d fun n=>
 O3 c r K k5 a b n f g h)
 (Adh c r K k5 a b d e f g h)
def Aeq:R:=
 Am (Fx K a h) fun g h=>
 x2E g fun i j=>
 A9p j
 (U5 c r K d h)
 (Adr c r K k5 a b d i e f h)
def Kr(c:Ai)(r:Ai)(K:Nat):Nat->A5
 | 0=>fun _ _ _ _ _ _=>none
 | m+1=>fun a b d e f h=>
  cE Ja .lss 3 f e
  (Aeq c r K (Kr c r K m) a b d e f h)
  (U5 c r K d h)
def Akm:R:=(.mk:Sg 0x100200435102101 [a,b] h [Dr (E5 K),cl5 (Kr c r K K)]).F
def Alq:Ru K R:=(.mk:Sg 0x1222325e30de [a,b] h).F
def Nm:Ru K R:=(.mk:Sg 0x10025021634c3021623c [a] h).F
def Gf:R:=(.mk:Sg 0x13110222212e2101 [a] h [Dr (D1 K),Dr (Nm K)]).F
def Aas:Ru K R:=(.mk:Sg 0x122216d3f921007e32211001 [a] h [cl0 (Cd [.int .u8 0] 5 1 0 []),Ec (Eg 5 1)] [cu1 (fun d=>Bm (Df [(0,1),(1,1)]) [.Al,.bool false] [(0,d)])]).F
def Acq:Ru K (Ru r R):=(.mk:Sg 0x12276230142116e203 [a,b,d,e] h [Jz (fun g d e=>c 306 [g,d,.func 307 [] [e]])]).F
def Ahl:R:=(.mk:Sg 0x1476541003e0232820fe43201510e9 [a,b,d,e] h [Ec (Gs K),Ub (Acq c r K)]).F
def Aeb:Ru K R:=(.mk:Sg 0x110e41104e2432e6232e5 [a,b] h).F
def Ad2:Ru K R:=
 Ir e fun f=>
 k4 a b d f h
def Aed:R:=(.mk:Sg 0x1ba9840032162f1e817ea7132e19e245403e20de20ae5b75132e19e20de232b52132e19e0ee [a,b,d,e] h [Ub (Ad2 K k4)]).F
def Km(K:Nat):Nat->A4
 | 0=>fun _ _ _ _ _=>none
 | m+1=>fun a b d e h=>
  cE Ja .lss 3 e (.int .i64 64)
  (Aed K (Km K m) a b d e h)
  (Aeb K a d h)
def Pt:R:=(.mk:Sg 0x100234400010e05e410e9210e9 [a,b] h [Ub (Km K K)] [] [List.replicate 64 (.int .u8 0)]).F
def Eu:Ru K R:=(.mk:Sg 0x1000e000e521633c9285409e [a,b,d,e] h).F
def Ep:R:=(.mk:Sg 0x1204324002543400650bea4d [a,b,d,e,f] h [Ub (Eu K)]).F
def F0:R:=(.mk:Sg 0x120543250027654500c0225e23301e5a [a,b,d,e] h [cl5 (Ep K)]).F
def Hd:R:=(.mk:Sg 0x120243400235440060424eb2dc0324e [a,b] h [Ub (F0 K)]).F
def Ph:Ru K R:=(.mk:Sg 0x100010e71204e2732e6232e54232e15e203 [a,b,d] h).F
def I7:R:=(.mk:Sg 0x15433000be0010e61204e2632e6632e501e287609e [a,b,d,e,f,g] h [Jz (Ph K)]).F
def Hc:R:=(.mk:Sg 0x120245766002578a96002923e213e60303e2d00620e0ce0010e51204e2532e6332e501ec023701e433010e05e010e05e [a,b] h [cl6 (I7 K)] [] [List.replicate 64 (.int .u8 0)]).F
def Aqs:Ru K R:=(.mk:Sg 0x1002 [] h).F
def Aqx:R:=(.mk:Sg 0x100004e023283209e [a,b] h [cl0 (Aqs K)]).F
def Sl:R:=(.mk:Sg 0x12022002520000222e213e30300e2d213 [a] h [Ec (Aqx K)]).F
def Yj:Ru K R:=(.mk:Sg 0x1222667e403e20de251f2e19e725403e51007e01467e603e269e9 [a,b,d] h [] [cu1 (fun b=>Tq .u8 b)] [] [(.int .u64 8)]).F
def Qy:Ru K R:=(.mk:Sg 0x1000e321640c42201203 [a,b] h [Ec (Eg 5 1)]).F
def Akp:Ru K R:=(.mk:Sg 0x1002200e23211303001 [a] h [cl0 (Cd [.int .u8 0] 5 1 0 []),Ec (Eg 5 1)]).F
def Oe:R:=(.mk:Sg 0x1310003e0b0200e628213 [a] h [Dr (Akp K)]).F
def Ade:Ru K R:=
 pkA a b fun d=>
 some (d,h)
def N6:R:=(.mk:Sg 0x1202200232005321e82a3223e [a,b,d] h [Ec (Ade K)]).F
def Ac1:Ru K R:=
 pkA a b fun d=>
 some (d,h)
def Zc:R:=(.mk:Sg 0x12022002320090321e92a10223e [a] h [Ec (Ac1 K)]).F
def Abz:Ru K R:=(.mk:Sg 0x152321660c622107e403422007e203 [a,b] h [] [cu2 (fun d b=>Ae2 1 d none (some b) (some b)),cu2 (fun f b=>Ae2 1 f (some b) none none)]).F
def Acg:R:=(.mk:Sg 0x143200b025021641cb021630c05e285409e [a,b,d,e] h [Ec (Abz K)]).F
def Aco:R:=(.mk:Sg 0x12024340025764002622e213e30301e2d5409e [a,b,d,e] h [Ub (Acg K)]).F
def Kg:R:=(.mk:Sg 0x120243400235440000420eb2d213 [a,b] h [Ub (Aco K)]).F
def N0:Ru K R:=(.mk:Sg 0x10023232e627fff4f01e17e8632e15e28201fe04fd7232e52fc03fcb5232e15e31c03f9011e273011e0ee [a,b,d] h [Ec (fun d i=>Sh c r d [i])]).F
def Fh:R:=(.mk:Sg 0x15433000be023286509e [a,b,d,e,f] h [Jz (N0 c r K)]).F
def Jv:R:=(.mk:Sg 0x1202543500258765002623e213e30302e2d00320e [a,b,d] h [cl5 (Fh c r K)]).F
def Aea:R:=(.mk:Sg 0x110e51104e2532e623201632e5332e5010e05e210e9 [a,b] h [Ec (Pt K)] [] [List.replicate 64 (.int .u8 0)]).F
def Adc:Ru K R:=
 pkA a b fun d=>
 some (d,h)
def Qf:R:=(.mk:Sg 0x1202200232005321e82a3223e [a,b,d] h [Ec (Adc K)]).F
def Aad:Ru K R:=(.mk:Sg 0x1402 [] h).F
def Rl:Ru K R:=
 pkA a b fun d=>
 some (d,h)
def Mh:Ru K R:=
 pkA a b fun d=>
 some (d,h)
def Rf:R:=(.mk:Sg 0x1202200262002347e702e0007e212e53614e05e2a430be [a,b,d] h [Ec (Mh K)] [cu0 (Bm (Ll 1) (List.replicate 32 (.int .u8 0)) [])]).F
def Rm:Ru K R:=
 pkA a b fun d=>
 some (d,h)
def Qm:R:=(.mk:Sg 0x10402022302423000224e544c2a10224e3240ee6023701e202532026932021043012011ee63454409e2a10224e3241ae3023701e2022102421000224e544c2ac010230132412e1023701e2042bde9 [a] h [Jz (Qf K),Ec (Rl K),Jz (Rf K),Ec (Rm K),cl0 (Aad K)] [] [] [(.int .i64 256)]).F
def Aph:Ru K R:=
 some (a,h)
def Y7:R:=(.mk:Sg 0x13100d023284309e [a,b,d] h [Dr (Aph K)]).F
def Zd:R:=(.mk:Sg 0x1202430023530090422ea2d00220e [a,b] h [Jz (Y7 K)]).F
def Aq8:Ru K R:=(.mk:Sg 0x12320040ae0123603e [a,b] h [Ec k2] [] [] [(.int .u64 8)]).F
def Ls(K:Nat):Nat->A2
 | 0=>fun _ _ _=>none
 | m+1=>fun a b h=>
  Ae8 (bin TT .shr 3) a (.int .u64 8) fun d=>
  cE A95 .gtr 3 d (.int .i64 0)
  (Aq8 K (Ls K m) a b h)
  (Zd K a b h)
def W9:R:=
 Ls K K a (.int .i64 1) h
def Alu:R:=(.mk:Sg 0x1e7e91104e291ee671ee54221151007e20ce41010e7e05e0e7e05e [a] h [Dr (Oe K),builtin TT .copy #[184,184]] [cu1 (fun d=>N1 44 1 d none none none)] [List.replicate 44 (.int .u8 0)]).F
def Aaq(c:Ai)(r:Ai)(K:Nat)(tm:Bb)(a:EV)(h:Ab)(ds:List Nat):R:=
 stE 1 a (.bool false) h fun h=>
 Fi ds h fun h=>Ij TT [.c a 4] h
def Asq:R:=
 (fun(tm:Bb) (ds:List Nat)=>
 Q2 3 b h fun d h=>
 Ax7 (.cells [(.bool false)] 4) h fun e h=>
 Am (Aju K a h) fun f h=>
 Us c TT 18 14 0 f ((((tm.put 3 (some d)).put 4 (some e)).put 7 (some a)).put 8 (some f)) h ds (fun h ds=>
 Aaq c r K ((((tm.put 3 (some d)).put 4 (some e)).put 7 (some a)).put 8 (some f)) e h ds) (fun id h ds=>
 Ax (Nat.beq 0 id) (Aaq c r K ((((tm.put 3 (some d)).put 4 (some e)).put 7 (some a)).put 8 (some f)) e h ds) (none)) (fun h ds=>
 Fi ds h fun h=>Ij TT [.c e 4] h)) ((Tr.nil.put 0 (some a)).put 1 (some b)) []
def Abm:Ru K (Ru r (Ru c R)):=(.mk:Sg 0x1010000504168253701e20de [a,b,d] h [cl0 (Wb l false .done (some .ret)),cl0 (Wb l true .ready none)]).F
def Akh:R:=
 Er l h fun h=>Abm c r K l a b d h
def Yy(c:Ai)(r:Ai)(K:Nat)(tm:Bb)(a:EV)(h:Ab)(ds:List Nat):R:=
 stE 1 a (.bool false) h fun h=>
 Fi ds h fun h=>Ij TT [.c a 4] h
def Apu:R:=
 (fun(tm:Bb) (ds:List Nat)=>
 Q2 3 b h fun d h=>
 Ax7 (.cells [(.bool false)] 4) h fun e h=>
 Am (Afx K a h) fun f h=>
 Us c TT 20 12 0 f ((((tm.put 3 (some d)).put 4 (some e)).put 6 (some a)).put 7 (some f)) h ds (fun h ds=>
 Yy c r K ((((tm.put 3 (some d)).put 4 (some e)).put 6 (some a)).put 7 (some f)) e h ds) (fun id h ds=>
 Ax (Nat.beq 0 id) (Yy c r K ((((tm.put 3 (some d)).put 4 (some e)).put 6 (some a)).put 7 (some f)) e h ds) (none)) (fun h ds=>
 Fi ds h fun h=>Ij TT [.c e 4] h)) ((Tr.nil.put 0 (some a)).put 1 (some b)) []
def Zq:Ru K (Ru r (Ru c R)):=(.mk:Sg 0x1010000504168253701e20de [a,b,d] h [cl0 (Wb l false .done (some .ret)),cl0 (Wb l true .ready none)]).F
def Ah2:R:=
 Er l h fun h=>Zq c r K l a b d h
def E9:Ru K (Ru r (Ru c R)):=
 pkA a b fun d=>
 some (d,h)
def F6:R:=(.mk:Sg 0x12022202622020fe62211210130305e2a540be [a,b,d,e] h [Dr (Cn K),c 18,Ec (E9 c r K)]).F
def Ib:R:=(.mk:Sg 0x120243410257641020fe5220131303e2a540be [a,b,d,e] h [c 20,Ub (F6 c r K)]).F
def O4:R:=(.mk:Sg 0x120243410257641020fe5220130303e2a540be [a,b,d,e] h [Ec (Dw K),Ub (Ib c r K)]).F
def U9:R:=(.mk:Sg 0x12024340023544005425ea2a650be [a,b,d,e,f] h [Ub (O4 c r K)]).F
def Ak6:R:=(.mk:Sg 0x12027cb530238dc5308c25eb2a00223ea22212111703421ae20ce2101203 [a,b] h [Dr (Mb K),Dr (Cf K),Ec (Es K),cl5 (U9 c r K)]).F
def Va(c:Ai)(r:Ai)(K:Nat)(tm:Bb)(a:EV)(h:Ab)(ds:List Nat):R:=
 Fw a h fun b=>
 uwE b h ds
def Akc:R:=
 (fun(tm:Bb) (ds:List Nat)=>
 Q2 26 a h fun d h=>
 nsE 1 [(.int .i64 0)] 3 (.int .i64 (-1)) h fun e h=>
 Fw d h fun f=>
 Ar8 f fun g=>
 Ahh 0 g fun i=>
 Fw i h fun j=>
 Am (Cf K j h) fun n h=>
 Am (Ama K n b h) fun o h=>
 Us c TT 27 39 0 o ((((((((((tm.put 2 (some d)).put 4 (some (.int .i64 0))).put 5 (some e)).put 7 (some f)).put 8 (some g)).put 9 (some i)).put 10 (some j)).put 11 (some n)).put 12 (some b)).put 13 (some o)) h ds (fun h ds=>
 Va c r K ((((((((((tm.put 2 (some d)).put 4 (some (.int .i64 0))).put 5 (some e)).put 7 (some f)).put 8 (some g)).put 9 (some i)).put 10 (some j)).put 11 (some n)).put 12 (some b)).put 13 (some o)) e h ds) (fun id h ds=>
 Ax (Nat.beq 0 id) (Va c r K ((((((((((tm.put 2 (some d)).put 4 (some (.int .i64 0))).put 5 (some e)).put 7 (some f)).put 8 (some g)).put 9 (some i)).put 10 (some j)).put 11 (some n)).put 12 (some b)).put 13 (some o)) e h ds) (none)) (fun h ds=>
 Fi ds h fun h=>some ((.int .i64 0),h))) ((Tr.nil.put 0 (some a)).put 1 (some b)) []
def Ej(c:Ai)(r:Ai)(K:Nat)(l:Nat)(base:Nat)(s:DX)(a:EV)(b:EV)(d:EV)(e:EV)(h:Ab):R:=
 pkA d e fun f=>
 ifE f
 (stE 1 a b h fun h=>
 Wb l true .ready none h)
 (Wb l true .ready none h)
def Ip:R:=
 wtE d
 (pkO e f fun g=>
 Ej c r K l base s a b d g h)
 (Ej c r K l base s a b d tU h)
def Iu:R:=
 wfE f
 (Ln 7 127 base a s fun s=>Fw a h fun g=>
 Aod 2 10 1023 base g s h fun s i=>
 J0 12 4095 s h (fun h=>(Lm K i d h)) fun j h s=>
 Ln 13 127 base a s fun s=>Fw a h fun n=>
 Aod 2 16 57471 base n s h fun s o=>
 Ln 17 127 base b s fun s=>Fw b h fun p=>
 J0 18 262143 s h (fun h=>(Lm K o p h)) fun q h s=>
 Axd j q fun t=>
 Ip c r K l base s b d e f t h)
 (Ip c r K l base s b d e f tU h)
def Wu:R:=
 W6 h fun base s=>
 Ln 0 0 base a s fun s=>Fw a h fun e=>
 J0 2 3 s h (fun h=>(c 21 [e,d] h)) fun f h s=>
 wtE f
 (Ln 4 15 base b s fun s=>Fw b h fun g=>
 A35 g (.int .i64 (-1)) fun i=>
 Iu c r K l base s a b d f i h)
 (Iu c r K l base s a b d f tU h)
def Adj:R:=
 Er l h fun h=>Wu c r K l a b d h
end
variable{K d:Nat}(H:By disp)
include H
theorem Ta(hd:1<=d):R1 disp K d 204 (Fx K):=fun _=>rl H hd
theorem Az8(hd:1<=d):R2 disp K d 209 (Sy K):=fun _ _=>rl H hd
theorem Kk(hd:1<=d):R2 disp K d 217 (Gs K):=fun _ _=>rl H hd
theorem Apc(hd:1<=d):R1 disp K d 222 (Tx K):=fun _=>rl H hd
theorem Sp(hd:1<=d):R1 disp K d 223 (Ds K):=fun _=>rl H hd
theorem Hg(hd:1<=d):R1 disp K d 225 (D1 K):=fun _=>rl H hd
theorem Amt(hd:0<=d):S2 disp K d 228 Afp:=fun _ _=>rd rfl rfl H rfl
theorem Al0(hd:0<=d):S4 disp K d 233 Afy:=fun _ _ _ _=>rd rfl rfl H rfl
theorem Y8(hd:1<=d):R1 disp K d 234 (Gv K):=fun _=>rl H hd
theorem Aoi(hd:2<=d):R3 disp K d 238 (Ye K):=fun _ _ _=>ll H hd (fun d hd=>V1 (Abk H) hd<|rfl) 5 (e3 (Jy K) 0 1 6)
theorem Au2(hd:2<=d):S2 disp K d 239 Ao0:=fun _ _=>rd rfl rfl H (V2 (Fq H) hd<|rfl)
theorem Ald(hd:0<=d):S1 disp K d 240 Aey:=fun _=>rd rfl rfl H rfl
theorem Xs(hd:2<=d):R1 disp K d 263 (Gr K):=fun _=>rl H hd fun d hd=>V1 (Hg H) hd<|rfl
theorem Apy(hd:1<=d):S2 disp K d 264 Akm:=fun _ _=>ld rfl rfl H (V1 (Ky H) hd<|V2 (U4 H) hd<|V1 (Ta H) hd<|rfl) 51 (fun c r=>e5 (Kr c r K) 0 1 5 9 10)
theorem Apf(hd:1<=d):R2 disp K d 265 (Alq K):=fun _ _=>rl H hd
theorem Xi(hd:2<=d):R1 disp K d 279 (Gf K):=fun _=>rl H hd fun d hd=>V1 (Hg H) hd<|rfl
theorem Aa6(hd:1<=d):R1 disp K d 280 (Aas K):=fun _=>rl H hd
theorem Aoo(hd:1<=d):S4 disp K d 283 Ahl:=fun _ _ _ _=>rd rfl rfl H (V2 (Kk H) hd<|rfl)
theorem Abo(hd:1<=d):R2 disp K d 284 (Pt K):=fun _ _=>ll H hd (fun _ _=>rfl) 25 (e4 (Km K) 2 3 4 6)
theorem Zm(hd:1<=d):R2 disp K d 285 (Hd K):=fun _ _=>rl H hd
theorem Zo(hd:1<=d):R2 disp K d 286 (Hc K):=fun _ _=>rl H hd
theorem Aor(hd:1<=d):R1 disp K d 288 (Sl K):=fun _=>rl H hd
theorem Atx(hd:1<=d):R3 disp K d 289 (Yj K):=fun _ _ _=>rl H hd
theorem Aec(hd:1<=d):R2 disp K d 292 (Qy K):=fun _ _=>rl H hd
theorem Yt(hd:1<=d):R1 disp K d 293 (Oe K):=fun _=>rl H hd
theorem Axv(hd:1<=d):R3 disp K d 294 (N6 K):=fun _ _ _=>rl H hd
theorem Ak5(hd:1<=d):R1 disp K d 304 (Zc K):=fun _=>rl H hd
theorem Aae(hd:1<=d):R2 disp K d 305 (Kg K):=fun _ _=>rl H hd
theorem Xh(hd:0<=d):S3 disp K d 306 Jv:=fun _ _ _=>rd rfl rfl H rfl
theorem Akd(hd:2<=d):R2 disp K d 307 (Aea K):=fun _ _=>rl H hd fun d hd=>V2 (Abo H) hd<|rfl
theorem Alk(hd:1<=d):R3 disp K d 308 (Qf K):=fun _ _ _=>rl H hd
theorem Amz(hd:2<=d):R1 disp K d 309 (Qm K):=fun _=>rl H hd fun d hd=>V3 (Alk H) hd<|rfl
theorem Azx(hd:1<=d):R1 disp K d 310 (W9 K):=fun _=>ll H hd (fun _ _=>rfl) 27 (e2 (Ls K) 0 3)
theorem Asx(hd:2<=d):R1 disp K d 316 (Alu K):=fun _=>rl H hd fun d hd=>V1 (Yt H) hd<|rfl
theorem Axe(hd:1<=d):S2 disp K d 18 Asq:=fun _ _=>rd rfl rfl H (V1 (Avt H) hd<|rfl)
theorem Aqf(hd:1<=d){l:Nat}(tm:Bb)(h:Ab)(m:EV)(k:EV){st:LoopState}{p:Option Code}(v:h.get l=some (.loop st p 18 14 tm [9,10] (Ek TT 18 0).2.2.1 (Ek TT 18 0).2.2.2 d0)):
 Ag TT disp K (d+1) true l [m,k] h=Akh (Ag TT disp K d false) (Ag TT disp K d true) K l (tmp tm 3) (tmp tm 4) k h:=rr rfl rfl (rfl) v rfl (by kernel_rfl)
theorem Aue(hd:1<=d):S2 disp K d 20 Apu:=fun _ _=>rd rfl rfl H (V1 (Aum H) hd<|rfl)
theorem Aoj(hd:1<=d){l:Nat}(tm:Bb)(h:Ab)(k:EV){st:LoopState}{p:Option Code}(m:h.get l=some (.loop st p 20 12 tm [8] (Ek TT 20 0).2.2.1 (Ek TT 20 0).2.2.2 d0)):
 Ag TT disp K (d+1) true l [k] h=Ah2 (Ag TT disp K d false) (Ag TT disp K d true) K l (tmp tm 3) (tmp tm 4) k h:=rr rfl rfl (rfl) m rfl (by kernel_rfl)
theorem Aqq(hd:3<=d):S2 disp K d 21 Ak6:=fun _ _=>rd rfl rfl H (V1 (Amb H) hd<|V1 (Cw H) hd<|V2 (Fq H) hd<|V1 (Hz H) hd<|V2 (Ei H) hd<|rfl)
theorem Aul(hd:1<=d):∀a b h,F27 (Ag TT disp K d false) (Ag TT disp K d true) K [a,b] h=Akc (Ag TT disp K d false) (Ag TT disp K d true) K a b h:=fun _ _=>rf rfl rfl rfl (B:=cH _ _ _ _ K 27 .no) (V1 (Cw H) hd<|V2 (Ax0 H) hd<|rfl) rfl
theorem Aln(hd:1<=d){l:Nat}(tm:Bb)(h:Ab)(k:EV){st:LoopState}{p:Option Code}(m:h.get l=some (.loop st p 27 39 tm [14] (Ek TT 27 0).2.2.1 (Ek TT 27 0).2.2.2 d0)):
 Ag TT disp K (d+1) true l [k] h=Adj (Ag TT disp K d false) (Ag TT disp K d true) K l (tmp tm 2) (tmp tm 5) k h:=rr rfl rfl (V2 (Yc H) hd<|rfl) m rfl (by kernel_rfl)
end
end
noncomputable section
section
variable (c r:Ai)(K l:Nat)(k0:A0)(k1:A1)(k2:A2)(k3:A3)(k4:A4)(k5:A5)(k6:A6)(k7:A7)(k8:A8)(k9:A9)(k10:A10)(k11:A11)(k12:A12)(m0:B0)(m1:B1)(m2:B2)(m3:B3)(m4:B4)(m5:B5)(m6:B6)(m7:B7)(m8:B8)(m9:B9)(m10:B10)(m11:B11)(m12:B12)(base:Nat)(s:DX)(tm:Bb)(a b d e f g i j n o p q t u w x y z aa ab ad ae af ag ai aj an ao ap aq au aw ax ay az ba bb bd be bf bg bi bj bn bo bp bq bt bu bw bx bz da db dd de df dg di dj dn dp dq dt du dw dx dy dz ea eb ed ee ef eg ei ej en eo ep eq et eu ew ex ey ez fa fb fd fe ff fg fi fj fn fo fp fq ft fu fw fx fy fz ga gb gd ge gf gg gi gj gn go gp gq gt gu gw gx gy gz ia ib ie ig ii ij io ip iq it iu iw ix iy iz ja jb:EV)(h:Ab)(ds:List Nat)
def Aex:Ru K (Ru r (Ru c R)):=
 some (a,h)
def O0:Ru K (Ru r (Ru c R)):=
 Ir e fun f=>
 k4 a b d f h
def Uz:R:=(.mk:Sg 0x1764340076534007288709e [a,b,d,e,f,g,i] h [Ub (O0 c r K k4)]).F
def Aeu:R:=(.mk:Sg 0x12028754371025ba8767102820e5220132307e2d01324e [a,b,d,e,f,g] h [Ec (Lm K),cl7 (Uz c r K k4)] [] [] [(.int .i64 (-1))]).F
def Kx:R:=
 pkO i j fun n=>
 ifE n
 (O0 c r K k4 a b f g h)
 (Aeu c r K k4 a b d e f g h)
def O1:R:=(.mk:Sg 0x120287654381024a9876581020fe5320104e2d9809e [a,b,d,e,f,g,i,j] h [c 84,cl8 (Kx c r K k4)]).F
def Adf:R:=(.mk:Sg 0x12029849768302700ed900ecb8302522e21007e21217034301fe0fe2d20fe7421162201223 [a,b,d,e] h [Ec (Lm K),c 21,Dr (Cf K),cl8 (O1 c r K k4)] [cu1 (fun p=>V9 2 false 0 p)]).F
def H6(c:Ai)(r:Ai)(K:Nat):Nat->A4
 | 0=>fun _ _ _ _ _=>none
 | m+1=>fun a b d e h=>
  cE Ja .lss 3 e d
  (Adf c r K (H6 c r K m) a b d e h)
  (Aex c r K b h)
def Ak3:R:=
 fE 0 a h fun b=>
 Am (Cf K b h) fun d h=>
 Am (Dn K d h) fun e h=>
 H6 c r K K a (.int .i64 (-1)) e (.int .i64 0) h
def Ah8:Ru K R:=(.mk:Sg 0x10024226522319e31c542007e [a,b,d,e] h [] [cu2 (fun d e=>Bm (Df [(0,1),(1,1)]) [.int .i64 0,.int .i64 0] [(0,d),(1,e)])]).F
def Aie:R:=(.mk:Sg 0x1654340003e023287609e [a,b,d,e,f,g] h [Ub (Ah8 K)]).F
def Aiq:R:=(.mk:Sg 0x12065432600276543600870bec6d [a,b,d,e,f,g,i] h [cl6 (Aie K)]).F
def Ahz:R:=(.mk:Sg 0x120765432700287654370001425e00e7a [a,b,d,e,f,g] h [cl7 (Aiq K)] [] [] [(.int .i64 (-1))]).F
def Ahm:R:=(.mk:Sg 0x120265436002376546006524ec2d7609e [a,b,d,e,f,g] h [cl6 (Ahz K)]).F
def Aig:R:=(.mk:Sg 0x1202654361024876561020fe64330103e2d7609e [a,b,d,e,f,g] h [Jz (Qs K),cl6 (Ahm K)]).F
def Tk:R:=(.mk:Sg 0x1202765462024987662020fe65431103e2d20fe3101 [a,b,d,e] h [Dr (Apm K),Jz (Qs K),cl6 (Aig K)]).F
def Ajd:Ru r (Ru c R):=(.mk:Sg 0x1225220152116e263 [a,b,d] h [Ec (Gq K)]).F
def Apq:R:=(.mk:Sg 0x137632006e023286521103e0230023301e5220126520c [a,b] h [Ec (Es K),c 18,Jz (Ajd c r K)]).F
def Ws:Ru K (Ru r (Ru c R)):=(.mk:Sg 0x1002 [] h).F
def J7:Ru K (Ru r (Ru c R)):=
 Ir d fun e=>
 k3 a b e h
def Wz:R:=(.mk:Sg 0x1653310222212e32201 [a,b,d,e] h [c 143,Jz (J7 c r K k3)]).F
def Xb:R:=(.mk:Sg 0x1656442065431062820fe42201 [a,b,d] h [c 142,Jz (J7 c r K k3),Ub (Wz c r K k3)]).F
def Fk(c:Ai)(r:Ai)(K:Nat):Nat->A3
 | 0=>fun _ _ _ _=>none
 | m+1=>fun a b d h=>
  cE Ja .lss 3 d b
  (Xb c r K (Fk c r K m) a b d h)
  (Ws c r K h)
def Wy:R:=(.mk:Sg 0x1002532021112101203 [a] h [Dr (Cf K),Dr (Dn K),Jz (Fk c r K K)]).F
def Wq:R:=(.mk:Sg 0x105e110222212e20ce2a20ffffff6f0ae723574007e00e3800006f08e211e23c0005f04e210ec3c21e004fd110ea3c2e2e8010e83c773111e0ee42162014e53c20ae20423c [a] h [c 141,Dr (Wy c r K)] [cu4 (fun n p t u=>Bm (Df [(0,1),(1,1),(2,1),(3,1)]) [.int .i64 0,.int .i64 0,.int .i64 0,.Bw] [(0,n),(1,p),(2,t),(3,u)])]).F
def Ss:R:=(.mk:Sg 0x15120222212e21112101203 [a] h [Dr (Bn K),c 140,Dr (Wq c r K)]).F
def Yb:Ru K (Ru r (Ru c R)):=(.mk:Sg 0x1002 [] h).F
def Rw:R:=(.mk:Sg 0x10000fe02328320be [a,b] h [cl0 (Yb c r K)]).F
def Sa:R:=(.mk:Sg 0x12022202322000722e92a00224e21112101203 [a,b] h [Dr (Cn K),Dr (Ih K),Ec (Rw c r K)]).F
def Aip:Ru K (Ru r (Ru c R)):=
 Ir e fun f=>
 k4 a b d f h
def Rz:R:=
 pkO f g fun i=>
 ifE i
 (Sa c r K a b h)
 (Aip c r K k4 a b d e h)
def Ajb:R:=(.mk:Sg 0x1202874360023985460000615e802e01e2d40fe [a,b,d,e,f,g] h [cl6 (Rz c r K k4)]).F
def Ajg:R:=(.mk:Sg 0x18723656102220ee0215e701e20ce2101 [a,b,d,e] h [c 145,cl6 (Ajb c r K k4)]).F
def Ajf:R:=(.mk:Sg 0x187654200023623601e21112101203 [a,b,d,e] h [Dr (Cn K),Dr (Ih K),Ub (Ajg c r K k4)]).F
def Nd(c:Ai)(r:Ai)(K:Nat):Nat->A4
 | 0=>fun _ _ _ _ _=>none
 | m+1=>fun a b d e h=>
  cE Ja .lss 3 e d
  (Ajf c r K (Nd c r K m) a b d e h)
  (Sa c r K a b h)
def Afu:R:=(.mk:Sg 0x1002764202301fe21112101203 [a,b] h [Dr (Cf K),Dr (Dn K),Ub (Nd c r K K)]).F
def P0:R:=(.mk:Sg 0x14320003e023285409e [a,b,d,e] h [Ec (Afu c r K)]).F
def Ap7:R:=(.mk:Sg 0x12024342026874202722e2111210130307e2d00320e [a,b] h [Dr (Cf K),Dr (Dn K),Ub (P0 c r K)]).F
def Xu:R:=(.mk:Sg 0x1222101263 [a] h [Dr (E6 K)]).F
def Aiy:Ru K (Ru r (Ru c R)):=
 Ir f fun g=>
 k5 a b d e g h
def Aht:R:=(.mk:Sg 0x1cba98510000e22820fe26201921de231fe51430de [a,b,d,e,f] h [Ec (fun a n=>Sh c r a [n]),cl5 (Aiy c r K k5)]).F
def Nh(c:Ai)(r:Ai)(K:Nat):Nat->A5
 | 0=>fun _ _ _ _ _ _=>none
 | m+1=>fun a b d e f h=>
  cE Ja .lss 3 f e
  (Aht c r K (Nh c r K m) a b d e f h)
  (some (.tuple [],h))
def Ai4:R:=
 oE 1 d h fun e=>
 Nh c r K K a b d e (.int .i64 0) h
def Aox:R:=(.mk:Sg 0x1987310000e22820fe20043011021ee50430de [a,b,d] h [Jz (Jk K),Jz (Ai4 c r K)]).F
def Wo(c:Ai)(r:Ai)(K:Nat)(tm:Bb)(a:EV)(h:Ab)(ds:List Nat):R:=
 stE 1 a (.bool true) h fun h=>
 Fi ds h fun h=>Ij TT [.c a 4] h
def Am9:R:=
 (fun(tm:Bb) (ds:List Nat)=>
 Q2 26 a h fun d h=>
 Ax7 (.cells [(.bool false)] 4) h fun e h=>
 Fw d h fun f=>
 Ar8 f fun g=>
 Ahh 2 g fun i=>
 Fw i h fun j=>
 Am (Acv K j b h) fun n h=>
 Us c TT 84 40 0 n ((((((((tm.put 2 (some d)).put 4 (some e)).put 8 (some f)).put 9 (some g)).put 10 (some i)).put 11 (some j)).put 12 (some b)).put 13 (some n)) h ds (fun h ds=>
 Wo c r K ((((((((tm.put 2 (some d)).put 4 (some e)).put 8 (some f)).put 9 (some g)).put 10 (some i)).put 11 (some j)).put 12 (some b)).put 13 (some n)) e h ds) (fun id h ds=>
 Ax (Nat.beq 0 id) (Wo c r K ((((((((tm.put 2 (some d)).put 4 (some e)).put 8 (some f)).put 9 (some g)).put 10 (some i)).put 11 (some j)).put 12 (some b)).put 13 (some n)) e h ds) (none)) (fun h ds=>
 Fi ds h fun h=>Ij TT [.c e 4] h)) ((Tr.nil.put 0 (some a)).put 1 (some b)) []
def Dj(c:Ai)(r:Ai)(K:Nat)(l:Nat)(base:Nat)(s:DX)(a:EV)(b:EV)(d:EV)(h:Ab):R:=
 pkO b d fun e=>
 ifE e
 (stE 1 a (.bool false) h fun h=>
 Wb l false .done (some .ret) h)
 (Wb l true .ready none h)
def Y4:R:=
 Fw a h fun e=>
 fE 2 e h fun f=>
 Am (Ji K f d h) fun g h=>
 x2E g fun i j=>
 nsE 6 [(.int .i64 0),(.int .i64 0),(.int .i64 0),(.int .i64 0),(.int .i64 0),(.int .i64 0)] 53 i h fun n h=>
 W6 h fun base s=>
 Ln 0 0 base a s fun s=>Fw a h fun o=>
 Aod 0 3 7 base o s h fun s p=>
 olE 1 5 16 base n s h fun s q=>
 J0 6 63 s h (fun h=>(Dw K p q h)) fun t h s=>
 wfE t
 (Ln 8 255 base a s fun s=>Fw a h fun u=>
 Aod 0 11 2047 base u s h fun s w=>
 olE 2 13 4351 base n s h fun s x=>
 J0 14 16383 s h (fun h=>(Dw K w x h)) fun y h s=>
 Dj c r K l base s b t y h)
 (Dj c r K l base s b t tU h)
def Af4:R:=
 Er l h fun h=>Y4 c r K l a b d h
def Ux:Ru K (Ru r R):=(.mk:Sg 0x1000e000e3101628430be [a,b,d] h [c 172]).F
def Alo:R:=(.mk:Sg 0x120233102563102620e210130302e2a00323e [a,b] h [Dr (Nx K),Jz (Ux c r K)]).F
def Zb:Ru K R:=
 pkA a b fun d=>
 some (d,h)
def Ajc:R:=(.mk:Sg 0x120220024200c0221e413eb2a10223e213e [a] h [Ec (Zb K)]).F
def Aho:Ru K R:=
 Ir f fun g=>
 k5 a b d e g h
def Aih:R:=(.mk:Sg 0x1cba9851040232820fe26201204262e013e06e213e56413e15e [a,b,d,e,f] h [Ec (Ve K),cl5 (Aho K k5)] [] [[.int .i64 0]++List.replicate 32 (.int .u8 0)]).F
def Nn(K:Nat):Nat->A5
 | 0=>fun _ _ _ _ _ _=>none
 | m+1=>fun a b d e f h=>
  cE Ja .lss 3 f e
  (Aih K (Nn K m) a b d e f h)
  (Ajc K b h)
def Ze:R:=
 Hf b fun d=>
 Nn K K a b b d (.int .i64 0) h
def Ah6:Ru r R:=(.mk:Sg 0x1222522121112101203 [a] h [Dr (Cf K),Dr (Nv K),c 75]).F
def Qk:Ru K (Ru r (Ru c R)):=
 Ir d fun e=>
 m3 ((tm.put 26 (some e)).put 12 (some e)) a b e h ds
def Af6:R:=
 Zl 1 a d fun e=>
 Fw e h fun f=>
 nsE 1 [(.int .i64 0)] 3 d h fun g h=>
 Am (Adb K f h) fun i h=>
 Us c TT 146 27 0 i (((((((tm.put 14 (some d)).put 15 (some e)).put 16 (some f)).put 3 (some g)).put 4 (some f)).put 17 (some f)).put 18 (some i)) h ds (fun h ds=>
 Qk c r K m3 (((((((tm.put 14 (some d)).put 15 (some e)).put 16 (some f)).put 3 (some g)).put 4 (some f)).put 17 (some f)).put 18 (some i)) a b d h ds) (fun id h ds=>
 Ax (Nat.beq 2 id) (Qk c r K m3 (((((((tm.put 14 (some d)).put 15 (some e)).put 16 (some f)).put 3 (some g)).put 4 (some f)).put 17 (some f)).put 18 (some i)) a b d h ds) (Ax (Nat.beq 1 id) (Qk c r K m3 (((((((tm.put 14 (some d)).put 15 (some e)).put 16 (some f)).put 3 (some g)).put 4 (some f)).put 17 (some f)).put 18 (some i)) a b d h ds) (Ax (Nat.beq 0 id) (Fi ds h fun h=>some (.tuple [],h)) (none)))) (fun h ds=>
 uwE tU h ds)
def L6(c:Ai)(r:Ai)(K:Nat):Nat->B3
 | 0=>fun _ _ _ _ _ _=>none
 | m+1=>fun tm a b d h ds=>
  Axd d b fun e=>
  ifE e
  (Af6 c r K (L6 c r K m) (tm.put 13 (some e)) a b d h ds)
  (uwE tU h ds)
def Anm:R:=
 (fun(tm:Bb) (ds:List Nat)=>
 Q2 213 a h fun d h=>
 Fw b h fun e=>
 Ar8 e fun f=>
 Ahh 6 f fun g=>
 Fw g h fun i=>
 Hf i fun j=>
 L6 c r K K (((((((tm.put 2 (some d)).put 7 (some e)).put 8 (some f)).put 9 (some g)).put 10 (some i)).put 11 (some j)).put 12 (some (.int .i64 0))) i j (.int .i64 0) h ds) ((Tr.nil.put 0 (some a)).put 1 (some b)) []
def Zk:Ru K R:=(.mk:Sg 0x102001032820fe62330140de20de [a,b,d] h [Jz (fun e f d=>Sh c r e [f,d]),cl0 (Wb l false .done (some .ret)),cl0 (Wb l true .ready none)]).F
def Agf:R:=
 Er l h fun h=>Zk c r K l a b d h
def Ai2:R:=(.mk:Sg 0x123200e20ce210142116e263 [a,b] h [Dr (Fx K)]).F
def Xw:R:=(.mk:Sg 0x14320003e000200e6285409e [a,b,d,e] h [Ec (Ai2 K)]).F
def Pf:R:=(.mk:Sg 0x12024340025764002623e213e36301e2d00320e [a,b] h [Ub (Xw K)]).F
def V8(c:Ai)(r:Ai)(K:Nat)(tm:Bb)(a:EV)(h:Ab)(ds:List Nat):R:=
 stE 1 a (.bool true) h fun h=>
 Fi ds h fun h=>Ij TT [.c a 4] h
def We:R:=
 Ahh 3 a fun d=>
 Fw d h fun e=>
 Am (Xu K e h) fun f h=>
 Us c TT 159 36 0 f (((tm.put 26 (some d)).put 27 (some e)).put 28 (some f)) h ds (fun h ds=>
 V8 c r K (((tm.put 26 (some d)).put 27 (some e)).put 28 (some f)) b h ds) (fun id h ds=>
 Ax (Nat.beq 0 id) (V8 c r K (((tm.put 26 (some d)).put 27 (some e)).put 28 (some f)) b h ds) (none)) (fun h ds=>
 Fi ds h fun h=>Ij TT [.c b 4] h)
def Jb:R:=
 pkO d e fun f=>
 ifE f
 (stE 1 b (.bool false) h fun h=>
 Fi ds h fun h=>Ij TT [.c b 4] h)
 (We c r K (tm.put 25 (some f)) a b h ds)
def Lr:R:=
 pkO d e fun f=>
 wfE f
 (Ahh 2 a fun g=>
 Fw g h fun i=>
 Am (Sy K i (.int .i64 281474976710655) h) fun j h=>
 Alz j fun n=>
 Jb c r K ((((((tm.put 19 (some f)).put 20 (some f)).put 21 (some g)).put 22 (some i)).put 23 (some j)).put 24 (some n)) a b f n h ds)
 (Jb c r K ((((((tm.put 19 (some f)).put 20 (some f)).put 21 (some tU)).put 22 (some tU)).put 23 (some tU)).put 24 (some tU)) a b f tU h ds)
def Qa:R:=
 pkO d e fun f=>
 wfE f
 (Ahh 1 a fun g=>
 Fw g h fun i=>
 Am (Sy K i (.int .i64 4294967295) h) fun j h=>
 Alz j fun n=>
 Lr c r K ((((((tm.put 13 (some f)).put 14 (some f)).put 15 (some g)).put 16 (some i)).put 17 (some j)).put 18 (some n)) a b f n h ds)
 (Lr c r K ((((((tm.put 13 (some f)).put 14 (some f)).put 15 (some tU)).put 16 (some tU)).put 17 (some tU)).put 18 (some tU)) a b f tU h ds)
def Anb:R:=
 (fun(tm:Bb) (ds:List Nat)=>
 Q2 163 a h fun b h=>
 Ax7 (.cells [(.bool false)] 4) h fun d h=>
 Ahh 3 b fun e=>
 Fw e h fun f=>
 J1 Akq (bin TT .eql 49) f .Bw fun g=>
 wfE g
 (Ahh 0 b fun i=>
 Fw i h fun j=>
 Am (Sy K j (.int .i64 281474976710655) h) fun n h=>
 Alz n fun o=>
 Qa c r K ((((((((((tm.put 1 (some b)).put 2 (some d)).put 5 (some e)).put 6 (some f)).put 7 (some g)).put 8 (some g)).put 9 (some i)).put 10 (some j)).put 11 (some n)).put 12 (some o)) b d g o h ds)
 (Qa c r K ((((((((((tm.put 1 (some b)).put 2 (some d)).put 5 (some e)).put 6 (some f)).put 7 (some g)).put 8 (some g)).put 9 (some tU)).put 10 (some tU)).put 11 (some tU)).put 12 (some tU)) b d g tU h ds)) (Tr.nil.put 0 (some a)) []
def X5:Ru K (Ru r (Ru c R)):=(.mk:Sg 0x1010000405168233601e324444 [a,b,d] h [cl0 (Wb l false .done (some .ret)),cl0 (Wb l true .ready none)]).F
def Agd:R:=
 nsE 6 [(.int .i64 0),(.int .i64 0),(.int .i64 0),(.int .i64 0),(.int .i64 0),(.int .i64 0)] 53 d h fun e h=>
 Er l h fun h=>X5 c r K l a b e h
def Aca:R:=(.mk:Sg 0x122210142116e203 [a,b] h [Dr (Ed K)]).F
def J3:R:=(.mk:Sg 0x154210c0232820fe32201 [a,b] h [Ec (Gs K),Ec (Aca K)]).F
def Ajp:Ru r R:=(.mk:Sg 0x1c1202b211636e5321691c210121007e613212e036e06e236e500236e15e213 [a] h [Dr (Ds K),c 224,Dr k1] [cu1 (fun g=>Ae2 68 g (some (.int .i64 1)) none none)] [List.replicate 4 (.int .i64 0)++List.replicate 64 (.int .u8 0)]).F
def J6(c:Ai)(r:Ai)(K:Nat)(k1:A1)(base:Nat)(s:DX)(a:EV)(b:EV)(d:EV)(h:Ab):R:=
 pkA b d fun e=>
 ifE e
 (Ajp c r K k1 a h)
 (some (.tuple [],h))
def Nu:R:=
 pkA b d fun e=>
 wtE e
 (Aod 1 18 262143 base a s h fun s f=>
 Zl 68 f (.int .i64 0) fun g=>
 olE 0 21 2097151 base g s h fun s i=>
 Aod 0 25 29392895 base a s h fun s j=>
 J0 26 62947327 s h (fun h=>(Sc K j h)) fun n h s=>
 Az0 i n fun o=>
 J6 c r K k1 base s a e o h)
 (J6 c r K k1 base s a e tU h)
def Ka(c:Ai)(r:Ai)(K:Nat):Nat->A1
 | 0=>fun _ _=>none
 | m+1=>fun a h=>
  W6 h fun base s=>
  Aod 0 3 7 base a s h fun s b=>
  J0 4 15 s h (fun h=>(Tx K b h)) fun d h s=>
  Alz d fun e=>
  wtE e
  (Aod 1 10 1023 base a s h fun s f=>
  Hf f fun g=>
  Au4 g (.int .i64 0) fun i=>
  Nu c r K (Ka c r K m) base s a e i h)
  (Nu c r K (Ka c r K m) base s a e tU h)
def A2x:R:=
 Ka c r K K a h
def Abq:Ru K R:=(.mk:Sg 0x1002321643c20ae233 [a] h).F
def H0:R:=(.mk:Sg 0x1511003e0232820fe432010ee02328243 [a,b] h [Ec (Gs K),Dr (Abq K)]).F
def Hl:Ru K R:=(.mk:Sg 0x1002200e1021ee213e203 [a] h).F
def Nw:R:=(.mk:Sg 0x1b120c12030216b3cc233701ea13213e8031021673c321623ff3fa17e60c242170e772101618e432e5405b200e4011e0ee [a,b] h [Dr (fun e=>Cd (List.replicate 64 (.int .u8 0)) 30 64 1 [(0,e)]),Ec (Eg 30 64),Dr (Hl K)]).F
def H3:R:=(.mk:Sg 0x14320007e000200e63023701e233 [a,b] h [Ec (Nw K)]).F
def D3:R:=(.mk:Sg 0x134210200200e5212e3101310e9 [a,b] h [Dr (D1 K),Ec (H3 K)]).F
def Ab2:Ru K R:=(.mk:Sg 0x1002 [] h).F
def Ack:Ru K R:=
 Ir d fun e=>
 k3 a b e h
def Ab3:R:=
 Bac 1 a d h fun e=>
 Am (Gv K e h) fun f h=>
 Ack K k3 a b d h
def Jj(K:Nat):Nat->A3
 | 0=>fun _ _ _ _=>none
 | m+1=>fun a b d h=>
  cE Ja .lss 3 d b
  (Ab3 K (Jj K m) a b d h)
  (Ab2 K h)
def Abv:R:=(.mk:Sg 0x10023300213e503321643c20ae233 [a] h [Jz (Jj K K)]).F
def Sj:R:=(.mk:Sg 0x131000ee02328243 [a] h [Dr (Abv K)]).F
def Ry:Ru K (Ru r (Ru c R)):=(.mk:Sg 0x1002 [] h).F
def K9:R:=(.mk:Sg 0x10100ee0230ee0215e701e2101 [a] h [c 240,cl0 (Ry c r K)]).F
def Lc:R:=(.mk:Sg 0x13100002328430be [a,b,d] h [Dr (K9 c r K)]).F
def Si:R:=(.mk:Sg 0x1202831024a3102a25e8fce3c2a2825e6fbe3622014f9e31021642115e2fae3 [a,b] h [c 239,Jz (Lc c r K)]).F
def Vt:R:=(.mk:Sg 0x17622006e023286521103e0230023301e5220126521c [a,b] h [Ec (Es K),Ec (Dw K),Ec (Si c r K)]).F
def Uo:Ru K R:=
 some (a,h)
def Adt:Ru K R:=
 Ir f fun g=>
 k5 a b d e g h
def Adq:R:=
 Bac 1 d f h fun g=>
 Am (Gq K a g h) fun i h=>
 Adt K k5 a b d e f h
def H8(K:Nat):Nat->A5
 | 0=>fun _ _ _ _ _ _=>none
 | m+1=>fun a b d e f h=>
  cE Ja .lss 3 f e
  (Adq K (H8 K m) a b d e f h)
  (Uo K b h)
def U1:R:=
 Hf b fun d=>
 H8 K K a b b d (.int .i64 0) h
def Aet:Ru K R:=
 Ir e fun f=>
 k4 a b d f h
def Aen:R:=(.mk:Sg 0x18765430a92743027221311102e00215e701e20ce2101 [a,b,d,e] h [Dr (Fx K),Dr (fun g=>Cd [.int .i64 0] 3 1 1 [(0,g)]),Ec (Eg 3 1),Ub (Aet K k4)]).F
def Ia(K:Nat):Nat->A4
 | 0=>fun _ _ _ _ _=>none
 | m+1=>fun a b d e h=>
  cE Ja .lss 3 e d
  (Aen K (Ia K m) a b d e h)
  (U1 K a b h)
def Tz:R:=(.mk:Sg 0x1002b034102101 [a] h [Dr (E5 K),Ub (Ia K K)]).F
abbrev Wk(K:Nat)(c:Ai):Ai:=(w1 122 (E5 K) (w2 137 (Gq K) (w1 204 (Fx K) c)))
def Qr:Ru K R:=
 pkA a b fun d=>
 some (d,h)
def Pz:R:=(.mk:Sg 0x12022102521020053011021ee42405e2a540be [a,b,d,e] h [Jz (Jk K),Ec (Qr K)]).F
def Mv:R:=(.mk:Sg 0x120247430268b43020093211021ee21114650be2a2101265209e9 [a,b,d] h [Dr (Mz K),Dr (Dn K),Jz (Jk K),Ub (Pz K)]).F
def Abr:Ru K R:=
 some (a,h)
def Tl:R:=(.mk:Sg 0x131200123212e20ce522112101203 [a,b] h [Dr (Cn K),Ec (Pf K),Dr (Abr K)] [] [] [(.int .i64 (-1))]).F
def Ny:R:=
 pkA e f fun g=>
 ifE g
 (some (d,h))
 (Tl K a b h)
def Rx:R:=(.mk:Sg 0x12026a9510259dc51020fe7220190304e2a01525e012162114e722319e51c214422319e21c [a,b] h [Ec (Dw K),cl5 (Ny K)] [] [] [(.int .i64 (-1))]).F
def Agz:Ru r R:=(.mk:Sg 0x122522112101203 [a,b] h [Dr (Bn K),c 219]).F
def Agp:R:=(.mk:Sg 0x17623000233023701e6222121112101203 [a,b] h [Dr (Bn K),Dr (Dy K),Ec (J3 K),Ec (Agz c r K)]).F
def Age:Ru K (Ru r (Ru c R)):=
 Ir f fun g=>
 k5 a b d e g h
def Qi:R:=
 A9p d
 (some (d,h))
 (Age c r K k5 a b e f g h)
def P8:R:=(.mk:Sg 0x18765436008760ae043600a28980be [a,b,d,e,f,g,i,j] h [cl6 (Qi c r K k5)]).F
def Af9:R:=(.mk:Sg 0x120202e01e00e3dc8202303e02e01e400ed82002e425e00e2a00215e702e20ce2933171e77432e5406b21001e47573011e0ee210e032e06e232e56432e15e [a,b,d,e,f] h [Dr (Bn K),c 45,cl8 (P8 c r K k5)] [] [List.replicate 64 (.int .u8 0)]).F
def Ly(c:Ai)(r:Ai)(K:Nat):Nat->A5
 | 0=>fun _ _ _ _ _ _=>none
 | m+1=>fun a b d e f h=>
  cE Ja .lss 3 f e
  (Af9 c r K (Ly c r K m) a b d e f h)
  (Agp c r K a b h)
def Afw:R:=
 Hf d fun e=>
 Ly c r K K a b d e (.int .i64 0) h
def Agx:R:=(.mk:Sg 0x1543310222212e32201 [a,b,d] h [c 262,Jz (Afw c r K)]).F
def An2:R:=(.mk:Sg 0x13b9320222212e20ce8233171e77445405b21001e47373011e0ee395e9 [a,b,d] h [Dr (Gb K),c 261,Jz (Agx c r K)]).F
def Ab6:R:=(.mk:Sg 0x122210142116e203 [a,b] h [Dr (Gr K)]).F
def R9:R:=(.mk:Sg 0x143210222212e32201 [a,b] h [Ec (H0 K),Ec (Ab6 K)]).F
def Z9:R:=(.mk:Sg 0x122210142116e203 [a,b] h [Dr (Gf K)]).F
def Qe:R:=(.mk:Sg 0x143210222212e32201 [a,b] h [Ec (H0 K),Ec (Z9 K)]).F
def Aer:Ru r (Ru c R):=(.mk:Sg 0x1000e2ab323fff4f00e7242107e20ae94003fb32e10e24211e03f97232e5272e8b01e414e232e5212e6b4014e725704ba73311e0ee3233e6271e717e11563f05e618e232011e57325304b673311e0ee2a5e0206e232007e434324 [a,b] h [Ec (Arw TT 179 342 false),Ec (Pt K),Jz (Aag TT 179)] [cu2 (fun d e=>Bm (Df [(0,1),(1,1)]) [.int .i64 0,.int .i64 0] [(0,d),(1,e)]),cu2 (fun y aa=>Bm (Df [(0,64),(64,1)]) (List.replicate 64 (.int .u8 0)++[.int .i64 0]) [(0,y),(1,aa)])] [[.int .i64 0,.int .i64 0],List.replicate 64 (.int .u8 0)++[.int .i64 0]]).F
def Aky:R:=(.mk:Sg 0x189210000e2212e2456403ff3fa7232e52f2e9b5414e432e7310e302e5210e373011e0ee312e9 [a,b] h [c 283,Ec (Aer c r K)]).F
def Adn:R:=(.mk:Sg 0x10026220142116e203 [a,b,d] h [Ec (Hd K)]).F
def Pd:R:=(.mk:Sg 0x165431003e0232820fe32201 [a,b,d] h [Ec (Gs K),Jz (Adn K)]).F
def Ad9:R:=(.mk:Sg 0x12010ea1204e3a32e620ce6220142116e203 [a,b,d,e] h [Ec (Hc K)]).F
def T7:R:=(.mk:Sg 0x136544103010e41204e2432e60007e00e212e43201010e05e [a,b,d] h [Ec (H0 K),Ub (Ad9 K)] [cu0 (Bm (Ll 1) (List.replicate 64 (.int .u8 0)) [])] [List.replicate 64 (.int .u8 0)]).F
def Ais:Ru K R:=
 some (a,h)
def Ahs:Ru K R:=
 Ir f fun g=>
 k5 a b d e g h
def Air:R:=(.mk:Sg 0x1a98265104623012f2e531be64116e [a,b,d,e,f] h [Jz (Yj K),cl5 (Ahs K k5)]).F
def Nc(K:Nat):Nat->A5
 | 0=>fun _ _ _ _ _ _=>none
 | m+1=>fun a b d e f h=>
  cE Ja .lss 3 f e
  (Air K (Nc K m) a b d e f h)
  (Ais K b h)
def Agv:R:=
 Hf d fun e=>
 Nc K K a b d e (.int .i64 0) h
def G7:Ru K R:=
 pkA a b fun d=>
 some (d,h)
def Ju:R:=(.mk:Sg 0x1202210242102101344c2a430be [a,b,d] h [Dr (fun f=>N6 K f (.int .i64 0) (.int .i64 281474976710655)),Ec (G7 K)]).F
def Nz:R:=(.mk:Sg 0x120233102453102101334d2a430be [a,b,d] h [Dr (fun f=>N6 K f (.int .i64 1) (.int .i64 4294967295)),Jz (Ju K)]).F
def Ti:R:=(.mk:Sg 0x120233102453102101324d2a430be [a,b,d] h [Dr (fun f=>N6 K f (.int .i64 0) (.int .i64 65535)),Jz (Nz K)]).F
def Ke:R:=(.mk:Sg 0x120243202463202111414d2a801023012042e9e9 [a] h [Jz (N6 K),Dr (fun f=>N6 K f (.int .i64 0) (.int .i64 65535)),Jz (Ti K)]).F
def Ah7:Ru K R:=
 Ij TT [.v a,.v b,.v d] h
def Aic:R:=(.mk:Sg 0x123633050000000304ea512e20ce5722120ce34221232112101 [a] h [Dr (fun a=>Kc K a (.int .i64 (-1))),Ec (Kc K),Ec (Pf K),Jz (Ah7 K)]).F
def Xy:R:=(.mk:Sg 0x1311005e00000000304eb0023701e2101 [a] h [Dr (Ih K),Dr (Aic K)]).F
def Aek:Ru r R:=(.mk:Sg 0x122522112101203 [a,b] h [Dr (Bn K),c 196]).F
def Alc:R:=(.mk:Sg 0x17623000230023701e6222121112101203 [a,b] h [Dr (Bn K),Dr (Dy K),Ec (J3 K),Ec (Aek c r K)]).F
def Y5:Ru K (Ru r R):=(.mk:Sg 0x12242201203 [a,b] h [c 219]).F
def Hr:R:=(.mk:Sg 0x14321022522013f9e3a0053701e0023286509e [a,b,d,e,f] h [c 67,Ec (Y5 c r K)]).F
def K5:R:=(.mk:Sg 0x1202543500258765002724e22431c03e2d6509e [a,b,d,e,f] h [cl5 (Hr c r K)]).F
def Aez:R:=(.mk:Sg 0x12025435102365451043201d2d01324e [a,b,d] h [Ec (Dw K),cl5 (K5 c r K)] [] [] [(.int .i64 (-1))]).F
def Aeg:Ru K R:=
 some (a,h)
def Ad6:Ru K R:=
 Ir e fun f=>
 k4 a b d f h
def Adl:R:=(.mk:Sg 0x1ba92400273303e243503e21107e7d01fe21007e53116e [a,b,d,e] h [Ub (Ad6 K k4)] [cu1 (fun f=>Tq .i64 f),cu1 (fun i=>Tq .u64 i)]).F
def Ko(K:Nat):Nat->A4
 | 0=>fun _ _ _ _ _=>none
 | m+1=>fun a b d e h=>
  cE Ja .lss 3 e d
  (Adl K (Ko K m) a b d e h)
  (Aeg K a h)
def Aei:R:=(.mk:Sg 0x1002300410213e32201 [a,b] h [Ec (Kg K),Ub (Ko K K)]).F
def Ew:R:=(.mk:Sg 0x154220002411172820fe3101 [a,b] h [Dr (Zc K),Dr (fun a=>Kg K a (.int .i64 (-1))),Ec (Aei K)]).F
def L8:R:=
 Am (Kg K a b h) fun d h=>
 some (d,h)
def Jq:Ru K R:=
 pkA a b fun d=>
 some (d,h)
def N4:R:=(.mk:Sg 0x1202210242102101318e5c2a430be [a,b,d] h [Dr (Qm K),Ec (Jq K)]).F
def St:R:=(.mk:Sg 0x120233102453102101354d2a430be [a,b,d] h [Dr (fun f=>Qf K f (.int .i64 0) (.int .i64 65535)),Jz (N4 K)]).F
def Se:R:=(.mk:Sg 0x120243202463202111434d2a21012142bde9 [a] h [Dr (fun d=>Qf K d (.int .i64 0) (.int .i64 281474976710655)),Dr (fun f=>Qf K f (.int .i64 0) (.int .i64 255)),Jz (St K)]).F
def Aap:Ru K R:=
 Ir e fun f=>
 k4 a b d f h
def Aam:R:=(.mk:Sg 0x1ba284200183603e321660c24211210141007e203 [a,b,d,e] h [Dr (fun g=>Cd [.int .u8 0] 5 1 1 [(0,g)]),Ec (Eg 5 1),Ub (Aap K k4)] [cu1 (fun b=>Tq .u8 b)] [] [(.int .u64 8)]).F
def Iy(K:Nat):Nat->A4
 | 0=>fun _ _ _ _ _=>none
 | m+1=>fun a b d e h=>
  cE Ja .lss 3 e d
  (Aam K (Iy K m) a b d e h)
  (some (.tuple [],h))
def Aau:R:=
 Iy K K a d b (.int .i64 0) h
def Pe:R:=(.mk:Sg 0x1543300000e5021631ca286509e [a,b,d,e,f] h [Jz (Aau K)]).F
def Ee:R:=(.mk:Sg 0x1202654520248765206222e611101e2d20fe3101 [a,b,d] h [Dr (Zc K),Dr (W9 K),cl5 (Pe K)]).F
def Ary:R:=(.mk:Sg 0x1e7e08e1104e208e1ee602e13121001e32102e54210d32100e44230b321c342109321a242107321814210532160423211824215e3f90007e209e1606e21013340e7e05e295e9 [a] h [Dr (Ef K),Ec (fun j n=>Ee K j (.int .i64 6) n),Jz (Ee K),Dr (Alu K)] [cu0 (Bm (Df [(0,1),(1,1)]) [.Al,.bool false] [])] [List.replicate 44 (.int .u8 0),[.int .i64 0,.int .i64 0,.int .i64 0,.int .i64 0,.int .i64 0,.int .i64 0]]).F
end
variable{K d:Nat}(H:By disp)
include H
theorem Aqk(hd:1<=d):S1 disp K d 28 Ak3:=fun _=>ld rfl rfl H (V1 (Cw H) hd<|V1 (Ey H) hd<|V2 (Yc H) hd<|rfl) 51 (fun c r=>e4 (H6 c r K) 0 3 11 12)
theorem At3(hd:4<=d):R4 disp K d 66 (Tk K):=fun _ _ _ _=>rl H hd fun d hd=>V1 (Av0 H) hd<|V3 (Asg H) hd<|rfl
theorem Au0(hd:2<=d):S2 disp K d 67 Apq:=fun _ _=>rd rfl rfl H (V2 (Fq H) hd<|V2 (U4 H) hd<|rfl)
theorem Vj(hd:1<=d):S1 disp K d 73 Ss:=fun _=>ld rfl rfl H (V1 (D4 H) hd<|V1 (Cw H) hd<|V1 (Ey H) hd<|rfl) 207 (fun c r=>e3 (Fk c r K) 0 62 63)
theorem Atw(hd:3<=d):S2 disp K d 75 Ap7:=fun _ _=>ld rfl rfl H (V1 (Cw H) hd<|V1 (Ey H) hd<|V1 (Hz H) hd<|V1 (Adi H) hd<|rfl) 51 (fun c r=>e4 (Nd c r K) 0 1 25 26)
theorem Aki(hd:2<=d):R1 disp K d 81 (Xu K):=fun _=>rl H hd fun d hd=>V1 (T9 H) hd<|rfl
theorem At8(hd:1<=d):S3 disp K d 82 Aox:=fun _ _ _=>ld rfl rfl H (V3 (Ac8 H) hd<|rfl) 11 (fun c r=>e5 (Nh c r K) 0 1 2 12 13)
theorem Asm(hd:3<=d):S2 disp K d 84 Am9:=fun _ _=>rd rfl rfl H (V2 (Anw H) hd<|rfl)
theorem Amk(hd:3<=d){l:Nat}(tm:Bb)(h:Ab)(k:EV){st:LoopState}{p:Option Code}(m:h.get l=some (.loop st p 84 40 tm [14] (Ek TT 84 0).2.2.1 (Ek TT 84 0).2.2.2 d0)):
 Ag TT disp K (d+1) true l [k] h=Af4 (Ag TT disp K d false) (Ag TT disp K d true) K l (tmp tm 2) (tmp tm 4) k h:=rr rfl rfl (V2 (Iw H) hd<|V2 (Ei H) hd<|rfl) m rfl (by kernel_rfl)
theorem Ari(hd:1<=d):S2 disp K d 102 Alo:=fun _ _=>rd rfl rfl H (V1 (Z1 H) hd<|rfl)
theorem Auz(hd:3<=d):R2 disp K d 125 (Ze K):=fun _ _=>ll H hd (fun d hd=>V2 (Aiw H) hd<|rfl) 25 (e5 (Nn K) 0 1 7 8 9)
theorem Aob(hd:1<=d):S1 disp K d 126 Ah6:=fun _=>rd rfl rfl H (V1 (Cw H) hd<|V1 (Z2 H) hd<|rfl)
theorem Asj(hd:1<=d):S2 disp K d 146 Anm:=fun _ _=>ld rfl rfl H (V1 (Asb H) hd<|rfl) 11 (fun c r m k tm h ds=>L6 c r K m tm (k 10) (k 11) (k 12) h ds)
theorem Amv(hd:1<=d){l:Nat}(tm:Bb)(h:Ab)(m:EV)(k:EV){st:LoopState}{p:Option Code}(v:h.get l=some (.loop st p 146 27 tm [19,20] (Ek TT 146 0).2.2.1 (Ek TT 146 0).2.2.2 d0)):
 Ag TT disp K (d+1) true l [m,k] h=Agf (Ag TT disp K d false) (Ag TT disp K d true) K l (tmp tm 2) (tmp tm 3) k h:=rr rfl rfl (rfl) v rfl (by kernel_rfl)
theorem Agk(hd:2<=d):R2 disp K d 153 (Pf K):=fun _ _=>rl H hd fun d hd=>V1 (Ta H) hd<|rfl
theorem Ar4(hd:2<=d):S1 disp K d 159 Anb:=fun _=>rd rfl rfl H (V2 (Az8 H) hd<|V1 (Aki H) hd<|rfl)
theorem Al1(hd:2<=d){l:Nat}(tm:Bb)(h:Ab)(m:EV)(k:EV){st:LoopState}{p:Option Code}(v:h.get l=some (.loop st p 159 36 tm [29,30] (Ek TT 159 0).2.2.1 (Ek TT 159 0).2.2.2 d0)):
 Ag TT disp K (d+1) true l [m,k] h=Agd (Ag TT disp K d false) (Ag TT disp K d true) K l (tmp tm 1) (tmp tm 2) k h:=rr rfl rfl (rfl) v rfl (by kernel_rfl)
theorem Z6(hd:2<=d):R2 disp K d 167 (J3 K):=fun _ _=>rl H hd fun d hd=>V2 (Kk H) hd<|V1 (Ht H) hd<|rfl
theorem Aub(hd:1<=d):S1 disp K d 172 A2x:=fun _=>ld rfl rfl H (V1 (Sp H) hd<|V1 (Aok H) hd<|V1 (Apc H) hd<|rfl) 2 (fun c r=>e1 (Ka c r K) 0)
theorem Mj(hd:2<=d):R2 disp K d 173 (H0 K):=fun _ _=>rl H hd fun d hd=>V2 (Kk H) hd<|rfl
theorem Xj(hd:2<=d):R2 disp K d 176 (D3 K):=fun _ _=>rl H hd fun d hd=>V1 (Hg H) hd<|rfl
theorem Aow(hd:2<=d):R1 disp K d 194 (Sj K):=fun _=>ll H hd (fun d hd=>V1 (Y8 H) hd<|rfl) 103 (e3 (Jj K) 19 20 21)
theorem Ac6(hd:3<=d):S2 disp K d 197 Vt:=fun _ _=>rd rfl rfl H (V2 (Fq H) hd<|V2 (Ei H) hd<|rfl)
omit H in
theorem Aon(c v r:Ai)(K:Nat)(m:Nat):lpB false (Wk K c) v r K 200 103 [(2,fun k tm h ds=>Uo K (k 3) h)] m=(fun m k tm h ds=>H8 K m (k 0) (k 3) (k 24) (k 25) (k 26) h) m:=
 Qv (E:=fun m k tm h ds=>H8 K m (k 0) (k 3) (k 24) (k 25) (k 26) h) rfl (fun m=>A2m fun k tm h ds=>by kernel_rfl) m
omit H in
theorem Aot(c v r:Ai)(K:Nat)(m:Nat):lpB false (Wk K c) v r K 200 51 [(0,fun k tm h ds=>U1 K (k 0) (k 3) h)] m=(fun m k tm h ds=>Ia K m (k 0) (k 3) (k 9) (k 10) h) m:=
 Qv (E:=fun m k tm h ds=>Ia K m (k 0) (k 3) (k 9) (k 10) h) rfl (fun m=>A2m fun k tm h ds=>by kernel_rfl) m
theorem Arj(hd:2<=d):R1 disp K d 200 (Tz K):=by
 obtain⟨d,rfl⟩:∃e,d=e+1:=⟨d-1,by omega⟩;have hd:=Nat.le_of_succ_le_succ hd;exact fun _=>rm (q:=false) (D:=Wk K (Ag TT disp K d false)) (by kernel_rfl) rfl rfl H (V1 (Ky H) hd<|V2 (U4 H) hd<|V1 (Ta H) hd<|rfl) (cut [true,true,true,false,true,false] (Aon (Ag TT disp K d false) (Ag TT disp K d false) (Ag TT disp K d true) K K) (by kernel_rfl) (by kernel_rfl) (cut [true,true,false,true,false] (Aot (Ag TT disp K d false) (Ag TT disp K d false) (Ag TT disp K d true) K K) (by kernel_rfl) (by kernel_rfl) rfl))
theorem Ad5(hd:4<=d):R3 disp K d 221 (Mv K):=fun _ _ _=>rl H hd fun d hd=>V1 (U7 H) hd<|V1 (Ey H) hd<|V3 (Ac8 H) hd<|rfl
theorem An6(hd:4<=d):R2 disp K d 235 (Rx K):=fun _ _=>rl H hd fun d hd=>V2 (Ei H) hd<|V1 (Hz H) hd<|V2 (Agk H) hd<|rfl
theorem Ar9(hd:2<=d):S3 disp K d 236 An2:=fun _ _ _=>ld rfl rfl H (V1 (Xc H) hd<|V1 (D4 H) hd<|V1 (Ml H) hd<|V2 (Z6 H) hd<|rfl) 207 (fun c r=>e5 (Ly c r K) 0 2 34 35 36)
theorem Aos(hd:3<=d):R2 disp K d 237 (R9 K):=fun _ _=>rl H hd fun d hd=>V2 (Mj H) hd<|V1 (Xs H) hd<|rfl
theorem Amj(hd:3<=d):R2 disp K d 249 (Qe K):=fun _ _=>rl H hd fun d hd=>V2 (Mj H) hd<|V1 (Xi H) hd<|rfl
theorem Apx(hd:1<=d):S2 disp K d 251 Aky:=fun _ _=>rd rfl rfl H (V2 (Abo H) hd<|rfl)
theorem Ap5(hd:2<=d):R3 disp K d 252 (Pd K):=fun _ _ _=>rl H hd fun d hd=>V2 (Kk H) hd<|V2 (Zm H) hd<|rfl
theorem Aqm(hd:3<=d):R3 disp K d 254 (T7 K):=fun _ _ _=>rl H hd fun d hd=>V2 (Mj H) hd<|V2 (Zo H) hd<|rfl
theorem At5(hd:2<=d):R3 disp K d 256 (Agv K):=fun _ _ _=>ll H hd (fun d hd=>V3 (Atx H) hd<|rfl) 25 (e5 (Nc K) 0 1 9 10 11)
theorem Rk(hd:2<=d):R1 disp K d 258 (Ke K):=fun _=>rl H hd fun d hd=>V3 (Axv H) hd<|rfl
theorem Au6(hd:4<=d):R1 disp K d 259 (Xy K):=fun _=>rl H hd fun d hd=>V1 (Adi H) hd<|V2 (Aac H) hd<|V2 (Agk H) hd<|rfl
theorem Aqa(hd:2<=d):S2 disp K d 262 Alc:=fun _ _=>rd rfl rfl H (V1 (D4 H) hd<|V1 (Ml H) hd<|V2 (Z6 H) hd<|rfl)
theorem Ak1(hd:3<=d):S3 disp K d 266 Aez:=fun _ _ _=>rd rfl rfl H (V2 (Ei H) hd<|rfl)
theorem Ng(hd:2<=d):R2 disp K d 281 (Ew K):=fun _ _=>ll H hd (fun d hd=>V1 (Ak5 H) hd<|V2 (Aae H) hd<|rfl) 103 (e4 (Ko K) 5 15 16 17)
theorem X2(hd:2<=d):R2 disp K d 282 (L8 K):=fun _ _=>rl H hd fun d hd=>V2 (Aae H) hd<|rfl
theorem An9(hd:3<=d):R1 disp K d 290 (Se K):=fun _=>rl H hd fun d hd=>V3 (Alk H) hd<|V1 (Amz H) hd<|rfl
theorem Nb(hd:2<=d):R3 disp K d 291 (Ee K):=fun _ _ _=>ll H hd (fun d hd=>V1 (Ak5 H) hd<|V1 (Azx H) hd<|rfl) 11 (e4 (Iy K) 0 2 18 19)
theorem A3l(hd:3<=d):R1 disp K d 312 (Ary K):=fun _=>rl H hd fun d hd=>V1 (Fg H) hd<|V3 (Nb H) hd<|V1 (Asx H) hd<|rfl
end
end Go.Ev
