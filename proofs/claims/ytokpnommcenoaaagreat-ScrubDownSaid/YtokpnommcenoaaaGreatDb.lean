import Derived.Test.YtokpnommcenoaaaGreatDa
set_option linter.all false
namespace Go.Ev
open Go.Proofs
set_option maxRecDepth 100000
set_option maxHeartbeats 4000000
variable {d0:Nat}{disp:Nat->Option FT}
section
noncomputable section
section
variable (c r:Ai)(K l:Nat)(k0:A0)(k1:A1)(k2:A2)(k3:A3)(k4:A4)(k5:A5)(k6:A6)(k7:A7)(k8:A8)(k9:A9)(k10:A10)(k11:A11)(k12:A12)(m0:B0)(m1:B1)(m2:B2)(m3:B3)(m4:B4)(m5:B5)(m6:B6)(m7:B7)(m8:B8)(m9:B9)(m10:B10)(m11:B11)(m12:B12)(base:Nat)(s:DX)(tm:Bb)(a b d e f g i j n o p q t u w x y z aa ab ad ae af ag ai aj an ao ap aq au aw ax ay az ba bb bd be bf bg bi bj bn bo bp bq bt bu bw bx bz da db dd de df dg di dj dn dp dq dt du dw dx dy dz ea eb ed ee ef eg ei ej en eo ep eq et eu ew ex ey ez fa fb fd fe ff fg fi fj fn fo fp fq ft fu fw fx fy fz ga gb gd ge gf gg gi gj gn go gp gq gt gu gw gx gy gz ia ib ie ig ii ij io ip iq it iu iw ix iy iz ja jb:EV)(h:Ab)(ds:List Nat)
def Fx:Ru K R:=(.mk:Sg 0x105e000200e002200e321ae80023701e201ae200201203 [a] h [D7 A23]).F
def Aq7:Ru K R:=
 pkA a b fun d=>
 some (d,h)
def Tb:R:=(.mk:Sg 0x1202200232004321e82a10223e [a,b] h [D7 (Aq7 K)]).F
def V9:Ru K R:=
 pkA a b fun d=>
 some (d,h)
def Gi:R:=(.mk:Sg 0x1202200252002620e213e303d2a00323e [a,b] h [D7 (V9 K)]).F
def Tu:Ru K R:=(.mk:Sg 0x122243 [a] h).F
def Ft:Ru K R:=(.mk:Sg 0x12232211001 [a] h [cl0 (Bz (List.replicate 4 (.int .i64 0)++List.replicate 64 (.int .u8 0)) 32 68 0 []),D7 (Ef 32 68)]).F
def Dw:R:=(.mk:Sg 0x12100b023b023de701e [a] h [Dq (Ft K)]).F
def Nb:Ru K R:=(.mk:Sg 0x1002 [] h).F
def D1:R:=(.mk:Sg 0x10000ae0236023701e0ce023c023701e233 [a] h [cl0 (Nb K)]).F
def Zw:Ru K (Ru r (Ru c R)):=(.mk:Sg 0x1002 [] h).F
def Afp:R:=(.mk:Sg 0x10100ee0230ee0215e701e32201 [a,b] h [c 197,cl0 (Zw c r K)]).F
def Zh:Ru K (Ru r R):=(.mk:Sg 0x129200e547823601518e5 [a,b,d,e,f,g] h [c 260]).F
def Afx:R:=(.mk:Sg 0x1456a9761025200e4212e983426601418e54fce33fbe33bde9 [a,b,d,e] h [c 260,cl6 (Zh c r K)]).F
def Gq:Ru K R:=(.mk:Sg 0x1000e321642c213e203 [a] h).F
def Abm:Ru K R:=
 I6 d fun e=>
 k3 a b e h
def Abo:R:=
 fE 3 a h fun e=>
 Bo (Dg [(0,1),(1,1)]) [(.int .i64 0),(.int .i64 0)] [(0,b),(1,d)] fun f=>
 Am (builtin TT .delete #[147,179] [e,f] h) fun _ h=>
 Abm K k3 a b d h
def Ji(K:Nat):Nat->A3
 | 0=>fun _ _ _ _=>none
 | m+1=>fun a b d h=>
  fE 0 a h fun e=>
  Am (O4 K e h) fun f h=>
  cE Iy .lss 3 d f
  (Abo K (Ji K m) a b d h)
  (some (.tuple [],h))
def Yw:R:=
 Ji K K a b d h
def Aiv:Ru K (Ru r (Ru c R)):=(.mk:Sg 0x1002 [] h).F
def Ri:R:=(.mk:Sg 0x100005e023283209e [a,b] h [cl0 (Aiv c r K)]).F
def Aoq:R:=(.mk:Sg 0x12022202622000224e9221142116e86307e2d00220e232011e5740de404b265273b30c0ee339 [a,b] h [D7 (Er K),D7 (fun o d=>c 264 [o,.func 265 [] [d]]),D7 (Ri c r K)]).F
def P0:Ru K (Ru r (Ru c R)):=
 some (a,h)
def Ac5:R:=(.mk:Sg 0x131102110400315e701e679301578301002167fdec012166fcec012165fbec4fde33fce32fbe3 [a] h [c 266,Dq (P0 c r K)] [] [] [(.int .i64 (-1))]).F
def Of:Ru K R:=(.mk:Sg 0x10024021654c0021643c0021632cb021620c [a] h).F
def Gp:R:=(.mk:Sg 0x13110222212e2101 [a] h [Dq (D1 K),Dq (Of K)]).F
def Ue:Ru K (Ru r (Ru c R)):=
 some (a,h)
def Oo:Ru K (Ru r (Ru c R)):=
 I6 f fun g=>
 k5 a b d e g h
def Adf:R:=
 Am (Gk K a e h) fun i h=>
 Oo c r K k5 a b d f g h
def Adh:R:=
 Am (Rf c r b [e] h) fun i h=>
 Aq5 i fun j=>
 ifE j
 (I6 d fun n=>
 Oo c r K k5 a b n f g h)
 (Adf c r K k5 a b d e f g h)
def Ac7:R:=
 Am (Fx K a h) fun g h=>
 x2E g fun i j=>
 A9f j
 (Ue c r K d h)
 (Adh c r K k5 a b d i e f h)
def Kn(c:Ai)(r:Ai)(K:Nat):Nat->A5
 | 0=>fun _ _ _ _ _ _=>none
 | m+1=>fun a b d e f h=>
  cE Iy .lss 3 f e
  (Ac7 c r K (Kn c r K m) a b d e f h)
  (Ue c r K d h)
def Ako:R:=(.mk:Sg 0x100200435102101 [a,b] h [Dq (E3 K),cl5 (Kn c r K K)]).F
def Ak4:Ru K R:=(.mk:Sg 0x1222325e30de [a,b] h).F
def Nm:Ru K R:=(.mk:Sg 0x10025021634c3021623c [a] h).F
def Gb:R:=(.mk:Sg 0x13110222212e2101 [a] h [Dq (D1 K),Dq (Nm K)]).F
def Aae:Ru K R:=(.mk:Sg 0x122216d3f921007e32211001 [a] h [cl0 (Bz [.int .u8 0] 5 1 0 []),D7 (Ef 5 1)] [cu1 (fun d=>Bo (Dg [(0,1),(1,1)]) [.Al,.bool false] [(0,d)])]).F
def Abf:Ru K (Ru r R):=(.mk:Sg 0x12276230142116e203 [a,b,d,e] h [Jx (fun g d e=>c 306 [g,d,.func 307 [] [e]])]).F
def Ahg:R:=(.mk:Sg 0x1476541003e0232820fe43201510e9 [a,b,d,e] h [D7 (Gi K),Sx (Abf c r K)]).F
def Ad3:Ru K R:=(.mk:Sg 0x110e41104e2432e6232e5 [a,b] h).F
def Adq:Ru K R:=
 I6 e fun f=>
 k4 a b d f h
def Aec:R:=(.mk:Sg 0x1ba9840032162f1e817ea7132e19e245403e20de20ae5b75132e19e20de232b52132e19e0ee [a,b,d,e] h [Sx (Adq K k4)]).F
def Km(K:Nat):Nat->A4
 | 0=>fun _ _ _ _ _=>none
 | m+1=>fun a b d e h=>
  cE Iy .lss 3 e (.int .i64 64)
  (Aec K (Km K m) a b d e h)
  (Ad3 K a d h)
def O3:R:=(.mk:Sg 0x100234400010e05e410e9210e9 [a,b] h [Sx (Km K K)] [] [List.replicate 64 (.int .u8 0)]).F
def Es:Ru K R:=(.mk:Sg 0x1000e000e521633c9285409e [a,b,d,e] h).F
def Em:R:=(.mk:Sg 0x1204324002543400650bea4d [a,b,d,e,f] h [Sx (Es K)]).F
def Fz:R:=(.mk:Sg 0x120543250027654500c0225e23301e5a [a,b,d,e] h [cl5 (Em K)]).F
def Ha:R:=(.mk:Sg 0x120243400235440060424eb2dc0324e [a,b] h [Sx (Fz K)]).F
def O9:Ru K R:=(.mk:Sg 0x100010e71204e2732e6232e54232e15e203 [a,b,d] h).F
def I8:R:=(.mk:Sg 0x15433000be0010e61204e2632e6632e501e287609e [a,b,d,e,f,g] h [Jx (O9 K)]).F
def Hb:R:=(.mk:Sg 0x120245766002578a96002923e213e60303e2d00620e0ce0010e51204e2532e6332e501ec023701e433010e05e010e05e [a,b] h [cl6 (I8 K)] [] [List.replicate 64 (.int .u8 0)]).F
def Aqm:Ru K R:=(.mk:Sg 0x1002 [] h).F
def Ao8:R:=(.mk:Sg 0x100004e023283209e [a,b] h [cl0 (Aqm K)]).F
def Ra:R:=(.mk:Sg 0x12022002520000222e213e30300e2d213 [a] h [D7 (Ao8 K)]).F
def Xv:Ru K R:=(.mk:Sg 0x1222667e403e20de251f2e19e725403e51007e01467e603e269e9 [a,b,d] h [] [cu1 (fun b=>Sf .u8 b)] [] [(.int .u64 8)]).F
def Qd:Ru K R:=(.mk:Sg 0x1000e321640c42201203 [a,b] h [D7 (Ef 5 1)]).F
def Akb:Ru K R:=(.mk:Sg 0x1002200e23211303001 [a] h [cl0 (Bz [.int .u8 0] 5 1 0 []),D7 (Ef 5 1)]).F
def Oa:R:=(.mk:Sg 0x1310003e0b0200e628213 [a] h [Dq (Akb K)]).F
def Acw:Ru K R:=
 pkA a b fun d=>
 some (d,h)
def Nx:R:=(.mk:Sg 0x1202200232005321e82a3223e [a,b,d] h [D7 (Acw K)]).F
def Acp:Ru K R:=
 pkA a b fun d=>
 some (d,h)
def Yf:R:=(.mk:Sg 0x12022002320090321e92a10223e [a] h [D7 (Acp K)]).F
def Acd:Ru K R:=(.mk:Sg 0x152321660c622107e403422007e203 [a,b] h [] [cu2 (fun d b=>Aex 1 d none (some b) (some b)),cu2 (fun f b=>Aex 1 f (some b) none none)]).F
def Abv:R:=(.mk:Sg 0x143200b025021641cb021630c05e285409e [a,b,d,e] h [D7 (Acd K)]).F
def Abk:R:=(.mk:Sg 0x12024340025764002622e213e30301e2d5409e [a,b,d,e] h [Sx (Abv K)]).F
def Jz:R:=(.mk:Sg 0x120243400235440000420eb2d213 [a,b] h [Sx (Abk K)]).F
def N0:Ru K R:=(.mk:Sg 0x10023232e627fff4f01e17e8632e15e28201fe04fd7232e52fc03fcb5232e15e31c03f9011e273011e0ee [a,b,d] h [D7 (fun d i=>Rf c r d [i])]).F
def Ff:R:=(.mk:Sg 0x15433000be023286509e [a,b,d,e,f] h [Jx (N0 c r K)]).F
def Jk:R:=(.mk:Sg 0x1202543500258765002623e213e30302e2d00320e [a,b,d] h [cl5 (Ff c r K)]).F
def Adm:R:=(.mk:Sg 0x110e51104e2532e623201632e5332e5010e05e210e9 [a,b] h [D7 (O3 K)] [] [List.replicate 64 (.int .u8 0)]).F
def Aco:Ru K R:=
 pkA a b fun d=>
 some (d,h)
def Pg:R:=(.mk:Sg 0x1202200232005321e82a3223e [a,b,d] h [D7 (Aco K)]).F
def Zr:Ru K R:=(.mk:Sg 0x1402 [] h).F
def Qy:Ru K R:=
 pkA a b fun d=>
 some (d,h)
def Ma:Ru K R:=
 pkA a b fun d=>
 some (d,h)
def Q5:R:=(.mk:Sg 0x1202200262002347e702e0007e212e53614e05e2a430be [a,b,d] h [D7 (Ma K)] [cu0 (Bo (Mg 1) (List.replicate 32 (.int .u8 0)) [])]).F
def Qw:Ru K R:=
 pkA a b fun d=>
 some (d,h)
def Pr:R:=(.mk:Sg 0x10402022302423000224e544c2a10224e3240ee6023701e202532026932021043012011ee63454409e2a10224e3241ae3023701e2022102421000224e544c2ac010230132412e1023701e2042bde9 [a] h [Jx (Pg K),D7 (Qy K),Jx (Q5 K),D7 (Qw K),cl0 (Zr K)] [] [] [(.int .i64 256)]).F
def Apw:Ru K R:=
 some (a,h)
def Yh:R:=(.mk:Sg 0x13100d023284309e [a,b,d] h [Dq (Apw K)]).F
def Yr:R:=(.mk:Sg 0x1202430023530090422ea2d00220e [a,b] h [Jx (Yh K)]).F
def Ap5:Ru K R:=(.mk:Sg 0x12320040ae0123603e [a,b] h [D7 k2] [] [] [(.int .u64 8)]).F
def Lk(K:Nat):Nat->A2
 | 0=>fun _ _ _=>none
 | m+1=>fun a b h=>
  Agi (bin TT .shr 3) a (.int .u64 8) fun d=>
  cE Baf .gtr 3 d (.int .i64 0)
  (Ap5 K (Lk K m) a b h)
  (Yr K a b h)
def Ww:R:=
 Lk K K a (.int .i64 1) h
def Aki:R:=(.mk:Sg 0x1e7e91104e291ee671ee54221151007e20ce41010e7e05e0e7e05e [a] h [Dq (Oa K),builtin TT .copy #[184,184]] [cu1 (fun d=>Nv 44 1 d none none none)] [List.replicate 44 (.int .u8 0)]).F
def Aab(c:Ai)(r:Ai)(K:Nat)(tm:Bb)(a:EV)(h:Ab)(ds:List Nat):R:=
 stE 1 a (.bool false) h fun h=>
 Fi ds h fun h=>Ii TT [.c a 4] h
def As3:R:=
 (fun(tm:Bb) (ds:List Nat)=>
 P9 3 b h fun d h=>
 Ax0 (.cells [(.bool false)] 4) h fun e h=>
 Am (Ajk K a h) fun f h=>
 Uv c TT 18 14 0 f ((((tm.put 3 (some d)).put 4 (some e)).put 7 (some a)).put 8 (some f)) h ds (fun h ds=>
 Aab c r K ((((tm.put 3 (some d)).put 4 (some e)).put 7 (some a)).put 8 (some f)) e h ds) (fun id h ds=>
 Ax (Nat.beq 0 id) (Aab c r K ((((tm.put 3 (some d)).put 4 (some e)).put 7 (some a)).put 8 (some f)) e h ds) (none)) (fun h ds=>
 Fi ds h fun h=>Ii TT [.c e 4] h)) ((Tr.nil.put 0 (some a)).put 1 (some b)) []
def Abq:Ru K (Ru r (Ru c R)):=(.mk:Sg 0x1010000504168253701e20de [a,b,d] h [cl0 (V6 l false .done (some .ret)),cl0 (V6 l true .ready none)]).F
def Alb:R:=
 Et l h fun h=>Abq c r K l a b d h
def Yk(c:Ai)(r:Ai)(K:Nat)(tm:Bb)(a:EV)(h:Ab)(ds:List Nat):R:=
 stE 1 a (.bool false) h fun h=>
 Fi ds h fun h=>Ii TT [.c a 4] h
def Aqy:R:=
 (fun(tm:Bb) (ds:List Nat)=>
 P9 3 b h fun d h=>
 Ax0 (.cells [(.bool false)] 4) h fun e h=>
 Am (Ag0 K a h) fun f h=>
 Uv c TT 20 12 0 f ((((tm.put 3 (some d)).put 4 (some e)).put 6 (some a)).put 7 (some f)) h ds (fun h ds=>
 Yk c r K ((((tm.put 3 (some d)).put 4 (some e)).put 6 (some a)).put 7 (some f)) e h ds) (fun id h ds=>
 Ax (Nat.beq 0 id) (Yk c r K ((((tm.put 3 (some d)).put 4 (some e)).put 6 (some a)).put 7 (some f)) e h ds) (none)) (fun h ds=>
 Fi ds h fun h=>Ii TT [.c e 4] h)) ((Tr.nil.put 0 (some a)).put 1 (some b)) []
def Z1:Ru K (Ru r (Ru c R)):=(.mk:Sg 0x1010000504168253701e20de [a,b,d] h [cl0 (V6 l false .done (some .ret)),cl0 (V6 l true .ready none)]).F
def Ai3:R:=
 Et l h fun h=>Z1 c r K l a b d h
def E9:Ru K (Ru r (Ru c R)):=
 pkA a b fun d=>
 some (d,h)
def F9:R:=(.mk:Sg 0x12022202622020fe62211210130305e2a540be [a,b,d,e] h [Dq (Cm K),c 18,D7 (E9 c r K)]).F
def H9:R:=(.mk:Sg 0x120243410257641020fe5220131303e2a540be [a,b,d,e] h [c 20,Sx (F9 c r K)]).F
def Ox:R:=(.mk:Sg 0x120243410257641020fe5220130303e2a540be [a,b,d,e] h [D7 (Dy K),Sx (H9 c r K)]).F
def Um:R:=(.mk:Sg 0x12024340023544005425ea2a650be [a,b,d,e,f] h [Sx (Ox c r K)]).F
def Akw:R:=(.mk:Sg 0x12027cb530238dc5308c25eb2a00223ea22212111703421ae20ce2101203 [a,b] h [Dq (Ll K),Dq (Cd K),D7 (Er K),cl5 (Um c r K)]).F
def Uy(c:Ai)(r:Ai)(K:Nat)(tm:Bb)(a:EV)(h:Ab)(ds:List Nat):R:=
 Fy a h fun b=>
 uwE b h ds
def Akr:R:=
 (fun(tm:Bb) (ds:List Nat)=>
 P9 26 a h fun d h=>
 nsE 1 [(.int .i64 0)] 3 (.int .i64 (-1)) h fun e h=>
 Fy d h fun f=>
 Ars f fun g=>
 Ag8 0 g fun i=>
 Fy i h fun j=>
 Am (Cd K j h) fun n h=>
 Am (Amm K n b h) fun o h=>
 Uv c TT 27 39 0 o ((((((((((tm.put 2 (some d)).put 4 (some (.int .i64 0))).put 5 (some e)).put 7 (some f)).put 8 (some g)).put 9 (some i)).put 10 (some j)).put 11 (some n)).put 12 (some b)).put 13 (some o)) h ds (fun h ds=>
 Uy c r K ((((((((((tm.put 2 (some d)).put 4 (some (.int .i64 0))).put 5 (some e)).put 7 (some f)).put 8 (some g)).put 9 (some i)).put 10 (some j)).put 11 (some n)).put 12 (some b)).put 13 (some o)) e h ds) (fun id h ds=>
 Ax (Nat.beq 0 id) (Uy c r K ((((((((((tm.put 2 (some d)).put 4 (some (.int .i64 0))).put 5 (some e)).put 7 (some f)).put 8 (some g)).put 9 (some i)).put 10 (some j)).put 11 (some n)).put 12 (some b)).put 13 (some o)) e h ds) (none)) (fun h ds=>
 Fi ds h fun h=>some ((.int .i64 0),h))) ((Tr.nil.put 0 (some a)).put 1 (some b)) []
def Eh(c:Ai)(r:Ai)(K:Nat)(l:Nat)(base:Nat)(s:DX)(a:EV)(b:EV)(d:EV)(e:EV)(h:Ab):R:=
 pkA d e fun f=>
 ifE f
 (stE 1 a b h fun h=>
 V6 l true .ready none h)
 (V6 l true .ready none h)
def Iu:R:=
 wtE d
 (pkO e f fun g=>
 Eh c r K l base s a b d g h)
 (Eh c r K l base s a b d tU h)
def Io:R:=
 wfE f
 (Le 7 127 base a s fun s=>Fy a h fun g=>
 Aod 2 10 1023 base g s h fun s i=>
 Js 12 4095 s h (fun h=>(Ld K i d h)) fun j h s=>
 Le 13 127 base a s fun s=>Fy a h fun n=>
 Aod 2 16 57471 base n s h fun s o=>
 Le 17 127 base b s fun s=>Fy b h fun p=>
 Js 18 262143 s h (fun h=>(Ld K o p h)) fun q h s=>
 Avz j q fun t=>
 Iu c r K l base s b d e f t h)
 (Iu c r K l base s b d e f tU h)
def Wu:R:=
 Wm h fun base s=>
 Le 0 0 base a s fun s=>Fy a h fun e=>
 Js 2 3 s h (fun h=>(c 21 [e,d] h)) fun f h s=>
 wtE f
 (Le 4 15 base b s fun s=>Fy b h fun g=>
 A62 g (.int .i64 (-1)) fun i=>
 Io c r K l base s a b d f i h)
 (Io c r K l base s a b d f tU h)
def Adb:R:=
 Et l h fun h=>Wu c r K l a b d h
end
variable{K d:Nat}(H:Bw disp)
include H
theorem Tg(hd:1<=d):R1 disp K d 204 (Fx K):=fun _=>rl H hd
theorem Azu(hd:1<=d):R2 disp K d 209 (Tb K):=fun _ _=>rl H hd
theorem Kt(hd:1<=d):R2 disp K d 217 (Gi K):=fun _ _=>rl H hd
theorem Aps(hd:1<=d):R1 disp K d 222 (Tu K):=fun _=>rl H hd
theorem Sc(hd:1<=d):R1 disp K d 223 (Dw K):=fun _=>rl H hd
theorem Hd(hd:1<=d):R1 disp K d 225 (D1 K):=fun _=>rl H hd
theorem Amg(hd:0<=d):S2 disp K d 228 Afp:=fun _ _=>rd rfl rfl H rfl
theorem Alz(hd:0<=d):S4 disp K d 233 Afx:=fun _ _ _ _=>rd rfl rfl H rfl
theorem Xt(hd:1<=d):R1 disp K d 234 (Gq K):=fun _=>rl H hd
theorem Ant(hd:2<=d):R3 disp K d 238 (Yw K):=fun _ _ _=>ll H hd (fun d hd=>V1 (Abw H) hd<|rfl) 5 (e3 (Ji K) 0 1 6)
theorem Atp(hd:2<=d):S2 disp K d 239 Aoq:=fun _ _=>rd rfl rfl H (V2 (Fu H) hd<|rfl)
theorem Ale(hd:0<=d):S1 disp K d 240 Ac5:=fun _=>rd rfl rfl H rfl
theorem Yp(hd:2<=d):R1 disp K d 263 (Gp K):=fun _=>rl H hd fun d hd=>V1 (Hd H) hd<|rfl
theorem Aqd(hd:1<=d):S2 disp K d 264 Ako:=fun _ _=>ld rfl rfl H (V1 (Kg H) hd<|V2 (Uw H) hd<|V1 (Tg H) hd<|rfl) 51 (fun c r=>e5 (Kn c r K) 0 1 5 9 10)
theorem Aq1(hd:1<=d):R2 disp K d 265 (Ak4 K):=fun _ _=>rl H hd
theorem W8(hd:2<=d):R1 disp K d 279 (Gb K):=fun _=>rl H hd fun d hd=>V1 (Hd H) hd<|rfl
theorem Aa3(hd:1<=d):R1 disp K d 280 (Aae K):=fun _=>rl H hd
theorem Aoc(hd:1<=d):S4 disp K d 283 Ahg:=fun _ _ _ _=>rd rfl rfl H (V2 (Kt H) hd<|rfl)
theorem Abj(hd:1<=d):R2 disp K d 284 (O3 K):=fun _ _=>ll H hd (fun _ _=>rfl) 25 (e4 (Km K) 2 3 4 6)
theorem Za(hd:1<=d):R2 disp K d 285 (Ha K):=fun _ _=>rl H hd
theorem Zb(hd:1<=d):R2 disp K d 286 (Hb K):=fun _ _=>rl H hd
theorem Anu(hd:1<=d):R1 disp K d 288 (Ra K):=fun _=>rl H hd
theorem Aui(hd:1<=d):R3 disp K d 289 (Xv K):=fun _ _ _=>rl H hd
theorem Adg(hd:1<=d):R2 disp K d 292 (Qd K):=fun _ _=>rl H hd
theorem Yv(hd:1<=d):R1 disp K d 293 (Oa K):=fun _=>rl H hd
theorem Axw(hd:1<=d):R3 disp K d 294 (Nx K):=fun _ _ _=>rl H hd
theorem Akf(hd:1<=d):R1 disp K d 304 (Yf K):=fun _=>rl H hd
theorem Zf(hd:1<=d):R2 disp K d 305 (Jz K):=fun _ _=>rl H hd
theorem W7(hd:0<=d):S3 disp K d 306 Jk:=fun _ _ _=>rd rfl rfl H rfl
theorem Akz(hd:2<=d):R2 disp K d 307 (Adm K):=fun _ _=>rl H hd fun d hd=>V2 (Abj H) hd<|rfl
theorem Ak2(hd:1<=d):R3 disp K d 308 (Pg K):=fun _ _ _=>rl H hd
theorem Amr(hd:2<=d):R1 disp K d 309 (Pr K):=fun _=>rl H hd fun d hd=>V3 (Ak2 H) hd<|rfl
theorem Azt(hd:1<=d):R1 disp K d 310 (Ww K):=fun _=>ll H hd (fun _ _=>rfl) 27 (e2 (Lk K) 0 3)
theorem As6(hd:2<=d):R1 disp K d 316 (Aki K):=fun _=>rl H hd fun d hd=>V1 (Yv H) hd<|rfl
theorem Avt(hd:1<=d):S2 disp K d 18 As3:=fun _ _=>rd rfl rfl H (V1 (Aw6 H) hd<|rfl)
theorem Aq6(hd:1<=d){l:Nat}(tm:Bb)(h:Ab)(m:EV)(k:EV){st:LoopState}{p:Option Code}(v:h.get l=some (.loop st p 18 14 tm [9,10] (Ek TT 18 0).2.2.1 (Ek TT 18 0).2.2.2 d0)):
 Ag TT disp K (d+1) true l [m,k] h=Alb (Ag TT disp K d false) (Ag TT disp K d true) K l (tmp tm 3) (tmp tm 4) k h:=rr rfl rfl (rfl) v rfl (by kernel_rfl)
theorem Aup(hd:1<=d):S2 disp K d 20 Aqy:=fun _ _=>rd rfl rfl H (V1 (Aum H) hd<|rfl)
theorem Aoe(hd:1<=d){l:Nat}(tm:Bb)(h:Ab)(k:EV){st:LoopState}{p:Option Code}(m:h.get l=some (.loop st p 20 12 tm [8] (Ek TT 20 0).2.2.1 (Ek TT 20 0).2.2.2 d0)):
 Ag TT disp K (d+1) true l [k] h=Ai3 (Ag TT disp K d false) (Ag TT disp K d true) K l (tmp tm 3) (tmp tm 4) k h:=rr rfl rfl (rfl) m rfl (by kernel_rfl)
theorem Ao9(hd:3<=d):S2 disp K d 21 Akw:=fun _ _=>rd rfl rfl H (V1 (Aly H) hd<|V1 (Cw H) hd<|V2 (Fu H) hd<|V1 (Hl H) hd<|V2 (Ei H) hd<|rfl)
theorem Atz(hd:1<=d):∀a b h,F27 (Ag TT disp K d false) (Ag TT disp K d true) K [a,b] h=Akr (Ag TT disp K d false) (Ag TT disp K d true) K a b h:=fun _ _=>rf rfl rfl rfl (B:=cH _ _ _ _ K 27 .no) (V1 (Cw H) hd<|V2 (Axr H) hd<|rfl) rfl
theorem Ak0(hd:1<=d){l:Nat}(tm:Bb)(h:Ab)(k:EV){st:LoopState}{p:Option Code}(m:h.get l=some (.loop st p 27 39 tm [14] (Ek TT 27 0).2.2.1 (Ek TT 27 0).2.2.2 d0)):
 Ag TT disp K (d+1) true l [k] h=Adb (Ag TT disp K d false) (Ag TT disp K d true) K l (tmp tm 2) (tmp tm 5) k h:=rr rfl rfl (V2 (Xb H) hd<|rfl) m rfl (by kernel_rfl)
end
end
noncomputable section
section
variable (c r:Ai)(K l:Nat)(k0:A0)(k1:A1)(k2:A2)(k3:A3)(k4:A4)(k5:A5)(k6:A6)(k7:A7)(k8:A8)(k9:A9)(k10:A10)(k11:A11)(k12:A12)(m0:B0)(m1:B1)(m2:B2)(m3:B3)(m4:B4)(m5:B5)(m6:B6)(m7:B7)(m8:B8)(m9:B9)(m10:B10)(m11:B11)(m12:B12)(base:Nat)(s:DX)(tm:Bb)(a b d e f g i j n o p q t u w x y z aa ab ad ae af ag ai aj an ao ap aq au aw ax ay az ba bb bd be bf bg bi bj bn bo bp bq bt bu bw bx bz da db dd de df dg di dj dn dp dq dt du dw dx dy dz ea eb ed ee ef eg ei ej en eo ep eq et eu ew ex ey ez fa fb fd fe ff fg fi fj fn fo fp fq ft fu fw fx fy fz ga gb gd ge gf gg gi gj gn go gp gq gt gu gw gx gy gz ia ib ie ig ii ij io ip iq it iu iw ix iy iz ja jb:EV)(h:Ab)(ds:List Nat)
def Ad6:Ru K (Ru r (Ru c R)):=
 some (a,h)
def Ot:Ru K (Ru r (Ru c R)):=
 I6 e fun f=>
 k4 a b d f h
def Ux:R:=(.mk:Sg 0x1764340076534007288709e [a,b,d,e,f,g,i] h [Sx (Ot c r K k4)]).F
def Aer:R:=(.mk:Sg 0x12028754371025ba8767102820e5220132307e2d01324e [a,b,d,e,f,g] h [D7 (Ld K),cl7 (Ux c r K k4)] [] [] [(.int .i64 (-1))]).F
def Kv:R:=
 pkO i j fun n=>
 ifE n
 (Ot c r K k4 a b f g h)
 (Aer c r K k4 a b d e f g h)
def Oi:R:=(.mk:Sg 0x120287654381024a9876581020fe5320104e2d9809e [a,b,d,e,f,g,i,j] h [c 84,cl8 (Kv c r K k4)]).F
def Adl:R:=(.mk:Sg 0x12029849768302700ed900ecb8302522e21007e21217034301fe0fe2d20fe7421162201223 [a,b,d,e] h [D7 (Ld K),c 21,Dq (Cd K),cl8 (Oi c r K k4)] [cu1 (fun p=>Vu 2 false 0 p)]).F
def H6(c:Ai)(r:Ai)(K:Nat):Nat->A4
 | 0=>fun _ _ _ _ _=>none
 | m+1=>fun a b d e h=>
  cE Iy .lss 3 e d
  (Adl c r K (H6 c r K m) a b d e h)
  (Ad6 c r K b h)
def Alh:R:=
 fE 0 a h fun b=>
 Am (Cd K b h) fun d h=>
 Am (Dp K d h) fun e h=>
 H6 c r K K a (.int .i64 (-1)) e (.int .i64 0) h
def Ahm:Ru K R:=(.mk:Sg 0x10024226522319e31c542007e [a,b,d,e] h [] [cu2 (fun d e=>Bo (Dg [(0,1),(1,1)]) [.int .i64 0,.int .i64 0] [(0,d),(1,e)])]).F
def Ahy:R:=(.mk:Sg 0x1654340003e023287609e [a,b,d,e,f,g] h [Sx (Ahm K)]).F
def Ajd:R:=(.mk:Sg 0x12065432600276543600870bec6d [a,b,d,e,f,g,i] h [cl6 (Ahy K)]).F
def Ajc:R:=(.mk:Sg 0x120765432700287654370001425e00e7a [a,b,d,e,f,g] h [cl7 (Ajd K)] [] [] [(.int .i64 (-1))]).F
def Air:R:=(.mk:Sg 0x120265436002376546006524ec2d7609e [a,b,d,e,f,g] h [cl6 (Ajc K)]).F
def Ai4:R:=(.mk:Sg 0x1202654361024876561020fe64330103e2d7609e [a,b,d,e,f,g] h [Jx (Qc K),cl6 (Air K)]).F
def Sk:R:=(.mk:Sg 0x1202765462024987662020fe65431103e2d20fe3101 [a,b,d,e] h [Dq (Apf K),Jx (Qc K),cl6 (Ai4 K)]).F
def Aho:Ru r (Ru c R):=(.mk:Sg 0x1225220152116e263 [a,b,d] h [D7 (Gk K)]).F
def Apl:R:=(.mk:Sg 0x137632006e023286521103e0230023301e5220126520c [a,b] h [D7 (Er K),c 18,Jx (Aho c r K)]).F
def Wl:Ru K (Ru r (Ru c R)):=(.mk:Sg 0x1002 [] h).F
def Jt:Ru K (Ru r (Ru c R)):=
 I6 d fun e=>
 k3 a b e h
def We:R:=(.mk:Sg 0x1653310222212e32201 [a,b,d,e] h [c 143,Jx (Jt c r K k3)]).F
def Wj:R:=(.mk:Sg 0x1656442065431062820fe42201 [a,b,d] h [c 142,Jx (Jt c r K k3),Sx (We c r K k3)]).F
def Fj(c:Ai)(r:Ai)(K:Nat):Nat->A3
 | 0=>fun _ _ _ _=>none
 | m+1=>fun a b d h=>
  cE Iy .lss 3 d b
  (Wj c r K (Fj c r K m) a b d h)
  (Wl c r K h)
def Wg:R:=(.mk:Sg 0x1002532021112101203 [a] h [Dq (Cd K),Dq (Dp K),Jx (Fj c r K K)]).F
def Wy:R:=(.mk:Sg 0x105e110222212e20ce2a20ffffff6f0ae723574007e00e3800006f08e211e23c0005f04e210ec3c21e004fd110ea3c2e2e8010e83c773111e0ee42162014e53c20ae20423c [a] h [c 141,Dq (Wg c r K)] [cu4 (fun n p t u=>Bo (Dg [(0,1),(1,1),(2,1),(3,1)]) [.int .i64 0,.int .i64 0,.int .i64 0,.Bu] [(0,n),(1,p),(2,t),(3,u)])]).F
def Sn:R:=(.mk:Sg 0x15120222212e21112101203 [a] h [Dq (Bj K),c 140,Dq (Wy c r K)]).F
def X5:Ru K (Ru r (Ru c R)):=(.mk:Sg 0x1002 [] h).F
def Rh:R:=(.mk:Sg 0x10000fe02328320be [a,b] h [cl0 (X5 c r K)]).F
def Rk:R:=(.mk:Sg 0x12022202322000722e92a00224e21112101203 [a,b] h [Dq (Cm K),Dq (Ig K),D7 (Rh c r K)]).F
def Ahd:Ru K (Ru r (Ru c R)):=
 I6 e fun f=>
 k4 a b d f h
def Rn:R:=
 pkO f g fun i=>
 ifE i
 (Rk c r K a b h)
 (Ahd c r K k4 a b d e h)
def Aja:R:=(.mk:Sg 0x1202874360023985460000615e802e01e2d40fe [a,b,d,e,f,g] h [cl6 (Rn c r K k4)]).F
def Ahc:R:=(.mk:Sg 0x18723656102220ee0215e701e20ce2101 [a,b,d,e] h [c 145,cl6 (Aja c r K k4)]).F
def Ain:R:=(.mk:Sg 0x187654200023623601e21112101203 [a,b,d,e] h [Dq (Cm K),Dq (Ig K),Sx (Ahc c r K k4)]).F
def Mu(c:Ai)(r:Ai)(K:Nat):Nat->A4
 | 0=>fun _ _ _ _ _=>none
 | m+1=>fun a b d e h=>
  cE Iy .lss 3 e d
  (Ain c r K (Mu c r K m) a b d e h)
  (Rk c r K a b h)
def Agj:R:=(.mk:Sg 0x1002764202301fe21112101203 [a,b] h [Dq (Cd K),Dq (Dp K),Sx (Mu c r K K)]).F
def Pj:R:=(.mk:Sg 0x14320003e023285409e [a,b,d,e] h [D7 (Agj c r K)]).F
def Ap9:R:=(.mk:Sg 0x12024342026874202722e2111210130307e2d00320e [a,b] h [Dq (Cd K),Dq (Dp K),Sx (Pj c r K)]).F
def Yl:R:=(.mk:Sg 0x1222101263 [a] h [Dq (E5 K)]).F
def Aie:Ru K (Ru r (Ru c R)):=
 I6 f fun g=>
 k5 a b d e g h
def Ai6:R:=(.mk:Sg 0x1cba98510000e22820fe26201921de231fe51430de [a,b,d,e,f] h [D7 (fun a n=>Rf c r a [n]),cl5 (Aie c r K k5)]).F
def Nj(c:Ai)(r:Ai)(K:Nat):Nat->A5
 | 0=>fun _ _ _ _ _ _=>none
 | m+1=>fun a b d e f h=>
  cE Iy .lss 3 f e
  (Ai6 c r K (Nj c r K m) a b d e f h)
  (some (.tuple [],h))
def Aic:R:=
 oE 1 d h fun e=>
 Nj c r K K a b d e (.int .i64 0) h
def Aq3:R:=(.mk:Sg 0x1987310000e22820fe20043011021ee50430de [a,b,d] h [Jx (Jq K),Jx (Aic c r K)]).F
def Vq(c:Ai)(r:Ai)(K:Nat)(tm:Bb)(a:EV)(h:Ab)(ds:List Nat):R:=
 stE 1 a (.bool true) h fun h=>
 Fi ds h fun h=>Ii TT [.c a 4] h
def Am2:R:=
 (fun(tm:Bb) (ds:List Nat)=>
 P9 26 a h fun d h=>
 Ax0 (.cells [(.bool false)] 4) h fun e h=>
 Fy d h fun f=>
 Ars f fun g=>
 Ag8 2 g fun i=>
 Fy i h fun j=>
 Am (Ab2 K j b h) fun n h=>
 Uv c TT 84 40 0 n ((((((((tm.put 2 (some d)).put 4 (some e)).put 8 (some f)).put 9 (some g)).put 10 (some i)).put 11 (some j)).put 12 (some b)).put 13 (some n)) h ds (fun h ds=>
 Vq c r K ((((((((tm.put 2 (some d)).put 4 (some e)).put 8 (some f)).put 9 (some g)).put 10 (some i)).put 11 (some j)).put 12 (some b)).put 13 (some n)) e h ds) (fun id h ds=>
 Ax (Nat.beq 0 id) (Vq c r K ((((((((tm.put 2 (some d)).put 4 (some e)).put 8 (some f)).put 9 (some g)).put 10 (some i)).put 11 (some j)).put 12 (some b)).put 13 (some n)) e h ds) (none)) (fun h ds=>
 Fi ds h fun h=>Ii TT [.c e 4] h)) ((Tr.nil.put 0 (some a)).put 1 (some b)) []
def Dl(c:Ai)(r:Ai)(K:Nat)(l:Nat)(base:Nat)(s:DX)(a:EV)(b:EV)(d:EV)(h:Ab):R:=
 pkO b d fun e=>
 ifE e
 (stE 1 a (.bool false) h fun h=>
 V6 l false .done (some .ret) h)
 (V6 l true .ready none h)
def Yq:R:=
 Fy a h fun e=>
 fE 2 e h fun f=>
 Am (Hr K f d h) fun g h=>
 x2E g fun i j=>
 nsE 6 [(.int .i64 0),(.int .i64 0),(.int .i64 0),(.int .i64 0),(.int .i64 0),(.int .i64 0)] 53 i h fun n h=>
 Wm h fun base s=>
 Le 0 0 base a s fun s=>Fy a h fun o=>
 Aod 0 3 7 base o s h fun s p=>
 olE 1 5 16 base n s h fun s q=>
 Js 6 63 s h (fun h=>(Dy K p q h)) fun t h s=>
 wfE t
 (Le 8 255 base a s fun s=>Fy a h fun u=>
 Aod 0 11 2047 base u s h fun s w=>
 olE 2 13 4351 base n s h fun s x=>
 Js 14 16383 s h (fun h=>(Dy K w x h)) fun y h s=>
 Dl c r K l base s b t y h)
 (Dl c r K l base s b t tU h)
def Ag4:R:=
 Et l h fun h=>Yq c r K l a b d h
def Ut:Ru K (Ru r R):=(.mk:Sg 0x1000e000e3101628430be [a,b,d] h [c 172]).F
def Akj:R:=(.mk:Sg 0x120233102563102620e210130302e2a00323e [a,b] h [Dq (No K),Jx (Ut c r K)]).F
def Yt:Ru K R:=
 pkA a b fun d=>
 some (d,h)
def Ahq:R:=(.mk:Sg 0x120220024200c0221e413eb2a10223e213e [a] h [D7 (Yt K)]).F
def Aik:Ru K R:=
 I6 f fun g=>
 k5 a b d e g h
def Aii:R:=(.mk:Sg 0x1cba9851040232820fe26201204262e013e06e213e56413e15e [a,b,d,e,f] h [D7 (U3 K),cl5 (Aik K k5)] [] [[.int .i64 0]++List.replicate 32 (.int .u8 0)]).F
def N2(K:Nat):Nat->A5
 | 0=>fun _ _ _ _ _ _=>none
 | m+1=>fun a b d e f h=>
  cE Iy .lss 3 f e
  (Aii K (N2 K m) a b d e f h)
  (Ahq K b h)
def X4:R:=
 Hc b fun d=>
 N2 K K a b b d (.int .i64 0) h
def Ajf:Ru r R:=(.mk:Sg 0x1222522121112101203 [a] h [Dq (Cd K),Dq (Nh K),c 75]).F
def Ph:Ru K (Ru r (Ru c R)):=
 I6 d fun e=>
 m3 ((tm.put 26 (some e)).put 12 (some e)) a b e h ds
def Afe:R:=
 Aal 1 a d fun e=>
 Fy e h fun f=>
 nsE 1 [(.int .i64 0)] 3 d h fun g h=>
 Am (Acr K f h) fun i h=>
 Uv c TT 146 27 0 i (((((((tm.put 14 (some d)).put 15 (some e)).put 16 (some f)).put 3 (some g)).put 4 (some f)).put 17 (some f)).put 18 (some i)) h ds (fun h ds=>
 Ph c r K m3 (((((((tm.put 14 (some d)).put 15 (some e)).put 16 (some f)).put 3 (some g)).put 4 (some f)).put 17 (some f)).put 18 (some i)) a b d h ds) (fun id h ds=>
 Ax (Nat.beq 2 id) (Ph c r K m3 (((((((tm.put 14 (some d)).put 15 (some e)).put 16 (some f)).put 3 (some g)).put 4 (some f)).put 17 (some f)).put 18 (some i)) a b d h ds) (Ax (Nat.beq 1 id) (Ph c r K m3 (((((((tm.put 14 (some d)).put 15 (some e)).put 16 (some f)).put 3 (some g)).put 4 (some f)).put 17 (some f)).put 18 (some i)) a b d h ds) (Ax (Nat.beq 0 id) (Fi ds h fun h=>some (.tuple [],h)) (none)))) (fun h ds=>
 uwE tU h ds)
def Lx(c:Ai)(r:Ai)(K:Nat):Nat->B3
 | 0=>fun _ _ _ _ _ _=>none
 | m+1=>fun tm a b d h ds=>
  Avz d b fun e=>
  ifE e
  (Afe c r K (Lx c r K m) (tm.put 13 (some e)) a b d h ds)
  (uwE tU h ds)
def Am8:R:=
 (fun(tm:Bb) (ds:List Nat)=>
 P9 213 a h fun d h=>
 Fy b h fun e=>
 Ars e fun f=>
 Ag8 6 f fun g=>
 Fy g h fun i=>
 Hc i fun j=>
 Lx c r K K (((((((tm.put 2 (some d)).put 7 (some e)).put 8 (some f)).put 9 (some g)).put 10 (some i)).put 11 (some j)).put 12 (some (.int .i64 0))) i j (.int .i64 0) h ds) ((Tr.nil.put 0 (some a)).put 1 (some b)) []
def Xk:Ru K R:=(.mk:Sg 0x102001032820fe62330140de20de [a,b,d] h [Jx (fun e f d=>Rf c r e [f,d]),cl0 (V6 l false .done (some .ret)),cl0 (V6 l true .ready none)]).F
def Afw:R:=
 Et l h fun h=>Xk c r K l a b d h
def Ais:R:=(.mk:Sg 0x123200e20ce210142116e263 [a,b] h [Dq (Fx K)]).F
def Xl:R:=(.mk:Sg 0x14320003e000200e6285409e [a,b,d,e] h [D7 (Ais K)]).F
def O1:R:=(.mk:Sg 0x12024340025764002623e213e36301e2d00320e [a,b] h [Sx (Xl K)]).F
def Wc(c:Ai)(r:Ai)(K:Nat)(tm:Bb)(a:EV)(h:Ab)(ds:List Nat):R:=
 stE 1 a (.bool true) h fun h=>
 Fi ds h fun h=>Ii TT [.c a 4] h
def Vw:R:=
 Ag8 3 a fun d=>
 Fy d h fun e=>
 Am (Yl K e h) fun f h=>
 Uv c TT 159 36 0 f (((tm.put 26 (some d)).put 27 (some e)).put 28 (some f)) h ds (fun h ds=>
 Wc c r K (((tm.put 26 (some d)).put 27 (some e)).put 28 (some f)) b h ds) (fun id h ds=>
 Ax (Nat.beq 0 id) (Wc c r K (((tm.put 26 (some d)).put 27 (some e)).put 28 (some f)) b h ds) (none)) (fun h ds=>
 Fi ds h fun h=>Ii TT [.c b 4] h)
def I9:R:=
 pkO d e fun f=>
 ifE f
 (stE 1 b (.bool false) h fun h=>
 Fi ds h fun h=>Ii TT [.c b 4] h)
 (Vw c r K (tm.put 25 (some f)) a b h ds)
def Lw:R:=
 pkO d e fun f=>
 wfE f
 (Ag8 2 a fun g=>
 Fy g h fun i=>
 Am (Tb K i (.int .i64 281474976710655) h) fun j h=>
 Aq5 j fun n=>
 I9 c r K ((((((tm.put 19 (some f)).put 20 (some f)).put 21 (some g)).put 22 (some i)).put 23 (some j)).put 24 (some n)) a b f n h ds)
 (I9 c r K ((((((tm.put 19 (some f)).put 20 (some f)).put 21 (some tU)).put 22 (some tU)).put 23 (some tU)).put 24 (some tU)) a b f tU h ds)
def P6:R:=
 pkO d e fun f=>
 wfE f
 (Ag8 1 a fun g=>
 Fy g h fun i=>
 Am (Tb K i (.int .i64 4294967295) h) fun j h=>
 Aq5 j fun n=>
 Lw c r K ((((((tm.put 13 (some f)).put 14 (some f)).put 15 (some g)).put 16 (some i)).put 17 (some j)).put 18 (some n)) a b f n h ds)
 (Lw c r K ((((((tm.put 13 (some f)).put 14 (some f)).put 15 (some tU)).put 16 (some tU)).put 17 (some tU)).put 18 (some tU)) a b f tU h ds)
def Anq:R:=
 (fun(tm:Bb) (ds:List Nat)=>
 P9 163 a h fun b h=>
 Ax0 (.cells [(.bool false)] 4) h fun d h=>
 Ag8 3 b fun e=>
 Fy e h fun f=>
 Ko Aj7 (bin TT .eql 49) f .Bu fun g=>
 wfE g
 (Ag8 0 b fun i=>
 Fy i h fun j=>
 Am (Tb K j (.int .i64 281474976710655) h) fun n h=>
 Aq5 n fun o=>
 P6 c r K ((((((((((tm.put 1 (some b)).put 2 (some d)).put 5 (some e)).put 6 (some f)).put 7 (some g)).put 8 (some g)).put 9 (some i)).put 10 (some j)).put 11 (some n)).put 12 (some o)) b d g o h ds)
 (P6 c r K ((((((((((tm.put 1 (some b)).put 2 (some d)).put 5 (some e)).put 6 (some f)).put 7 (some g)).put 8 (some g)).put 9 (some tU)).put 10 (some tU)).put 11 (some tU)).put 12 (some tU)) b d g tU h ds)) (Tr.nil.put 0 (some a)) []
def Xc:Ru K (Ru r (Ru c R)):=(.mk:Sg 0x1010000405168233601e324444 [a,b,d] h [cl0 (V6 l false .done (some .ret)),cl0 (V6 l true .ready none)]).F
def Afi:R:=
 nsE 6 [(.int .i64 0),(.int .i64 0),(.int .i64 0),(.int .i64 0),(.int .i64 0),(.int .i64 0)] 53 d h fun e h=>
 Et l h fun h=>Xc c r K l a b e h
def Aci:R:=(.mk:Sg 0x122210142116e203 [a,b] h [Dq (Eb K)]).F
def Jv:R:=(.mk:Sg 0x154210c0232820fe32201 [a,b] h [D7 (Gi K),D7 (Aci K)]).F
def Aih:Ru r R:=(.mk:Sg 0x1c1202b211636e5321691c210121007e613212e036e06e236e500236e15e213 [a] h [Dq (Dw K),c 224,Dq k1] [cu1 (fun g=>Aex 68 g (some (.int .i64 1)) none none)] [List.replicate 4 (.int .i64 0)++List.replicate 64 (.int .u8 0)]).F
def J2(c:Ai)(r:Ai)(K:Nat)(k1:A1)(base:Nat)(s:DX)(a:EV)(b:EV)(d:EV)(h:Ab):R:=
 pkA b d fun e=>
 ifE e
 (Aih c r K k1 a h)
 (some (.tuple [],h))
def Nl:R:=
 pkA b d fun e=>
 wtE e
 (Aod 1 18 262143 base a s h fun s f=>
 Aal 68 f (.int .i64 0) fun g=>
 olE 0 21 2097151 base g s h fun s i=>
 Aod 0 25 29392895 base a s h fun s j=>
 Js 26 62947327 s h (fun h=>(Ry K j h)) fun n h s=>
 Azo i n fun o=>
 J2 c r K k1 base s a e o h)
 (J2 c r K k1 base s a e tU h)
def J0(c:Ai)(r:Ai)(K:Nat):Nat->A1
 | 0=>fun _ _=>none
 | m+1=>fun a h=>
  Wm h fun base s=>
  Aod 0 3 7 base a s h fun s b=>
  Js 4 15 s h (fun h=>(Tu K b h)) fun d h s=>
  Aq5 d fun e=>
  wtE e
  (Aod 1 10 1023 base a s h fun s f=>
  Hc f fun g=>
  At0 g (.int .i64 0) fun i=>
  Nl c r K (J0 c r K m) base s a e i h)
  (Nl c r K (J0 c r K m) base s a e tU h)
def A15:R:=
 J0 c r K K a h
def Ab8:Ru K R:=(.mk:Sg 0x1002321643c20ae233 [a] h).F
def H0:R:=(.mk:Sg 0x1511003e0232820fe432010ee02328243 [a,b] h [D7 (Gi K),Dq (Ab8 K)]).F
def Hv:Ru K R:=(.mk:Sg 0x1002200e1021ee213e203 [a] h).F
def Mt:R:=(.mk:Sg 0x1b120c12030216b3cc233701ea13213e8031021673c321623ff3fa17e60c242170e772101618e432e5405b200e4011e0ee [a,b] h [Dq (fun e=>Bz (List.replicate 64 (.int .u8 0)) 30 64 1 [(0,e)]),D7 (Ef 30 64),Dq (Hv K)]).F
def Hm:R:=(.mk:Sg 0x14320007e000200e63023701e233 [a,b] h [D7 (Mt K)]).F
def D3:R:=(.mk:Sg 0x134210200200e5212e3101310e9 [a,b] h [Dq (D1 K),D7 (Hm K)]).F
def Abc:Ru K R:=(.mk:Sg 0x1002 [] h).F
def Aa7:Ru K R:=
 I6 d fun e=>
 k3 a b e h
def Abr:R:=
 A8z 1 a d h fun e=>
 Am (Gq K e h) fun f h=>
 Aa7 K k3 a b d h
def Jp(K:Nat):Nat->A3
 | 0=>fun _ _ _ _=>none
 | m+1=>fun a b d h=>
  cE Iy .lss 3 d b
  (Abr K (Jp K m) a b d h)
  (Abc K h)
def Aba:R:=(.mk:Sg 0x10023300213e503321643c20ae233 [a] h [Jx (Jp K K)]).F
def Rq:R:=(.mk:Sg 0x131000ee02328243 [a] h [Dq (Aba K)]).F
def Rb:Ru K (Ru r (Ru c R)):=(.mk:Sg 0x1002 [] h).F
def Ky:R:=(.mk:Sg 0x10100ee0230ee0215e701e2101 [a] h [c 240,cl0 (Rb c r K)]).F
def Kz:R:=(.mk:Sg 0x13100002328430be [a,b,d] h [Dq (Ky c r K)]).F
def Rv:R:=(.mk:Sg 0x1202831024a3102a25e8fce3c2a2825e6fbe3622014f9e31021642115e2fae3 [a,b] h [c 239,Jx (Kz c r K)]).F
def U4:R:=(.mk:Sg 0x17622006e023286521103e0230023301e5220126521c [a,b] h [D7 (Er K),D7 (Dy K),D7 (Rv c r K)]).F
def Ud:Ru K R:=
 some (a,h)
def Ac6:Ru K R:=
 I6 f fun g=>
 k5 a b d e g h
def Adp:R:=
 A8z 1 d f h fun g=>
 Am (Gk K a g h) fun i h=>
 Ac6 K k5 a b d e f h
def H8(K:Nat):Nat->A5
 | 0=>fun _ _ _ _ _ _=>none
 | m+1=>fun a b d e f h=>
  cE Iy .lss 3 f e
  (Adp K (H8 K m) a b d e f h)
  (Ud K b h)
def Up:R:=
 Hc b fun d=>
 H8 K K a b b d (.int .i64 0) h
def Ad4:Ru K R:=
 I6 e fun f=>
 k4 a b d f h
def Ael:R:=(.mk:Sg 0x18765430a92743027221311102e00215e701e20ce2101 [a,b,d,e] h [Dq (Fx K),Dq (fun g=>Bz [.int .i64 0] 3 1 1 [(0,g)]),D7 (Ef 3 1),Sx (Ad4 K k4)]).F
def H7(K:Nat):Nat->A4
 | 0=>fun _ _ _ _ _=>none
 | m+1=>fun a b d e h=>
  cE Iy .lss 3 e d
  (Ael K (H7 K m) a b d e h)
  (Up K a b h)
def Ty:R:=(.mk:Sg 0x1002b034102101 [a] h [Dq (E3 K),Sx (H7 K K)]).F
abbrev Vr(K:Nat)(c:Ai):Ai:=(w1 122 (E3 K) (w2 137 (Gk K) (w1 204 (Fx K) c)))
def Pp:Ru K R:=
 pkA a b fun d=>
 some (d,h)
def Pl:R:=(.mk:Sg 0x12022102521020053011021ee42405e2a540be [a,b,d,e] h [Jx (Jq K),D7 (Pp K)]).F
def Mp:R:=(.mk:Sg 0x120247430268b43020093211021ee21114650be2a2101265209e9 [a,b,d] h [Dq (Ms K),Dq (Dp K),Jx (Jq K),Sx (Pl K)]).F
def Acl:Ru K R:=
 some (a,h)
def Sq:R:=(.mk:Sg 0x131200123212e20ce522112101203 [a,b] h [Dq (Cm K),D7 (O1 K),Dq (Acl K)] [] [] [(.int .i64 (-1))]).F
def Nt:R:=
 pkA e f fun g=>
 ifE g
 (some (d,h))
 (Sq K a b h)
def Rp:R:=(.mk:Sg 0x12026a9510259dc51020fe7220190304e2a01525e012162114e722319e51c214422319e21c [a,b] h [D7 (Dy K),cl5 (Nt K)] [] [] [(.int .i64 (-1))]).F
def Ag3:Ru r R:=(.mk:Sg 0x122522112101203 [a,b] h [Dq (Bj K),c 219]).F
def Af6:R:=(.mk:Sg 0x17623000233023701e6222121112101203 [a,b] h [Dq (Bj K),Dq (Db K),D7 (Jv K),D7 (Ag3 c r K)]).F
def Afd:Ru K (Ru r (Ru c R)):=
 I6 f fun g=>
 k5 a b d e g h
def Py:R:=
 A9f d
 (some (d,h))
 (Afd c r K k5 a b e f g h)
def Pu:R:=(.mk:Sg 0x18765436008760ae043600a28980be [a,b,d,e,f,g,i,j] h [cl6 (Py c r K k5)]).F
def Af7:R:=(.mk:Sg 0x120202e01e00e3dc8202303e02e01e400ed82002e425e00e2a00215e702e20ce2933171e77432e5406b21001e47573011e0ee210e032e06e232e56432e15e [a,b,d,e,f] h [Dq (Bj K),c 45,cl8 (Pu c r K k5)] [] [List.replicate 64 (.int .u8 0)]).F
def Lu(c:Ai)(r:Ai)(K:Nat):Nat->A5
 | 0=>fun _ _ _ _ _ _=>none
 | m+1=>fun a b d e f h=>
  cE Iy .lss 3 f e
  (Af7 c r K (Lu c r K m) a b d e f h)
  (Af6 c r K a b h)
def Af8:R:=
 Hc d fun e=>
 Lu c r K K a b d e (.int .i64 0) h
def Agn:R:=(.mk:Sg 0x1543310222212e32201 [a,b,d] h [c 262,Jx (Af8 c r K)]).F
def Amz:R:=(.mk:Sg 0x13b9320222212e20ce8233171e77445405b21001e47373011e0ee395e9 [a,b,d] h [Dq (F6 K),c 261,Jx (Agn c r K)]).F
def Abe:R:=(.mk:Sg 0x122210142116e203 [a,b] h [Dq (Gp K)]).F
def Rm:R:=(.mk:Sg 0x143210222212e32201 [a,b] h [D7 (H0 K),D7 (Abe K)]).F
def Ze:R:=(.mk:Sg 0x122210142116e203 [a,b] h [Dq (Gb K)]).F
def Pt:R:=(.mk:Sg 0x143210222212e32201 [a,b] h [D7 (H0 K),D7 (Ze K)]).F
def Adn:Ru r (Ru c R):=(.mk:Sg 0x1000e2ab323fff4f00e7242107e20ae94003fb32e10e24211e03f97232e5272e8b01e414e232e5212e6b4014e725704ba73311e0ee3233e6271e717e11563f05e618e232011e57325304b673311e0ee2a5e0206e232007e434324 [a,b] h [D7 (Ard TT 179 342 false),D7 (O3 K),Jx (Z2 TT 179)] [cu2 (fun d e=>Bo (Dg [(0,1),(1,1)]) [.int .i64 0,.int .i64 0] [(0,d),(1,e)]),cu2 (fun y aa=>Bo (Dg [(0,64),(64,1)]) (List.replicate 64 (.int .u8 0)++[.int .i64 0]) [(0,y),(1,aa)])] [[.int .i64 0,.int .i64 0],List.replicate 64 (.int .u8 0)++[.int .i64 0]]).F
def Akh:R:=(.mk:Sg 0x189210000e2212e2456403ff3fa7232e52f2e9b5414e432e7310e302e5210e373011e0ee312e9 [a,b] h [c 283,D7 (Adn c r K)]).F
def Adu:R:=(.mk:Sg 0x10026220142116e203 [a,b,d] h [D7 (Ha K)]).F
def O0:R:=(.mk:Sg 0x165431003e0232820fe32201 [a,b,d] h [D7 (Gi K),Jx (Adu K)]).F
def Ad5:R:=(.mk:Sg 0x12010ea1204e3a32e620ce6220142116e203 [a,b,d,e] h [D7 (Hb K)]).F
def Tx:R:=(.mk:Sg 0x136544103010e41204e2432e60007e00e212e43201010e05e [a,b,d] h [D7 (H0 K),Sx (Ad5 K)] [cu0 (Bo (Mg 1) (List.replicate 64 (.int .u8 0)) [])] [List.replicate 64 (.int .u8 0)]).F
def Aig:Ru K R:=
 some (a,h)
def Ah1:Ru K R:=
 I6 f fun g=>
 k5 a b d e g h
def Ahi:R:=(.mk:Sg 0x1a98265104623012f2e531be64116e [a,b,d,e,f] h [Jx (Xv K),cl5 (Ah1 K k5)]).F
def M0(K:Nat):Nat->A5
 | 0=>fun _ _ _ _ _ _=>none
 | m+1=>fun a b d e f h=>
  cE Iy .lss 3 f e
  (Ahi K (M0 K m) a b d e f h)
  (Aig K b h)
def Ag1:R:=
 Hc d fun e=>
 M0 K K a b d e (.int .i64 0) h
def G2:Ru K R:=
 pkA a b fun d=>
 some (d,h)
def Jj:R:=(.mk:Sg 0x1202210242102101344c2a430be [a,b,d] h [Dq (fun f=>Nx K f (.int .i64 0) (.int .i64 281474976710655)),D7 (G2 K)]).F
def My:R:=(.mk:Sg 0x120233102453102101334d2a430be [a,b,d] h [Dq (fun f=>Nx K f (.int .i64 1) (.int .i64 4294967295)),Jx (Jj K)]).F
def Sz:R:=(.mk:Sg 0x120233102453102101324d2a430be [a,b,d] h [Dq (fun f=>Nx K f (.int .i64 0) (.int .i64 65535)),Jx (My K)]).F
def J1:R:=(.mk:Sg 0x120243202463202111414d2a801023012042e9e9 [a] h [Jx (Nx K),Dq (fun f=>Nx K f (.int .i64 0) (.int .i64 65535)),Jx (Sz K)]).F
def Aip:Ru K R:=
 Ii TT [.v a,.v b,.v d] h
def Ahw:R:=(.mk:Sg 0x123633050000000304ea512e20ce5722120ce34221232112101 [a] h [Dq (fun a=>Jw K a (.int .i64 (-1))),D7 (Jw K),D7 (O1 K),Jx (Aip K)]).F
def Y0:R:=(.mk:Sg 0x1311005e00000000304eb0023701e2101 [a] h [Dq (Ig K),Dq (Ahw K)]).F
def Ads:Ru r R:=(.mk:Sg 0x122522112101203 [a,b] h [Dq (Bj K),c 196]).F
def Akd:R:=(.mk:Sg 0x17623000230023701e6222121112101203 [a,b] h [Dq (Bj K),Dq (Db K),D7 (Jv K),D7 (Ads c r K)]).F
def Xe:Ru K (Ru r R):=(.mk:Sg 0x12242201203 [a,b] h [c 219]).F
def Hy:R:=(.mk:Sg 0x14321022522013f9e3a0053701e0023286509e [a,b,d,e,f] h [c 67,D7 (Xe c r K)]).F
def K9:R:=(.mk:Sg 0x1202543500258765002724e22431c03e2d6509e [a,b,d,e,f] h [cl5 (Hy c r K)]).F
def Aed:R:=(.mk:Sg 0x12025435102365451043201d2d01324e [a,b,d] h [D7 (Dy K),cl5 (K9 c r K)] [] [] [(.int .i64 (-1))]).F
def Ady:Ru K R:=
 some (a,h)
def Adz:Ru K R:=
 I6 e fun f=>
 k4 a b d f h
def Ac9:R:=(.mk:Sg 0x1ba92400273303e243503e21107e7d01fe21007e53116e [a,b,d,e] h [Sx (Adz K k4)] [cu1 (fun f=>Sf .i64 f),cu1 (fun i=>Sf .u64 i)]).F
def J8(K:Nat):Nat->A4
 | 0=>fun _ _ _ _ _=>none
 | m+1=>fun a b d e h=>
  cE Iy .lss 3 e d
  (Ac9 K (J8 K m) a b d e h)
  (Ady K a h)
def Aej:R:=(.mk:Sg 0x1002300410213e32201 [a,b] h [D7 (Jz K),Sx (J8 K K)]).F
def Ep:R:=(.mk:Sg 0x154220002411172820fe3101 [a,b] h [Dq (Yf K),Dq (fun a=>Jz K a (.int .i64 (-1))),D7 (Aej K)]).F
def Lv:R:=
 Am (Jz K a b h) fun d h=>
 some (d,h)
def Jo:Ru K R:=
 pkA a b fun d=>
 some (d,h)
def Nw:R:=(.mk:Sg 0x1202210242102101318e5c2a430be [a,b,d] h [Dq (Pr K),D7 (Jo K)]).F
def Sw:R:=(.mk:Sg 0x120233102453102101354d2a430be [a,b,d] h [Dq (fun f=>Pg K f (.int .i64 0) (.int .i64 65535)),Jx (Nw K)]).F
def Q9:R:=(.mk:Sg 0x120243202463202111434d2a21012142bde9 [a] h [Dq (fun d=>Pg K d (.int .i64 0) (.int .i64 281474976710655)),Dq (fun f=>Pg K f (.int .i64 0) (.int .i64 255)),Jx (Sw K)]).F
def Aai:Ru K R:=
 I6 e fun f=>
 k4 a b d f h
def Aah:R:=(.mk:Sg 0x1ba284200183603e321660c24211210141007e203 [a,b,d,e] h [Dq (fun g=>Bz [.int .u8 0] 5 1 1 [(0,g)]),D7 (Ef 5 1),Sx (Aai K k4)] [cu1 (fun b=>Sf .u8 b)] [] [(.int .u64 8)]).F
def I7(K:Nat):Nat->A4
 | 0=>fun _ _ _ _ _=>none
 | m+1=>fun a b d e h=>
  cE Iy .lss 3 e d
  (Aah K (I7 K m) a b d e h)
  (some (.tuple [],h))
def Aan:R:=
 I7 K K a d b (.int .i64 0) h
def Pb:R:=(.mk:Sg 0x1543300000e5021631ca286509e [a,b,d,e,f] h [Jx (Aan K)]).F
def Ee:R:=(.mk:Sg 0x1202654520248765206222e611101e2d20fe3101 [a,b,d] h [Dq (Yf K),Dq (Ww K),cl5 (Pb K)]).F
def Are:R:=(.mk:Sg 0x1e7e08e1104e208e1ee602e13121001e32102e54210d32100e44230b321c342109321a242107321814210532160423211824215e3f90007e209e1606e21013340e7e05e295e9 [a] h [Dq (Ed K),D7 (fun j n=>Ee K j (.int .i64 6) n),Jx (Ee K),Dq (Aki K)] [cu0 (Bo (Dg [(0,1),(1,1)]) [.Al,.bool false] [])] [List.replicate 44 (.int .u8 0),[.int .i64 0,.int .i64 0,.int .i64 0,.int .i64 0,.int .i64 0,.int .i64 0]]).F
end
variable{K d:Nat}(H:Bw disp)
include H
theorem Aqh(hd:1<=d):S1 disp K d 28 Alh:=fun _=>ld rfl rfl H (V1 (Cw H) hd<|V1 (Ew H) hd<|V2 (Xb H) hd<|rfl) 51 (fun c r=>e4 (H6 c r K) 0 3 11 12)
theorem At9(hd:4<=d):R4 disp K d 66 (Sk K):=fun _ _ _ _=>rl H hd fun d hd=>V1 (Awu H) hd<|V3 (Ar4 H) hd<|rfl
theorem Atj(hd:2<=d):S2 disp K d 67 Apl:=fun _ _=>rd rfl rfl H (V2 (Fu H) hd<|V2 (Uw H) hd<|rfl)
theorem Vd(hd:1<=d):S1 disp K d 73 Sn:=fun _=>ld rfl rfl H (V1 (Dn H) hd<|V1 (Cw H) hd<|V1 (Ew H) hd<|rfl) 207 (fun c r=>e3 (Fj c r K) 0 62 63)
theorem Aur(hd:3<=d):S2 disp K d 75 Ap9:=fun _ _=>ld rfl rfl H (V1 (Cw H) hd<|V1 (Ew H) hd<|V1 (Hl H) hd<|V1 (Adi H) hd<|rfl) 51 (fun c r=>e4 (Mu c r K) 0 1 25 26)
theorem Aj8(hd:2<=d):R1 disp K d 81 (Yl K):=fun _=>rl H hd fun d hd=>V1 (Tp H) hd<|rfl
theorem At5(hd:1<=d):S3 disp K d 82 Aq3:=fun _ _ _=>ld rfl rfl H (V3 (Acy H) hd<|rfl) 11 (fun c r=>e5 (Nj c r K) 0 1 2 12 13)
theorem Asa(hd:3<=d):S2 disp K d 84 Am2:=fun _ _=>rd rfl rfl H (V2 (Anc H) hd<|rfl)
theorem Al2(hd:3<=d){l:Nat}(tm:Bb)(h:Ab)(k:EV){st:LoopState}{p:Option Code}(m:h.get l=some (.loop st p 84 40 tm [14] (Ek TT 84 0).2.2.1 (Ek TT 84 0).2.2.2 d0)):
 Ag TT disp K (d+1) true l [k] h=Ag4 (Ag TT disp K d false) (Ag TT disp K d true) K l (tmp tm 2) (tmp tm 4) k h:=rr rfl rfl (V2 (Gz H) hd<|V2 (Ei H) hd<|rfl) m rfl (by kernel_rfl)
theorem Aqr(hd:1<=d):S2 disp K d 102 Akj:=fun _ _=>rd rfl rfl H (V1 (Zm H) hd<|rfl)
theorem Aub(hd:3<=d):R2 disp K d 125 (X4 K):=fun _ _=>ll H hd (fun d hd=>V2 (Ahv H) hd<|rfl) 25 (e5 (N2 K) 0 1 7 8 9)
theorem An9(hd:1<=d):S1 disp K d 126 Ajf:=fun _=>rd rfl rfl H (V1 (Cw H) hd<|V1 (Zp H) hd<|rfl)
theorem Ar1(hd:1<=d):S2 disp K d 146 Am8:=fun _ _=>ld rfl rfl H (V1 (Ar3 H) hd<|rfl) 11 (fun c r m k tm h ds=>Lx c r K m tm (k 10) (k 11) (k 12) h ds)
theorem Als(hd:1<=d){l:Nat}(tm:Bb)(h:Ab)(m:EV)(k:EV){st:LoopState}{p:Option Code}(v:h.get l=some (.loop st p 146 27 tm [19,20] (Ek TT 146 0).2.2.1 (Ek TT 146 0).2.2.2 d0)):
 Ag TT disp K (d+1) true l [m,k] h=Afw (Ag TT disp K d false) (Ag TT disp K d true) K l (tmp tm 2) (tmp tm 3) k h:=rr rfl rfl (rfl) v rfl (by kernel_rfl)
theorem Af3(hd:2<=d):R2 disp K d 153 (O1 K):=fun _ _=>rl H hd fun d hd=>V1 (Tg H) hd<|rfl
theorem Ar5(hd:2<=d):S1 disp K d 159 Anq:=fun _=>rd rfl rfl H (V2 (Azu H) hd<|V1 (Aj8 H) hd<|rfl)
theorem Amh(hd:2<=d){l:Nat}(tm:Bb)(h:Ab)(m:EV)(k:EV){st:LoopState}{p:Option Code}(v:h.get l=some (.loop st p 159 36 tm [29,30] (Ek TT 159 0).2.2.1 (Ek TT 159 0).2.2.2 d0)):
 Ag TT disp K (d+1) true l [m,k] h=Afi (Ag TT disp K d false) (Ag TT disp K d true) K l (tmp tm 1) (tmp tm 2) k h:=rr rfl rfl (rfl) v rfl (by kernel_rfl)
theorem Zx(hd:2<=d):R2 disp K d 167 (Jv K):=fun _ _=>rl H hd fun d hd=>V2 (Kt H) hd<|V1 (Hi H) hd<|rfl
theorem Ate(hd:1<=d):S1 disp K d 172 A15:=fun _=>ld rfl rfl H (V1 (Sc H) hd<|V1 (Anx H) hd<|V1 (Aps H) hd<|rfl) 2 (fun c r=>e1 (J0 c r K) 0)
theorem L7(hd:2<=d):R2 disp K d 173 (H0 K):=fun _ _=>rl H hd fun d hd=>V2 (Kt H) hd<|rfl
theorem W9(hd:2<=d):R2 disp K d 176 (D3 K):=fun _ _=>rl H hd fun d hd=>V1 (Hd H) hd<|rfl
theorem An7(hd:2<=d):R1 disp K d 194 (Rq K):=fun _=>ll H hd (fun d hd=>V1 (Xt H) hd<|rfl) 103 (e3 (Jp K) 19 20 21)
theorem Ac0(hd:3<=d):S2 disp K d 197 U4:=fun _ _=>rd rfl rfl H (V2 (Fu H) hd<|V2 (Ei H) hd<|rfl)
omit H in
theorem An5(c v r:Ai)(K:Nat)(m:Nat):lpB false (Vr K c) v r K 200 103 [(2,fun k tm h ds=>Ud K (k 3) h)] m=(fun m k tm h ds=>H8 K m (k 0) (k 3) (k 24) (k 25) (k 26) h) m:=
 Qj (E:=fun m k tm h ds=>H8 K m (k 0) (k 3) (k 24) (k 25) (k 26) h) rfl (fun m=>A14 fun k tm h ds=>by kernel_rfl) m
omit H in
theorem Aol(c v r:Ai)(K:Nat)(m:Nat):lpB false (Vr K c) v r K 200 51 [(0,fun k tm h ds=>Up K (k 0) (k 3) h)] m=(fun m k tm h ds=>H7 K m (k 0) (k 3) (k 9) (k 10) h) m:=
 Qj (E:=fun m k tm h ds=>H7 K m (k 0) (k 3) (k 9) (k 10) h) rfl (fun m=>A14 fun k tm h ds=>by kernel_rfl) m
theorem Aox(hd:2<=d):R1 disp K d 200 (Ty K):=by
 obtain⟨d,rfl⟩:∃e,d=e+1:=⟨d-1,by omega⟩;have hd:=Nat.le_of_succ_le_succ hd;exact fun _=>rm (q:=false) (D:=Vr K (Ag TT disp K d false)) (by kernel_rfl) rfl rfl H (V1 (Kg H) hd<|V2 (Uw H) hd<|V1 (Tg H) hd<|rfl) (cut [true,true,true,false,true,false] (An5 (Ag TT disp K d false) (Ag TT disp K d false) (Ag TT disp K d true) K K) (by kernel_rfl) (by kernel_rfl) (cut [true,true,false,true,false] (Aol (Ag TT disp K d false) (Ag TT disp K d false) (Ag TT disp K d true) K K) (by kernel_rfl) (by kernel_rfl) rfl))
theorem Aeh(hd:4<=d):R3 disp K d 221 (Mp K):=fun _ _ _=>rl H hd fun d hd=>V1 (Uk H) hd<|V1 (Ew H) hd<|V3 (Acy H) hd<|rfl
theorem Aoi(hd:4<=d):R2 disp K d 235 (Rp K):=fun _ _=>rl H hd fun d hd=>V2 (Ei H) hd<|V1 (Hl H) hd<|V2 (Af3 H) hd<|rfl
theorem Arv(hd:2<=d):S3 disp K d 236 Amz:=fun _ _ _=>ld rfl rfl H (V1 (Wt H) hd<|V1 (Dn H) hd<|V1 (Iq H) hd<|V2 (Zx H) hd<|rfl) 207 (fun c r=>e5 (Lu c r K) 0 2 34 35 36)
theorem An8(hd:3<=d):R2 disp K d 237 (Rm K):=fun _ _=>rl H hd fun d hd=>V2 (L7 H) hd<|V1 (Yp H) hd<|rfl
theorem Ame(hd:3<=d):R2 disp K d 249 (Pt K):=fun _ _=>rl H hd fun d hd=>V2 (L7 H) hd<|V1 (W8 H) hd<|rfl
theorem Aq4(hd:1<=d):S2 disp K d 251 Akh:=fun _ _=>rd rfl rfl H (V2 (Abj H) hd<|rfl)
theorem Aqg(hd:2<=d):R3 disp K d 252 (O0 K):=fun _ _ _=>rl H hd fun d hd=>V2 (Kt H) hd<|V2 (Za H) hd<|rfl
theorem Aq2(hd:3<=d):R3 disp K d 254 (Tx K):=fun _ _ _=>rl H hd fun d hd=>V2 (L7 H) hd<|V2 (Zb H) hd<|rfl
theorem At8(hd:2<=d):R3 disp K d 256 (Ag1 K):=fun _ _ _=>ll H hd (fun d hd=>V3 (Aui H) hd<|rfl) 25 (e5 (M0 K) 0 1 9 10 11)
theorem Qz(hd:2<=d):R1 disp K d 258 (J1 K):=fun _=>rl H hd fun d hd=>V3 (Axw H) hd<|rfl
theorem Ato(hd:4<=d):R1 disp K d 259 (Y0 K):=fun _=>rl H hd fun d hd=>V1 (Adi H) hd<|V2 (Zd H) hd<|V2 (Af3 H) hd<|rfl
theorem Apa(hd:2<=d):S2 disp K d 262 Akd:=fun _ _=>rd rfl rfl H (V1 (Dn H) hd<|V1 (Iq H) hd<|V2 (Zx H) hd<|rfl)
theorem Ak1(hd:3<=d):S3 disp K d 266 Aed:=fun _ _ _=>rd rfl rfl H (V2 (Ei H) hd<|rfl)
theorem Nn(hd:2<=d):R2 disp K d 281 (Ep K):=fun _ _=>ll H hd (fun d hd=>V1 (Akf H) hd<|V2 (Zf H) hd<|rfl) 103 (e4 (J8 K) 5 15 16 17)
theorem Xw(hd:2<=d):R2 disp K d 282 (Lv K):=fun _ _=>rl H hd fun d hd=>V2 (Zf H) hd<|rfl
theorem An0(hd:3<=d):R1 disp K d 290 (Q9 K):=fun _=>rl H hd fun d hd=>V3 (Ak2 H) hd<|V1 (Amr H) hd<|rfl
theorem Ng(hd:2<=d):R3 disp K d 291 (Ee K):=fun _ _ _=>ll H hd (fun d hd=>V1 (Akf H) hd<|V1 (Azt H) hd<|rfl) 11 (e4 (I7 K) 0 2 18 19)
theorem A32(hd:3<=d):R1 disp K d 312 (Are K):=fun _=>rl H hd fun d hd=>V1 (Fg H) hd<|V3 (Ng H) hd<|V1 (As6 H) hd<|rfl
end
end Go.Ev
