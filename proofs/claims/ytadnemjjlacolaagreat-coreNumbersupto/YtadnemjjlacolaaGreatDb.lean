import Derived.Test.YtadnemjjlacolaaGreatDa
set_option linter.all false
namespace Go.Ev
open Go.Proofs
set_option maxRecDepth 100000
set_option maxHeartbeats 4000000
variable {d0:Nat}{disp:Nat->Option FT}
section
noncomputable section
section
variable (c r:Ai)(K l:Nat)(k0:A0)(k1:A1)(k2:A2)(k3:A3)(k4:A4)(k5:A5)(k6:A6)(k7:A7)(k8:A8)(k9:A9)(k10:A10)(k11:A11)(k12:A12)(m0:B0)(m1:B1)(m2:B2)(m3:B3)(m4:B4)(m5:B5)(m6:B6)(m7:B7)(m8:B8)(m9:B9)(m10:B10)(m11:B11)(m12:B12)(base:Nat)(s:DX)(tm:Az)(a b d e f g i j n o p q t u w x y z aa ab ad ae af ag ai aj an ao ap aq au aw ax ay az ba bb bd be bf bg bi bj bn bo bp bq bt bu bw bx bz da db dd de df dg di dj dn dp dq dt du dw dx dy dz ea eb ed ee ef eg ei ej en eo ep eq et eu ew ex ey ez fa fb fd fe ff fg fi fj fn fo fp fq ft fu fw fx fy fz ga gb gd ge gf gg gi gj gn go gp gq gt gu gw gx gy gz ia ib ie ig ii ij io ip iq it iu iw ix iy iz ja jb:EV)(h:Aa)(ds:List Nat)
def Ye:Ru K (Ru r (Ru c R)):=(.mk:Sg 0x1002 [] h).F
def Aen:R:=(.mk:Sg 0x10100ee0230ee0215e701e32201 [a,b] h [c 134,cl0 (Ye c r K)]).F
def Yd:Ru K (Ru r R):=(.mk:Sg 0x129200e547823601518e5 [a,b,d,e,f,g] h [c 177]).F
def Afd:R:=(.mk:Sg 0x1456a9761025200e4212e983426601418e54fce33fbe3375e9 [a,b,d,e] h [c 177,cl6 (Yd c r K)]).F
def Sl:Ru K R:=(.mk:Sg 0x122243 [a] h).F
def Fx:Ru K R:=(.mk:Sg 0x12232211001 [a] h [cl0 (Bx (List.replicate 4 (.int .i64 0)++List.replicate 64 (.int .u8 0)) 32 68 0 []),El (D9 32 68)]).F
def Di:R:=(.mk:Sg 0x12100b023b027fe701e [a] h [Es (Fx K)]).F
def Gz:Ru K R:=(.mk:Sg 0x1000e321642c213e203 [a] h).F
def Aom:Ru K R:=
 pkA a b fun d=>
 some (d,h)
def Rt:R:=(.mk:Sg 0x1202200232004321e82a10223e [a,b] h [El (Aom K)]).F
def Z9:Ru K R:=
 K3 d fun e=>
 k3 a b e h
def Aa7:R:=
 fE 3 a h fun e=>
 Bq (Dh [(0,1),(1,1)]) [(.int .i64 0),(.int .i64 0)] [(0,b),(1,d)] fun f=>
 Ap (builtin TT .delete #[140,227] [e,f] h) fun _ h=>
 Z9 K k3 a b d h
def Jh(K:Nat):Nat->A3
 | 0=>fun _ _ _ _=>none
 | m+1=>fun a b d h=>
  fE 0 a h fun e=>
  Ap (Oa K e h) fun f h=>
  cE Ky .lss 3 d f
  (Aa7 K (Jh K m) a b d h)
  (some (.tuple [],h))
def Vy:R:=
 Jh K K a b d h
def Agc:Ru K (Ru r (Ru c R)):=(.mk:Sg 0x1002 [] h).F
def Rc:R:=(.mk:Sg 0x100005e023283209e [a,b] h [cl0 (Agc c r K)]).F
def Am1:R:=(.mk:Sg 0x12022202622000224e9221142116e86307e2d00220e232011e5740de404b265273b30c0ee339 [a,b] h [El (Ed K),El (fun o d=>c 191 [o,.func 192 [] [d]]),El (Rc c r K)]).F
def Pm:Ru K (Ru r (Ru c R)):=
 some (a,h)
def Aco:R:=(.mk:Sg 0x131102110400315e701e679301578301002167fdec012166fcec012165fbec4fde33fce32fbe3 [a] h [c 193,Es (Pm c r K)] [] [] [(.int .i64 (-1))]).F
def Oo:Ru K R:=(.mk:Sg 0x100010e71204e2732e6232e54232e15e203 [a,b,d] h).F
def Iw:R:=(.mk:Sg 0x15433000be0010e61204e2632e6632e501e287609e [a,b,d,e,f,g] h [K7 (Oo K)]).F
def Hf:R:=(.mk:Sg 0x120245766002578a96002923e213e60303e2d00620e0ce0010e51204e2532e6332e501ec023701e433010e05e010e05e [a,b] h [cl6 (Iw K)] [] [List.replicate 64 (.int .u8 0)]).F
def Ajj:Ru K R:=(.mk:Sg 0x1222d9e921007e32211001 [a] h [cl0 (Bx [.int .u8 0] 5 1 0 []),El (D9 5 1)] [cu1 (fun d=>Bq (Dh [(0,1),(1,1)]) [.Ao,.bool false] [(0,d)])]).F
def Anz:Ru K R:=(.mk:Sg 0x1002 [] h).F
def Ams:R:=(.mk:Sg 0x100004e023283209e [a,b] h [cl0 (Anz K)]).F
def Qw:R:=(.mk:Sg 0x12022002520000222e213e30300e2d213 [a] h [El (Ams K)]).F
def Xm:Ru K R:=(.mk:Sg 0x1222650e403e20de251f2e19e725403e51007e01450e603e252e9 [a,b,d] h [] [cu1 (fun b=>R6 .u8 b)] [] [(.int .u64 8)]).F
def Gb:Ru K R:=(.mk:Sg 0x105e000200e002200e321ae80023701e201ae200201203 [a] h [El Azj]).F
def Tv:Ru K (Ru r (Ru c R)):=
 some (a,h)
def N9:Ru K (Ru r (Ru c R)):=
 K3 f fun g=>
 k5 a b d e g h
def Abq:R:=
 Ap (Gt K a e h) fun i h=>
 N9 c r K k5 a b d f g h
def Acw:R:=
 Ap (S7 c r b [e] h) fun i h=>
 An0 i fun j=>
 ifE j
 (K3 d fun n=>
 N9 c r K k5 a b n f g h)
 (Abq c r K k5 a b d e f g h)
def Acj:R:=
 Ap (Gb K a h) fun g h=>
 x2E g fun i j=>
 A6q j
 (Tv c r K d h)
 (Acw c r K k5 a b d i e f h)
def Kq(c:Ai)(r:Ai)(K:Nat):Nat->A5
 | 0=>fun _ _ _ _ _ _=>none
 | m+1=>fun a b d e f h=>
  cE Ky .lss 3 f e
  (Acj c r K (Kq c r K m) a b d e f h)
  (Tv c r K d h)
def Ai6:R:=(.mk:Sg 0x100200435102101 [a,b] h [Es (E3 K),cl5 (Kq c r K K)]).F
def Aia:Ru K R:=(.mk:Sg 0x1222325e30de [a,b] h).F
def Uz:Ru K R:=
 pkA a b fun d=>
 some (d,h)
def H8:R:=(.mk:Sg 0x1202200252002620e213e303d2a00323e [a,b] h [El (Uz K)]).F
def Abh:Ru K R:=
 pkA a b fun d=>
 some (d,h)
def Xj:R:=(.mk:Sg 0x12022002320090321e92a10223e [a] h [El (Abh K)]).F
def Aaj:Ru K R:=(.mk:Sg 0x152321660c622107e403422007e203 [a,b] h [] [cu2 (fun d b=>Ah3 1 d none (some b) (some b)),cu2 (fun f b=>Ah3 1 f (some b) none none)]).F
def Aaf:R:=(.mk:Sg 0x143200b025021641cb021630c05e285409e [a,b,d,e] h [El (Aaj K)]).F
def Zm:R:=(.mk:Sg 0x12024340025764002622e213e30301e2d5409e [a,b,d,e] h [Vp (Aaf K)]).F
def Jz:R:=(.mk:Sg 0x120243400235440000420eb2d213 [a,b] h [Vp (Zm K)]).F
def Abc:Ru K R:=
 pkA a b fun d=>
 some (d,h)
def Mm:R:=(.mk:Sg 0x1202200232005321e82a3223e [a,b,d] h [El (Abc K)]).F
def Pw:Ru K R:=(.mk:Sg 0x1000e321640c42201203 [a,b] h [El (D9 5 1)]).F
def Ajb:Ru K R:=(.mk:Sg 0x1002200e23211303001 [a] h [cl0 (Bx [.int .u8 0] 5 1 0 []),El (D9 5 1)]).F
def Nr:R:=(.mk:Sg 0x1310003e0b0200e628213 [a] h [Es (Ajb K)]).F
def Zk:Ru K (Ru r R):=(.mk:Sg 0x12276230142116e203 [a,b,d,e] h [K7 (fun g d e=>c 224 [g,d,.func 225 [] [e]])]).F
def Afl:R:=(.mk:Sg 0x1476541003e0232820fe43201510e9 [a,b,d,e] h [El (H8 K),Vp (Zk c r K)]).F
def Acb:Ru K R:=(.mk:Sg 0x110e41104e2432e6232e5 [a,b] h).F
def Acu:Ru K R:=
 K3 e fun f=>
 k4 a b d f h
def Ab8:R:=(.mk:Sg 0x1ba9840032162f1e817ea7132e19e245403e20de20ae5b75132e19e20de232b52132e19e0ee [a,b,d,e] h [Vp (Acu K k4)]).F
def Kh(K:Nat):Nat->A4
 | 0=>fun _ _ _ _ _=>none
 | m+1=>fun a b d e h=>
  cE Ky .lss 3 e (.int .i64 64)
  (Ab8 K (Kh K m) a b d e h)
  (Acb K a d h)
def Ot:R:=(.mk:Sg 0x100234400010e05e410e9210e9 [a,b] h [Vp (Kh K K)] [] [List.replicate 64 (.int .u8 0)]).F
def Ei:Ru K R:=(.mk:Sg 0x1000e000e521633c9285409e [a,b,d,e] h).F
def Ef:R:=(.mk:Sg 0x1204324002543400650bea4d [a,b,d,e,f] h [Vp (Ei K)]).F
def F4:R:=(.mk:Sg 0x120543250027654500c0225e23301e5a [a,b,d,e] h [cl5 (Ef K)]).F
def Hg:R:=(.mk:Sg 0x120243400235440060424eb2dc0324e [a,b] h [Vp (F4 K)]).F
def Mu:Ru K R:=(.mk:Sg 0x1002 [] h).F
def Dy:R:=(.mk:Sg 0x10000ae0236023701e0ce023c023701e233 [a] h [cl0 (Mu K)]).F
def Abd:Ru K R:=
 pkA a b fun d=>
 some (d,h)
def O7:R:=(.mk:Sg 0x1202200232005321e82a3223e [a,b,d] h [El (Abd K)]).F
def X6:Ru K R:=(.mk:Sg 0x1402 [] h).F
def Qn:Ru K R:=
 pkA a b fun d=>
 some (d,h)
def Lx:Ru K R:=
 pkA a b fun d=>
 some (d,h)
def Qf:R:=(.mk:Sg 0x1202200262002323e702e0007e212e53614e05e2a430be [a,b,d] h [El (Lx K)] [cu0 (Bq (Nb 1) (List.replicate 32 (.int .u8 0)) [])]).F
def Qh:Ru K R:=
 pkA a b fun d=>
 some (d,h)
def Ph:R:=(.mk:Sg 0x10402022302423000224e544c2a10224e3240ee6023701e202532026932021043012011ee63454409e2a10224e3241ae3023701e2022102421000224e544c2ac010230132412e1023701e204275e9 [a] h [K7 (O7 K),El (Qn K),K7 (Qf K),El (Qh K),cl0 (X6 K)] [] [] [(.int .i64 256)]).F
def Amp:Ru K R:=
 some (a,h)
def Xu:R:=(.mk:Sg 0x13100d023284309e [a,b,d] h [Es (Amp K)]).F
def Xf:R:=(.mk:Sg 0x1202430023530090422ea2d00220e [a,b] h [K7 (Xu K)]).F
def Am2:Ru K R:=(.mk:Sg 0x12320040ae0123603e [a,b] h [El k2] [] [] [(.int .u64 8)]).F
def Lm(K:Nat):Nat->A2
 | 0=>fun _ _ _=>none
 | m+1=>fun a b h=>
  Afi (bin TT .shr 3) a (.int .u64 8) fun d=>
  cE A62 .gtr 3 d (.int .i64 0)
  (Am2 K (Lm K m) a b h)
  (Xf K a b h)
def Vf:R:=
 Lm K K a (.int .i64 1) h
def Mx:Ru K R:=(.mk:Sg 0x10023232e627fff4f01e17e8632e15e28201fe04fd7232e52fc03fcb5232e15e31c03f9011e273011e0ee [a,b,d] h [El (fun d i=>S7 c r d [i])]).F
def Fk:R:=(.mk:Sg 0x15433000be023286509e [a,b,d,e,f] h [K7 (Mx c r K)]).F
def Jr:R:=(.mk:Sg 0x1202543500258765002623e213e30302e2d00320e [a,b,d] h [cl5 (Fk c r K)]).F
def Acx:R:=(.mk:Sg 0x110e51104e2532e623201632e5332e5010e05e210e9 [a,b] h [El (Ot K)] [] [List.replicate 64 (.int .u8 0)]).F
def Nc:Ru K R:=(.mk:Sg 0x10025021634c3021623c [a] h).F
def Gk:R:=(.mk:Sg 0x13110222212e2101 [a] h [Es (Dy K),Es (Nc K)]).F
def Ai7:R:=(.mk:Sg 0x197e91104e291ee671ee54221151007e20ce4101097e05e097e05e [a] h [Es (Nr K),builtin TT .copy #[173,173]] [cu1 (fun d=>Ps 44 1 d none none none)] [List.replicate 44 (.int .u8 0)]).F
def U6:Ru K (Ru r (Ru c R)):=(.mk:Sg 0x1002 [] h).F
def Zu:R:=(.mk:Sg 0x10c00c0242b11e57236e5284b5414e21a3275191170ee13e0123701e2226281314ad023701e2226271314a9023701e22516161123701e22515168023701e2226241314ac023701e32323e012e06e20ce2623131403e6023701e2223732142431400e3023701e2227211210133ae500e1023701e204214e9 [a,b] h [Es (Ns K),c 45,c 30,c 47,c 59,c 60,c 61,c 27,c 20,Es (Sw K),Es (Ch K),c 63,cl0 (U6 c r K)] [] [List.replicate 32 (.int .u8 0)] [(.int .i64 9),(.int .i64 6)]).F
def Yv(c:Ai)(r:Ai)(K:Nat)(tm:Az)(a:EV)(h:Aa)(ds:List Nat):R:=
 stE 1 a (.bool false) h fun h=>
 Fp ds h fun h=>It TT [.c a 4] h
def Apt:R:=
 (fun(tm:Az) (ds:List Nat)=>
 Sh 3 b h fun d h=>
 Aun (.cells [(.bool false)] 4) h fun e h=>
 Ap (Ahy K a h) fun f h=>
 Wd c TT 29 14 0 f ((((tm.put 3 (some d)).put 4 (some e)).put 7 (some a)).put 8 (some f)) h ds (fun h ds=>
 Yv c r K ((((tm.put 3 (some d)).put 4 (some e)).put 7 (some a)).put 8 (some f)) e h ds) (fun id h ds=>
 Ba (Nat.beq 0 id) (Yv c r K ((((tm.put 3 (some d)).put 4 (some e)).put 7 (some a)).put 8 (some f)) e h ds) (none)) (fun h ds=>
 Fp ds h fun h=>It TT [.c e 4] h)) ((Tr.nil.put 0 (some a)).put 1 (some b)) []
def Aam:Ru K (Ru r (Ru c R)):=(.mk:Sg 0x1010000504168253701e20de [a,b,d] h [cl0 (Wa l false .done (some .ret)),cl0 (Wa l true .ready none)]).F
def Ajf:R:=
 E1 l h fun h=>Aam c r K l a b d h
def Wm(c:Ai)(r:Ai)(K:Nat)(tm:Az)(a:EV)(h:Aa)(ds:List Nat):R:=
 stE 1 a (.bool false) h fun h=>
 Fp ds h fun h=>It TT [.c a 4] h
def Amq:R:=
 (fun(tm:Az) (ds:List Nat)=>
 Sh 3 b h fun d h=>
 Aun (.cells [(.bool false)] 4) h fun e h=>
 Ap (Aet K a h) fun f h=>
 Wd c TT 55 12 0 f ((((tm.put 3 (some d)).put 4 (some e)).put 6 (some a)).put 7 (some f)) h ds (fun h ds=>
 Wm c r K ((((tm.put 3 (some d)).put 4 (some e)).put 6 (some a)).put 7 (some f)) e h ds) (fun id h ds=>
 Ba (Nat.beq 0 id) (Wm c r K ((((tm.put 3 (some d)).put 4 (some e)).put 6 (some a)).put 7 (some f)) e h ds) (none)) (fun h ds=>
 Fp ds h fun h=>It TT [.c e 4] h)) ((Tr.nil.put 0 (some a)).put 1 (some b)) []
def X4:Ru K (Ru r (Ru c R)):=(.mk:Sg 0x1010000504168253701e20de [a,b,d] h [cl0 (Wa l false .done (some .ret)),cl0 (Wa l true .ready none)]).F
def Afv:R:=
 E1 l h fun h=>X4 c r K l a b d h
def Nx:Ru K R:=(.mk:Sg 0x10024021654c0021643c0021632cb021620c [a] h).F
def Gy:R:=(.mk:Sg 0x13110222212e2101 [a] h [Es (Dy K),Es (Nx K)]).F
def Fe:Ru K (Ru r (Ru c R)):=
 pkA a b fun d=>
 some (d,h)
def Gg:R:=(.mk:Sg 0x12022202622020fe62211210130305e2a540be [a,b,d,e] h [Es (Ci K),c 29,El (Fe c r K)]).F
def Hx:R:=(.mk:Sg 0x120243410257641020fe5220131303e2a540be [a,b,d,e] h [c 55,Vp (Gg c r K)]).F
def N7:R:=(.mk:Sg 0x120243410257641020fe5220130303e2a540be [a,b,d,e] h [El (Ej K),Vp (Hx c r K)]).F
def Tt:R:=(.mk:Sg 0x12024340023544005425ea2a650be [a,b,d,e,f] h [Vp (N7 c r K)]).F
def Ajc:R:=(.mk:Sg 0x12027cb530238dc5308c25eb2a00223ea22212111703421ae20ce2101203 [a,b] h [Es (Ll K),Es (Ca K),El (Ed K),cl5 (Tt c r K)]).F
end
variable{K d:Nat}(H:Bv disp)
include H
theorem Ajo(hd:0<=d):S2 disp K d 107 Aen:=fun _ _=>rd rfl rfl H rfl
theorem Akq(hd:0<=d):S4 disp K d 148 Afd:=fun _ _ _ _=>rd rfl rfl H rfl
theorem Am8(hd:1<=d):R1 disp K d 152 (Sl K):=fun _=>rl H hd
theorem Rj(hd:1<=d):R1 disp K d 154 (Di K):=fun _=>rl H hd
theorem W8(hd:1<=d):R1 disp K d 156 (Gz K):=fun _=>rl H hd
theorem Awo(hd:1<=d):R2 disp K d 157 (Rt K):=fun _ _=>rl H hd
theorem Alx(hd:2<=d):R3 disp K d 161 (Vy K):=fun _ _ _=>ll H hd (fun d hd=>V1 (Aa5 H) hd<|rfl) 5 (e3 (Jh K) 0 1 6)
theorem Aq2(hd:2<=d):S2 disp K d 162 Am1:=fun _ _=>rd rfl rfl H (V2 (Fu H) hd<|rfl)
theorem Aic(hd:0<=d):S1 disp K d 163 Aco:=fun _=>rd rfl rfl H rfl
theorem X0(hd:1<=d):R2 disp K d 166 (Hf K):=fun _ _=>rl H hd
theorem Apv(hd:1<=d):R1 disp K d 168 (Ajj K):=fun _=>rl H hd
theorem Amc(hd:1<=d):R1 disp K d 172 (Qw K):=fun _=>rl H hd
theorem Ari(hd:1<=d):R3 disp K d 174 (Xm K):=fun _ _ _=>rl H hd
theorem Sc(hd:1<=d):R1 disp K d 175 (Gb K):=fun _=>rl H hd
theorem An4(hd:1<=d):S2 disp K d 191 Ai6:=fun _ _=>ld rfl rfl H (V1 (Kt H) hd<|V2 (Ty H) hd<|V1 (Sc H) hd<|rfl) 51 (fun c r=>e5 (Kq c r K) 0 1 5 9 10)
theorem Anv(hd:1<=d):R2 disp K d 192 (Aia K):=fun _ _=>rl H hd
theorem N2(hd:1<=d):R2 disp K d 195 (H8 K):=fun _ _=>rl H hd
theorem Ajm(hd:1<=d):R1 disp K d 196 (Xj K):=fun _=>rl H hd
theorem Yc(hd:1<=d):R2 disp K d 197 (Jz K):=fun _ _=>rl H hd
theorem Au3(hd:1<=d):R3 disp K d 198 (Mm K):=fun _ _ _=>rl H hd
theorem Acq(hd:1<=d):R2 disp K d 201 (Pw K):=fun _ _=>rl H hd
theorem Vx(hd:1<=d):R1 disp K d 202 (Nr K):=fun _=>rl H hd
theorem Alp(hd:1<=d):S4 disp K d 209 Afl:=fun _ _ _ _=>rd rfl rfl H (V2 (N2 H) hd<|rfl)
theorem Aaq(hd:1<=d):R2 disp K d 210 (Ot K):=fun _ _=>ll H hd (fun _ _=>rfl) 25 (e4 (Kh K) 2 3 4 6)
theorem Xz(hd:1<=d):R2 disp K d 211 (Hg K):=fun _ _=>rl H hd
theorem Hh(hd:1<=d):R1 disp K d 216 (Dy K):=fun _=>rl H hd
theorem Ai3(hd:1<=d):R3 disp K d 217 (O7 K):=fun _ _ _=>rl H hd
theorem Aks(hd:2<=d):R1 disp K d 218 (Ph K):=fun _=>rl H hd fun d hd=>V3 (Ai3 H) hd<|rfl
theorem Aws(hd:1<=d):R1 disp K d 219 (Vf K):=fun _=>ll H hd (fun _ _=>rfl) 27 (e2 (Lm K) 0 3)
theorem Vn(hd:0<=d):S3 disp K d 224 Jr:=fun _ _ _=>rd rfl rfl H rfl
theorem Aij(hd:2<=d):R2 disp K d 225 (Acx K):=fun _ _=>rl H hd fun d hd=>V2 (Aaq H) hd<|rfl
theorem Vm(hd:2<=d):R1 disp K d 230 (Gk K):=fun _=>rl H hd fun d hd=>V1 (Hh H) hd<|rfl
theorem Aql(hd:2<=d):R1 disp K d 235 (Ai7 K):=fun _=>rl H hd fun d hd=>V1 (Vx H) hd<|rfl
theorem Ah4(hd:2<=d):S2 disp K d 13 Zu:=fun _ _=>rd rfl rfl H (V1 (Abn H) hd<|V1 (Zw H) hd<|V1 (Eh H) hd<|rfl)
theorem Ar6(hd:1<=d):S2 disp K d 29 Apt:=fun _ _=>rd rfl rfl H (V1 (Atr H) hd<|rfl)
theorem Aon(hd:1<=d){l:Nat}(tm:Az)(h:Aa)(m:EV)(k:EV){st:LoopState}{p:Option Code}(v:h.get l=some (.loop st p 29 14 tm [9,10] (E4 TT 29 0).2.2.1 (E4 TT 29 0).2.2.2 d0)):
 Ag TT disp K (d+1) true l [m,k] h=Ajf (Ag TT disp K d false) (Ag TT disp K d true) K l (tmp tm 3) (tmp tm 4) k h:=rr rfl rfl (rfl) v rfl (by kernel_rfl)
theorem Ars(hd:1<=d):S2 disp K d 55 Amq:=fun _ _=>rd rfl rfl H (V1 (Aqs H) hd<|rfl)
theorem Amd(hd:1<=d){l:Nat}(tm:Az)(h:Aa)(k:EV){st:LoopState}{p:Option Code}(m:h.get l=some (.loop st p 55 12 tm [8] (E4 TT 55 0).2.2.1 (E4 TT 55 0).2.2.2 d0)):
 Ag TT disp K (d+1) true l [k] h=Afv (Ag TT disp K d false) (Ag TT disp K d true) K l (tmp tm 3) (tmp tm 4) k h:=rr rfl rfl (rfl) m rfl (by kernel_rfl)
theorem Xk(hd:2<=d):R1 disp K d 190 (Gy K):=fun _=>rl H hd fun d hd=>V1 (Hh H) hd<|rfl
theorem Amw(hd:3<=d):S2 disp K d 19 Ajc:=fun _ _=>rd rfl rfl H (V1 (Akp H) hd<|V1 (Cy H) hd<|V2 (Fu H) hd<|V1 (F2 H) hd<|V2 (Gp H) hd<|rfl)
end
end
noncomputable section
section
variable (c r:Ai)(K l:Nat)(k0:A0)(k1:A1)(k2:A2)(k3:A3)(k4:A4)(k5:A5)(k6:A6)(k7:A7)(k8:A8)(k9:A9)(k10:A10)(k11:A11)(k12:A12)(m0:B0)(m1:B1)(m2:B2)(m3:B3)(m4:B4)(m5:B5)(m6:B6)(m7:B7)(m8:B8)(m9:B9)(m10:B10)(m11:B11)(m12:B12)(base:Nat)(s:DX)(tm:Az)(a b d e f g i j n o p q t u w x y z aa ab ad ae af ag ai aj an ao ap aq au aw ax ay az ba bb bd be bf bg bi bj bn bo bp bq bt bu bw bx bz da db dd de df dg di dj dn dp dq dt du dw dx dy dz ea eb ed ee ef eg ei ej en eo ep eq et eu ew ex ey ez fa fb fd fe ff fg fi fj fn fo fp fq ft fu fw fx fy fz ga gb gd ge gf gg gi gj gn go gp gq gt gu gw gx gy gz ia ib ie ig ii ij io ip iq it iu iw ix iy iz ja jb:EV)(h:Aa)(ds:List Nat)
def Ag8:Ru r R:=(.mk:Sg 0x1222522121112101203 [a] h [Es (Ca K),Es (J2 K),c 20]).F
def Xr:Ru K R:=
 pkA a b fun d=>
 some (d,h)
def Agp:R:=(.mk:Sg 0x120220024200c0221e413eb2a10223e213e [a] h [El (Xr K)]).F
def Ag4:Ru K R:=
 K3 f fun g=>
 k5 a b d e g h
def Ahf:R:=(.mk:Sg 0x1cba9851040232820fe26201204246e013e06e213e56413e15e [a,b,d,e,f] h [El (Ub K),cl5 (Ag4 K k5)] [] [[.int .i64 0]++List.replicate 32 (.int .u8 0)]).F
def Mf(K:Nat):Nat->A5
 | 0=>fun _ _ _ _ _ _=>none
 | m+1=>fun a b d e f h=>
  cE Ky .lss 3 f e
  (Ahf K (Mf K m) a b d e f h)
  (Agp K b h)
def Xo:R:=
 H5 b fun d=>
 Mf K K a b b d (.int .i64 0) h
def To:Ru K (Ru r R):=(.mk:Sg 0x1000e000e3101628430be [a,b,d] h [c 129]).F
def Aji:R:=(.mk:Sg 0x120233102563102620e210130302e2a00323e [a,b] h [Es (Mw K),K7 (To c r K)]).F
def Afw:R:=(.mk:Sg 0x123200e20ce210142116e263 [a,b] h [Es (Gb K)]).F
def Wh:R:=(.mk:Sg 0x14320003e000200e6285409e [a,b,d,e] h [El (Afw K)]).F
def Od:R:=(.mk:Sg 0x12024340025764002623e213e36301e2d00320e [a,b] h [Vp (Wh K)]).F
def Hn:Ru K R:=(.mk:Sg 0x1002200e1021ee213e203 [a] h).F
def Ml:R:=(.mk:Sg 0x1b120c12030216b3cc233701ea13213e8031021673c321623ff3fa17e60c242170e772101618e432e5405b200e4011e0ee [a,b] h [Es (fun e=>Bx (List.replicate 64 (.int .u8 0)) 30 64 1 [(0,e)]),El (D9 30 64),Es (Hn K)]).F
def Ht:R:=(.mk:Sg 0x14320007e000200e63023701e233 [a,b] h [El (Ml K)]).F
def Dx:R:=(.mk:Sg 0x134210200200e5212e3101310e9 [a,b] h [Es (Dy K),El (Ht K)]).F
def Wj:R:=(.mk:Sg 0x1222101263 [a] h [Es (E5 K)]).F
def Ace:Ru K (Ru r (Ru c R)):=
 some (a,h)
def N8:Ru K (Ru r (Ru c R)):=
 K3 e fun f=>
 k4 a b d f h
def Tm:R:=(.mk:Sg 0x1764340076534007288709e [a,b,d,e,f,g,i] h [Vp (N8 c r K k4)]).F
def Acl:R:=(.mk:Sg 0x12028754371025ba8767102820e5220132307e2d01324e [a,b,d,e,f,g] h [El (Qd K),cl7 (Tm c r K k4)] [] [] [(.int .i64 (-1))]).F
def Kg:R:=
 pkO i j fun n=>
 ifE n
 (N8 c r K k4 a b f g h)
 (Acl c r K k4 a b d e f g h)
def N3:R:=(.mk:Sg 0x120287654381024a9876581020fe5320104e2d9809e [a,b,d,e,f,g,i,j] h [c 80,cl8 (Kg c r K k4)]).F
def Acr:R:=(.mk:Sg 0x12029849768302700ed900ecb8302522e21007e21217034301fe0fe2d20fe7421162201223 [a,b,d,e] h [El (Qd K),c 19,Es (Ca K),cl8 (N3 c r K k4)] [cu1 (fun p=>Ahq 2 false 0 p)]).F
def H2(c:Ai)(r:Ai)(K:Nat):Nat->A4
 | 0=>fun _ _ _ _ _=>none
 | m+1=>fun a b d e h=>
  cE Ky .lss 3 e d
  (Acr c r K (H2 c r K m) a b d e h)
  (Ace c r K b h)
def Ah9:R:=
 fE 0 a h fun b=>
 Ap (Ca K b h) fun d h=>
 Ap (Dn K d h) fun e h=>
 H2 c r K K a (.int .i64 (-1)) e (.int .i64 0) h
def Agi:Ru K R:=(.mk:Sg 0x10024226522319e31c542007e [a,b,d,e] h [] [cu2 (fun d e=>Bq (Dh [(0,1),(1,1)]) [.int .i64 0,.int .i64 0] [(0,d),(1,e)])]).F
def Agv:R:=(.mk:Sg 0x1654340003e023287609e [a,b,d,e,f,g] h [Vp (Agi K)]).F
def Ag2:R:=(.mk:Sg 0x12065432600276543600870bec6d [a,b,d,e,f,g,i] h [cl6 (Agv K)]).F
def Ag6:R:=(.mk:Sg 0x120765432700287654370001425e00e7a [a,b,d,e,f,g] h [cl7 (Ag2 K)] [] [] [(.int .i64 (-1))]).F
def Ahd:R:=(.mk:Sg 0x120265436002376546006524ec2d7609e [a,b,d,e,f,g] h [cl6 (Ag6 K)]).F
def Agn:R:=(.mk:Sg 0x1202654361024876561020fe64330103e2d7609e [a,b,d,e,f,g] h [K7 (Px K),cl6 (Ahd K)]).F
def Rx:R:=(.mk:Sg 0x1202765462024987662020fe65431103e2d20fe3101 [a,b,d,e] h [Es (As1 K),K7 (Px K),cl6 (Agn K)]).F
def Ahg:Ru r (Ru c R):=(.mk:Sg 0x1225220152116e263 [a,b,d] h [El (Gt K)]).F
def Ano:R:=(.mk:Sg 0x137632006e023286521103e0230023301e5220126520c [a,b] h [El (Ed K),c 29,K7 (Ahg c r K)]).F
def Vh:Ru K (Ru r (Ru c R)):=(.mk:Sg 0x1002 [] h).F
def Jw:Ru K (Ru r (Ru c R)):=
 K3 d fun e=>
 k3 a b e h
def Vc:R:=(.mk:Sg 0x1653310222212e32201 [a,b,d,e] h [c 101,K7 (Jw c r K k3)]).F
def Ve:R:=(.mk:Sg 0x1656442065431062820fe42201 [a,b,d] h [c 100,K7 (Jw c r K k3),Vp (Vc c r K k3)]).F
def Fm(c:Ai)(r:Ai)(K:Nat):Nat->A3
 | 0=>fun _ _ _ _=>none
 | m+1=>fun a b d h=>
  cE Ky .lss 3 d b
  (Ve c r K (Fm c r K m) a b d h)
  (Vh c r K h)
def Vi:R:=(.mk:Sg 0x1002532021112101203 [a] h [Es (Ca K),Es (Dn K),K7 (Fm c r K K)]).F
def Va:R:=(.mk:Sg 0x105e110222212e20ce2a20ffffff6f0ae723574007e00e3800006f08e211e23c0005f04e210ec3c21e004fd110ea3c2e2e8010e83c773111e0ee42162014e53c20ae20423c [a] h [c 99,Es (Vi c r K)] [cu4 (fun n p t u=>Bq (Dh [(0,1),(1,1),(2,1),(3,1)]) [.int .i64 0,.int .i64 0,.int .i64 0,.Ga] [(0,n),(1,p),(2,t),(3,u)])]).F
def Aaw:R:=(.mk:Sg 0x15120222212e21112101203 [a] h [Es (Ch K),c 98,Es (Va c r K)]).F
def U0(c:Ai)(r:Ai)(K:Nat)(tm:Az)(a:EV)(h:Aa)(ds:List Nat):R:=
 stE 1 a (.bool true) h fun h=>
 Fp ds h fun h=>It TT [.c a 4] h
def Ak6:R:=
 (fun(tm:Az) (ds:List Nat)=>
 Sh 26 a h fun d h=>
 Aun (.cells [(.bool false)] 4) h fun e h=>
 Ez d h fun f=>
 Arw f fun g=>
 Aht 2 g fun i=>
 Ez i h fun j=>
 Ap (Z2 K j b h) fun n h=>
 Wd c TT 80 40 0 n ((((((((tm.put 2 (some d)).put 4 (some e)).put 8 (some f)).put 9 (some g)).put 10 (some i)).put 11 (some j)).put 12 (some b)).put 13 (some n)) h ds (fun h ds=>
 U0 c r K ((((((((tm.put 2 (some d)).put 4 (some e)).put 8 (some f)).put 9 (some g)).put 10 (some i)).put 11 (some j)).put 12 (some b)).put 13 (some n)) e h ds) (fun id h ds=>
 Ba (Nat.beq 0 id) (U0 c r K ((((((((tm.put 2 (some d)).put 4 (some e)).put 8 (some f)).put 9 (some g)).put 10 (some i)).put 11 (some j)).put 12 (some b)).put 13 (some n)) e h ds) (none)) (fun h ds=>
 Fp ds h fun h=>It TT [.c e 4] h)) ((Tr.nil.put 0 (some a)).put 1 (some b)) []
def Cz(c:Ai)(r:Ai)(K:Nat)(l:Nat)(base:Nat)(s:DX)(a:EV)(b:EV)(d:EV)(h:Aa):R:=
 pkO b d fun e=>
 ifE e
 (stE 1 a (.bool false) h fun h=>
 Wa l false .done (some .ret) h)
 (Wa l true .ready none h)
def Vw:R:=
 Ez a h fun e=>
 fE 2 e h fun f=>
 Ap (K4 K f d h) fun g h=>
 x2E g fun i j=>
 nsE 6 [(.int .i64 0),(.int .i64 0),(.int .i64 0),(.int .i64 0),(.int .i64 0),(.int .i64 0)] 47 i h fun n h=>
 Aaa h fun base s=>
 Ov 0 0 base a s fun s=>Ez a h fun o=>
 Aq4 0 3 7 base o s h fun s p=>
 olE 1 5 16 base n s h fun s q=>
 L6 6 63 s h (fun h=>(Ej K p q h)) fun t h s=>
 wfE t
 (Ov 8 255 base a s fun s=>Ez a h fun u=>
 Aq4 0 11 2047 base u s h fun s w=>
 olE 2 13 4351 base n s h fun s x=>
 L6 14 16383 s h (fun h=>(Ej K w x h)) fun y h s=>
 Cz c r K l base s b t y h)
 (Cz c r K l base s b t tU h)
def Afc:R:=
 E1 l h fun h=>Vw c r K l a b d h
def O4:Ru K (Ru r (Ru c R)):=
 K3 d fun e=>
 m3 ((tm.put 26 (some e)).put 12 (some e)) a b e h ds
def Ae9:R:=
 Aac 1 a d fun e=>
 Ez e h fun f=>
 nsE 1 [(.int .i64 0)] 3 d h fun g h=>
 Ap (Abl K f h) fun i h=>
 Wd c TT 113 27 0 i (((((((tm.put 14 (some d)).put 15 (some e)).put 16 (some f)).put 3 (some g)).put 4 (some f)).put 17 (some f)).put 18 (some i)) h ds (fun h ds=>
 O4 c r K m3 (((((((tm.put 14 (some d)).put 15 (some e)).put 16 (some f)).put 3 (some g)).put 4 (some f)).put 17 (some f)).put 18 (some i)) a b d h ds) (fun id h ds=>
 Ba (Nat.beq 2 id) (O4 c r K m3 (((((((tm.put 14 (some d)).put 15 (some e)).put 16 (some f)).put 3 (some g)).put 4 (some f)).put 17 (some f)).put 18 (some i)) a b d h ds) (Ba (Nat.beq 1 id) (O4 c r K m3 (((((((tm.put 14 (some d)).put 15 (some e)).put 16 (some f)).put 3 (some g)).put 4 (some f)).put 17 (some f)).put 18 (some i)) a b d h ds) (Ba (Nat.beq 0 id) (Fp ds h fun h=>some (.tuple [],h)) (none)))) (fun h ds=>
 uwE tU h ds)
def Lp(c:Ai)(r:Ai)(K:Nat):Nat->B3
 | 0=>fun _ _ _ _ _ _=>none
 | m+1=>fun tm a b d h ds=>
  Auw d b fun e=>
  ifE e
  (Ae9 c r K (Lp c r K m) (tm.put 13 (some e)) a b d h ds)
  (uwE tU h ds)
def Alg:R:=
 (fun(tm:Az) (ds:List Nat)=>
 Sh 153 a h fun d h=>
 Ez b h fun e=>
 Arw e fun f=>
 Aht 6 f fun g=>
 Ez g h fun i=>
 H5 i fun j=>
 Lp c r K K (((((((tm.put 2 (some d)).put 7 (some e)).put 8 (some f)).put 9 (some g)).put 10 (some i)).put 11 (some j)).put 12 (some (.int .i64 0))) i j (.int .i64 0) h ds) ((Tr.nil.put 0 (some a)).put 1 (some b)) []
def Xg:Ru K R:=(.mk:Sg 0x102001032820fe62330140de20de [a,b,d] h [K7 (fun e f d=>S7 c r e [f,d]),cl0 (Wa l false .done (some .ret)),cl0 (Wa l true .ready none)]).F
def Ado:R:=
 E1 l h fun h=>Xg c r K l a b d h
def Afq:Ru r R:=(.mk:Sg 0x1c1202b211636e5321691c210121007e613212e036e06e236e500236e15e213 [a] h [Es (Di K),c 155,Es k1] [cu1 (fun g=>Ah3 68 g (some (.int .i64 1)) none none)] [List.replicate 4 (.int .i64 0)++List.replicate 64 (.int .u8 0)]).F
def J0(c:Ai)(r:Ai)(K:Nat)(k1:A1)(base:Nat)(s:DX)(a:EV)(b:EV)(d:EV)(h:Aa):R:=
 pkA b d fun e=>
 ifE e
 (Afq c r K k1 a h)
 (some (.tuple [],h))
def Nh:R:=
 pkA b d fun e=>
 wtE e
 (Aq4 1 18 262143 base a s h fun s f=>
 Aac 68 f (.int .i64 0) fun g=>
 olE 0 21 2097151 base g s h fun s i=>
 Aq4 0 25 29392895 base a s h fun s j=>
 L6 26 62947327 s h (fun h=>(Qy K j h)) fun n h s=>
 Awx i n fun o=>
 J0 c r K k1 base s a e o h)
 (J0 c r K k1 base s a e tU h)
def Jx(c:Ai)(r:Ai)(K:Nat):Nat->A1
 | 0=>fun _ _=>none
 | m+1=>fun a h=>
  Aaa h fun base s=>
  Aq4 0 3 7 base a s h fun s b=>
  L6 4 15 s h (fun h=>(Sl K b h)) fun d h s=>
  An0 d fun e=>
  wtE e
  (Aq4 1 10 1023 base a s h fun s f=>
  H5 f fun g=>
  Auk g (.int .i64 0) fun i=>
  Nh c r K (Jx c r K m) base s a e i h)
  (Nh c r K (Jx c r K m) base s a e tU h)
def Ayn:R:=
 Jx c r K K a h
def Aau:Ru K R:=(.mk:Sg 0x1002 [] h).F
def Zj:Ru K R:=
 K3 d fun e=>
 k3 a b e h
def Z7:R:=
 A6d 1 a d h fun e=>
 Ap (Gz K e h) fun f h=>
 Zj K k3 a b d h
def Jm(K:Nat):Nat->A3
 | 0=>fun _ _ _ _=>none
 | m+1=>fun a b d h=>
  cE Ky .lss 3 d b
  (Z7 K (Jm K m) a b d h)
  (Aau K h)
def Zx:R:=(.mk:Sg 0x10023300213e503321643c20ae233 [a] h [K7 (Jm K K)]).F
def Q7:R:=(.mk:Sg 0x131000ee02328243 [a] h [Es (Zx K)]).F
def Uw(c:Ai)(r:Ai)(K:Nat)(tm:Az)(a:EV)(h:Aa)(ds:List Nat):R:=
 stE 1 a (.bool true) h fun h=>
 Fp ds h fun h=>It TT [.c a 4] h
def U1:R:=
 Aht 3 a fun d=>
 Ez d h fun e=>
 Ap (Wj K e h) fun f h=>
 Wd c TT 131 36 0 f (((tm.put 26 (some d)).put 27 (some e)).put 28 (some f)) h ds (fun h ds=>
 Uw c r K (((tm.put 26 (some d)).put 27 (some e)).put 28 (some f)) b h ds) (fun id h ds=>
 Ba (Nat.beq 0 id) (Uw c r K (((tm.put 26 (some d)).put 27 (some e)).put 28 (some f)) b h ds) (none)) (fun h ds=>
 Fp ds h fun h=>It TT [.c b 4] h)
def Iy:R:=
 pkO d e fun f=>
 ifE f
 (stE 1 b (.bool false) h fun h=>
 Fp ds h fun h=>It TT [.c b 4] h)
 (U1 c r K (tm.put 25 (some f)) a b h ds)
def Lj:R:=
 pkO d e fun f=>
 wfE f
 (Aht 2 a fun g=>
 Ez g h fun i=>
 Ap (Rt K i (.int .i64 281474976710655) h) fun j h=>
 An0 j fun n=>
 Iy c r K ((((((tm.put 19 (some f)).put 20 (some f)).put 21 (some g)).put 22 (some i)).put 23 (some j)).put 24 (some n)) a b f n h ds)
 (Iy c r K ((((((tm.put 19 (some f)).put 20 (some f)).put 21 (some tU)).put 22 (some tU)).put 23 (some tU)).put 24 (some tU)) a b f tU h ds)
def Pf:R:=
 pkO d e fun f=>
 wfE f
 (Aht 1 a fun g=>
 Ez g h fun i=>
 Ap (Rt K i (.int .i64 4294967295) h) fun j h=>
 An0 j fun n=>
 Lj c r K ((((((tm.put 13 (some f)).put 14 (some f)).put 15 (some g)).put 16 (some i)).put 17 (some j)).put 18 (some n)) a b f n h ds)
 (Lj c r K ((((((tm.put 13 (some f)).put 14 (some f)).put 15 (some tU)).put 16 (some tU)).put 17 (some tU)).put 18 (some tU)) a b f tU h ds)
def Ald:R:=
 (fun(tm:Az) (ds:List Nat)=>
 Sh 160 a h fun b h=>
 Aun (.cells [(.bool false)] 4) h fun d h=>
 Aht 3 b fun e=>
 Ez e h fun f=>
 Kk Al0 (bin TT .eql 43) f .Ga fun g=>
 wfE g
 (Aht 0 b fun i=>
 Ez i h fun j=>
 Ap (Rt K j (.int .i64 281474976710655) h) fun n h=>
 An0 n fun o=>
 Pf c r K ((((((((((tm.put 1 (some b)).put 2 (some d)).put 5 (some e)).put 6 (some f)).put 7 (some g)).put 8 (some g)).put 9 (some i)).put 10 (some j)).put 11 (some n)).put 12 (some o)) b d g o h ds)
 (Pf c r K ((((((((((tm.put 1 (some b)).put 2 (some d)).put 5 (some e)).put 6 (some f)).put 7 (some g)).put 8 (some g)).put 9 (some tU)).put 10 (some tU)).put 11 (some tU)).put 12 (some tU)) b d g tU h ds)) (Tr.nil.put 0 (some a)) []
def Xq:Ru K (Ru r (Ru c R)):=(.mk:Sg 0x1010000405168233601e324444 [a,b,d] h [cl0 (Wa l false .done (some .ret)),cl0 (Wa l true .ready none)]).F
def Aeb:R:=
 nsE 6 [(.int .i64 0),(.int .i64 0),(.int .i64 0),(.int .i64 0),(.int .i64 0),(.int .i64 0)] 47 d h fun e h=>
 E1 l h fun h=>Xq c r K l a b e h
def Q8:Ru K (Ru r (Ru c R)):=(.mk:Sg 0x1002 [] h).F
def K2:R:=(.mk:Sg 0x10100ee0230ee0215e701e2101 [a] h [c 163,cl0 (Q8 c r K)]).F
def Kz:R:=(.mk:Sg 0x13100002328430be [a,b,d] h [Es (K2 c r K)]).F
def Q0:R:=(.mk:Sg 0x1202831024a3102a25e8fce3c2a2825e6fbe3622014f9e31021642115e2fae3 [a,b] h [c 162,K7 (Kz c r K)]).F
def Ud:R:=(.mk:Sg 0x17622006e023286521103e0230023301e5220126521c [a,b] h [El (Ed K),El (Ej K),El (Q0 c r K)]).F
def Ahh:Ru K R:=
 some (a,h)
def Ahk:Ru K R:=
 K3 f fun g=>
 k5 a b d e g h
def Afj:R:=(.mk:Sg 0x1a98265104623012f2e531be64116e [a,b,d,e,f] h [K7 (Xm K),cl5 (Ahk K k5)]).F
def Mv(K:Nat):Nat->A5
 | 0=>fun _ _ _ _ _ _=>none
 | m+1=>fun a b d e f h=>
  cE Ky .lss 3 f e
  (Afj K (Mv K m) a b d e f h)
  (Ahh K b h)
def Adz:R:=
 H5 d fun e=>
 Mv K K a b d e (.int .i64 0) h
def Tp:Ru K R:=
 some (a,h)
def Acf:Ru K R:=
 K3 f fun g=>
 k5 a b d e g h
def Abr:R:=
 A6d 1 d f h fun g=>
 Ap (Gt K a g h) fun i h=>
 Acf K k5 a b d e f h
def H0(K:Nat):Nat->A5
 | 0=>fun _ _ _ _ _ _=>none
 | m+1=>fun a b d e f h=>
  cE Ky .lss 3 f e
  (Abr K (H0 K m) a b d e f h)
  (Tp K b h)
def Ti:R:=
 H5 b fun d=>
 H0 K K a b b d (.int .i64 0) h
def Ab3:Ru K R:=
 K3 e fun f=>
 k4 a b d f h
def Abz:R:=(.mk:Sg 0x18765430a92743027221311102e00215e701e20ce2101 [a,b,d,e] h [Es (Gb K),Es (fun g=>Bx [.int .i64 0] 3 1 1 [(0,g)]),El (D9 3 1),Vp (Ab3 K k4)]).F
def Hy(K:Nat):Nat->A4
 | 0=>fun _ _ _ _ _=>none
 | m+1=>fun a b d e h=>
  cE Ky .lss 3 e d
  (Abz K (Hy K m) a b d e h)
  (Ti K a b h)
def Sy:R:=(.mk:Sg 0x1002b034102101 [a] h [Es (E3 K),Vp (Hy K K)]).F
abbrev Uy(K:Nat)(c:Ai):Ai:=(w1 70 (E3 K) (w2 97 (Gt K) (w1 175 (Gb K) c)))
def Aas:Ru K R:=
 some (a,h)
def R7:R:=(.mk:Sg 0x131200123212e20ce522112101203 [a,b] h [Es (Ci K),El (Od K),Es (Aas K)] [] [] [(.int .i64 (-1))]).F
def Na:R:=
 pkA e f fun g=>
 ifE g
 (some (d,h))
 (R7 K a b h)
def Q9:R:=(.mk:Sg 0x12026a9510259dc51020fe7220190304e2a01525e012162114e722319e51c214422319e21c [a,b] h [El (Ej K),cl5 (Na K)] [] [] [(.int .i64 (-1))]).F
def Aae:Ru K R:=(.mk:Sg 0x1002321643c20ae233 [a] h).F
def Hw:R:=(.mk:Sg 0x1511003e0232820fe432010ee02328243 [a,b] h [El (H8 K),Es (Aae K)]).F
def Ab4:Ru K R:=
 some (a,h)
def Abu:Ru K R:=
 K3 e fun f=>
 k4 a b d f h
def Acy:R:=(.mk:Sg 0x1ba92400273303e243503e21107e7d01fe21007e53116e [a,b,d,e] h [Vp (Abu K k4)] [cu1 (fun f=>R6 .i64 f),cu1 (fun i=>R6 .u64 i)]).F
def Ko(K:Nat):Nat->A4
 | 0=>fun _ _ _ _ _=>none
 | m+1=>fun a b d e h=>
  cE Ky .lss 3 e d
  (Acy K (Ko K m) a b d e h)
  (Ab4 K a h)
def Abt:R:=(.mk:Sg 0x1002300410213e32201 [a,b] h [El (Jz K),Vp (Ko K K)]).F
def Iv:R:=(.mk:Sg 0x154220002411172820fe3101 [a,b] h [Es (Xj K),Es (fun a=>Jz K a (.int .i64 (-1))),El (Abt K)]).F
def Lg:R:=
 Ap (Jz K a b h) fun d h=>
 some (d,h)
def G9:Ru K R:=
 pkA a b fun d=>
 some (d,h)
def Jq:R:=(.mk:Sg 0x1202210242102101344c2a430be [a,b,d] h [Es (fun f=>Mm K f (.int .i64 0) (.int .i64 281474976710655)),El (G9 K)]).F
def Mq:R:=(.mk:Sg 0x120233102453102101334d2a430be [a,b,d] h [Es (fun f=>Mm K f (.int .i64 1) (.int .i64 4294967295)),K7 (Jq K)]).F
def Sj:R:=(.mk:Sg 0x120233102453102101324d2a430be [a,b,d] h [Es (fun f=>Mm K f (.int .i64 0) (.int .i64 65535)),K7 (Mq K)]).F
def J1:R:=(.mk:Sg 0x120243202463202111414d2a80102301204299e9 [a] h [K7 (Mm K),Es (fun f=>Mm K f (.int .i64 0) (.int .i64 65535)),K7 (Sj K)]).F
def Ahc:Ru K R:=
 It TT [.v a,.v b,.v d] h
def Ahe:R:=(.mk:Sg 0x123633050000000304ea512e20ce5722120ce34221232112101 [a] h [Es (fun a=>J3 K a (.int .i64 (-1))),El (J3 K),El (Od K),K7 (Ahc K)]).F
def W6:R:=(.mk:Sg 0x1311005e00000000304eb0023701e2101 [a] h [Es (Gw K),Es (Ahe K)]).F
def Acz:Ru r (Ru c R):=(.mk:Sg 0x1000e2ab323fff4f00e7242107e20ae94003fb32e10e24211e03f97232e5272e8b01e414e232e5212e6b4014e725704ba73311e0ee3233e6271e717e1e8e05e618e232011e57325304b673311e0ee2d5e0206e232007e434324 [a,b] h [El (Ao0 TT 227 246 false),El (Ot K),K7 (Ys TT 227)] [cu2 (fun d e=>Bq (Dh [(0,1),(1,1)]) [.int .i64 0,.int .i64 0] [(0,d),(1,e)]),cu2 (fun y aa=>Bq (Dh [(0,64),(64,1)]) (List.replicate 64 (.int .u8 0)++[.int .i64 0]) [(0,y),(1,aa)])] [[.int .i64 0,.int .i64 0],List.replicate 64 (.int .u8 0)++[.int .i64 0]]).F
def Aiv:R:=(.mk:Sg 0x189210000e2212e2456403ff3fa7232e52f2e9b5414e432e7310e302e5210e373011e0ee312e9 [a,b] h [c 209,El (Acz c r K)]).F
def Acp:R:=(.mk:Sg 0x10026220142116e203 [a,b,d] h [El (Hg K)]).F
def Om:R:=(.mk:Sg 0x165431003e0232820fe32201 [a,b,d] h [El (H8 K),K7 (Acp K)]).F
def Zl:R:=(.mk:Sg 0x122210142116e203 [a,b] h [Es (D5 K)]).F
def Jy:R:=(.mk:Sg 0x154210c0232820fe32201 [a,b] h [El (H8 K),El (Zl K)]).F
def Xe:Ru K (Ru r R):=(.mk:Sg 0x12242201203 [a,b] h [c 189]).F
def Hl:R:=(.mk:Sg 0x14321022522013f9e3a0053701e0023286509e [a,b,d,e,f] h [c 56,El (Xe c r K)]).F
def Kw:R:=(.mk:Sg 0x1202543500258765002724e22431c03e2d6509e [a,b,d,e,f] h [cl5 (Hl c r K)]).F
def Acv:R:=(.mk:Sg 0x12025435102365451043201d2d01324e [a,b,d] h [El (Ej K),cl5 (Kw c r K)] [] [] [(.int .i64 (-1))]).F
def Jk:Ru K R:=
 pkA a b fun d=>
 some (d,h)
def Mz:R:=(.mk:Sg 0x1202210242102101318e5c2a430be [a,b,d] h [Es (Ph K),El (Jk K)]).F
def Rw:R:=(.mk:Sg 0x120233102453102101354d2a430be [a,b,d] h [Es (fun f=>O7 K f (.int .i64 0) (.int .i64 65535)),K7 (Mz K)]).F
def Q4:R:=(.mk:Sg 0x120243202463202111434d2a2101214275e9 [a] h [Es (fun d=>O7 K d (.int .i64 0) (.int .i64 281474976710655)),Es (fun f=>O7 K f (.int .i64 0) (.int .i64 255)),K7 (Rw K)]).F
def Y9:Ru K R:=
 K3 e fun f=>
 k4 a b d f h
def Y6:R:=(.mk:Sg 0x1ba284200183603e321660c24211210141007e203 [a,b,d,e] h [Es (fun g=>Bx [.int .u8 0] 5 1 1 [(0,g)]),El (D9 5 1),Vp (Y9 K k4)] [cu1 (fun b=>R6 .u8 b)] [] [(.int .u64 8)]).F
def Iq(K:Nat):Nat->A4
 | 0=>fun _ _ _ _ _=>none
 | m+1=>fun a b d e h=>
  cE Ky .lss 3 e d
  (Y6 K (Iq K m) a b d e h)
  (some (.tuple [],h))
def Yq:R:=
 Iq K K a d b (.int .i64 0) h
def Oe:R:=(.mk:Sg 0x1543300000e5021631ca286509e [a,b,d,e,f] h [K7 (Yq K)]).F
def D7:R:=(.mk:Sg 0x1202654520248765206222e611101e2d20fe3101 [a,b,d] h [Es (Xj K),Es (Vf K),cl5 (Oe K)]).F
def Ya:R:=(.mk:Sg 0x122210142116e203 [a,b] h [Es (Gk K)]).F
def Pb:R:=(.mk:Sg 0x143210222212e32201 [a,b] h [El (Hw K),El (Ya K)]).F
def Ao5:R:=(.mk:Sg 0x197e08e1104e208e1ee602e13121001e32102e54210d32100e44230b321c342109321a2421073218142105321604232118242dbe90007e209e1606e2101334097e05e292e9 [a] h [Es (Nv K),El (fun j n=>D7 K j (.int .i64 6) n),K7 (D7 K),Es (Ai7 K)] [cu0 (Bq (Dh [(0,1),(1,1)]) [.Ao,.bool false] [])] [List.replicate 44 (.int .u8 0),[.int .i64 0,.int .i64 0,.int .i64 0,.int .i64 0,.int .i64 0,.int .i64 0]]).F
def Agk:Ru K (Ru r (Ru c R)):=(.mk:Sg 0x1002 [] h).F
def Agg:R:=(.mk:Sg 0x10000fe02328320be [a,b] h [cl0 (Agk c r K)]).F
def Mt:R:=(.mk:Sg 0x12022202322000722e92a00224e21112101203 [a,b] h [Es (Ci K),Es (Gw K),El (Agg c r K)]).F
def Af8:Ru K (Ru r (Ru c R)):=
 K3 e fun f=>
 k4 a b d f h
def Wo:R:=
 pkO f g fun i=>
 ifE i
 (Mt c r K a b h)
 (Af8 c r K k4 a b d e h)
def Agu:R:=(.mk:Sg 0x1202874360023985460000615e802e01e2d40fe [a,b,d,e,f,g] h [cl6 (Wo c r K k4)]).F
def Af4:R:=(.mk:Sg 0x18723656102220ee0215e701e20ce2101 [a,b,d,e] h [c 34,cl6 (Agu c r K k4)]).F
def Wk:R:=(.mk:Sg 0x187654200023623601e21112101203 [a,b,d,e] h [Es (Ci K),Es (Gw K),Vp (Af4 c r K k4)]).F
def J4(c:Ai)(r:Ai)(K:Nat):Nat->A4
 | 0=>fun _ _ _ _ _=>none
 | m+1=>fun a b d e h=>
  cE Ky .lss 3 e d
  (Wk c r K (J4 c r K m) a b d e h)
  (Mt c r K a b h)
def Ad8:R:=(.mk:Sg 0x1002764202301fe21112101203 [a,b] h [Es (Ca K),Es (Dn K),Vp (J4 c r K K)]).F
def Po:R:=(.mk:Sg 0x14320003e023285409e [a,b,d,e] h [El (Ad8 c r K)]).F
def Ad5:R:=(.mk:Sg 0x12024342026874202722e2111210130307e2d00320e [a,b] h [Es (Ca K),Es (Dn K),Vp (Po c r K)]).F
def Pj:Ru K R:=
 pkA a b fun d=>
 some (d,h)
def Pa:R:=(.mk:Sg 0x12022102521020053011021ee42405e2a540be [a,b,d,e] h [K7 (K8 K),El (Pj K)]).F
def Mc:R:=(.mk:Sg 0x120247430268b43020093211021ee21114650be2a2101265209e9 [a,b,d] h [Es (Md K),Es (Dn K),K7 (K8 K),Vp (Pa K)]).F
def Ab9:R:=(.mk:Sg 0x12010ea1204e3a32e620ce6220142116e203 [a,b,d,e] h [El (Hf K)]).F
def St:R:=(.mk:Sg 0x136544103010e41204e2432e60007e00e212e43201010e05e [a,b,d] h [El (Hw K),Vp (Ab9 K)] [cu0 (Bq (Nb 1) (List.replicate 64 (.int .u8 0)) [])] [List.replicate 64 (.int .u8 0)]).F
def Aec:Ru r R:=(.mk:Sg 0x122522112101203 [a,b] h [Es (Ch K),c 189]).F
def Aex:R:=(.mk:Sg 0x17623000233023701e6222121112101203 [a,b] h [Es (Ch K),Es (Ek K),El (Jy K),El (Aec c r K)]).F
def Adm:Ru K (Ru r (Ru c R)):=
 K3 f fun g=>
 k5 a b d e g h
def Ad7:R:=
 A6q d
 (some (d,h))
 (Adm c r K k5 a b e f g h)
def Afe:R:=(.mk:Sg 0x18765436008760ae043600a28980be [a,b,d,e,f,g,i,j] h [cl6 (Ad7 c r K k5)]).F
def Ady:R:=(.mk:Sg 0x120202e01e00e3dc8202303e02e01e400ed82002e425e00e2a00215e702e20ce2933171e77432e5406b21001e47573011e0ee210e032e06e232e56432e15e [a,b,d,e,f] h [Es (Ch K),c 187,cl8 (Afe c r K k5)] [] [List.replicate 64 (.int .u8 0)]).F
def Ld(c:Ai)(r:Ai)(K:Nat):Nat->A5
 | 0=>fun _ _ _ _ _ _=>none
 | m+1=>fun a b d e f h=>
  cE Ky .lss 3 f e
  (Ady c r K (Ld c r K m) a b d e f h)
  (Aex c r K a b h)
def Aey:R:=
 H5 d fun e=>
 Ld c r K K a b d e (.int .i64 0) h
def Ae8:R:=(.mk:Sg 0x1543310222212e32201 [a,b,d] h [c 186,K7 (Aey c r K)]).F
def Aky:R:=(.mk:Sg 0x13b9320222212e20ce8233171e77445405b21001e47373011e0ee392e9 [a,b,d] h [Es (Ki K),c 184,K7 (Ae8 c r K)]).F
def Aaz:R:=(.mk:Sg 0x122210142116e203 [a,b] h [Es (Gy K)]).F
def Qu:R:=(.mk:Sg 0x143210222212e32201 [a,b] h [El (Hw K),El (Aaz K)]).F
def Acm:Ru r R:=(.mk:Sg 0x122522112101203 [a,b] h [Es (Ch K),c 133]).F
def Ai5:R:=(.mk:Sg 0x17623000230023701e6222121112101203 [a,b] h [Es (Ch K),Es (Ek K),El (Jy K),El (Acm c r K)]).F
end
variable{K d:Nat}(H:Bv disp)
include H
theorem Amb(hd:1<=d):S1 disp K d 77 Ag8:=fun _=>rd rfl rfl H (V1 (Cy H) hd<|V1 (Qp H) hd<|rfl)
theorem Arf(hd:3<=d):R2 disp K d 85 (Xo K):=fun _ _=>ll H hd (fun d hd=>V2 (Af7 H) hd<|rfl) 25 (e5 (Mf K) 0 1 7 8 9)
theorem Ank(hd:1<=d):S2 disp K d 138 Aji:=fun _ _=>rd rfl rfl H (V1 (Yk H) hd<|rfl)
theorem Aes(hd:2<=d):R2 disp K d 183 (Od K):=fun _ _=>rl H hd fun d hd=>V1 (Sc H) hd<|rfl
theorem Vj(hd:2<=d):R2 disp K d 229 (Dx K):=fun _ _=>rl H hd fun d hd=>V1 (Hh H) hd<|rfl
theorem Air(hd:2<=d):R1 disp K d 17 (Wj K):=fun _=>rl H hd fun d hd=>V1 (Su H) hd<|rfl
theorem Anj(hd:1<=d):S1 disp K d 33 Ah9:=fun _=>ld rfl rfl H (V1 (Cy H) hd<|V1 (Fl H) hd<|V2 (Afm H) hd<|rfl) 51 (fun c r=>e4 (H2 c r K) 0 3 11 12)
theorem Arx(hd:4<=d):R4 disp K d 54 (Rx K):=fun _ _ _ _=>rl H hd fun d hd=>V1 (A23 H) hd<|V3 (Apb H) hd<|rfl
theorem Arv(hd:2<=d):S2 disp K d 56 Ano:=fun _ _=>rd rfl rfl H (V2 (Fu H) hd<|V2 (Ty H) hd<|rfl)
theorem Ahx(hd:1<=d):S1 disp K d 61 Aaw:=fun _=>ld rfl rfl H (V1 (Eh H) hd<|V1 (Cy H) hd<|V1 (Fl H) hd<|rfl) 207 (fun c r=>e3 (Fm c r K) 0 62 63)
theorem Apn(hd:3<=d):S2 disp K d 80 Ak6:=fun _ _=>rd rfl rfl H (V2 (Ak7 H) hd<|rfl)
theorem Akf(hd:3<=d){l:Nat}(tm:Az)(h:Aa)(k:EV){st:LoopState}{p:Option Code}(m:h.get l=some (.loop st p 80 40 tm [14] (E4 TT 80 0).2.2.1 (E4 TT 80 0).2.2.2 d0)):
 Ag TT disp K (d+1) true l [k] h=Afc (Ag TT disp K d false) (Ag TT disp K d true) K l (tmp tm 2) (tmp tm 4) k h:=rr rfl rfl (V2 (La H) hd<|V2 (Gp H) hd<|rfl) m rfl (by kernel_rfl)
theorem Apo(hd:1<=d):S2 disp K d 113 Alg:=fun _ _=>ld rfl rfl H (V1 (Apl H) hd<|rfl) 11 (fun c r m k tm h ds=>Lp c r K m tm (k 10) (k 11) (k 12) h ds)
theorem Akh(hd:1<=d){l:Nat}(tm:Az)(h:Aa)(m:EV)(k:EV){st:LoopState}{p:Option Code}(v:h.get l=some (.loop st p 113 27 tm [19,20] (E4 TT 113 0).2.2.1 (E4 TT 113 0).2.2.2 d0)):
 Ag TT disp K (d+1) true l [m,k] h=Ado (Ag TT disp K d false) (Ag TT disp K d true) K l (tmp tm 2) (tmp tm 3) k h:=rr rfl rfl (rfl) v rfl (by kernel_rfl)
theorem Ar3(hd:1<=d):S1 disp K d 129 Ayn:=fun _=>ld rfl rfl H (V1 (Rj H) hd<|V1 (Ame H) hd<|V1 (Am8 H) hd<|rfl) 2 (fun c r=>e1 (Jx c r K) 0)
theorem Als(hd:2<=d):R1 disp K d 130 (Q7 K):=fun _=>ll H hd (fun d hd=>V1 (W8 H) hd<|rfl) 103 (e3 (Jm K) 19 20 21)
theorem Aph(hd:2<=d):S1 disp K d 131 Ald:=fun _=>rd rfl rfl H (V2 (Awo H) hd<|V1 (Air H) hd<|rfl)
theorem Akn(hd:2<=d){l:Nat}(tm:Az)(h:Aa)(m:EV)(k:EV){st:LoopState}{p:Option Code}(v:h.get l=some (.loop st p 131 36 tm [29,30] (E4 TT 131 0).2.2.1 (E4 TT 131 0).2.2.2 d0)):
 Ag TT disp K (d+1) true l [m,k] h=Aeb (Ag TT disp K d false) (Ag TT disp K d true) K l (tmp tm 1) (tmp tm 2) k h:=rr rfl rfl (rfl) v rfl (by kernel_rfl)
theorem Abg(hd:3<=d):S2 disp K d 134 Ud:=fun _ _=>rd rfl rfl H (V2 (Fu H) hd<|V2 (Gp H) hd<|rfl)
theorem Aqv(hd:2<=d):R3 disp K d 143 (Adz K):=fun _ _ _=>ll H hd (fun d hd=>V3 (Ari H) hd<|rfl) 25 (e5 (Mv K) 0 1 9 10 11)
omit H in
theorem Al1(c v r:Ai)(K:Nat)(m:Nat):lpB false (Uy K c) v r K 146 103 [(2,fun k tm h ds=>Tp K (k 3) h)] m=(fun m k tm h ds=>H0 K m (k 0) (k 3) (k 24) (k 25) (k 26) h) m:=
 Uc (E:=fun m k tm h ds=>H0 K m (k 0) (k 3) (k 24) (k 25) (k 26) h) rfl (fun m=>A2r fun k tm h ds=>by kernel_rfl) m
omit H in
theorem Alv(c v r:Ai)(K:Nat)(m:Nat):lpB false (Uy K c) v r K 146 51 [(0,fun k tm h ds=>Ti K (k 0) (k 3) h)] m=(fun m k tm h ds=>Hy K m (k 0) (k 3) (k 9) (k 10) h) m:=
 Uc (E:=fun m k tm h ds=>Hy K m (k 0) (k 3) (k 9) (k 10) h) rfl (fun m=>A2r fun k tm h ds=>by kernel_rfl) m
theorem Ana(hd:2<=d):R1 disp K d 146 (Sy K):=by
 obtain⟨d,rfl⟩:∃e,d=e+1:=⟨d-1,by omega⟩;have hd:=Nat.le_of_succ_le_succ hd;exact fun _=>rm (q:=false) (D:=Uy K (Ag TT disp K d false)) (by kernel_rfl) rfl rfl H (V1 (Kt H) hd<|V2 (Ty H) hd<|V1 (Sc H) hd<|rfl) (cut [true,true,true,false,true,false] (Al1 (Ag TT disp K d false) (Ag TT disp K d false) (Ag TT disp K d true) K K) (by kernel_rfl) (by kernel_rfl) (cut [true,true,false,true,false] (Alv (Ag TT disp K d false) (Ag TT disp K d false) (Ag TT disp K d true) K K) (by kernel_rfl) (by kernel_rfl) rfl))
theorem Al7(hd:4<=d):R2 disp K d 158 (Q9 K):=fun _ _=>rl H hd fun d hd=>V2 (Gp H) hd<|V1 (F2 H) hd<|V2 (Aes H) hd<|rfl
theorem Lv(hd:2<=d):R2 disp K d 165 (Hw K):=fun _ _=>rl H hd fun d hd=>V2 (N2 H) hd<|rfl
theorem Aa3(hd:2<=d):R2 disp K d 169 (Iv K):=fun _ _=>ll H hd (fun d hd=>V1 (Ajm H) hd<|V2 (Yc H) hd<|rfl) 103 (e4 (Ko K) 5 15 16 17)
theorem We(hd:2<=d):R2 disp K d 170 (Lg K):=fun _ _=>rl H hd fun d hd=>V2 (Yc H) hd<|rfl
theorem Qj(hd:2<=d):R1 disp K d 171 (J1 K):=fun _=>rl H hd fun d hd=>V3 (Au3 H) hd<|rfl
theorem Ar1(hd:4<=d):R1 disp K d 176 (W6 K):=fun _=>rl H hd fun d hd=>V1 (Tk H) hd<|V2 (Yl H) hd<|V2 (Aes H) hd<|rfl
theorem Amg(hd:1<=d):S2 disp K d 180 Aiv:=fun _ _=>rd rfl rfl H (V2 (Aaq H) hd<|rfl)
theorem Aoi(hd:2<=d):R3 disp K d 181 (Om K):=fun _ _ _=>rl H hd fun d hd=>V2 (N2 H) hd<|V2 (Xz H) hd<|rfl
theorem X7(hd:2<=d):R2 disp K d 188 (Jy K):=fun _ _=>rl H hd fun d hd=>V2 (N2 H) hd<|V1 (Hj H) hd<|rfl
theorem Ai1(hd:3<=d):S3 disp K d 193 Acv:=fun _ _ _=>rd rfl rfl H (V2 (Gp H) hd<|rfl)
theorem Alz(hd:3<=d):R1 disp K d 199 (Q4 K):=fun _=>rl H hd fun d hd=>V3 (Ai3 H) hd<|V1 (Aks H) hd<|rfl
theorem Nd(hd:2<=d):R3 disp K d 200 (D7 K):=fun _ _ _=>ll H hd (fun d hd=>V1 (Ajm H) hd<|V1 (Aws H) hd<|rfl) 11 (e4 (Iq K) 0 2 18 19)
theorem Ajq(hd:3<=d):R2 disp K d 215 (Pb K):=fun _ _=>rl H hd fun d hd=>V2 (Lv H) hd<|V1 (Vm H) hd<|rfl
theorem Azv(hd:3<=d):R1 disp K d 226 (Ao5 K):=fun _=>rl H hd fun d hd=>V1 (Wx H) hd<|V3 (Nd H) hd<|V1 (Aql H) hd<|rfl
theorem Ael(hd:3<=d):S2 disp K d 20 Ad5:=fun _ _=>ld rfl rfl H (V1 (Cy H) hd<|V1 (Fl H) hd<|V1 (F2 H) hd<|V1 (Tk H) hd<|rfl) 51 (fun c r=>e4 (J4 c r K) 0 1 25 26)
theorem Ach(hd:4<=d):R3 disp K d 137 (Mc K):=fun _ _ _=>rl H hd fun d hd=>V1 (Ts H) hd<|V1 (Fl H) hd<|V3 (Ala H) hd<|rfl
theorem An1(hd:3<=d):R3 disp K d 139 (St K):=fun _ _ _=>rl H hd fun d hd=>V2 (Lv H) hd<|V2 (X0 H) hd<|rfl
theorem Ape(hd:2<=d):S3 disp K d 159 Aky:=fun _ _ _=>ld rfl rfl H (V1 (Ajl H) hd<|V1 (Eh H) hd<|V1 (Qo H) hd<|V2 (X7 H) hd<|rfl) 207 (fun c r=>e5 (Ld c r K) 0 2 34 35 36)
theorem Al9(hd:3<=d):R2 disp K d 160 (Qu K):=fun _ _=>rl H hd fun d hd=>V2 (Lv H) hd<|V1 (Xk H) hd<|rfl
theorem Anc(hd:2<=d):S2 disp K d 186 Ai5:=fun _ _=>rd rfl rfl H (V1 (Eh H) hd<|V1 (Qo H) hd<|V2 (X7 H) hd<|rfl)
end
end Go.Ev
