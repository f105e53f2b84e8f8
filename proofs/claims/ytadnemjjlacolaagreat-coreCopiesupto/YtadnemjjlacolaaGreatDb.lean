import Derived.Test.YtadnemjjlacolaaGreatDa
set_option linter.all false
namespace Go.Ev
open Go.Proofs
set_option maxRecDepth 100000
set_option maxHeartbeats 4000000
variable {d0:Nat}{disp:Nat->Option FT}
section
noncomputable section
section
variable (c r:Ah)(K l:Nat)(k0:A0)(k1:A1)(k2:A2)(k3:A3)(k4:A4)(k5:A5)(k6:A6)(k7:A7)(k8:A8)(k9:A9)(k10:A10)(k11:A11)(k12:A12)(m0:B0)(m1:B1)(m2:B2)(m3:B3)(m4:B4)(m5:B5)(m6:B6)(m7:B7)(m8:B8)(m9:B9)(m10:B10)(m11:B11)(m12:B12)(base:Nat)(s:DX)(tm:Ax)(a b d e f g i j n o p q t u w x y z aa ab ad ae af ag ai aj an ao ap aq au aw ax ay az ba bb bd be bf bg bi bj bn bo bp bq bt bu bw bx bz da db dd de df dg di dj dn dp dq dt du dw dx dy dz ea eb ed ee ef eg ei ej en eo ep eq et eu ew ex ey ez fa fb fd fe ff fg fi fj fn fo fp fq ft fu fw fx fy fz ga gb gd ge gf gg gi gj gn go gp gq gt gu gw gx gy gz ia ib ie ig ii ij io ip iq it iu iw ix iy iz ja jb:EV)(h:Ab)(ds:List Nat)
def Adu:Ru K (Ru r (Ru c R)):=(.mk:Sg 0x1002 [] h).F
def Akg:R:=(.mk:Sg 0x10100ee0230ee0215e701e32201 [a,b] h [c 134,cl0 (Adu c r K)]).F
def Adw:Ru K (Ru r R):=(.mk:Sg 0x129200e547823601518e5 [a,b,d,e,f,g] h [c 177]).F
def Aku:R:=(.mk:Sg 0x1456a9761025200e4212e983426601418e54fce33fbe3375e9 [a,b,d,e] h [c 177,cl6 (Adw c r K)]).F
def Yo:Ru K R:=(.mk:Sg 0x122243 [a] h).F
def Hc:Ru K R:=(.mk:Sg 0x12232211001 [a] h [cl0 (Cd (List.replicate 4 (.int .i64 0)++List.replicate 64 (.int .u8 0)) 32 68 0 []),D5 (E0 32 68)]).F
def D6:R:=(.mk:Sg 0x12100b023b027fe701e [a] h [Ey (Hc K)]).F
def H7:Ru K R:=(.mk:Sg 0x1000e321642c213e203 [a] h).F
def As7:Ru K R:=
 pkA a b fun d=>
 some (d,h)
def Yh:R:=(.mk:Sg 0x1202200232004321e82a10223e [a,b] h [D5 (As7 K)]).F
def Agi:Ru K R:=
 Iz d fun e=>
 k3 a b e h
def Agj:R:=
 fE 3 a h fun e=>
 Bv (Ed [(0,1),(1,1)]) [(.int .i64 0),(.int .i64 0)] [(0,b),(1,d)] fun f=>
 An (builtin TT .delete #[140,227] [e,f] h) fun _ h=>
 Agi K k3 a b d h
def Lr(K:Nat):Nat->A3
 | 0=>fun _ _ _ _=>none
 | m+1=>fun a b d h=>
  fE 0 a h fun e=>
  An (Se K e h) fun f h=>
  cE Iq .lss 3 d f
  (Agj K (Lr K m) a b d h)
  (some (.tuple [],h))
def Acy:R:=
 Lr K K a b d h
def Am2:Ru K (Ru r (Ru c R)):=(.mk:Sg 0x1002 [] h).F
def Wv:R:=(.mk:Sg 0x100005e023283209e [a,b] h [cl0 (Am2 c r K)]).F
def As8:R:=(.mk:Sg 0x12022202622000224e9221142116e86307e2d00220e232011e5740de404b265273b30c0ee339 [a,b] h [D5 (Fe K),D5 (fun o d=>c 191 [o,.func 192 [] [d]]),D5 (Wv c r K)]).F
def Te:Ru K (Ru r (Ru c R)):=
 some (a,h)
def Ah3:R:=(.mk:Sg 0x131102110400315e701e679301578301002167fdec012166fcec012165fbec4fde33fce32fbe3 [a] h [c 193,Ey (Te c r K)] [] [] [(.int .i64 (-1))]).F
def Rv:Ru K R:=(.mk:Sg 0x100010e71204e2732e6232e54232e15e203 [a,b,d] h).F
def K3:R:=(.mk:Sg 0x15433000be0010e61204e2632e6632e501e287609e [a,b,d,e,f,g] h [Lz (Rv K)]).F
def Jf:R:=(.mk:Sg 0x120245766002578a96002923e213e60303e2d00620e0ce0010e51204e2532e6332e501ec023701e433010e05e010e05e [a,b] h [cl6 (K3 K)] [] [List.replicate 64 (.int .u8 0)]).F
def Aol:Ru K R:=(.mk:Sg 0x1222d9e921007e32211001 [a] h [cl0 (Cd [.int .u8 0] 5 1 0 []),D5 (E0 5 1)] [cu1 (fun d=>Bv (Ed [(0,1),(1,1)]) [.Ao,.bool false] [(0,d)])]).F
def Atu:Ru K R:=(.mk:Sg 0x1002 [] h).F
def Asx:R:=(.mk:Sg 0x100004e023283209e [a,b] h [cl0 (Atu K)]).F
def V8:R:=(.mk:Sg 0x12022002520000222e213e30300e2d213 [a] h [D5 (Asx K)]).F
def Ace:Ru K R:=(.mk:Sg 0x1222650e403e20de251f2e19e725403e51007e01450e603e252e9 [a,b,d] h [] [cu1 (fun b=>Xp .u8 b)] [] [(.int .u64 8)]).F
def Hi:Ru K R:=(.mk:Sg 0x105e000200e002200e321ae80023701e201ae200201203 [a] h [D5 A4z]).F
def Zh:Ru K (Ru r (Ru c R)):=
 some (a,h)
def Qx:Ru K (Ru r (Ru c R)):=
 Iz f fun g=>
 k5 a b d e g h
def Ahp:R:=
 An (Ic K a e h) fun i h=>
 Qx c r K k5 a b d f g h
def Ahq:R:=
 An (Xq c r b [e] h) fun i h=>
 Arw i fun j=>
 ifE j
 (Iz d fun n=>
 Qx c r K k5 a b n f g h)
 (Ahp c r K k5 a b d e f g h)
def Ahi:R:=
 An (Hi K a h) fun g h=>
 x2E g fun i j=>
 Bbz j
 (Zh c r K d h)
 (Ahq c r K k5 a b d i e f h)
def Ms(c:Ah)(r:Ah)(K:Nat):Nat->A5
 | 0=>fun _ _ _ _ _ _=>none
 | m+1=>fun a b d e f h=>
  cE Iq .lss 3 f e
  (Ahi c r K (Ms c r K m) a b d e f h)
  (Zh c r K d h)
def Aou:R:=(.mk:Sg 0x100200435102101 [a,b] h [Ey (F6 K),cl5 (Ms c r K K)]).F
def Aog:Ru K R:=(.mk:Sg 0x1222325e30de [a,b] h).F
def Aat:Ru K R:=
 pkA a b fun d=>
 some (d,h)
def Kj:R:=(.mk:Sg 0x1202200252002620e213e303d2a00323e [a,b] h [D5 (Aat K)]).F
def Ag1:Ru K R:=
 pkA a b fun d=>
 some (d,h)
def Ado:R:=(.mk:Sg 0x12022002320090321e92a10223e [a] h [D5 (Ag1 K)]).F
def Agc:Ru K R:=(.mk:Sg 0x152321660c622107e403422007e203 [a,b] h [] [cu2 (fun d b=>Ant 1 d none (some b) (some b)),cu2 (fun f b=>Ant 1 f (some b) none none)]).F
def Afk:R:=(.mk:Sg 0x143200b025021641cb021630c05e285409e [a,b,d,e] h [D5 (Agc K)]).F
def Agp:R:=(.mk:Sg 0x12024340025764002622e213e30301e2d5409e [a,b,d,e] h [Zc (Afk K)]).F
def L8:R:=(.mk:Sg 0x120243400235440000420eb2d213 [a,b] h [Zc (Agp K)]).F
def Agw:Ru K R:=
 pkA a b fun d=>
 some (d,h)
def Ps:R:=(.mk:Sg 0x1202200232005321e82a3223e [a,b,d] h [D5 (Agw K)]).F
def T2:Ru K R:=(.mk:Sg 0x1000e321640c42201203 [a,b] h [D5 (E0 5 1)]).F
def Ao0:Ru K R:=(.mk:Sg 0x1002200e23211303001 [a] h [cl0 (Cd [.int .u8 0] 5 1 0 []),D5 (E0 5 1)]).F
def Qj:R:=(.mk:Sg 0x1310003e0b0200e628213 [a] h [Ey (Ao0 K)]).F
def Afv:Ru K (Ru r R):=(.mk:Sg 0x12276230142116e203 [a,b,d,e] h [Lz (fun g d e=>c 224 [g,d,.func 225 [] [e]])]).F
def Amk:R:=(.mk:Sg 0x1476541003e0232820fe43201510e9 [a,b,d,e] h [D5 (Kj K),Zc (Afv c r K)]).F
def Ah7:Ru K R:=(.mk:Sg 0x110e41104e2432e6232e5 [a,b] h).F
def Aio:Ru K R:=
 Iz e fun f=>
 k4 a b d f h
def Ah9:R:=(.mk:Sg 0x1ba9840032162f1e817ea7132e19e245403e20de20ae5b75132e19e20de232b52132e19e0ee [a,b,d,e] h [Zc (Aio K k4)]).F
def Mt(K:Nat):Nat->A4
 | 0=>fun _ _ _ _ _=>none
 | m+1=>fun a b d e h=>
  cE Iq .lss 3 e (.int .i64 64)
  (Ah9 K (Mt K m) a b d e h)
  (Ah7 K a d h)
def Rs:R:=(.mk:Sg 0x100234400010e05e410e9210e9 [a,b] h [Zc (Mt K K)] [] [List.replicate 64 (.int .u8 0)]).F
def Fj:Ru K R:=(.mk:Sg 0x1000e000e521633c9285409e [a,b,d,e] h).F
def Fc:R:=(.mk:Sg 0x1204324002543400650bea4d [a,b,d,e,f] h [Zc (Fj K)]).F
def Hg:R:=(.mk:Sg 0x120543250027654500c0225e23301e5a [a,b,d,e] h [cl5 (Fc K)]).F
def Jb:R:=(.mk:Sg 0x120243400235440060424eb2dc0324e [a,b] h [Zc (Hg K)]).F
def Pj:Ru K R:=(.mk:Sg 0x1002 [] h).F
def Ef:R:=(.mk:Sg 0x10000ae0236023701e0ce023c023701e233 [a] h [cl0 (Pj K)]).F
def Ag3:Ru K R:=
 pkA a b fun d=>
 some (d,h)
def Tg:R:=(.mk:Sg 0x1202200232005321e82a3223e [a,b,d] h [D5 (Ag3 K)]).F
def Ad4:Ru K R:=(.mk:Sg 0x1402 [] h).F
def Vm:Ru K R:=
 pkA a b fun d=>
 some (d,h)
def Ou:Ru K R:=
 pkA a b fun d=>
 some (d,h)
def Vn:R:=(.mk:Sg 0x1202200262002323e702e0007e212e53614e05e2a430be [a,b,d] h [D5 (Ou K)] [cu0 (Bv (Mv 1) (List.replicate 32 (.int .u8 0)) [])]).F
def Vg:Ru K R:=
 pkA a b fun d=>
 some (d,h)
def Tv:R:=(.mk:Sg 0x10402022302423000224e544c2a10224e3240ee6023701e202532026932021043012011ee63454409e2a10224e3241ae3023701e2022102421000224e544c2ac010230132412e1023701e204275e9 [a] h [Lz (Tg K),D5 (Vm K),Lz (Vn K),D5 (Vg K),cl0 (Ad4 K)] [] [] [(.int .i64 256)]).F
def Aun:Ru K R:=
 some (a,h)
def Adk:R:=(.mk:Sg 0x13100d023284309e [a,b,d] h [Ey (Aun K)]).F
def Ab8:R:=(.mk:Sg 0x1202430023530090422ea2d00220e [a,b] h [Lz (Adk K)]).F
def Auw:Ru K R:=(.mk:Sg 0x12320040ae0123603e [a,b] h [D5 k2] [] [] [(.int .u64 8)]).F
def Oo(K:Nat):Nat->A2
 | 0=>fun _ _ _=>none
 | m+1=>fun a b h=>
  Ale (bin TT .shr 3) a (.int .u64 8) fun d=>
  cE Beh .gtr 3 d (.int .i64 0)
  (Auw K (Oo K m) a b h)
  (Ab8 K a b h)
def Aa7:R:=
 Oo K K a (.int .i64 1) h
def Pb:Ru K R:=(.mk:Sg 0x10023232e627fff4f01e17e8632e15e28201fe04fd7232e52fc03fcb5232e15e31c03f9011e273011e0ee [a,b,d] h [D5 (fun d i=>Xq c r d [i])]).F
def Gq:R:=(.mk:Sg 0x15433000be023286509e [a,b,d,e,f] h [Lz (Pb c r K)]).F
def Ll:R:=(.mk:Sg 0x1202543500258765002623e213e30302e2d00320e [a,b,d] h [cl5 (Gq c r K)]).F
def Ahs:R:=(.mk:Sg 0x110e51104e2532e623201632e5332e5010e05e210e9 [a,b] h [D5 (Rs K)] [] [List.replicate 64 (.int .u8 0)]).F
def Pu:Ru K R:=(.mk:Sg 0x10025021634c3021623c [a] h).F
def Hu:R:=(.mk:Sg 0x13110222212e2101 [a] h [Ey (Ef K),Ey (Pu K)]).F
def Apd:R:=(.mk:Sg 0x197e91104e291ee671ee54221151007e20ce4101097e05e097e05e [a] h [Ey (Qj K),builtin TT .copy #[173,173]] [cu1 (fun d=>Uk 44 1 d none none none)] [List.replicate 44 (.int .u8 0)]).F
def Abb:Ru K (Ru r (Ru c R)):=(.mk:Sg 0x1002 [] h).F
def Ae8:R:=(.mk:Sg 0x10c00c0242b11e57236e5284b5414e21a3275191170ee13e0123701e2226281314ad023701e2226271314a9023701e22516161123701e22515168023701e2226241314ac023701e32323e012e06e20ce2623131403e6023701e2223732142431400e3023701e2227211210133ae500e1023701e204214e9 [a,b] h [Ey (F9 K),c 45,c 30,c 47,c 59,c 60,c 61,c 27,c 20,Ey (Fh K),Ey (Cp K),c 63,cl0 (Abb c r K)] [] [List.replicate 32 (.int .u8 0)] [(.int .i64 9),(.int .i64 6)]).F
def Ael(c:Ah)(r:Ah)(K:Nat)(tm:Ax)(a:EV)(h:Ab)(ds:List Nat):R:=
 stE 1 a (.bool false) h fun h=>
 E1 ds h fun h=>Ji TT [.c a 4] h
def Awj:R:=
 (fun(tm:Ax) (ds:List Nat)=>
 Wy 3 b h fun d h=>
 Avo (.cells [(.bool false)] 4) h fun e h=>
 An (An0 K a h) fun f h=>
 Zk c TT 29 14 0 f ((((tm.put 3 (some d)).put 4 (some e)).put 7 (some a)).put 8 (some f)) h ds (fun h ds=>
 Ael c r K ((((tm.put 3 (some d)).put 4 (some e)).put 7 (some a)).put 8 (some f)) e h ds) (fun id h ds=>
 Bf (Nat.beq 0 id) (Ael c r K ((((tm.put 3 (some d)).put 4 (some e)).put 7 (some a)).put 8 (some f)) e h ds) (none)) (fun h ds=>
 E1 ds h fun h=>Ji TT [.c e 4] h)) ((Tr.nil.put 0 (some a)).put 1 (some b)) []
def Aga:Ru K (Ru r (Ru c R)):=(.mk:Sg 0x1010000504168253701e20de [a,b,d] h [cl0 (Vh l false .done (some .ret)),cl0 (Vh l true .ready none)]).F
def Aon:R:=
 Fs l h fun h=>Aga c r K l a b d h
def Ac8(c:Ah)(r:Ah)(K:Nat)(tm:Ax)(a:EV)(h:Ab)(ds:List Nat):R:=
 stE 1 a (.bool false) h fun h=>
 E1 ds h fun h=>Ji TT [.c a 4] h
def As5:R:=
 (fun(tm:Ax) (ds:List Nat)=>
 Wy 3 b h fun d h=>
 Avo (.cells [(.bool false)] 4) h fun e h=>
 An (Akf K a h) fun f h=>
 Zk c TT 55 12 0 f ((((tm.put 3 (some d)).put 4 (some e)).put 6 (some a)).put 7 (some f)) h ds (fun h ds=>
 Ac8 c r K ((((tm.put 3 (some d)).put 4 (some e)).put 6 (some a)).put 7 (some f)) e h ds) (fun id h ds=>
 Bf (Nat.beq 0 id) (Ac8 c r K ((((tm.put 3 (some d)).put 4 (some e)).put 6 (some a)).put 7 (some f)) e h ds) (none)) (fun h ds=>
 E1 ds h fun h=>Ji TT [.c e 4] h)) ((Tr.nil.put 0 (some a)).put 1 (some b)) []
def Ad5:Ru K (Ru r (Ru c R)):=(.mk:Sg 0x1010000504168253701e20de [a,b,d] h [cl0 (Vh l false .done (some .ret)),cl0 (Vh l true .ready none)]).F
def Am4:R:=
 Fs l h fun h=>Ad5 c r K l a b d h
def Qr:Ru K R:=(.mk:Sg 0x10024021654c0021643c0021632cb021620c [a] h).F
def Ii:R:=(.mk:Sg 0x13110222212e2101 [a] h [Ey (Ef K),Ey (Qr K)]).F
def Gc:Ru K (Ru r (Ru c R)):=
 pkA a b fun d=>
 some (d,h)
def Ho:R:=(.mk:Sg 0x12022202622020fe62211210130305e2a540be [a,b,d,e] h [Ey (Ce K),c 29,D5 (Gc c r K)]).F
def Kg:R:=(.mk:Sg 0x120243410257641020fe5220131303e2a540be [a,b,d,e] h [c 55,Zc (Ho c r K)]).F
def Q0:R:=(.mk:Sg 0x120243410257641020fe5220130303e2a540be [a,b,d,e] h [D5 (Fp K),Zc (Kg c r K)]).F
def Zm:R:=(.mk:Sg 0x12024340023544005425ea2a650be [a,b,d,e,f] h [Zc (Q0 c r K)]).F
def Apl:R:=(.mk:Sg 0x12027cb530238dc5308c25eb2a00223ea22212111703421ae20ce2101203 [a,b] h [Ey (K9 K),Ey (Ch K),D5 (Fe K),cl5 (Zm c r K)]).F
end
variable{K d:Nat}(H:Bj disp)
include H
theorem Aqt(hd:0<=d):S2 disp K d 107 Akg:=fun _ _=>rd rfl rfl H rfl
theorem Aqd(hd:0<=d):S4 disp K d 148 Aku:=fun _ _ _ _=>rd rfl rfl H rfl
theorem At3(hd:1<=d):R1 disp K d 152 (Yo K):=fun _=>rl H hd
theorem W6(hd:1<=d):R1 disp K d 154 (D6 K):=fun _=>rl H hd
theorem Adn(hd:1<=d):R1 disp K d 156 (H7 K):=fun _=>rl H hd
theorem A2z(hd:1<=d):R2 disp K d 157 (Yh K):=fun _ _=>rl H hd
theorem Arx(hd:2<=d):R3 disp K d 161 (Acy K):=fun _ _ _=>ll H hd (fun d hd=>V1 (Ae9 H) hd<|rfl) 5 (e3 (Lr K) 0 1 6)
theorem Axd(hd:2<=d):S2 disp K d 162 As8:=fun _ _=>rd rfl rfl H (V2 (Gy H) hd<|rfl)
theorem Apg(hd:0<=d):S1 disp K d 163 Ah3:=fun _=>rd rfl rfl H rfl
theorem Adt(hd:1<=d):R2 disp K d 166 (Jf K):=fun _ _=>rl H hd
theorem Av9(hd:1<=d):R1 disp K d 168 (Aol K):=fun _=>rl H hd
theorem Arz(hd:1<=d):R1 disp K d 172 (V8 K):=fun _=>rl H hd
theorem Axm(hd:1<=d):R3 disp K d 174 (Ace K):=fun _ _ _=>rl H hd
theorem Xu(hd:1<=d):R1 disp K d 175 (Hi K):=fun _=>rl H hd
theorem Auk(hd:1<=d):S2 disp K d 191 Aou:=fun _ _=>ld rfl rfl H (V1 (Mw H) hd<|V2 (Zy H) hd<|V1 (Xu H) hd<|rfl) 51 (fun c r=>e5 (Ms c r K) 0 1 5 9 10)
theorem Auq(hd:1<=d):R2 disp K d 192 (Aog K):=fun _ _=>rl H hd
theorem Qz(hd:1<=d):R2 disp K d 195 (Kj K):=fun _ _=>rl H hd
theorem Aot(hd:1<=d):R1 disp K d 196 (Ado K):=fun _=>rl H hd
theorem Ad3(hd:1<=d):R2 disp K d 197 (L8 K):=fun _ _=>rl H hd
theorem A04(hd:1<=d):R3 disp K d 198 (Ps K):=fun _ _ _=>rl H hd
theorem Ah8(hd:1<=d):R2 disp K d 201 (T2 K):=fun _ _=>rl H hd
theorem Ade(hd:1<=d):R1 disp K d 202 (Qj K):=fun _=>rl H hd
theorem Ar4(hd:1<=d):S4 disp K d 209 Amk:=fun _ _ _ _=>rd rfl rfl H (V2 (Qz H) hd<|rfl)
theorem Afc(hd:1<=d):R2 disp K d 210 (Rs K):=fun _ _=>ll H hd (fun _ _=>rfl) 25 (e4 (Mt K) 2 3 4 6)
theorem Ads(hd:1<=d):R2 disp K d 211 (Jb K):=fun _ _=>rl H hd
theorem Jh(hd:1<=d):R1 disp K d 216 (Ef K):=fun _=>rl H hd
theorem Ao2(hd:1<=d):R3 disp K d 217 (Tg K):=fun _ _ _=>rl H hd
theorem Apv(hd:2<=d):R1 disp K d 218 (Tv K):=fun _=>rl H hd fun d hd=>V3 (Ao2 H) hd<|rfl
theorem A2x(hd:1<=d):R1 disp K d 219 (Aa7 K):=fun _=>ll H hd (fun _ _=>rfl) 27 (e2 (Oo K) 0 3)
theorem Abp(hd:0<=d):S3 disp K d 224 Ll:=fun _ _ _=>rd rfl rfl H rfl
theorem Aoe(hd:2<=d):R2 disp K d 225 (Ahs K):=fun _ _=>rl H hd fun d hd=>V2 (Afc H) hd<|rfl
theorem Abq(hd:2<=d):R1 disp K d 230 (Hu K):=fun _=>rl H hd fun d hd=>V1 (Jh H) hd<|rfl
theorem Awf(hd:2<=d):R1 disp K d 235 (Apd K):=fun _=>rl H hd fun d hd=>V1 (Ade H) hd<|rfl
theorem Anz(hd:2<=d):S2 disp K d 13 Ae8:=fun _ _=>rd rfl rfl H (V1 (Ua H) hd<|V1 (Ln H) hd<|V1 (Fa H) hd<|rfl)
theorem A0a(hd:1<=d):S2 disp K d 29 Awj:=fun _ _=>rd rfl rfl H (V1 (Azo H) hd<|rfl)
theorem Ata(hd:1<=d){l:Nat}(tm:Ax)(h:Ab)(m:EV)(k:EV){st:LoopState}{p:Option Code}(v:h.get l=some (.loop st p 29 14 tm [9,10] (E4 TT 29 0).2.2.1 (E4 TT 29 0).2.2.2 d0)):
 Ae TT disp K (d+1) true l [m,k] h=Aon (Ae TT disp K d false) (Ae TT disp K d true) K l (tmp tm 3) (tmp tm 4) k h:=rr rfl rfl (rfl) v rfl (by kernel_rfl)
theorem Aw3(hd:1<=d):S2 disp K d 55 As5:=fun _ _=>rd rfl rfl H (V1 (Awx H) hd<|rfl)
theorem Asf(hd:1<=d){l:Nat}(tm:Ax)(h:Ab)(k:EV){st:LoopState}{p:Option Code}(m:h.get l=some (.loop st p 55 12 tm [8] (E4 TT 55 0).2.2.1 (E4 TT 55 0).2.2.2 d0)):
 Ae TT disp K (d+1) true l [k] h=Am4 (Ae TT disp K d false) (Ae TT disp K d true) K l (tmp tm 3) (tmp tm 4) k h:=rr rfl rfl (rfl) m rfl (by kernel_rfl)
theorem Acz(hd:2<=d):R1 disp K d 190 (Ii K):=fun _=>rl H hd fun d hd=>V1 (Jh H) hd<|rfl
theorem Auh(hd:3<=d):S2 disp K d 19 Apl:=fun _ _=>rd rfl rfl H (V1 (Ab3 H) hd<|V1 (Df H) hd<|V2 (Gy H) hd<|V1 (Fx H) hd<|V2 (H3 H) hd<|rfl)
end
end
noncomputable section
section
variable (c r:Ah)(K l:Nat)(k0:A0)(k1:A1)(k2:A2)(k3:A3)(k4:A4)(k5:A5)(k6:A6)(k7:A7)(k8:A8)(k9:A9)(k10:A10)(k11:A11)(k12:A12)(m0:B0)(m1:B1)(m2:B2)(m3:B3)(m4:B4)(m5:B5)(m6:B6)(m7:B7)(m8:B8)(m9:B9)(m10:B10)(m11:B11)(m12:B12)(base:Nat)(s:DX)(tm:Ax)(a b d e f g i j n o p q t u w x y z aa ab ad ae af ag ai aj an ao ap aq au aw ax ay az ba bb bd be bf bg bi bj bn bo bp bq bt bu bw bx bz da db dd de df dg di dj dn dp dq dt du dw dx dy dz ea eb ed ee ef eg ei ej en eo ep eq et eu ew ex ey ez fa fb fd fe ff fg fi fj fn fo fp fq ft fu fw fx fy fz ga gb gd ge gf gg gi gj gn go gp gq gt gu gw gx gy gz ia ib ie ig ii ij io ip iq it iu iw ix iy iz ja jb:EV)(h:Ab)(ds:List Nat)
def Amf:Ru r R:=(.mk:Sg 0x1222522121112101203 [a] h [Ey (Ch K),Ey (Jm K),c 20]).F
def Adj:Ru K R:=
 pkA a b fun d=>
 some (d,h)
def Al2:R:=(.mk:Sg 0x120220024200c0221e413eb2a10223e213e [a] h [D5 (Adj K)]).F
def Anj:Ru K R:=
 Iz f fun g=>
 k5 a b d e g h
def Alq:R:=(.mk:Sg 0x1cba9851040232820fe26201204246e013e06e213e56413e15e [a,b,d,e,f] h [D5 (U9 K),cl5 (Anj K k5)] [] [[.int .i64 0]++List.replicate 32 (.int .u8 0)]).F
def P9(K:Nat):Nat->A5
 | 0=>fun _ _ _ _ _ _=>none
 | m+1=>fun a b d e f h=>
  cE Iq .lss 3 f e
  (Alq K (P9 K m) a b d e f h)
  (Al2 K b h)
def Ac4:R:=
 F3 b fun d=>
 P9 K K a b b d (.int .i64 0) h
def Zp:Ru K (Ru r R):=(.mk:Sg 0x1000e000e3101628430be [a,b,d] h [c 129]).F
def Apf:R:=(.mk:Sg 0x120233102563102620e210130302e2a00323e [a,b] h [Ey (Po K),Lz (Zp c r K)]).F
def Alo:R:=(.mk:Sg 0x123200e20ce210142116e263 [a,b] h [Ey (Hi K)]).F
def Abu:R:=(.mk:Sg 0x14320003e000200e6285409e [a,b,d,e] h [D5 (Alo K)]).F
def Sb:R:=(.mk:Sg 0x12024340025764002623e213e36301e2d00320e [a,b] h [Zc (Abu K)]).F
def Ju:Ru K R:=(.mk:Sg 0x1002200e1021ee213e203 [a] h).F
def Pn:R:=(.mk:Sg 0x1b120c12030216b3cc233701ea13213e8031021673c321623ff3fa17e60c242170e772101618e432e5405b200e4011e0ee [a,b] h [Ey (fun e=>Cd (List.replicate 64 (.int .u8 0)) 30 64 1 [(0,e)]),D5 (E0 30 64),Ey (Ju K)]).F
def J3:R:=(.mk:Sg 0x14320007e000200e63023701e233 [a,b] h [D5 (Pn K)]).F
def Eh:R:=(.mk:Sg 0x134210200200e5212e3101310e9 [a,b] h [Ey (Ef K),D5 (J3 K)]).F
def Tc:R:=(.mk:Sg 0x1222101263 [a] h [Ey (Ei K)]).F
def Ahn:Ru K (Ru r (Ru c R)):=
 some (a,h)
def Q4:Ru K (Ru r (Ru c R)):=
 Iz e fun f=>
 k4 a b d f h
def Zv:R:=(.mk:Sg 0x1764340076534007288709e [a,b,d,e,f,g,i] h [Zc (Q4 c r K k4)]).F
def Ail:R:=(.mk:Sg 0x12028754371025ba8767102820e5220132307e2d01324e [a,b,d,e,f,g] h [D5 (H5 K),cl7 (Zv c r K k4)] [] [] [(.int .i64 (-1))]).F
def M0:R:=
 pkO i j fun n=>
 ifE n
 (Q4 c r K k4 a b f g h)
 (Ail c r K k4 a b d e f g h)
def Qy:R:=(.mk:Sg 0x120287654381024a9876581020fe5320104e2d9809e [a,b,d,e,f,g,i,j] h [c 80,cl8 (M0 c r K k4)]).F
def Ahr:R:=(.mk:Sg 0x12029849768302700ed900ecb8302522e21007e21217034301fe0fe2d20fe7421162201223 [a,b,d,e] h [D5 (H5 K),c 19,Ey (Ch K),cl8 (Qy c r K k4)] [cu1 (fun p=>Aej 2 false 0 p)]).F
def Ka(c:Ah)(r:Ah)(K:Nat):Nat->A4
 | 0=>fun _ _ _ _ _=>none
 | m+1=>fun a b d e h=>
  cE Iq .lss 3 e d
  (Ahr c r K (Ka c r K m) a b d e h)
  (Ahn c r K b h)
def Apj:R:=
 fE 0 a h fun b=>
 An (Ch K b h) fun d h=>
 An (Da K d h) fun e h=>
 Ka c r K K a (.int .i64 (-1)) e (.int .i64 0) h
def Ano:Ru K R:=(.mk:Sg 0x10024226522319e31c542007e [a,b,d,e] h [] [cu2 (fun d e=>Bv (Ed [(0,1),(1,1)]) [.int .i64 0,.int .i64 0] [(0,d),(1,e)])]).F
def Anm:R:=(.mk:Sg 0x1654340003e023287609e [a,b,d,e,f,g] h [Zc (Ano K)]).F
def Amm:R:=(.mk:Sg 0x12065432600276543600870bec6d [a,b,d,e,f,g,i] h [cl6 (Anm K)]).F
def Ama:R:=(.mk:Sg 0x120765432700287654370001425e00e7a [a,b,d,e,f,g] h [cl7 (Amm K)] [] [] [(.int .i64 (-1))]).F
def Am3:R:=(.mk:Sg 0x120265436002376546006524ec2d7609e [a,b,d,e,f,g] h [cl6 (Ama K)]).F
def Alm:R:=(.mk:Sg 0x1202654361024876561020fe64330103e2d7609e [a,b,d,e,f,g] h [Lz (Ty K),cl6 (Am3 K)]).F
def X8:R:=(.mk:Sg 0x1202765462024987662020fe65431103e2d20fe3101 [a,b,d,e] h [Ey (Azm K),Lz (Ty K),cl6 (Alm K)]).F
def Am9:Ru r (Ru c R):=(.mk:Sg 0x1225220152116e263 [a,b,d] h [D5 (Ic K)]).F
def At8:R:=(.mk:Sg 0x137632006e023286521103e0230023301e5220126520c [a,b] h [D5 (Fe K),c 29,Lz (Am9 c r K)]).F
def Aa9:Ru K (Ru r (Ru c R)):=(.mk:Sg 0x1002 [] h).F
def L6:Ru K (Ru r (Ru c R)):=
 Iz d fun e=>
 k3 a b e h
def Aa5:R:=(.mk:Sg 0x1653310222212e32201 [a,b,d,e] h [c 101,Lz (L6 c r K k3)]).F
def Abg:R:=(.mk:Sg 0x1656442065431062820fe42201 [a,b,d] h [c 100,Lz (L6 c r K k3),Zc (Aa5 c r K k3)]).F
def Gt(c:Ah)(r:Ah)(K:Nat):Nat->A3
 | 0=>fun _ _ _ _=>none
 | m+1=>fun a b d h=>
  cE Iq .lss 3 d b
  (Abg c r K (Gt c r K m) a b d h)
  (Aa9 c r K h)
def Abh:R:=(.mk:Sg 0x1002532021112101203 [a] h [Ey (Ch K),Ey (Da K),Lz (Gt c r K K)]).F
def Abm:R:=(.mk:Sg 0x105e110222212e20ce2a20ffffff6f0ae723574007e00e3800006f08e211e23c0005f04e210ec3c21e004fd110ea3c2e2e8010e83c773111e0ee42162014e53c20ae20423c [a] h [c 99,Ey (Abh c r K)] [cu4 (fun n p t u=>Bv (Ed [(0,1),(1,1),(2,1),(3,1)]) [.int .i64 0,.int .i64 0,.int .i64 0,.E3] [(0,n),(1,p),(2,t),(3,u)])]).F
def Afi:R:=(.mk:Sg 0x15120222212e21112101203 [a] h [Ey (Cp K),c 98,Ey (Abm c r K)]).F
def Aay(c:Ah)(r:Ah)(K:Nat)(tm:Ax)(a:EV)(h:Ab)(ds:List Nat):R:=
 stE 1 a (.bool true) h fun h=>
 E1 ds h fun h=>Ji TT [.c a 4] h
def Arj:R:=
 (fun(tm:Ax) (ds:List Nat)=>
 Wy 26 a h fun d h=>
 Avo (.cells [(.bool false)] 4) h fun e h=>
 Fm d h fun f=>
 Axv f fun g=>
 Alc 2 g fun i=>
 Fm i h fun j=>
 An (Afm K j b h) fun n h=>
 Zk c TT 80 40 0 n ((((((((tm.put 2 (some d)).put 4 (some e)).put 8 (some f)).put 9 (some g)).put 10 (some i)).put 11 (some j)).put 12 (some b)).put 13 (some n)) h ds (fun h ds=>
 Aay c r K ((((((((tm.put 2 (some d)).put 4 (some e)).put 8 (some f)).put 9 (some g)).put 10 (some i)).put 11 (some j)).put 12 (some b)).put 13 (some n)) e h ds) (fun id h ds=>
 Bf (Nat.beq 0 id) (Aay c r K ((((((((tm.put 2 (some d)).put 4 (some e)).put 8 (some f)).put 9 (some g)).put 10 (some i)).put 11 (some j)).put 12 (some b)).put 13 (some n)) e h ds) (none)) (fun h ds=>
 E1 ds h fun h=>Ji TT [.c e 4] h)) ((Tr.nil.put 0 (some a)).put 1 (some b)) []
def Dj(c:Ah)(r:Ah)(K:Nat)(l:Nat)(base:Nat)(s:DX)(a:EV)(b:EV)(d:EV)(h:Ab):R:=
 pkO b d fun e=>
 ifE e
 (stE 1 a (.bool false) h fun h=>
 Vh l false .done (some .ret) h)
 (Vh l true .ready none h)
def Aco:R:=
 Fm a h fun e=>
 fE 2 e h fun f=>
 An (Gp K f d h) fun g h=>
 x2E g fun i j=>
 nsE 6 [(.int .i64 0),(.int .i64 0),(.int .i64 0),(.int .i64 0),(.int .i64 0),(.int .i64 0)] 47 i h fun n h=>
 Adz h fun base s=>
 P8 0 0 base a s fun s=>Fm a h fun o=>
 Ax8 0 3 7 base o s h fun s p=>
 olE 1 5 16 base n s h fun s q=>
 L5 6 63 s h (fun h=>(Fp K p q h)) fun t h s=>
 wfE t
 (P8 8 255 base a s fun s=>Fm a h fun u=>
 Ax8 0 11 2047 base u s h fun s w=>
 olE 2 13 4351 base n s h fun s x=>
 L5 14 16383 s h (fun h=>(Fp K w x h)) fun y h s=>
 Dj c r K l base s b t y h)
 (Dj c r K l base s b t tU h)
def Aj3:R:=
 Fs l h fun h=>Aco c r K l a b d h
def Tn:Ru K (Ru r (Ru c R)):=
 Iz d fun e=>
 m3 ((tm.put 26 (some e)).put 12 (some e)) a b e h ds
def Ajv:R:=
 Z8 1 a d fun e=>
 Fm e h fun f=>
 nsE 1 [(.int .i64 0)] 3 d h fun g h=>
 An (Ag6 K f h) fun i h=>
 Zk c TT 113 27 0 i (((((((tm.put 14 (some d)).put 15 (some e)).put 16 (some f)).put 3 (some g)).put 4 (some f)).put 17 (some f)).put 18 (some i)) h ds (fun h ds=>
 Tn c r K m3 (((((((tm.put 14 (some d)).put 15 (some e)).put 16 (some f)).put 3 (some g)).put 4 (some f)).put 17 (some f)).put 18 (some i)) a b d h ds) (fun id h ds=>
 Bf (Nat.beq 2 id) (Tn c r K m3 (((((((tm.put 14 (some d)).put 15 (some e)).put 16 (some f)).put 3 (some g)).put 4 (some f)).put 17 (some f)).put 18 (some i)) a b d h ds) (Bf (Nat.beq 1 id) (Tn c r K m3 (((((((tm.put 14 (some d)).put 15 (some e)).put 16 (some f)).put 3 (some g)).put 4 (some f)).put 17 (some f)).put 18 (some i)) a b d h ds) (Bf (Nat.beq 0 id) (E1 ds h fun h=>some (.tuple [],h)) (none)))) (fun h ds=>
 uwE tU h ds)
def Ol(c:Ah)(r:Ah)(K:Nat):Nat->B3
 | 0=>fun _ _ _ _ _ _=>none
 | m+1=>fun tm a b d h ds=>
  Axi d b fun e=>
  ifE e
  (Ajv c r K (Ol c r K m) (tm.put 13 (some e)) a b d h ds)
  (uwE tU h ds)
def Arq:R:=
 (fun(tm:Ax) (ds:List Nat)=>
 Wy 153 a h fun d h=>
 Fm b h fun e=>
 Axv e fun f=>
 Alc 6 f fun g=>
 Fm g h fun i=>
 F3 i fun j=>
 Ol c r K K (((((((tm.put 2 (some d)).put 7 (some e)).put 8 (some f)).put 9 (some g)).put 10 (some i)).put 11 (some j)).put 12 (some (.int .i64 0))) i j (.int .i64 0) h ds) ((Tr.nil.put 0 (some a)).put 1 (some b)) []
def Adf:Ru K R:=(.mk:Sg 0x102001032820fe62330140de20de [a,b,d] h [Lz (fun e f d=>Xq c r e [f,d]),cl0 (Vh l false .done (some .ret)),cl0 (Vh l true .ready none)]).F
def Ajw:R:=
 Fs l h fun h=>Adf c r K l a b d h
def Alr:Ru r R:=(.mk:Sg 0x1c1202b211636e5321691c210121007e613212e036e06e236e500236e15e213 [a] h [Ey (D6 K),c 155,Ey k1] [cu1 (fun g=>Ant 68 g (some (.int .i64 1)) none none)] [List.replicate 4 (.int .i64 0)++List.replicate 64 (.int .u8 0)]).F
def Md(c:Ah)(r:Ah)(K:Nat)(k1:A1)(base:Nat)(s:DX)(a:EV)(b:EV)(d:EV)(h:Ab):R:=
 pkA b d fun e=>
 ifE e
 (Alr c r K k1 a h)
 (some (.tuple [],h))
def Qa:R:=
 pkA b d fun e=>
 wtE e
 (Ax8 1 18 262143 base a s h fun s f=>
 Z8 68 f (.int .i64 0) fun g=>
 olE 0 21 2097151 base g s h fun s i=>
 Ax8 0 25 29392895 base a s h fun s j=>
 L5 26 62947327 s h (fun h=>(Vv K j h)) fun n h s=>
 A28 i n fun o=>
 Md c r K k1 base s a e o h)
 (Md c r K k1 base s a e tU h)
def Mb(c:Ah)(r:Ah)(K:Nat):Nat->A1
 | 0=>fun _ _=>none
 | m+1=>fun a h=>
  Adz h fun base s=>
  Ax8 0 3 7 base a s h fun s b=>
  L5 4 15 s h (fun h=>(Yo K b h)) fun d h s=>
  Arw d fun e=>
  wtE e
  (Ax8 1 10 1023 base a s h fun s f=>
  F3 f fun g=>
  Azw g (.int .i64 0) fun i=>
  Qa c r K (Mb c r K m) base s a e i h)
  (Qa c r K (Mb c r K m) base s a e tU h)
def A5s:R:=
 Mb c r K K a h
def Agk:Ru K R:=(.mk:Sg 0x1002 [] h).F
def Afe:Ru K R:=
 Iz d fun e=>
 k3 a b e h
def Agn:R:=
 Bbx 1 a d h fun e=>
 An (H7 K e h) fun f h=>
 Afe K k3 a b d h
def Lq(K:Nat):Nat->A3
 | 0=>fun _ _ _ _=>none
 | m+1=>fun a b d h=>
  cE Iq .lss 3 d b
  (Agn K (Lq K m) a b d h)
  (Agk K h)
def Afh:R:=(.mk:Sg 0x10023300213e503321643c20ae233 [a] h [Lz (Lq K K)]).F
def Wo:R:=(.mk:Sg 0x131000ee02328243 [a] h [Ey (Afh K)]).F
def Aal(c:Ah)(r:Ah)(K:Nat)(tm:Ax)(a:EV)(h:Ab)(ds:List Nat):R:=
 stE 1 a (.bool true) h fun h=>
 E1 ds h fun h=>Ji TT [.c a 4] h
def Aao:R:=
 Alc 3 a fun d=>
 Fm d h fun e=>
 An (Tc K e h) fun f h=>
 Zk c TT 131 36 0 f (((tm.put 26 (some d)).put 27 (some e)).put 28 (some f)) h ds (fun h ds=>
 Aal c r K (((tm.put 26 (some d)).put 27 (some e)).put 28 (some f)) b h ds) (fun id h ds=>
 Bf (Nat.beq 0 id) (Aal c r K (((tm.put 26 (some d)).put 27 (some e)).put 28 (some f)) b h ds) (none)) (fun h ds=>
 E1 ds h fun h=>Ji TT [.c b 4] h)
def K2:R:=
 pkO d e fun f=>
 ifE f
 (stE 1 b (.bool false) h fun h=>
 E1 ds h fun h=>Ji TT [.c b 4] h)
 (Aao c r K (tm.put 25 (some f)) a b h ds)
def N6:R:=
 pkO d e fun f=>
 wfE f
 (Alc 2 a fun g=>
 Fm g h fun i=>
 An (Yh K i (.int .i64 281474976710655) h) fun j h=>
 Arw j fun n=>
 K2 c r K ((((((tm.put 19 (some f)).put 20 (some f)).put 21 (some g)).put 22 (some i)).put 23 (some j)).put 24 (some n)) a b f n h ds)
 (K2 c r K ((((((tm.put 19 (some f)).put 20 (some f)).put 21 (some tU)).put 22 (some tU)).put 23 (some tU)).put 24 (some tU)) a b f tU h ds)
def S7:R:=
 pkO d e fun f=>
 wfE f
 (Alc 1 a fun g=>
 Fm g h fun i=>
 An (Yh K i (.int .i64 4294967295) h) fun j h=>
 Arw j fun n=>
 N6 c r K ((((((tm.put 13 (some f)).put 14 (some f)).put 15 (some g)).put 16 (some i)).put 17 (some j)).put 18 (some n)) a b f n h ds)
 (N6 c r K ((((((tm.put 13 (some f)).put 14 (some f)).put 15 (some tU)).put 16 (some tU)).put 17 (some tU)).put 18 (some tU)) a b f tU h ds)
def Are:R:=
 (fun(tm:Ax) (ds:List Nat)=>
 Wy 160 a h fun b h=>
 Avo (.cells [(.bool false)] 4) h fun d h=>
 Alc 3 b fun e=>
 Fm e h fun f=>
 Kl An2 (bin TT .eql 43) f .E3 fun g=>
 wfE g
 (Alc 0 b fun i=>
 Fm i h fun j=>
 An (Yh K j (.int .i64 281474976710655) h) fun n h=>
 Arw n fun o=>
 S7 c r K ((((((((((tm.put 1 (some b)).put 2 (some d)).put 5 (some e)).put 6 (some f)).put 7 (some g)).put 8 (some g)).put 9 (some i)).put 10 (some j)).put 11 (some n)).put 12 (some o)) b d g o h ds)
 (S7 c r K ((((((((((tm.put 1 (some b)).put 2 (some d)).put 5 (some e)).put 6 (some f)).put 7 (some g)).put 8 (some g)).put 9 (some tU)).put 10 (some tU)).put 11 (some tU)).put 12 (some tU)) b d g tU h ds)) (Tr.nil.put 0 (some a)) []
def Adp:Ru K (Ru r (Ru c R)):=(.mk:Sg 0x1010000405168233601e324444 [a,b,d] h [cl0 (Vh l false .done (some .ret)),cl0 (Vh l true .ready none)]).F
def Aka:R:=
 nsE 6 [(.int .i64 0),(.int .i64 0),(.int .i64 0),(.int .i64 0),(.int .i64 0),(.int .i64 0)] 47 d h fun e h=>
 Fs l h fun h=>Adp c r K l a b e h
def Vt:Ru K (Ru r (Ru c R)):=(.mk:Sg 0x1002 [] h).F
def Nn:R:=(.mk:Sg 0x10100ee0230ee0215e701e2101 [a] h [c 163,cl0 (Vt c r K)]).F
def Np:R:=(.mk:Sg 0x13100002328430be [a,b,d] h [Ey (Nn c r K)]).F
def Vu:R:=(.mk:Sg 0x1202831024a3102a25e8fce3c2a2825e6fbe3622014f9e31021642115e2fae3 [a,b] h [c 162,Lz (Np c r K)]).F
def Aad:R:=(.mk:Sg 0x17622006e023286521103e0230023301e5220126521c [a,b] h [D5 (Fe K),D5 (Fp K),D5 (Vu c r K)]).F
def Al0:Ru K R:=
 some (a,h)
def Anl:Ru K R:=
 Iz f fun g=>
 k5 a b d e g h
def Alg:R:=(.mk:Sg 0x1a98265104623012f2e531be64116e [a,b,d,e,f] h [Lz (Ace K),cl5 (Anl K k5)]).F
def Pf(K:Nat):Nat->A5
 | 0=>fun _ _ _ _ _ _=>none
 | m+1=>fun a b d e f h=>
  cE Iq .lss 3 f e
  (Alg K (Pf K m) a b d e f h)
  (Al0 K b h)
def Akj:R:=
 F3 d fun e=>
 Pf K K a b d e (.int .i64 0) h
def Zj:Ru K R:=
 some (a,h)
def Ahh:Ru K R:=
 Iz f fun g=>
 k5 a b d e g h
def Aii:R:=
 Bbx 1 d f h fun g=>
 An (Ic K a g h) fun i h=>
 Ahh K k5 a b d e f h
def Ke(K:Nat):Nat->A5
 | 0=>fun _ _ _ _ _ _=>none
 | m+1=>fun a b d e f h=>
  cE Iq .lss 3 f e
  (Aii K (Ke K m) a b d e f h)
  (Zj K b h)
def Zl:R:=
 F3 b fun d=>
 Ke K K a b b d (.int .i64 0) h
def Ahk:Ru K R:=
 Iz e fun f=>
 k4 a b d f h
def Ahv:R:=(.mk:Sg 0x18765430a92743027221311102e00215e701e20ce2101 [a,b,d,e] h [Ey (Hi K),Ey (fun g=>Cd [.int .i64 0] 3 1 1 [(0,g)]),D5 (E0 3 1),Zc (Ahk K k4)]).F
def J7(K:Nat):Nat->A4
 | 0=>fun _ _ _ _ _=>none
 | m+1=>fun a b d e h=>
  cE Iq .lss 3 e d
  (Ahv K (J7 K m) a b d e h)
  (Zl K a b h)
def Ys:R:=(.mk:Sg 0x1002b034102101 [a] h [Ey (F6 K),Zc (J7 K K)]).F
abbrev Aax(K:Nat)(c:Ah):Ah:=(w1 70 (F6 K) (w2 97 (Ic K) (w1 175 (Hi K) c)))
def Ags:Ru K R:=
 some (a,h)
def Xl:R:=(.mk:Sg 0x131200123212e20ce522112101203 [a,b] h [Ey (Ce K),D5 (Sb K),Ey (Ags K)] [] [] [(.int .i64 (-1))]).F
def Pc:R:=
 pkA e f fun g=>
 ifE g
 (some (d,h))
 (Xl K a b h)
def Wi:R:=(.mk:Sg 0x12026a9510259dc51020fe7220190304e2a01525e012162114e722319e51c214422319e21c [a,b] h [D5 (Fp K),cl5 (Pc K)] [] [] [(.int .i64 (-1))]).F
def Afu:Ru K R:=(.mk:Sg 0x1002321643c20ae233 [a] h).F
def Jk:R:=(.mk:Sg 0x1511003e0232820fe432010ee02328243 [a,b] h [D5 (Kj K),Ey (Afu K)]).F
def Ah2:Ru K R:=
 some (a,h)
def Aig:Ru K R:=
 Iz e fun f=>
 k4 a b d f h
def Ahu:R:=(.mk:Sg 0x1ba92400273303e243503e21107e7d01fe21007e53116e [a,b,d,e] h [Zc (Aig K k4)] [cu1 (fun f=>Xp .i64 f),cu1 (fun i=>Xp .u64 i)]).F
def Nd(K:Nat):Nat->A4
 | 0=>fun _ _ _ _ _=>none
 | m+1=>fun a b d e h=>
  cE Iq .lss 3 e d
  (Ahu K (Nd K m) a b d e h)
  (Ah2 K a h)
def Ain:R:=(.mk:Sg 0x1002300410213e32201 [a,b] h [D5 (L8 K),Zc (Nd K K)]).F
def K6:R:=(.mk:Sg 0x154220002411172820fe3101 [a,b] h [Ey (Ado K),Ey (fun a=>L8 K a (.int .i64 (-1))),D5 (Ain K)]).F
def N5:R:=
 An (L8 K a b h) fun d h=>
 some (d,h)
def I5:Ru K R:=
 pkA a b fun d=>
 some (d,h)
def Lu:R:=(.mk:Sg 0x1202210242102101344c2a430be [a,b,d] h [Ey (fun f=>Ps K f (.int .i64 0) (.int .i64 281474976710655)),D5 (I5 K)]).F
def Pr:R:=(.mk:Sg 0x120233102453102101334d2a430be [a,b,d] h [Ey (fun f=>Ps K f (.int .i64 1) (.int .i64 4294967295)),Lz (Lu K)]).F
def Yd:R:=(.mk:Sg 0x120233102453102101324d2a430be [a,b,d] h [Ey (fun f=>Ps K f (.int .i64 0) (.int .i64 65535)),Lz (Pr K)]).F
def Ma:R:=(.mk:Sg 0x120243202463202111414d2a80102301204299e9 [a] h [Lz (Ps K),Ey (fun f=>Ps K f (.int .i64 0) (.int .i64 65535)),Lz (Yd K)]).F
def Alh:Ru K R:=
 Ji TT [.v a,.v b,.v d] h
def Ana:R:=(.mk:Sg 0x123633050000000304ea512e20ce5722120ce34221232112101 [a] h [Ey (fun a=>Mh K a (.int .i64 (-1))),D5 (Mh K),D5 (Sb K),Lz (Alh K)]).F
def Acu:R:=(.mk:Sg 0x1311005e00000000304eb0023701e2101 [a] h [Ey (Hd K),Ey (Ana K)]).F
def Aif:Ru r (Ru c R):=(.mk:Sg 0x1000e2ab323fff4f00e7242107e20ae94003fb32e10e24211e03f97232e5272e8b01e414e232e5212e6b4014e725704ba73311e0ee3233e6271e717e1e8e05e618e232011e57325304b673311e0ee2d5e0206e232007e434324 [a,b] h [D5 (Auy TT 227 246 false),D5 (Rs K),Lz (Aer TT 227)] [cu2 (fun d e=>Bv (Ed [(0,1),(1,1)]) [.int .i64 0,.int .i64 0] [(0,d),(1,e)]),cu2 (fun y aa=>Bv (Ed [(0,64),(64,1)]) (List.replicate 64 (.int .u8 0)++[.int .i64 0]) [(0,y),(1,aa)])] [[.int .i64 0,.int .i64 0],List.replicate 64 (.int .u8 0)++[.int .i64 0]]).F
def Aor:R:=(.mk:Sg 0x189210000e2212e2456403ff3fa7232e52f2e9b5414e432e7310e302e5210e373011e0ee312e9 [a,b] h [c 209,D5 (Aif c r K)]).F
def Ah0:R:=(.mk:Sg 0x10026220142116e203 [a,b,d] h [D5 (Jb K)]).F
def Rc:R:=(.mk:Sg 0x165431003e0232820fe32201 [a,b,d] h [D5 (Kj K),Lz (Ah0 K)]).F
def Afj:R:=(.mk:Sg 0x122210142116e203 [a,b] h [Ey (Er K)]).F
def L7:R:=(.mk:Sg 0x154210c0232820fe32201 [a,b] h [D5 (Kj K),D5 (Afj K)]).F
def Aca:Ru K (Ru r R):=(.mk:Sg 0x12242201203 [a,b] h [c 189]).F
def Jo:R:=(.mk:Sg 0x14321022522013f9e3a0053701e0023286509e [a,b,d,e,f] h [c 56,D5 (Aca c r K)]).F
def Ns:R:=(.mk:Sg 0x1202543500258765002724e22431c03e2d6509e [a,b,d,e,f] h [cl5 (Jo c r K)]).F
def Aih:R:=(.mk:Sg 0x12025435102365451043201d2d01324e [a,b,d] h [D5 (Fp K),cl5 (Ns c r K)] [] [] [(.int .i64 (-1))]).F
def Lw:Ru K R:=
 pkA a b fun d=>
 some (d,h)
def Pz:R:=(.mk:Sg 0x1202210242102101318e5c2a430be [a,b,d] h [Ey (Tv K),D5 (Lw K)]).F
def Xn:R:=(.mk:Sg 0x120233102453102101354d2a430be [a,b,d] h [Ey (fun f=>Tg K f (.int .i64 0) (.int .i64 65535)),Lz (Pz K)]).F
def Ww:R:=(.mk:Sg 0x120243202463202111434d2a2101214275e9 [a] h [Ey (fun d=>Tg K d (.int .i64 0) (.int .i64 281474976710655)),Ey (fun f=>Tg K f (.int .i64 0) (.int .i64 255)),Lz (Xn K)]).F
def Aee:Ru K R:=
 Iz e fun f=>
 k4 a b d f h
def Aei:R:=(.mk:Sg 0x1ba284200183603e321660c24211210141007e203 [a,b,d,e] h [Ey (fun g=>Cd [.int .u8 0] 5 1 1 [(0,g)]),D5 (E0 5 1),Zc (Aee K k4)] [cu1 (fun b=>Xp .u8 b)] [] [(.int .u64 8)]).F
def K7(K:Nat):Nat->A4
 | 0=>fun _ _ _ _ _=>none
 | m+1=>fun a b d e h=>
  cE Iq .lss 3 e d
  (Aei K (K7 K m) a b d e h)
  (some (.tuple [],h))
def Aes:R:=
 K7 K K a d b (.int .i64 0) h
def Rp:R:=(.mk:Sg 0x1543300000e5021631ca286509e [a,b,d,e,f] h [Lz (Aes K)]).F
def Ex:R:=(.mk:Sg 0x1202654520248765206222e611101e2d20fe3101 [a,b,d] h [Ey (Ado K),Ey (Aa7 K),cl5 (Rp K)]).F
def Ad1:R:=(.mk:Sg 0x122210142116e203 [a,b] h [Ey (Hu K)]).F
def Ti:R:=(.mk:Sg 0x143210222212e32201 [a,b] h [D5 (Jk K),D5 (Ad1 K)]).F
def Auz:R:=(.mk:Sg 0x197e08e1104e208e1ee602e13121001e32102e54210d32100e44230b321c342109321a2421073218142105321604232118242dbe90007e209e1606e2101334097e05e292e9 [a] h [Ey (Qk K),D5 (fun j n=>Ex K j (.int .i64 6) n),Lz (Ex K),Ey (Apd K)] [cu0 (Bv (Ed [(0,1),(1,1)]) [.Ao,.bool false] [])] [List.replicate 44 (.int .u8 0),[.int .i64 0,.int .i64 0,.int .i64 0,.int .i64 0,.int .i64 0,.int .i64 0]]).F
def Al8:Ru K (Ru r (Ru c R)):=(.mk:Sg 0x1002 [] h).F
def Am5:R:=(.mk:Sg 0x10000fe02328320be [a,b] h [cl0 (Al8 c r K)]).F
def P0:R:=(.mk:Sg 0x12022202322000722e92a00224e21112101203 [a,b] h [Ey (Ce K),Ey (Hd K),D5 (Am5 c r K)]).F
def Amz:Ru K (Ru r (Ru c R)):=
 Iz e fun f=>
 k4 a b d f h
def Ab5:R:=
 pkO f g fun i=>
 ifE i
 (P0 c r K a b h)
 (Amz c r K k4 a b d e h)
def Alp:R:=(.mk:Sg 0x1202874360023985460000615e802e01e2d40fe [a,b,d,e,f,g] h [cl6 (Ab5 c r K k4)]).F
def Amq:R:=(.mk:Sg 0x18723656102220ee0215e701e20ce2101 [a,b,d,e] h [c 34,cl6 (Alp c r K k4)]).F
def Ac5:R:=(.mk:Sg 0x187654200023623601e21112101203 [a,b,d,e] h [Ey (Ce K),Ey (Hd K),Zc (Amq c r K k4)]).F
def Mc(c:Ah)(r:Ah)(K:Nat):Nat->A4
 | 0=>fun _ _ _ _ _=>none
 | m+1=>fun a b d e h=>
  cE Iq .lss 3 e d
  (Ac5 c r K (Mc c r K m) a b d e h)
  (P0 c r K a b h)
def Ak0:R:=(.mk:Sg 0x1002764202301fe21112101203 [a,b] h [Ey (Ch K),Ey (Da K),Zc (Mc c r K K)]).F
def Ta:R:=(.mk:Sg 0x14320003e023285409e [a,b,d,e] h [D5 (Ak0 c r K)]).F
def Akl:R:=(.mk:Sg 0x12024342026874202722e2111210130307e2d00320e [a,b] h [Ey (Ch K),Ey (Da K),Zc (Ta c r K)]).F
def Tf:Ru K R:=
 pkA a b fun d=>
 some (d,h)
def Ts:R:=(.mk:Sg 0x12022102521020053011021ee42405e2a540be [a,b,d,e] h [Lz (Nz K),D5 (Tf K)]).F
def Pa:R:=(.mk:Sg 0x120247430268b43020093211021ee21114650be2a2101265209e9 [a,b,d] h [Ey (O8 K),Ey (Da K),Lz (Nz K),Zc (Ts K)]).F
def Ahm:R:=(.mk:Sg 0x12010ea1204e3a32e620ce6220142116e203 [a,b,d,e] h [D5 (Jf K)]).F
def Yy:R:=(.mk:Sg 0x136544103010e41204e2432e60007e00e212e43201010e05e [a,b,d] h [D5 (Jk K),Zc (Ahm K)] [cu0 (Bv (Mv 1) (List.replicate 64 (.int .u8 0)) [])] [List.replicate 64 (.int .u8 0)]).F
def Akt:Ru r R:=(.mk:Sg 0x122522112101203 [a,b] h [Ey (Cp K),c 189]).F
def Aje:R:=(.mk:Sg 0x17623000233023701e6222121112101203 [a,b] h [Ey (Cp K),Ey (Fo K),D5 (L7 K),D5 (Akt c r K)]).F
def Ajr:Ru K (Ru r (Ru c R)):=
 Iz f fun g=>
 k5 a b d e g h
def Akb:R:=
 Bbz d
 (some (d,h))
 (Ajr c r K k5 a b e f g h)
def Akp:R:=(.mk:Sg 0x18765436008760ae043600a28980be [a,b,d,e,f,g,i,j] h [cl6 (Akb c r K k5)]).F
def Ajo:R:=(.mk:Sg 0x120202e01e00e3dc8202303e02e01e400ed82002e425e00e2a00215e702e20ce2933171e77432e5406b21001e47573011e0ee210e032e06e232e56432e15e [a,b,d,e,f] h [Ey (Cp K),c 187,cl8 (Akp c r K k5)] [] [List.replicate 64 (.int .u8 0)]).F
def N3(c:Ah)(r:Ah)(K:Nat):Nat->A5
 | 0=>fun _ _ _ _ _ _=>none
 | m+1=>fun a b d e f h=>
  cE Iq .lss 3 f e
  (Ajo c r K (N3 c r K m) a b d e f h)
  (Aje c r K a b h)
def Aj6:R:=
 F3 d fun e=>
 N3 c r K K a b d e (.int .i64 0) h
def Aj4:R:=(.mk:Sg 0x1543310222212e32201 [a,b,d] h [c 186,Lz (Aj6 c r K)]).F
def Arf:R:=(.mk:Sg 0x13b9320222212e20ce8233171e77445405b21001e47373011e0ee392e9 [a,b,d] h [Ey (Nh K),c 184,Lz (Aj4 c r K)]).F
def Ago:R:=(.mk:Sg 0x122210142116e203 [a,b] h [Ey (Ii K)]).F
def Vr:R:=(.mk:Sg 0x143210222212e32201 [a,b] h [D5 (Jk K),D5 (Ago K)]).F
def Aim:Ru r R:=(.mk:Sg 0x122522112101203 [a,b] h [Ey (Cp K),c 133]).F
def Aod:R:=(.mk:Sg 0x17623000230023701e6222121112101203 [a,b] h [Ey (Cp K),Ey (Fo K),D5 (L7 K),D5 (Aim c r K)]).F
end
variable{K d:Nat}(H:Bj disp)
include H
theorem Ar1(hd:1<=d):S1 disp K d 77 Amf:=fun _=>rd rfl rfl H (V1 (Df H) hd<|V1 (Ve H) hd<|rfl)
theorem Aw6(hd:3<=d):R2 disp K d 85 (Ac4 K):=fun _ _=>ll H hd (fun d hd=>V2 (Acq H) hd<|rfl) 25 (e5 (P9 K) 0 1 7 8 9)
theorem Atr(hd:1<=d):S2 disp K d 138 Apf:=fun _ _=>rd rfl rfl H (V1 (Aea H) hd<|rfl)
theorem Ajz(hd:2<=d):R2 disp K d 183 (Sb K):=fun _ _=>rl H hd fun d hd=>V1 (Xu H) hd<|rfl
theorem Abs(hd:2<=d):R2 disp K d 229 (Eh K):=fun _ _=>rl H hd fun d hd=>V1 (Jh H) hd<|rfl
theorem Aef(hd:2<=d):R1 disp K d 17 (Tc K):=fun _=>rl H hd fun d hd=>V1 (Yp H) hd<|rfl
theorem Asv(hd:1<=d):S1 disp K d 33 Apj:=fun _=>ld rfl rfl H (V1 (Df H) hd<|V1 (Es H) hd<|V2 (Vq H) hd<|rfl) 51 (fun c r=>e4 (Ka c r K) 0 3 11 12)
theorem Axh(hd:4<=d):R4 disp K d 54 (X8 K):=fun _ _ _ _=>rl H hd fun d hd=>V1 (A9s H) hd<|V3 (Avp H) hd<|rfl
theorem Aw7(hd:2<=d):S2 disp K d 56 At8:=fun _ _=>rd rfl rfl H (V2 (Gy H) hd<|V2 (Zy H) hd<|rfl)
theorem An7(hd:1<=d):S1 disp K d 61 Afi:=fun _=>ld rfl rfl H (V1 (Fa H) hd<|V1 (Df H) hd<|V1 (Es H) hd<|rfl) 207 (fun c r=>e3 (Gt c r K) 0 62 63)
theorem Avm(hd:3<=d):S2 disp K d 80 Arj:=fun _ _=>rd rfl rfl H (V2 (Aq1 H) hd<|rfl)
theorem Aqa(hd:3<=d){l:Nat}(tm:Ax)(h:Ab)(k:EV){st:LoopState}{p:Option Code}(m:h.get l=some (.loop st p 80 40 tm [14] (E4 TT 80 0).2.2.1 (E4 TT 80 0).2.2.2 d0)):
 Ae TT disp K (d+1) true l [k] h=Aj3 (Ae TT disp K d false) (Ae TT disp K d true) K l (tmp tm 2) (tmp tm 4) k h:=rr rfl rfl (V2 (Ix H) hd<|V2 (H3 H) hd<|rfl) m rfl (by kernel_rfl)
theorem Avt(hd:1<=d):S2 disp K d 113 Arq:=fun _ _=>ld rfl rfl H (V1 (Avw H) hd<|rfl) 11 (fun c r m k tm h ds=>Ol c r K m tm (k 10) (k 11) (k 12) h ds)
theorem Ap4(hd:1<=d){l:Nat}(tm:Ax)(h:Ab)(m:EV)(k:EV){st:LoopState}{p:Option Code}(v:h.get l=some (.loop st p 113 27 tm [19,20] (E4 TT 113 0).2.2.1 (E4 TT 113 0).2.2.2 d0)):
 Ae TT disp K (d+1) true l [m,k] h=Ajw (Ae TT disp K d false) (Ae TT disp K d true) K l (tmp tm 2) (tmp tm 3) k h:=rr rfl rfl (rfl) v rfl (by kernel_rfl)
theorem Aw4(hd:1<=d):S1 disp K d 129 A5s:=fun _=>ld rfl rfl H (V1 (W6 H) hd<|V1 (Asi H) hd<|V1 (At3 H) hd<|rfl) 2 (fun c r=>e1 (Mb c r K) 0)
theorem Ar5(hd:2<=d):R1 disp K d 130 (Wo K):=fun _=>ll H hd (fun d hd=>V1 (Adn H) hd<|rfl) 103 (e3 (Lq K) 19 20 21)
theorem Avi(hd:2<=d):S1 disp K d 131 Are:=fun _=>rd rfl rfl H (V2 (A2z H) hd<|V1 (Aef H) hd<|rfl)
theorem Aqe(hd:2<=d){l:Nat}(tm:Ax)(h:Ab)(m:EV)(k:EV){st:LoopState}{p:Option Code}(v:h.get l=some (.loop st p 131 36 tm [29,30] (E4 TT 131 0).2.2.1 (E4 TT 131 0).2.2.2 d0)):
 Ae TT disp K (d+1) true l [m,k] h=Aka (Ae TT disp K d false) (Ae TT disp K d true) K l (tmp tm 1) (tmp tm 2) k h:=rr rfl rfl (rfl) v rfl (by kernel_rfl)
theorem Ahe(hd:3<=d):S2 disp K d 134 Aad:=fun _ _=>rd rfl rfl H (V2 (Gy H) hd<|V2 (H3 H) hd<|rfl)
theorem Axg(hd:2<=d):R3 disp K d 143 (Akj K):=fun _ _ _=>ll H hd (fun d hd=>V3 (Axm H) hd<|rfl) 25 (e5 (Pf K) 0 1 9 10 11)
omit H in
theorem Ar0(c v r:Ah)(K:Nat)(m:Nat):lpB false (Aax K c) v r K 146 103 [(2,fun k tm h ds=>Zj K (k 3) h)] m=(fun m k tm h ds=>Ke K m (k 0) (k 3) (k 24) (k 25) (k 26) h) m:=
 Lp (E:=fun m k tm h ds=>Ke K m (k 0) (k 3) (k 24) (k 25) (k 26) h) rfl (fun m=>Avq fun k tm h ds=>by kernel_rfl) m
omit H in
theorem Asd(c v r:Ah)(K:Nat)(m:Nat):lpB false (Aax K c) v r K 146 51 [(0,fun k tm h ds=>Zl K (k 0) (k 3) h)] m=(fun m k tm h ds=>J7 K m (k 0) (k 3) (k 9) (k 10) h) m:=
 Lp (E:=fun m k tm h ds=>J7 K m (k 0) (k 3) (k 9) (k 10) h) rfl (fun m=>Avq fun k tm h ds=>by kernel_rfl) m
theorem As9(hd:2<=d):R1 disp K d 146 (Ys K):=by
 obtain⟨d,rfl⟩:∃e,d=e+1:=⟨d-1,by omega⟩;have hd:=fH hd;exact fun _=>rm (q:=false) (D:=Aax K (Ae TT disp K d false)) (by kernel_rfl) rfl rfl H (V1 (Mw H) hd<|V2 (Zy H) hd<|V1 (Xu H) hd<|rfl) (cut [true,true,true,false,true,false] (Ar0 (Ae TT disp K d false) (Ae TT disp K d false) (Ae TT disp K d true) K K) (by kernel_rfl) (by kernel_rfl) (cut [true,true,false,true,false] (Asd (Ae TT disp K d false) (Ae TT disp K d false) (Ae TT disp K d true) K K) (by kernel_rfl) (by kernel_rfl) rfl))
theorem Asa(hd:4<=d):R2 disp K d 158 (Wi K):=fun _ _=>rl H hd fun d hd=>V2 (H3 H) hd<|V1 (Fx H) hd<|V2 (Ajz H) hd<|rfl
theorem Ot(hd:2<=d):R2 disp K d 165 (Jk K):=fun _ _=>rl H hd fun d hd=>V2 (Qz H) hd<|rfl
theorem Afg(hd:2<=d):R2 disp K d 169 (K6 K):=fun _ _=>ll H hd (fun d hd=>V1 (Aot H) hd<|V2 (Ad3 H) hd<|rfl) 103 (e4 (Nd K) 5 15 16 17)
theorem Acg(hd:2<=d):R2 disp K d 170 (N5 K):=fun _ _=>rl H hd fun d hd=>V2 (Ad3 H) hd<|rfl
theorem Vf(hd:2<=d):R1 disp K d 171 (Ma K):=fun _=>rl H hd fun d hd=>V3 (A04 H) hd<|rfl
theorem Ayb(hd:4<=d):R1 disp K d 176 (Acu K):=fun _=>rl H hd fun d hd=>V1 (Zu H) hd<|V2 (Ad6 H) hd<|V2 (Ajz H) hd<|rfl
theorem At2(hd:1<=d):S2 disp K d 180 Aor:=fun _ _=>rd rfl rfl H (V2 (Afc H) hd<|rfl)
theorem Ast(hd:2<=d):R3 disp K d 181 (Rc K):=fun _ _ _=>rl H hd fun d hd=>V2 (Qz H) hd<|V2 (Ads H) hd<|rfl
theorem Adx(hd:2<=d):R2 disp K d 188 (L7 K):=fun _ _=>rl H hd fun d hd=>V2 (Qz H) hd<|V1 (Jx H) hd<|rfl
theorem Aov(hd:3<=d):S3 disp K d 193 Aih:=fun _ _ _=>rd rfl rfl H (V2 (H3 H) hd<|rfl)
theorem Arv(hd:3<=d):R1 disp K d 199 (Ww K):=fun _=>rl H hd fun d hd=>V3 (Ao2 H) hd<|V1 (Apv H) hd<|rfl
theorem Pe(hd:2<=d):R3 disp K d 200 (Ex K):=fun _ _ _=>ll H hd (fun d hd=>V1 (Aot H) hd<|V1 (A2x H) hd<|rfl) 11 (e4 (K7 K) 0 2 18 19)
theorem Apy(hd:3<=d):R2 disp K d 215 (Ti K):=fun _ _=>rl H hd fun d hd=>V2 (Ot H) hd<|V1 (Abq H) hd<|rfl
theorem A6n(hd:3<=d):R1 disp K d 226 (Auz K):=fun _=>rl H hd fun d hd=>V1 (Acp H) hd<|V3 (Pe H) hd<|V1 (Awf H) hd<|rfl
theorem Akz(hd:3<=d):S2 disp K d 20 Akl:=fun _ _=>ld rfl rfl H (V1 (Df H) hd<|V1 (Es H) hd<|V1 (Fx H) hd<|V1 (Zu H) hd<|rfl) 51 (fun c r=>e4 (Mc c r K) 0 1 25 26)
theorem Aia(hd:4<=d):R3 disp K d 137 (Pa K):=fun _ _ _=>rl H hd fun d hd=>V1 (Zg H) hd<|V1 (Es H) hd<|V3 (Aq3 H) hd<|rfl
theorem At9(hd:3<=d):R3 disp K d 139 (Yy K):=fun _ _ _=>rl H hd fun d hd=>V2 (Ot H) hd<|V2 (Adt H) hd<|rfl
theorem Avy(hd:2<=d):S3 disp K d 159 Arf:=fun _ _ _=>ld rfl rfl H (V1 (Ao9 H) hd<|V1 (Fa H) hd<|V1 (Vj H) hd<|V2 (Adx H) hd<|rfl) 207 (fun c r=>e5 (N3 c r K) 0 2 34 35 36)
theorem Ar6(hd:3<=d):R2 disp K d 160 (Vr K):=fun _ _=>rl H hd fun d hd=>V2 (Ot H) hd<|V1 (Acz H) hd<|rfl
theorem Atp(hd:2<=d):S2 disp K d 186 Aod:=fun _ _=>rd rfl rfl H (V1 (Fa H) hd<|V1 (Vj H) hd<|V2 (Adx H) hd<|rfl)
end
end Go.Ev
