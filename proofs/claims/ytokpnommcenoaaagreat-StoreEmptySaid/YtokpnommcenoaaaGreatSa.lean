import Derived.Test.YtokpnommcenoaaaGreatXa
import Derived.Test.YtokpnommcenoaaaGreatIn
import Derived.Test.YtokpnommcenoaaaGreatWb
set_option linter.unusedVariables false
set_option linter.unusedSimpArgs false
set_option linter.unusedSectionVars false
namespace Go.Ev
open Go.Proofs
set_option maxRecDepth 100000
variable {K:Nat}{disp:Nat->Option FT}
def stC(D:Nat)(g:Gm):List EV:=[EV.ptr D 0]++gL g++[.Bj]
theorem Aao(hK:1000<K){g:Gm}(hr:rtB g=true){h:Ac}(hb:HB h){D V M zl n:Nat}{z q:Nat->Nat}{size op cnt:Int}{down:Bool}{coming happened:EV}{marks:List (EV × EV)}{Zs:Nat->Zn}(dr:L6 h D V M zl n z q size op cnt down coming happened marks Zs)(hn:g.D*g.Z=n)(hs:g.S=size):
 Ok (Q9 K (.ptr D 0) (gV g) h) fun v h'=>∃ S,v=.tuple [.ptr S 0,I 0]/\Ext h h'/\HB h'/\h.next<=S/\h'.get S=some (.cells (stC D g) 193):=by
 simp only[Q9,gV,Aj]
 have x1:Ext h (h.new (.cells (gL g) 23)):=Ed.new _ _
 have g1:(h.new (.cells (gL g) 23)).get h.next=some (.cells (gL g) 23):=As _ _
 have n1:(h.new (.cells (gL g) 23)).next=h.next+1:=rfl
 generalize h.new (.cells (gL g) 23)=h1 at x1 g1 n1 ⊢
 have hb1:=x1.hb hb
 have l1:=hb1 _ _ g1
 rw[Cw l1 (by kernel_rfl),Ms g1 rfl,B5 (n:=6) rfl]
 try simp only[Aj,Ff]
 refine Ok.C0 (by kernel_rfl) (by kernel_rfl) (P:=fun v h3=>v=Aaf/\Ext h1.lift h3) ⟨_,_,rfl,rfl,Ed.refl _⟩ (fun _ _ p=>p.2) ?_
 rintro _ _ h2 ⟨rfl,_⟩ _ x2
 have hb2:=x2.hb hb1
 have dr2:=dr.ext fun i o g=>x2.at hb1 (x1.at hb g)
 rw[show EV.agg (gL g)=gV g from rfl]
 refine Ok.C0 (by kernel_rfl) (by kernel_rfl) (Y5 hK (We hb2) (dr2.ext fun i o g=>by rw[Il];exact g)) (fun _ _ p=>p.1) ?_
 rintro v h3' h3 ⟨_,_,hv⟩ sm x3
 rw[if_pos ⟨hr,hn,hs⟩]at hv
 obtain⟨m,p,bl,ql,q',c,rfl,_⟩:=hv
 have hb3:=x3.hb hb2
 have g3:=x3.at hb2 (x2.at hb1 g1)
 simp only[Aj,A2,I,not_true_eq_false,decide_false,Td]
 rw[Ms g3 rfl,B5 (n:=6) rfl]
 try simp only[Aj]
 rw[F3 (l:=stC D g) rfl]
 try simp only[Aj]
 have t1:=x2.next
 have t2:=x3.next
 exact .ret ⟨h3.next,rfl,((x1.trans x2).trans x3).Abo _,hb3.new _,by omega,As _ _⟩
theorem Abs(hK:2000<K)(g:Gm){h:Ac}(hb:HB h):Ok (C8 K (gV g) h) fun v h'=>Ext h h'/\HB h' /\
 if rtB g=true/\g.D*g.Z<=64 then ∃ S D V M zl z,v=.tuple [.ptr S 0,.ptr D 0]/\h'.get S=some (.cells (stC D g) 193)/\L6 h' D V M zl (g.D*g.Z).toNat z (fun _=>0) g.S g.O 0 false .Ab .Ab [] (fun _=>Zn.empty)/\h.next<=S/\h.next<=D/\h.next<=V else v=.tuple [.Bj,.Bj]:=by
 simp only[C8,gV,Aj]
 have x1:Ext h (h.new (.cells (gL g) 23)):=Ed.new _ _
 have g1:(h.new (.cells (gL g) 23)).get h.next=some (.cells (gL g) 23):=As _ _
 have n1:(h.new (.cells (gL g) 23)).next=h.next+1:=rfl
 generalize h.new (.cells (gL g) 23)=h1 at x1 g1 n1 ⊢
 have hb1:=x1.hb hb
 rw[Ms g1 rfl,B5 (n:=6) rfl]
 try simp only[Aj]
 rw[show EV.agg (gL g)=gV g from rfl]
 refine(Ahs g (by omega) h1).Bc ?_
 rintro _ h3 ⟨rfl,x3⟩
 have hb3:=x3.hb hb1
 have x03:Ext h h3:=x1.trans x3
 cases hr:rtB g with
 | false=>
  simp only[Aj,A2,Ct]
  exact .ret ⟨x03,hb3,by rw[if_neg (fun y=>by cases y.1)]⟩
 | true=>
  have s:=Afd hr
  have:=s.d0;have:=s.d1;have:=s.z0;have:=s.z1;have:=s.s0;have:=s.s1;have:=s.o0;have:=s.o1
  obtain⟨m0,m1⟩:=Xz (a:=g.D) (b:=g.Z) (A:=8) (B:=64) (by omega) (by omega) (by omega) (by omega)
  have m2:3<=g.D*g.Z:=by
   have:3*1<=g.D*g.Z:=Int.mul_le_mul (by omega) (by omega) (by omega) (by omega)
   omega
  have g13:=x3.at hb1 g1
  simp only[Aj,A2,D9 g13 rfl,gL,I]
  rw[Ee (by omega) (by omega)]
  by_cases h64:64<g.D*g.Z
  ·have e1:decide (g.D*g.Z > 64)=true:=decide_eq_true h64
   simp only[h64,decide_true,Aj,A2,Ct]
   exact .ret ⟨x03,hb3,by rw[if_neg (fun y=>by omega)]⟩
  ·simp only[h64,decide_false,Aj,A2,Ct,G2,Ff]
   have l3:=hb3 _ _ g13
   rw[Cw l3 (by kernel_rfl),Ms g13 rfl,B5 (n:=6) rfl]
   try simp only[Aj,Ff]
   rw[show EV.agg (gL g)=gV g from rfl]
   refine Ok.C0 (by kernel_rfl) (by kernel_rfl) (P:=fun v h'=>v=I (g.D*g.Z)/\Ext h3.lift h') ⟨_,_,Py s _,rfl,Ed.new _ _⟩ (fun _ _ p=>p.2) ?_
   rintro _ _ h4 ⟨rfl,_⟩ _ x4
   have hb4:=x4.hb hb3
   have g14:=x4.at hb3 g13
   rw[Cw l3 (by kernel_rfl),Dq g14 rfl (v:=I g.S) rfl]
   try simp only[Aj,Ff]
   rw[Cw l3 (by kernel_rfl),Dq g14 rfl (v:=I g.O) rfl]
   try simp only[Aj,Ff]
   have hd:Qs (g.D*g.Z) g.S g.O=true:=by
    unfold Qs
    rw[Sp.2 ⟨by omega,by omega⟩,Sp.2 ⟨by omega,by omega⟩,Sp.2 ⟨by omega,by omega⟩];rfl
   refine Ok.C0 (by kernel_rfl) (by kernel_rfl) (Aai (K:=K) hd (by omega) (We hb4)) (fun _ _ p=>by obtain⟨_,_,_,_,_,_,x,_⟩:=p;exact x) ?_
   rintro _ h5' h5 ⟨D,V,M,zl',z,rfl,_,_,dr,nd⟩ sm x5
   have hb5:=x5.hb hb4
   have dr:=dr.ext (h':=h5) fun i o g=>by rw[sm.get];exact g
   have g15:=x5.at hb4 g14
   simp only[Aj,I,A2,not_true_eq_false,decide_false,G3]
   rw[Ms g15 rfl,B5 (n:=6) rfl]
   try simp only[Aj]
   rw[show EV.agg (gL g)=gV g from rfl]
   refine(Aao (K:=K) (by omega) hr hb5 dr (by omega) rfl).Bc ?_
   rintro _ h6 ⟨S,rfl,x6,hb6,lS,gS⟩
   simp only[Aj,I,A2,not_true_eq_false,decide_false,G1]
   have t1:=x1.next
   have t3:=x3.next
   have t4:=x4.next
   have t5:=x5.next
   have t6:h4.lift.next=h4.next:=rfl
   refine .ret ⟨((x03.trans x4).trans x5).trans x6,hb6,?_⟩
   rw[if_pos ⟨trivial,by omega⟩]
   exact⟨S,D,V,M,zl',z,rfl,gS,dr.ext fun i o g=>x6.at hb5 g,by omega,by omega,by omega⟩
end Go.Ev

namespace Go.Ev
open Go.Proofs
set_option maxRecDepth 100000
variable {K:Nat}{disp:Nat->Option FT}
theorem Av2(a b:Int)(h:Ac):builtin TT .max #[3,3] [.int .i64 a,.int .i64 b] h=some (I (max a b),h):=by
 show some (EV.int .i64 (Al (Al true (Ys a b) (Ys b a)) b a),h)=_
 rw[show Al true (Ys a b) (Ys b a)=Ys a b from rfl,Abl,Int.max_def]
 by_cases hc:a<b
 ·rw[decide_eq_true hc,if_pos (by omega)];rfl
 ·by_cases hd:a<=b
  ·have:a=b:=by omega
   subst this;rw[if_pos (by omega)];cases decide (a<a) <;> rfl
  ·rw[decide_eq_false hc,if_neg hd];rfl
theorem Av3(a b:Int)(h:Ac):builtin TT .min #[3,3] [.int .i64 a,.int .i64 b] h=some (I (min a b),h):=by
 show some (EV.int .i64 (Al (Al false (Ys a b) (Ys b a)) b a),h)=_
 rw[show Al false (Ys a b) (Ys b a)=Ys b a from rfl,Abl,Int.min_def]
 by_cases hc:a<=b
 ·rw[decide_eq_false (by omega),if_pos hc];rfl
 ·rw[decide_eq_true (by omega),if_neg hc];rfl
theorem Abb {z:List EV}{e n:Nat}(hn:n<=65536)(h:Ac):I2 z e (I n) (I n) h=some (.slice h.next 0 n n false,h.new (.cells (rep z n) e)):=by
 show Al (Nat.ble n n) (Al (Nat.ble n 65536) _ none) none=_
 rw[Nat.ble_eq_true_of_le (Nat.le_refl _),Ak,Nat.ble_eq_true_of_le hn,Ak]
theorem Qv(k:EV->R):Az G7 (bin TT .eql 191) .Bj .Bj k=k (.bool true):=by kernel_rfl
theorem As7:TT.size 100=some 11/\TT.agg 100=some true:=⟨by kernel_rfl,by kernel_rfl⟩
def stZ:List EV:=[.bool false,.int .i64 0,.int .i64 0,.int .i64 0,.int .i64 0,.int .i64 0,.int .i64 0,.int .i64 0,.int .i64 0,.int .i64 0,.bool false]
theorem Avg(k:EV->R):Az Mv (bin TT .neq 100) (.agg stZ) (.agg stZ) k=k (.bool false):=by kernel_rfl
section
variable {h:Ac}{S D:Nat}{g:Gm}(gS:h.get S=some (.cells (stC D g) 193))
include gS
theorem Qn(k:EV->R):A5 (.ptr S 7) h k=k .Bj:=Dq gS rfl rfl
theorem Ait(hb:HB h):Ok (Eh K (.ptr S 0) h) fun v h'=>v=.agg stZ/\Ext h h':=by
 have x1:Ext h (h.new (.cells stZ 100)):=Ed.new _ _
 have g1:(h.new (.cells stZ 100)).get h.next=some (.cells stZ 100):=As _ _
 have n1:(h.new (.cells stZ 100)).next=h.next+1:=rfl
 have gS1:=x1.at hb gS
 simp only[Eh,Aj]
 rw[show [EV.bool false,.int .i64 0,.int .i64 0,.int .i64 0,.int .i64 0,.int .i64 0,.int .i64 0,.int .i64 0,.int .i64 0,.int .i64 0,.bool false]=stZ from rfl]
 generalize h.new (.cells stZ 100)=h1 at x1 g1 n1 gS1 ⊢
 rw[Qn gS1,Qv]
 simp only[Aj]
 rw[F3 (l:=stZ) rfl]
 refine Ok.st stZ g1 rfl rfl (U3 rfl) ?_
 rw[Ahw (Es _ _ _) As7.1 As7.2 rfl]
 exact .ret ⟨rfl,x1.Sc (.inr (Nat.le_refl _)) (by omega) _⟩
theorem Ar7(hb:HB h):Ok (Eb K (.ptr S 0) h) fun v h'=>Ed (fun i=>i=S) h h'/\HB h'/\h'.get S=some (.cells (stC D g) 193):=by
 simp only[Eb,Aj]
 refine Ok.st1 gS rfl rfl (by show 7<8;decide) ?_
 have l:=hb _ _ gS
 exact .ret ⟨(Ed.refl (S:=fun i=>i=S) h).Sc (.inl rfl) l _,hb.put l _,by rw[Es];rfl⟩
section
variable (A:Bp disp){d:Nat}(hd:2<=d)
include A hd
theorem Af6:Af TT disp K (d+1) false 117 [.ptr S 0] h=some (I 43,h):=by
 rw[K6 A (by omega)]
 simp only[Ik,Aj]
 rw[Qn gS,Qv];rfl
theorem Afa:Af TT disp K (d+2) false 109 [.ptr S 0] h=some (I 43,h):=by
 rw[M8 A (by omega)]
 simp only[Kf,Af6 gS A hd,Aj,I,A2,show ¬ ((43:Int)=0) by decide,decide_false,Fl]
theorem Aju:Af TT disp K (d+1) false 116 [.ptr S 0] h=some (I 43,h):=by
 rw[O2 A (by omega)]
 simp only[Mg,Aj]
 rw[Qn gS,Qv];rfl
theorem Apr(x y:EV):Af TT disp K (d+1) false 115 [.ptr S 0,x,y] h=some (I 43,h):=by
 rw[Pn A (by omega)]
 simp only[Na,Aj]
 rw[Qn gS,Qv];rfl
theorem Asx(x y:EV):Af TT disp K (d+1) false 111 [.ptr S 0,x,y] h=some (.tuple [.Ab,I 43],h):=by
 rw[Qw A (by omega)]
 simp only[Nj,Aj]
 rw[Qn gS,Qv];rfl
theorem Alc(x:EV){b n:Nat}(hn:n<=1000):Af TT disp K (d+1) false 107 [.ptr S 0,x,.slice b 0 n n false] h=some (I 43,h):=by
 rw[Pd A (by omega)]
 simp only[Mc,Aj]
 rw[Aoa (by omega) (by omega) (by omega)]
 try simp only[Aj]
 rw[Qn gS,Qv];rfl
theorem Alm:Af TT disp K (d+1) false 118 [.ptr S 0] h=some (.tuple [.bool false,I 43],h):=by
 rw[L4 A (by omega)]
 simp only[It,Aj]
 rw[Qn gS,Qv];rfl
theorem Akq:Af TT disp K (d+1) false 119 [.ptr S 0] h=some (.tuple [.bool false,I 43],h):=by
 rw[L2 A (by omega)]
 simp only[Iv,Aj]
 rw[Qn gS,Qv];rfl
end
end
theorem Ae2 {v1 b n:Nat}(hn:n<=1000){a x y z:Int}:∀ (f i:Nat) (h:Ac),n-i<f->i<=n->h.get v1=some (.cells [I a,I x,I y,I z] 95)->(∃ l,h.get b=some (.cells l 5)/\l.length=n)->v1 ≠ b->HB h ->
 Ok (Bm K f (.ptr v1 0) (.slice b 0 n n false) (I n) (I i) h) fun v h'=>v=.slice b 0 n n false/\Ed (fun i=>i=b) h h':=by
 intro f
 induction f with
 | zero=>intro i h hf;omega
 | succ f ih=>
  intro i h hf hi g1 gb ne hb
  rw[Bm]
  simp only[I,A2]
  by_cases hlt:i<n
  ·have e1:decide ((i:Int)<(n:Int))=true:=by simp;omega
   obtain⟨l,gb,hl⟩:=gb
   simp only[e1,Aj,Gi]
   rw[Dq g1 rfl (v:=I y) rfl]
   try simp only[I]
   rw[Aoa (by omega) (by omega) (by omega)]
   simp only[A2,Ai2]
   rw[Aeg hlt,Nat.zero_add,Nat.mul_one]
   refine Ok.st1 gb rfl rfl (by omega) ?_
   have lb:=hb _ _ gb
   simp only[Gf,A2]
   rw[Ee (by omega) (by omega),show ((i:Nat):Int)+1=((i+1:Nat):Int) by omega]
   have c1:Ed (fun i=>i=b) h (h.put b (.cells (l.set i (.int .u8 (Ei .u8 (Ei .i64 (y+(i:Int) / 32))))) 5)):=(Ed.refl (S:=fun i=>i=b) h).Sc (.inl rfl) lb _
   refine Ok.mono (ih (i+1) _ (by omega) (by omega) (c1.at hb g1 ne) ⟨_,Es _ _ _,by rw[List.length_set];exact hl⟩ ne (c1.hb hb)) ?_
   rintro _ h' ⟨rfl,c2⟩
   exact⟨rfl,c1.trans c2⟩
  ·have e1:decide ((i:Int)<(n:Int))=false:=by simp;omega
   simp only[e1,Aj,Ej]
   exact .ret ⟨rfl,Ed.refl _⟩
theorem Ac7(v:EV):∀ n,(rep [v] n).length=n
 | 0=>rfl
 | n+1=>by show ([v]++rep [v] n).length=_;rw[List.length_append,Ac7 v n,List.length_singleton];omega
theorem Aki(hK:2000<K){a x y z:Int}{h:Ac}(hb:HB h):Ok (Dv K (.agg [I a,I x,I y,I z]) h) fun v h'=>(∃ b n,v=.slice b 0 n n false/\n<=1000)/\Ext h h':=by
 simp only[Dv,Aj]
 have x1:Ext h (h.new (.cells [I a,I x,I y,I z] 95)):=Ed.new _ _
 have g1:(h.new (.cells [I a,I x,I y,I z] 95)).get h.next=some (.cells [I a,I x,I y,I z] 95):=As _ _
 have n1:(h.new (.cells [I a,I x,I y,I z] 95)).next=h.next+1:=rfl
 generalize h.new (.cells [I a,I x,I y,I z] 95)=h1 at x1 g1 n1 ⊢
 have hb1:=x1.hb hb
 rw[Dq g1 rfl (v:=I z) rfl]
 try simp only[I]
 rw[Av3,Cc]
 try simp only[I]
 rw[Av2,Cc]
 obtain⟨n,hn,hn'⟩:∃ n:Nat,max (min z 1000) 0=(n:Int)/\n<=1000:=⟨(max (min z 1000) 0).toNat,by omega,by omega⟩
 rw[hn,Abb (by omega),Cc]
 simp only[Aj]
 have x2:Ext h1 (h1.new (.cells (rep [EV.int .u8 0] n) 5)):=Ed.new _ _
 have l1:=hb1 _ _ g1
 refine Ok.mono (Ae2 (K:=K) (v1:=h.next) (b:=h1.next) (n:=n) hn' (a:=a) (x:=x) (y:=y) (z:=z) K 0 _ (by omega) (by omega) (x2.at hb1 g1) ⟨_,As _ _,Ac7 _ _⟩ (by omega) (hb1.new _)) ?_
 rintro _ h' ⟨rfl,c⟩
 exact⟨⟨_,_,rfl,hn'⟩,(x1.trans x2).then c fun i hi hl=>by omega⟩
end Go.Ev

namespace Go.Ev
open Go.Proofs
set_option maxRecDepth 100000
variable {K:Nat}{disp:Nat->Option FT}
section
variable (A:Bp disp)(hK:2000<K){d:Nat}(hd:4<=d)
include A hK hd
theorem Alw {r:Ae}{S D:Nat}{g:Gm}{h:Ac}(gS:h.get S=some (.cells (stC D g) 193))(hb:HB h){a x y z:Int}(ha:2<a):
 Ok (Gq (Af TT disp K d false) r K (.agg [I a,I x,I y,I z]) (.ptr S 0) h) fun v h'=>(∃ e,v=.tuple [.Ab,e])/\Ed (fun i=>i=S) h h'/\HB h'/\h'.get S=some (.cells (stC D g) 193):=by
 obtain⟨d',rfl⟩:∃ k,d=k+2:=⟨d-2,by omega⟩
 simp only[Gq,Aj]
 have x1:Ext h (h.new (.cells [I a,I x,I y,I z] 95)):=Ed.new _ _
 have g1:(h.new (.cells [I a,I x,I y,I z] 95)).get h.next=some (.cells [I a,I x,I y,I z] 95):=As _ _
 have n1:(h.new (.cells [I a,I x,I y,I z] 95)).next=h.next+1:=rfl
 generalize h.new (.cells [I a,I x,I y,I z] 95)=h1 at x1 g1 n1 ⊢
 have hb1:=x1.hb hb
 have gS1:=x1.at hb gS
 rw[Dq g1 rfl (v:=I a) rfl]
 simp only[I,A2,show ¬ (a=1) by omega,show ¬ (a=2) by omega,decide_false,Aj]
 have fin:∀ e,Ok (some (EV.tuple [.Ab,e],h1)) fun v h'=>(∃ e,v=.tuple [.Ab,e])/\Ed (fun i=>i=S) h h'/\HB h'/\h'.get S=some (.cells (stC D g) 193):=fun e=>.ret ⟨⟨e,rfl⟩,x1.to,hb1,gS1⟩
 by_cases h3:a=3
 ·simp only[h3,decide_true,Aj]
  rw[Afa gS1 A (by omega),Cc]
  exact fin _
 by_cases h4:a=4
 ·simp only[h4,show ¬ ((4:Int)=3) by decide,decide_false,decide_true,Aj]
  rw[Dq g1 rfl (v:=I x) rfl,Dq g1 rfl (v:=I y) rfl,Asx gS1 A (by omega),Cc]
  simp only[Aj]
  exact fin _
 by_cases h5:a=5
 ·simp only[h5,show ¬ ((5:Int)=3) by decide,show ¬ ((5:Int)=4) by decide,decide_false,decide_true,Aj,Ff]
  have l1:=hb1 _ _ g1
  rw[Cw l1 (by kernel_rfl),Dq g1 rfl (v:=I x) rfl]
  try simp only[Aj,Ff]
  rw[Cw l1 (by kernel_rfl),Ms g1 rfl,B5 (n:=4) rfl]
  try simp only[Aj,Ff]
  refine Ok.C0 (by kernel_rfl) (by kernel_rfl) (Aki (K:=K) hK (We hb1)) (fun _ _ p=>p.2) ?_
  rintro _ h2' h2 ⟨⟨b,n,rfl,hn⟩,_⟩ _ x2
  have hb2:=x2.hb hb1
  have gS2:=x2.at hb1 gS1
  refine Ok.C0 (by kernel_rfl) (by kernel_rfl) (P:=fun v h'=>v=I 43/\Ext h2.lift h') ⟨_,_,Alc (h:=h2.lift) (by rw[Il];exact gS2) A (by omega) _ hn,rfl,Ed.refl _⟩ (fun _ _ p=>p.2) ?_
  rintro _ _ h3 ⟨rfl,_⟩ _ x3
  exact .ret ⟨⟨_,rfl⟩,Ext.to (x1.trans (x2.trans x3)),x3.hb hb2,x3.at hb2 gS2⟩
 by_cases h6:a=6
 ·simp only[h6,show ¬ ((6:Int)=3) by decide,show ¬ ((6:Int)=4) by decide,show ¬ ((6:Int)=5) by decide,decide_false,decide_true,Aj]
  rw[Dq g1 rfl (v:=I x) rfl,Dq g1 rfl (v:=I y) rfl,Apr gS1 A (by omega),Cc]
  exact fin _
 by_cases h7:a=7
 ·simp only[h7,show ¬ ((7:Int)=3) by decide,show ¬ ((7:Int)=4) by decide,show ¬ ((7:Int)=5) by decide,show ¬ ((7:Int)=6) by decide,decide_false,decide_true,Aj]
  rw[Aju gS1 A (by omega),Cc]
  exact fin _
 by_cases h8:a=8
 ·simp only[h8,show ¬ ((8:Int)=3) by decide,show ¬ ((8:Int)=4) by decide,show ¬ ((8:Int)=5) by decide,show ¬ ((8:Int)=6) by decide,show ¬ ((8:Int)=7) by decide,decide_false,decide_true,Aj]
  rw[Af6 gS1 A (by omega),Cc]
  exact fin _
 by_cases h9:a=9
 ·simp only[h9,show ¬ ((9:Int)=3) by decide,show ¬ ((9:Int)=4) by decide,show ¬ ((9:Int)=5) by decide,show ¬ ((9:Int)=6) by decide,show ¬ ((9:Int)=7) by decide,show ¬ ((9:Int)=8) by decide,decide_false,decide_true,Aj]
  rw[Alm gS1 A (by omega),Cc]
  simp only[Aj]
  exact fin _
 by_cases h10:a=10
 ·simp only[h10,show ¬ ((10:Int)=3) by decide,show ¬ ((10:Int)=4) by decide,show ¬ ((10:Int)=5) by decide,show ¬ ((10:Int)=6) by decide,show ¬ ((10:Int)=7) by decide,show ¬ ((10:Int)=8) by decide,show ¬ ((10:Int)=9) by decide,decide_false,decide_true,Aj]
  rw[Akq gS1 A (by omega),Cc]
  simp only[Aj]
  exact fin _
 simp only[h3,h4,h5,h6,h7,h8,h9,h10,decide_false,Aj]
 by_cases h11:a=11
 ·simp only[h11,decide_true,Aj]
  refine(Ar7 (K:=K) gS1 hb1).Bc ?_
  rintro _ h2 ⟨c2,hb2,gS2⟩
  exact .ret ⟨⟨_,rfl⟩,x1.to.trans c2,hb2,gS2⟩
 ·simp only[h11,decide_false,Aj]
  exact fin _
end
def Mr:List EV:=[EV.int .i64 0,.int .i64 4,.int .i64 0,.int .i64 0]++List.replicate 64 (.int .u8 0)
theorem Au3(h:Ac):Ok (E7 K (.agg Mr) h) fun v h'=>v=.bool true/\Ext h h':=by
 simp only[E7,Aj]
 have x1:Ext h (h.new (.cells Mr 32)):=Ed.new _ _
 have g1:(h.new (.cells Mr 32)).get h.next=some (.cells Mr 32):=As _ _
 generalize h.new (.cells Mr 32)=h1 at x1 g1 ⊢
 rw[Dq g1 rfl (v:=I 0) rfl]
 simp only[I,A2,show ((0:Int) ≥ 0) by decide,decide_true,Aj]
 rw[Dq g1 rfl (v:=I 4) rfl]
 simp only[I,A2,Ha,show ((4:Int) ≥ 1) by decide,decide_true,Aj]
 rw[Dq g1 rfl (v:=I 4) rfl]
 simp only[I,A2,G9,Aj,show ((4:Int)<=4) by decide,decide_true]
 exact .ret ⟨rfl,x1⟩
theorem Ad7(A:Bp disp)(H105:disp 105=some Alu)(hK:1<K){d:Nat}(hd:4<=d){h:Ac}{D V M:Nat}{hs:EV}(gD:h.get D=some (.cells [.ptr V 0,.Ab,hs,.map M] 149))(hb:HB h):
 Ok (Af TT disp K d false 46 [.ptr D 0,.agg Mr] h) fun v h'=>v=I 0/\Ed (fun i=>i=D) h h':=by
 obtain⟨e',rfl⟩:∃ k,d=k+2:=⟨d-2,by omega⟩
 rw[Rc A (by omega)]
 have el:Mr.length=68:=rfl
 simp only[Ox,Aj]
 have x1:Ext h (h.new (.cells Mr 32)):=Ed.new _ _
 have g1:(h.new (.cells Mr 32)).get h.next=some (.cells Mr 32):=As _ _
 generalize h.new (.cells Mr 32)=h1 at x1 g1 ⊢
 have hb1:=x1.hb hb
 rw[Afs g1 rfl (B5 el)]
 try simp only[Aj]
 refine(Au3 (K:=K) h1).Bc ?_
 rintro _ h2 ⟨rfl,x2⟩
 have hb2:=x2.hb hb1
 have gD2:=x2.at hb1 (x1.at hb gD)
 have g3:=x2.at hb1 g1
 simp only[Aj,A2]
 rw[Dq gD2 rfl (v:=.Ab) rfl]
 simp only[Aj,A2,show ¬ ((0:Int) ≥ 256) by decide,decide_false,Lb]
 rw[Dq gD2 rfl (v:=.Ab) rfl]
 simp only[Aj,A2]
 obtain⟨f,rfl⟩:∃ f,K=f+1:=⟨K-1,by omega⟩
 rw[Ci]
 simp only[A2,show ¬ ((0:Int) > 0) by decide,decide_false,Aj,Hq,Hp,Ff]
 have lD:=hb2 _ _ gD2
 have l3:=hb2 _ _ g3
 rw[Cw lD (by kernel_rfl),Dq gD2 rfl (v:=.Ab) rfl]
 try simp only[Aj,Ff]
 rw[Cw l3 (by kernel_rfl),Afs g3 rfl (B5 el)]
 try simp only[Aj,Ff]
 rw[Vg (v:=.agg Mr) rfl (by simp) (show ((EV.agg Mr).cells).length=68 from el) (by omega),Cc]
 have x6:Ext h2 (h2.new (.cells (EV.agg Mr).cells 32)):=Ed.new _ _
 have g6:(h2.new (.cells (EV.agg Mr).cells 32)).get h2.next=some (.cells Mr 32):=As _ _
 have n6:(h2.new (.cells (EV.agg Mr).cells 32)).next=h2.next+1:=rfl
 generalize (h2.new (.cells (EV.agg Mr).cells 32))=h6 at x6 g6 n6 ⊢
 have hb6:=x6.hb hb2
 have call:Af TT disp (f+1) (e'+1) false 105 [.Ab,I 0,.slice h2.next 0 1 1 false] h6.lift=some (.slice h6.lift.next 0 1 1 true,h6.lift.new (.vec Mr 32 68)):=by
  rw[X1 H105]
  show Asc .Ab 0 h2.next h6.lift=_
  unfold Asc
  rw[show h6.lift.get h2.next=some (.cells Mr 32) by rw[Il];exact g6]
  simp[el]
 refine Ok.C0 (by kernel_rfl) (by kernel_rfl) (P:=fun v h'=>v=.slice h6.lift.next 0 1 1 true/\Ext h6.lift h') ⟨_,_,call,rfl,Ed.new _ _⟩ (fun _ _ p=>p.2) ?_
 rintro _ _ h7 ⟨rfl,_⟩ _ x7
 have hb7:=x7.hb hb6
 have gD7:=x7.at hb6 (x6.at hb2 gD2)
 try simp only[Aj,Ff]
 rw[Ap1 (by kernel_rfl)]
 refine Ok.st1 gD7 rfl rfl (by show 1<4;decide) ?_
 have lD7:=hb7 _ _ gD7
 exact .ret ⟨rfl,(Ext.to (S:=fun i=>i=D) ((x1.trans x2).trans (x6.trans x7))).Sc (.inl rfl) lD7 _⟩
end Go.Ev

namespace Go.Ev
open Go.Proofs
set_option maxRecDepth 100000
variable {K:Nat}{disp:Nat->Option FT}
theorem Aob(S:Nat)(k:EV->R):Az G7 (bin TT .eql 90) (.ptr S 0) .Bj k=k (.bool false):=by kernel_rfl
theorem Aia(k:EV->R):Az G7 (bin TT .eql 90) .Bj .Bj k=k (.bool true):=by kernel_rfl
theorem Sj.Avo {h h':Ac}{b n:Nat}{l:List (List Int)}(r:Sj h .Ab b n l):Sj h' .Ab b n l:=by
 rcases r.row with ⟨_,e⟩|⟨_,_,_,e,_⟩
 ·exact⟨.inl ⟨rfl,e⟩⟩
 ·cases e
section
variable (A:Bp disp)(H105:disp 105=some Alu)(hK:2000<K){d:Nat}(hd:6<=d)
include A H105 hK hd
theorem Ae6 {r:Ae}{v:EV}{b:Nat}{L:List (List Int)}{n0:Nat}{h0:Ac}(h4:∀ l ∈ L,l.length=4)(hL:L.length<=80){S D V M:Nat}{g:Gm}{cs hs dl:EV}{dv:List EV}{te:TypeId}(lS:n0<=S)(lD:n0<=D)(hn0:n0<=h0.next)(hcs:dv.length=5){cnt:Int}(hcnt:dv[3]? = some (I cnt)):
 ∀ (f i:Nat) (h:Ac),L.length-i<f->i<=L.length->Sj h v b 4 L->h.get S=some (.cells (stC D g) 193)->h.get D=some (.cells [.ptr V 0,.Ab,hs,.map M] 149)->h.get V=some (.cells dv 152)->HB h->(v=.Ab\/b<n0)->Ed (fun i=>n0<=i) h0 h ->
  Ok (Bd (Af TT disp K d false) r K f (.ptr S 0) (.ptr D 0) v (I L.length) (I i) h) fun v h'=>v=.bool true/\Ed (fun i=>n0<=i) h0 h':=by
 obtain⟨d',rfl⟩:∃ k,d=k+1:=⟨d-1,by omega⟩
 intro f
 induction f with
 | zero=>intro i h hf;omega
 | succ f ih=>
  intro i h hf hi row gS gD gV hb hrow c0
  rw[Bd]
  simp only[I,A2]
  by_cases hlt:i<L.length
  ·have e1:decide ((i:Int)<(L.length:Int))=true:=by simp;omega
   simp only[e1,Aj,Ft]
   have ra:=row.at hlt
   simp only[I]at ra
   rw[ra]
   have hl4:=h4 L[i] (List.getElem_mem hlt)
   obtain⟨a,x,y,z,hxs⟩:∃ a x y z,L[i] = [a,x,y,z]:=by
    match hq:L[i],hl4 with
    | [a,x,y,z],_=>exact⟨a,x,y,z,rfl⟩
   rw[hxs,show ([a,x,y,z].map fun n=>EV.int .i64 n) = [I a,I x,I y,I z] from rfl]
   try simp only[Aj]
   refine Ok.st [I a,I x,I y,I z] (As _ _) rfl rfl (U3 rfl) ?_
   have x1:Ext h ((h.new (.cells [EV.int .i64 0,.int .i64 0,.int .i64 0,.int .i64 0] 95)).put h.next (.cells [I a,I x,I y,I z] 95)):=(Ed.new h _:Ext _ _).Sc (.inr (Nat.le_refl _)) (Nat.lt_succ_self _) _
   have g1:((h.new (.cells [EV.int .i64 0,.int .i64 0,.int .i64 0,.int .i64 0] 95)).put h.next (.cells [I a,I x,I y,I z] 95)).get h.next=some (.cells [I a,I x,I y,I z] 95):=Es _ _ _
   generalize (h.new (.cells [EV.int .i64 0,.int .i64 0,.int .i64 0,.int .i64 0] 95)).put h.next (.cells [I a,I x,I y,I z] 95)=h1 at x1 g1 ⊢
   have hb1:=x1.hb hb
   have gS1:=x1.at hb gS
   have gD1:=x1.at hb gD
   have gV1:=x1.at hb gV
   have c01:Ed (fun i=>n0<=i) h0 h1:=c0.trans x1.to
   have keep:∀ {h':Ac},Ed (fun i=>i=S) h1 h'->HB h'->Sj h' v b 4 L/\(Ed (fun i=>n0<=i) h0 h'):=fun {h'} c _=>by
    refine⟨?_,c01.trans (c.mono fun i e=>by subst e;exact lS)⟩
    rcases hrow with rfl|hb0
    ·exact row.Avo
    ·have t:=c0.next
     refine row.frame ?_
     rw[c.get b (by have:=x1.next;omega) (by omega),x1.get b (by omega) id]
   have nxt:∀ {h':Ac},Ed (fun i=>i=S) h1 h'->HB h'->h'.get S=some (.cells (stC D g) 193)->h'.get D=some (.cells [.ptr V 0,.Ab,hs,.map M] 149)->h'.get V=some (.cells dv 152) ->
    Ok (Cx (Af TT disp K (d'+1) false) r K (Bd (Af TT disp K (d'+1) false) r K f) (.ptr S 0) (.ptr D 0) v (I L.length) (I i) h') fun v h'=>v=.bool true/\Ed (fun i=>n0<=i) h0 h':=fun {h'} c hb' s1 s2 s3=>by
    obtain⟨r',c'⟩:=keep c hb'
    simp only[Cx,I,A2]
    rw[Ee (by omega) (by omega),show ((i:Nat):Int)+1=((i+1:Nat):Int) by omega]
    exact ih (i+1) h' (by omega) (by omega) r' s1 s2 s3 hb' hrow c'
   rw[Dq g1 rfl (v:=I a) rfl]
   simp only[I,A2]
   simp only[I]at nxt
   by_cases h2:a<=2
   ·simp only[h2,decide_true,Aj]
    exact nxt (Ed.refl _) hb1 gS1 gD1 gV1
   ·simp only[h2,decide_false,Aj,Fy]
    have dvc:∀ {h':Ac},h'.get D=some (.cells [.ptr V 0,.Ab,hs,.map M] 149)->h'.get V=some (.cells dv 152)->B3 K (.ptr D 0) h'=some (.ptr V 0,h')/\Ds K (.ptr V 0) h'=some (I cnt,h'):=fun {h'} s2 s3=>by
     constructor
     ·simp only[B3,Aj];rw[Dq s2 rfl (v:=.ptr V 0) rfl]
     ·simp only[Ds,Aj];rw[Dq s3 rfl hcnt]
    obtain⟨q1,q2⟩:=dvc gD1 gV1
    rw[q1,Cc,q2,Cc,Ms g1 rfl,B5 (n:=4) rfl]
    try simp only[Aj]
    rw[M3 A (by omega)]
    refine(Alw (K:=K) A hK (by omega) gS1 hb1 (by omega)).Bc ?_
    rintro _ h3 ⟨⟨e,rfl⟩,c13,hb3,gS3⟩
    have nD:D ≠ S:=Hz gD gS (by intro y;injection y with _ y;cases y)
    have nV:V ≠ S:=Hz gV gS (by intro y;injection y with _ y;cases y)
    have gD3:=c13.at hb1 gD1 nD
    have gV3:=c13.at hb1 gV1 nV
    obtain⟨q3,q4⟩:=dvc gD3 gV3
    simp only[Aj]
    rw[q3,Cc,q4,Cc]
    simp only[I,A2,not_true_eq_false,decide_false,Aj,Dy]
    refine(Ait (K:=K) gS3 hb3).Bc ?_
    rintro _ h5 ⟨rfl,x5⟩
    rw[F3 (l:=stZ) rfl,Avg]
    simp only[Aj,A2,D1]
    exact nxt (c13.trans x5.to) (x5.hb hb3) (x5.at hb3 gS3) (x5.at hb3 gD3) (x5.at hb3 gV3)
  ·have e1:decide ((i:Int)<(L.length:Int))=false:=by simp;omega
   simp only[e1,Aj,Dz]
   rw[F3 (l:=Mr) rfl]
   refine(Ad7 A H105 (by omega) (by omega) gD hb).Bc ?_
   rintro _ h' ⟨rfl,c⟩
   simp only[I,A2,decide_true]
   exact .ret ⟨rfl,c0.trans (c.mono fun i e=>by subst e;exact lD)⟩
theorem Aiv {r:Ae}(hc:∀ h,Af TT disp K d false 48 [] h=some (.bool true,h)){v:EV}{b:Nat}{L:List (List Int)}(h4:∀ l ∈ L,l.length=4)(g:Gm){h:Ac}(hb:HB h)(row:Sj h v b 4 L)(hrow:v=.Ab\/b<h.next):
 Ok (Eo (Af TT disp K d false) r K (gV g) v h) fun v h'=>v=.bool true/\∀ i,i<h.next->h'.get i=h.get i:=by
 simp only[Eo,gV,Aj,hc]
 have x1:Ext h (h.new (.cells (gL g) 23)):=Ed.new _ _
 have g1:(h.new (.cells (gL g) 23)).get h.next=some (.cells (gL g) 23):=As _ _
 have n1:(h.new (.cells (gL g) 23)).next=h.next+1:=rfl
 generalize h.new (.cells (gL g) 23)=h1 at x1 g1 n1 ⊢
 have hb1:=x1.hb hb
 simp only[Fh]
 rw[Ms g1 rfl,B5 (n:=6) rfl]
 try simp only[Aj]
 rw[show EV.agg (gL g)=gV g from rfl]
 refine(Abs (K:=K) hK g hb1).Bc ?_
 rintro _ h2 ⟨x2,hb2,hv⟩
 have x02:Ext h h2:=x1.trans x2
 have same:∀ i,i<h.next->h2.get i=h.get i:=fun i hi=>x02.get i hi id
 by_cases hs:rtB g=true/\g.D*g.Z<=64
 ·rw[if_pos hs]at hv
  obtain⟨S,D,V,M,zl,z,rfl,gS,dr,lS,lD,lV⟩:=hv
  simp only[Aj]
  rw[Aob]
  simp only[Aj,A2,row.J0,I]
  by_cases h80:(L.length:Int) > 80
  ·simp only[h80,decide_true,Aj,A2,Cb]
   exact .ret ⟨rfl,same⟩
  ·simp only[h80,decide_false,Aj,A2,Cb,Fw]
   have row2:Sj h2 v b 4 L:=by
    rcases hrow with rfl|hb0
    ·exact row.Avo
    ·exact row.frame (same b hb0)
   rw[row2.J0]
   have t1:=x1.next
   have t2:=x2.next
   refine Ok.mono (Ae6 (K:=K) A H105 hK hd (n0:=h.next) (h0:=h) h4 (by omega) (dl:=.Ab) (cs:=.Ab) (te:=0) (by omega) (by omega) (Nat.le_refl _) rfl rfl K 0 h2 (by omega) (by omega) row2 gS dr.Aj3 dr.dev.dev hb2 hrow x02.to) ?_
   rintro _ h' ⟨rfl,c⟩
   exact⟨rfl,fun i hi=>c.get i hi (by omega)⟩
 ·rw[if_neg hs]at hv
  subst hv
  simp only[Aj]
  rw[Aia]
  simp only[Aj,A2,Cb]
  exact .ret ⟨rfl,same⟩
end
end Go.Ev
