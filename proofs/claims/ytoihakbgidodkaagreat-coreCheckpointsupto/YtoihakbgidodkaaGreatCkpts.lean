/- CoreCheckpoints: behind a checkpoint that was told OK no closed zone is dead, the number Gen is one more, and two areas at least have copies of the map as it is. For all inputs of bulk at most 1048576 (the second form): conditions: none else. -/
import Derived.Test.YtoihakbgidodkaaGreatRows
import Derived.Test.YtoihakbgidodkaaGreatRa
import Derived.Test.YtoihakbgidodkaaGreatNa
import Derived.WalkKit
import Derived.ProofKit
import Derived.OpenShut
import Derived.Carry
import Derived.Deep.Slices
import Derived.Deep.Fields
import Derived.ChangeSame
import Derived.JoinedCond
set_option linter.all false
namespace Go.Proofs.YtoihakbgidodkaaGreat
open Go.ChangeShapes Go.WideShapes Go.ChangeAt Go.RowKit Go.Deep Go.Ev
set_option maxRecDepth 100000
section
variable {H:Type}{enc:TypeId × Value->H}{P:Program}{w:World}{base:Nat}{spare:Nat->Bool}{held:Bool}
theorem Bip {r:Reach}{b0:Nat}{t:TypeId}{f0 f1 f2 f3 f4 f5:Field}{v:Value}{d:DataW H}{p:List MemPlace}(hs:P.underlying t=some (.struct #[f0,f1,f2,f3,f4,f5]))(hone:oneCellFields P #[f0,f1,f2,f3,f4,f5]=true)(hC:P.cellsOf t=6)
 (hv:Value.okWide P w r b0 t v) (h:DataW.Trod enc P w base spare held t v d p) :
 ∃(v0 v1 v2 v3 v4 v5:Value) (y0 y1 y2 y3 y4 y5:DataW H × List MemPlace) (n:Nat),v=.agg #[v0,v1,v2,v3,v4,v5]/\d=.agg [y0.1,y1.1,y2.1,y3.1,y4.1,y5.1]/\p=y0.2++(y1.2++(y2.2++(y3.2++(y4.2++y5.2)))) /\
  DataW.trod enc P w base spare held n f0.type [v0]=some y0/\DataW.trod enc P w base spare held n f1.type [v1]=some y1/\DataW.trod enc P w base spare held n f2.type [v2]=some y2/\DataW.trod enc P w base spare held n f3.type [v3]=some y3/\DataW.trod enc P w base spare held n f4.type [v4]=some y4/\DataW.trod enc P w base spare held n f5.type [v5]=some y5:=by
 obtain⟨cs,rfl,hsz⟩:=okWide_struct hs hv;obtain⟨l⟩:=cs
 match l,hsz.trans hC with
 | [c0,c1,c2,c3,c4,c5],_=>
  obtain⟨fuel,hf⟩:=h;obtain⟨xs,n,_,hx,_,hlen,hg⟩:=DataW.trod_struct hs hf;obtain⟨o0,k0⟩:=hone_of hone 0 f0 rfl;obtain⟨o1,k1⟩:=hone_of hone 1 f1 rfl;obtain⟨o2,k2⟩:=hone_of hone 2 f2 rfl;obtain⟨o3,k3⟩:=hone_of hone 3 f3 rfl;obtain⟨o4,k4⟩:=hone_of hone 4 f4 rfl;obtain⟨o5,k5⟩:=hone_of hone 5 f5 rfl
  match xs,hlen with
  | [y0,y1,y2,y3,y4,y5],_=>
   simp only[Prod.mk.injEq]at hx;exact⟨c0,c1,c2,c3,c4,c5,y0,y1,y2,y3,y4,y5,n,rfl,by simpa using hx.1,by simpa using hx.2,by simpa [Value.cells,o0,k0]using hg 0 f0 rfl,by simpa [Value.cells,o1,k1]using hg 1 f1 rfl,by simpa [Value.cells,o2,k2]using hg 2 f2 rfl,by simpa [Value.cells,o3,k3]using hg 3 f3 rfl,by simpa [Value.cells,o4,k4]using hg 4 f4 rfl,by simpa [Value.cells,o5,k5]using hg 5 f5 rfl⟩
end
theorem own:ownKnob Tryz.prog.godebug=none:=by kernel_rfl
theorem laidOut:laidOutB Tryz.prog=true:=by kernel_rfl
theorem one_le {H:Type}(d:DataW H):1<=Rows.uptoBulk d:=by
 cases d with
 | lit l=>cases l<;>simp[Rows.uptoBulk]
 | _=>simp[Rows.uptoBulk]
theorem wY {H:Type}{d:DataW H}{l:List (DataW H)}(h:d∈l):Rows.uptoBulk d<=Rows.uptoBulkAll l:=by
 induction l with
 | nil=>cases h
 | cons x r ih=>
  simp only[Rows.uptoBulkAll];cases List.mem_cons.1 h with
  | inl e=>subst e;omega
  | inr e=>have:=ih e;omega
theorem length_le {H:Type}(l:List (DataW H)):l.length<=Rows.uptoBulkAll l:=by
 induction l with
 | nil=>simp[Rows.uptoBulkAll]
 | cons x r ih=>have:=one_le x;simp only[Rows.uptoBulkAll,List.length_cons];omega
theorem Bms {H:Type}(elems spare:List (DataW H)):elems.length<=Rows.uptoBulk (.slice elems spare):=by
 have h1:=length_le elems;simp only[Rows.uptoBulk];omega
theorem Bk7 {H:Type}{a b:DataW H}(s:Sub a b):Rows.uptoBulk a<=Rows.uptoBulk b:=by
 induction s with
 | refl=>exact Nat.le_refl _
 | agg h _ ih=>have:=wY h;simp only[Rows.uptoBulk];omega
 | elem h _ ih=>have:=wY h;simp only[Rows.uptoBulk];omega
theorem Bna(H:Type)(enc:TypeId × Value->H)(W:World)(base:Nat)(args:Array Value)(ds gs:List (DataW H))(before:List MemPlace)
 (hval0:∀(j:Nat) t v,Tryz.f4.params[j]? = some t->args[j]? = some v->Value.okWide Tryz.prog W .any base t v)
 (hW:DataW.Whole enc Tryz.prog Tryz.f4.params.toList Rows.coreCheckpointsSpec.vars false W args.toList ds gs before) (hk0:Rows.uptoSmall H (ds++gs)=true) :
 Calls Tryz.prog 4 args W fun e W'=>∃v,e=.returned v/\Rows.coreCheckpointsSpec.post enc Tryz.prog Tryz.f4 false true false false W args v W':=by
 have hval:∀(j:Nat) t v,Tryz.f4.params[j]? = some t->args[j]? = some v->Value.okWide Tryz.prog W .any base t v:=hval0;have hW':=hW;obtain⟨p,q,hA0,hV,rfl,hfz,hnd⟩:=hW;have hA:DataW.TrodAll enc Tryz.prog W 0 (fun _=>true) true Tryz.f4.params.toList args.toList ds p:=hA0;rw[Tryz.params4]at hA hval;obtain⟨v0,vs0,d0,ds0,p0,q0,hargs,rfl,rfl,h0,r0⟩:=trodAll_cons hA;obtain⟨v1,vs1,d1,ds1,p1,q1,rfl,rfl,rfl,h1,r1⟩:=trodAll_cons r0;obtain⟨rfl,rfl,rfl⟩:=trodAll_nil r1;obtain rfl:args = #[v0,v1]:=by cases args;simp_all
 obtain⟨rfl,rfl⟩:=trodVars_none hV;have bk:∀d∈[d0,d1],Rows.uptoBulk d<=1048576:=fun d hd=>Nat.le_trans (wY hd) (of_decide_eq_true (show Rows.uptoSmall H [d0,d1]=true from hk0))
 have k0:=h0;have lt0:∀x∈p0,x.block<W.heap.size:=by obtain⟨m,hm⟩:=k0;exact DataW.trod_lt m _ _ _ hm
 obtain⟨c00,c01,c02,c03,c04,c05,y00,y01,y02,y03,y04,y05,m0,rfl,rfl,rfl,e00,e01,e02,e03,e04,e05⟩:=Bip Tryz.underlying23 (by kernel_rfl) (by kernel_rfl) (hval 0 23 v0 rfl rfl) h0;obtain⟨a00,b00,rfl,-⟩:=DataW.trod_int Tryz.underlying3 e00;obtain rfl:c00=.int .i64 a00:=by simpa using b00
 obtain⟨a01,b01,rfl,-⟩:=DataW.trod_int Tryz.underlying3 e01;obtain rfl:c01=.int .i64 a01:=by simpa using b01
 obtain⟨a02,b02,rfl,-⟩:=DataW.trod_int Tryz.underlying3 e02;obtain rfl:c02=.int .i64 a02:=by simpa using b02
 obtain⟨a03,b03,rfl,-⟩:=DataW.trod_int Tryz.underlying3 e03;obtain rfl:c03=.int .i64 a03:=by simpa using b03
 obtain⟨a04,b04,rfl,-⟩:=DataW.trod_int Tryz.underlying3 e04;obtain rfl:c04=.int .i64 a04:=by simpa using b04
 obtain⟨a05,b05,rfl,-⟩:=DataW.trod_int Tryz.underlying3 e05;obtain rfl:c05=.int .i64 a05:=by simpa using b05
 have k1:=h1;have lt1:∀x∈p1,x.block<W.heap.size:=by obtain⟨m,hm⟩:=k1;exact DataW.trod_lt m _ _ _ hm
 obtain⟨L1,R1,qq1,-⟩:=Bjh Tryz.underlying24 Btf (by kernel_rfl) (hval 1 24 v1 rfl rfl) h1;have rr1:∀l∈L1,∃o ws,pA W l o ws/\o.bs.length<=1048576:=fun l hl=>by
  obtain⟨o,ws,a,b⟩:=Bny (qq1 l hl);refine⟨o,ws,a,?_⟩;rcases b with b|⟨el,rs,sb,e⟩
  ·rw[b];exact Nat.zero_le _
  ·have b1:=Bk7 sb
   have b2:=Bms el rs;have b3:=bk d1 (by simp);omega
 refine(A9l a00 a01 a02 a03 a04 a05 v1 W R1 rr1).mono fun e W' ⟨he,bel⟩=>?_
 subst he;exact⟨_,rfl,_,_,_,[],_,[],hW',trodAll_mk1 (shut_bool Tryz.underlying4 _),(trodAll_cons_mk (Below.trod laidOut (by kernel_rfl) (of_decide_eq_true (by kernel_rfl)) k0 bel lt0) (trodAll_cons_mk (Below.trod laidOut (by kernel_rfl) (of_decide_eq_true (by kernel_rfl)) k1 bel lt1) trodAll_mk0)),rfl,bel.frame _,fun h=>by cases h⟩
theorem lifted(os:Os)(started:os.Started)(H:Type)(enc:TypeId × Value->H)(F:Stop.Interp):
 ReturnsInHanded {} Tryz.checked os 4 .any ((Rows.OpenSpec.upto Rows.coreCheckpointsSpec).pre6 enc Tryz.prog Tryz.f4 Rows.coreCheckpointsUptoRow.domain false) (((Rows.OpenSpec.upto Rows.coreCheckpointsSpec).at F).post enc Tryz.prog Tryz.f4 false true false false):=by
 refine returnsInHanded_of_cond (C:=Tryz.checked) (s:=Rows.OpenSpec.upto Rows.coreCheckpointsSpec) (k:=Rows.uptoSmall) rfl own started (by kernel_rfl) Tryz.func4
  (OpenSpec.witness (enc:=enc) (C:=Tryz.checked) (s:=Rows.OpenSpec.upto Rows.coreCheckpointsSpec) (k:=Rows.uptoSmall) rfl false ⟨#[],#[.agg #[.int .i64 0,.int .i64 0,.int .i64 0,.int .i64 0,.int .i64 0,.int .i64 0],.slice none 0 0],[]⟩ 8 (by kernel_rfl) (by kernel_rfl) (by kernel_rfl)
   (x:=([.agg [.lit (.int .i64 0),.lit (.int .i64 0),.lit (.int .i64 0),.lit (.int .i64 0),.lit (.int .i64 0),.lit (.int .i64 0)],.nil],[],[])) (by kernel_rfl) rfl (by kernel_rfl)) ?_
 intro W base args ds gs before hval hW _ hk _;exact Bna H enc W base args ds gs before hval hW hk
theorem Hg {a b:Bool}(h1:a=true)(h2:b=true):(a&&b)=true:=by rw[h1,h2];rfl
theorem Bj0:joinedFacts Tryz.pinned.checked.prog 4 Tryz.f4 Rows.coreCheckpointsSpec Rows.coreCheckpointsUptoRow=true:=by
 unfold joinedFacts;exact Hg (Hg (Hg (Hg (Hg (Hg (Hg (Hg (Hg (Hg (Hg (Hg (Hg (Hg (Hg (Hg (Hg (Hg (Hg (Hg (Hg (Hg (Hg (Hg (Hg (Hg (Hg (Hg (Hg (Hg (Hg Bmi Bkf) Bj7) Bnf) Blf) Bnc) Bl2) Bm8) Bmc) Bg6) Bgd) Bga) Bix) Bhi) Bhp) Bgt) Bfz) Bgc) Bfv) Bh1) Bgn) Bi7) Bh3) Bf8) Bf5) Bh7) Bgp) Bit) Bhd) Bgo) Bi0) Bi6
theorem rowNamed:Tryz.pinned.checked.prog.funcNamed Rows.coreCheckpointsUptoRow.func=some 4:=by kernel_rfl
theorem Bqk:Rows.coreCheckpointsUptoRow.holds Tryz.pinned (Rows.OpenSpec.upto Rows.coreCheckpointsSpec):=
 OpenClaim.holds_of_cond 4 Tryz.f4 rfl rfl rfl rfl rfl rfl rfl ⟨rfl,rfl,rfl,rfl,rfl⟩ rfl rfl rfl rfl rfl rowNamed Tryz.func4 Bj0
  (of_decide_eq_true (by kernel_rfl)) (by unfold Func.isWrapper;first|(rw[if_pos (by decide +kernel)];kernel_rfl)|(rw[if_neg (by decide +kernel)];exact⟨rfl,rfl⟩))
  (fun os started H enc _ F=>lifted os started H enc F)
theorem coreCheckpoints:Rows.CoreCheckpointsUptoSaid:=Bqk
#print axioms coreCheckpoints
end Go.Proofs.YtoihakbgidodkaaGreat
