/- ScrubFinds: behind a sector is spoilt that a block lies in, by no multiple, a whole pass finds it, and the next one is healed. No conditions: for every input. -/
import Derived.Test.YtllikommdogjcaaGreatRows
import Derived.Test.YtllikommdogjcaaGreatRa
import Derived.Test.YtllikommdogjcaaGreatSa
import Derived.WalkKit
import Derived.ProofKit
import Derived.OpenShut
import Derived.Carry
import Derived.Deep.Slices
import Derived.Deep.Fields
import Derived.ChangeSame
set_option linter.all false
namespace Go.Proofs.YtllikommdogjcaaGreat
open Go.ChangeShapes Go.WideShapes Go.ChangeAt Go.RowKit Go.Deep Go.Ev
set_option maxRecDepth 100000
section
variable {H:Type}{enc:TypeId × Value->H}{P:Program}{w:World}{base:Nat}{spare:Nat->Bool}{held:Bool}
theorem Bi9 {r:Reach}{b0:Nat}{t:TypeId}{f0 f1 f2 f3 f4 f5:Field}{v:Value}{d:DataW H}{p:List MemPlace}(hs:P.underlying t=some (.struct #[f0,f1,f2,f3,f4,f5]))(hone:oneCellFields P #[f0,f1,f2,f3,f4,f5]=true)(hC:P.cellsOf t=6)
 (hv:Value.okWide P w r b0 t v) (h:DataW.Trod enc P w base spare held t v d p) :
 ∃(v0 v1 v2 v3 v4 v5:Value) (y0 y1 y2 y3 y4 y5:DataW H × List MemPlace) (n:Nat),v=.agg #[v0,v1,v2,v3,v4,v5]/\d=.agg [y0.1,y1.1,y2.1,y3.1,y4.1,y5.1]/\p=y0.2++(y1.2++(y2.2++(y3.2++(y4.2++y5.2)))) /\
  DataW.trod enc P w base spare held n f0.type [v0]=some y0/\DataW.trod enc P w base spare held n f1.type [v1]=some y1/\DataW.trod enc P w base spare held n f2.type [v2]=some y2/\DataW.trod enc P w base spare held n f3.type [v3]=some y3/\DataW.trod enc P w base spare held n f4.type [v4]=some y4/\DataW.trod enc P w base spare held n f5.type [v5]=some y5:=by
 obtain⟨cs,rfl,hsz⟩:=okWide_struct hs hv;obtain⟨l⟩:=cs
 match l,hsz.trans hC with
 | [c0,c1,c2,c3,c4,c5],_=>
  obtain⟨fuel,hf⟩:=h;obtain⟨xs,n,_,hx,_,hlen,hg⟩:=DataW.trod_struct hs hf;obtain⟨o0,k0⟩:=hone_of hone 0 f0 rfl;obtain⟨o1,k1⟩:=hone_of hone 1 f1 rfl;obtain⟨o2,k2⟩:=hone_of hone 2 f2 rfl;obtain⟨o3,k3⟩:=hone_of hone 3 f3 rfl;obtain⟨o4,k4⟩:=hone_of hone 4 f4 rfl;obtain⟨o5,k5⟩:=hone_of hone 5 f5 rfl
  match xs,hlen with
  | [y0,y1,y2,y3,y4,y5],_=>
   simp only[Prod.mk.injEq]at hx;exact⟨c0,c1,c2,c3,c4,c5,y0,y1,y2,y3,y4,y5,n,rfl,by simpa using hx.1,by simpa using hx.2,by simpa [Value.cells,o0,k0]using hg 0 f0 rfl,by simpa [Value.cells,o1,k1]using hg 1 f1 rfl,by simpa [Value.cells,o2,k2]using hg 2 f2 rfl,by simpa [Value.cells,o3,k3]using hg 3 f3 rfl,by simpa [Value.cells,o4,k4]using hg 4 f4 rfl,by simpa [Value.cells,o5,k5]using hg 5 f5 rfl⟩
end
theorem own:ownKnob Tryz.prog.godebug=none:=by kernel_rfl
theorem laidOut:laidOutB Tryz.prog=true:=by kernel_rfl
theorem lifted(os:Os)(started:os.Started)(H:Type)(enc:TypeId × Value->H):
 ReturnsInHanded {} Tryz.checked os 3 .any (Rows.scrubFindsSpec.pre6 enc Tryz.prog Tryz.f3 Rows.scrubFindsRow.domain false) (Rows.scrubFindsSpec.post enc Tryz.prog Tryz.f3 false true false false):=by
 refine returnsInHanded_of_change (C:=Tryz.checked) own started (by kernel_rfl) Tryz.func3
  (ChangeSpec.witness6 (enc:=enc) (C:=Tryz.checked) false ⟨#[],#[.agg #[.int .i64 0,.int .i64 0,.int .i64 0,.int .i64 0,.int .i64 0,.int .i64 0],.slice none 0 0,.int .i64 0,.bool false,.int .i64 0,.int .u8 0],[]⟩ 8 (by kernel_rfl) (by kernel_rfl) (by kernel_rfl) (by kernel_rfl)) ?_
 intro W base args ds gs before hval0 hW hcnd _;have hval:∀(j:Nat) t v,Tryz.f3.params[j]? = some t->args[j]? = some v->Value.okWide Tryz.prog W .any base t v:=hval0;have hW':=hW;obtain⟨p,q,hA0,hV,rfl,hfz,hnd⟩:=hW;have hA:DataW.TrodAll enc Tryz.prog W 0 (fun _=>true) true Tryz.f3.params.toList args.toList ds p:=hA0;rw[Tryz.params3]at hA hval;obtain⟨v0,vs0,d0,ds0,p0,q0,hargs,rfl,rfl,h0,r0⟩:=trodAll_cons hA;obtain⟨v1,vs1,d1,ds1,p1,q1,rfl,rfl,rfl,h1,r1⟩:=trodAll_cons r0;obtain⟨v2,vs2,d2,ds2,p2,q2,rfl,rfl,rfl,h2,r2⟩:=trodAll_cons r1;obtain⟨v3,vs3,d3,ds3,p3,q3,rfl,rfl,rfl,h3,r3⟩:=trodAll_cons r2;obtain⟨v4,vs4,d4,ds4,p4,q4,rfl,rfl,rfl,h4,r4⟩:=trodAll_cons r3;obtain⟨v5,vs5,d5,ds5,p5,q5,rfl,rfl,rfl,h5,r5⟩:=trodAll_cons r4;obtain⟨rfl,rfl,rfl⟩:=trodAll_nil r5;obtain rfl:args = #[v0,v1,v2,v3,v4,v5]:=by cases args;simp_all
 obtain⟨rfl,rfl⟩:=trodVars_none hV;have k0:=h0;have lt0:∀x∈p0,x.block<W.heap.size:=by obtain⟨m,hm⟩:=k0;exact DataW.trod_lt m _ _ _ hm
 obtain⟨c00,c01,c02,c03,c04,c05,y00,y01,y02,y03,y04,y05,m0,rfl,rfl,rfl,e00,e01,e02,e03,e04,e05⟩:=Bi9 Tryz.underlying23 (by kernel_rfl) (by kernel_rfl) (hval 0 23 v0 rfl rfl) h0;obtain⟨a00,b00,rfl,-⟩:=DataW.trod_int Tryz.underlying3 e00;obtain rfl:c00=.int .i64 a00:=by simpa using b00
 obtain⟨a01,b01,rfl,-⟩:=DataW.trod_int Tryz.underlying3 e01;obtain rfl:c01=.int .i64 a01:=by simpa using b01
 obtain⟨a02,b02,rfl,-⟩:=DataW.trod_int Tryz.underlying3 e02;obtain rfl:c02=.int .i64 a02:=by simpa using b02
 obtain⟨a03,b03,rfl,-⟩:=DataW.trod_int Tryz.underlying3 e03;obtain rfl:c03=.int .i64 a03:=by simpa using b03
 obtain⟨a04,b04,rfl,-⟩:=DataW.trod_int Tryz.underlying3 e04;obtain rfl:c04=.int .i64 a04:=by simpa using b04
 obtain⟨a05,b05,rfl,-⟩:=DataW.trod_int Tryz.underlying3 e05;obtain rfl:c05=.int .i64 a05:=by simpa using b05
 have k1:=h1;have lt1:∀x∈p1,x.block<W.heap.size:=by obtain⟨m,hm⟩:=k1;exact DataW.trod_lt m _ _ _ hm
 obtain⟨L1,R1,rr1⟩:=Bki Tryz.underlying24 Tryz.underlying3 (by kernel_rfl) (hval 1 24 v1 rfl rfl) h1;obtain⟨a2,rfl,rfl,rfl,w2⟩:=open_int Tryz.underlying3 (hval 2 3 v2 rfl rfl) h2;obtain⟨a3,rfl,rfl,rfl⟩:=open_bool Tryz.underlying4 (hval 3 4 v3 rfl rfl) h3;obtain⟨a4,rfl,rfl,rfl,w4⟩:=open_int Tryz.underlying3 (hval 4 3 v4 rfl rfl) h4;obtain⟨a5,rfl,rfl,rfl,w5⟩:=open_int Tryz.underlying5 (hval 5 5 v5 rfl rfl) h5;refine(A87 a00 a01 a02 a03 a04 a05 v1 a2 a3 a4 a5 W R1 rr1 w5).mono fun e W' ⟨he,bel⟩=>?_
 subst he;exact⟨_,rfl,_,_,_,[],_,[],hW',trodAll_mk1 (shut_bool Tryz.underlying4 _),(trodAll_cons_mk (Below.trod laidOut (by kernel_rfl) (of_decide_eq_true (by kernel_rfl)) k0 bel lt0) (trodAll_cons_mk (Below.trod laidOut (by kernel_rfl) (of_decide_eq_true (by kernel_rfl)) k1 bel lt1) (trodAll_cons_mk (shut_int Tryz.underlying3 w2) (trodAll_cons_mk (shut_bool Tryz.underlying4 a3) (trodAll_cons_mk (shut_int Tryz.underlying3 w4) (trodAll_cons_mk (shut_int Tryz.underlying5 w5) trodAll_mk0)))))),rfl,bel.frame _,fun h=>by cases h⟩
theorem Hi {a b:Bool}(h1:a=true)(h2:b=true):(a&&b)=true:=by rw[h1,h2];rfl
theorem Bmv:joinedFacts Tryz.pinned.checked.prog 3 Tryz.f3 Rows.scrubFindsSpec Rows.scrubFindsRow=true:=by
 unfold joinedFacts;exact Hi (Hi (Hi (Hi (Hi (Hi (Hi (Hi (Hi (Hi (Hi (Hi (Hi (Hi (Hi (Hi (Hi (Hi (Hi (Hi (Hi (Hi (Hi (Hi (Hi (Hi (Hi (Hi (Hi (Hi (Hi Bn4 Bj3) Bkk) Blh) Bmx) Bjx) Bnx) Bnb) Bkq) Bf9) Bjh) Bh8) Bhb) Bgr) Bii) Bjq) Bgn) Biq) Bix) Bh3) Bjs) Bhh) Bhu) Bid) Bh5) Bga) Bgo) Bh7) Bic) Bgb) Bjl) Bip
theorem rowNamed:Tryz.pinned.checked.prog.funcNamed Rows.scrubFindsRow.func=some 3:=by kernel_rfl
theorem Bov:Rows.scrubFindsRow.holds Tryz.pinned (OpenSpec.ofChange Rows.scrubFindsSpec):=
 OpenClaim.holds_of_wide 3 Tryz.f3 rfl rfl rfl rfl rfl rfl rfl ⟨rfl,rfl,rfl,rfl,rfl⟩ rfl rfl rfl rfl rfl rowNamed Tryz.func3 Bmv
  (of_decide_eq_true (by kernel_rfl)) (by unfold Func.isWrapper;first|(rw[if_pos (by decide +kernel)];kernel_rfl)|(rw[if_neg (by decide +kernel)];exact⟨rfl,rfl⟩))
  (fun os started H enc _=>lifted os started H enc)
theorem scrubFinds:Rows.ScrubFindsSaid:=Bov
#print axioms scrubFinds
end Go.Proofs.YtllikommdogjcaaGreat
