import Derived.Test.YtpkcfamminlmaaaGreatFun
set_option linter.unusedVariables false
set_option linter.unusedSimpArgs false
set_option linter.unusedSectionVars false
namespace Go.Ev
open Go.Proofs
set_option maxRecDepth 100000
noncomputable section
def A5p(v:EV)(r:R):Bool:=match r with|some (w,_)=>eqV w v|none=>false
end
theorem A6m:A5p Ug (Ad TT Aew many 60 false 26 [] ⟨.nil,0,0⟩)=true:=by kernel_rfl
theorem Aw8:(Bc.all fun v=>match v with | .int _ _=>true|_=>false)=true:=by kernel_rfl
theorem A20 {l:List EV}(h:(l.all fun v=>match v with | .int _ _=>true|_=>false)=true)(f g:Loc):A8 f l=A8 g l:=by
 induction l with
 | nil=>rfl
 | cons a r ih=>
  rw[List.all_cons,Bool.and_eq_true]at h
  simp only[A8]
  rw[ih h.2]
  cases a <;> first|rfl|(simp at h)
theorem A4p {l:List EV}(h:(l.all fun v=>match v with | .int _ _=>true|_=>false)=true)(p:Nat->Prop):EV.N3 p l/\l.all EV.one=true:=by
 induction l with
 | nil=>exact⟨trivial,rfl⟩
 | cons a r ih=>
  rw[List.all_cons,Bool.and_eq_true]at h
  obtain⟨i1,i2⟩:=ih h.2
  rw[List.all_cons,i2]
  cases a <;> first|exact⟨⟨trivial,i1⟩,rfl⟩|(simp at h)
theorem Auh:Abe TP 26 Aqu:=by
 intro call round K _ _ args h v h' e
 have hs:=(Aic Am4 Ash many 60).1
 have hr:=A6m
 unfold A5p at hr
 split at hr
 ·rename_i w h0 hrun
  have hw:=Att hr
  subst hw
  obtain⟨fn,hf,hb,hn⟩:=(hs 26 [] _ _ _ hrun).fn
  have hv:∀ f,Br f Ug=Br ⟨fun _=>0,fun _=>0⟩ Ug:=fun f=>by
   show Br f (.agg Bc)=Br _ (.agg Bc)
   simp only[Br];rw[A20 Aw8 f ⟨fun _=>0,fun _=>0⟩]
  obtain⟨k1,k2⟩:=Alw (P:=TP) (g:=26) (v:=Ug) hv (fun p=>A4p Aw8 p) hf hb hn (fun w=>Amt hs.call hrun hv w)
  cases args with
  | nil=>exact Sound.of k1 k2 26 [] h v h' e
  | cons a r=>cases e
 ·cases hr
theorem Aok {P:Program}{disp:Nat->Option FT}(h:∀ g F,disp g=some F->Abe P g F){n:Nat}{G:FT}(hG:Abe P n G):∀ g F,Ar (Nat.beq g n) (some G) (disp g)=some F->Abe P g F:=by
 intro g F e
 rw[A5]at e
 split at e
 ·rename_i hb;cases e;rw[beq_spec hb];exact hG
 ·exact h g F e
noncomputable def Ap2:Nat->Option FT:=fun f=>Ar (Nat.beq f 26) (some Aqu) (Aew f)
theorem Ao7:∀ g F,Ap2 g=some F->Abe TP g F:=Aok Ash Auh
noncomputable def A1q:FT:=fun _ _ _ args h=>@List.rec EV (fun _=>R) (some (.bool true,h)) (fun _ _ _=>none) args
theorem A15 {disp:Nat->Option FT}{n:Nat}(hd:∀ g F,disp g=some F->Abe TP g F)(ha:isTrue (Ad TT disp many 60 false n [] ⟨.nil,0,0⟩)=true):Abe TP n A1q:=by
 intro call round K _ _ args h v h' e
 have hs:=(Aic Am4 hd many 60).1
 obtain⟨h0,hr⟩:=Arw ha
 obtain⟨fn,hf,hb,hn⟩:=(hs n [] _ _ _ hr).fn
 obtain⟨k1,k2⟩:=Alw (P:=TP) (g:=n) (v:=.bool true) (V:=.bool true) (fun _=>rfl) (fun p=>trivial) hf hb hn fun w=>Amt hs.call hr (fun _=>rfl) w
 cases args with
 | nil=>exact Sound.of k1 k2 n [] h v h' (by unfold Ag0;rw[Nat.beq_refl,Ak];exact e)
 | cons a r=>cases e
end Go.Ev
