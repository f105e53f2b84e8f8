import Derived.Test.YtpkcfamminlmaaaGreatFun
set_option linter.unusedVariables false
set_option linter.unusedSimpArgs false
set_option linter.unusedSectionVars false
namespace Go.Ev
open Go.Proofs
set_option maxRecDepth 100000
noncomputable section
def A2j(v:EV)(r:R):Bool:=match r with|some (w,_)=>eqV w v|none=>false
end
theorem A3n:A2j Ss (Ad TT Aft many 60 false 26 [] ⟨.nil,0,0⟩)=true:=by kernel_rfl
theorem Aul:(Bc.all fun v=>match v with | .int _ _=>true|_=>false)=true:=by kernel_rfl
theorem Azt {l:List EV}(h:(l.all fun v=>match v with | .int _ _=>true|_=>false)=true)(f g:Loc):A7 f l=A7 g l:=by
 induction l with
 | nil=>rfl
 | cons a r ih=>
  rw[List.all_cons,Bool.and_eq_true]at h
  simp only[A7]
  rw[ih h.2]
  cases a <;> first|rfl|(simp at h)
theorem A14 {l:List EV}(h:(l.all fun v=>match v with | .int _ _=>true|_=>false)=true)(p:Nat->Prop):EV.Mx p l/\l.all EV.one=true:=by
 induction l with
 | nil=>exact⟨trivial,rfl⟩
 | cons a r ih=>
  rw[List.all_cons,Bool.and_eq_true]at h
  obtain⟨i1,i2⟩:=ih h.2
  rw[List.all_cons,i2]
  cases a <;> first|exact⟨⟨trivial,i1⟩,rfl⟩|(simp at h)
theorem Ar1:Abg TP 26 An5:=by
 intro call round K _ _ args h v h' e
 have hs:=(Aeq Al2 Apl many 60).1
 have hr:=A3n
 unfold A2j at hr
 split at hr
 ·rename_i w h0 hrun
  have hw:=Aq4 hr
  subst hw
  obtain⟨fn,hf,hb,hn⟩:=(hs 26 [] _ _ _ hrun).fn
  have hv:∀ f,Bt f Ss=Bt ⟨fun _=>0,fun _=>0⟩ Ss:=fun f=>by
   show Bt f (.agg Bc)=Bt _ (.agg Bc)
   simp only[Bt];rw[Azt Aul f ⟨fun _=>0,fun _=>0⟩]
  obtain⟨k1,k2⟩:=Akj (P:=TP) (g:=26) (v:=Ss) hv (fun p=>A14 Aul p) hf hb hn (fun w=>Aj6 hs.call hrun hv w)
  cases args with
  | nil=>exact Sound.of k1 k2 26 [] h v h' e
  | cons a r=>cases e
 ·cases hr
theorem Ams {P:Program}{disp:Nat->Option FT}(h:∀ g F,disp g=some F->Abg P g F){n:Nat}{G:FT}(hG:Abg P n G):∀ g F,An (Nat.beq g n) (some G) (disp g)=some F->Abg P g F:=by
 intro g F e
 rw[A1]at e
 split at e
 ·rename_i hb;cases e;rw[beq_spec hb];exact hG
 ·exact h g F e
noncomputable def Ans:Nat->Option FT:=fun f=>An (Nat.beq f 26) (some An5) (Aft f)
theorem Amk:∀ g F,Ans g=some F->Abg TP g F:=Ams Apl Ar1
noncomputable def Axx:FT:=fun _ _ _ args h=>@List.rec EV (fun _=>R) (some (.bool true,h)) (fun _ _ _=>none) args
theorem Azo {disp:Nat->Option FT}{n:Nat}(hd:∀ g F,disp g=some F->Abg TP g F)(ha:isTrue (Ad TT disp many 60 false n [] ⟨.nil,0,0⟩)=true):Abg TP n Axx:=by
 intro call round K _ _ args h v h' e
 have hs:=(Aeq Al2 hd many 60).1
 obtain⟨h0,hr⟩:=Apx ha
 obtain⟨fn,hf,hb,hn⟩:=(hs n [] _ _ _ hr).fn
 obtain⟨k1,k2⟩:=Akj (P:=TP) (g:=n) (v:=.bool true) (V:=.bool true) (fun _=>rfl) (fun p=>trivial) hf hb hn fun w=>Aj6 hs.call hr (fun _=>rfl) w
 cases args with
 | nil=>exact Sound.of k1 k2 n [] h v h' (by unfold Afq;rw[Nat.beq_refl,Ak];exact e)
 | cons a r=>cases e
end Go.Ev
