import Derived.Test.YtpkcfamminlmaaaGreatFun
set_option linter.unusedVariables false
set_option linter.unusedSimpArgs false
set_option linter.unusedSectionVars false
namespace Go.Ev
open Go.Proofs
set_option maxRecDepth 100000
noncomputable section
def Bda(v:EV)(r:R):Bool:=match r with|some (w,_)=>eqV w v|none=>false
end
theorem Bfl:Bda Qv (Ad TT Ala many 60 false 26 [] ⟨.nil,0,0⟩)=true:=by kernel_rfl
theorem A1q:(A8.all fun v=>match v with | .int _ _=>true|_=>false)=true:=by kernel_rfl
theorem A9j {l:List EV}(h:(l.all fun v=>match v with | .int _ _=>true|_=>false)=true)(f g:Loc):Bn f l=Bn g l:=by
 induction l with
 | nil=>rfl
 | cons a r ih=>
  rw[List.all_cons,Bool.and_eq_true]at h
  simp only[Bn]
  rw[ih h.2]
  cases a <;> first|rfl|(simp at h)
theorem Bcw {l:List EV}(h:(l.all fun v=>match v with | .int _ _=>true|_=>false)=true)(p:Nat->Prop):EV.O9 p l/\l.all EV.one=true:=by
 induction l with
 | nil=>exact⟨trivial,rfl⟩
 | cons a r ih=>
  rw[List.all_cons,Bool.and_eq_true]at h
  obtain⟨i1,i2⟩:=ih h.2
  rw[List.all_cons,i2]
  cases a <;> first|exact⟨⟨trivial,i1⟩,rfl⟩|(simp at h)
theorem A05:Ad0 TP 26 Atz:=by
 intro call round K _ _ args h v h' e
 have hs:=(Ajn Apg Axs many 60).1
 have hr:=Bfl
 unfold Bda at hr
 split at hr
 ·rename_i w h0 hrun
  have hw:=Axz hr
  subst hw
  obtain⟨fn,hf,hb,hn⟩:=(hs 26 [] _ _ _ hrun).fn
  have hv:∀ f,B9 f Qv=B9 ⟨fun _=>0,fun _=>0⟩ Qv:=fun f=>by
   show B9 f (.agg A8)=B9 _ (.agg A8)
   simp only[B9];rw[A9j A1q f ⟨fun _=>0,fun _=>0⟩]
  obtain⟨k1,k2⟩:=Apb (P:=TP) (g:=26) (v:=Qv) hv (fun p=>Bcw A1q p) hf hb hn (fun w=>Ao4 hs.call hrun hv w)
  cases args with
  | nil=>exact Sound.of k1 k2 26 [] h v h' e
  | cons a r=>cases e
 ·cases hr
theorem As3 {P:Program}{disp:Nat->Option FT}(h:∀ g F,disp g=some F->Ad0 P g F){n:Nat}{G:FT}(hG:Ad0 P n G):∀ g F,Ay (Nat.beq g n) (some G) (disp g)=some F->Ad0 P g F:=by
 intro g F e
 rw[Bh]at e
 split at e
 ·rename_i hb;cases e;rw[beq_spec hb];exact hG
 ·exact h g F e
noncomputable def Auq:Nat->Option FT:=fun f=>Ay (Nat.beq f 26) (some Atz) (Ala f)
theorem As0:∀ g F,Auq g=some F->Ad0 TP g F:=As3 Axs A05
noncomputable def A8k:FT:=fun _ _ _ args h=>@List.rec EV (fun _=>R) (some (.bool true,h)) (fun _ _ _=>none) args
theorem A95 {disp:Nat->Option FT}{n:Nat}(hd:∀ g F,disp g=some F->Ad0 TP g F)(ha:isTrue (Ad TT disp many 60 false n [] ⟨.nil,0,0⟩)=true):Ad0 TP n A8k:=by
 intro call round K _ _ args h v h' e
 have hs:=(Ajn Apg hd many 60).1
 obtain⟨h0,hr⟩:=Ayb ha
 obtain⟨fn,hf,hb,hn⟩:=(hs n [] _ _ _ hr).fn
 obtain⟨k1,k2⟩:=Apb (P:=TP) (g:=n) (v:=.bool true) (V:=.bool true) (fun _=>rfl) (fun p=>trivial) hf hb hn fun w=>Ao4 hs.call hr (fun _=>rfl) w
 cases args with
 | nil=>exact Sound.of k1 k2 n [] h v h' (by unfold Ak2;rw[Nat.beq_refl,An];exact e)
 | cons a r=>cases e
end Go.Ev
