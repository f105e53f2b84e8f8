import Derived.Test.YtpkcfamminlmaaaGreatFun
set_option linter.unusedVariables false
set_option linter.unusedSimpArgs false
set_option linter.unusedSectionVars false
namespace Go.Ev
open Go.Proofs
set_option maxRecDepth 100000
noncomputable section
def A8p(v:EV)(r:R):Bool:=match r with|some (w,_)=>eqV w v|none=>false
end
theorem A89:A8p We (Ae TT Alo many 60 false 26 [] ⟨.nil,0,0⟩)=true:=by kernel_rfl
theorem Ay5:(A3.all fun v=>match v with | .int _ _=>true|_=>false)=true:=by kernel_rfl
theorem A55 {l:List EV}(h:(l.all fun v=>match v with | .int _ _=>true|_=>false)=true)(f g:Loc):Be f l=Be g l:=by
 induction l with
 | nil=>rfl
 | cons a r ih=>
  rw[List.all_cons,Bool.and_eq_true]at h
  simp only[Be]
  rw[ih h.2]
  cases a <;> first|rfl|(simp at h)
theorem A7y {l:List EV}(h:(l.all fun v=>match v with | .int _ _=>true|_=>false)=true)(p:Nat->Prop):EV.Pp p l/\l.all EV.one=true:=by
 induction l with
 | nil=>exact⟨trivial,rfl⟩
 | cons a r ih=>
  rw[List.all_cons,Bool.and_eq_true]at h
  obtain⟨i1,i2⟩:=ih h.2
  rw[List.all_cons,i2]
  cases a <;> first|exact⟨⟨trivial,i1⟩,rfl⟩|(simp at h)
theorem Ax4:Af9 TP 26 At1:=by
 intro call round K _ _ args h v h' e
 have hs:=(Ajk Awj Awe many 60).1
 have hr:=A89
 unfold A8p at hr
 split at hr
 ·rename_i w h0 hrun
  have hw:=Av0 hr
  subst hw
  obtain⟨fn,hf,hb,hn⟩:=(hs 26 [] _ _ _ hrun).fn
  have hv:∀ f,Bz f We=Bz ⟨fun _=>0,fun _=>0⟩ We:=fun f=>by
   show Bz f (.agg A3)=Bz _ (.agg A3)
   simp only[Bz];rw[A55 Ay5 f ⟨fun _=>0,fun _=>0⟩]
  obtain⟨k1,k2⟩:=Anp (P:=TP) (g:=26) (v:=We) hv (fun p=>A7y Ay5 p) hf hb hn (fun w=>Ao8 hs.call hrun hv w)
  cases args with
  | nil=>exact Sound.of k1 k2 26 [] h v h' e
  | cons a r=>cases e
 ·cases hr
theorem Arh {P:Program}{disp:Nat->Option FT}(h:∀ g F,disp g=some F->Af9 P g F){n:Nat}{G:FT}(hG:Af9 P n G):∀ g F,As (Nat.beq g n) (some G) (disp g)=some F->Af9 P g F:=by
 intro g F e
 rw[A8]at e
 split at e
 ·rename_i hb;cases e;rw[beq_spec hb];exact hG
 ·exact h g F e
noncomputable def Ati:Nat->Option FT:=fun f=>As (Nat.beq f 26) (some At1) (Alo f)
theorem Aru:∀ g F,Ati g=some F->Af9 TP g F:=Arh Awe Ax4
noncomputable def A5k:FT:=fun _ _ _ args h=>@List.rec EV (fun _=>R) (some (.bool true,h)) (fun _ _ _=>none) args
theorem A4d {disp:Nat->Option FT}{n:Nat}(hd:∀ g F,disp g=some F->Af9 TP g F)(ha:isTrue (Ae TT disp many 60 false n [] ⟨.nil,0,0⟩)=true):Af9 TP n A5k:=by
 intro call round K _ _ args h v h' e
 have hs:=(Ajk Awj hd many 60).1
 obtain⟨h0,hr⟩:=Auz ha
 obtain⟨fn,hf,hb,hn⟩:=(hs n [] _ _ _ hr).fn
 obtain⟨k1,k2⟩:=Anp (P:=TP) (g:=n) (v:=.bool true) (V:=.bool true) (fun _=>rfl) (fun p=>trivial) hf hb hn fun w=>Ao8 hs.call hr (fun _=>rfl) w
 cases args with
 | nil=>exact Sound.of k1 k2 n [] h v h' (by unfold Ajt;rw[Nat.beq_refl,Ak];exact e)
 | cons a r=>cases e
end Go.Ev
