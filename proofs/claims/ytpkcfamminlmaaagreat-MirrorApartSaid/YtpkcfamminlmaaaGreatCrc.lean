import Derived.Test.YtpkcfamminlmaaaGreatFun
set_option linter.unusedVariables false
set_option linter.unusedSimpArgs false
set_option linter.unusedSectionVars false
namespace Go.Ev
open Go.Proofs
set_option maxRecDepth 100000
noncomputable section
def A3z(v:EV)(r:R):Bool:=match r with|some (w,_)=>eqV w v|none=>false
end
theorem A4l:A3z Aah (Af TT Ahn many 60 false 26 [] ⟨.nil,0,0⟩)=true:=by kernel_rfl
theorem Aux:(Bp.all fun v=>match v with | .int _ _=>true|_=>false)=true:=by kernel_rfl
theorem Azx {l:List EV}(h:(l.all fun v=>match v with | .int _ _=>true|_=>false)=true)(f g:Loc):A0 f l=A0 g l:=by
 induction l with
 | nil=>rfl
 | cons a r ih=>
  rw[List.all_cons,Bool.and_eq_true]at h
  simp only[A0]
  rw[ih h.2]
  cases a <;> first|rfl|(simp at h)
theorem A3v {l:List EV}(h:(l.all fun v=>match v with | .int _ _=>true|_=>false)=true)(p:Nat->Prop):EV.Nu p l/\l.all EV.one=true:=by
 induction l with
 | nil=>exact⟨trivial,rfl⟩
 | cons a r ih=>
  rw[List.all_cons,Bool.and_eq_true]at h
  obtain⟨i1,i2⟩:=ih h.2
  rw[List.all_cons,i2]
  cases a <;> first|exact⟨⟨trivial,i1⟩,rfl⟩|(simp at h)
theorem Asb:Aao TP 26 Ao1:=by
 intro call round K _ _ args h v h' e
 have hs:=(Af1 Aqr Aq0 many 60).1
 have hr:=A4l
 unfold A3z at hr
 split at hr
 ·rename_i w h0 hrun
  have hw:=Ar2 hr
  subst hw
  obtain⟨fn,hf,hb,hn⟩:=(hs 26 [] _ _ _ hrun).fn
  have hv:∀ f,Bq f Aah=Bq ⟨fun _=>0,fun _=>0⟩ Aah:=fun f=>by
   show Bq f (.agg Bp)=Bq _ (.agg Bp)
   simp only[Bq];rw[Azx Aux f ⟨fun _=>0,fun _=>0⟩]
  obtain⟨k1,k2⟩:=Alm (P:=TP) (g:=26) (v:=Aah) hv (fun p=>A3v Aux p) hf hb hn (fun w=>Ajw hs.call hrun hv w)
  cases args with
  | nil=>exact Sound.of k1 k2 26 [] h v h' e
  | cons a r=>cases e
 ·cases hr
theorem Ag5 {P:Program}{disp:Nat->Option FT}(h:∀ g F,disp g=some F->Aao P g F){n:Nat}{G:FT}(hG:Aao P n G):∀ g F,Ao (Nat.beq g n) (some G) (disp g)=some F->Aao P g F:=by
 intro g F e
 rw[A3]at e
 split at e
 ·rename_i hb;cases e;rw[beq_spec hb];exact hG
 ·exact h g F e
noncomputable def Api:Nat->Option FT:=fun f=>Ao (Nat.beq f 26) (some Ao1) (Ahn f)
theorem Amz:∀ g F,Api g=some F->Aao TP g F:=Ag5 Aq0 Asb
noncomputable def Azm:FT:=fun _ _ _ args h=>@List.rec EV (fun _=>R) (some (.bool true,h)) (fun _ _ _=>none) args
theorem Az0 {disp:Nat->Option FT}{n:Nat}(hd:∀ g F,disp g=some F->Aao TP g F)(ha:isTrue (Af TT disp many 60 false n [] ⟨.nil,0,0⟩)=true):Aao TP n Azm:=by
 intro call round K _ _ args h v h' e
 have hs:=(Af1 Aqr hd many 60).1
 obtain⟨h0,hr⟩:=Ark ha
 obtain⟨fn,hf,hb,hn⟩:=(hs n [] _ _ _ hr).fn
 obtain⟨k1,k2⟩:=Alm (P:=TP) (g:=n) (v:=.bool true) (V:=.bool true) (fun _=>rfl) (fun p=>trivial) hf hb hn fun w=>Ajw hs.call hr (fun _=>rfl) w
 cases args with
 | nil=>exact Sound.of k1 k2 n [] h v h' (by unfold Afk;rw[Nat.beq_refl,Ai];exact e)
 | cons a r=>cases e
end Go.Ev
