import Derived.Test.YtokpnommcenoaaaGreatFun
import Derived.Test.YtokpnommcenoaaaGreatEvSix
set_option linter.unusedVariables false
set_option linter.unusedSimpArgs false
set_option linter.unusedSectionVars false
namespace Go.Ev
open Go.Proofs
set_option maxRecDepth 100000
noncomputable section
def Atc(v:EV)(r:R):Bool:=match r with|some (w,_)=>Pk w v|none=>false
end
theorem At4:Atc Aaf (Af TT Zl many 60 false 63 [] ⟨.nil,0,0⟩)=true:=by kernel_rfl
theorem Agd:(Bl.all fun v=>match v with | .int _ _=>true|_=>false)=true:=by kernel_rfl
theorem Aj1 {l:List EV}(h:(l.all fun v=>match v with | .int _ _=>true|_=>false)=true)(f g:Loc):Av f l=Av g l:=by
 induction l with
 | nil=>rfl
 | cons a r ih=>
  rw[List.all_cons,Bool.and_eq_true]at h
  simp only[Av]
  rw[ih h.2]
  cases a <;> first|rfl|(simp at h)
theorem Ap0 {l:List EV}(h:(l.all fun v=>match v with | .int _ _=>true|_=>false)=true)(p:Nat->Prop):EV.Gx p l/\l.all EV.one=true:=by
 induction l with
 | nil=>exact⟨trivial,rfl⟩
 | cons a r ih=>
  rw[List.all_cons,Bool.and_eq_true]at h
  obtain⟨i1,i2⟩:=ih h.2
  rw[List.all_cons,i2]
  cases a <;> first|exact⟨⟨trivial,i1⟩,rfl⟩|(simp at h)
theorem Ad4:Aq TP 63 Abn:=by
 intro call round K _ _ args h v h' e
 have hs:=(Am A7 Ac1 many 60).1
 have hr:=At4
 unfold Atc at hr
 split at hr
 ·rename_i w h0 hrun
  have hw:=Pq hr
  subst hw
  obtain⟨fn,hf,hb,hn⟩:=(hs 63 [] _ _ _ hrun).fn
  have hv:∀ f,Be f Aaf=Be ⟨fun _=>0,fun _=>0⟩ Aaf:=fun f=>by
   show Be f (.agg Bl)=Be _ (.agg Bl)
   simp only[Be];rw[Aj1 Agd f ⟨fun _=>0,fun _=>0⟩]
  obtain⟨k1,k2⟩:=Xu (P:=TP) (g:=63) (v:=Aaf) hv (fun p=>Ap0 Agd p) hf hb hn (fun w=>Xt hs.call hrun hv w)
  cases args with
  | nil=>exact Sound.of k1 k2 63 [] h v h' e
  | cons a r=>cases e
 ·cases hr
theorem Db {P:Program}{disp:Nat->Option FT}(h:∀ g F,disp g=some F->Aq P g F){n:Nat}{G:FT}(hG:Aq P n G):∀ g F,Al (Nat.beq g n) (some G) (disp g)=some F->Aq P g F:=by
 intro g F e
 rw[Ax]at e
 split at e
 ·rename_i hb;cases e;rw[beq_spec hb];exact hG
 ·exact h g F e
noncomputable def Ay:Nat->Option FT:=fun f=>Al (Nat.beq f 63) (some Abn) (Zl f)
theorem Ai:∀ g F,Ay g=some F->Aq TP g F:=Db Ac1 Ad4
noncomputable def Akg:FT:=fun _ _ _ args h=>@List.rec EV (fun _=>R) (some (.bool true,h)) (fun _ _ _=>none) args
theorem Aov {disp:Nat->Option FT}{n:Nat}(hd:∀ g F,disp g=some F->Aq TP g F)(ha:isTrue (Af TT disp many 60 false n [] ⟨.nil,0,0⟩)=true):Aq TP n Akg:=by
 intro call round K _ _ args h v h' e
 have hs:=(Am A7 hd many 60).1
 obtain⟨h0,hr⟩:=Acw ha
 obtain⟨fn,hf,hb,hn⟩:=(hs n [] _ _ _ hr).fn
 obtain⟨k1,k2⟩:=Xu (P:=TP) (g:=n) (v:=.bool true) (V:=.bool true) (fun _=>rfl) (fun p=>trivial) hf hb hn fun w=>Xt hs.call hr (fun _=>rfl) w
 cases args with
 | nil=>exact Sound.of k1 k2 n [] h v h' (by unfold Ud;rw[Nat.beq_refl,Ak];exact e)
 | cons a r=>cases e
end Go.Ev

namespace Go.Ev
open Go.Proofs
noncomputable def Mf(g:Nat):FT:=fun call round K=>Ly TT call round K g
theorem Fa(g:Nat):Aq TP g (Mf g):=Aq.of A7 fun _ _ _=>rfl
end Go.Ev
