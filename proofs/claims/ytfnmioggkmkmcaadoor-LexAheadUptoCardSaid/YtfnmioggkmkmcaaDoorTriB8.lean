/-
  Scopes: gone through straight, or with jumps back to one label.
-/
import Derived.Test.YtfnmioggkmkmcaaDoorTriB7
import Derived.ScopeJumps
namespace Go.Tri
open Go.RowKit
section
variable {C : Cx} {E : Env} {I : Look} {H : List HA} {D : List Deferred} {Q : Exit → Act → World → Prop}
theorem t_label {l : Nat} (h : N C .normal E I H D Q) : T C (.label l) E I H D Q := fun a w hs hd hw => wpIn_label (h a w hs hd hw)
theorem t_goto {l : Nat} (h : N C (.goto l) E I H D Q) : T C (.goto l) E I H D Q := fun a w hs hd hw => wpIn_goto (h a w hs hd hw)
theorem t_scope {c : Code} (hr : C.r = none) (h : T C c E I H D (Exit.noGoto Q)) : T C (.scope c) E I H D Q := by
  intro a w hs hd hw
  have := h a w hs hd hw
  rw [hr, WF_none, wpIn_wide] at *
  exact wp_scope_straight this
theorem n_scope (h : N C .normal E I H D Q) : N C .normal E I H D (Exit.noGoto Q) := h
theorem n_exit_scope {id : Nat} (h : N C (.exit id) E I H D Q) : N C (.exit id) E I H D (Exit.noGoto Q) := h
theorem n_ret_scope (h : N C .ret E I H D Q) : N C .ret E I H D (Exit.noGoto Q) := h
theorem n_goto_then {K : Act → World → Prop} {l : Nat} (h : N C (.goto l) E I H D Q) : N C (.goto l) E I H D (Exit.then K Q) := h
theorem n_goto_block {id l : Nat} (h : N C (.goto l) E I H D Q) : N C (.goto l) E I H D (Exit.inBlock id Q) := h
theorem n_jump {l : Nat} {J : Act → World → Prop} (h : N C .normal E I H D Q) : N C .normal E I H D (Exit.jump l J Q) := h
theorem n_exit_jump {id l : Nat} {J : Act → World → Prop} (h : N C (.exit id) E I H D Q) : N C (.exit id) E I H D (Exit.jump l J Q) := h
theorem n_ret_jump {l : Nat} {J : Act → World → Prop} (h : N C .ret E I H D Q) : N C .ret E I H D (Exit.jump l J Q) := h
theorem wp_scope_ix {P : Program} {ι : Type} {c rest : Code} {a : Act} {w : World} (l : Nat) (J : ι → Act → World → Prop) (μ : ι → Nat) (hf : findLabel c l = some rest) (i0 : ι) (h0 : J i0 a w)
    (first : ∀ a w, J i0 a w → c.wp P (Exit.jump l (fun a' w' => ∃ j, μ j < μ i0 ∧ J j a' w') Q) a w)
    (pass : ∀ i a w, J i a w → rest.wp P (Exit.jump l (fun a' w' => ∃ j, μ j < μ i ∧ J j a' w') Q) a w) : (Code.scope c).wp P Q a w := by
  intro b k cs
  have hg : gotoIn l (.inScope c :: k) = some (.code rest :: .inScope c :: k) := by simp [gotoIn, hf]
  have key : ∀ n i a w, μ i = n → J i a w → ∃ e a' w', Q e a' w' ∧ Arrives P (lone (b.at a (.code rest :: .inScope c :: k)) cs w) b k cs e a' w' := by
    intro n
    induction n using Nat.strongRecOn with
    | _ n ih =>
      intro i a w hn hJ
      obtain ⟨e, a₁, w₁, hq, harr⟩ := pass i a w hJ b (.inScope c :: k) cs
      cases e with
      | normal => exact ⟨.normal, a₁, w₁, hq, Steps.trans harr (.one step_inScope)⟩
      | exit id => exact ⟨.exit id, a₁, w₁, hq, fun k' hk => harr k' (by simp [exitTo, hk])⟩
      | goto l' =>
        obtain ⟨rfl, j, hlt, hJ'⟩ := hq
        obtain ⟨e₂, a₂, w₂, hq₂, harr₂⟩ := ih _ (by omega) j a₁ w₁ rfl hJ'
        exact ⟨e₂, a₂, w₂, hq₂, .of_steps (harr _ hg) harr₂⟩
      | ret => exact ⟨_, a₁, w₁, hq, harr⟩
      | panic ch => exact ⟨_, a₁, w₁, hq, harr⟩
      | outgrown => exact ⟨_, a₁, w₁, hq, harr⟩
  obtain ⟨e, a₁, w₁, hq, harr⟩ := first a w h0 b (.inScope c :: k) cs
  cases e with
  | normal => exact ⟨.normal, a₁, w₁, hq, .head step_scope (Steps.trans harr (.one step_inScope))⟩
  | exit id => exact ⟨.exit id, a₁, w₁, hq, fun k' hk => .head step_scope (harr k' (by simp [exitTo, hk]))⟩
  | goto l' =>
    obtain ⟨rfl, j, _, hJ'⟩ := hq
    obtain ⟨e₂, a₂, w₂, hq₂, harr₂⟩ := key _ j a₁ w₁ rfl hJ'
    exact ⟨e₂, a₂, w₂, hq₂, .of_steps (.head step_scope (harr _ hg)) harr₂⟩
  | ret => exact ⟨_, a₁, w₁, hq, .of_steps (.one step_scope) harr⟩
  | panic ch => exact ⟨_, a₁, w₁, hq, .of_steps (.one step_scope) harr⟩
  | outgrown => exact ⟨_, a₁, w₁, hq, .of_steps (.one step_scope) harr⟩
/-- what holds at a jump back -/
def Jump {ι : Type} (C : Cx) (Cd : ι → Prop) (EV : ι → Env) (II : ι → Look) (HI : ι → List HA) (D : List Deferred) (j : ι) (a : Act) (w : World) : Prop :=
  Cd j ∧ Sat (EV j) C.n a.tmps ∧ a.defers = D ∧ St C.w0 (II j) (HI j) w
def Jumps {ι : Type} (C : Cx) (Cd : ι → Prop) (μ : ι → Nat) (EV : ι → Env) (II : ι → Look) (HI : ι → List HA) (D : List Deferred) (i : ι) (a : Act) (w : World) : Prop :=
  ∃ j, μ j < μ i ∧ Jump C Cd EV II HI D j a w
theorem t_scopeE {ι : Type} {c rest : Code} (l : Nat) (hr : C.r = none) (hf : findLabel c l = some rest) (Cd : ι → Prop) (μ : ι → Nat) (EV : ι → Env) (E0 : Env) (II : ι → Look) (HI : ι → List HA) (i0 : ι) (hc : Cd i0) (he : Sub E (EV i0)) (he0 : Sub E E0)
    (hh : ∀ w, St C.w0 I H w → St C.w0 (II i0) (HI i0) w)
    (first : ∀ i, Cd i → T C c (EV i ++ E0) (II i) (HI i) D (Exit.jump l (Jumps C Cd μ (fun i => EV i ++ E0) II HI D i) Q))
    (pass : ∀ i, Cd i → T C rest (EV i ++ E0) (II i) (HI i) D (Exit.jump l (Jumps C Cd μ (fun i => EV i ++ E0) II HI D i) Q)) : T C (.scope c) E I H D Q := by
  intro a w hs hd hw
  rw [hr, WF_none, wpIn_wide]
  refine wp_scope_ix l (Jump C Cd (fun i => EV i ++ E0) II HI D) μ hf i0 ⟨hc, hs.sub (sub_app he he0), hd, hh w hw⟩ ?_ ?_
  · intro a w ⟨h1, h2, h3, h4⟩
    have := first i0 h1 a w h2 h3 h4
    rw [hr, WF_none, wpIn_wide] at this
    exact this
  · intro i a w ⟨h1, h2, h3, h4⟩
    have := pass i h1 a w h2 h3 h4
    rw [hr, WF_none, wpIn_wide] at this
    exact this
theorem n_gotoE {ι : Type} {l : Nat} {Cd : ι → Prop} {μ : ι → Nat} {EV : ι → Env} {E0 : Env} {II : ι → Look} {HI : ι → List HA} {i : ι} (j : ι) (hc : Cd j) (hm : μ j < μ i) (he : Sub E (EV j)) (he0 : Sub E E0)
    (hh : ∀ w, St C.w0 I H w → St C.w0 (II j) (HI j) w) : N C (.goto l) E I H D (Exit.jump l (Jumps C Cd μ (fun i => EV i ++ E0) II HI D i) Q) :=
  fun a w hs hd hw => ⟨rfl, j, hm, hc, hs.sub (sub_app he he0), hd, hh w hw⟩
end
end Go.Tri
