/- scopes with several labels -/
import Derived.Test.YtfdkmjegcghieaaGreatDoorGb
namespace Go.Proofs.YtfdkmjegcghieaaGreatDoor
open Go.RowKit
/-- As Q; by a goto to label l: J l. -/
def jumps (J : Nat → Act → World → Prop) (Q : Exit → Act → World → Prop) : Exit → Act → World → Prop
  | .goto l, a, w => J l a w
  | e, a, w => Q e a w
section
variable {P : Program} {a : Act} {w : World} {Q : Exit → Act → World → Prop}
@[go_sem] theorem jumps_ret {J : Nat → Act → World → Prop} : jumps J Q .ret a w = Q .ret a w := rfl
theorem wp_scope_labels {c : Code} (J : Nat → Act → World → Prop) (μ : Nat → Act → World → Nat) (rest : Nat → Code) (ok : ∀ l a w, J l a w → findLabel c l = some (Code.skip.seq (rest l)))
    (first : (∀ l a w, J l a w → (rest l).wp P (jumps J Q) a w) → c.wp P (jumps J Q) a w)
    (pass : ∀ l a w, J l a w → (rest l).wp P (jumps (fun l' a' w' => J l' a' w' ∧ μ l' a' w' < μ l a w) Q) a w) : (Code.scope c).wp P Q a w := by
  have first' := first fun l a w hJ => Code.wp_mono (fun e a' w' h => by cases e <;> first | exact h | exact h.1) (pass l a w hJ)
  have pass' : ∀ l a w, J l a w → (Code.skip.seq (rest l)).wp P (jumps (fun l' a' w' => J l' a' w' ∧ μ l' a' w' < μ l a w) Q) a w := fun l a w hJ => wp_seq (wp_skip (pass l a w hJ))
  intro b k cs
  have hg : ∀ l a w, J l a w → gotoIn l (.inScope c :: k) = some (.code (Code.skip.seq (rest l)) :: .inScope c :: k) := fun l a w h => by simp [gotoIn, ok l a w h]
  have key : ∀ n l a w, μ l a w = n → J l a w → ∃ e a' w', Q e a' w' ∧ Arrives P (lone (b.at a (.code (Code.skip.seq (rest l)) :: .inScope c :: k)) cs w) b k cs e a' w' := by
    intro n
    induction n using Nat.strongRecOn with
    | _ n ih =>
      intro l a w hn hJ
      obtain ⟨e, a₁, w₁, hq, harr⟩ := pass' l a w hJ b (.inScope c :: k) cs
      cases e with
      | normal => exact ⟨.normal, a₁, w₁, hq, Steps.trans harr (.one step_inScope)⟩
      | exit id => exact ⟨.exit id, a₁, w₁, hq, fun k' hk => harr k' (by simp [exitTo, hk])⟩
      | goto l' =>
        obtain ⟨hJ', hlt⟩ := hq
        obtain ⟨e₂, a₂, w₂, hq₂, harr₂⟩ := ih _ (by omega) l' a₁ w₁ rfl hJ'
        exact ⟨e₂, a₂, w₂, hq₂, .of_steps (harr _ (hg _ _ _ hJ')) harr₂⟩
      | ret => exact ⟨_, a₁, w₁, hq, harr⟩
      | panic ch => exact ⟨_, a₁, w₁, hq, harr⟩
      | outgrown => exact ⟨_, a₁, w₁, hq, harr⟩
  obtain ⟨e, a₁, w₁, hq, harr⟩ := first' b (.inScope c :: k) cs
  cases e with
  | normal => exact ⟨.normal, a₁, w₁, hq, .head step_scope (Steps.trans harr (.one step_inScope))⟩
  | exit id => exact ⟨.exit id, a₁, w₁, hq, fun k' hk => .head step_scope (harr k' (by simp [exitTo, hk]))⟩
  | goto l' =>
    obtain ⟨e₂, a₂, w₂, hq₂, harr₂⟩ := key _ l' a₁ w₁ rfl hq
    exact ⟨e₂, a₂, w₂, hq₂, .of_steps (.head step_scope (harr _ (hg _ _ _ hq))) harr₂⟩
  | ret => exact ⟨_, a₁, w₁, hq, .of_steps (.one step_scope) harr⟩
  | panic ch => exact ⟨_, a₁, w₁, hq, .of_steps (.one step_scope) harr⟩
  | outgrown => exact ⟨_, a₁, w₁, hq, .of_steps (.one step_scope) harr⟩
def J3 (J0 J1 J2 : Act → World → Prop) : Nat → Act → World → Prop
  | 0 => J0
  | 1 => J1
  | 2 => J2
  | _ => fun _ _ => False
def R3 (r0 r1 r2 : Code) : Nat → Code
  | 0 => r0
  | 1 => r1
  | _ => r2
theorem wp_scope3 {c r0 r1 r2 : Code} (J0 J1 J2 : Act → World → Prop) (μ : Nat → Act → World → Nat) (h0 : findLabel c 0 = some (Code.skip.seq r0)) (h1 : findLabel c 1 = some (Code.skip.seq r1)) (h2 : findLabel c 2 = some (Code.skip.seq r2))
    (first : (∀ a w, J0 a w → r0.wp P (jumps (J3 J0 J1 J2) Q) a w) → c.wp P (jumps (J3 J0 J1 J2) Q) a w)
    (p0 : ∀ a w, J0 a w → r0.wp P (jumps (fun l' a' w' => J3 J0 J1 J2 l' a' w' ∧ μ l' a' w' < μ 0 a w) Q) a w)
    (p1 : ∀ a w, J1 a w → r1.wp P (jumps (fun l' a' w' => J3 J0 J1 J2 l' a' w' ∧ μ l' a' w' < μ 1 a w) Q) a w)
    (p2 : ∀ a w, J2 a w → r2.wp P (jumps (fun l' a' w' => J3 J0 J1 J2 l' a' w' ∧ μ l' a' w' < μ 2 a w) Q) a w) : (Code.scope c).wp P Q a w := by
  refine wp_scope_labels (J3 J0 J1 J2) μ (R3 r0 r1 r2) ?_ (fun h => first fun a w hJ => h 0 a w hJ) ?_
  · intro l a w h
    match l with
    | 0 => exact h0
    | 1 => exact h1
    | 2 => exact h2
    | n + 3 => exact h.elim
  · intro l a w h
    match l with
    | 0 => exact p0 a w h
    | 1 => exact p1 a w h
    | 2 => exact p2 a w h
    | n + 3 => exact h.elim
end
end Go.Proofs.YtfdkmjegcghieaaGreatDoor
