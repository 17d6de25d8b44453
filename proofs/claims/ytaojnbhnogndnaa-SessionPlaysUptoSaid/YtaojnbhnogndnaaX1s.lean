/- Assertions taken out of a list, in an order of one's choice. -/
import Derived.Test.YtaojnbhnogndnaaX1
namespace Go.Proofs.Ytaojnbhnogndnaa.SL
set_option linter.unusedVariables false

/-- The assertions, each with the blocks that a function gives it. -/
def Parts (B : Nat) (w : World) (l : List Asrt) (V : Nat → Prop) (S : Nat → Nat → Prop) : Prop :=
  ∀ i a, l[i]? = some a → a.P w (S i) ∧ (∀ k, S i k → B ≤ k ∧ ¬ V k) ∧ ∀ j, j < l.length → j ≠ i → ∀ k, S i k → ¬ S j k
theorem SatF.parts {B : Nat} {w : World} : ∀ {l : List Asrt} {V : Nat → Prop}, SatF B w l V → ∃ S, Parts B w l V S
  | [], V, _ => ⟨fun _ _ => False, fun i a h => by simp at h⟩
  | a :: l, V, ⟨S0, hP, hS, h⟩ => by
    obtain ⟨S, hp⟩ := SatF.parts h
    refine ⟨fun i => match i with | 0 => S0 | i + 1 => S i, fun i a' hi => ?_⟩
    cases i with
    | zero =>
      simp only [List.getElem?_cons_zero, Option.some.injEq] at hi
      subst hi
      refine ⟨hP, hS, fun j hj hne k hk => ?_⟩
      cases j with
      | zero => exact absurd rfl hne
      | succ j =>
        intro hk2
        have hj' : j < l.length := by simpa using hj
        exact ((hp j _ (List.getElem?_eq_getElem hj')).2.1 k hk2).2 (.inr hk)
    | succ i =>
      simp only [List.getElem?_cons_succ] at hi
      obtain ⟨h1, h2, h3⟩ := hp i a' hi
      refine ⟨h1, fun k hk => ⟨(h2 k hk).1, fun hv => (h2 k hk).2 (.inl hv)⟩, fun j hj hne k hk => ?_⟩
      cases j with
      | zero => exact fun hk2 => (h2 k hk).2 (.inr hk2)
      | succ j => exact h3 j (by simpa using hj) (by omega) k hk
theorem SatF.ofParts {B : Nat} {w : World} : ∀ {l : List Asrt} {V : Nat → Prop} {S : Nat → Nat → Prop}, Parts B w l V S → SatF B w l V
  | [], _, _, _ => trivial
  | a :: l, V, S, hp => by
    obtain ⟨h1, h2, h3⟩ := hp 0 a rfl
    refine ⟨S 0, h1, h2, SatF.ofParts (S := fun i => S (i + 1)) (fun i a' hi => ?_)⟩
    obtain ⟨q1, q2, q3⟩ := hp (i + 1) a' (by simpa using hi)
    refine ⟨q1, fun k hk => ⟨(q2 k hk).1, ?_⟩, fun j hj hne k hk => q3 (j + 1) (by simpa using hj) (by omega) k hk⟩
    rintro (hv | h0)
    · exact (q2 k hk).2 hv
    · exact q3 0 (by simp) (by omega) k hk h0
/-- Those at these places, in this order. -/
theorem Sat.sel {w0 w : World} {l : List Asrt} (h : Sat w0 w l) (is : List Nat) (l' : List Asrt) (hn : is.Nodup) (hs0 : is.map (fun (i : Nat) => l[i]?) = l'.map some) : Sat w0 w l' := by
  have hs : ∀ m : Nat, l'[m]? = is[m]?.bind (fun (i : Nat) => l[i]?) := by
    intro m
    have h1 := congrArg (fun q : List (Option Asrt) => q[m]?) hs0
    simp only [List.getElem?_map] at h1
    cases hi : is[m]? with
    | none => rw [hi] at h1; cases hl : l'[m]? with
      | none => rfl
      | some a => rw [hl] at h1; cases h1
    | some i => rw [hi] at h1; cases hl : l'[m]? with
      | none => rw [hl] at h1; cases h1
      | some a => rw [hl] at h1; exact (Option.some.inj h1).symm
  obtain ⟨S, hp⟩ := h.sat.parts
  refine ⟨h.below, SatF.ofParts (S := fun m => match is[m]? with | some i => S i | none => fun _ => False) (fun m a hm => ?_)⟩
  rw [hs] at hm
  obtain ⟨i, hi, ha⟩ := Option.bind_eq_some_iff.1 hm
  simp only [hi]
  obtain ⟨q1, q2, q3⟩ := hp i a ha
  refine ⟨q1, q2, fun j hj hne k hk => ?_⟩
  cases hj2 : is[j]? with
  | none => exact fun hf => hf
  | some i2 =>
    have hne2 : i2 ≠ i := by
      intro he
      subst he
      have h1 := (List.getElem?_eq_some_iff.1 hj2)
      have h2 := (List.getElem?_eq_some_iff.1 hi)
      obtain ⟨b1, e1⟩ := h1
      obtain ⟨b2, e2⟩ := h2
      have hpw := List.pairwise_iff_getElem.1 hn
      rcases Nat.lt_or_gt_of_ne hne with hlt | hlt
      · exact hpw j m b1 b2 hlt (e1.trans e2.symm)
      · exact hpw m j b2 b1 hlt (e2.trans e1.symm)
    have hlt : i2 < l.length := by
      have h4 := hs j
      rw [hj2, List.getElem?_eq_getElem hj] at h4
      simp only [Option.bind_some] at h4
      exact (List.getElem?_eq_some_iff.1 h4.symm).1
    exact q3 i2 hlt hne2 k hk
end Go.Proofs.Ytaojnbhnogndnaa.SL
