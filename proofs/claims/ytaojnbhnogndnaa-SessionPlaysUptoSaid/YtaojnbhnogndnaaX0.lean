/- Small words on worlds: what a cell holds behind a store, with no condition; used by the walks of this seat. -/
import Derived.WalkKit
namespace Go.Proofs.Ytaojnbhnogndnaa.Small
/-- A cell behind a store into it, with no condition. -/
theorem cell_set_same (w : World) (g o : Nat) (v : Value) : (w.setCell ⟨g, o, none⟩ v).cell? ⟨g, o, none⟩ = (w.cell? ⟨g, o, none⟩).map fun _ => v := by
  simp only [World.cell?, World.setCell, Array.getElem?_modify]
  cases h : w.heap[g]? with
  | none => simp
  | some x =>
    cases x <;> simp
    rename_i c _ _
    by_cases h1 : o < c.size
    · simp [h1]
    · simp [h1]
/-- Another cell of the same block. -/
theorem cell_set_off (w : World) (g o p : Nat) (v : Value) (h : o ≠ p) : (w.setCell ⟨g, o, none⟩ v).cell? ⟨g, p, none⟩ = w.cell? ⟨g, p, none⟩ := World.cell?_setCell_other _ _ _ _ (by intro e; cases e; exact h rfl)
end Go.Proofs.Ytaojnbhnogndnaa.Small
