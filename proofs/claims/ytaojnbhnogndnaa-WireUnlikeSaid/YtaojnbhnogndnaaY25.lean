/- A message as an argument of a law of the wire (as in Y14; never import both). -/
import Derived.Test.YtaojnbhnogndnaaY16
namespace Go.Proofs.Ytaojnbhnogndnaa.SL
open Go.RowKit Go.Proofs.YtaojnbhnogndnaaW.PrintWords Go.Proofs.YtaojnbhnogndnaaW.PrintLast Go.Proofs.YtaojnbhnogndnaaW.PrintMore
attribute [local go_sem] max2_int min2_int max_two min_two
attribute [local go_sem high] Small.cell_set_same
set_option linter.unusedVariables false
set_option linter.unusedSimpArgs false

theorem Opens.agg4 {H : Type} {enc : TypeId × Value → H} {P : Program} {base : Nat} {held : Bool} {W : World} {t : TypeId} {α : Type} {d : Kd α} {B : α → Prop} {cs : Array Value} {x : DataW H} {p : List MemPlace} (ho : Opens enc P base held W t d B) (h : DataW.Trod enc P W base (fun _ => true) held t (.agg cs) x p) (hw : ∀ m ∈ x.weights P t, m ≤ reachBytes) : ∃ a, d.K W a cs.toList ∧ B a := by
  obtain ⟨fuel, hf⟩ := h
  exact ho fuel _ _ hf hw

end Go.Proofs.Ytaojnbhnogndnaa.SL
