/- Words for memory that several rows lead into and that nobody writes (a pool); rows of bare cells; a row's element written. -/
import Derived.Test.YtaojnbhnogndnaaX11
namespace Go.Proofs.Ytaojnbhnogndnaa.SL
open Go.RowKit Go.Proofs.YtaojnbhnogndnaaW.PrintWords Go.Proofs.YtaojnbhnogndnaaW.PrintLast Go.Proofs.YtaojnbhnogndnaaW.PrintMore
attribute [local go_sem] max2_int min2_int max_two min_two
attribute [local go_sem high] Small.cell_set_same
set_option linter.unusedVariables false
set_option linter.unusedSimpArgs false

/-- Facts that hold by these blocks alone. -/
def pool (fs : List (World → Prop)) : Asrt where
  P w S := (∀ k, S k → k < w.heap.size) ∧ ∀ f ∈ fs, ∀ w', (∀ k, S k → w'.heap[k]? = w.heap[k]?) → f w'
  loc {w w'} {S} h hm := by
    refine ⟨fun k hk => ?_, fun f hf w2 h2 => h.2 f hf w2 (fun k hk => (h2 k hk).trans (hm k hk))⟩
    have h1 := hm k hk
    rw [Array.getElem?_eq_getElem (h.1 k hk)] at h1
    exact (Array.getElem?_eq_some_iff.1 h1).1
  bd h k hk := h.1 k hk
section
variable {w0 w w' : World} {l L : List Asrt}
theorem Sat.poolNew (h : Sat w0 w L) : Sat w0 w (pool [] :: L) := h.new (Below.refl _ _) (T := fun _ => False) (fun _ hf => hf.elim) ⟨fun _ hf => hf.elim, fun f hf => absurd hf (List.not_mem_nil)⟩
theorem Sat.poolGet (h : Sat w0 w l) (i : Nat) {fs : List (World → Prop)} (hi : l[i]? = some (pool fs)) {f : World → Prop} (hf : f ∈ fs) : f w := by
  obtain ⟨S, hp, _⟩ := h.get (List.mem_of_getElem? hi)
  exact hp.2 f hf w (fun _ _ => rfl)
theorem Sat.poolMap {fs gs : List (World → Prop)} (h : Sat w0 w (pool fs :: L)) (hd : ∀ w', (∀ f ∈ fs, f w') → ∀ f ∈ gs, f w') : Sat w0 w (pool gs :: L) :=
  h.write (fun S hP _ => ⟨S, fun k hk => .inl hk, Touch.refl _ _, hP.1, fun f hf w2 h2 => hd w2 (fun g hg => hP.2 g hg w2 h2) f hf⟩)
/-- A row of one's own goes into the pool. -/
theorem Sat.poolRow {α : Type} {d : Kd α} {e n c : Nat} {A : Option Addr} {xs : List α} {fs : List (World → Prop)} (h : Sat w0 w (row d e (.slice A n c) xs :: pool fs :: L)) : Sat w0 w (pool ((fun w => n = xs.length ∧ n ≤ c ∧ d.C w A xs.length xs) :: fs) :: L) := by
  refine h.join.write (fun S hP _ => ⟨S, fun k hk => .inl hk, Touch.refl _ _, ?_, ?_⟩)
  · obtain ⟨S1, S2, h1, h2, _, hs⟩ := hP
    intro k hk
    rcases (hs k).1 hk with hk | hk
    · exact h1.2 k hk
    · exact h2.1 k hk
  · obtain ⟨S1, S2, h1, h2, _, hs⟩ := hP
    intro f hf w2 hw
    rcases List.mem_cons.1 hf with rfl | hf
    · exact Kd.R_reads' (Kd.R_move h1.1 (fun k hk => hw k ((hs k).2 (.inl hk))))
    · exact h2.2 f hf w2 (fun k hk => hw k ((hs k).2 (.inr hk)))
/-- Nothing. -/
def emp : Asrt where
  P _ S := ∀ k, ¬ S k
  loc h _ := h
  bd h k hk := absurd hk (h k)
theorem Sat.emp (h : Sat w0 w L) : Sat w0 w (emp :: L) := h.new (Below.refl _ _) (T := fun _ => False) (fun _ hf => hf.elim) (fun _ hf => hf)
/-- Bare cells: such a row's elements lead nowhere of its own. -/
theorem Sat.bareRows {sz e : Nat} {v : Value} {xs : List (List Value)} (h : Sat w0 w (row (Kd.raw sz) e v xs :: L)) : Sat w0 w (rows (Kd.raw sz) e v xs :: L) := by
  refine h.write (fun S hP _ => ⟨S, fun k hk => .inl hk, Touch.refl _ _, ⟨fun _ => 0, ?_⟩, hP.2⟩)
  obtain ⟨h0, inner, ho, hr⟩ := hP.1
  refine ⟨h0, inner, by rw [List.length_zipIdx]; exact ho, ?_, fun j p hj => ?_⟩
  · simpa [Kd.tag] using hr.1
  · rw [List.getElem?_zipIdx, Nat.zero_add] at hj
    obtain ⟨x, hx, rfl⟩ := Option.map_eq_some_iff.1 hj
    exact hr.2 j x hx
theorem Sat.rowsRow {α : Type} {d : Kd α} {e : Nat} {v : Value} {xs : List α} (h : Sat w0 w (rows d e v xs :: L)) : Sat w0 w (row d e v xs :: L) :=
  h.write (fun S hP _ => ⟨S, fun k hk => .inl hk, Touch.refl _ _, Kd.S_R hP.1, hP.2⟩)
/-- A block without cells is an empty row. -/
theorem Sat.emptyRow {α : Type} (d : Kd α) {g e : Nat} (h : Sat w0 w (blk g (.cells #[] e (0, 0)) :: L)) : Sat w0 w (row d e (.slice (some ⟨g, 0, none⟩) 0 0) [] :: L) := by
  refine h.write (fun S hP _ => ⟨S, fun k hk => .inl hk, Touch.refl _ _, ⟨fun k hk => ?_, [], ⟨by simp, .inr ⟨g, 0, #[], rfl, Nat.zero_le _, hP.1, Nat.le_refl _, by decide, by simp, by simp⟩⟩, ?_⟩, fun k hk => by obtain rfl := (hP.2 k).1 hk; exact (Array.getElem?_eq_some_iff.1 hP.1).1⟩)
  · have hgk : g = k := by simpa [Value.ownBlock] using hk
    exact (hP.2 k).2 hgk.symm
  · exact ⟨by simp, fun j p hj => by simp at hj⟩
/-- A number of a row of one's own is written. -/
theorem Sat.rowPut {k : IntKind} {e n c g : Nat} {xs : List Int} (h : Sat w0 w (row (Kd.int k) e (.slice (some ⟨g, 0, none⟩) n c) xs :: L)) (i : Nat) (x : Int) : Sat w0 (w.setCell ⟨g, i, none⟩ (.int k x)) (row (Kd.int k) e (.slice (some ⟨g, 0, none⟩) n c) (xs.set i x) :: L) := by
  obtain rfl := (h.readsRow 0 rfl).1
  refine h.write (fun S hP _ => ⟨S, fun k hk => .inl hk, (Touch.set w g i _).mono (fun k _ hk => hP.1.1 k (by rw [hk]; simp [Value.ownBlock])), ?_, fun k hk => ?_⟩)
  · have := (Kd.R_put hP.1 (i : Int) x).1
    rw [Int.toNat_natCast] at this
    exact this
  · have := hP.2 k hk
    simpa [World.setCell] using this
theorem Sat.rowCell {k : IntKind} {e n c : Nat} {A : Option Addr} {xs : List Int} (h : Sat w0 w l) (p : Nat) (hp : l[p]? = some (row (Kd.int k) e (.slice A n c) xs)) (i : Nat) (hi : i < n) : ∃ g, A = some ⟨g, 0, none⟩ ∧ w.cell? ⟨g, i, none⟩ = some (.int k (xs.getD i 0)) ∧ w.frozen? ⟨g, i, none⟩ = false := by
  obtain ⟨ok, hr⟩ := h.rowAt p hp
  obtain ⟨rfl, _, hC⟩ := Kd.R_reads' hr
  obtain ⟨g, cap, he, _, _, _⟩ := Kd.R_form hr (by omega)
  injection he with e1 _ e2
  subst e1
  have h2 := (Kd.R_cell (0 : Int) hr (i : Int) (by omega) (by omega)).2
  obtain ⟨ad, e3, h1⟩ := int_at hC i hi
  injection e3 with e3
  subst e3
  have h5 : (⟨g, 0, none⟩ : Addr).add i = ⟨g, i, none⟩ := by unfold Addr.add; split <;> simp_all
  rw [h5] at h1
  exact ⟨g, rfl, h1, by simpa using h2⟩
end
end Go.Proofs.Ytaojnbhnogndnaa.SL
