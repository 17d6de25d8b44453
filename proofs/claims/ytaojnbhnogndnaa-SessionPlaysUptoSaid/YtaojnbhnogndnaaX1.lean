/- Words for memory that a call owns in parts that do not meet: a list of assertions, each with a set of blocks of its own; how the list goes on behind new blocks, calls and writes. -/
import Derived.Test.YtaojnbhnogndnaaX0
import Derived.Test.YtaojnbhnogndnaaWMore
namespace Go.Proofs.Ytaojnbhnogndnaa.SL
open Go.RowKit Go.Proofs.YtaojnbhnogndnaaW.PrintWords Go.Proofs.YtaojnbhnogndnaaW.PrintLast Go.Proofs.YtaojnbhnogndnaaW.PrintMore
set_option linter.unusedVariables false

/-- What holds of a world and of a set of blocks, by those blocks alone. -/
structure Asrt where
  P : World → (Nat → Prop) → Prop
  loc : ∀ {w w' : World} {S : Nat → Prop}, P w S → (∀ k, S k → w'.heap[k]? = w.heap[k]?) → P w' S
  bd : ∀ {w : World} {S : Nat → Prop}, P w S → ∀ k, S k → k < w.heap.size

/-- The assertions hold, each by blocks of its own, from B on, none of V. -/
def SatF (B : Nat) (w : World) : List Asrt → (Nat → Prop) → Prop
  | [], _ => True
  | a :: l, V => ∃ S : Nat → Prop, a.P w S ∧ (∀ k, S k → B ≤ k ∧ ¬ V k) ∧ SatF B w l (fun k => V k ∨ S k)

theorem SatF.mono {B : Nat} {w : World} : ∀ {l : List Asrt} {V V' : Nat → Prop}, SatF B w l V → (∀ k, V' k → V k) → SatF B w l V'
  | [], _, _, _, _ => trivial
  | _ :: _, _, _, ⟨S, hP, hS, h⟩, hv => ⟨S, hP, fun k hk => ⟨(hS k hk).1, fun hV => (hS k hk).2 (hv k hV)⟩, h.mono (fun k hk => hk.imp (hv k) id)⟩

theorem SatF.swap {B : Nat} {w : World} {a b : Asrt} {l : List Asrt} {V : Nat → Prop} (h : SatF B w (a :: b :: l) V) : SatF B w (b :: a :: l) V := by
  obtain ⟨S, hP, hS, T, hQ, hT, h⟩ := h
  refine ⟨T, hQ, fun k hk => ⟨(hT k hk).1, fun hV => (hT k hk).2 (.inl hV)⟩, S, hP, fun k hk => ⟨(hS k hk).1, ?_⟩, h.mono ?_⟩
  · rintro (hV | hT')
    · exact (hS k hk).2 hV
    · exact (hT k hT').2 (.inr hk)
  · rintro k ((hV | hT') | hS')
    · exact .inl (.inl hV)
    · exact .inr hT'
    · exact .inl (.inr hS')

theorem SatF.perm {B : Nat} {w : World} {l l' : List Asrt} (p : l.Perm l') : ∀ {V : Nat → Prop}, SatF B w l V → SatF B w l' V := by
  induction p with
  | nil => exact fun h => h
  | cons a _ ih => exact fun ⟨S, hP, hS, h⟩ => ⟨S, hP, hS, ih h⟩
  | swap a b l => exact fun h => h.swap
  | trans _ _ ih1 ih2 => exact fun h => ih2 (ih1 h)

/-- Nothing of what is asserted has turned. -/
theorem SatF.same {B : Nat} {w w' : World} : ∀ {l : List Asrt} {V : Nat → Prop}, SatF B w l V → (∀ k, ¬ V k → B ≤ k → k < w.heap.size → w'.heap[k]? = w.heap[k]?) → SatF B w' l V
  | [], _, _, _ => trivial
  | a :: _, _, ⟨S, hP, hS, h⟩, hw => ⟨S, a.loc hP (fun k hk => hw k (hS k hk).2 (hS k hk).1 (a.bd hP k hk)), hS, h.same (fun k hk => hw k (fun hV => hk (.inl hV)))⟩

/-- Only blocks of S, and new ones, have been written; the streams are as they were. -/
structure Touch (S : Nat → Prop) (w w' : World) : Prop where
  os : w'.os = w.os
  tape : w'.tape = w.tape
  output : w'.output = w.output
  size : w.heap.size ≤ w'.heap.size
  block : ∀ k, k < w.heap.size → ¬ S k → w'.heap[k]? = w.heap[k]?
theorem Touch.of_below {w w' : World} (h : Below w.heap.size w w') (S : Nat → Prop) : Touch S w w' := ⟨h.os, h.tape, h.output, h.size, fun k hk _ => h.block k hk⟩
theorem Touch.below {S : Nat → Prop} {w w' : World} (h : Touch S w w') {B : Nat} (hB : B ≤ w.heap.size) (hS : ∀ k, S k → B ≤ k) : Below B w w' :=
  ⟨h.os, h.tape, h.output, h.size, fun k hk => h.block k (by omega) (fun hs => by have := hS k hs; omega)⟩
theorem Touch.refl (S : Nat → Prop) (w : World) : Touch S w w := ⟨rfl, rfl, rfl, Nat.le_refl _, fun _ _ _ => rfl⟩
theorem Touch.trans {S : Nat → Prop} {w w1 w2 : World} (h : Touch S w w1) (h2 : Touch S w1 w2) : Touch S w w2 :=
  ⟨h2.os.trans h.os, h2.tape.trans h.tape, h2.output.trans h.output, Nat.le_trans h.size h2.size, fun k hk hs => (h2.block k (Nat.lt_of_lt_of_le hk h.size) hs).trans (h.block k hk hs)⟩
theorem Touch.mono {S S' : Nat → Prop} {w w' : World} (h : Touch S w w') (hs : ∀ k, k < w.heap.size → S k → S' k) : Touch S' w w' := ⟨h.os, h.tape, h.output, h.size, fun k hk hn => h.block k hk (fun hS => hn (hs k hk hS))⟩
theorem Touch.set (w : World) (g o : Nat) (v : Value) : Touch (fun k => k = g) w (w.setCell ⟨g, o, none⟩ v) :=
  ⟨rfl, rfl, rfl, by simp [World.setCell], fun k _ hn => Below.heap_setCell _ _ _ _ hn⟩

/-- From the world w0 on: nothing that was there has turned; the assertions hold in w, each by new blocks of its own. -/
structure Sat (w0 w : World) (l : List Asrt) : Prop where
  mk ::
  below : Below w0.heap.size w0 w
  sat : SatF w0.heap.size w l (fun _ => False)

section
variable {w0 w w' : World} {a b : Asrt} {l l' : List Asrt}
theorem Sat.start (w : World) : Sat w w [] := ⟨Below.refl _ _, trivial⟩
theorem Sat.perm (h : Sat w0 w l) (p : l.Perm l') : Sat w0 w l' := ⟨h.below, h.sat.perm p⟩
theorem Sat.swap (h : Sat w0 w (a :: b :: l)) : Sat w0 w (b :: a :: l) := ⟨h.below, h.sat.swap⟩
theorem Sat.size (h : Sat w0 w l) : w0.heap.size ≤ w.heap.size := h.below.size
theorem Sat.tail (h : Sat w0 w (a :: l)) : Sat w0 w l := by
  obtain ⟨S, _, _, h2⟩ := h.sat
  exact ⟨h.below, h2.mono (fun _ hf => hf.elim)⟩
/-- The first assertion's blocks; behind a write within them (and new ones) what follows from it may stand in its place. -/
theorem Sat.openL (h : Sat w0 w (a :: l)) : ∃ S : Nat → Prop, a.P w S ∧ (∀ k, S k → w0.heap.size ≤ k) ∧
    ∀ (w' : World) (l' : List Asrt) (T : Nat → Prop), (∀ k, T k → S k ∨ w.heap.size ≤ k) → Touch S w w' → SatF w0.heap.size w' l' (fun k => ¬ T k) → Sat w0 w' (l' ++ l) := by
  obtain ⟨S, hP, hS, h2⟩ := h.sat
  refine ⟨S, hP, fun k hk => (hS k hk).1, fun w' l' T hT ht hl => ?_⟩
  have hb := ht.below h.below.size (fun k hk => (hS k hk).1)
  refine ⟨h.below.trans hb, ?_⟩
  have key : ∀ (l' : List Asrt) (V : Nat → Prop), (∀ k, V k → T k) → SatF w0.heap.size w' l' (fun k => ¬ T k ∨ V k) → SatF w0.heap.size w' (l' ++ l) V := by
    intro l'
    induction l' with
    | nil =>
      intro V hV _
      have h3 : SatF w0.heap.size w' l (fun k => False ∨ S k) := by
        refine h2.same (fun k hk hB hlt => ht.block k hlt (fun hs => hk (.inr hs)))
      clear hl hP
      -- all blocks of l lie below w.heap.size, none of S: none of T
      have h4 : ∀ (l : List Asrt) (V1 V2 : Nat → Prop), SatF w0.heap.size w l V1 → SatF w0.heap.size w' l V1 → (∀ k, k < w.heap.size → ¬ V1 k → ¬ V2 k) → (∀ k, k < w.heap.size → ¬ V1 k → w'.heap[k]? = w.heap[k]?) → SatF w0.heap.size w' l V2 := by
        intro l
        induction l with
        | nil => intros; trivial
        | cons c l ih =>
          intro V1 V2 hw _ hd he
          obtain ⟨S1, p1, s1, r1⟩ := hw
          refine ⟨S1, c.loc p1 (fun k hk => he k (c.bd p1 k hk) (s1 k hk).2), fun k hk => ⟨(s1 k hk).1, hd k (c.bd p1 k hk) (s1 k hk).2⟩, ih (fun k => V1 k ∨ S1 k) (fun k => V2 k ∨ S1 k) r1 (r1.same (fun k hk _ hlt => he k hlt (fun hv => hk (.inl hv)))) ?_ ?_⟩
          · rintro k hlt hn (hv | hs)
            · exact hd k hlt (fun hv1 => hn (.inl hv1)) hv
            · exact hn (.inr hs)
          · exact fun k hlt hn => he k hlt (fun hv1 => hn (.inl hv1))
      refine h4 l _ V h2 h3 (fun k hlt hn hv => ?_) (fun k hlt hn => ht.block k hlt (fun hs => hn (.inr hs)))
      rcases hT k (hV k hv) with hs | hge
      · exact hn (.inr hs)
      · omega
    | cons c l' ih =>
      intro V hV hc
      obtain ⟨S1, p1, s1, r1⟩ := hc
      have hin : ∀ k, S1 k → T k := fun k hk => Classical.byContradiction fun hn => (s1 k hk).2 (.inl hn)
      refine ⟨S1, p1, fun k hk => ⟨(s1 k hk).1, fun hv => (s1 k hk).2 (.inr hv)⟩, ih (fun k => V k ∨ S1 k) ?_ (r1.mono ?_)⟩
      · rintro k (hv | hs)
        · exact hV k hv
        · exact hin k hs
      · rintro k (hn | hv | hs)
        · exact .inl (.inl hn)
        · exact .inl (.inr hv)
        · exact .inr hs
  exact key l' (fun _ => False) (fun _ hf => hf.elim) (hl.mono (fun k hk => hk.elim id (fun hf => hf.elim)))
/-- The same for one assertion in its place. -/
theorem Sat.open1 (h : Sat w0 w (a :: l)) : ∃ S : Nat → Prop, a.P w S ∧ (∀ k, S k → w0.heap.size ≤ k) ∧
    ∀ (w' : World) (b : Asrt) (T : Nat → Prop), (∀ k, T k → S k ∨ w.heap.size ≤ k) → Touch S w w' → b.P w' T → Sat w0 w' (b :: l) := by
  have hB := h.below.size
  obtain ⟨S, hP, hS, f⟩ := h.openL
  refine ⟨S, hP, hS, fun w' b T hT ht hb => f w' [b] T hT ht ⟨T, hb, fun k hk => ⟨?_, fun hn => hn hk⟩, trivial⟩⟩
  rcases hT k hk with h1 | h1
  · exact hS k h1
  · omega
/-- The first assertion becomes another by a write within its blocks and new ones. -/
theorem Sat.write (h : Sat w0 w (a :: l)) (f : ∀ S, a.P w S → (∀ k, S k → w0.heap.size ≤ k) → ∃ T : Nat → Prop, (∀ k, T k → S k ∨ w.heap.size ≤ k) ∧ Touch S w w' ∧ b.P w' T) : Sat w0 w' (b :: l) := by
  obtain ⟨S, hP, hS, g⟩ := h.open1
  obtain ⟨T, hT, ht, hb⟩ := f S hP hS
  exact g w' b T hT ht hb
/-- Nothing has been written but new blocks. -/
theorem Sat.keep (h : Sat w0 w l) (hb : Below w.heap.size w w') : Sat w0 w' l :=
  ⟨h.below.trans (hb.mono h.below.size), h.sat.same (fun k _ _ hk => hb.block k hk)⟩
/-- Something new beside. -/
theorem Sat.new (h : Sat w0 w l) (hb : Below w.heap.size w w') {T : Nat → Prop} (hT : ∀ k, T k → w.heap.size ≤ k) (hp : b.P w' T) : Sat w0 w' (b :: l) := by
  have hk := h.keep hb
  refine ⟨hk.below, T, hp, fun k hk' => ⟨Nat.le_trans h.below.size (hT k hk'), id⟩, ?_⟩
  have h4 : ∀ (l : List Asrt) (V1 V2 : Nat → Prop), SatF w0.heap.size w l V1 → (∀ k, k < w.heap.size → V2 k → V1 k) → SatF w0.heap.size w' l V2 := by
    intro l
    induction l with
    | nil => intros; trivial
    | cons c l ih =>
      intro V1 V2 hw hd
      obtain ⟨S1, p1, s1, r1⟩ := hw
      exact ⟨S1, c.loc p1 (fun k hk => hb.block k (c.bd p1 k hk)), fun k hk => ⟨(s1 k hk).1, fun hv => (s1 k hk).2 (hd k (c.bd p1 k hk) hv)⟩,
        ih _ _ r1 (fun k hk hv => hv.imp (hd k hk) id)⟩
  exact h4 l _ _ h.sat (fun k hk hv => (hv.elim id (fun ht => by have := hT k ht; omega)))
theorem Sat.get (h : Sat w0 w l) (ha : a ∈ l) : ∃ S, a.P w S ∧ ∀ k, S k → w0.heap.size ≤ k := by
  have key : ∀ (l : List Asrt) (V : Nat → Prop), SatF w0.heap.size w l V → a ∈ l → ∃ S, a.P w S ∧ ∀ k, S k → w0.heap.size ≤ k := by
    intro l
    induction l with
    | nil => intro _ _ hm; cases hm
    | cons c l ih =>
      intro V hw hm
      obtain ⟨S1, p1, s1, r1⟩ := hw
      rcases List.mem_cons.1 hm with rfl | hm
      · exact ⟨S1, p1, fun k hk => (s1 k hk).1⟩
      · exact ih _ r1 hm
  exact key l _ h.sat ha
theorem perm_pick {α : Type} {a : α} : ∀ {l : List α} {i : Nat}, l[i]? = some a → l.Perm (a :: l.eraseIdx i)
  | [], _, h => by simp at h
  | b :: l, 0, h => by simp at h; subst h; exact List.Perm.refl _
  | b :: l, i + 1, h => by
    have h1 : l[i]? = some a := by simpa using h
    exact ((perm_pick h1).cons b).trans (List.Perm.swap a b _)
theorem Sat.pick (i : Nat) (h : Sat w0 w l) (hi : l[i]? = some a) : Sat w0 w (a :: l.eraseIdx i) := h.perm (perm_pick hi)
/-- The assertion at place i becomes another: as it is the first, so at its place. -/
theorem perm_back {α : Type} {b : α} : ∀ {l : List α} {i : Nat}, i < l.length → (b :: l.eraseIdx i).Perm (l.set i b)
  | [], _, h => by simp at h
  | c :: l, 0, _ => List.Perm.refl _
  | c :: l, i + 1, h => by
    have h1 : i < l.length := by simpa using h
    exact (List.Perm.swap c b _).trans ((perm_back h1).cons c)
theorem Sat.putBack (i : Nat) (hi : i < l.length) (h : Sat w0 w (b :: l.eraseIdx i)) : Sat w0 w (l.set i b) := h.perm (perm_back hi)
theorem SatF.dropAt {B : Nat} : ∀ {l : List Asrt} {V : Nat → Prop} (i : Nat), SatF B w l V → SatF B w (l.eraseIdx i) V
  | [], _, _, h => by simpa using h
  | _ :: l, V, 0, ⟨_, _, _, h⟩ => h.mono (fun _ hv => .inl hv)
  | _ :: l, V, i + 1, ⟨S, hP, hS, h⟩ => ⟨S, hP, hS, h.dropAt i⟩
theorem Sat.dropAt (i : Nat) (h : Sat w0 w l) : Sat w0 w (l.eraseIdx i) := ⟨h.below, h.sat.dropAt i⟩
theorem Sat.drew (h : Sat w0 w l) : Sat w0 w.drew l := h.keep (below_drew (Below.refl _ _))
theorem Sat.drewN (h : Sat w0 w l) (n : Nat) : Sat w0 (w.drewN n) l := h.keep (pw_below_drewN (Below.refl _ _) n)
end

/-! ### The assertions -/
/-- A block of cells, known whole. -/
def blk (g : Nat) (o : Obj) : Asrt where
  P w S := w.heap[g]? = some o ∧ ∀ k, S k ↔ k = g
  loc h hm := ⟨(hm g ((h.2 g).2 rfl)).trans h.1, h.2⟩
  bd h k hk := by obtain rfl := (h.2 k).1 hk; exact (Array.getElem?_eq_some_iff.1 h.1).1
/-- A row of the call's own. -/
def row {α : Type} (d : Kd α) (e : Nat) (v : Value) (xs : List α) : Asrt where
  P w S := d.R e w 0 S v xs ∧ ∀ k, S k → k < w.heap.size
  loc {w w'} {S} h hm := by
    refine ⟨Kd.R_move h.1 hm, fun k hk => ?_⟩
    have h1 := hm k hk
    rw [Array.getElem?_eq_getElem (h.2 k hk)] at h1
    exact (Array.getElem?_eq_some_iff.1 h1).1
  bd h k hk := h.2 k hk
/-- A row of rows of the call's own, told apart. -/
def rows {α : Type} (d : Kd α) (e : Nat) (v : Value) (xs : List α) : Asrt where
  P w S := Kd.S d e w 0 S v xs ∧ ∀ k, S k → k < w.heap.size
  loc {w w'} {S} h hm := by
    refine ⟨Kd.S_move h.1 hm, fun k hk => ?_⟩
    have h1 := hm k hk
    rw [Array.getElem?_eq_getElem (h.2 k hk)] at h1
    exact (Array.getElem?_eq_some_iff.1 h1).1
  bd h k hk := h.2 k hk

section
variable {w0 w w' : World} {l : List Asrt} {g : Nat} {cs : Array Value} {t : TypeId}
theorem Sat.block {o : Obj} (h : Sat w0 w l) (i : Nat) (hi : l[i]? = some (blk g o)) : w.heap[g]? = some o ∧ w0.heap.size ≤ g := by
  obtain ⟨S, hp, hb⟩ := h.get (List.mem_of_getElem? hi)
  exact ⟨hp.1, hb g ((hp.2 g).2 rfl)⟩
theorem Sat.cell (h : Sat w0 w l) (i o : Nat) {v : Value} (hi : l[i]? = some (blk g (.cells cs t (0, 0)))) (hv : cs[o]? = some v) : w.cell? ⟨g, o, none⟩ = some v :=
  (blk_cell (h.block i hi).1 o).trans hv
theorem Sat.frozen (h : Sat w0 w l) (i o : Nat) (hi : l[i]? = some (blk g (.cells cs t (0, 0)))) : w.frozen? ⟨g, o, none⟩ = false := blk_frozen (h.block i hi).1 o
theorem Sat.box (h : Sat w0 w l) (hg : g = w.heap.size) (hbox : w'.heap[g]? = some (.cells cs t (0, 0))) (hb : Below w.heap.size w w') : Sat w0 w' (blk g (.cells cs t (0, 0)) :: l) :=
  h.new hb (T := fun k => k = g) (fun k hk => by omega) ⟨hbox, fun _ => Iff.rfl⟩
/-- A store into the first block. -/
theorem Sat.set (h : Sat w0 w (blk g (.cells cs t (0, 0)) :: l)) (o : Nat) (v : Value) : Sat w0 (w.setCell ⟨g, o, none⟩ v) (blk g (.cells (cs.setIfInBounds o v) t (0, 0)) :: l) :=
  h.write (fun S hP _ => ⟨S, fun k hk => .inl hk, (Touch.set w g o v).mono (fun k _ hk => (hP.2 k).2 hk), ⟨by
    simp only [World.setCell, Array.getElem?_modify, hP.1]
    simp, hP.2⟩⟩)
/-- A store into the block at place i. -/
theorem Sat.setAt (h : Sat w0 w l) (i o : Nat) (v : Value) (hi : l[i]? = some (blk g (.cells cs t (0, 0)))) : Sat w0 (w.setCell ⟨g, o, none⟩ v) (l.set i (blk g (.cells (cs.setIfInBounds o v) t (0, 0)))) :=
  ((h.pick i hi).set o v).putBack i (List.getElem?_eq_some_iff.1 hi).1
/-- A row that a callee has made. -/
theorem Sat.newRow {α : Type} {d : Kd α} {e : Nat} {v : Value} {xs : List α} {base : Nat} {ok : Nat → Prop} (h : Sat w0 w l) (hb : Below w.heap.size w w') (hr : d.R e w' base ok v xs) (hbase : w.heap.size ≤ base) : Sat w0 w' (row d e v xs :: l) :=
  h.new hb (T := fun k => base ≤ k ∧ k < w'.heap.size) (fun k hk => Nat.le_trans hbase hk.1)
    ⟨Kd.R_lower (Kd.R_mono (Kd.R_bound hr) (fun k hk => ⟨hk.2.1, hk.2.2.1⟩)) (Nat.zero_le _), fun k hk => hk.2⟩
theorem Sat.newRows {α : Type} {d : Kd α} {e : Nat} {v : Value} {xs : List α} {base : Nat} {ok : Nat → Prop} (h : Sat w0 w l) (hb : Below w.heap.size w w') (hr : Kd.S d e w' base ok v xs) (hbase : w.heap.size ≤ base) : Sat w0 w' (rows d e v xs :: l) :=
  h.new hb (T := fun k => base ≤ k ∧ k < w'.heap.size) (fun k hk => Nat.le_trans hbase hk.1)
    ⟨Kd.S_lower (Kd.S_mono (Kd.S_bound hr) (fun k hk => ⟨hk.2.1, hk.2.2.1⟩)) (Nat.zero_le _), fun k hk => hk.2⟩
theorem Sat.rowAt {α : Type} {d : Kd α} {e : Nat} {v : Value} {xs : List α} (h : Sat w0 w l) (i : Nat) (hi : l[i]? = some (row d e v xs)) : ∃ ok, d.R e w 0 ok v xs := by
  obtain ⟨S, hp, _⟩ := h.get (List.mem_of_getElem? hi)
  exact ⟨S, hp.1⟩
theorem Sat.rowsAt {α : Type} {d : Kd α} {e : Nat} {v : Value} {xs : List α} (h : Sat w0 w l) (i : Nat) (hi : l[i]? = some (rows d e v xs)) : ∃ ok, Kd.S d e w 0 ok v xs := by
  obtain ⟨S, hp, _⟩ := h.get (List.mem_of_getElem? hi)
  exact ⟨S, hp.1⟩
/-- What a row of one's own reads as. -/
theorem Sat.readsRow {α : Type} {d : Kd α} {e : Nat} {A : Option Addr} {n c : Nat} {xs : List α} (h : Sat w0 w l) (i : Nat) (hi : l[i]? = some (row d e (.slice A n c) xs)) : n = xs.length ∧ n ≤ c ∧ d.C w A xs.length xs := by
  obtain ⟨ok, hr⟩ := h.rowAt i hi
  exact Kd.R_reads' hr
theorem Sat.readsRows {α : Type} {d : Kd α} {e : Nat} {A : Option Addr} {n c : Nat} {xs : List α} (h : Sat w0 w l) (i : Nat) (hi : l[i]? = some (rows d e (.slice A n c) xs)) : n = xs.length ∧ n ≤ c ∧ d.C w A xs.length xs := by
  obtain ⟨ok, hr⟩ := h.rowsAt i hi
  exact Kd.R_reads' (Kd.S_R hr)
theorem Sat.rowShape {α : Type} {d : Kd α} {e : Nat} {v : Value} {xs : List α} (h : Sat w0 w l) (i : Nat) (hi : l[i]? = some (row d e v xs)) : ∃ A c, v = .slice A xs.length c := by
  obtain ⟨ok, hr⟩ := h.rowAt i hi
  exact Kd.R_slice hr
theorem Sat.rowsShape {α : Type} {d : Kd α} {e : Nat} {v : Value} {xs : List α} (h : Sat w0 w l) (i : Nat) (hi : l[i]? = some (rows d e v xs)) : ∃ A c, v = .slice A xs.length c := by
  obtain ⟨ok, hr⟩ := h.rowsAt i hi
  exact Kd.R_slice (Kd.S_R hr)
theorem Sat.nilRow {α : Type} (d : Kd α) (e : Nat) (h : Sat w0 w l) : Sat w0 w (row d e (.slice none 0 0) [] :: l) :=
  h.new (Below.refl _ _) (T := fun _ => False) (fun _ hf => hf.elim) ⟨Kd.R_nil _ _ _ _ _, fun _ hf => hf.elim⟩
theorem Sat.nilRows {α : Type} (d : Kd α) (e : Nat) (h : Sat w0 w l) : Sat w0 w (rows d e (.slice none 0 0) [] :: l) :=
  h.new (Below.refl _ _) (T := fun _ => False) (fun _ hf => hf.elim) ⟨Kd.S_nil _ _ _ _ _, fun _ hf => hf.elim⟩
end

/-! ### Two assertions as one -/
def sep (a b : Asrt) : Asrt where
  P w S := ∃ S1 S2 : Nat → Prop, a.P w S1 ∧ b.P w S2 ∧ (∀ k, S1 k → ¬ S2 k) ∧ ∀ k, S k ↔ S1 k ∨ S2 k
  loc h hm := by
    obtain ⟨S1, S2, h1, h2, hd, hs⟩ := h
    exact ⟨S1, S2, a.loc h1 (fun k hk => hm k ((hs k).2 (.inl hk))), b.loc h2 (fun k hk => hm k ((hs k).2 (.inr hk))), hd, hs⟩
  bd h k hk := by
    obtain ⟨S1, S2, h1, h2, hd, hs⟩ := h
    rcases (hs k).1 hk with h | h
    · exact a.bd h1 k h
    · exact b.bd h2 k h
theorem Sat.join {w0 w : World} {a b : Asrt} {l : List Asrt} (h : Sat w0 w (a :: b :: l)) : Sat w0 w (sep a b :: l) := by
  obtain ⟨S, hP, hS, T, hQ, hT, h2⟩ := h.sat
  refine ⟨h.below, fun k => S k ∨ T k, ⟨S, T, hP, hQ, fun k hs ht => (hT k ht).2 (.inr hs), fun _ => Iff.rfl⟩, ?_, h2.mono ?_⟩
  · rintro k (hk | hk)
    · exact ⟨(hS k hk).1, id⟩
    · exact ⟨(hT k hk).1, id⟩
  · rintro k (hf | hk | hk)
    · exact hf.elim
    · exact .inl (.inr hk)
    · exact .inr hk

theorem Touch.of_grown {w w' : World} {row : Option Nat} (hg : w.grownBy w' row) {S : Nat → Prop} (hS : ∀ k, row = some k → S k) : Touch S w w' :=
  ⟨hg.os, hg.tape, hg.output, hg.size, fun k hk hn => hg.block k hk (fun e => hn (hS k e.symm))⟩

section
variable {P : Program} {ops : Array Oper} {rest : List Oper} {o : Oper} {a : Act} {Q : Exit → Act → World → Prop} {Kc : Act → World → Prop} {α : Type}
/-- A new block whose value tells its number. -/
theorem box_event2 {W : World} (hgd : o.guard = none) {N : Tmp} (_hd : o.dst = some N) {v : Nat → Value} {cs : Array Value} {t : TypeId}
    (hrun : (execOp a.eval o).run P W = .ok (.value (v W.heap.size)) (W.alloc (.cells cs t (0, 0))))
    (h : ∀ g, g = W.heap.size → ∀ w1, w1.heap[g]? = some (.cells cs t (0, 0)) → Below W.heap.size W w1 → wpList P ops Q rest (a.put o.dst (v g)) w1) : wpList P ops Q (o :: rest) a W :=
  Kd.event_run hgd hrun (h _ rfl _ (blk_new W _) (below_alloc (Below.refl _ _) _))
/-- append(v, x) of one element that brings what it owns along (el), behind 'at_builtin'. -/
theorem app1 (d : Kd α) {w0 W : World} {L : List Asrt} (hgd : o.guard = none) (s x : Operand) (t e : TypeId) (z : Value) (bytes : Nat)
    (ho : o.op = .call { callee := .builtin .append, args := #[s, x], argTypes := #[t, t] })
    (ht : P.underlying t = some (.slice e)) (hinfo : (P.info? e).map (fun i => (i.zero, i.size, i.bytes)) = some (some z, d.sz, bytes)) (hz : z.cells.size = d.sz) (hs0 : 0 < d.sz) (hb0 : 0 < bytes)
    (v : Value) (xs : List α) (p : α) (cs : List Value) (el : Asrt) (hs : a.eval s = v) (hx : a.eval x = .slice (some ⟨W.heap.size, 0, none⟩) 1 1)
    (HS : Sat w0 W (el :: rows d e v xs :: L)) (hel : ∀ S, el.P W S → d.M W 0 S p cs) (hl : (xs.length + 1) * bytes ≤ 140737488355328)
    (h : ∀ v1 w1, Sat w0 w1 (rows d e v1 (xs ++ [p]) :: L) → wpList P ops Q rest (a.put o.dst v1) w1) : wpList P ops Q (o :: rest) a (W.alloc (.cells cs.toArray e)) := by
  obtain ⟨S0, ⟨S1, S2, h1, h2, hd, hs12⟩, hB, f⟩ := HS.join.open1
  have hown : ∀ k, v.ownBlock = some k → S2 k := (Kd.S_R h2.1).1
  refine Kd.S_append d (w0 := W) 0 hgd s x t e z bytes ho ht hinfo hz hs0 hb0 v xs p cs (fun k => S0 k ∨ W.heap.size ≤ k) S1 hs hx (hel S1 h1) (fun k hk => ⟨.inl ((hs12 k).2 (.inl hk)), fun e => hd k hk (hown k e.symm)⟩) (fun k hk => .inr hk)
    (Kd.S_mono h2.1 (fun k hk => ⟨.inl ((hs12 k).2 (.inr hk)), fun h1 => hd k h1 hk⟩)) ((Below.refl W.heap.size W).mono (Nat.zero_le _)) (Nat.zero_le _) hl ?_
  intro v1 w1 hr _ hg _
  refine h v1 w1 (f w1 _ (fun k => (S0 k ∨ W.heap.size ≤ k) ∧ k < w1.heap.size) (fun k hk => hk.1) (Touch.of_grown hg (fun k hk => (hs12 k).2 (.inr (hown k hk)))) ⟨Kd.S_mono (Kd.S_bound hr) (fun k hk => ⟨hk.1, hk.2.2.1⟩), fun k hk => hk.2⟩)
/-- append(v, ys...) of a row that is read. -/
theorem appRow (d : Kd α) {Rr : α → List Value → Prop} {w0 W : World} {L : List Asrt} (hgd : o.guard = none) (s x : Operand) (t e : TypeId) (z : Value) (bytes : Nat)
    (ho : o.op = .call { callee := .builtin .append, args := #[s, x], argTypes := #[t, t] })
    (ht : P.underlying t = some (.slice e)) (hinfo : (P.info? e).map (fun i => (i.zero, i.size, i.bytes)) = some (some z, d.sz, bytes)) (hz : z.cells.size = d.sz) (hs0 : 0 < d.sz) (hb0 : 0 < bytes)
    (v : Value) (xs ys : List α) (A : Option Addr) (m c : Nat) (hs : a.eval s = v) (hx : a.eval x = .slice A m c)
    (HS : Sat w0 W (row d e v xs :: L)) (HR : ReadsRow Rr d.sz W A m ys) (hKM : ∀ x cs, Rr x cs → d.M W 0 (fun _ => False) x cs) (hl : (xs.length + m) * bytes ≤ 140737488355328)
    (h : ∀ v1 w1, Sat w0 w1 (row d e v1 (xs ++ ys) :: L) → wpList P ops Q rest (a.put o.dst v1) w1) : wpList P ops Q (o :: rest) a W := by
  obtain ⟨S0, h1, hB, f⟩ := HS.open1
  refine Kd.R_append_rows d (w0 := W) 0 hgd s x t e z bytes ho ht hinfo hz hs0 hb0 v xs ys A m c (fun k => S0 k ∨ W.heap.size ≤ k) (fun _ => False) hs hx (Kd.R_mono h1.1 (fun k hk => .inl hk)) HR hKM (fun _ hf => hf.elim) (fun k hk => .inr hk)
    ((Below.refl W.heap.size W).mono (Nat.zero_le _)) (Nat.zero_le _) hl ?_
  intro v1 w1 hr _ hg _
  exact h v1 w1 (f w1 _ (fun k => (S0 k ∨ W.heap.size ≤ k) ∧ k < w1.heap.size) (fun k hk => hk.1) (Touch.of_grown hg (fun k hk => h1.1.1 k hk)) ⟨Kd.R_mono (Kd.R_bound hr) (fun k hk => ⟨hk.1, hk.2.2.1⟩), fun k hk => hk.2⟩)
end
/-! ### Cuts -/
/-- 'xs[l:m]' of a row that is read: its address is a letter; what it reads as. -/
theorem cut_lh {α : Type} (d : Kd α) {P : Program} (t e : TypeId) {i : TypeInfo} (ht : P.underlying t = some (.slice e)) (hi : P.info? e = some i) (hsz : i.size = d.sz) (A : Option Addr) (n c l m : Nat) (hlm : l ≤ m) (hm : m ≤ n) (hc : n ≤ c) :
    ∃ A' : Option Addr, (∀ (W : World) (x y : Int), x = l → y = m → (Instr.slice t (.slice A n c) (some (.int .i64 x)) (some (.int .i64 y)) none).run P W = .ok (.slice A' (m - l) (c - l)) W) ∧
      ∀ (w : World) (xs : List α), d.C w A n xs → d.C w A' (m - l) ((xs.take m).drop l) := by
  refine ⟨if c = l then A else A.map (·.add (l * d.sz)), fun W x y hx hy => ?_, fun w xs h => ?_⟩
  · subst hx
    subst hy
    have hel : P.elem t = e := by simp [Program.elem, ht]
    have hu : P.underlying t = some (.slice (P.elem t)) := by rw [hel]; exact ht
    rw [run_slice_lh W t A n c hu .i64 .i64 (l : Int) (m : Int) (by omega) (by omega) (by omega), hel]
    simp [sizeOf, typeInfo, hi, hsz, sliced, Result.andThen]
  · obtain rfl : xs.length = n := h.1
    have h1 := Kd.C_drop (c := c) (m := l) (Kd.C_take h hm) (by rw [List.length_take]; omega) (by rw [List.length_take]; omega)
    have h2 : ((xs.take m).drop l).length = m - l := by rw [List.length_drop, List.length_take]; omega
    rw [h2] at h1
    exact h1
/-- 'xs[l:]': the address is a letter. -/
theorem cut_l {P : Program} (sz : Nat) (t e : TypeId) {i : TypeInfo} (ht : P.underlying t = some (.slice e)) (hi : P.info? e = some i) (hsz : i.size = sz) (A : Option Addr) (n c l : Nat) (hl : l ≤ n) :
    ∃ A' : Option Addr, A' = (if c = l then A else A.map (·.add (l * sz))) ∧ ∀ (W : World) (x : Int), x = l → (Instr.slice t (.slice A n c) (some (.int .i64 x)) none none).run P W = .ok (.slice A' (n - l) (c - l)) W := by
  refine ⟨_, rfl, fun W x hx => ?_⟩
  subst hx
  have hel : P.elem t = e := by simp [Program.elem, ht]
  have hu : P.underlying t = some (.slice (P.elem t)) := by rw [hel]; exact ht
  rw [run_slice_l W t A n c hu .i64 (l : Int) (by omega) (by omega), hel]
  simp [sizeOf, typeInfo, hi, hsz, sliced, Result.andThen]
/-! ### A greater base -/
/-- What is owned by blocks from b' on may be told with the base b'. -/
def Raise {α : Type} (d : Kd α) : Prop := ∀ (b b' : Nat) (w : World) (ok : Nat → Prop) (x : α) (cs : List Value), (∀ k, ok k → b' ≤ k) → d.M w b ok x cs → d.M w b' ok x cs
theorem Raise.scalar {α : Type} (enc : α → Value) (h : ∀ x, (enc x).oneCell' = true) : Raise (Kd.scalar enc h) := fun _ _ _ _ _ _ _ hm => hm
theorem Raise.int (k : IntKind) : Raise (Kd.int k) := Raise.scalar _ _
theorem R_up {α : Type} {d : Kd α} (hd : Raise d) {e b b' : Nat} {w : World} {ok : Nat → Prop} {v : Value} {xs : List α} (h : d.R e w b ok v xs) (hok : ∀ k, ok k → b' ≤ k) : d.R e w b' ok v xs := by
  obtain ⟨h0, inner, ho, hr⟩ := h
  exact ⟨h0, inner, Kd.own_raise ho (fun k hk => hok k (h0 k hk)), hr.imp_ (fun _ _ hp => hd _ _ _ _ _ _ (fun k hk => hok k hk.1) hp)⟩
theorem Raise.slice {α : Type} {d : Kd α} (hd : Raise d) (e : Nat) : Raise (Kd.slice e d) := fun _ _ _ _ _ _ hok ⟨v, hv, hr⟩ => ⟨v, hv, R_up hd hr hok⟩
theorem Raise.pair {α β : Type} {a : Kd α} {b : Kd β} (ha : Raise a) (hb : Raise b) : Raise (Kd.pair a b) := fun _ _ _ _ _ _ hok ⟨c0, c1, hc, h0, h1⟩ => ⟨c0, c1, hc, ha _ _ _ _ _ _ hok h0, hb _ _ _ _ _ _ hok h1⟩
theorem Raise.iso {α β : Type} {d : Kd α} (hd : Raise d) (f : β → α) : Raise (Kd.iso d f) := fun _ _ _ _ _ _ hok h => hd _ _ _ _ _ _ hok h
theorem Raise.tag {α : Type} {d : Kd α} (hd : Raise d) (f : Nat → Nat) : Raise (Kd.tag f d) := fun _ _ _ _ _ _ hok h => hd _ _ _ _ _ _ (fun k hk => hok k hk.1) h
theorem S_up {α : Type} {d : Kd α} (hd : Raise d) {e b b' : Nat} {w : World} {ok : Nat → Prop} {v : Value} {xs : List α} (h : Kd.S d e w b ok v xs) (hok : ∀ k, ok k → b' ≤ k) : Kd.S d e w b' ok v xs := by
  obtain ⟨f, h⟩ := h
  exact ⟨f, R_up (hd.tag f) h hok⟩
/-- What a contract tells of a row of rows that it hands back. -/
theorem Sat.rowsOut {α : Type} {d : Kd α} (hd : Raise d) {w0 w : World} {l : List Asrt} {e : Nat} {v : Value} {xs : List α} (h : Sat w0 w l) (i : Nat) (hi : l[i]? = some (rows d e v xs)) : Kd.S d e w w0.heap.size (fun k => w0.heap.size ≤ k) v xs := by
  obtain ⟨S, hp, hb⟩ := h.get (List.mem_of_getElem? hi)
  exact Kd.S_mono (S_up hd hp.1 hb) hb
theorem Sat.rowOut {α : Type} {d : Kd α} (hd : Raise d) {w0 w : World} {l : List Asrt} {e : Nat} {v : Value} {xs : List α} (h : Sat w0 w l) (i : Nat) (hi : l[i]? = some (row d e v xs)) : d.R e w w0.heap.size (fun k => w0.heap.size ≤ k) v xs := by
  obtain ⟨S, hp, hb⟩ := h.get (List.mem_of_getElem? hi)
  exact Kd.R_mono (R_up hd hp.1 hb) hb
end Go.Proofs.Ytaojnbhnogndnaa.SL
