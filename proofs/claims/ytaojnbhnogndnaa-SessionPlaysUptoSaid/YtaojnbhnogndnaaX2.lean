/- A region that draws its order, walked by a plan: which operation is taken next, checked once by the kernel; what may come up in several orders parts the plan. -/
import Derived.Test.YtaojnbhnogndnaaX1
namespace Go.Proofs.Ytaojnbhnogndnaa.SL
open Go.RowKit Go.Proofs.YtaojnbhnogndnaaW.PrintWords Go.Proofs.YtaojnbhnogndnaaW.PrintLast Go.Proofs.YtaojnbhnogndnaaW.PrintMore
set_option linter.unusedVariables false

/-- free i: it yields in every world; held i: in every world that meets S; one i: it alone may come up, S holds behind it; last i: the same, nothing is shown of S behind it; two i j: both may come up. -/
inductive Plan where
  | done
  | free (i : Nat) (p : Plan)
  | held (i : Nat) (p : Plan)
  | one (i : Nat) (p : Plan)
  | last (i : Nat) (p : Plan)
  | two (i j : Nat) (p q : Plan)

def frees : List Nat → Plan → Plan
  | [], p => p
  | i :: l, p => .free i (frees l p)
def helds : List Nat → Plan → Plan
  | [], p => p
  | i :: l, p => .held i (helds l p)

section
variable {P : Program} {md : Region.Mode} {ops : Array Oper} {Q : Exit → Act → World → Prop} {S : World → Prop} {ds : List Nat}

def Plan.ok (md : Region.Mode) (ops : Array Oper) (ds : List Nat) : Plan → Nat → Array Bool → Bool
  | .done, _, l => Region.ready md ops l == []
  | .free i p, n + 1, l => Region.free md ops l i && (Region.ready md ops l).contains i && p.ok md ops ds n (l.setIfInBounds i true)
  | .held i p, n + 1, l => Region.free md ops l i && (Region.ready md ops l).contains i && Region.closedB md ops l && Region.lastB md ops l ds i && p.ok md ops ds n (l.setIfInBounds i true)
  | .one i p, n + 1, l => (Region.ready md ops l == [i]) && !ds.contains i && p.ok md ops ds n (l.setIfInBounds i true)
  | .last i p, n + 1, l => (Region.ready md ops l == [i]) && ds.contains i && p.ok md ops ds n (l.setIfInBounds i true)
  | .two i j p q, n + 1, l => (Region.ready md ops l == [i, j]) && !ds.contains i && !ds.contains j && p.ok md ops ds n (l.setIfInBounds i true) && q.ok md ops ds n (l.setIfInBounds j true)
  | _, 0, _ => false

/-- What is left to show, by the plan. -/
def Plan.seq (P : Program) (ops : Array Oper) (Q : Exit → Act → World → Prop) (S : World → Prop) : Plan → Act → World → Prop
  | .done, a, w => Q .normal a w
  | .free i p, a, w => ∃ oi v, ops[i]? = some oi ∧ (∀ c a w, Q (.panic c) (a.put oi.dst v) w → Q (.panic c) a w) ∧ Yields P ops oi v a ∧ p.seq P ops Q S (a.put oi.dst v) w
  | .held i p, a, w => S w ∧ ∃ oi v, ops[i]? = some oi ∧ (∀ c a w, Q (.panic c) (a.put oi.dst v) w → Q (.panic c) a w) ∧ YieldsIf P ops S oi v a ∧ p.seq P ops Q S (a.put oi.dst v) w
  | .one i p, a, w => ∃ oi, ops[i]? = some oi ∧ wpList P ops (Exit.then (fun a' w' => S w' ∧ p.seq P ops Q S a' w') Q) [oi] a w
  | .last i p, a, w => ∃ oi, ops[i]? = some oi ∧ wpList P ops (Exit.then (fun a' w' => p.seq P ops Q S a' w') Q) [oi] a w
  | .two i j p q, a, w => (∃ oi, ops[i]? = some oi ∧ wpList P ops (Exit.then (fun a' w' => S w' ∧ p.seq P ops Q S a' w') Q) [oi] a w) ∧ ∃ oj, ops[j]? = some oj ∧ wpList P ops (Exit.then (fun a' w' => S w' ∧ q.seq P ops Q S a' w') Q) [oj] a w

theorem upon_then {o : Oper} {a : Act} {w : World} {K K0 : Act → World → Prop} (hh : o.wp P a w K (Exit.then K0 Q)) : o.wp P a w K Q := by
  unfold Oper.wp at *
  generalize (execOp a.eval o).run P w = r at *
  cases r with
  | ok n w' =>
    cases n <;> simp only [Oper.upon] at hh ⊢ <;>
      first
        | exact hh
        | exact Calls.mono hh (fun e w'' he => by cases e <;> exact he)
        | exact Rows.mono hh (fun _ _ he => he)
  | halt x w' => cases x <;> simp only [Oper.upon] at hh ⊢ <;> exact hh

theorem wpOp_of_list {i : Nat} {o : Oper} {a : Act} {w : World} {K : Act → World → Prop} (ho : ops[i]? = some o) (h : wpList P ops (Exit.then K Q) [o] a w) : wpOp P ops Q i K a w := by
  unfold wpOp
  rw [ho]
  unfold wpList at h
  show if Region.wanted o (yielded ops a.tmps) = true then _ else _
  split
  · rename_i hw
    rw [if_pos hw] at h
    rcases h with h | ⟨hk, a0, w0, hq⟩
    · exact .inl (upon_then h)
    · exact .inr ⟨hk, a0, w0, hq⟩
  · rename_i hw
    rw [if_neg hw] at h
    exact h

theorem Plan.sound (hs : Region.noSelect ops = true) : ∀ (p : Plan) (fuel : Nat) (l : Array Bool) (a : Act) (w : World), p.ok md ops ds fuel l = true → p.seq P ops Q S a w → wpAnyLast P md ops Q S ds fuel l a w := by
  intro p
  induction p with
  | done => exact fun fuel l a w hc h => wpAnyLast_done (by simpa [Plan.ok] using hc) h fuel
  | free i p ih =>
    intro fuel l a w hc ⟨oi, v, hi, hQ, hy, h⟩
    cases fuel with
    | zero => simp [Plan.ok] at hc
    | succ fuel =>
      simp only [Plan.ok, Bool.and_eq_true] at hc
      obtain ⟨⟨h1, h2⟩, h3⟩ := hc
      exact wpAnyLast_any hi (Region.noSelect_spec hs) hQ fuel l a w (Region.free_spec hi h1) (by simpa using h2) hy (ih _ _ _ _ h3 h)
  | held i p ih =>
    intro fuel l a w hc ⟨hS, oi, v, hi, hQ, hy, h⟩
    cases fuel with
    | zero => simp [Plan.ok] at hc
    | succ fuel =>
      simp only [Plan.ok, Bool.and_eq_true] at hc
      obtain ⟨⟨⟨⟨h1, h2⟩, h3⟩, h4⟩, h5⟩ := hc
      exact wpAnyLast_take hi hs h1 h2 h3 h4 hQ hy hS (ih _ _ _ _ h5 h)
  | one i p ih =>
    intro fuel l a w hc ⟨oi, hi, h⟩
    cases fuel with
    | zero => simp [Plan.ok] at hc
    | succ fuel =>
      simp only [Plan.ok, Bool.and_eq_true, beq_iff_eq] at hc
      obtain ⟨⟨h1, h2⟩, h3⟩ := hc
      refine wpAnyLast_all h1 (by simp) (fun j hj => ?_)
      obtain rfl := List.mem_singleton.1 hj
      exact wpOp_mono (fun a' w' hh => ⟨fun _ _ => hh.1, ih _ _ _ _ h3 hh.2⟩) (wpOp_of_list hi h)
  | last i p ih =>
    intro fuel l a w hc ⟨oi, hi, h⟩
    cases fuel with
    | zero => simp [Plan.ok] at hc
    | succ fuel =>
      simp only [Plan.ok, Bool.and_eq_true, beq_iff_eq] at hc
      obtain ⟨⟨h1, h2⟩, h3⟩ := hc
      refine wpAnyLast_all h1 (by simp) (fun j hj => ?_)
      obtain rfl := List.mem_singleton.1 hj
      exact wpOp_mono (fun a' w' hh => ⟨fun hn => absurd (by simpa using h2) hn, ih _ _ _ _ h3 hh⟩) (wpOp_of_list hi h)
  | two i j p q ihp ihq =>
    intro fuel l a w hc ⟨⟨oi, hi, h⟩, oj, hj, h'⟩
    cases fuel with
    | zero => simp [Plan.ok] at hc
    | succ fuel =>
      simp only [Plan.ok, Bool.and_eq_true, beq_iff_eq] at hc
      obtain ⟨⟨⟨⟨h1, _⟩, _⟩, h2⟩, h3⟩ := hc
      refine wpAnyLast_all h1 (by simp) (fun m hm => ?_)
      rcases List.mem_cons.1 hm with rfl | hm
      · exact wpOp_mono (fun a' w' hh => ⟨fun _ _ => hh.1, ihp _ _ _ _ h2 hh.2⟩) (wpOp_of_list hi h)
      · obtain rfl := List.mem_singleton.1 hm
        exact wpOp_mono (fun a' w' hh => ⟨fun _ _ => hh.1, ihq _ _ _ _ h3 hh.2⟩) (wpOp_of_list hj h')

/-- A region that draws, by a plan. -/
theorem region (p : Plan) (S : World → Prop) (ds : List Nat) {id : Nat} {a : Act} {w : World} (hm : P.follows .mixedOrders = true)
    (hc : (Region.noSelect ops && p.ok .any ops ds ops.size (Array.replicate ops.size false)) = true) (h : p.seq P ops Q S a w.drew) : (Code.region id ops true).wp P Q a w := by
  simp only [Bool.and_eq_true] at hc
  exact wp_region_last hm (Plan.sound hc.1 p _ _ _ _ hc.2 h)

/-! ### The steps of a plan, for a walk -/
variable {i j : Nat} {p q : Plan} {a a' : Act} {w : World} {oi oj : Oper} {v : Value}
theorem st_free (hi : ops[i]? = some oi) (hw : Region.wanted oi (yielded ops a.tmps) = true) (hy : ∀ w', (execOp a.eval oi).run P w' = .ok (.value v) w') (ha : a.put oi.dst v = a') (h : p.seq P ops Q S a' w)
    (hQ : ∀ c a w, Q (.panic c) (a.put oi.dst v) w → Q (.panic c) a w := by exact fun _ _ _ h => h) : (Plan.free i p).seq P ops Q S a w := by
  subst ha
  exact ⟨oi, v, hi, hQ, .inl ⟨hw, hy⟩, h⟩
theorem st_off (hi : ops[i]? = some oi) (hw : Region.wanted oi (yielded ops a.tmps) = false) (ha : a.put oi.dst undef = a') (h : p.seq P ops Q S a' w)
    (hQ : ∀ c a w, Q (.panic c) (a.put oi.dst undef) w → Q (.panic c) a w := by exact fun _ _ _ h => h) : (Plan.free i p).seq P ops Q S a w := by
  subst ha
  exact ⟨oi, undef, hi, hQ, .inr ⟨hw, rfl⟩, h⟩
theorem st_held (hS : S w) (hi : ops[i]? = some oi) (hw : Region.wanted oi (yielded ops a.tmps) = true) (hy : ∀ w', S w' → (execOp a.eval oi).run P w' = .ok (.value v) w') (ha : a.put oi.dst v = a') (h : p.seq P ops Q S a' w)
    (hQ : ∀ c a w, Q (.panic c) (a.put oi.dst v) w → Q (.panic c) a w := by exact fun _ _ _ h => h) : (Plan.held i p).seq P ops Q S a w := by
  subst ha
  exact ⟨hS, oi, v, hi, hQ, .inl ⟨hw, hy⟩, h⟩
theorem st_one (hi : ops[i]? = some oi) (h : wpList P ops (Exit.then (fun a' w' => S w' ∧ p.seq P ops Q S a' w') Q) [oi] a w) : (Plan.one i p).seq P ops Q S a w := ⟨oi, hi, h⟩
theorem st_last (hi : ops[i]? = some oi) (h : wpList P ops (Exit.then (fun a' w' => p.seq P ops Q S a' w') Q) [oi] a w) : (Plan.last i p).seq P ops Q S a w := ⟨oi, hi, h⟩
theorem st_two (hi : ops[i]? = some oi) (hj : ops[j]? = some oj) (h : wpList P ops (Exit.then (fun a' w' => S w' ∧ p.seq P ops Q S a' w') Q) [oi] a w) (h' : wpList P ops (Exit.then (fun a' w' => S w' ∧ q.seq P ops Q S a' w') Q) [oj] a w) :
    (Plan.two i j p q).seq P ops Q S a w := ⟨⟨oi, hi, h⟩, oj, hj, h'⟩
theorem st_done (h : Q .normal a w) : Plan.done.seq P ops Q S a w := h
theorem st_norm (ha : a = a') (h : p.seq P ops Q S a' w) : p.seq P ops Q S a w := ha ▸ h
end
end Go.Proofs.Ytaojnbhnogndnaa.SL
