/- An argument opened by its kind: what it reads as, in the words of the printed kinds (Kd), with the bounds that the form gives. -/
import Derived.Test.YtaojnbhnogndnaaWMore
import Derived.Deep.Slices
import Derived.Deep.Strs
import Derived.SizedLaws
namespace Go.Proofs.Ytaojnbhnogndnaa.SL
open Go.RowKit Go.ChangeShapes Go.WideShapes Go.Proofs.YtaojnbhnogndnaaW.PrintWords
set_option linter.unusedVariables false

section
variable {H : Type} {enc : TypeId × Value → H} {P : Program} {base : Nat} {held : Bool} {W : World}

/-- Cells that read at the type t are an element of the kind d, and B holds of it. -/
def Opens (enc : TypeId × Value → H) (P : Program) (base : Nat) (held : Bool) (W : World) (t : TypeId) {α : Type} (d : Kd α) (B : α → Prop) : Prop :=
  ∀ (fuel : Nat) (cs : List Value) (x : DataW H × List MemPlace), DataW.trod enc P W base (fun _ => true) held fuel t cs = some x → (∀ m ∈ x.1.weights P t, m ≤ reachBytes) → ∃ a, d.K W a cs ∧ B a

theorem Opens.int {t : TypeId} {k : IntKind} (ht : P.underlying t = some (.int k)) : Opens enc P base held W t (Kd.int k) (fun z => (Lit.int k z).wf = true) := by
  intro fuel cs x h _
  obtain ⟨n, rfl, _, hw⟩ := DataW.trod_int ht h
  exact ⟨n, rfl, hw⟩

theorem weights_all {e : TypeId} : ∀ {l : List (DataW H)} {d : DataW H}, d ∈ l → ∀ m ∈ d.weights P e, m ∈ DataW.weightsAll P e l
  | a :: l, d, hd, m, hm => by
    unfold DataW.weightsAll
    rcases List.mem_cons.1 hd with rfl | hd
    · exact List.mem_append_left _ hm
    · exact List.mem_append_right _ (weights_all hd m hm)

theorem Opens.slice {α : Type} {d : Kd α} {B : α → Prop} {t e : TypeId} (ht : P.underlying t = some (.slice e)) (hc : P.cellsOf e = d.sz) (h : Opens enc P base held W e d B) :
    Opens enc P base held W t (Kd.slice e d) (fun xs => xs.length * P.bytesOf e ≤ reachBytes ∧ ∀ a ∈ xs, B a) := by
  classical
  intro fuel cs x hx hw
  rcases Go.Deep.open_slice ht hx with ⟨rfl, rfl⟩ | ⟨a, len, cap, m, n, D, Pl, rfl, hb, hl, hm, hmm, rfl, hel⟩
  · exact ⟨[], ⟨none, 0, rfl, Nat.le_refl _, rfl, Nat.zero_le _, fun hh => absurd hh (Nat.lt_irrefl 0)⟩, by simp, fun a ha => by simp at ha⟩
  · have hlm : len ≤ m := by rw [hmm]; split <;> omega
    simp only [DataW.weights, ht] at hw
    have each : ∀ i, i < len → ∃ a' : α, (∃ c, c.length = d.sz ∧ d.K W a' c ∧ ∀ j u, c[j]? = some u → W.cell? (a.add (i * d.sz + j)) = some u) ∧ B a' := by
      intro i hi
      obtain ⟨cs', h1, h2⟩ := hel i (by omega)
      obtain ⟨a', hK, hB⟩ := h n cs' _ h2 (fun q hq => hw q (List.mem_cons_of_mem _ (List.mem_append_left _ (weights_all (List.mem_map.2 ⟨i, List.mem_range.2 hi, rfl⟩) q hq))))
      obtain ⟨_, hlen, hcell⟩ := World.cells?_some h1
      refine ⟨a', ⟨cs', hlen.trans hc, hK, fun j u hu => ?_⟩, hB⟩
      have hj : j < cs'.length := (List.getElem?_eq_some_iff.1 hu).1
      have h3 := hcell j (by omega)
      rw [Go.Deep.add_add, hc] at h3
      rw [h3, hu]
    obtain ⟨L, hmap⟩ : ∃ L, L = (List.finRange len).map (fun i => Classical.choose (each i.1 i.2)) := ⟨_, rfl⟩
    have hlen : L.length = len := by rw [hmap]; simp
    refine ⟨L, ⟨some a, cap, ?_, ?_, ?_⟩, ?_, ?_⟩
    · rw [hlen]
    · rw [hlen]; exact hl
    · rw [hlen]
      refine ⟨hlen, Nat.le_trans hl hm, fun _ => ⟨a, rfl, fun j p hj => ?_⟩⟩
      have hjl : j < len := by have := (List.getElem?_eq_some_iff.1 hj).1; omega
      rw [hmap, List.getElem?_map, List.getElem?_eq_getElem (by simpa using hjl)] at hj
      simp only [Option.map_some, Option.some.injEq, List.getElem_finRange] at hj
      subst hj
      exact (Classical.choose_spec (each j hjl)).1
    · rw [hlen]
      have := hw _ (List.mem_cons_self)
      simp only [List.length_map, List.length_range] at this
      exact Nat.le_trans (Nat.mul_le_mul_right _ (by omega)) this
    · intro y hy
      rw [hmap] at hy
      obtain ⟨i, _, rfl⟩ := List.mem_map.1 hy
      exact (Classical.choose_spec (each i.1 i.2)).2

theorem Opens.pair {α β : Type} {a : Kd α} {b : Kd β} {A : α → Prop} {B : β → Prop} {t : TypeId} {f0 f1 : Field} (ht : P.underlying t = some (.struct #[f0, f1])) (h0 : f0.offset = 0) (h1 : f1.offset = a.sz) (c0 : P.cellsOf f0.type = a.sz) (c1 : P.cellsOf f1.type = b.sz) (ct : P.cellsOf t = a.sz + b.sz)
    (ha : Opens enc P base held W f0.type a A) (hb : Opens enc P base held W f1.type b B) : Opens enc P base held W t (Kd.pair a b) (fun x => A x.1 ∧ B x.2) := by
  intro fuel cs x hx hw
  obtain ⟨y0, y1, n, rfl, hl, t0, t1⟩ := trod_struct2 ht hx
  simp only [DataW.weights, ht, List.map_cons, List.map_nil, DataW.weightsEach, List.append_nil] at hw
  rw [h0, c0, List.drop_zero] at t0
  rw [h1, c1] at t1
  obtain ⟨p, hp, hA⟩ := ha n _ _ t0 (fun m hm => hw m (List.mem_append_left _ hm))
  obtain ⟨q, hq, hB⟩ := hb n _ _ t1 (fun m hm => hw m (List.mem_append_right _ hm))
  refine ⟨(p, q), ⟨_, _, ?_, hp, hq⟩, hA, hB⟩
  rw [List.take_of_length_le (l := cs.drop a.sz) (by rw [List.length_drop]; omega), List.take_append_drop]

theorem Opens.triple {α β γ : Type} {a : Kd α} {b : Kd β} {c : Kd γ} {A : α → Prop} {B : β → Prop} {C : γ → Prop} {t : TypeId} {f0 f1 f2 : Field} (ht : P.underlying t = some (.struct #[f0, f1, f2])) (h0 : f0.offset = 0) (h1 : f1.offset = a.sz) (h2 : f2.offset = a.sz + b.sz) (c0 : P.cellsOf f0.type = a.sz) (c1 : P.cellsOf f1.type = b.sz) (c2 : P.cellsOf f2.type = c.sz) (ct : P.cellsOf t = a.sz + (b.sz + c.sz))
    (ha : Opens enc P base held W f0.type a A) (hb : Opens enc P base held W f1.type b B) (hc : Opens enc P base held W f2.type c C) : Opens enc P base held W t (Kd.pair a (Kd.pair b c)) (fun x => A x.1 ∧ B x.2.1 ∧ C x.2.2) := by
  intro fuel cs x hx hw
  obtain ⟨y0, y1, y2, n, rfl, hl, t0, t1, t2⟩ := Go.Deep.trod_struct3 ht hx
  simp only [DataW.weights, ht, List.map_cons, List.map_nil, DataW.weightsEach, List.append_nil] at hw
  rw [h0, c0, List.drop_zero] at t0
  rw [h1, c1] at t1
  rw [h2, c2] at t2
  obtain ⟨p, hp, hA⟩ := ha n _ _ t0 (fun m hm => hw m (List.mem_append_left _ hm))
  obtain ⟨q, hq, hB⟩ := hb n _ _ t1 (fun m hm => hw m (List.mem_append_right _ (List.mem_append_left _ hm)))
  obtain ⟨r, hr, hC⟩ := hc n _ _ t2 (fun m hm => hw m (List.mem_append_right _ (List.mem_append_right _ hm)))
  refine ⟨(p, q, r), ⟨_, _, ?_, hp, _, _, rfl, hq, hr⟩, hA, hB, hC⟩
  rw [List.take_of_length_le (l := cs.drop (a.sz + b.sz)) (by rw [List.length_drop]; omega), ← List.drop_drop, List.take_append_drop, List.take_append_drop]

theorem Opens.quad {α β γ δ : Type} {a : Kd α} {b : Kd β} {c : Kd γ} {d : Kd δ} {A : α → Prop} {B : β → Prop} {C : γ → Prop} {D : δ → Prop} {t : TypeId} {f0 f1 f2 f3 : Field} (ht : P.underlying t = some (.struct #[f0, f1, f2, f3])) (h0 : f0.offset = 0) (h1 : f1.offset = a.sz) (h2 : f2.offset = a.sz + b.sz) (h3 : f3.offset = a.sz + b.sz + c.sz) (c0 : P.cellsOf f0.type = a.sz) (c1 : P.cellsOf f1.type = b.sz) (c2 : P.cellsOf f2.type = c.sz) (c3 : P.cellsOf f3.type = d.sz) (ct : P.cellsOf t = a.sz + (b.sz + (c.sz + d.sz)))
    (ha : Opens enc P base held W f0.type a A) (hb : Opens enc P base held W f1.type b B) (hc : Opens enc P base held W f2.type c C) (hd : Opens enc P base held W f3.type d D) : Opens enc P base held W t (Kd.pair a (Kd.pair b (Kd.pair c d))) (fun x => A x.1 ∧ B x.2.1 ∧ C x.2.2.1 ∧ D x.2.2.2) := by
  intro fuel cs x hx hw
  obtain ⟨xs, n, _, rfl, hl, hlen, hf⟩ := DataW.trod_struct ht hx
  match xs, hlen with
  | [y0, y1, y2, y3], _ =>
    have t0 := hf 0 f0 rfl
    have t1 := hf 1 f1 rfl
    have t2 := hf 2 f2 rfl
    have t3 := hf 3 f3 rfl
    simp only [List.getElem?_cons_zero, List.getElem?_cons_succ] at t0 t1 t2 t3
    simp only [DataW.weights, ht, List.map_cons, List.map_nil, DataW.weightsEach, List.append_nil] at hw
    rw [h0, c0, List.drop_zero] at t0
    rw [h1, c1] at t1
    rw [h2, c2] at t2
    rw [h3, c3] at t3
    obtain ⟨p, hp, hA⟩ := ha n _ _ t0 (fun m hm => hw m (List.mem_append_left _ hm))
    obtain ⟨q, hq, hB⟩ := hb n _ _ t1 (fun m hm => hw m (List.mem_append_right _ (List.mem_append_left _ hm)))
    obtain ⟨r, hr, hC⟩ := hc n _ _ t2 (fun m hm => hw m (List.mem_append_right _ (List.mem_append_right _ (List.mem_append_left _ hm))))
    obtain ⟨s, hs, hD⟩ := hd n _ _ t3 (fun m hm => hw m (List.mem_append_right _ (List.mem_append_right _ (List.mem_append_right _ hm))))
    refine ⟨(p, q, r, s), ⟨_, _, ?_, hp, _, _, rfl, hq, _, _, rfl, hr, hs⟩, hA, hB, hC, hD⟩
    have e1 : cs.drop (a.sz + b.sz + c.sz) = ((cs.drop a.sz).drop b.sz).drop c.sz := by simp [List.drop_drop, Nat.add_assoc]
    have e2 : cs.drop (a.sz + b.sz) = (cs.drop a.sz).drop b.sz := by simp [List.drop_drop]
    rw [List.take_of_length_le (l := cs.drop (a.sz + b.sz + c.sz)) (by rw [List.length_drop]; omega), e1, e2, List.take_append_drop, List.take_append_drop, List.take_append_drop]

/-- The weights of one of the arguments. -/
theorem weights_of {ts : List TypeId} {ds : List (DataW H)} (h : (DataW.weightsEach P ts ds).all (· ≤ reachBytes) = true) {j : Nat} {t : TypeId} {d : DataW H} (ht : ts[j]? = some t) (hd : ds[j]? = some d) : ∀ m ∈ d.weights P t, m ≤ reachBytes :=
  fun m hm => by simpa using List.all_eq_true.1 h _ (DataW.weights_mem_each ht hd m hm)
/-- An argument that is a slice, opened. -/
theorem Opens.arg {α : Type} {d : Kd α} {B : List α → Prop} {t e : TypeId} {A : Option Addr} {n c : Nat} {x : DataW H} {p : List MemPlace} (ho : Opens enc P base held W t (Kd.slice e d) B) (h : DataW.Trod enc P W base (fun _ => true) held t (.slice A n c) x p) (hw : ∀ m ∈ x.weights P t, m ≤ reachBytes) :
    ∃ xs, n = xs.length ∧ xs.length ≤ c ∧ d.C W A xs.length xs ∧ B xs := by
  obtain ⟨fuel, hf⟩ := h
  obtain ⟨xs, ⟨A', c', hcs, hl, hC⟩, hB⟩ := ho fuel _ _ hf hw
  simp only [Value.cells, List.cons.injEq, and_true] at hcs
  injection hcs with e1 e2 e3
  subst e1; subst e2; subst e3
  exact ⟨xs, rfl, hl, hC, hB⟩
end
end Go.Proofs.Ytaojnbhnogndnaa.SL
