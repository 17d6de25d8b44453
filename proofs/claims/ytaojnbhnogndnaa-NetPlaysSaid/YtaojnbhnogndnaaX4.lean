/- Words for a row of structs from which an element is taken out; slices.Delete of one packet. -/
import Derived.Test.YtaojnbhnogndnaaX3
namespace Go.Proofs.Ytaojnbhnogndnaa.SL
open Go.RowKit Go.Proofs.YtaojnbhnogndnaaW.PrintWords Go.Proofs.YtaojnbhnogndnaaW.PrintLast Go.Proofs.YtaojnbhnogndnaaW.PrintMore
set_option linter.unusedVariables false
set_option linter.unusedSimpArgs false

/-- The cells cs are an element x of the kind d, with what it owns. -/
def elem {α : Type} (d : Kd α) (x : α) (cs : List Value) : Asrt where
  P w S := d.M w 0 S x cs ∧ ∀ k, S k → k < w.heap.size
  loc {w w'} {S} h hm := by
    refine ⟨d.M_move hm h.1, fun k hk => ?_⟩
    have h1 := hm k hk
    rw [Array.getElem?_eq_getElem (h.2 k hk)] at h1
    exact (Array.getElem?_eq_some_iff.1 h1).1
  bd h k hk := h.2 k hk
/-- A row of whose element i the cells alone are told. -/
def hole {α : Type} (d : Kd α) (e : Nat) (v : Value) (xs : List α) (i : Nat) (c : List Value) : Asrt where
  P w S := (∃ f, (Kd.gap f d i c).R e w 0 S v xs.zipIdx) ∧ ∀ k, S k → k < w.heap.size
  loc {w w'} {S} h hm := by
    obtain ⟨⟨f, h1⟩, h2⟩ := h
    refine ⟨⟨f, Kd.R_move h1 hm⟩, fun k hk => ?_⟩
    have h3 := hm k hk
    rw [Array.getElem?_eq_getElem (h2 k hk)] at h3
    exact (Array.getElem?_eq_some_iff.1 h3).1
  bd h k hk := h.2 k hk

theorem Sat.split {w0 w : World} {a b c : Asrt} {l : List Asrt} (h : Sat w0 w (a :: l)) (f : ∀ S, a.P w S → ∃ S1 S2 : Nat → Prop, b.P w S1 ∧ c.P w S2 ∧ (∀ k, S1 k → S k) ∧ (∀ k, S2 k → S k) ∧ ∀ k, S1 k → ¬ S2 k) : Sat w0 w (b :: c :: l) := by
  obtain ⟨S, hP, hS, g⟩ := h.openL
  obtain ⟨S1, S2, h1, h2, h3, h4, h5⟩ := f S hP
  exact g w [b, c] S (fun k hk => .inl hk) (Touch.refl _ _) ⟨S1, h1, fun k hk => ⟨hS k (h3 k hk), fun hn => hn (h3 k hk)⟩, S2, h2, fun k hk => ⟨hS k (h4 k hk), fun hn => hn.elim (fun hn => hn (h4 k hk)) (fun h => h5 k h hk)⟩, trivial⟩

/-- An element is lent out of a row: its cells, where they stand, what it owns. -/
theorem Sat.lend {α : Type} {d : Kd α} {w0 w : World} {l : List Asrt} {e : Nat} {v : Value} {xs : List α} (h : Sat w0 w (rows d e v xs :: l)) (i : Nat) (hi : i < xs.length) (z : α) :
    ∃ (g c : Nat) (cs : List Value), v = .slice (some ⟨g, 0, none⟩) xs.length c ∧ xs.length ≤ c ∧ w0.heap.size ≤ g ∧ cs.length = d.sz ∧ (∀ j u, cs[j]? = some u → w.cell? ⟨g, i * d.sz + j, none⟩ = some u) ∧ Sat w0 w (elem d (xs.getD i z) cs :: hole d e v xs i cs :: l) := by
  obtain ⟨S, hP, hS, _⟩ := h.openL
  obtain ⟨g, c, rfl, hg, hlt, _⟩ := Kd.S_form hP.1 (by omega)
  have hc := (Kd.S_reads' hP.1).2.1
  have hgS : S g := (Kd.S_R hP.1).1 g (by simp [Value.ownBlock])
  obtain ⟨oki, cs, hl, hM, hcell, hok, _, f, hH⟩ := Kd.S_lend hP.1 z (i : Int) (by omega) (by omega)
  simp only [Int.toNat_natCast] at hM hcell hH
  clear hM hok hH
  refine ⟨g, c, cs, rfl, hc, hS g hgS, hl, hcell, h.split (fun S' hP' => ?_)⟩
  obtain ⟨ok2, cs', hl', hM, hcell', hok, _, f2, hH⟩ := Kd.S_lend hP'.1 z (i : Int) (by omega) (by omega)
  simp only [Int.toNat_natCast] at hM hcell' hH
  have he : cs' = cs := by
    apply List.ext_getElem (by omega)
    intro j h1 h2
    have h3 := hcell' j _ (List.getElem?_eq_getElem h1)
    rw [hcell j _ (List.getElem?_eq_getElem h2)] at h3
    exact (Option.some.inj h3).symm
  rw [he] at hM hH
  exact ⟨fun k => ok2 k ∧ k < w.heap.size, fun k => (S' k ∧ ¬ ok2 k) ∧ k < w.heap.size, ⟨d.M_mono (fun k hk => ⟨hk.1, hk.2.2.1⟩) (d.M_bound hM), fun k hk => hk.2⟩, ⟨⟨f2, Kd.R_mono (Kd.R_bound hH) (fun k hk => ⟨hk.1, hk.2.2.1⟩)⟩, fun k hk => hk.2⟩, fun k hk => (hok k hk.1).1, fun k hk => hk.1.1, fun k hk h2 => h2.1.2 hk.1⟩

/-- Behind the element of the hole taken out the others are a row again. -/
theorem hole_erase {α : Type} {d : Kd α} {e b i : Nat} {w : World} {ok : Nat → Prop} {v : Value} {xs : List α} {c : List Value} {f : Nat → Nat} (h : (Kd.gap f d i c).R e w b ok v (xs.zipIdx.eraseIdx i)) : Kd.S d e w b ok v (xs.eraseIdx i) := by
  obtain ⟨h0, inner, ho, hr⟩ := h
  refine Kd.S_erase (f := f) ⟨h0, inner, ho, hr.1, fun j p hj => ?_⟩
  have h1 := hr.2 j p hj
  refine (h1.2 ?_)
  rw [List.getElem?_eraseIdx] at hj
  split at hj
  · rw [List.getElem?_zipIdx, Nat.zero_add] at hj
    obtain ⟨x, _, rfl⟩ := Option.map_eq_some_iff.1 hj
    show j ≠ i
    omega
  · rw [List.getElem?_zipIdx, Nat.zero_add] at hj
    obtain ⟨x, _, rfl⟩ := Option.map_eq_some_iff.1 hj
    show j + 1 ≠ i
    omega

section
variable {P : Program} {ops : Array Oper} {rest : List Oper} {o : Oper} {a : Act} {Q : Exit → Act → World → Prop}
/-- append(v[:i], v[i+1:]...), the element i being out. -/
theorem delHole {α : Type} (d : Kd α) {w0 W : World} {L : List Asrt} (hgd : o.guard = none) (s x : Operand) (t e : TypeId) (ho : o.op = .call { callee := .builtin .append, args := #[s, x], argTypes := #[t, t] })
    (ht : P.underlying t = some (.slice e)) (hinfo : (P.info? e).map (·.size) = some d.sz) {g n c k m c2 : Nat} {A : Option Addr} {xs : List α} {cs : List Value}
    (hs : a.eval s = .slice (some ⟨g, 0, none⟩) k c) (hx : a.eval x = .slice A m c2) (hA : A = if c = k + 1 then some ⟨g, 0, none⟩ else (some (⟨g, 0, none⟩ : Addr)).map (·.add ((k + 1) * d.sz))) (hm : m = n - (k + 1)) (hk : k < n)
    (HS : Sat w0 W (hole d e (.slice (some ⟨g, 0, none⟩) n c) xs k cs :: L))
    (h : ∀ w1, Sat w0 w1 (rows d e (.slice (some ⟨g, 0, none⟩) (n - 1) c) (xs.eraseIdx k) :: L) → wpList P ops Q rest (a.put o.dst (.slice (some ⟨g, 0, none⟩) (n - 1) c)) w1) : wpList P ops Q (o :: rest) a W := by
  obtain ⟨S, ⟨⟨f, hR⟩, hb⟩, hS, F⟩ := HS.open1
  refine Kd.R_delete (w0 := W) (Kd.gap f d k cs) 0 hgd s x t e ho ht hinfo hs hx hA hm hR hk ((Below.refl W.heap.size W).mono (Nat.zero_le _)) (Nat.zero_le _) ?_
  intro w1 hr _ hg
  refine h w1 (F w1 _ (fun k => S k ∧ k < w1.heap.size) (fun k hk => .inl hk.1) (Touch.of_grown hg (fun j hj => ?_)) ⟨hole_erase (Kd.R_mono (Kd.R_bound hr) (fun k hk => ⟨hk.1, hk.2.2.1⟩)), fun k hk => hk.2⟩)
  injection hj with hj
  subst hj
  exact hR.1 g (by simp [Value.ownBlock])
end
/-- Cells behind the row's end may be written. -/
theorem R_tail {α : Type} {d : Kd α} {e b m c g : Nat} {w : World} {ok : Nat → Prop} {xs : List α} (h : d.R e w b ok (.slice (some ⟨g, 0, none⟩) m c) xs) {P : Program} (vs : List Value) (hfit : m * d.sz + vs.length ≤ c * d.sz) (h1 : ∀ v ∈ vs, v.oneCell' = true) :
    ∃ w', (storeCells ⟨g, m * d.sz, none⟩ vs).run P w = .ok () w' ∧ d.R e w' b ok (.slice (some ⟨g, 0, none⟩) m c) xs ∧ Touch (fun k => k = g) w w' := by
  obtain ⟨h0, inner, ho, hr⟩ := h
  rcases ho.2 with ⟨hv, _⟩ | ⟨g', cap', cur, hv, hb, hh, hnc, hcm, hcs, htake⟩
  · cases hv
  injection hv with ha hn hc
  injection ha with ha
  injection ha with ha
  subst ha
  subst hc
  subst hn
  have hrun := run_storeCells_at P g (xs.length * d.sz) e vs 0 cur w hh (by omega) h1
  refine ⟨_, hrun, ⟨h0, inner, ⟨ho.1, .inr ⟨g, c, _, rfl, hb, setRow_heap w g cur _ e _ hh, hnc, hcm, ?_, ?_⟩⟩, hr.imp_ (fun p cs hp => d.M_move (fun k hk => setRow_other w g k _ (fun e => hk.2 (by rw [e]; simp [Value.ownBlock]))) hp)⟩, ⟨rfl, rfl, rfl, by simp, fun k _ hk => setRow_other w g k _ hk⟩⟩
  · simp only [List.size_toArray, List.length_append, List.length_take, List.length_drop, Array.length_toList]
    omega
  · simp only [Nat.add_zero, List.append_assoc]
    have hcl : cur.toList.length = c * d.sz := by rw [Array.length_toList]; exact hcs
    have hle : xs.length * d.sz ≤ c * d.sz := Nat.mul_le_mul_right _ hnc
    rw [List.take_append_of_le_length (Nat.le_of_eq (by rw [List.length_take, hcl, Nat.min_eq_left hle])), List.take_take, Nat.min_self]
    exact htake
theorem Sat.tailWrite {α : Type} {d : Kd α} {w0 w : World} {L : List Asrt} {e m c g : Nat} {xs : List α} (h : Sat w0 w (rows d e (.slice (some ⟨g, 0, none⟩) m c) xs :: L)) {P : Program} (vs : List Value) (hfit : m * d.sz + vs.length ≤ c * d.sz) (h1 : ∀ v ∈ vs, v.oneCell' = true) :
    ∃ w', (storeCells ⟨g, m * d.sz, none⟩ vs).run P w = .ok () w' ∧ Sat w0 w' (rows d e (.slice (some ⟨g, 0, none⟩) m c) xs :: L) := by
  obtain ⟨S, ⟨⟨f, hR⟩, hb⟩, hS, F⟩ := h.open1
  obtain ⟨w', hrun, hR', ht⟩ := R_tail (P := P) hR vs hfit h1
  refine ⟨w', hrun, F w' _ S (fun k hk => .inl hk) (ht.mono (fun k _ hk => ?_)) ⟨⟨f, hR'⟩, fun k hk => Nat.lt_of_lt_of_le (hb k hk) ht.size⟩⟩
  subst hk
  exact hR.1 k (by simp [Value.ownBlock])

section
variable {P : Program} {ops : Array Oper} {rest : List Oper} {o : Oper} {a : Act} {Q : Exit → Act → World → Prop}
/-- clear(v[len(v):len(v)+j]), j at least 1: behind the row's end. -/
theorem clearTail {α : Type} (d : Kd α) {w0 W : World} {L : List Asrt} (hgd : o.guard = none) (hN : o.dst = none) (x : Operand) (t e : TypeId) (ho : o.op = .call { callee := .builtin .clear, args := #[x], argTypes := #[t] })
    (ht : P.underlying t = some (.slice e)) (z : Value) (hz : ∀ w, (zeroValue e).run P w = .ok z w) (hzs : z.cells.size = d.sz) (h1 : ∀ i, i < z.cells.size → (z.cells[i]!).oneCell' = true) {g m c j c2 : Nat} {xs : List α}
    (hx : a.eval x = .slice (some ⟨g, m * d.sz, none⟩) j c2) (hj : 0 < j) (hfit : m + j ≤ c) (hs0 : 0 < d.sz) (HS : Sat w0 W (rows d e (.slice (some ⟨g, 0, none⟩) m c) xs :: L))
    (h : ∀ w1, Sat w0 w1 (rows d e (.slice (some ⟨g, 0, none⟩) m c) xs :: L) → wpList P ops Q rest a w1) : wpList P ops Q (o :: rest) a W := by
  have hlen : (Builtin.zeroCells z.cells j).toList.length = j * d.sz := by simp [size_zeroCells, hzs]
  obtain ⟨w', hrun, HS'⟩ := HS.tailWrite (P := P) (Builtin.zeroCells z.cells j).toList (by rw [hlen, ← Nat.add_mul]; exact Nat.mul_le_mul_right _ hfit) (by
    intro v hv
    simp only [Builtin.zeroCells, Array.toList_map, List.mem_map] at hv
    obtain ⟨q, _, rfl⟩ := hv
    exact h1 _ (Nat.mod_lt _ (by omega)))
  obtain ⟨k, rfl⟩ : ∃ k, j = k + 1 := ⟨j - 1, by omega⟩
  have hr : (execOp a.eval o).run P W = .ok (.value (.tuple #[])) w' := by
    simp [execOp, ho, resolve, invoke, builtin, hx, Builtin.clear_, run_underlying ht, hz, hrun]
  refine Kd.event_run hgd hr ?_
  rw [hN]
  exact h w' HS'
end

/-! ### slices.Delete of one packet: function 51 -/
set_option maxHeartbeats 1000000 in
set_option maxRecDepth 100000 in
theorem Delete_calls {w0 w : World} {L : List Asrt} (g c i n : Nat) (ps : List (Int × List Int)) (cs : List Value) (hn : n = ps.length) (hi : i < n) (hc : n ≤ c) (hm : n ≤ 4611686018427387904) (HS : Sat w0 w (hole kPk 52 (.slice (some ⟨g, 0, none⟩) n c) ps i cs :: L)) :
    Calls Try.prog 51 #[.slice (some ⟨g, 0, none⟩) n c, .int .i64 i, .int .i64 ((i : Int) + 1)] w fun e w' => e = .returned (.slice (some ⟨g, 0, none⟩) (n - 1) c) ∧ Sat w0 w' (rows kPk 52 (.slice (some ⟨g, 0, none⟩) (n - 1) c) (ps.eraseIdx i) :: L) := by
  have HN := Aside0.mk hn
  clear hn
  have hne : ((i : Int) == (i : Int) + 1) = false := by simp; omega
  have hic : i ≤ c := by omega
  have hin : i + 1 ≤ n := by omega
  obtain ⟨A', hA, hrun⟩ := cut_l (P := Try.prog) 2 61 52 Try.underlying61 (i := _) rfl rfl (some ⟨g, 0, none⟩) n c (i + 1) hin
  have hcut := fun W => hrun W ((i : Int) + 1) (by omega)
  have HA := Aside0.mk hA
  clear hA hrun
  go_enter Try.func51, Try.ntmps51
  go_wp2
  refine region (frees [0, 1, 3, 4, 2, 5] (.one 6 (.free 7 .done))) (fun _ => True) [] (by kernel_rfl) (by kernel_rfl) ?_
  have HS1 := HS.drew
  clear HS
  generalize w.drew = w1 at HS1 ⊢
  repeat (refine st_free (v := ?_) (a' := ?_) (by simp only [List.getElem?_toArray, List.getElem?_cons_succ, List.getElem?_cons_zero]; rfl) (by rfl) ?_ ?_ ?_; rotate_left 2; (intro w'; go_simp; with_reducible rfl); (simp only [Act.put, List.setIfInBounds_toArray, List.set_cons_zero, List.set_cons_succ]; rfl))
  refine st_one (by simp only [List.getElem?_toArray, List.getElem?_cons_succ, List.getElem?_cons_zero]; rfl) ?_
  refine delHole kPk rfl (.tmp 22) (.tmp 25) 61 52 rfl Try.underlying61 rfl (g := g) (n := n) (c := c) (k := i) rfl rfl HA.out rfl hi HS1 ?_
  intro w2 HS2
  refine ⟨trivial, ?_⟩
  refine st_norm (a' := ?_) ?_ ?_; rotate_left; (simp only [Act.put, List.setIfInBounds_toArray, List.set_cons_zero, List.set_cons_succ]; rfl)
  repeat (refine st_free (v := ?_) (a' := ?_) (by simp only [List.getElem?_toArray, List.getElem?_cons_succ, List.getElem?_cons_zero]; rfl) (by rfl) ?_ ?_ ?_; rotate_left 2; (intro w'; go_simp; with_reducible rfl); (simp only [Act.put, List.setIfInBounds_toArray, List.set_cons_zero, List.set_cons_succ]; rfl))
  refine st_done ?_
  have hcn : ¬ c = n - 1 := by omega
  have hnc : n - 1 ≤ n := by omega
  have hcc : n ≤ c := by omega
  go_wp2_with ((with_reducible refine gate_builtin (b := .clear) (xs := #[.tmp 31]) rfl ?_); refine clearTail kPk rfl rfl (.tmp 31) 61 52 rfl Try.underlying61 (.agg #[.int .i64 0, .slice none 0 0]) (fun w => by kernel_rfl) rfl (by intro i hi; match i, hi with | 0, _ => rfl | 1, _ => rfl) rfl (by omega) (by omega) (by decide) HS2 ?_; intro w3 HS3)
  go_ret
  exact ⟨rfl, HS3⟩
end Go.Proofs.Ytaojnbhnogndnaa.SL
