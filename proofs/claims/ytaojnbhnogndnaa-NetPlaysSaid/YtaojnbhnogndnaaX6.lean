/- Contracts of package net's methods on a bag (Drop, Double). -/
import Derived.Test.YtaojnbhnogndnaaX5
namespace Go.Proofs.Ytaojnbhnogndnaa.SL
open Go.RowKit Go.Proofs.YtaojnbhnogndnaaW.PrintWords Go.Proofs.YtaojnbhnogndnaaW.PrintLast Go.Proofs.YtaojnbhnogndnaaW.PrintMore
attribute [local go_sem] max2_int min2_int max_two min_two
attribute [local go_sem high] Small.cell_set_same
set_option linter.unusedVariables false
set_option linter.unusedSimpArgs false

/-! ### Drop: function 27 -/
set_option maxRecDepth 100000 in
theorem Drop_no {w0 w : World} {L : List Asrt} (g : Nat) (ps : List (Int × List Int)) (i : Int) (hi : i < 0 ∨ (ps.length : Int) ≤ i) (HS : Sat w0 w (bag g ps :: L)) :
    Calls Try.prog 27 #[.pointer (some ⟨g, 0, none⟩), .int .i64 i] w fun e w' => e = .returned (.int .i64 1) ∧ Sat w0 w' (bag g ps :: L) := by
  have hu52 := Try.underlying52
  go_enter Try.func27, Try.ntmps27
  go_wp2_with (first | (go_at_call 26; refine (Deliver_no g ps i hi HS).mono ?_; rintro e w1 ⟨rfl, HS1⟩; clear HS) | ((with_reducible refine gate_dst (N := 5) rfl ?_); refine box_event ?hg (N := 5) ?hd (cs := #[.int .i64 0, .slice none 0 0]) (t := 52) ?hr ?_; (case hd => rfl); (case hg => rfl); (case hr => first | (go_simp; done) | (go_simp; rfl)); intro g1 hg w2 hbox hb; have HS2 := HS1.box hg hbox hb; clear HS1 hg hbox hb; have d0 := HS2.cell 0 0 rfl rfl; have d1 := HS2.cell 0 1 rfl rfl; have f0 := HS2.frozen 0 0 rfl; have f1 := HS2.frozen 0 1 rfl))
  go_ret
  have HS3 := (HS2.setAt 0 0 (.int .i64 0) rfl).setAt 0 1 (.slice none 0 0) rfl
  exact ⟨rfl, HS3.tail⟩
set_option maxRecDepth 100000 in
theorem Drop_yes {w0 w : World} {L : List Asrt} (g : Nat) (ps : List (Int × List Int)) (i : Nat) (hi : i < ps.length) (hm : ps.length ≤ 256) (HS : Sat w0 w (bag g ps :: L)) :
    Calls Try.prog 27 #[.pointer (some ⟨g, 0, none⟩), .int .i64 i] w fun e w' => e = .returned (.int .i64 0) ∧ Sat w0 w' (bag g (ps.eraseIdx i) :: L) := by
  have hu52 := Try.underlying52
  have hD := Deliver_yes g ps i hi hm HS
  obtain ⟨x, hx⟩ : ∃ x, x = ps.getD i (0, []) := ⟨_, rfl⟩
  rw [← hx] at hD
  clear hx
  go_enter Try.func27, Try.ntmps27
  go_wp2_with (first | (go_at_call 26; refine hD.mono ?_; rintro e w1 ⟨v, rfl, HS1⟩; clear hD HS; obtain ⟨A, c, rfl⟩ := HS1.rowShape 0 rfl) | ((with_reducible refine gate_dst (N := 5) rfl ?_); refine box_event ?hg (N := 5) ?hd (cs := #[.int .i64 0, .slice none 0 0]) (t := 52) ?hr ?_; (case hd => rfl); (case hg => rfl); (case hr => first | (go_simp; done) | (go_simp; rfl)); intro g1 hg w2 hbox hb; have HS2 := HS1.box hg hbox hb; clear HS1 hg hbox hb; have d0 := HS2.cell 0 0 rfl rfl; have d1 := HS2.cell 0 1 rfl rfl; have f0 := HS2.frozen 0 0 rfl; have f1 := HS2.frozen 0 1 rfl))
  go_ret
  have HS3 := (HS2.setAt 0 0 (.int .i64 x.1) rfl).setAt 0 1 (.slice A x.2.length c) rfl
  exact ⟨rfl, HS3.tail.tail⟩

/-! ### Double: function 28 -/
theorem Sat.rowElem {w0 w : World} {L : List Asrt} (x : Int × List Int) {v : Value} (h : Sat w0 w (row kB 5 v x.2 :: L)) : Sat w0 w (elem kPk x [.int .i64 x.1, v] :: L) := by
  obtain ⟨S, hP, hS, f⟩ := h.open1
  exact f w _ S (fun k hk => .inl hk) (Touch.refl _ _) ⟨kPk_mk hP.1, hP.2⟩
/-- A packet of a row that is read. -/
theorem pk_at {w : World} {h n : Nat} {ps : List (Int × List Int)} (hr : kPk.C w (some ⟨h, 0, none⟩) n ps) (i : Nat) (hi : i < n) :
    ∃ A c, w.cell? ⟨h, i * 2, none⟩ = some (.int .i64 (ps.getD i (0, [])).1) ∧ w.cell? ⟨h, i * 2 + 1, none⟩ = some (.slice A (ps.getD i (0, [])).2.length c) ∧ (ps.getD i (0, [])).2.length ≤ c ∧ kB.C w A (ps.getD i (0, [])).2.length (ps.getD i (0, [])).2 := by
  obtain ⟨ad, c, e, _, hK, hc⟩ := Kd.C_get hr (0, []) (i : Int) (by omega) (by omega)
  injection e with e
  subst e
  simp only [Int.toNat_natCast] at hK hc
  obtain ⟨A, c, rfl, h1, h2⟩ := kPk_K hK
  refine ⟨A, c, ?_, ?_, h1, h2⟩
  · have := hc 0 _ rfl; rw [add_plain] at this; exact this
  · have := hc 1 _ rfl; rw [add_plain] at this; exact this

set_option maxRecDepth 100000 in
theorem Double_no {w0 w : World} {L : List Asrt} (g : Nat) (ps : List (Int × List Int)) (i : Int) (hi : i < 0 ∨ (ps.length : Int) ≤ i) (HS : Sat w0 w (bag g ps :: L)) :
    Calls Try.prog 28 #[.pointer (some ⟨g, 0, none⟩), .int .i64 i] w fun e w' => e = .returned (.int .i64 1) ∧ Sat w0 w' (bag g ps :: L) := by
  obtain ⟨v, HS1⟩ := HS.bagE
  obtain ⟨A, c, rfl⟩ := HS1.rowsShape 1 rfl
  have c0 := HS1.cell 0 0 rfl rfl
  by_cases h0 : i < 0
  · have hd : decide (i < 0) = true := decide_eq_true h0
    go_enter Try.func28, Try.ntmps28
    go_wp2
    go_ret
    exact ⟨rfl, HS⟩
  · have hd : decide (i < 0) = false := decide_eq_false h0
    have hd2 : decide ((ps.length : Int) ≤ i) = true := decide_eq_true (by omega)
    go_enter Try.func28, Try.ntmps28
    go_wp2
    go_ret
    exact ⟨rfl, HS⟩
set_option maxRecDepth 100000 in
theorem Double_full {w0 w : World} {L : List Asrt} (g : Nat) (ps : List (Int × List Int)) (i : Nat) (hi : i < ps.length) (hm : ps.length = 256) (HS : Sat w0 w (bag g ps :: L)) :
    Calls Try.prog 28 #[.pointer (some ⟨g, 0, none⟩), .int .i64 i] w fun e w' => e = .returned (.int .i64 3) ∧ Sat w0 w' (bag g ps :: L) := by
  obtain ⟨v, HS1⟩ := HS.bagE
  obtain ⟨A, c, rfl⟩ := HS1.rowsShape 1 rfl
  have c0 := HS1.cell 0 0 rfl rfl
  rw [hm] at c0 hi
  have hd : decide ((i : Int) < 0) = false := decide_eq_false (by omega)
  have hd2 : decide ((256 : Int) ≤ (i : Int)) = false := decide_eq_false (by omega)
  have hd3 : decide (256 ≤ i) = false := decide_eq_false (by omega)
  clear hm
  go_enter Try.func28, Try.ntmps28
  go_wp2
  go_ret
  exact ⟨rfl, HS⟩
set_option maxHeartbeats 1000000 in
set_option maxRecDepth 100000 in
theorem Double_yes {w0 w : World} {L : List Asrt} (g : Nat) (ps : List (Int × List Int)) (i : Nat) (hi : i < ps.length) (hm : ps.length < 256) (hb : (ps.getD i (0, [])).2.length ≤ 140737488355328) (HS : Sat w0 w (bag g ps :: L)) :
    Calls Try.prog 28 #[.pointer (some ⟨g, 0, none⟩), .int .i64 i] w fun e w' => e = .returned (.int .i64 0) ∧ Sat w0 w' (bag g (ps ++ [ps.getD i (0, [])]) :: L) := by
  have hu52 := Try.underlying52
  obtain ⟨v, HS1⟩ := HS.bagE
  clear HS
  obtain ⟨A, c, rfl⟩ := HS1.rowsShape 1 rfl
  obtain ⟨_, hlc, hr⟩ := HS1.readsRows 1 rfl
  obtain ⟨ad, rfl⟩ : ∃ ad, A = some ad := by obtain ⟨ad, h, _⟩ := hr.2.2 (by omega); exact ⟨ad, h⟩
  obtain ⟨h, rfl⟩ : ∃ h, ad = ⟨h, 0, none⟩ := by
    obtain ⟨ok, hs⟩ := HS1.rowsAt 1 rfl
    obtain ⟨h, c', he, _⟩ := Kd.S_form hs (by omega)
    injection he with he
    injection he with he
    exact ⟨h, he⟩
  obtain ⟨B, cb, k0, k1, hcb, hrb⟩ := pk_at hr i hi
  have c0 := HS1.cell 0 0 rfl rfl
  have f0 := HS1.frozen 0 0 rfl
  obtain ⟨n, hn⟩ : ∃ n, n = ps.length := ⟨_, rfl⟩
  rw [← hn] at HS1 c0 hi hm
  obtain ⟨x, hx⟩ : ∃ x, x = ps.getD i (0, []) := ⟨_, rfl⟩
  rw [← hx] at k0 k1 hrb hb ⊢
  have HN := Aside0.mk hn
  have HRB := Aside0.mk hrb
  have HB := Aside0.mk hb
  clear hn hx hr hlc hcb hrb hb
  have hd : decide ((i : Int) < 0) = false := decide_eq_false (by omega)
  have hd2 : decide ((n : Int) ≤ (i : Int)) = false := decide_eq_false (by omega)
  have hd3 : decide (n ≤ i) = false := decide_eq_false (by omega)
  have hd4 : ((n : Int) == 256) = false := by simp; omega
  go_enter Try.func28, Try.ntmps28
  go_wp2
  refine region (frees [0, 1, 5, 9, 2, 3, 6, 7] (helds [4, 8] (.free 10 (.held 11 (.one 12 (.one 13 (.last 14 (frees [15, 16] (.last 17 .done))))))))) (fun w' => w'.cell? ⟨g, 0, none⟩ = some (.slice (some ⟨h, 0, none⟩) n c) ∧ w'.cell? ⟨h, i * 2, none⟩ = some (.int .i64 x.1) ∧ w'.cell? ⟨h, i * 2 + 1, none⟩ = some (.slice B x.2.length cb)) [14, 17] (by kernel_rfl) (by kernel_rfl) ?_
  have HS2 := HS1.drew
  have HRB2 := Aside0.mk (Kd.C_below HRB.out (below_drew (Below.refl _ w)))
  have c1 : w.drew.cell? ⟨g, 0, none⟩ = some (.slice (some ⟨h, 0, none⟩) n c) := c0
  have k2 : w.drew.cell? ⟨h, i * 2, none⟩ = some (.int .i64 x.1) := k0
  have k3 : w.drew.cell? ⟨h, i * 2 + 1, none⟩ = some (.slice B x.2.length cb) := k1
  clear HS1 HRB c0 k0 k1 f0
  generalize w.drew = w1 at HS2 HRB2 c1 k2 k3 ⊢
  repeat (first | (refine st_free (v := ?_) (a' := ?_) (by simp only [List.getElem?_toArray, List.getElem?_cons_succ, List.getElem?_cons_zero]; rfl) (by rfl) ?_ ?_ ?_; rotate_left 2; (intro w'; go_simp; with_reducible rfl); (simp only [Act.put, List.setIfInBounds_toArray, List.set_cons_zero, List.set_cons_succ]; rfl)) | (refine st_held (v := ?_) (a' := ?_) ⟨c1, k2, k3⟩ (by simp only [List.getElem?_toArray, List.getElem?_cons_succ, List.getElem?_cons_zero]; rfl) (by rfl) ?_ ?_ ?_; rotate_left 2; (rintro w' ⟨s0, s1, s2⟩; go_simp; with_reducible rfl); (simp only [Act.put, List.setIfInBounds_toArray, List.set_cons_zero, List.set_cons_succ]; rfl)))
  refine st_one (by simp only [List.getElem?_toArray, List.getElem?_cons_succ, List.getElem?_cons_zero]; rfl) ?_
  refine goesL_ (some 36) rfl rfl Try.func50 (by kernel_rfl) rfl #[.agg #[.int .i64 x.1, .slice B x.2.length cb]] rfl (by go_simp) ?_
  refine (own_calls x.1 B cb x.2 w1 HRB2.out HB.out).mono ?_
  rintro e w2 ⟨v, rfl, hR, hbw⟩
  have HS3 := HS2.newRow hbw hR (Nat.le_refl _)
  obtain ⟨C, cc, rfl⟩ := HS3.rowShape 0 rfl
  refine ⟨_, rfl, ?_⟩
  have c2 := (hbw.cell (World.block_lt_of_cell? _ _ c1)).trans c1
  have k4 := (hbw.cell (World.block_lt_of_cell? _ _ k2)).trans k2
  have k5 := (hbw.cell (World.block_lt_of_cell? _ _ k3)).trans k3
  clear HS2 c1 k2 k3 hR hbw HRB2
  refine ⟨⟨c2, k4, k5⟩, ?_⟩
  refine st_norm (a' := ?_) ?_ ?_; rotate_left; (simp only [Act.put, List.setIfInBounds_toArray, List.set_cons_zero, List.set_cons_succ]; rfl)
  refine st_one (by simp only [List.getElem?_toArray, List.getElem?_cons_succ, List.getElem?_cons_zero]; rfl) ?_
  refine Kd.event_run (v := .slice (some ⟨w2.heap.size, 0, none⟩) 1 1) (w1 := w2.alloc (.cells #[.int .i64 x.1, .slice C x.2.length cc] 52)) rfl (by go_simp) ?_
  have hbn : Below w2.heap.size w2 (w2.alloc (.cells #[.int .i64 x.1, .slice C x.2.length cc] 52)) := below_alloc (Below.refl _ _) _
  have c3 := (hbn.cell (World.block_lt_of_cell? _ _ c2)).trans c2
  have k6 := (hbn.cell (World.block_lt_of_cell? _ _ k4)).trans k4
  have k7 := (hbn.cell (World.block_lt_of_cell? _ _ k5)).trans k5
  clear c2 k4 k5 hbn
  refine ⟨⟨c3, k6, k7⟩, ?_⟩
  refine st_norm (a' := ?_) ?_ ?_; rotate_left; (simp only [Act.put, List.setIfInBounds_toArray, List.set_cons_zero, List.set_cons_succ]; rfl)
  refine st_last (by simp only [List.getElem?_toArray, List.getElem?_cons_succ, List.getElem?_cons_zero]; rfl) ?_
  have HS4 := (HS3.pick 2 rfl).swap.rowElem x
  refine app1 kPk rfl (.tmp 28) (.tmp 37) 61 52 (.agg #[.int .i64 0, .slice none 0 0]) 32 rfl Try.underlying61 inf52 rfl (by decide) (by decide) _ ps x _ (elem kPk x [.int .i64 x.1, .slice C x.2.length cc]) rfl rfl HS4 (fun S hP => hP.1) (by have := HN.out; omega) ?_
  intro v w3 HS5
  obtain ⟨D, cd, rfl⟩ := HS5.rowsShape 0 rfl
  clear HS3 HS4 c3 k6 k7
  refine st_norm (a' := ?_) ?_ ?_; rotate_left; (simp only [Act.put, List.setIfInBounds_toArray, List.set_cons_zero, List.set_cons_succ]; rfl)
  repeat (refine st_free (v := ?_) (a' := ?_) (by simp only [List.getElem?_toArray, List.getElem?_cons_succ, List.getElem?_cons_zero]; rfl) (by rfl) ?_ ?_ ?_; rotate_left 2; (intro w'; go_simp; with_reducible rfl); (simp only [Act.put, List.setIfInBounds_toArray, List.set_cons_zero, List.set_cons_succ]; rfl))
  have c3 := HS5.cell 1 0 rfl rfl
  have f3 := HS5.frozen 1 0 rfl
  refine st_last (by simp only [List.getElem?_toArray, List.getElem?_cons_succ, List.getElem?_cons_zero]; rfl) ?_
  refine store_event (t := 61) (p := 40) (v := .tmp 38) (w1 := w3.setCell ⟨g, 0, none⟩ (.slice D (ps ++ [x]).length cd)) rfl rfl rfl (by go_simp) ?_
  rintro _ rfl
  have HS6 := HS5.setAt 1 0 (.slice D (ps ++ [x]).length cd) rfl
  clear HS5 c3 f3
  refine st_norm rfl ?_
  refine st_done ?_
  have HS7 := HS6.swap.bagI
  generalize w3.setCell _ _ = w4 at HS7 ⊢
  clear HS6
  go_wp2
  go_ret
  exact ⟨rfl, HS7⟩
end Go.Proofs.Ytaojnbhnogndnaa.SL
