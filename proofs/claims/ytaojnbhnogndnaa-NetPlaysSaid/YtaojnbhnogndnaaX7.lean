/- Contract of package net's Send. -/
import Derived.Test.YtaojnbhnogndnaaX6
namespace Go.Proofs.Ytaojnbhnogndnaa.SL
open Go.RowKit Go.Proofs.YtaojnbhnogndnaaW.PrintWords Go.Proofs.YtaojnbhnogndnaaW.PrintLast Go.Proofs.YtaojnbhnogndnaaW.PrintMore
attribute [local go_sem] max2_int min2_int max_two min_two
attribute [local go_sem high] Small.cell_set_same
set_option linter.unusedVariables false
set_option linter.unusedSimpArgs false

/-- A frame of a row that is read. -/
theorem fr_at {w : World} {A : Option Addr} {n : Nat} {fs : List (List Int)} (hr : (Kd.slice 5 kB).C w A n fs) (i : Nat) (hi : i < n) :
    ∃ ad B c, A = some ad ∧ w.cell? (ad.add i) = some (.slice B (fs.getD i []).length c) ∧ (fs.getD i []).length ≤ c ∧ kB.C w B (fs.getD i []).length (fs.getD i []) := by
  obtain ⟨ad, c, e, _, hK, hc⟩ := Kd.C_get hr [] (i : Int) (by omega) (by omega)
  simp only [Int.toNat_natCast] at hK hc
  obtain ⟨B, c, rfl, h1, h2⟩ := hK
  refine ⟨ad, B, c, e, ?_, h1, h2⟩
  have := hc 0 _ rfl
  have h1 : (Kd.slice 5 kB).sz = 1 := rfl
  rw [h1, Nat.mul_one, Nat.add_zero] at this
  exact this

theorem takeSnoc {α β : Type} (f : α → β) {xs : List α} (z : α) {i : Nat} (hi : i < xs.length) : (xs.take (i + 1)).map f = (xs.take i).map f ++ [f (xs.getD i z)] := by
  rw [List.take_add_one, List.getElem?_eq_getElem hi, List.getD_eq_getElem?_getD, List.getElem?_eq_getElem hi, List.map_append]
  rfl

/-! ### Send: function 25 -/
set_option maxHeartbeats 1000000 in
set_option maxRecDepth 100000 in
theorem Send_calls {w0 w : World} {L : List Asrt} (g : Nat) (ps : List (Int × List Int)) (to_ : Int) (A : Option Addr) (c : Nat) (fs : List (List Int)) (hm : ps.length ≤ 256) (hc : fs.length ≤ c) (hb : ∀ x ∈ fs, x.length ≤ 140737488355328)
    (hr : ∀ w', Sat w0 w' L → (Kd.slice 5 kB).C w' A fs.length fs) (HS : Sat w0 w (bag g ps :: L)) :
    Calls Try.prog 25 #[.pointer (some ⟨g, 0, none⟩), .int .i64 to_, .slice A fs.length c] w fun e w' => e = .returned (.int .i64 ((fs.length - min fs.length (256 - ps.length) : Nat) : Int)) ∧ Sat w0 w' (bag g (ps ++ (fs.take (256 - ps.length)).map fun f => (to_, f)) :: L) := by
  have hu52 := Try.underlying52
  obtain ⟨v, HS1⟩ := HS.bagE
  obtain ⟨A1, c1, rfl⟩ := HS1.rowsShape 1 rfl
  have c0 := HS1.cell 0 0 rfl rfl
  obtain ⟨n, hn⟩ : ∃ n, n = ps.length := ⟨_, rfl⟩
  rw [← hn] at c0 hm ⊢
  obtain ⟨m, hm2⟩ : ∃ m, m = min fs.length (256 - n) := ⟨_, rfl⟩
  rw [← hm2]
  have htk : fs.take (256 - n) = fs.take m := by
    rcases Nat.le_total fs.length (256 - n) with h | h
    · rw [List.take_of_length_le h, List.take_of_length_le (by omega)]
    · rw [hm2, Nat.min_eq_right h]
  rw [htk]
  have hmn : (if 256 - (n : Int) < (fs.length : Int) then 256 - (n : Int) else (fs.length : Int)) = (m : Int) := by
    rw [hm2]; split <;> omega
  have hmf : m ≤ fs.length := by omega
  have hmc : m ≤ c := by omega
  have hmn2 : n + m ≤ 256 := by omega
  have hsub : (fs.length : Int) - (m : Int) = ((fs.length - m : Nat) : Int) := by omega
  have HN := Aside0.mk hn
  have HM := Aside0.mk hm2
  have HB := Aside0.mk hb
  have HRR := Aside0.mk hr
  clear hn hm2 htk hb hr HS1
  go_enter Try.func25, Try.ntmps25
  go_wp2
  go_loopw [23] (fun v23 wr => ∃ i : Nat, v23 = .int .i64 i ∧ i ≤ m ∧ Sat w0 wr (bag g (ps ++ (fs.take i).map fun f => (to_, f)) :: L)) (fun i _ => m - (intOf i).toNat)
  case atStart => exact ⟨0, rfl, Nat.zero_le _, by simpa using HS⟩
  case round =>
    obtain ⟨i, rfl, hi, HS2⟩ := hrel
    clear HS c0
    by_cases hlt : i < m
    · have hlt2 : (i : Int) < (m : Int) := by omega
      obtain ⟨v, HS3⟩ := HS2.bagE
      clear HS2
      obtain ⟨A2, c2, rfl⟩ := HS3.rowsShape 1 rfl
      obtain ⟨ad, B, cb, rfl, k0, hcb, hrb⟩ := fr_at (HRR.out _ HS3.tail.tail) i (by omega)
      have hx1 := HB.out (fs.getD i []) (by rw [List.getD_eq_getElem?_getD, List.getElem?_eq_getElem (by omega)]; exact List.getElem_mem _)
      have hx2 : ps ++ (fs.take (i + 1)).map (fun f => (to_, f)) = (ps ++ (fs.take i).map (fun f => (to_, f))) ++ [(to_, fs.getD i [])] := by
        rw [takeSnoc _ [] (by omega), List.append_assoc]
      obtain ⟨x, hx⟩ : ∃ x, x = fs.getD i [] := ⟨_, rfl⟩
      rw [← hx] at k0 hcb hrb hx1 hx2
      obtain ⟨qs, hqs⟩ : ∃ qs, qs = ps ++ (fs.take i).map (fun f => (to_, f)) := ⟨_, rfl⟩
      rw [← hqs] at HS3 hx2
      obtain ⟨q, hq⟩ : ∃ q, q = qs.length := ⟨_, rfl⟩
      have hq2 : q + 1 ≤ 256 := by rw [hq, hqs, List.length_append, List.length_map, List.length_take]; have := HN.out; omega
      rw [← hq] at HS3
      have c0 := HS3.cell 0 0 rfl rfl
      have HQ := Aside0.mk hq
      have HQ2 := Aside0.mk hq2
      have HX2 := Aside0.mk hx2
      have HX1 := Aside0.mk hx1
      have HRB := Aside0.mk hrb
      clear hq hq2 hx2 hx1 hrb hqs hx hcb
      go_wp2
      refine region (frees [0, 1, 5, 6, 2, 3, 7] (helds [4] (.one 8 (.one 9 (.last 10 (frees [11, 12] (.last 13 .done))))))) (fun w' => w'.cell? ⟨g, 0, none⟩ = some (.slice A2 q c2) ∧ True) [10, 13] (by kernel_rfl) (by kernel_rfl) ?_
      have HS4 := HS3.drew
      have HRB2 := Aside0.mk (Kd.C_below HRB.out (below_drew (Below.refl _ wr)))
      have c1 : wr.drew.cell? ⟨g, 0, none⟩ = some (.slice A2 q c2) := c0
      clear HS3 HRB c0 k0
      generalize wr.drew = w1 at HS4 HRB2 c1 ⊢
      repeat (first | (refine st_free (v := ?_) (a' := ?_) (by simp only [List.getElem?_toArray, List.getElem?_cons_succ, List.getElem?_cons_zero]; rfl) (by rfl) ?_ ?_ ?_; rotate_left 2; (intro w'; go_simp; with_reducible rfl); (simp only [Act.put, List.setIfInBounds_toArray, List.set_cons_zero, List.set_cons_succ]; rfl)) | (refine st_held (v := ?_) (a' := ?_) ⟨c1, trivial⟩ (by simp only [List.getElem?_toArray, List.getElem?_cons_succ, List.getElem?_cons_zero]; rfl) (by rfl) ?_ ?_ ?_; rotate_left 2; (rintro w' ⟨s0, s1⟩; go_simp; with_reducible rfl); (simp only [Act.put, List.setIfInBounds_toArray, List.set_cons_zero, List.set_cons_succ]; rfl)))
      refine st_one (by simp only [List.getElem?_toArray, List.getElem?_cons_succ, List.getElem?_cons_zero]; rfl) ?_
      refine goesL_ (some 35) rfl rfl Try.func50 (by kernel_rfl) rfl #[.agg #[.int .i64 to_, .slice B x.length cb]] rfl (by go_simp) ?_
      refine (own_calls to_ B cb x w1 HRB2.out HX1.out).mono ?_
      rintro e w2 ⟨v, rfl, hR, hbw⟩
      have HS5 := HS4.newRow hbw hR (Nat.le_refl _)
      obtain ⟨C, cc, rfl⟩ := HS5.rowShape 0 rfl
      refine ⟨_, rfl, ?_⟩
      have c2' := (hbw.cell (World.block_lt_of_cell? _ _ c1)).trans c1
      clear HS4 c1 hR hbw HRB2
      refine ⟨⟨c2', trivial⟩, ?_⟩
      refine st_norm (a' := ?_) ?_ ?_; rotate_left; (simp only [Act.put, List.setIfInBounds_toArray, List.set_cons_zero, List.set_cons_succ]; rfl)
      refine st_one (by simp only [List.getElem?_toArray, List.getElem?_cons_succ, List.getElem?_cons_zero]; rfl) ?_
      refine Kd.event_run (v := .slice (some ⟨w2.heap.size, 0, none⟩) 1 1) (w1 := w2.alloc (.cells #[.int .i64 to_, .slice C x.length cc] 52)) rfl (by go_simp) ?_
      have hbn : Below w2.heap.size w2 (w2.alloc (.cells #[.int .i64 to_, .slice C x.length cc] 52)) := below_alloc (Below.refl _ _) _
      have c3 := (hbn.cell (World.block_lt_of_cell? _ _ c2')).trans c2'
      clear c2' hbn
      refine ⟨⟨c3, trivial⟩, ?_⟩
      refine st_norm (a' := ?_) ?_ ?_; rotate_left; (simp only [Act.put, List.setIfInBounds_toArray, List.set_cons_zero, List.set_cons_succ]; rfl)
      refine st_last (by simp only [List.getElem?_toArray, List.getElem?_cons_succ, List.getElem?_cons_zero]; rfl) ?_
      have HS6 := (HS5.pick 2 rfl).swap.rowElem (to_, x)
      refine app1 kPk rfl (.tmp 31) (.tmp 36) 61 52 (.agg #[.int .i64 0, .slice none 0 0]) 32 rfl Try.underlying61 inf52 rfl (by decide) (by decide) _ qs (to_, x) _ (elem kPk (to_, x) [.int .i64 to_, .slice C x.length cc]) rfl rfl HS6 (fun S hP => hP.1) (by have := HQ.out; have := HQ2.out; omega) ?_
      intro v w3 HS7
      obtain ⟨D, cd, rfl⟩ := HS7.rowsShape 0 rfl
      clear HS5 HS6 c3
      refine st_norm (a' := ?_) ?_ ?_; rotate_left; (simp only [Act.put, List.setIfInBounds_toArray, List.set_cons_zero, List.set_cons_succ]; rfl)
      repeat (refine st_free (v := ?_) (a' := ?_) (by simp only [List.getElem?_toArray, List.getElem?_cons_succ, List.getElem?_cons_zero]; rfl) (by rfl) ?_ ?_ ?_; rotate_left 2; (intro w'; go_simp; with_reducible rfl); (simp only [Act.put, List.setIfInBounds_toArray, List.set_cons_zero, List.set_cons_succ]; rfl))
      have c3 := HS7.cell 1 0 rfl rfl
      have f3 := HS7.frozen 1 0 rfl
      refine st_last (by simp only [List.getElem?_toArray, List.getElem?_cons_succ, List.getElem?_cons_zero]; rfl) ?_
      refine store_event (t := 61) (p := 39) (v := .tmp 37) (w1 := w3.setCell ⟨g, 0, none⟩ (.slice D (qs ++ [(to_, x)]).length cd)) rfl rfl rfl (by go_simp) ?_
      rintro _ rfl
      have HS8 := HS7.setAt 1 0 (.slice D (qs ++ [(to_, x)]).length cd) rfl
      clear HS7 c3 f3
      refine st_norm rfl ?_
      refine st_done ?_
      have HS9 := HS8.swap.bagI
      generalize w3.setCell _ _ = w4 at HS9 ⊢
      clear HS8
      go_wp2
      exact ⟨⟨i + 1, by rw [Int.natCast_add]; rfl, by omega, by rw [HX2.out]; exact HS9⟩, by simp [intOf]; omega⟩
    · obtain rfl : i = m := by omega
      go_wp2
      go_ret
      have hw : wrap64 ((fs.length - i : Nat) : Int) = ((fs.length - i : Nat) : Int) := (by unfold wrap64; have h1 : fs.length ≤ 9223372036854775807 := (HRR.out _ HS2.tail).2.1; omega)
      rw [hw]
      exact ⟨rfl, HS2⟩
end Go.Proofs.Ytaojnbhnogndnaa.SL
