/- Contract of package net's Clone. -/
import Derived.Test.YtaojnbhnogndnaaX12
namespace Go.Proofs.Ytaojnbhnogndnaa.SL
open Go.RowKit Go.Proofs.YtaojnbhnogndnaaW.PrintWords Go.Proofs.YtaojnbhnogndnaaW.PrintLast Go.Proofs.YtaojnbhnogndnaaW.PrintMore
attribute [local go_sem] max2_int min2_int max_two min_two
attribute [local go_sem high] Small.cell_set_same
set_option linter.unusedVariables false
set_option linter.unusedSimpArgs false

/-! ### Clone (net): function 30 -/
set_option maxHeartbeats 1000000 in
set_option maxRecDepth 100000 in
theorem Clone_calls {w0 w : World} {L : List Asrt} (g : Nat) (ps : List (Int × List Int)) (hm : ps.length ≤ 256) (hb : ∀ x ∈ ps, x.2.length ≤ 140737488355328) (HS : Sat w0 w (bag g ps :: L)) :
    Calls Try.prog 30 #[.pointer (some ⟨g, 0, none⟩)] w fun e w' => ∃ g' : Nat, e = .returned (.pointer (some ⟨g', 0, none⟩)) ∧ Sat w0 w' (bag g' ps :: bag g ps :: L) := by
  have hu52 := Try.underlying52
  obtain ⟨n, hn⟩ : ∃ n, n = ps.length := ⟨_, rfl⟩
  have hn256 : n ≤ 256 := by omega
  have HM := Aside0.mk hm
  have HB := Aside0.mk hb
  have HN := Aside0.mk hn
  clear hm hb hn
  go_enter Try.func30, Try.ntmps30
  go_wp2_with (first | (go_at_call 23; refine (New_calls HS).mono ?_; rintro e w1 ⟨g', rfl, HS1'⟩; have HS1 := HS1'.swap; clear HS HS1'; obtain ⟨v, HS2'⟩ := HS1.bagE; clear HS1; have HS2 := HS2'.pick 2 rfl; clear HS2'; obtain ⟨A, c, rfl⟩ := HS2.rowsShape 2 rfl; have c0 := HS2.cell 1 0 rfl rfl))
  rw [← HN.out] at HS2 ⊢
  go_loopw [12] (fun v12 wr => ∃ i : Nat, v12 = .int .i64 i ∧ i ≤ n ∧ Sat w0 wr (bag g' (ps.take i) :: blk g (.cells #[.slice A n c] 94 (0, 0)) :: rows kPk 52 (.slice A n c) ps :: L)) (fun i _ => n - (intOf i).toNat)
  case atStart => exact ⟨0, rfl, Nat.zero_le _, HS2⟩
  case round =>
    obtain ⟨i, rfl, hi, HS3⟩ := hrel
    clear HS2 c0
    by_cases hlt : i < n
    · have hlt2 : decide ((i : Int) < (n : Int)) = true := decide_eq_true (by omega)
      have hlt3 : decide (i < n) = true := decide_eq_true hlt
      obtain ⟨v2, HS4⟩ := HS3.bagE
      clear HS3
      obtain ⟨A2, c2, rfl⟩ := HS4.rowsShape 1 rfl
      obtain ⟨_, hlc, hr⟩ := HS4.readsRows 3 rfl
      obtain ⟨h, rfl⟩ : ∃ h, A = some ⟨h, 0, none⟩ := by
        obtain ⟨ok, hs⟩ := HS4.rowsAt 3 rfl
        obtain ⟨h, c', he, _⟩ := Kd.S_form hs (by have := HN.out; omega)
        injection he with he
        exact ⟨h, he⟩
      obtain ⟨B, cb, k0, k1, hcb, hrb⟩ := pk_at hr i (by have := HN.out; omega)
      have hx1 := HB.out (ps.getD i (0, [])) (by rw [List.getD_eq_getElem?_getD, List.getElem?_eq_getElem (by have := HN.out; omega)]; exact List.getElem_mem _)
      have hx2 : ps.take (i + 1) = ps.take i ++ [ps.getD i (0, [])] := by
        have := takeSnoc (fun x : Int × List Int => x) (xs := ps) (0, []) (i := i) (by have := HN.out; omega)
        simpa using this
      obtain ⟨x, hx⟩ : ∃ x, x = ps.getD i (0, []) := ⟨_, rfl⟩
      rw [← hx] at k0 k1 hcb hrb hx1 hx2
      obtain ⟨qs, hqs⟩ : ∃ qs, qs = ps.take i := ⟨_, rfl⟩
      rw [← hqs] at HS4 hx2
      obtain ⟨q, hq⟩ : ∃ q, q = qs.length := ⟨_, rfl⟩
      have hq2 : q + 1 ≤ 256 := by rw [hq, hqs, List.length_take]; have := HN.out; have := HM.out; omega
      rw [← hq] at HS4
      have HQ := Aside0.mk hq
      have HQ2 := Aside0.mk hq2
      have HX2 := Aside0.mk hx2
      have HX1 := Aside0.mk hx1
      have HRB := Aside0.mk hrb
      clear hq hq2 hx2 hx1 hrb hqs hx hcb hr hlc
      go_wp2_with (first | ((with_reducible refine gate_dst (N := 5) rfl ?_); refine box_event ?hg1 (N := 5) ?hd1 (cs := #[.int .i64 0, .slice none 0 0]) (t := 52) ?hr1 ?_; (case hd1 => rfl); (case hg1 => rfl); (case hr1 => first | (go_simp; done) | (go_simp; rfl)); intro g5 hg w2 hbox hb; have HS5 := HS4.box hg hbox hb; have HB2 := Aside0.mk hb; have HG := Aside0.mk (Nat.le_of_eq hg.symm); clear HS4 hg hbox hb k0 k1; have d0 := HS5.cell 0 0 rfl rfl; have d1 := HS5.cell 0 1 rfl rfl; have f0 := HS5.frozen 0 0 rfl; have f1 := HS5.frozen 0 1 rfl) | ((with_reducible refine gate_store (t := 52) (p := 5) rfl ?_); refine store_event (t := 52) (p := 5) (v := ?vo2) (w1 := ((w2.setCell ⟨g5, 0, none⟩ (.int .i64 x.1)).setCell ⟨g5, 1, none⟩ (.slice B x.2.length cb))) ?hg2 ?ho2 ?hn2 ?hr2 ?_; (case ho2 => rfl); (case hg2 => rfl); (case hn2 => rfl); (case hr2 => first | (go_simp; done) | (go_simp; rfl)); intro w3 hw; have HS6 := ((HS5.setAt 0 0 (.int .i64 x.1) rfl).setAt 0 1 (.slice B x.2.length cb) rfl); rw [← hw] at HS6; have HB3 := Aside0.mk (show Below wr.heap.size wr w3 from by rw [hw]; exact (HB2.out.setCell HG.out _).setCell HG.out _); clear hw HS5 d0 d1 f0 f1 HB2 HG; have c1 := HS6.cell 1 0 rfl rfl; have d0 := HS6.cell 0 0 rfl rfl; have d1 := HS6.cell 0 1 rfl rfl))
      refine region (frees [0, 1, 2, 3] (helds [4, 5] (.one 6 (.one 7 (.last 8 (frees [9, 10] (.last 11 .done))))))) (fun w' => w'.cell? ⟨g', 0, none⟩ = some (.slice A2 q c2) ∧ w'.cell? ⟨g5, 0, none⟩ = some (.int .i64 x.1) ∧ w'.cell? ⟨g5, 1, none⟩ = some (.slice B x.2.length cb)) [8, 11] (by kernel_rfl) (by kernel_rfl) ?_
      have HS7 := HS6.drew
      have HRB2 := Aside0.mk (Kd.C_below HRB.out (below_drew HB3.out))
      have k1 : w3.drew.cell? ⟨g', 0, none⟩ = some (.slice A2 q c2) := c1
      have k2 : w3.drew.cell? ⟨g5, 0, none⟩ = some (.int .i64 x.1) := d0
      have k3 : w3.drew.cell? ⟨g5, 1, none⟩ = some (.slice B x.2.length cb) := d1
      clear HS6 HRB c1 d0 d1 HB3
      generalize w3.drew = w4 at HS7 HRB2 k1 k2 k3 ⊢
      repeat (first | (refine st_free (v := ?_) (a' := ?_) (by simp only [List.getElem?_toArray, List.getElem?_cons_succ, List.getElem?_cons_zero]; rfl) (by rfl) ?_ ?_ ?_; rotate_left 2; (intro w'; go_simp; with_reducible rfl); (simp only [Act.put, List.setIfInBounds_toArray, List.set_cons_zero, List.set_cons_succ]; rfl)) | (refine st_held (v := ?_) (a' := ?_) ⟨k1, k2, k3⟩ (by simp only [List.getElem?_toArray, List.getElem?_cons_succ, List.getElem?_cons_zero]; rfl) (by rfl) ?_ ?_ ?_; rotate_left 2; (rintro w' ⟨s0, s1, s2⟩; go_simp; with_reducible rfl); (simp only [Act.put, List.setIfInBounds_toArray, List.set_cons_zero, List.set_cons_succ]; rfl)))
      refine st_one (by simp only [List.getElem?_toArray, List.getElem?_cons_succ, List.getElem?_cons_zero]; rfl) ?_
      refine goesL_ (some 22) rfl rfl Try.func50 (by kernel_rfl) rfl #[.agg #[.int .i64 x.1, .slice B x.2.length cb]] rfl (by go_simp) ?_
      refine (own_calls x.1 B cb x.2 w4 HRB2.out HX1.out).mono ?_
      rintro e w5 ⟨v, rfl, hR, hbw⟩
      have HS8 := HS7.newRow hbw hR (Nat.le_refl _)
      obtain ⟨C, cc, rfl⟩ := HS8.rowShape 0 rfl
      refine ⟨_, rfl, ?_⟩
      have c2' := (hbw.cell (World.block_lt_of_cell? _ _ k1)).trans k1
      have k4 := (hbw.cell (World.block_lt_of_cell? _ _ k2)).trans k2
      have k5 := (hbw.cell (World.block_lt_of_cell? _ _ k3)).trans k3
      clear HS7 k1 k2 k3 hR hbw HRB2
      refine ⟨⟨c2', k4, k5⟩, ?_⟩
      refine st_norm (a' := ?_) ?_ ?_; rotate_left; (simp only [Act.put, List.setIfInBounds_toArray, List.set_cons_zero, List.set_cons_succ]; rfl)
      refine st_one (by simp only [List.getElem?_toArray, List.getElem?_cons_succ, List.getElem?_cons_zero]; rfl) ?_
      refine Kd.event_run (v := .slice (some ⟨w5.heap.size, 0, none⟩) 1 1) (w1 := w5.alloc (.cells #[.int .i64 x.1, .slice C x.2.length cc] 52)) rfl (by go_simp) ?_
      have hbn : Below w5.heap.size w5 (w5.alloc (.cells #[.int .i64 x.1, .slice C x.2.length cc] 52)) := below_alloc (Below.refl _ _) _
      have c3 := (hbn.cell (World.block_lt_of_cell? _ _ c2')).trans c2'
      have k6 := (hbn.cell (World.block_lt_of_cell? _ _ k4)).trans k4
      have k7 := (hbn.cell (World.block_lt_of_cell? _ _ k5)).trans k5
      clear c2' k4 k5 hbn
      refine ⟨⟨c3, k6, k7⟩, ?_⟩
      refine st_norm (a' := ?_) ?_ ?_; rotate_left; (simp only [Act.put, List.setIfInBounds_toArray, List.set_cons_zero, List.set_cons_succ]; rfl)
      refine st_last (by simp only [List.getElem?_toArray, List.getElem?_cons_succ, List.getElem?_cons_zero]; rfl) ?_
      have HS9 := (HS8.pick 3 rfl).swap.rowElem x
      refine app1 kPk rfl (.tmp 20) (.tmp 23) 61 52 (.agg #[.int .i64 0, .slice none 0 0]) 32 rfl Try.underlying61 inf52 rfl (by decide) (by decide) _ qs x _ (elem kPk x [.int .i64 x.1, .slice C x.2.length cc]) rfl rfl HS9 (fun S hP => hP.1) (by have := HQ.out; have := HQ2.out; omega) ?_
      intro v w6 HS10
      obtain ⟨D, cd, rfl⟩ := HS10.rowsShape 0 rfl
      clear HS8 HS9 c3 k6 k7
      refine st_norm (a' := ?_) ?_ ?_; rotate_left; (simp only [Act.put, List.setIfInBounds_toArray, List.set_cons_zero, List.set_cons_succ]; rfl)
      repeat (refine st_free (v := ?_) (a' := ?_) (by simp only [List.getElem?_toArray, List.getElem?_cons_succ, List.getElem?_cons_zero]; rfl) (by rfl) ?_ ?_ ?_; rotate_left 2; (intro w'; go_simp; with_reducible rfl); (simp only [Act.put, List.setIfInBounds_toArray, List.set_cons_zero, List.set_cons_succ]; rfl))
      have c3 := HS10.cell 2 0 rfl rfl
      have f3 := HS10.frozen 2 0 rfl
      refine st_last (by simp only [List.getElem?_toArray, List.getElem?_cons_succ, List.getElem?_cons_zero]; rfl) ?_
      refine store_event (t := 61) (p := 26) (v := .tmp 24) (w1 := w6.setCell ⟨g', 0, none⟩ (.slice D (qs ++ [x]).length cd)) rfl rfl rfl (by go_simp) ?_
      rintro _ rfl
      have HS11 := HS10.setAt 2 0 (.slice D (qs ++ [x]).length cd) rfl
      clear HS10 c3 f3
      refine st_norm rfl ?_
      refine st_done ?_
      have HS12 := ((HS11.pick 2 rfl).dropAt 2).bagI
      generalize w6.setCell _ _ = w7 at HS12 ⊢
      clear HS11
      go_wp2
      exact ⟨⟨i + 1, by rw [Int.natCast_add]; rfl, by omega, by rw [HX2.out]; exact HS12⟩, by simp [intOf]; omega⟩
    · obtain rfl : i = n := by omega
      have hd : decide ((i : Int) < (i : Int)) = false := decide_eq_false (by omega)
      have ht : ps.take i = ps := by rw [HN.out, List.take_length]
      rw [ht] at HS3
      go_wp2
      go_ret
      exact ⟨g', rfl, (HS3.swap.pick 2 rfl).swap.bagI.swap⟩

end Go.Proofs.Ytaojnbhnogndnaa.SL
