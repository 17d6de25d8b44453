/- Contracts of package net's methods on a bag (New, Len, Deliver, Drop). -/
import Derived.Test.YtaojnbhnogndnaaX4
namespace Go.Proofs.Ytaojnbhnogndnaa.SL
open Go.RowKit Go.Proofs.YtaojnbhnogndnaaW.PrintWords Go.Proofs.YtaojnbhnogndnaaW.PrintLast Go.Proofs.YtaojnbhnogndnaaW.PrintMore
attribute [local go_sem] max2_int min2_int max_two min_two
attribute [local go_sem high] Small.cell_set_same
set_option linter.unusedVariables false
set_option linter.unusedSimpArgs false

theorem Sat.elemRow {w0 w : World} {L : List Asrt} {x : Int × List Int} {cs : List Value} (h : Sat w0 w (elem kPk x cs :: L)) : ∃ v, cs = [.int .i64 x.1, v] ∧ Sat w0 w (row kB 5 v x.2 :: L) := by
  obtain ⟨S, hP, hS, f⟩ := h.open1
  obtain ⟨v, rfl, hR⟩ := kPk_M hP.1
  refine ⟨v, rfl, f w _ S (fun k hk => .inl hk) (Touch.refl _ _) ⟨hR, hP.2⟩⟩

/-! ### New: function 23 -/
theorem New_calls {w0 w : World} {L : List Asrt} (HS : Sat w0 w L) : Calls Try.prog 23 #[] w fun e w' => ∃ g : Nat, e = .returned (.pointer (some ⟨g, 0, none⟩)) ∧ Sat w0 w' (bag g [] :: L) := by
  have hu94 := Try.underlying94
  go_enter Try.func23, Try.ntmps23
  go_wp2_with ((with_reducible refine gate_dst (N := 2) rfl ?_); refine box_event ?hg (N := 2) ?hd (cs := #[.slice none 0 0]) (t := 94) ?hr ?_; (case hd => rfl); (case hg => rfl); (case hr => first | (go_simp; done) | (go_simp; rfl)); intro g hg w1 hbox hb; have HS1 := (HS.nilRows kPk 52).box hg hbox hb; clear HS hg hbox hb)
  go_ret
  exact ⟨g, rfl, HS1.bagI⟩

/-! ### Len: function 29 -/
theorem Len_calls {w0 w : World} {L : List Asrt} (g : Nat) (ps : List (Int × List Int)) (HS : Sat w0 w (bag g ps :: L)) : Calls Try.prog 29 #[.pointer (some ⟨g, 0, none⟩)] w fun e w' => e = .returned (.int .i64 ps.length) ∧ Sat w0 w' (bag g ps :: L) := by
  obtain ⟨v, HS1⟩ := HS.bagE
  obtain ⟨A, c, rfl⟩ := HS1.rowsShape 1 rfl
  have c0 := HS1.cell 0 0 rfl rfl
  go_enter Try.func29, Try.ntmps29
  go_wp2
  go_ret
  exact ⟨rfl, HS⟩

/-! ### Deliver: function 26 -/
set_option maxRecDepth 100000 in
theorem Deliver_no {w0 w : World} {L : List Asrt} (g : Nat) (ps : List (Int × List Int)) (i : Int) (hi : i < 0 ∨ (ps.length : Int) ≤ i) (HS : Sat w0 w (bag g ps :: L)) :
    Calls Try.prog 26 #[.pointer (some ⟨g, 0, none⟩), .int .i64 i] w fun e w' => e = .returned (.tuple #[.agg #[.int .i64 0, .slice none 0 0], .int .i64 1]) ∧ Sat w0 w' (bag g ps :: L) := by
  have hu52 := Try.underlying52
  obtain ⟨v, HS1⟩ := HS.bagE
  clear HS
  obtain ⟨A, c, rfl⟩ := HS1.rowsShape 1 rfl
  by_cases h0 : i < 0
  · have hd : decide (i < 0) = true := decide_eq_true h0
    go_enter Try.func26, Try.ntmps26
    go_wp2_with ((with_reducible refine gate_dst (N := 4) rfl ?_); refine box_event ?hg (N := 4) ?hd (cs := #[.int .i64 0, .slice none 0 0]) (t := 52) ?hr ?_; (case hd => rfl); (case hg => rfl); (case hr => first | (go_simp; done) | (go_simp; rfl)); intro g1 hg w1 hbox hb; have HS2 := HS1.box hg hbox hb; clear HS1 hg hbox hb; have d0 := HS2.cell 0 0 rfl rfl; have d1 := HS2.cell 0 1 rfl rfl; have f0 := HS2.frozen 0 0 rfl; have f1 := HS2.frozen 0 1 rfl)
    have HS3 := (HS2.setAt 0 0 (.int .i64 0) rfl).setAt 0 1 (.slice none 0 0) rfl
    refine bodyPost_ret (results_ct rfl _ _ g1 52 #[.int .i64 0, .slice none 0 0] (0, 0) _ rfl (HS3.block 0 rfl).1 hu52 rfl rfl) rfl ⟨rfl, HS3.tail.bagI⟩
  · have hd : decide (i < 0) = false := decide_eq_false h0
    have hd2 : decide ((ps.length : Int) ≤ i) = true := decide_eq_true (by omega)
    have c0 := HS1.cell 0 0 rfl rfl
    go_enter Try.func26, Try.ntmps26
    go_wp2_with ((with_reducible refine gate_dst (N := 4) rfl ?_); refine box_event ?hg (N := 4) ?hd (cs := #[.int .i64 0, .slice none 0 0]) (t := 52) ?hr ?_; (case hd => rfl); (case hg => rfl); (case hr => first | (go_simp; done) | (go_simp; rfl)); intro g1 hg w1 hbox hb; have HS2 := HS1.box hg hbox hb; clear HS1 hg hbox hb c0; have c0 := HS2.cell 1 0 rfl rfl; have d0 := HS2.cell 0 0 rfl rfl; have d1 := HS2.cell 0 1 rfl rfl; have f0 := HS2.frozen 0 0 rfl; have f1 := HS2.frozen 0 1 rfl)
    have HS3 := (HS2.setAt 0 0 (.int .i64 0) rfl).setAt 0 1 (.slice none 0 0) rfl
    refine bodyPost_ret (results_ct rfl _ _ g1 52 #[.int .i64 0, .slice none 0 0] (0, 0) _ rfl (HS3.block 0 rfl).1 hu52 rfl rfl) rfl ⟨rfl, HS3.tail.bagI⟩

set_option maxHeartbeats 1000000 in
set_option maxRecDepth 100000 in
theorem Deliver_yes {w0 w : World} {L : List Asrt} (g : Nat) (ps : List (Int × List Int)) (i : Nat) (hi : i < ps.length) (hm : ps.length ≤ 256) (HS : Sat w0 w (bag g ps :: L)) :
    Calls Try.prog 26 #[.pointer (some ⟨g, 0, none⟩), .int .i64 i] w fun e w' => ∃ v, e = .returned (.tuple #[.agg #[.int .i64 (ps.getD i (0, [])).1, v], .int .i64 0]) ∧ Sat w0 w' (row kB 5 v (ps.getD i (0, [])).2 :: bag g (ps.eraseIdx i) :: L) := by
  have hu52 := Try.underlying52
  obtain ⟨v, HS1⟩ := HS.bagE
  clear HS
  obtain ⟨h, c, cs, rfl, hc, _, hcs, hcell, HS2⟩ := HS1.swap.lend i hi (0, [])
  clear HS1
  obtain ⟨x, hx⟩ : ∃ x, x = ps.getD i (0, []) := ⟨_, rfl⟩
  rw [← hx] at HS2 ⊢
  obtain ⟨v, rfl, HS3⟩ := HS2.elemRow
  clear HS2 hcs hx
  obtain ⟨B, cb, rfl⟩ := HS3.rowShape 0 rfl
  have k0 : w.cell? ⟨h, i * 2, none⟩ = some (.int .i64 x.1) := hcell 0 _ rfl
  have k1 : w.cell? ⟨h, i * 2 + 1, none⟩ = some (.slice B x.2.length cb) := hcell 1 _ rfl
  have c0 := HS3.cell 2 0 rfl rfl
  obtain ⟨n, hn⟩ : ∃ n, n = ps.length := ⟨_, rfl⟩
  rw [← hn] at HS3 c0 hc hi hm
  have HN := Aside0.mk hn
  clear hn hcell
  have hd : decide ((i : Int) < 0) = false := decide_eq_false (by omega)
  have hd2 : decide ((n : Int) ≤ (i : Int)) = false := decide_eq_false (by omega)
  have hd3 : decide (n ≤ i) = false := decide_eq_false (by omega)
  go_enter Try.func26, Try.ntmps26
  go_wp2_with (first | ((with_reducible refine gate_dst (N := 4) rfl ?_); refine box_event ?hg (N := 4) ?hd (cs := #[.int .i64 0, .slice none 0 0]) (t := 52) ?hr ?_; (case hd => rfl); (case hg => rfl); (case hr => first | (go_simp; done) | (go_simp; rfl)); intro g1 hg w1 hbox hb; have HS4 := HS3.box hg hbox hb; have k2 := (hb.cell (World.block_lt_of_cell? w _ k0)).trans k0; have k3 := (hb.cell (World.block_lt_of_cell? w _ k1)).trans k1; clear HS3 hg hbox hb c0 k0 k1; have c0 := HS4.cell 3 0 rfl rfl) | ((with_reducible refine gate_dst (N := 6) rfl ?_); refine box_event ?hg2 (N := 6) ?hd2 (cs := #[.int .i64 0, .slice none 0 0]) (t := 52) ?hr2 ?_; (case hd2 => rfl); (case hg2 => rfl); (case hr2 => first | (go_simp; done) | (go_simp; rfl)); intro g2 hg w2 hbox hb; have HS5 := HS4.box hg hbox hb; clear HS4 hg hbox hb c0 k2 k3; have d0 := HS5.cell 0 0 rfl rfl; have d1 := HS5.cell 0 1 rfl rfl; have f0 := HS5.frozen 0 0 rfl; have f1 := HS5.frozen 0 1 rfl) | ((with_reducible refine gate_store (t := 52) (p := 6) rfl ?_); refine store_event (t := 52) (p := 6) (v := ?vo3) (w1 := ((w2.setCell ⟨g2, 0, none⟩ (.int .i64 x.1)).setCell ⟨g2, 1, none⟩ (.slice B x.2.length cb))) ?hg3 ?ho3 ?hn3 ?hr3 ?_; (case ho3 => rfl); (case hg3 => rfl); (case hn3 => rfl); (case hr3 => first | (go_simp; done) | (go_simp; rfl)); intro w3 hw; have HS6 := (HS5.setAt 0 0 (.int .i64 x.1) rfl).setAt 0 1 (.slice B x.2.length cb) rfl; rw [← hw] at HS6; clear hw HS5 d0 d1 f0 f1; have c0 := HS6.cell 4 0 rfl rfl) | (go_at_call 51; refine (Delete_calls h c i n ps _ HN.out hi hc (by omega) (HS6.pick 3 rfl)).mono ?_; rintro e w4 ⟨rfl, HS7⟩; clear HS6 c0; have c0 := HS7.cell 4 0 rfl rfl; have f0 := HS7.frozen 4 0 rfl) | ((with_reducible refine gate_store (t := 61) (p := 36) rfl ?_); refine store_event (t := 61) (p := 36) (v := ?vo4) (w1 := (w4.setCell ⟨g, 0, none⟩ (.slice (some ⟨h, 0, none⟩) (n - 1) c))) ?hg4 ?ho4 ?hn4 ?hr4 ?_; (case ho4 => rfl); (case hg4 => rfl); (case hn4 => rfl); (case hr4 => first | (go_simp; done) | (go_simp; rfl)); intro w5 hw; have HS8 := HS7.setAt 4 0 (.slice (some ⟨h, 0, none⟩) (n - 1) c) rfl; rw [← hw] at HS8; clear hw HS7 c0 f0; have d0 := HS8.cell 1 0 rfl rfl; have d1 := HS8.cell 1 1 rfl rfl; have e0 := HS8.cell 2 0 rfl rfl; have e1 := HS8.cell 2 1 rfl rfl; have f0 := HS8.frozen 2 0 rfl; have f1 := HS8.frozen 2 1 rfl) | ((with_reducible refine gate_store (t := 52) (p := 4) rfl ?_); refine store_event (t := 52) (p := 4) (v := ?vo5) (w1 := ((w5.setCell ⟨g1, 0, none⟩ (.int .i64 x.1)).setCell ⟨g1, 1, none⟩ (.slice B x.2.length cb))) ?hg5 ?ho5 ?hn5 ?hr5 ?_; (case ho5 => rfl); (case hg5 => rfl); (case hn5 => rfl); (case hr5 => first | (go_simp; done) | (go_simp; rfl)); intro w6 hw; have HS9 := (HS8.setAt 2 0 (.int .i64 x.1) rfl).setAt 2 1 (.slice B x.2.length cb) rfl; rw [← hw] at HS9; clear hw HS8 d0 d1 e0 e1 f0 f1))
  refine bodyPost_ret (results_ct rfl _ _ g1 52 #[.int .i64 x.1, .slice B x.2.length cb] (0, 0) _ rfl (HS9.block 2 rfl).1 hu52 rfl rfl) rfl ⟨_, rfl, ?_⟩
  have HA := ((HS9.pick 4 rfl).pick 1 rfl).swap.bagI
  exact ((HA.pick 3 rfl).dropAt 2).dropAt 2
end Go.Proofs.Ytaojnbhnogndnaa.SL
