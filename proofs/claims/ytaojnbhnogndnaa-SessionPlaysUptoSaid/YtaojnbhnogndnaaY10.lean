/- Package session's Add: an argument that is none. -/
import Derived.Test.YtaojnbhnogndnaaY9
namespace Go.Proofs.Ytaojnbhnogndnaa.SL
open Go.RowKit Go.Proofs.YtaojnbhnogndnaaW.PrintWords Go.Proofs.YtaojnbhnogndnaaW.PrintLast Go.Proofs.YtaojnbhnogndnaaW.PrintMore
attribute [local go_sem] max2_int min2_int max_two min_two
attribute [local go_sem high] Small.cell_set_same
set_option linter.unusedVariables false
set_option linter.unusedSimpArgs false

def zeroMsg : Ending := .returned (.tuple #[.agg #[.int .i64 0, .int .i64 0, .int .i64 0, .slice none 0 0], .bool false])
def AddPost (σ : List GS) (kd nd nc ix ct : Int) (bs : List Int) (w0 : World) (g b : Nat) (L : List Asrt) (e : Ending) (w : World) : Prop :=
  ∃ σ' : List GS, er σ' = (addE (er σ) kd nd nc ix ct bs).1 ∧
    ((∃ ms v, (addE (er σ) kd nd nc ix ct bs).2 = some ms ∧ e = .returned (.tuple #[.agg #[.int .i64 kd, .int .i64 nd, .int .i64 nc, v], .bool true]) ∧ Sat w0 w (row kB 5 v ms :: (inbox g b σ' ++ L))) ∨
      ((addE (er σ) kd nd nc ix ct bs).2 = none ∧ e = zeroMsg ∧ Sat w0 w (inbox g b σ' ++ L)))
/-! ### Add (session): function 19, an argument that is none -/
set_option maxHeartbeats 1000000 in
set_option maxRecDepth 100000 in
theorem sAdd_bad {w0 w : World} {L : List Asrt} (g b : Nat) (σ : List GS) (kd nd nc ix ct : Int) (A : Option Addr) (m c : Nat) (bs : List Int) (hbad : okArg ix ct = false) (HS : Sat w0 w (inbox g b σ ++ L)) :
    Calls Try.prog 19 #[.pointer (some ⟨g, 0, none⟩), .agg #[.int .i64 kd, .int .i64 nd, .int .i64 nc, .int .i64 ix, .int .i64 ct, .slice A m c]] w (AddPost σ kd nd nc ix ct bs w0 g b L) := by
  have hu24 := Try.underlying24
  have hu35 := Try.underlying35
  have HA := Aside0.mk (show addE (er σ) kd nd nc ix ct bs = (er σ, none) from by unfold addE; rw [if_neg (by rw [hbad]; exact Bool.false_ne_true)])
  have hor : ct < 1 ∨ 86 < ct ∨ ix < 0 ∨ ct ≤ ix := by
    unfold okArg at hbad
    simp only [Bool.and_eq_false_iff, decide_eq_false_iff_not] at hbad
    omega
  clear hbad
  by_cases c0 : ct < 1
  · have h1d : decide (ct < 1) = true := decide_eq_true (by omega)
    clear hor c0
    go_enter Try.func19, Try.ntmps19
    go_wp2_with (first | ((with_reducible refine gate_dst (N := 3) rfl ?_); refine box_event ?hg1 (N := 3) ?hd1 (cs := #[.int .i64 kd, .int .i64 nd, .int .i64 nc, .int .i64 ix, .int .i64 ct, .slice A m c]) (t := 35) ?hr1 ?_; (case hd1 => rfl); (case hg1 => rfl); (case hr1 => first | (go_simp; done) | (go_simp; rfl)); intro g3 hg w1 hbox hb; have HS1 := HS.box hg hbox hb; clear HS hg hbox hb; have d3 := HS1.cell 0 3 rfl rfl; have d4 := HS1.cell 0 4 rfl rfl) | ((with_reducible refine gate_dst (N := 4) rfl ?_); refine box_event ?hg2 (N := 4) ?hd2 (cs := #[.int .i64 0, .int .i64 0, .int .i64 0, .slice none 0 0]) (t := 24) ?hr2 ?_; (case hd2 => rfl); (case hg2 => rfl); (case hr2 => first | (go_simp; done) | (go_simp; rfl)); intro g4 hg w2 hbox hb; have HS2 := HS1.box hg hbox hb; clear HS1 hg hbox hb d3 d4; have d3 := HS2.cell 1 3 rfl rfl; have d4 := HS2.cell 1 4 rfl rfl; have z0 := HS2.cell 0 0 rfl rfl; have z1 := HS2.cell 0 1 rfl rfl; have z2 := HS2.cell 0 2 rfl rfl; have z3 := HS2.cell 0 3 rfl rfl; have q0 := HS2.frozen 0 0 rfl; have q1 := HS2.frozen 0 1 rfl; have q2 := HS2.frozen 0 2 rfl; have q3 := HS2.frozen 0 3 rfl) | ((with_reducible refine gate_store (t := 24) (p := 4) rfl ?_); refine store_event (t := 24) (p := 4) (v := ?vo3) (w1 := ((((w2.setCell ⟨g4, 0, none⟩ (.int .i64 0)).setCell ⟨g4, 1, none⟩ (.int .i64 0)).setCell ⟨g4, 2, none⟩ (.int .i64 0)).setCell ⟨g4, 3, none⟩ (.slice none 0 0))) ?hg3 ?ho3 ?hn3 ?hr3 ?_; (case ho3 => rfl); (case hg3 => rfl); (case hn3 => rfl); (case hr3 => first | (go_simp; done) | (go_simp; rfl)); intro w3 hw; have HS3 := ((((HS2.setAt 0 0 (.int .i64 0) rfl).setAt 0 1 (.int .i64 0) rfl).setAt 0 2 (.int .i64 0) rfl).setAt 0 3 (.slice none 0 0) rfl); rw [← hw] at HS3; clear hw HS2 d3 d4 z0 z1 z2 z3 q0 q1 q2 q3))
    refine bodyPost_ret (results_ct rfl _ _ g4 24 #[.int .i64 0, .int .i64 0, .int .i64 0, .slice none 0 0] (0, 0) _ rfl (HS3.block 0 rfl).1 hu24 rfl rfl) rfl ⟨σ, by rw [HA.out], .inr ⟨by rw [HA.out], rfl, HS3.tail.tail⟩⟩
  · by_cases c1 : 86 < ct
    · have h1d : decide (ct < 1) = false := decide_eq_false (by omega)
      have h2d : decide (86 < ct) = true := decide_eq_true (by omega)
      clear hor c0 c1
      go_enter Try.func19, Try.ntmps19
      go_wp2_with (first | ((with_reducible refine gate_dst (N := 3) rfl ?_); refine box_event ?hg1 (N := 3) ?hd1 (cs := #[.int .i64 kd, .int .i64 nd, .int .i64 nc, .int .i64 ix, .int .i64 ct, .slice A m c]) (t := 35) ?hr1 ?_; (case hd1 => rfl); (case hg1 => rfl); (case hr1 => first | (go_simp; done) | (go_simp; rfl)); intro g3 hg w1 hbox hb; have HS1 := HS.box hg hbox hb; clear HS hg hbox hb; have d3 := HS1.cell 0 3 rfl rfl; have d4 := HS1.cell 0 4 rfl rfl) | ((with_reducible refine gate_dst (N := 4) rfl ?_); refine box_event ?hg2 (N := 4) ?hd2 (cs := #[.int .i64 0, .int .i64 0, .int .i64 0, .slice none 0 0]) (t := 24) ?hr2 ?_; (case hd2 => rfl); (case hg2 => rfl); (case hr2 => first | (go_simp; done) | (go_simp; rfl)); intro g4 hg w2 hbox hb; have HS2 := HS1.box hg hbox hb; clear HS1 hg hbox hb d3 d4; have d3 := HS2.cell 1 3 rfl rfl; have d4 := HS2.cell 1 4 rfl rfl; have z0 := HS2.cell 0 0 rfl rfl; have z1 := HS2.cell 0 1 rfl rfl; have z2 := HS2.cell 0 2 rfl rfl; have z3 := HS2.cell 0 3 rfl rfl; have q0 := HS2.frozen 0 0 rfl; have q1 := HS2.frozen 0 1 rfl; have q2 := HS2.frozen 0 2 rfl; have q3 := HS2.frozen 0 3 rfl) | ((with_reducible refine gate_store (t := 24) (p := 4) rfl ?_); refine store_event (t := 24) (p := 4) (v := ?vo3) (w1 := ((((w2.setCell ⟨g4, 0, none⟩ (.int .i64 0)).setCell ⟨g4, 1, none⟩ (.int .i64 0)).setCell ⟨g4, 2, none⟩ (.int .i64 0)).setCell ⟨g4, 3, none⟩ (.slice none 0 0))) ?hg3 ?ho3 ?hn3 ?hr3 ?_; (case ho3 => rfl); (case hg3 => rfl); (case hn3 => rfl); (case hr3 => first | (go_simp; done) | (go_simp; rfl)); intro w3 hw; have HS3 := ((((HS2.setAt 0 0 (.int .i64 0) rfl).setAt 0 1 (.int .i64 0) rfl).setAt 0 2 (.int .i64 0) rfl).setAt 0 3 (.slice none 0 0) rfl); rw [← hw] at HS3; clear hw HS2 d3 d4 z0 z1 z2 z3 q0 q1 q2 q3))
      refine bodyPost_ret (results_ct rfl _ _ g4 24 #[.int .i64 0, .int .i64 0, .int .i64 0, .slice none 0 0] (0, 0) _ rfl (HS3.block 0 rfl).1 hu24 rfl rfl) rfl ⟨σ, by rw [HA.out], .inr ⟨by rw [HA.out], rfl, HS3.tail.tail⟩⟩
    · by_cases c2 : ix < 0
      · have h1d : decide (ct < 1) = false := decide_eq_false (by omega)
        have h2d : decide (86 < ct) = false := decide_eq_false (by omega)
        have h3d : decide (ix < 0) = true := decide_eq_true (by omega)
        clear hor c0 c1 c2
        go_enter Try.func19, Try.ntmps19
        go_wp2_with (first | ((with_reducible refine gate_dst (N := 3) rfl ?_); refine box_event ?hg1 (N := 3) ?hd1 (cs := #[.int .i64 kd, .int .i64 nd, .int .i64 nc, .int .i64 ix, .int .i64 ct, .slice A m c]) (t := 35) ?hr1 ?_; (case hd1 => rfl); (case hg1 => rfl); (case hr1 => first | (go_simp; done) | (go_simp; rfl)); intro g3 hg w1 hbox hb; have HS1 := HS.box hg hbox hb; clear HS hg hbox hb; have d3 := HS1.cell 0 3 rfl rfl; have d4 := HS1.cell 0 4 rfl rfl) | ((with_reducible refine gate_dst (N := 4) rfl ?_); refine box_event ?hg2 (N := 4) ?hd2 (cs := #[.int .i64 0, .int .i64 0, .int .i64 0, .slice none 0 0]) (t := 24) ?hr2 ?_; (case hd2 => rfl); (case hg2 => rfl); (case hr2 => first | (go_simp; done) | (go_simp; rfl)); intro g4 hg w2 hbox hb; have HS2 := HS1.box hg hbox hb; clear HS1 hg hbox hb d3 d4; have d3 := HS2.cell 1 3 rfl rfl; have d4 := HS2.cell 1 4 rfl rfl; have z0 := HS2.cell 0 0 rfl rfl; have z1 := HS2.cell 0 1 rfl rfl; have z2 := HS2.cell 0 2 rfl rfl; have z3 := HS2.cell 0 3 rfl rfl; have q0 := HS2.frozen 0 0 rfl; have q1 := HS2.frozen 0 1 rfl; have q2 := HS2.frozen 0 2 rfl; have q3 := HS2.frozen 0 3 rfl) | ((with_reducible refine gate_store (t := 24) (p := 4) rfl ?_); refine store_event (t := 24) (p := 4) (v := ?vo3) (w1 := ((((w2.setCell ⟨g4, 0, none⟩ (.int .i64 0)).setCell ⟨g4, 1, none⟩ (.int .i64 0)).setCell ⟨g4, 2, none⟩ (.int .i64 0)).setCell ⟨g4, 3, none⟩ (.slice none 0 0))) ?hg3 ?ho3 ?hn3 ?hr3 ?_; (case ho3 => rfl); (case hg3 => rfl); (case hn3 => rfl); (case hr3 => first | (go_simp; done) | (go_simp; rfl)); intro w3 hw; have HS3 := ((((HS2.setAt 0 0 (.int .i64 0) rfl).setAt 0 1 (.int .i64 0) rfl).setAt 0 2 (.int .i64 0) rfl).setAt 0 3 (.slice none 0 0) rfl); rw [← hw] at HS3; clear hw HS2 d3 d4 z0 z1 z2 z3 q0 q1 q2 q3))
        refine bodyPost_ret (results_ct rfl _ _ g4 24 #[.int .i64 0, .int .i64 0, .int .i64 0, .slice none 0 0] (0, 0) _ rfl (HS3.block 0 rfl).1 hu24 rfl rfl) rfl ⟨σ, by rw [HA.out], .inr ⟨by rw [HA.out], rfl, HS3.tail.tail⟩⟩
      · have h1d : decide (ct < 1) = false := decide_eq_false (by omega)
        have h2d : decide (86 < ct) = false := decide_eq_false (by omega)
        have h3d : decide (ix < 0) = false := decide_eq_false (by omega)
        have h4d : decide (ct ≤ ix) = true := decide_eq_true (by omega)
        clear hor c0 c1 c2
        go_enter Try.func19, Try.ntmps19
        go_wp2_with (first | ((with_reducible refine gate_dst (N := 3) rfl ?_); refine box_event ?hg1 (N := 3) ?hd1 (cs := #[.int .i64 kd, .int .i64 nd, .int .i64 nc, .int .i64 ix, .int .i64 ct, .slice A m c]) (t := 35) ?hr1 ?_; (case hd1 => rfl); (case hg1 => rfl); (case hr1 => first | (go_simp; done) | (go_simp; rfl)); intro g3 hg w1 hbox hb; have HS1 := HS.box hg hbox hb; clear HS hg hbox hb; have d3 := HS1.cell 0 3 rfl rfl; have d4 := HS1.cell 0 4 rfl rfl) | ((with_reducible refine gate_dst (N := 4) rfl ?_); refine box_event ?hg2 (N := 4) ?hd2 (cs := #[.int .i64 0, .int .i64 0, .int .i64 0, .slice none 0 0]) (t := 24) ?hr2 ?_; (case hd2 => rfl); (case hg2 => rfl); (case hr2 => first | (go_simp; done) | (go_simp; rfl)); intro g4 hg w2 hbox hb; have HS2 := HS1.box hg hbox hb; clear HS1 hg hbox hb d3 d4; have d3 := HS2.cell 1 3 rfl rfl; have d4 := HS2.cell 1 4 rfl rfl; have z0 := HS2.cell 0 0 rfl rfl; have z1 := HS2.cell 0 1 rfl rfl; have z2 := HS2.cell 0 2 rfl rfl; have z3 := HS2.cell 0 3 rfl rfl; have q0 := HS2.frozen 0 0 rfl; have q1 := HS2.frozen 0 1 rfl; have q2 := HS2.frozen 0 2 rfl; have q3 := HS2.frozen 0 3 rfl) | ((with_reducible refine gate_store (t := 24) (p := 4) rfl ?_); refine store_event (t := 24) (p := 4) (v := ?vo3) (w1 := ((((w2.setCell ⟨g4, 0, none⟩ (.int .i64 0)).setCell ⟨g4, 1, none⟩ (.int .i64 0)).setCell ⟨g4, 2, none⟩ (.int .i64 0)).setCell ⟨g4, 3, none⟩ (.slice none 0 0))) ?hg3 ?ho3 ?hn3 ?hr3 ?_; (case ho3 => rfl); (case hg3 => rfl); (case hn3 => rfl); (case hr3 => first | (go_simp; done) | (go_simp; rfl)); intro w3 hw; have HS3 := ((((HS2.setAt 0 0 (.int .i64 0) rfl).setAt 0 1 (.int .i64 0) rfl).setAt 0 2 (.int .i64 0) rfl).setAt 0 3 (.slice none 0 0) rfl); rw [← hw] at HS3; clear hw HS2 d3 d4 z0 z1 z2 z3 q0 q1 q2 q3))
        refine bodyPost_ret (results_ct rfl _ _ g4 24 #[.int .i64 0, .int .i64 0, .int .i64 0, .slice none 0 0] (0, 0) _ rfl (HS3.block 0 rfl).1 hu24 rfl rfl) rfl ⟨σ, by rw [HA.out], .inr ⟨by rw [HA.out], rfl, HS3.tail.tail⟩⟩

end Go.Proofs.Ytaojnbhnogndnaa.SL
