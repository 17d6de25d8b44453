/- Contract of the document's Same (majordomoref17). -/
import Derived.Test.YtaojnbhnogndnaaY7
namespace Go.Proofs.Ytaojnbhnogndnaa.SL
open Go.RowKit Go.Proofs.YtaojnbhnogndnaaW.PrintWords Go.Proofs.YtaojnbhnogndnaaW.PrintLast Go.Proofs.YtaojnbhnogndnaaW.PrintMore
attribute [local go_sem] max2_int min2_int max_two min_two
attribute [local go_sem high] Small.cell_set_same
set_option linter.unusedVariables false
set_option linter.unusedSimpArgs false

/-! ### Same (majordomoref17): function 20 -/
set_option maxHeartbeats 1000000 in
set_option maxRecDepth 100000 in
theorem same17 {w : World} (k1 n1 t1 : Int) (A1 : Option Addr) (ca : Nat) (xs : List Int) (k2 n2 t2 : Int) (A2 : Option Addr) (cb : Nat) (ys : List Int) (l1 l2 : Nat) (hr1 : kB.C w A1 l1 xs) (hr2 : kB.C w A2 l2 ys) (hx : ∀ x ∈ xs, 0 ≤ x ∧ x < 256) (hy : ∀ x ∈ ys, 0 ≤ x ∧ x < 256) :
    Calls Try.prog 20 #[.agg #[.int .i64 k1, .int .i64 n1, .int .i64 t1, .slice A1 l1 ca], .agg #[.int .i64 k2, .int .i64 n2, .int .i64 t2, .slice A2 l2 cb]] w fun e w' => e = .returned (.bool (decide (k1 = k2 ∧ n1 = n2 ∧ t1 = t2 ∧ xs = ys))) ∧ Sat w w' [] := by
  have hu24 := Try.underlying24
  have HS := Sat.start w
  have HR1 := Aside0.mk hr1
  have HR2 := Aside0.mk hr2
  have HX := Aside0.mk hx
  have HY := Aside0.mk hy
  clear hr1 hr2 hx hy
  by_cases ch1 : k1 = k2
  · by_cases ch2 : n1 = n2
    · by_cases ch3 : t1 = t2
      · by_cases ch4 : xs = ys
        · have HZ := Aside0.mk (show decide (k1 = k2 ∧ n1 = n2 ∧ t1 = t2 ∧ xs = ys) = true from by simp [ch1, ch2, ch3, ch4])
          have h1a : (k1 == k2) = true := by simpa using ch1
          have h1b : (k1 != k2) = false := by simpa using ch1
          have h2a : (n1 == n2) = true := by simpa using ch2
          have h2b : (n1 != n2) = false := by simpa using ch2
          have h3a : (t1 == t2) = true := by simpa using ch3
          have h3b : (t1 != t2) = false := by simpa using ch3
          have h4a : ((strOfNums xs).toList == (strOfNums ys).toList) = true := by rw [str_beq HX.out HY.out]; simp [ch4]
          clear ch1 ch2 ch3 ch4
          go_enter Try.func20, Try.ntmps20
          go_wp2_with (first | ((with_reducible refine gate_dst (N := 2) rfl ?_); refine box_event ?hg1 (N := 2) ?hd1 (cs := #[.int .i64 k1, .int .i64 n1, .int .i64 t1, .slice A1 l1 ca]) (t := 24) ?hr1 ?_; (case hd1 => rfl); (case hg1 => rfl); (case hr1 => first | (go_simp; done) | (go_simp; rfl)); intro g2 hg w1 hbox hb; have HS1 := HS.box hg hbox hb; clear HS hg hbox hb) | ((with_reducible refine gate_dst (N := 3) rfl ?_); refine box_event ?hg2 (N := 3) ?hd2 (cs := #[.int .i64 k2, .int .i64 n2, .int .i64 t2, .slice A2 l2 cb]) (t := 24) ?hr2 ?_; (case hd2 => rfl); (case hg2 => rfl); (case hr2 => first | (go_simp; done) | (go_simp; rfl)); intro g3 hg w2 hbox hb; have HS2 := HS1.box hg hbox hb; clear HS1 hg hbox hb; have d0 := HS2.cell 0 0 rfl rfl; have d1 := HS2.cell 0 1 rfl rfl; have d2 := HS2.cell 0 2 rfl rfl; have d3 := HS2.cell 0 3 rfl rfl; have f0 := HS2.frozen 0 0 rfl; have f1 := HS2.frozen 0 1 rfl; have f2 := HS2.frozen 0 2 rfl; have f3 := HS2.frozen 0 3 rfl; have e0 := HS2.cell 1 0 rfl rfl; have e1 := HS2.cell 1 1 rfl rfl; have e2 := HS2.cell 1 2 rfl rfl; have e3 := HS2.cell 1 3 rfl rfl; have h0 := HS2.frozen 1 0 rfl; have h1 := HS2.frozen 1 1 rfl; have h2 := HS2.frozen 1 2 rfl; have h3 := HS2.frozen 1 3 rfl; have s1 := Kd.C_string (P := Try.prog) (src := 22) (dst := 9) (c := ca) Try.underlying22 Try.underlying5 Try.underlying9 (Kd.C_below HR1.out HS2.below); have s2 := Kd.C_string (P := Try.prog) (src := 22) (dst := 9) (c := cb) Try.underlying22 Try.underlying5 Try.underlying9 (Kd.C_below HR2.out HS2.below)))
          go_ret
          exact ⟨by rw [HZ.out]; rfl, HS2.tail.tail⟩
        · have HZ := Aside0.mk (show decide (k1 = k2 ∧ n1 = n2 ∧ t1 = t2 ∧ xs = ys) = false from by simp [ch1, ch2, ch3, ch4])
          have h1a : (k1 == k2) = true := by simpa using ch1
          have h1b : (k1 != k2) = false := by simpa using ch1
          have h2a : (n1 == n2) = true := by simpa using ch2
          have h2b : (n1 != n2) = false := by simpa using ch2
          have h3a : (t1 == t2) = true := by simpa using ch3
          have h3b : (t1 != t2) = false := by simpa using ch3
          have h4a : ((strOfNums xs).toList == (strOfNums ys).toList) = false := by rw [str_beq HX.out HY.out]; simp [ch4]
          clear ch1 ch2 ch3 ch4
          go_enter Try.func20, Try.ntmps20
          go_wp2_with (first | ((with_reducible refine gate_dst (N := 2) rfl ?_); refine box_event ?hg1 (N := 2) ?hd1 (cs := #[.int .i64 k1, .int .i64 n1, .int .i64 t1, .slice A1 l1 ca]) (t := 24) ?hr1 ?_; (case hd1 => rfl); (case hg1 => rfl); (case hr1 => first | (go_simp; done) | (go_simp; rfl)); intro g2 hg w1 hbox hb; have HS1 := HS.box hg hbox hb; clear HS hg hbox hb) | ((with_reducible refine gate_dst (N := 3) rfl ?_); refine box_event ?hg2 (N := 3) ?hd2 (cs := #[.int .i64 k2, .int .i64 n2, .int .i64 t2, .slice A2 l2 cb]) (t := 24) ?hr2 ?_; (case hd2 => rfl); (case hg2 => rfl); (case hr2 => first | (go_simp; done) | (go_simp; rfl)); intro g3 hg w2 hbox hb; have HS2 := HS1.box hg hbox hb; clear HS1 hg hbox hb; have d0 := HS2.cell 0 0 rfl rfl; have d1 := HS2.cell 0 1 rfl rfl; have d2 := HS2.cell 0 2 rfl rfl; have d3 := HS2.cell 0 3 rfl rfl; have f0 := HS2.frozen 0 0 rfl; have f1 := HS2.frozen 0 1 rfl; have f2 := HS2.frozen 0 2 rfl; have f3 := HS2.frozen 0 3 rfl; have e0 := HS2.cell 1 0 rfl rfl; have e1 := HS2.cell 1 1 rfl rfl; have e2 := HS2.cell 1 2 rfl rfl; have e3 := HS2.cell 1 3 rfl rfl; have h0 := HS2.frozen 1 0 rfl; have h1 := HS2.frozen 1 1 rfl; have h2 := HS2.frozen 1 2 rfl; have h3 := HS2.frozen 1 3 rfl; have s1 := Kd.C_string (P := Try.prog) (src := 22) (dst := 9) (c := ca) Try.underlying22 Try.underlying5 Try.underlying9 (Kd.C_below HR1.out HS2.below); have s2 := Kd.C_string (P := Try.prog) (src := 22) (dst := 9) (c := cb) Try.underlying22 Try.underlying5 Try.underlying9 (Kd.C_below HR2.out HS2.below)))
          go_ret
          exact ⟨by rw [HZ.out]; rfl, HS2.tail.tail⟩
      · have HZ := Aside0.mk (show decide (k1 = k2 ∧ n1 = n2 ∧ t1 = t2 ∧ xs = ys) = false from by simp [ch1, ch2, ch3])
        have h1a : (k1 == k2) = true := by simpa using ch1
        have h1b : (k1 != k2) = false := by simpa using ch1
        have h2a : (n1 == n2) = true := by simpa using ch2
        have h2b : (n1 != n2) = false := by simpa using ch2
        have h3a : (t1 == t2) = false := by simpa using ch3
        have h3b : (t1 != t2) = true := by simpa using ch3
        clear ch1 ch2 ch3
        go_enter Try.func20, Try.ntmps20
        go_wp2_with (first | ((with_reducible refine gate_dst (N := 2) rfl ?_); refine box_event ?hg1 (N := 2) ?hd1 (cs := #[.int .i64 k1, .int .i64 n1, .int .i64 t1, .slice A1 l1 ca]) (t := 24) ?hr1 ?_; (case hd1 => rfl); (case hg1 => rfl); (case hr1 => first | (go_simp; done) | (go_simp; rfl)); intro g2 hg w1 hbox hb; have HS1 := HS.box hg hbox hb; clear HS hg hbox hb) | ((with_reducible refine gate_dst (N := 3) rfl ?_); refine box_event ?hg2 (N := 3) ?hd2 (cs := #[.int .i64 k2, .int .i64 n2, .int .i64 t2, .slice A2 l2 cb]) (t := 24) ?hr2 ?_; (case hd2 => rfl); (case hg2 => rfl); (case hr2 => first | (go_simp; done) | (go_simp; rfl)); intro g3 hg w2 hbox hb; have HS2 := HS1.box hg hbox hb; clear HS1 hg hbox hb; have d0 := HS2.cell 0 0 rfl rfl; have d1 := HS2.cell 0 1 rfl rfl; have d2 := HS2.cell 0 2 rfl rfl; have d3 := HS2.cell 0 3 rfl rfl; have f0 := HS2.frozen 0 0 rfl; have f1 := HS2.frozen 0 1 rfl; have f2 := HS2.frozen 0 2 rfl; have f3 := HS2.frozen 0 3 rfl; have e0 := HS2.cell 1 0 rfl rfl; have e1 := HS2.cell 1 1 rfl rfl; have e2 := HS2.cell 1 2 rfl rfl; have e3 := HS2.cell 1 3 rfl rfl; have h0 := HS2.frozen 1 0 rfl; have h1 := HS2.frozen 1 1 rfl; have h2 := HS2.frozen 1 2 rfl; have h3 := HS2.frozen 1 3 rfl; have s1 := Kd.C_string (P := Try.prog) (src := 22) (dst := 9) (c := ca) Try.underlying22 Try.underlying5 Try.underlying9 (Kd.C_below HR1.out HS2.below); have s2 := Kd.C_string (P := Try.prog) (src := 22) (dst := 9) (c := cb) Try.underlying22 Try.underlying5 Try.underlying9 (Kd.C_below HR2.out HS2.below)))
        go_ret
        exact ⟨by rw [HZ.out]; rfl, HS2.tail.tail⟩
    · have HZ := Aside0.mk (show decide (k1 = k2 ∧ n1 = n2 ∧ t1 = t2 ∧ xs = ys) = false from by simp [ch1, ch2])
      have h1a : (k1 == k2) = true := by simpa using ch1
      have h1b : (k1 != k2) = false := by simpa using ch1
      have h2a : (n1 == n2) = false := by simpa using ch2
      have h2b : (n1 != n2) = true := by simpa using ch2
      clear ch1 ch2
      go_enter Try.func20, Try.ntmps20
      go_wp2_with (first | ((with_reducible refine gate_dst (N := 2) rfl ?_); refine box_event ?hg1 (N := 2) ?hd1 (cs := #[.int .i64 k1, .int .i64 n1, .int .i64 t1, .slice A1 l1 ca]) (t := 24) ?hr1 ?_; (case hd1 => rfl); (case hg1 => rfl); (case hr1 => first | (go_simp; done) | (go_simp; rfl)); intro g2 hg w1 hbox hb; have HS1 := HS.box hg hbox hb; clear HS hg hbox hb) | ((with_reducible refine gate_dst (N := 3) rfl ?_); refine box_event ?hg2 (N := 3) ?hd2 (cs := #[.int .i64 k2, .int .i64 n2, .int .i64 t2, .slice A2 l2 cb]) (t := 24) ?hr2 ?_; (case hd2 => rfl); (case hg2 => rfl); (case hr2 => first | (go_simp; done) | (go_simp; rfl)); intro g3 hg w2 hbox hb; have HS2 := HS1.box hg hbox hb; clear HS1 hg hbox hb; have d0 := HS2.cell 0 0 rfl rfl; have d1 := HS2.cell 0 1 rfl rfl; have d2 := HS2.cell 0 2 rfl rfl; have d3 := HS2.cell 0 3 rfl rfl; have f0 := HS2.frozen 0 0 rfl; have f1 := HS2.frozen 0 1 rfl; have f2 := HS2.frozen 0 2 rfl; have f3 := HS2.frozen 0 3 rfl; have e0 := HS2.cell 1 0 rfl rfl; have e1 := HS2.cell 1 1 rfl rfl; have e2 := HS2.cell 1 2 rfl rfl; have e3 := HS2.cell 1 3 rfl rfl; have h0 := HS2.frozen 1 0 rfl; have h1 := HS2.frozen 1 1 rfl; have h2 := HS2.frozen 1 2 rfl; have h3 := HS2.frozen 1 3 rfl; have s1 := Kd.C_string (P := Try.prog) (src := 22) (dst := 9) (c := ca) Try.underlying22 Try.underlying5 Try.underlying9 (Kd.C_below HR1.out HS2.below); have s2 := Kd.C_string (P := Try.prog) (src := 22) (dst := 9) (c := cb) Try.underlying22 Try.underlying5 Try.underlying9 (Kd.C_below HR2.out HS2.below)))
      go_ret
      exact ⟨by rw [HZ.out]; rfl, HS2.tail.tail⟩
  · have HZ := Aside0.mk (show decide (k1 = k2 ∧ n1 = n2 ∧ t1 = t2 ∧ xs = ys) = false from by simp [ch1])
    have h1a : (k1 == k2) = false := by simpa using ch1
    have h1b : (k1 != k2) = true := by simpa using ch1
    clear ch1
    go_enter Try.func20, Try.ntmps20
    go_wp2_with (first | ((with_reducible refine gate_dst (N := 2) rfl ?_); refine box_event ?hg1 (N := 2) ?hd1 (cs := #[.int .i64 k1, .int .i64 n1, .int .i64 t1, .slice A1 l1 ca]) (t := 24) ?hr1 ?_; (case hd1 => rfl); (case hg1 => rfl); (case hr1 => first | (go_simp; done) | (go_simp; rfl)); intro g2 hg w1 hbox hb; have HS1 := HS.box hg hbox hb; clear HS hg hbox hb) | ((with_reducible refine gate_dst (N := 3) rfl ?_); refine box_event ?hg2 (N := 3) ?hd2 (cs := #[.int .i64 k2, .int .i64 n2, .int .i64 t2, .slice A2 l2 cb]) (t := 24) ?hr2 ?_; (case hd2 => rfl); (case hg2 => rfl); (case hr2 => first | (go_simp; done) | (go_simp; rfl)); intro g3 hg w2 hbox hb; have HS2 := HS1.box hg hbox hb; clear HS1 hg hbox hb; have d0 := HS2.cell 0 0 rfl rfl; have d1 := HS2.cell 0 1 rfl rfl; have d2 := HS2.cell 0 2 rfl rfl; have d3 := HS2.cell 0 3 rfl rfl; have f0 := HS2.frozen 0 0 rfl; have f1 := HS2.frozen 0 1 rfl; have f2 := HS2.frozen 0 2 rfl; have f3 := HS2.frozen 0 3 rfl; have e0 := HS2.cell 1 0 rfl rfl; have e1 := HS2.cell 1 1 rfl rfl; have e2 := HS2.cell 1 2 rfl rfl; have e3 := HS2.cell 1 3 rfl rfl; have h0 := HS2.frozen 1 0 rfl; have h1 := HS2.frozen 1 1 rfl; have h2 := HS2.frozen 1 2 rfl; have h3 := HS2.frozen 1 3 rfl; have s1 := Kd.C_string (P := Try.prog) (src := 22) (dst := 9) (c := ca) Try.underlying22 Try.underlying5 Try.underlying9 (Kd.C_below HR1.out HS2.below); have s2 := Kd.C_string (P := Try.prog) (src := 22) (dst := 9) (c := cb) Try.underlying22 Try.underlying5 Try.underlying9 (Kd.C_below HR2.out HS2.below)))
    go_ret
    exact ⟨by rw [HZ.out]; rfl, HS2.tail.tail⟩

end Go.Proofs.Ytaojnbhnogndnaa.SL
