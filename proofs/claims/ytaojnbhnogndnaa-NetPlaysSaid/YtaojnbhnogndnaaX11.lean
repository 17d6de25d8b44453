/- The law NetCounts: what it answers. -/
import Derived.Test.YtaojnbhnogndnaaX10
import Derived.Test.YtaojnbhnogndnaaXO
namespace Go.Proofs.Ytaojnbhnogndnaa.SL
open Go.RowKit Go.Proofs.YtaojnbhnogndnaaW.PrintWords Go.Proofs.YtaojnbhnogndnaaW.PrintLast Go.Proofs.YtaojnbhnogndnaaW.PrintMore
attribute [local go_sem] max2_int min2_int max_two min_two
attribute [local go_sem high] Small.cell_set_same
set_option linter.unusedVariables false
set_option linter.unusedSimpArgs false

/-! ### kind (majordomolaw18): function 24 -/
def kindOf (z : Int) : Int := if z < 0 then (-(z + 1)) % 6 else z % 6
theorem kindOf_cases (z : Int) : kindOf z = 0 ∨ kindOf z = 1 ∨ kindOf z = 2 ∨ kindOf z = 3 ∨ kindOf z = 4 ∨ kindOf z = 5 := by unfold kindOf; split <;> omega
theorem kind_calls (z : Int) (w : World) (hz : (Lit.int .i64 z).wf = true) : Calls Try.prog 24 #[.int .i64 z] w fun e w' => e = .returned (.int .i64 (kindOf z)) ∧ w' = w := by
  have hb : -9223372036854775808 ≤ z ∧ z ≤ 9223372036854775807 := by simp [Lit.wf, IntKind.min, IntKind.max, IntKind.signed, IntKind.bits] at hz; omega
  by_cases h : z < 0
  · have hd : decide (z < 0) = true := decide_eq_true h
    have h1 : wrap64 (z + 1) = z + 1 := by unfold wrap64; omega
    have h2 : wrap64 (-(z + 1)) = -(z + 1) := by unfold wrap64; omega
    have h3 : 0 ≤ -(z + 1) := by omega
    have h4 : kindOf z = -((z + 1).tmod 6) := by unfold kindOf; rw [if_pos h, ← Int.neg_tmod, Int.tmod_eq_emod_of_nonneg h3]
    rw [h4]
    go_enter Try.func24, Try.ntmps24
    go_wp2
    go_ret
    exact ⟨rfl, rfl⟩
  · have hd : decide (z < 0) = false := decide_eq_false h
    have h3 : 0 ≤ z := by omega
    have h4 : kindOf z = z % 6 := by unfold kindOf; rw [if_neg h]
    rw [h4]
    go_enter Try.func24, Try.ntmps24
    go_wp2
    go_ret
    exact ⟨rfl, rfl⟩
/-- A call of the net's laws: its kind, a number, frames. -/
def kOp : Kd (Int × Int × List (List Int)) := Kd.pair (Kd.int .i64) (Kd.pair (Kd.int .i64) (Kd.slice 22 (Kd.slice 5 kB)))
theorem spot_none {w : World} {a : Addr} {v : Value} (h : w.cell? a = some v) : a = ⟨a.block, a.off, none⟩ := by
  obtain ⟨b, o, s⟩ := a
  cases s with
  | none => rfl
  | some s => unfold World.cell? at h; simp at h; split at h <;> simp_all
theorem add_at {a : Addr} {b o : Nat} {i j : Nat} (h : a.add i = ⟨b, o, none⟩) : a.add (i + j) = ⟨b, o + j, none⟩ := by
  rw [← Go.Deep.add_add, h]
  unfold Addr.add
  split <;> simp_all
theorem op_at {w : World} {A : Option Addr} {n : Nat} {l : List (Int × Int × List (List Int))} (hr : kOp.C w A n l) (i : Nat) (hi : i < n) :
    ∃ ad b o B c, A = some ad ∧ ad.add (i * 3) = ⟨b, o, none⟩ ∧ w.cell? ⟨b, o, none⟩ = some (.int .i64 (l.getD i (0, 0, [])).1) ∧ w.cell? ⟨b, o + 1, none⟩ = some (.int .i64 (l.getD i (0, 0, [])).2.1) ∧ w.cell? ⟨b, o + 2, none⟩ = some (.slice B (l.getD i (0, 0, [])).2.2.length c) ∧
      (l.getD i (0, 0, [])).2.2.length ≤ c ∧ (Kd.slice 5 kB).C w B (l.getD i (0, 0, [])).2.2.length (l.getD i (0, 0, [])).2.2 := by
  obtain ⟨ad, c, e, _, hK, hc⟩ := Kd.C_get hr (0, 0, []) (i : Int) (by omega) (by omega)
  simp only [Int.toNat_natCast] at hK hc
  obtain ⟨_, _, rfl, rfl, _, _, rfl, rfl, ⟨B, cb, rfl, h1, h2⟩⟩ := hK
  have c0 := hc 0 _ rfl
  have c1 := hc 1 _ rfl
  have c2 := hc 2 _ rfl
  have h0 : ad.add (i * 3) = ⟨(ad.add (i * 3)).block, (ad.add (i * 3)).off, none⟩ := spot_none c0
  refine ⟨ad, (ad.add (i * 3)).block, (ad.add (i * 3)).off, B, cb, e, h0, ?_, ?_, ?_, h1, h2⟩
  · rw [← h0]; exact c0
  · rw [← add_at h0]; exact c1
  · rw [← add_at h0]; exact c2

/-! ### NetCounts: function 6 -/
set_option maxHeartbeats 4000000 in
set_option maxRecDepth 100000 in
theorem NetCounts_calls (A : Option Addr) (c : Nat) (l : List (Int × Int × List (List Int))) (w : World) (hr : kOp.C w A l.length l) (hc : l.length ≤ c) (hb : ∀ o ∈ l, (Lit.int .i64 o.1).wf = true ∧ o.2.2.length ≤ 140737488355328 ∧ ∀ x ∈ o.2.2, x.length ≤ 140737488355328) :
    Calls Try.prog 6 #[.slice A l.length c] w fun e w' => e = .returned (.bool true) ∧ Below w.heap.size w w' := by
  have hu52 := Try.underlying52
  have hu48 := Try.underlying48
  have HS := Sat.start w
  have HR := Aside0.mk hr
  have HB := Aside0.mk hb
  clear hr hb
  go_enter Try.func6, Try.ntmps6
  go_wp2_with (first | (go_at_call 22; refine (shown18_calls HS).mono ?_; rintro e w1 ⟨rfl, HS1⟩; clear HS) | (go_at_call 23; refine (New_calls HS1).mono ?_; rintro e w2 ⟨g1, rfl, HS2⟩; clear HS1))
  go_loopw [5, 6] (fun v5 v6 wr => ∃ (i : Nat) (ps : List (Int × List Int)), v6 = .int .i64 i ∧ v5 = .int .i64 ps.length ∧ i ≤ 150 ∧ i ≤ l.length ∧ ps.length ≤ 256 ∧ (∀ y ∈ ps, y.2.length ≤ 140737488355328) ∧ Sat w wr [bag g1 ps]) (fun _ i _ => 150 - (intOf i).toNat)
  case atStart => exact ⟨0, [], rfl, rfl, by omega, by omega, by decide, fun y hy => absurd hy (List.not_mem_nil), HS2⟩
  case round =>
    clear HS2
    obtain ⟨i, ps, rfl, rfl, hi, hin, hpl, hby, HS⟩ := hrel
    have HBY0 := Aside0.mk hby
    have hdp1 : decide ((ps.length : Int) < 0) = false := decide_eq_false (by omega)
    have hdp2 : decide ((256 : Int) < (ps.length : Int)) = false := decide_eq_false (by omega)
    have hdp3 : decide (256 < ps.length) = false := decide_eq_false (by omega)
    clear hby
    by_cases hlt : i < l.length ∧ i < 150
    · obtain ⟨hlt, hlt3⟩ := hlt
      have hd1 : decide ((i : Int) < (l.length : Int)) = true := decide_eq_true (by omega)
      have hd2 : decide ((i : Int) < 150) = true := decide_eq_true (by omega)
      have hd3 : decide (i < l.length) = true := decide_eq_true hlt
      obtain ⟨ad, b, o, B, cb, rfl, ha, k0, k1, k2, hcb, hrb⟩ := op_at HR.out i hlt
      have hx1 := HB.out (l.getD i (0, 0, [])) (by rw [List.getD_eq_getElem?_getD, List.getElem?_eq_getElem hlt]; exact List.getElem_mem _)
      obtain ⟨x, hx⟩ : ∃ x, x = l.getD i (0, 0, []) := ⟨_, rfl⟩
      rw [← hx] at k0 k1 k2 hcb hrb hx1
      obtain ⟨z0, z1, fs⟩ := x
      clear hx
      have k0 := (HS.below.cell (World.block_lt_of_cell? _ _ k0)).trans k0
      have k1 := (HS.below.cell (World.block_lt_of_cell? _ _ k1)).trans k1
      have k2 := (HS.below.cell (World.block_lt_of_cell? _ _ k2)).trans k2
      have HRB := Aside0.mk hrb
      clear hrb
      simp only at k0 k1 k2 hcb hx1
      have HK := Aside0.mk hx1.1
      have hfl : fs.length ≤ 140737488355328 := hx1.2.1
      have HFB := Aside0.mk hx1.2.2
      clear hx1
      rcases kindOf_cases z0 with hk | hk | hk | hk | hk | hk
      -- Send
      · obtain ⟨lo, hlo⟩ : ∃ lo, lo = fs.length - min fs.length (256 - ps.length) := ⟨_, rfl⟩
        obtain ⟨qs, hqs⟩ : ∃ qs, qs = ps ++ (fs.take (256 - ps.length)).map fun f => (z1, f) := ⟨_, rfl⟩
        have hql : qs.length = ps.length + min (256 - ps.length) fs.length := by rw [hqs, List.length_append, List.length_map, List.length_take]
        have hlof : lo ≤ fs.length := by omega
        have hsum : (ps.length : Int) + (fs.length : Int) - (lo : Int) = (qs.length : Int) := by omega
        have hq256 : qs.length ≤ 256 := by omega
        have hdm1 : decide ((qs.length : Int) < 0) = false := decide_eq_false (by omega)
        have hdm2 : decide ((256 : Int) < (qs.length : Int)) = false := decide_eq_false (by omega)
        have hdm3 : decide (256 < qs.length) = false := decide_eq_false (by omega)
        have HBQ := Aside0.mk (show ∀ y ∈ qs, y.2.length ≤ 140737488355328 from fun y hy => by
          rw [hqs] at hy
          rcases List.mem_append.1 hy with hy | hy
          · exact HBY0.out y hy
          · obtain ⟨f, hf, rfl⟩ := List.mem_map.1 hy
            exact HFB.out f (List.mem_of_mem_take hf))
        have HLO := Aside0.mk hlo
        have HQS := Aside0.mk hqs
        clear hlo hqs hql
        go_wp2_with (first | ((with_reducible refine gate_dst (N := 7) rfl ?_); refine box_event ?hg1 (N := 7) ?hd1 (cs := #[.int .i64 0, .int .i64 0, .slice none 0 0]) (t := 48) ?hr1 ?_; (case hd1 => rfl); (case hg1 => rfl); (case hr1 => first | (go_simp; done) | (go_simp; rfl)); intro g7 hg wa hbox hb; have HS1 := HS.box hg hbox hb; clear HS hg hbox hb; have d0 := HS1.cell 0 0 rfl rfl; have d1 := HS1.cell 0 1 rfl rfl; have d2 := HS1.cell 0 2 rfl rfl; have f0 := HS1.frozen 0 0 rfl; have f1 := HS1.frozen 0 1 rfl; have f2 := HS1.frozen 0 2 rfl) | ((with_reducible refine gate_store (t := 48) (p := 7) rfl ?_); refine store_event (t := 48) (p := 7) (v := ?vo2) (w1 := (((wa.setCell ⟨g7, 0, none⟩ (.int .i64 z0)).setCell ⟨g7, 1, none⟩ (.int .i64 z1)).setCell ⟨g7, 2, none⟩ (.slice B fs.length cb))) ?hg2 ?ho2 ?hn2 ?hr2 ?_; (case ho2 => rfl); (case hg2 => rfl); (case hn2 => rfl); (case hr2 => first | (go_simp; done) | (go_simp; rfl)); intro wb hw; have HS2 := (((HS1.setAt 0 0 (.int .i64 z0) rfl).setAt 0 1 (.int .i64 z1) rfl).setAt 0 2 (.slice B fs.length cb) rfl); rw [← hw] at HS2; clear hw HS1 d0 d1 d2 f0 f1 f2 k0 k1 k2; have e0 := HS2.cell 0 0 rfl rfl; have e1 := HS2.cell 0 1 rfl rfl; have e2 := HS2.cell 0 2 rfl rfl) | (go_at_call 24; refine (kind_calls z0 _ HK.out).mono ?_; rintro e wk ⟨he, rfl⟩; rw [hk] at he; subst he) | (go_at_call 25; refine (Send_calls g1 ps z1 B cb fs hpl hcb HFB.out (fun w' h => Kd.C_below HRB.out h.below) (HS2.pick 1 rfl)).mono ?_; rintro e wc ⟨he, HS3⟩; rw [← HLO.out] at he; rw [← HQS.out] at HS3; subst he; clear HS2 e0 e1 e2; have e0 := HS3.cell 1 0 rfl rfl; have e1 := HS3.cell 1 1 rfl rfl; have e2 := HS3.cell 1 2 rfl rfl) | (go_at_call 29; refine (Len_calls g1 qs HS3).mono ?_; rintro e we ⟨rfl, HSE⟩; clear HS3))
        exact ⟨⟨i + 1, qs, by rw [Int.natCast_add]; rfl, rfl, by omega, by omega, hq256, HBQ.out, HSE.dropAt 1⟩, by simp [intOf]; omega⟩
      -- Send
      · obtain ⟨lo, hlo⟩ : ∃ lo, lo = fs.length - min fs.length (256 - ps.length) := ⟨_, rfl⟩
        obtain ⟨qs, hqs⟩ : ∃ qs, qs = ps ++ (fs.take (256 - ps.length)).map fun f => (z1, f) := ⟨_, rfl⟩
        have hql : qs.length = ps.length + min (256 - ps.length) fs.length := by rw [hqs, List.length_append, List.length_map, List.length_take]
        have hlof : lo ≤ fs.length := by omega
        have hsum : (ps.length : Int) + (fs.length : Int) - (lo : Int) = (qs.length : Int) := by omega
        have hq256 : qs.length ≤ 256 := by omega
        have hdm1 : decide ((qs.length : Int) < 0) = false := decide_eq_false (by omega)
        have hdm2 : decide ((256 : Int) < (qs.length : Int)) = false := decide_eq_false (by omega)
        have hdm3 : decide (256 < qs.length) = false := decide_eq_false (by omega)
        have HBQ := Aside0.mk (show ∀ y ∈ qs, y.2.length ≤ 140737488355328 from fun y hy => by
          rw [hqs] at hy
          rcases List.mem_append.1 hy with hy | hy
          · exact HBY0.out y hy
          · obtain ⟨f, hf, rfl⟩ := List.mem_map.1 hy
            exact HFB.out f (List.mem_of_mem_take hf))
        have HLO := Aside0.mk hlo
        have HQS := Aside0.mk hqs
        clear hlo hqs hql
        go_wp2_with (first | ((with_reducible refine gate_dst (N := 7) rfl ?_); refine box_event ?hg1 (N := 7) ?hd1 (cs := #[.int .i64 0, .int .i64 0, .slice none 0 0]) (t := 48) ?hr1 ?_; (case hd1 => rfl); (case hg1 => rfl); (case hr1 => first | (go_simp; done) | (go_simp; rfl)); intro g7 hg wa hbox hb; have HS1 := HS.box hg hbox hb; clear HS hg hbox hb; have d0 := HS1.cell 0 0 rfl rfl; have d1 := HS1.cell 0 1 rfl rfl; have d2 := HS1.cell 0 2 rfl rfl; have f0 := HS1.frozen 0 0 rfl; have f1 := HS1.frozen 0 1 rfl; have f2 := HS1.frozen 0 2 rfl) | ((with_reducible refine gate_store (t := 48) (p := 7) rfl ?_); refine store_event (t := 48) (p := 7) (v := ?vo2) (w1 := (((wa.setCell ⟨g7, 0, none⟩ (.int .i64 z0)).setCell ⟨g7, 1, none⟩ (.int .i64 z1)).setCell ⟨g7, 2, none⟩ (.slice B fs.length cb))) ?hg2 ?ho2 ?hn2 ?hr2 ?_; (case ho2 => rfl); (case hg2 => rfl); (case hn2 => rfl); (case hr2 => first | (go_simp; done) | (go_simp; rfl)); intro wb hw; have HS2 := (((HS1.setAt 0 0 (.int .i64 z0) rfl).setAt 0 1 (.int .i64 z1) rfl).setAt 0 2 (.slice B fs.length cb) rfl); rw [← hw] at HS2; clear hw HS1 d0 d1 d2 f0 f1 f2 k0 k1 k2; have e0 := HS2.cell 0 0 rfl rfl; have e1 := HS2.cell 0 1 rfl rfl; have e2 := HS2.cell 0 2 rfl rfl) | (go_at_call 24; refine (kind_calls z0 _ HK.out).mono ?_; rintro e wk ⟨he, rfl⟩; rw [hk] at he; subst he) | (go_at_call 25; refine (Send_calls g1 ps z1 B cb fs hpl hcb HFB.out (fun w' h => Kd.C_below HRB.out h.below) (HS2.pick 1 rfl)).mono ?_; rintro e wc ⟨he, HS3⟩; rw [← HLO.out] at he; rw [← HQS.out] at HS3; subst he; clear HS2 e0 e1 e2; have e0 := HS3.cell 1 0 rfl rfl; have e1 := HS3.cell 1 1 rfl rfl; have e2 := HS3.cell 1 2 rfl rfl) | (go_at_call 29; refine (Len_calls g1 qs HS3).mono ?_; rintro e we ⟨rfl, HSE⟩; clear HS3))
        exact ⟨⟨i + 1, qs, by rw [Int.natCast_add]; rfl, rfl, by omega, by omega, hq256, HBQ.out, HSE.dropAt 1⟩, by simp [intOf]; omega⟩
      -- Deliver
      · by_cases hz : 0 ≤ z1 ∧ z1 < ps.length
        · obtain ⟨k, rfl⟩ : ∃ k : Nat, z1 = k := ⟨z1.toNat, by omega⟩
          have hkp : k < ps.length := by omega
          obtain ⟨y, hy⟩ : ∃ y, y = ps.getD k (0, []) := ⟨_, rfl⟩
          obtain ⟨qs, hqs⟩ : ∃ qs, qs = ps.eraseIdx k := ⟨_, rfl⟩
          have hql : qs.length = ps.length - 1 := by rw [hqs, List.length_eraseIdx_of_lt hkp]
          have HBQ := Aside0.mk (show ∀ y ∈ qs, y.2.length ≤ 140737488355328 from fun y hy => HBY0.out y (by rw [hqs] at hy; exact List.mem_of_mem_eraseIdx hy))
          have hsum : (ps.length : Int) - 1 = (qs.length : Int) := by omega
          have hq256 : qs.length ≤ 256 := by omega
          have hdm1 : decide ((qs.length : Int) < 0) = false := decide_eq_false (by omega)
          have hdm2 : decide ((256 : Int) < (qs.length : Int)) = false := decide_eq_false (by omega)
          have hdm3 : decide (256 < qs.length) = false := decide_eq_false (by omega)
          have HY := Aside0.mk hy
          have HQS := Aside0.mk hqs
          have HKP := Aside0.mk hkp
          clear hy hqs hql hkp hz
          go_wp2_with (first | ((with_reducible refine gate_dst (N := 7) rfl ?_); refine box_event ?hg3 (N := 7) ?hd3 (cs := #[.int .i64 0, .int .i64 0, .slice none 0 0]) (t := 48) ?hr3 ?_; (case hd3 => rfl); (case hg3 => rfl); (case hr3 => first | (go_simp; done) | (go_simp; rfl)); intro g7 hg wa hbox hb; have HS1 := HS.box hg hbox hb; clear HS hg hbox hb; have d0 := HS1.cell 0 0 rfl rfl; have d1 := HS1.cell 0 1 rfl rfl; have d2 := HS1.cell 0 2 rfl rfl; have f0 := HS1.frozen 0 0 rfl; have f1 := HS1.frozen 0 1 rfl; have f2 := HS1.frozen 0 2 rfl) | ((with_reducible refine gate_store (t := 48) (p := 7) rfl ?_); refine store_event (t := 48) (p := 7) (v := ?vo4) (w1 := (((wa.setCell ⟨g7, 0, none⟩ (.int .i64 z0)).setCell ⟨g7, 1, none⟩ (.int .i64 (k : Int))).setCell ⟨g7, 2, none⟩ (.slice B fs.length cb))) ?hg4 ?ho4 ?hn4 ?hr4 ?_; (case ho4 => rfl); (case hg4 => rfl); (case hn4 => rfl); (case hr4 => first | (go_simp; done) | (go_simp; rfl)); intro wb hw; have HS2 := (((HS1.setAt 0 0 (.int .i64 z0) rfl).setAt 0 1 (.int .i64 (k : Int)) rfl).setAt 0 2 (.slice B fs.length cb) rfl); rw [← hw] at HS2; clear hw HS1 d0 d1 d2 f0 f1 f2 k0 k1 k2; have e0 := HS2.cell 0 0 rfl rfl; have e1 := HS2.cell 0 1 rfl rfl; have e2 := HS2.cell 0 2 rfl rfl) | (go_at_call 24; refine (kind_calls z0 _ HK.out).mono ?_; rintro e wk ⟨he, rfl⟩; rw [hk] at he; subst he) | (go_at_call 26; refine (Deliver_yes g1 ps k HKP.out hpl (HS2.pick 1 rfl)).mono ?_; rintro e wc ⟨v, he, HS3⟩; rw [← HY.out] at he HS3; rw [← HQS.out] at HS3; obtain ⟨A1, c1, rfl⟩ := HS3.rowShape 0 rfl; subst he; clear HS2 e0 e1 e2) | ((with_reducible refine gate_dst (N := 9) rfl ?_); refine box_event ?hg5 (N := 9) ?hd5 (cs := #[.int .i64 0, .slice none 0 0]) (t := 52) ?hr5 ?_; (case hd5 => rfl); (case hg5 => rfl); (case hr5 => first | (go_simp; done) | (go_simp; rfl)); intro g9 hg wd hbox hb; have HS4 := HS3.box hg hbox hb; clear HS3 hg hbox hb; have d0 := HS4.cell 0 0 rfl rfl; have d1 := HS4.cell 0 1 rfl rfl; have f0 := HS4.frozen 0 0 rfl; have f1 := HS4.frozen 0 1 rfl) | ((with_reducible refine gate_store (t := 52) (p := 9) rfl ?_); refine store_event (t := 52) (p := 9) (v := ?vo6) (w1 := ((wd.setCell ⟨g9, 0, none⟩ (.int .i64 y.1)).setCell ⟨g9, 1, none⟩ (.slice A1 y.2.length c1))) ?hg6 ?ho6 ?hn6 ?hr6 ?_; (case ho6 => rfl); (case hg6 => rfl); (case hn6 => rfl); (case hr6 => first | (go_simp; done) | (go_simp; rfl)); intro wf hw; have HS5 := ((HS4.setAt 0 0 (.int .i64 y.1) rfl).setAt 0 1 (.slice A1 y.2.length c1) rfl); rw [← hw] at HS5; clear hw HS4 d0 d1 f0 f1) | (go_at_call 29; refine (Len_calls g1 qs (HS5.pick 2 rfl)).mono ?_; rintro e we ⟨rfl, HSE⟩; clear HS5))
          exact ⟨⟨i + 1, qs, by rw [Int.natCast_add]; rfl, rfl, by omega, by omega, hq256, HBQ.out, ((HSE.dropAt 1).dropAt 1).dropAt 1⟩, by simp [intOf]; omega⟩
        · have hz : z1 < 0 ∨ (ps.length : Int) ≤ z1 := by omega
          have HZ := Aside0.mk hz
          clear hz
          go_wp2_with (first | ((with_reducible refine gate_dst (N := 7) rfl ?_); refine box_event ?hg7 (N := 7) ?hd7 (cs := #[.int .i64 0, .int .i64 0, .slice none 0 0]) (t := 48) ?hr7 ?_; (case hd7 => rfl); (case hg7 => rfl); (case hr7 => first | (go_simp; done) | (go_simp; rfl)); intro g7 hg wa hbox hb; have HS1 := HS.box hg hbox hb; clear HS hg hbox hb; have d0 := HS1.cell 0 0 rfl rfl; have d1 := HS1.cell 0 1 rfl rfl; have d2 := HS1.cell 0 2 rfl rfl; have f0 := HS1.frozen 0 0 rfl; have f1 := HS1.frozen 0 1 rfl; have f2 := HS1.frozen 0 2 rfl) | ((with_reducible refine gate_store (t := 48) (p := 7) rfl ?_); refine store_event (t := 48) (p := 7) (v := ?vo8) (w1 := (((wa.setCell ⟨g7, 0, none⟩ (.int .i64 z0)).setCell ⟨g7, 1, none⟩ (.int .i64 z1)).setCell ⟨g7, 2, none⟩ (.slice B fs.length cb))) ?hg8 ?ho8 ?hn8 ?hr8 ?_; (case ho8 => rfl); (case hg8 => rfl); (case hn8 => rfl); (case hr8 => first | (go_simp; done) | (go_simp; rfl)); intro wb hw; have HS2 := (((HS1.setAt 0 0 (.int .i64 z0) rfl).setAt 0 1 (.int .i64 z1) rfl).setAt 0 2 (.slice B fs.length cb) rfl); rw [← hw] at HS2; clear hw HS1 d0 d1 d2 f0 f1 f2 k0 k1 k2; have e0 := HS2.cell 0 0 rfl rfl; have e1 := HS2.cell 0 1 rfl rfl; have e2 := HS2.cell 0 2 rfl rfl) | (go_at_call 24; refine (kind_calls z0 _ HK.out).mono ?_; rintro e wk ⟨he, rfl⟩; rw [hk] at he; subst he) | (go_at_call 26; refine (Deliver_no g1 ps z1 HZ.out (HS2.pick 1 rfl)).mono ?_; rintro e wc ⟨rfl, HS3⟩; clear HS2 e0 e1 e2) | ((with_reducible refine gate_dst (N := 9) rfl ?_); refine box_event ?hg9 (N := 9) ?hd9 (cs := #[.int .i64 0, .slice none 0 0]) (t := 52) ?hr9 ?_; (case hd9 => rfl); (case hg9 => rfl); (case hr9 => first | (go_simp; done) | (go_simp; rfl)); intro g9 hg wd hbox hb; have HS4 := HS3.box hg hbox hb; clear HS3 hg hbox hb; have d0 := HS4.cell 0 0 rfl rfl; have d1 := HS4.cell 0 1 rfl rfl; have f0 := HS4.frozen 0 0 rfl; have f1 := HS4.frozen 0 1 rfl) | ((with_reducible refine gate_store (t := 52) (p := 9) rfl ?_); refine store_event (t := 52) (p := 9) (v := ?vo10) (w1 := ((wd.setCell ⟨g9, 0, none⟩ (.int .i64 0)).setCell ⟨g9, 1, none⟩ (.slice none 0 0))) ?hg10 ?ho10 ?hn10 ?hr10 ?_; (case ho10 => rfl); (case hg10 => rfl); (case hn10 => rfl); (case hr10 => first | (go_simp; done) | (go_simp; rfl)); intro wf hw; have HS5 := ((HS4.setAt 0 0 (.int .i64 0) rfl).setAt 0 1 (.slice none 0 0) rfl); rw [← hw] at HS5; clear hw HS4 d0 d1 f0 f1) | (go_at_call 29; refine (Len_calls g1 ps (HS5.pick 1 rfl)).mono ?_; rintro e we ⟨rfl, HSE⟩; clear HS5))
          exact ⟨⟨i + 1, ps, by rw [Int.natCast_add]; rfl, rfl, by omega, by omega, hpl, HBY0.out, (HSE.dropAt 1).dropAt 1⟩, by simp [intOf]; omega⟩
      -- Drop
      · by_cases hz : 0 ≤ z1 ∧ z1 < ps.length
        · obtain ⟨k, rfl⟩ : ∃ k : Nat, z1 = k := ⟨z1.toNat, by omega⟩
          have hkp : k < ps.length := by omega
          obtain ⟨qs, hqs⟩ : ∃ qs, qs = ps.eraseIdx k := ⟨_, rfl⟩
          have hql : qs.length = ps.length - 1 := by rw [hqs, List.length_eraseIdx_of_lt hkp]
          have HBQ := Aside0.mk (show ∀ y ∈ qs, y.2.length ≤ 140737488355328 from fun y hy => HBY0.out y (by rw [hqs] at hy; exact List.mem_of_mem_eraseIdx hy))
          have hsum : (ps.length : Int) - 1 = (qs.length : Int) := by omega
          have hq256 : qs.length ≤ 256 := by omega
          have hdm1 : decide ((qs.length : Int) < 0) = false := decide_eq_false (by omega)
          have hdm2 : decide ((256 : Int) < (qs.length : Int)) = false := decide_eq_false (by omega)
          have hdm3 : decide (256 < qs.length) = false := decide_eq_false (by omega)
          have HQS := Aside0.mk hqs
          have HKP := Aside0.mk hkp
          clear hqs hql hkp hz
          go_wp2_with (first | ((with_reducible refine gate_dst (N := 7) rfl ?_); refine box_event ?hg11 (N := 7) ?hd11 (cs := #[.int .i64 0, .int .i64 0, .slice none 0 0]) (t := 48) ?hr11 ?_; (case hd11 => rfl); (case hg11 => rfl); (case hr11 => first | (go_simp; done) | (go_simp; rfl)); intro g7 hg wa hbox hb; have HS1 := HS.box hg hbox hb; clear HS hg hbox hb; have d0 := HS1.cell 0 0 rfl rfl; have d1 := HS1.cell 0 1 rfl rfl; have d2 := HS1.cell 0 2 rfl rfl; have f0 := HS1.frozen 0 0 rfl; have f1 := HS1.frozen 0 1 rfl; have f2 := HS1.frozen 0 2 rfl) | ((with_reducible refine gate_store (t := 48) (p := 7) rfl ?_); refine store_event (t := 48) (p := 7) (v := ?vo12) (w1 := (((wa.setCell ⟨g7, 0, none⟩ (.int .i64 z0)).setCell ⟨g7, 1, none⟩ (.int .i64 (k : Int))).setCell ⟨g7, 2, none⟩ (.slice B fs.length cb))) ?hg12 ?ho12 ?hn12 ?hr12 ?_; (case ho12 => rfl); (case hg12 => rfl); (case hn12 => rfl); (case hr12 => first | (go_simp; done) | (go_simp; rfl)); intro wb hw; have HS2 := (((HS1.setAt 0 0 (.int .i64 z0) rfl).setAt 0 1 (.int .i64 (k : Int)) rfl).setAt 0 2 (.slice B fs.length cb) rfl); rw [← hw] at HS2; clear hw HS1 d0 d1 d2 f0 f1 f2 k0 k1 k2; have e0 := HS2.cell 0 0 rfl rfl; have e1 := HS2.cell 0 1 rfl rfl; have e2 := HS2.cell 0 2 rfl rfl) | (go_at_call 24; refine (kind_calls z0 _ HK.out).mono ?_; rintro e wk ⟨he, rfl⟩; rw [hk] at he; subst he) | (go_at_call 27; refine (Drop_yes g1 ps k HKP.out hpl (HS2.pick 1 rfl)).mono ?_; rintro e wc ⟨rfl, HS3⟩; rw [← HQS.out] at HS3; clear HS2 e0 e1 e2) | (go_at_call 29; refine (Len_calls g1 qs HS3).mono ?_; rintro e we ⟨rfl, HSE⟩; clear HS3))
          exact ⟨⟨i + 1, qs, by rw [Int.natCast_add]; rfl, rfl, by omega, by omega, hq256, HBQ.out, HSE.dropAt 1⟩, by simp [intOf]; omega⟩
        · have hz : z1 < 0 ∨ (ps.length : Int) ≤ z1 := by omega
          have HZ := Aside0.mk hz
          clear hz
          go_wp2_with (first | ((with_reducible refine gate_dst (N := 7) rfl ?_); refine box_event ?hg13 (N := 7) ?hd13 (cs := #[.int .i64 0, .int .i64 0, .slice none 0 0]) (t := 48) ?hr13 ?_; (case hd13 => rfl); (case hg13 => rfl); (case hr13 => first | (go_simp; done) | (go_simp; rfl)); intro g7 hg wa hbox hb; have HS1 := HS.box hg hbox hb; clear HS hg hbox hb; have d0 := HS1.cell 0 0 rfl rfl; have d1 := HS1.cell 0 1 rfl rfl; have d2 := HS1.cell 0 2 rfl rfl; have f0 := HS1.frozen 0 0 rfl; have f1 := HS1.frozen 0 1 rfl; have f2 := HS1.frozen 0 2 rfl) | ((with_reducible refine gate_store (t := 48) (p := 7) rfl ?_); refine store_event (t := 48) (p := 7) (v := ?vo14) (w1 := (((wa.setCell ⟨g7, 0, none⟩ (.int .i64 z0)).setCell ⟨g7, 1, none⟩ (.int .i64 z1)).setCell ⟨g7, 2, none⟩ (.slice B fs.length cb))) ?hg14 ?ho14 ?hn14 ?hr14 ?_; (case ho14 => rfl); (case hg14 => rfl); (case hn14 => rfl); (case hr14 => first | (go_simp; done) | (go_simp; rfl)); intro wb hw; have HS2 := (((HS1.setAt 0 0 (.int .i64 z0) rfl).setAt 0 1 (.int .i64 z1) rfl).setAt 0 2 (.slice B fs.length cb) rfl); rw [← hw] at HS2; clear hw HS1 d0 d1 d2 f0 f1 f2 k0 k1 k2; have e0 := HS2.cell 0 0 rfl rfl; have e1 := HS2.cell 0 1 rfl rfl; have e2 := HS2.cell 0 2 rfl rfl) | (go_at_call 24; refine (kind_calls z0 _ HK.out).mono ?_; rintro e wk ⟨he, rfl⟩; rw [hk] at he; subst he) | (go_at_call 27; refine (Drop_no g1 ps z1 HZ.out (HS2.pick 1 rfl)).mono ?_; rintro e wc ⟨rfl, HS3⟩; clear HS2 e0 e1 e2) | (go_at_call 29; refine (Len_calls g1 ps HS3).mono ?_; rintro e we ⟨rfl, HSE⟩; clear HS3))
          exact ⟨⟨i + 1, ps, by rw [Int.natCast_add]; rfl, rfl, by omega, by omega, hpl, HBY0.out, HSE.dropAt 1⟩, by simp [intOf]; omega⟩
      -- Double
      · by_cases hz : 0 ≤ z1 ∧ z1 < ps.length
        · obtain ⟨k, rfl⟩ : ∃ k : Nat, z1 = k := ⟨z1.toNat, by omega⟩
          have hkp : k < ps.length := by omega
          have HKP := Aside0.mk hkp
          by_cases hfull : ps.length = 256
          · have HFU := Aside0.mk hfull
            clear hkp hz hfull
            go_wp2_with (first | ((with_reducible refine gate_dst (N := 7) rfl ?_); refine box_event ?hg15 (N := 7) ?hd15 (cs := #[.int .i64 0, .int .i64 0, .slice none 0 0]) (t := 48) ?hr15 ?_; (case hd15 => rfl); (case hg15 => rfl); (case hr15 => first | (go_simp; done) | (go_simp; rfl)); intro g7 hg wa hbox hb; have HS1 := HS.box hg hbox hb; clear HS hg hbox hb; have d0 := HS1.cell 0 0 rfl rfl; have d1 := HS1.cell 0 1 rfl rfl; have d2 := HS1.cell 0 2 rfl rfl; have f0 := HS1.frozen 0 0 rfl; have f1 := HS1.frozen 0 1 rfl; have f2 := HS1.frozen 0 2 rfl) | ((with_reducible refine gate_store (t := 48) (p := 7) rfl ?_); refine store_event (t := 48) (p := 7) (v := ?vo16) (w1 := (((wa.setCell ⟨g7, 0, none⟩ (.int .i64 z0)).setCell ⟨g7, 1, none⟩ (.int .i64 (k : Int))).setCell ⟨g7, 2, none⟩ (.slice B fs.length cb))) ?hg16 ?ho16 ?hn16 ?hr16 ?_; (case ho16 => rfl); (case hg16 => rfl); (case hn16 => rfl); (case hr16 => first | (go_simp; done) | (go_simp; rfl)); intro wb hw; have HS2 := (((HS1.setAt 0 0 (.int .i64 z0) rfl).setAt 0 1 (.int .i64 (k : Int)) rfl).setAt 0 2 (.slice B fs.length cb) rfl); rw [← hw] at HS2; clear hw HS1 d0 d1 d2 f0 f1 f2 k0 k1 k2; have e0 := HS2.cell 0 0 rfl rfl; have e1 := HS2.cell 0 1 rfl rfl; have e2 := HS2.cell 0 2 rfl rfl) | (go_at_call 24; refine (kind_calls z0 _ HK.out).mono ?_; rintro e wk ⟨he, rfl⟩; rw [hk] at he; subst he) | (go_at_call 28; refine (Double_full g1 ps k HKP.out HFU.out (HS2.pick 1 rfl)).mono ?_; rintro e wc ⟨rfl, HS3⟩; clear HS2 e0 e1 e2) | (go_at_call 29; refine (Len_calls g1 ps HS3).mono ?_; rintro e we ⟨rfl, HSE⟩; clear HS3))
            exact ⟨⟨i + 1, ps, by rw [Int.natCast_add]; rfl, rfl, by omega, by omega, hpl, HBY0.out, HSE.dropAt 1⟩, by simp [intOf]; omega⟩
          · obtain ⟨qs, hqs⟩ : ∃ qs, qs = ps ++ [ps.getD k (0, [])] := ⟨_, rfl⟩
            have hql : qs.length = ps.length + 1 := by rw [hqs, List.length_append]; rfl
            have hsum : (ps.length : Int) + 1 = (qs.length : Int) := by omega
            have hq256 : qs.length ≤ 256 := by omega
            have hdm1 : decide ((qs.length : Int) < 0) = false := decide_eq_false (by omega)
            have hdm2 : decide ((256 : Int) < (qs.length : Int)) = false := decide_eq_false (by omega)
            have hdm3 : decide (256 < qs.length) = false := decide_eq_false (by omega)
            have HQS := Aside0.mk hqs
            have HFU := Aside0.mk (show ps.length < 256 by omega)
            have HBY := Aside0.mk (show (ps.getD k (0, [])).2.length ≤ 140737488355328 from HBY0.out _ (by rw [List.getD_eq_getElem?_getD, List.getElem?_eq_getElem hkp]; exact List.getElem_mem _))
            have HBQ := Aside0.mk (show ∀ y ∈ qs, y.2.length ≤ 140737488355328 from fun y hy => by
              rw [hqs] at hy
              rcases List.mem_append.1 hy with hy | hy
              · exact HBY0.out y hy
              · rw [List.mem_singleton.1 hy]; exact HBY.out)
            clear hqs hql hkp hz hfull
            go_wp2_with (first | ((with_reducible refine gate_dst (N := 7) rfl ?_); refine box_event ?hg17 (N := 7) ?hd17 (cs := #[.int .i64 0, .int .i64 0, .slice none 0 0]) (t := 48) ?hr17 ?_; (case hd17 => rfl); (case hg17 => rfl); (case hr17 => first | (go_simp; done) | (go_simp; rfl)); intro g7 hg wa hbox hb; have HS1 := HS.box hg hbox hb; clear HS hg hbox hb; have d0 := HS1.cell 0 0 rfl rfl; have d1 := HS1.cell 0 1 rfl rfl; have d2 := HS1.cell 0 2 rfl rfl; have f0 := HS1.frozen 0 0 rfl; have f1 := HS1.frozen 0 1 rfl; have f2 := HS1.frozen 0 2 rfl) | ((with_reducible refine gate_store (t := 48) (p := 7) rfl ?_); refine store_event (t := 48) (p := 7) (v := ?vo18) (w1 := (((wa.setCell ⟨g7, 0, none⟩ (.int .i64 z0)).setCell ⟨g7, 1, none⟩ (.int .i64 (k : Int))).setCell ⟨g7, 2, none⟩ (.slice B fs.length cb))) ?hg18 ?ho18 ?hn18 ?hr18 ?_; (case ho18 => rfl); (case hg18 => rfl); (case hn18 => rfl); (case hr18 => first | (go_simp; done) | (go_simp; rfl)); intro wb hw; have HS2 := (((HS1.setAt 0 0 (.int .i64 z0) rfl).setAt 0 1 (.int .i64 (k : Int)) rfl).setAt 0 2 (.slice B fs.length cb) rfl); rw [← hw] at HS2; clear hw HS1 d0 d1 d2 f0 f1 f2 k0 k1 k2; have e0 := HS2.cell 0 0 rfl rfl; have e1 := HS2.cell 0 1 rfl rfl; have e2 := HS2.cell 0 2 rfl rfl) | (go_at_call 24; refine (kind_calls z0 _ HK.out).mono ?_; rintro e wk ⟨he, rfl⟩; rw [hk] at he; subst he) | (go_at_call 28; refine (Double_yes g1 ps k HKP.out HFU.out HBY.out (HS2.pick 1 rfl)).mono ?_; rintro e wc ⟨rfl, HS3⟩; rw [← HQS.out] at HS3; clear HS2 e0 e1 e2) | (go_at_call 29; refine (Len_calls g1 qs HS3).mono ?_; rintro e we ⟨rfl, HSE⟩; clear HS3))
            exact ⟨⟨i + 1, qs, by rw [Int.natCast_add]; rfl, rfl, by omega, by omega, hq256, HBQ.out, HSE.dropAt 1⟩, by simp [intOf]; omega⟩
        · have hz : z1 < 0 ∨ (ps.length : Int) ≤ z1 := by omega
          have HZ := Aside0.mk hz
          clear hz
          go_wp2_with (first | ((with_reducible refine gate_dst (N := 7) rfl ?_); refine box_event ?hg19 (N := 7) ?hd19 (cs := #[.int .i64 0, .int .i64 0, .slice none 0 0]) (t := 48) ?hr19 ?_; (case hd19 => rfl); (case hg19 => rfl); (case hr19 => first | (go_simp; done) | (go_simp; rfl)); intro g7 hg wa hbox hb; have HS1 := HS.box hg hbox hb; clear HS hg hbox hb; have d0 := HS1.cell 0 0 rfl rfl; have d1 := HS1.cell 0 1 rfl rfl; have d2 := HS1.cell 0 2 rfl rfl; have f0 := HS1.frozen 0 0 rfl; have f1 := HS1.frozen 0 1 rfl; have f2 := HS1.frozen 0 2 rfl) | ((with_reducible refine gate_store (t := 48) (p := 7) rfl ?_); refine store_event (t := 48) (p := 7) (v := ?vo20) (w1 := (((wa.setCell ⟨g7, 0, none⟩ (.int .i64 z0)).setCell ⟨g7, 1, none⟩ (.int .i64 z1)).setCell ⟨g7, 2, none⟩ (.slice B fs.length cb))) ?hg20 ?ho20 ?hn20 ?hr20 ?_; (case ho20 => rfl); (case hg20 => rfl); (case hn20 => rfl); (case hr20 => first | (go_simp; done) | (go_simp; rfl)); intro wb hw; have HS2 := (((HS1.setAt 0 0 (.int .i64 z0) rfl).setAt 0 1 (.int .i64 z1) rfl).setAt 0 2 (.slice B fs.length cb) rfl); rw [← hw] at HS2; clear hw HS1 d0 d1 d2 f0 f1 f2 k0 k1 k2; have e0 := HS2.cell 0 0 rfl rfl; have e1 := HS2.cell 0 1 rfl rfl; have e2 := HS2.cell 0 2 rfl rfl) | (go_at_call 24; refine (kind_calls z0 _ HK.out).mono ?_; rintro e wk ⟨he, rfl⟩; rw [hk] at he; subst he) | (go_at_call 28; refine (Double_no g1 ps z1 HZ.out (HS2.pick 1 rfl)).mono ?_; rintro e wc ⟨rfl, HS3⟩; clear HS2 e0 e1 e2) | (go_at_call 29; refine (Len_calls g1 ps HS3).mono ?_; rintro e we ⟨rfl, HSE⟩; clear HS3))
          exact ⟨⟨i + 1, ps, by rw [Int.natCast_add]; rfl, rfl, by omega, by omega, hpl, HBY0.out, HSE.dropAt 1⟩, by simp [intOf]; omega⟩
      -- nothing
      · go_wp2_with (first | ((with_reducible refine gate_dst (N := 7) rfl ?_); refine box_event ?hg21 (N := 7) ?hd21 (cs := #[.int .i64 0, .int .i64 0, .slice none 0 0]) (t := 48) ?hr21 ?_; (case hd21 => rfl); (case hg21 => rfl); (case hr21 => first | (go_simp; done) | (go_simp; rfl)); intro g7 hg wa hbox hb; have HS1 := HS.box hg hbox hb; clear HS hg hbox hb; have d0 := HS1.cell 0 0 rfl rfl; have d1 := HS1.cell 0 1 rfl rfl; have d2 := HS1.cell 0 2 rfl rfl; have f0 := HS1.frozen 0 0 rfl; have f1 := HS1.frozen 0 1 rfl; have f2 := HS1.frozen 0 2 rfl) | ((with_reducible refine gate_store (t := 48) (p := 7) rfl ?_); refine store_event (t := 48) (p := 7) (v := ?vo22) (w1 := (((wa.setCell ⟨g7, 0, none⟩ (.int .i64 z0)).setCell ⟨g7, 1, none⟩ (.int .i64 z1)).setCell ⟨g7, 2, none⟩ (.slice B fs.length cb))) ?hg22 ?ho22 ?hn22 ?hr22 ?_; (case ho22 => rfl); (case hg22 => rfl); (case hn22 => rfl); (case hr22 => first | (go_simp; done) | (go_simp; rfl)); intro wb hw; have HS2 := (((HS1.setAt 0 0 (.int .i64 z0) rfl).setAt 0 1 (.int .i64 z1) rfl).setAt 0 2 (.slice B fs.length cb) rfl); rw [← hw] at HS2; clear hw HS1 d0 d1 d2 f0 f1 f2 k0 k1 k2; have e0 := HS2.cell 0 0 rfl rfl; have e1 := HS2.cell 0 1 rfl rfl; have e2 := HS2.cell 0 2 rfl rfl) | (go_at_call 24; refine (kind_calls z0 _ HK.out).mono ?_; rintro e wk ⟨he, rfl⟩; rw [hk] at he; subst he) | (go_at_call 29; refine (Len_calls g1 ps (HS2.pick 1 rfl)).mono ?_; rintro e we ⟨rfl, HSE⟩; clear HS2))
        exact ⟨⟨i + 1, ps, by rw [Int.natCast_add]; rfl, rfl, by omega, by omega, hpl, HBY0.out, HSE.dropAt 1⟩, by simp [intOf]; omega⟩
    · have hcases : (decide (i < l.length) = false ∧ decide ((i : Int) < (l.length : Int)) = false) ∨ (decide (i < l.length) = true ∧ decide ((i : Int) < 150) = false) := by
        by_cases h : i < l.length
        · exact .inr ⟨decide_eq_true (by omega), decide_eq_false (by omega)⟩
        · exact .inl ⟨decide_eq_false (by omega), decide_eq_false (by omega)⟩
      clear hlt
      rcases hcases with ⟨hd1, hd2⟩ | ⟨hd1, hd2⟩
      all_goals
        go_wp2
        go_ret
        exact ⟨rfl, HS.below⟩

end Go.Proofs.Ytaojnbhnogndnaa.SL
