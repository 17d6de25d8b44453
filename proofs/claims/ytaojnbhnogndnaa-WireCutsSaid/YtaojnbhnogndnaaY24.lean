/- The law WireCuts. -/
import Derived.Test.YtaojnbhnogndnaaY22
namespace Go.Proofs.Ytaojnbhnogndnaa.SL
open Go.RowKit Go.Proofs.YtaojnbhnogndnaaW.PrintWords Go.Proofs.YtaojnbhnogndnaaW.PrintLast Go.Proofs.YtaojnbhnogndnaaW.PrintMore
attribute [local go_sem] max2_int min2_int max_two min_two
attribute [local go_sem high] Small.cell_set_same
set_option linter.unusedVariables false
set_option linter.unusedSimpArgs false

theorem take_piece (xs : List Int) (i : Nat) : xs.take (i * 48) ++ PW16.piece xs i = xs.take ((i + 1) * 48) := by
  unfold PW16.piece
  rw [Nat.succ_mul, List.take_add]
/-! ### WireCuts: function 11 -/
set_option maxHeartbeats 8000000 in
set_option maxRecDepth 100000 in
theorem WireCuts_no {w : World} (kd nd nc : Int) (A : Option Addr) (c : Nat) (xs : List Int) (ec : Int) (hec : PW16.cutE kd nd nc xs = ec) (hz0 : ec ≠ 0) (hr : kB.C w A xs.length xs) (hc0 : xs.length ≤ c) (hx : ∀ x ∈ xs, 0 ≤ x ∧ x < 256) (hl0 : xs.length ≤ 140737488355328) :
    Calls Try.prog 11 #[.agg #[.int .i64 kd, .int .i64 nd, .int .i64 nc, .slice A xs.length c]] w fun e w' => e = .returned (.bool true) ∧ Below w.heap.size w w' := by
  have hu24 := Try.underlying24
  have hu35 := Try.underlying35
  have HS := Sat.start w
  have HR := Aside0.mk hr
  have HX := Aside0.mk hx
  clear hr hx
  obtain ⟨len, hlen⟩ : ∃ len, len = xs.length := ⟨_, rfl⟩
  rw [← hlen] at HR ⊢
  have hc : len ≤ c := by omega
  have hlen2 : len ≤ 140737488355328 := by omega
  have HLEN := Aside0.mk hlen
  clear hlen hc0 hl0
  have HEC := Aside0.mk hec
  have hz1 : (ec == 0) = false := by simpa using hz0
  have hz2 : (ec != 0) = true := by simpa using hz0
  clear hec
  go_enter Try.func11, Try.ntmps11
  go_wp2_with (first | (have hgd := HS; clear hgd; (with_reducible refine gate_dst (N := 1) rfl ?_); refine box_event ?hg9 (N := 1) ?hd9 (cs := #[.int .i64 kd, .int .i64 nd, .int .i64 nc, .slice A len c]) (t := 24) ?hr9 ?_; (case hd9 => rfl); (case hg9 => rfl); (case hr9 => first | (go_simp; done) | (go_simp; rfl)); intro g1 hg w1 hbox hb; have HS1 := HS.box hg hbox hb; clear HS hg hbox hb) | (go_at_call 41; refine shown16_calls.mono ?_; rintro e w2 ⟨rfl, HH⟩; have HS2 := HS1.frame HH; clear HS1 HH; have m0 := HS2.cell 0 0 rfl rfl; have m1 := HS2.cell 0 1 rfl rfl; have m2 := HS2.cell 0 2 rfl rfl; have m3 := HS2.cell 0 3 rfl rfl) | ((with_reducible refine gate_dst (N := 4) rfl ?_); refine box_event ?hg10 (N := 4) ?hd10 (cs := #[.int .i64 0, .int .i64 0, .int .i64 0, .slice none 0 0]) (t := 24) ?hr10 ?_; (case hd10 => rfl); (case hg10 => rfl); (case hr10 => first | (go_simp; done) | (go_simp; rfl)); intro g4 hg w3 hbox hb; have HS3 := HS2.box hg hbox hb; clear HS2 hg hbox hb m0 m1 m2 m3; have d0 := HS3.cell 0 0 rfl rfl; have d1 := HS3.cell 0 1 rfl rfl; have d2 := HS3.cell 0 2 rfl rfl; have d3 := HS3.cell 0 3 rfl rfl; have f0 := HS3.frozen 0 0 rfl; have f1 := HS3.frozen 0 1 rfl; have f2 := HS3.frozen 0 2 rfl; have f3 := HS3.frozen 0 3 rfl) | ((with_reducible refine gate_store (t := 24) (p := 4) rfl ?_); refine store_event (t := 24) (p := 4) (v := ?vo11) (w1 := ((((w3.setCell ⟨g4, 0, none⟩ (.int .i64 kd)).setCell ⟨g4, 1, none⟩ (.int .i64 nd)).setCell ⟨g4, 2, none⟩ (.int .i64 nc)).setCell ⟨g4, 3, none⟩ (.slice A len c))) ?hg11 ?ho11 ?hn11 ?hr11 ?_; (case ho11 => rfl); (case hg11 => rfl); (case hn11 => rfl); (case hr11 => first | (go_simp; done) | (go_simp; rfl)); intro w4 hw; have HS4 := ((((HS3.setAt 0 0 (.int .i64 kd) rfl).setAt 0 1 (.int .i64 nd) rfl).setAt 0 2 (.int .i64 nc) rfl).setAt 0 3 (.slice A len c) rfl); rw [← hw] at HS4; clear hw HS3 d0 d1 d2 d3 f0 f1 f2 f3) | ((with_reducible refine gate_dst (N := 15) rfl ?_); refine box_event2 ?hg12 (N := 15) ?hd12 (v := fun g => .slice (some ⟨g, 0, none⟩) 0 0) (cs := #[]) (t := 5) ?hr12 ?_; (case hd12 => rfl); (case hg12 => rfl); (case hr12 => first | (go_simp; done) | (go_simp; rfl)); intro g15 hg w5 hbox hb; have HS5' := HS4.box hg hbox hb; clear HS4 hg hbox hb; have HS5 := HS5'.emptyRow0 kB; clear HS5'; have m0 := HS5.cell 2 0 rfl rfl; have m1 := HS5.cell 2 1 rfl rfl; have m2 := HS5.cell 2 2 rfl rfl; have m3 := HS5.cell 2 3 rfl rfl) | ((with_reducible refine gate_builtin (b := .append) (xs := #[.tmp 15, .tmp 17]) rfl ?_); refine appRow kB rfl (.tmp 15) (.tmp 17) 22 5 (.int .u8 0) 1 rfl Try.underlying22 inf5 rfl (by decide) (by decide) _ [] xs A len c rfl rfl HS5 (Kd.C_below HR.out HS5.below) (fun _ _ h => h) (by simp; omega) ?_; intro vb w6 HS6; rw [List.nil_append] at HS6; clear HS5 m0 m1 m2 m3; obtain ⟨A1, c1, hv⟩ := HS6.rowShape 0 rfl; rw [← HLEN.out] at hv; subst hv; have HC1 := Aside0.mk (HS6.readsRow 0 rfl).2.1; have d0 := HS6.cell 1 0 rfl rfl; have d1 := HS6.cell 1 1 rfl rfl; have d2 := HS6.cell 1 2 rfl rfl; have d3 := HS6.cell 1 3 rfl rfl; have f0 := HS6.frozen 1 0 rfl; have f1 := HS6.frozen 1 1 rfl; have f2 := HS6.frozen 1 2 rfl; have f3 := HS6.frozen 1 3 rfl) | ((with_reducible refine gate_store (t := 22) (p := 19) rfl ?_); refine store_event (t := 22) (p := 19) (v := ?vo13) (w1 := (w6.setCell ⟨g4, 3, none⟩ (.slice A1 len c1))) ?hg13 ?ho13 ?hn13 ?hr13 ?_; (case ho13 => rfl); (case hg13 => rfl); (case hn13 => rfl); (case hr13 => first | (go_simp; done) | (go_simp; rfl)); intro w7 hw; have HS7 := (HS6.setAt 1 3 (.slice A1 len c1) rfl); rw [← hw] at HS7; clear hw HS6 d0 d1 d2 d3 f0 f1 f2 f3; have d0 := HS7.cell 1 0 rfl rfl; have d1 := HS7.cell 1 1 rfl rfl; have d2 := HS7.cell 1 2 rfl rfl; have d3 := HS7.cell 1 3 rfl rfl) | (go_at_call 42; refine (cut42_no kd nd nc A1 len c1 xs ec HEC.out hz0 (by rw [HLEN.out]; exact (HS7.readsRow 0 rfl).2.2) HC1.out).mono ?_; rintro e w8 ⟨Aa, ca, rfl, HH⟩; have HS8 := HS7.frame HH; clear HS7 HH d0 d1 d2 d3; have m0 := HS8.cell 2 0 rfl rfl; have m1 := HS8.cell 2 1 rfl rfl; have m2 := HS8.cell 2 2 rfl rfl; have m3 := HS8.cell 2 3 rfl rfl) | (go_at_call 16; refine (cut16_no kd nd nc A len c xs ec HEC.out hz0 (Kd.C_below HR.out HS8.below) hc).mono ?_; rintro e w9 ⟨Ab, cb, rfl, HH⟩; have HS9 := HS8.frame HH; clear HS8 HH m0 m1 m2 m3; have d3 := HS9.cell 1 3 rfl rfl; have m3 := HS9.cell 2 3 rfl rfl; have s1 := Kd.C_string (P := Try.prog) (src := 22) (dst := 9) (c := c1) Try.underlying22 Try.underlying5 Try.underlying9 (HS9.readsRow 0 rfl).2.2; rw [← HLEN.out] at s1; have s2 := Kd.C_string (P := Try.prog) (src := 22) (dst := 9) (c := c) Try.underlying22 Try.underlying5 Try.underlying9 (Kd.C_below HR.out HS9.below)) | ((with_reducible refine gate_dst (N := 53) rfl ?_); refine box_event2 ?hg14 (N := 53) ?hd14 (v := fun g => .slice (some ⟨g, 0, none⟩) 0 0) (cs := #[]) (t := 5) ?hr14 ?_; (case hd14 => rfl); (case hg14 => rfl); (case hr14 => first | (go_simp; done) | (go_simp; rfl)); intro g53 hg w10 hbox hb; have HS10' := HS9.box hg hbox hb; clear HS9 hg hbox hb d3 m3 s1 s2; have HS10 := HS10'.emptyRow0 kB; clear HS10'))
  go_loopw [9, 10] (fun v9 v10 wr => v10 = .int .i64 0 ∧ Sat w wr []) (fun _ _ _ => 0)
  case atStart => exact ⟨rfl, HS10.tail.tail.tail.tail⟩
  case round =>
    obtain ⟨rfl, HT⟩ := hrel
    clear HS10
    go_wp2
    go_ret
    exact ⟨rfl, HT.below⟩
set_option maxHeartbeats 16000000 in
set_option maxRecDepth 100000 in
theorem WireCuts_ok {w : World} (kd nd nc : Int) (A : Option Addr) (c : Nat) (xs : List Int) (hec : PW16.cutE kd nd nc xs = 0) (hr : kB.C w A xs.length xs) (hc0 : xs.length ≤ c) (hx : ∀ x ∈ xs, 0 ≤ x ∧ x < 256) (hl0 : xs.length ≤ 140737488355328) :
    Calls Try.prog 11 #[.agg #[.int .i64 kd, .int .i64 nd, .int .i64 nc, .slice A xs.length c]] w fun e w' => e = .returned (.bool true) ∧ Below w.heap.size w w' := by
  obtain ⟨hh, hl, _⟩ := cutE_zero hec
  have hu24 := Try.underlying24
  have hu35 := Try.underlying35
  have HS := Sat.start w
  have HR := Aside0.mk hr
  have HX := Aside0.mk hx
  clear hr hx
  obtain ⟨len, hlen⟩ : ∃ len, len = xs.length := ⟨_, rfl⟩
  rw [← hlen] at HR ⊢
  have hc : len ≤ c := by omega
  have hlen2 : len ≤ 140737488355328 := by omega
  have HLEN := Aside0.mk hlen
  clear hlen hc0 hl0
  have HH0 := Aside0.mk hh
  have HL0 := Aside0.mk hl
  have HCE := Aside0.mk hec
  obtain ⟨n, hn⟩ : ∃ n, n = PW16.cutN xs.length := ⟨_, rfl⟩
  have hn1 : 1 ≤ n := by rw [hn]; exact PW16.cutN_pos _
  have hn2 : n ≤ 86 := by rw [hn]; exact PW16.cutN_le hl
  have HN := Aside0.mk hn
  have HCB := Aside0.mk (show (PW16.cutB kd nd nc xs).length = n from by rw [hn]; exact cutB_len _ _ _ _)
  clear hec hh hl hn
  go_enter Try.func11, Try.ntmps11
  go_wp2_with (first | (have hgd := HS; clear hgd; (with_reducible refine gate_dst (N := 1) rfl ?_); refine box_event ?hg3 (N := 1) ?hd3 (cs := #[.int .i64 kd, .int .i64 nd, .int .i64 nc, .slice A len c]) (t := 24) ?hr3 ?_; (case hd3 => rfl); (case hg3 => rfl); (case hr3 => first | (go_simp; done) | (go_simp; rfl)); intro g1 hg w1 hbox hb; have HS1 := HS.box hg hbox hb; clear HS hg hbox hb) | (go_at_call 41; refine shown16_calls.mono ?_; rintro e w2 ⟨rfl, HH⟩; have HS2 := HS1.frame HH; clear HS1 HH; have m0 := HS2.cell 0 0 rfl rfl; have m1 := HS2.cell 0 1 rfl rfl; have m2 := HS2.cell 0 2 rfl rfl; have m3 := HS2.cell 0 3 rfl rfl) | ((with_reducible refine gate_dst (N := 4) rfl ?_); refine box_event ?hg4 (N := 4) ?hd4 (cs := #[.int .i64 0, .int .i64 0, .int .i64 0, .slice none 0 0]) (t := 24) ?hr4 ?_; (case hd4 => rfl); (case hg4 => rfl); (case hr4 => first | (go_simp; done) | (go_simp; rfl)); intro g4 hg w3 hbox hb; have HS3 := HS2.box hg hbox hb; clear HS2 hg hbox hb m0 m1 m2 m3; have d0 := HS3.cell 0 0 rfl rfl; have d1 := HS3.cell 0 1 rfl rfl; have d2 := HS3.cell 0 2 rfl rfl; have d3 := HS3.cell 0 3 rfl rfl; have f0 := HS3.frozen 0 0 rfl; have f1 := HS3.frozen 0 1 rfl; have f2 := HS3.frozen 0 2 rfl; have f3 := HS3.frozen 0 3 rfl) | ((with_reducible refine gate_store (t := 24) (p := 4) rfl ?_); refine store_event (t := 24) (p := 4) (v := ?vo5) (w1 := ((((w3.setCell ⟨g4, 0, none⟩ (.int .i64 kd)).setCell ⟨g4, 1, none⟩ (.int .i64 nd)).setCell ⟨g4, 2, none⟩ (.int .i64 nc)).setCell ⟨g4, 3, none⟩ (.slice A len c))) ?hg5 ?ho5 ?hn5 ?hr5 ?_; (case ho5 => rfl); (case hg5 => rfl); (case hn5 => rfl); (case hr5 => first | (go_simp; done) | (go_simp; rfl)); intro w4 hw; have HS4 := ((((HS3.setAt 0 0 (.int .i64 kd) rfl).setAt 0 1 (.int .i64 nd) rfl).setAt 0 2 (.int .i64 nc) rfl).setAt 0 3 (.slice A len c) rfl); rw [← hw] at HS4; clear hw HS3 d0 d1 d2 d3 f0 f1 f2 f3) | ((with_reducible refine gate_dst (N := 15) rfl ?_); refine box_event2 ?hg6 (N := 15) ?hd6 (v := fun g => .slice (some ⟨g, 0, none⟩) 0 0) (cs := #[]) (t := 5) ?hr6 ?_; (case hd6 => rfl); (case hg6 => rfl); (case hr6 => first | (go_simp; done) | (go_simp; rfl)); intro g15 hg w5 hbox hb; have HS5' := HS4.box hg hbox hb; clear HS4 hg hbox hb; have HS5 := HS5'.emptyRow0 kB; clear HS5'; have m0 := HS5.cell 2 0 rfl rfl; have m1 := HS5.cell 2 1 rfl rfl; have m2 := HS5.cell 2 2 rfl rfl; have m3 := HS5.cell 2 3 rfl rfl) | ((with_reducible refine gate_builtin (b := .append) (xs := #[.tmp 15, .tmp 17]) rfl ?_); refine appRow kB rfl (.tmp 15) (.tmp 17) 22 5 (.int .u8 0) 1 rfl Try.underlying22 inf5 rfl (by decide) (by decide) _ [] xs A len c rfl rfl HS5 (Kd.C_below HR.out HS5.below) (fun _ _ h => h) (by simp; omega) ?_; intro vb w6 HS6; rw [List.nil_append] at HS6; clear HS5 m0 m1 m2 m3; obtain ⟨A1, c1, hv⟩ := HS6.rowShape 0 rfl; rw [← HLEN.out] at hv; subst hv; have HC1 := Aside0.mk (HS6.readsRow 0 rfl).2.1; have d0 := HS6.cell 1 0 rfl rfl; have d1 := HS6.cell 1 1 rfl rfl; have d2 := HS6.cell 1 2 rfl rfl; have d3 := HS6.cell 1 3 rfl rfl; have f0 := HS6.frozen 1 0 rfl; have f1 := HS6.frozen 1 1 rfl; have f2 := HS6.frozen 1 2 rfl; have f3 := HS6.frozen 1 3 rfl) | ((with_reducible refine gate_store (t := 22) (p := 19) rfl ?_); refine store_event (t := 22) (p := 19) (v := ?vo7) (w1 := (w6.setCell ⟨g4, 3, none⟩ (.slice A1 len c1))) ?hg7 ?ho7 ?hn7 ?hr7 ?_; (case ho7 => rfl); (case hg7 => rfl); (case hn7 => rfl); (case hr7 => first | (go_simp; done) | (go_simp; rfl)); intro w7 hw; have HS7 := (HS6.setAt 1 3 (.slice A1 len c1) rfl); rw [← hw] at HS7; clear hw HS6 d0 d1 d2 d3 f0 f1 f2 f3; have d0 := HS7.cell 1 0 rfl rfl; have d1 := HS7.cell 1 1 rfl rfl; have d2 := HS7.cell 1 2 rfl rfl; have d3 := HS7.cell 1 3 rfl rfl) | (go_at_call 42; refine (cut42_ok kd nd nc A1 len c1 xs n HCE.out HN.out (by rw [HLEN.out]; exact (HS7.readsRow 0 rfl).2.2) HC1.out).mono ?_; rintro e w8 ⟨ba, oa, ca, rfl, HH⟩; have HS8 := HS7.frame HH; clear HS7 HH d0 d1 d2 d3; have m0 := HS8.cell 3 0 rfl rfl; have m1 := HS8.cell 3 1 rfl rfl; have m2 := HS8.cell 3 2 rfl rfl; have m3 := HS8.cell 3 3 rfl rfl) | (go_at_call 16; refine (cut16_ok kd nd nc A len c xs n HCE.out HN.out (Kd.C_below HR.out HS8.below) hc).mono ?_; rintro e w9 ⟨bb, ob, cb, rfl, HH⟩; have HS9 := HS8.frame HH; clear HS8 HH m0 m1 m2 m3; have d3 := HS9.cell 3 3 rfl rfl; have m3 := HS9.cell 4 3 rfl rfl; have s1 := Kd.C_string (P := Try.prog) (src := 22) (dst := 9) (c := c1) Try.underlying22 Try.underlying5 Try.underlying9 (HS9.readsRow 2 rfl).2.2; rw [← HLEN.out] at s1; have s2 := Kd.C_string (P := Try.prog) (src := 22) (dst := 9) (c := c) Try.underlying22 Try.underlying5 Try.underlying9 (Kd.C_below HR.out HS9.below)) | ((with_reducible refine gate_dst (N := 53) rfl ?_); refine box_event2 ?hg8 (N := 53) ?hd8 (v := fun g => .slice (some ⟨g, 0, none⟩) 0 0) (cs := #[]) (t := 5) ?hr8 ?_; (case hd8 => rfl); (case hg8 => rfl); (case hr8 => first | (go_simp; done) | (go_simp; rfl)); intro g53 hg w10 hbox hb; have HS10' := HS9.box hg hbox hb; clear HS9 hg hbox hb d3 m3 s1 s2; have HS10 := HS10'.emptyRow0 kB; clear HS10'))
  go_loopw [9, 10] (fun v9 v10 wr => ∃ i : Nat, v10 = .int .i64 i ∧ i ≤ n ∧ Sat w wr (row kB 5 v9 (xs.take (i * 48)) :: rows kF 22 (.slice (some ⟨bb, ob, none⟩) n cb) (PW16.cutB kd nd nc xs) :: rows kF 22 (.slice (some ⟨ba, oa, none⟩) n ca) (PW16.cutB kd nd nc xs) :: row kB 5 (.slice A1 len c1) xs :: blk g4 (.cells #[.int .i64 kd, .int .i64 nd, .int .i64 nc, .slice A1 len c1] 24 (0, 0)) :: blk g1 (.cells #[.int .i64 kd, .int .i64 nd, .int .i64 nc, .slice A len c] 24 (0, 0)) :: [])) (fun _ v10 _ => n - (intOf v10).toNat)
  case atStart => exact ⟨0, rfl, Nat.zero_le _, by rw [Nat.zero_mul]; exact HS10⟩
  case round =>
    obtain ⟨i, rfl, hi, HT⟩ := hrel
    clear HS10
    obtain ⟨Al, cl, rfl⟩ := HT.rowShape 0 rfl
    obtain ⟨ll, hll⟩ : ∃ ll, ll = (xs.take (i * 48)).length := ⟨_, rfl⟩
    have hll2 : ll ≤ 4096 := by rw [hll, List.length_take]; have := HL0.out; omega
    rw [← hll] at HT ⊢
    have HLL := Aside0.mk hll
    clear hll
    by_cases hin : i < n
    · have h1d : decide ((i : Int) < (n : Int)) = true := decide_eq_true (by omega)
      have h1e : decide (i < n) = true := decide_eq_true hin
      have h2e : decide ((n : Int) ≤ (i : Int)) = false := decide_eq_false (by omega)
      obtain ⟨fr, hfr⟩ : ∃ fr, fr = PW16.frameOf kd nd nc xs i := ⟨_, rfl⟩
      obtain ⟨lk, hlk⟩ : ∃ lk, lk = fr.length := ⟨_, rfl⟩
      obtain ⟨p, hp⟩ : ∃ p, p = PW16.piece xs i := ⟨_, rfl⟩
      obtain ⟨lp, hlp⟩ : ∃ lp, lp = (PW16.piece xs i).length := ⟨_, rfl⟩
      have hlp2 : lp ≤ 48 := by rw [hlp, PW16.piece_len]; omega
      have HFR := Aside0.mk hfr
      have HLK := Aside0.mk hlk
      have HP := Aside0.mk hp
      have HLP := Aside0.mk hlp
      clear hfr hlk hp hlp
      obtain ⟨ba', oa', hbe, hrows⟩ := rows_row (HT.readsRows 2 rfl).2.2 (show 0 < (PW16.cutB kd nd nc xs).length by rw [HCB.out]; omega)
      injection hbe with hbe
      injection hbe with hb1 hb2
      subst hb1 hb2
      obtain ⟨Aa, cka, ka, hca, hck2⟩ := hrows i (by rw [HCB.out]; exact hin)
      rw [cutB_at kd nd nc xs i (by rw [← HN.out]; exact hin), ← HFR.out, ← HLK.out] at ka hca hck2
      have HA := Aside0.mk hck2
      clear hrows hck2
      obtain ⟨bb', ob', hbe, hrows⟩ := rows_row (HT.readsRows 1 rfl).2.2 (show 0 < (PW16.cutB kd nd nc xs).length by rw [HCB.out]; omega)
      injection hbe with hbe
      injection hbe with hb1 hb2
      subst hb1 hb2
      obtain ⟨Ab, ckb, kb, hcb, hck2⟩ := hrows i (by rw [HCB.out]; exact hin)
      rw [cutB_at kd nd nc xs i (by rw [← HN.out]; exact hin), ← HFR.out, ← HLK.out] at kb hcb hck2
      have HB := Aside0.mk hck2
      clear hrows hck2
      have kb0 := Aside0.mk kb
      clear kb
      go_wp2_with (first | (go_at_call 43; refine (readFrame43 kd nd nc xs i n HN.out Aa lk cka (by rw [← HFR.out]; exact HA.out) hca HH0.out HL0.out HX.out hin).mono ?_; rintro e w11 ⟨vx, rfl, HH⟩; have HS11 := HT.frame HH; clear HT HH ka; obtain ⟨Ax, cx, hv⟩ := HS11.rowShape 0 rfl; rw [← HLP.out] at hv; subst hv; rw [← HP.out] at HS11) | ((with_reducible refine gate_dst (N := 11) rfl ?_); refine box_event ?hg1 (N := 11) ?hd1 (cs := #[.int .i64 0, .int .i64 0, .int .i64 0, .int .i64 0, .int .i64 0, .slice none 0 0]) (t := 35) ?hr1 ?_; (case hd1 => rfl); (case hg1 => rfl); (case hr1 => first | (go_simp; done) | (go_simp; rfl)); intro g11 hg w12 hbox hb; have HS12 := HS11.box hg hbox hb; clear HS11 hg hbox hb; have d0 := HS12.cell 0 0 rfl rfl; have d1 := HS12.cell 0 1 rfl rfl; have d2 := HS12.cell 0 2 rfl rfl; have d3 := HS12.cell 0 3 rfl rfl; have d4 := HS12.cell 0 4 rfl rfl; have d5 := HS12.cell 0 5 rfl rfl; have f0 := HS12.frozen 0 0 rfl; have f1 := HS12.frozen 0 1 rfl; have f2 := HS12.frozen 0 2 rfl; have f3 := HS12.frozen 0 3 rfl; have f4 := HS12.frozen 0 4 rfl; have f5 := HS12.frozen 0 5 rfl) | ((with_reducible refine gate_store (t := 35) (p := 11) rfl ?_); refine store_event (t := 35) (p := 11) (v := ?vo2) (w1 := ((((((w12.setCell ⟨g11, 0, none⟩ (.int .i64 kd)).setCell ⟨g11, 1, none⟩ (.int .i64 nd)).setCell ⟨g11, 2, none⟩ (.int .i64 nc)).setCell ⟨g11, 3, none⟩ (.int .i64 i)).setCell ⟨g11, 4, none⟩ (.int .i64 n)).setCell ⟨g11, 5, none⟩ (.slice Ax lp cx))) ?hg2 ?ho2 ?hn2 ?hr2 ?_; (case ho2 => rfl); (case hg2 => rfl); (case hn2 => rfl); (case hr2 => first | (go_simp; done) | (go_simp; rfl)); intro w13 hw; have HS13 := ((((((HS12.setAt 0 0 (.int .i64 kd) rfl).setAt 0 1 (.int .i64 nd) rfl).setAt 0 2 (.int .i64 nc) rfl).setAt 0 3 (.int .i64 i) rfl).setAt 0 4 (.int .i64 n) rfl).setAt 0 5 (.slice Ax lp cx) rfl); rw [← hw] at HS13; clear hw HS12 d0 d1 d2 d3 d4 d5 f0 f1 f2 f3 f4 f5))
      obtain ⟨ba', oa', hbe, hrows⟩ := rows_row (HS13.readsRows 4 rfl).2.2 (show 0 < (PW16.cutB kd nd nc xs).length by rw [HCB.out]; omega)
      injection hbe with hbe
      injection hbe with hb1 hb2
      subst hb1 hb2
      obtain ⟨Aa, cka, ka, hca, hck2⟩ := hrows i (by rw [HCB.out]; exact hin)
      rw [cutB_at kd nd nc xs i (by rw [← HN.out]; exact hin), ← HFR.out, ← HLK.out] at ka hca hck2
      have HA := Aside0.mk hck2
      clear hrows hck2
      obtain ⟨bb', ob', hbe, hrows⟩ := rows_row (HS13.readsRows 3 rfl).2.2 (show 0 < (PW16.cutB kd nd nc xs).length by rw [HCB.out]; omega)
      injection hbe with hbe
      injection hbe with hb1 hb2
      subst hb1 hb2
      obtain ⟨Ab, ckb, kb, hcb, hck2⟩ := hrows i (by rw [HCB.out]; exact hin)
      rw [cutB_at kd nd nc xs i (by rw [← HN.out]; exact hin), ← HFR.out, ← HLK.out] at kb hcb hck2
      have HB := Aside0.mk hck2
      clear hrows hck2
      refine region (frees [0, 1, 2, 5, 6, 7] (helds [3, 4, 8, 9] (frees [10, 11, 12, 13, 14, 15, 16, 18] (helds [17, 19] (frees [20, 21, 22, 23, 25] (helds [24, 26] (frees [27, 28, 29, 30, 32] (helds [31, 33] (frees [34, 35, 36, 37, 39] (helds [38] (frees [40, 41, 42, 43, 45, 46] (helds [44] (frees [47, 48] .done))))))))))))) (fun w' => w'.cell? ⟨ba, oa + i, none⟩ = some (.slice Aa lk cka) ∧ w'.cell? ⟨bb, ob + i, none⟩ = some (.slice Ab lk ckb) ∧ (convert 22 9 (.slice Aa lk cka)).run Try.prog w' = .ok (.string (strOfNums fr)) w' ∧ (convert 22 9 (.slice Ab lk ckb)).run Try.prog w' = .ok (.string (strOfNums fr)) w' ∧ w'.cell? ⟨g11, 0, none⟩ = some (.int .i64 kd) ∧ w'.cell? ⟨g11, 1, none⟩ = some (.int .i64 nd) ∧ w'.cell? ⟨g11, 2, none⟩ = some (.int .i64 nc) ∧ w'.cell? ⟨g11, 3, none⟩ = some (.int .i64 i) ∧ w'.cell? ⟨g11, 4, none⟩ = some (.int .i64 n) ∧ w'.cell? ⟨g1, 0, none⟩ = some (.int .i64 kd) ∧ w'.cell? ⟨g1, 1, none⟩ = some (.int .i64 nd) ∧ w'.cell? ⟨g1, 2, none⟩ = some (.int .i64 nc)) [] (by kernel_rfl) (by kernel_rfl) ?_
      have HS14 := HS13.drew
      have HD : Below w13.heap.size w13 w13.drew := below_drew (Below.refl _ _)
      generalize w13.drew = w14 at HS14 HD ⊢
      clear HS13
      have ka := (HD.cell (World.block_lt_of_cell? _ _ ka)).trans ka
      have kb := (HD.cell (World.block_lt_of_cell? _ _ kb)).trans kb
      have sa := Kd.C_string (P := Try.prog) (src := 22) (dst := 9) (c := cka) Try.underlying22 Try.underlying5 Try.underlying9 (Kd.C_below (by have h := HA.out; rw [HLK.out] at h; exact h) HD)
      have sb := Kd.C_string (P := Try.prog) (src := 22) (dst := 9) (c := ckb) Try.underlying22 Try.underlying5 Try.underlying9 (Kd.C_below (by have h := HB.out; rw [HLK.out] at h; exact h) HD)
      rw [← HLK.out] at sa sb
      have e0 := HS14.cell 0 0 rfl rfl
      have e1 := HS14.cell 0 1 rfl rfl
      have e2 := HS14.cell 0 2 rfl rfl
      have e3 := HS14.cell 0 3 rfl rfl
      have e4 := HS14.cell 0 4 rfl rfl
      have m0 := HS14.cell 7 0 rfl rfl
      have m1 := HS14.cell 7 1 rfl rfl
      have m2 := HS14.cell 7 2 rfl rfl
      repeat (first | (refine st_free (v := ?_) (a' := ?_) (by simp only [List.getElem?_toArray, List.getElem?_cons_succ, List.getElem?_cons_zero]; rfl) (by rfl) ?_ ?_ ?_; rotate_left 2; (intro w'; go_simp; with_reducible rfl); (simp only [Act.put, List.setIfInBounds_toArray, List.set_cons_zero, List.set_cons_succ]; rfl)) | (refine st_held (v := ?_) (a' := ?_) ⟨ka, kb, sa, sb, e0, e1, e2, e3, e4, m0, m1, m2⟩ (by simp only [List.getElem?_toArray, List.getElem?_cons_succ, List.getElem?_cons_zero]; rfl) (by rfl) ?_ ?_ ?_; rotate_left 2; (rintro w' ⟨z0, z1, z2, z3, z4, z5, z6, z7, z8, z9, z10, z11⟩; go_simp; with_reducible rfl); (simp only [Act.put, List.setIfInBounds_toArray, List.set_cons_zero, List.set_cons_succ]; rfl)))
      refine st_done ?_
      have e5 := HS14.cell 0 5 rfl rfl
      have HPX := Aside0.mk (by have h := (HS14.readsRow 1 rfl).2.2; rw [HP.out, ← HLP.out, ← HP.out] at h; exact h)
      go_wp2_with (first | ((with_reducible refine gate_builtin (b := .append) (xs := #[.tmp 117, .tmp 119]) rfl ?_); refine appRow kB rfl (.tmp 117) (.tmp 119) 22 5 (.int .u8 0) 1 rfl Try.underlying22 inf5 rfl (by decide) (by decide) _ (xs.take (i * 48)) p Ax lp cx rfl rfl (HS14.pick 2 rfl) HPX.out (fun _ _ h => h) (by rw [← HLL.out]; omega) ?_; intro vn w15 HS15; rw [HP.out, take_piece] at HS15; have HS16 := ((HS15.pick 1 rfl).tail.pick 1 rfl).tail; clear HS14 HS15))
      exact ⟨⟨i + 1, by rw [Int.natCast_add]; rfl, by omega, HS16⟩, by simp [intOf]; omega⟩
    · have h1d : decide ((i : Int) < (n : Int)) = false := decide_eq_false (by omega)
      have h1e : decide (i < n) = false := decide_eq_false hin
      have hall : xs.take (i * 48) = xs := by
        refine List.take_of_length_le ?_
        have h1 : i = n := by omega
        rw [h1, HN.out]
        unfold PW16.cutN
        omega
      rw [hall] at HT
      have m3 := HT.cell 5 3 rfl rfl
      have s1 := Kd.C_string (P := Try.prog) (src := 22) (dst := 9) (c := cl) Try.underlying22 Try.underlying5 Try.underlying9 (HT.readsRow 0 rfl).2.2
      have s2 := Kd.C_string (P := Try.prog) (src := 22) (dst := 9) (c := c) Try.underlying22 Try.underlying5 Try.underlying9 (Kd.C_below HR.out HT.below)
      rw [← hall, ← HLL.out, hall] at s1
      clear hall
      go_wp2
      go_ret
      exact ⟨rfl, HT.below⟩
theorem WireCuts_calls {w : World} (kd nd nc : Int) (A : Option Addr) (c : Nat) (xs : List Int) (hr : kB.C w A xs.length xs) (hc0 : xs.length ≤ c) (hx : ∀ x ∈ xs, 0 ≤ x ∧ x < 256) (hl0 : xs.length ≤ 140737488355328) :
    Calls Try.prog 11 #[.agg #[.int .i64 kd, .int .i64 nd, .int .i64 nc, .slice A xs.length c]] w fun e w' => e = .returned (.bool true) ∧ Below w.heap.size w w' := by
  by_cases h : PW16.cutE kd nd nc xs = 0
  · exact WireCuts_ok kd nd nc A c xs h hr hc0 hx hl0
  · exact WireCuts_no kd nd nc A c xs _ rfl h hr hc0 hx hl0

end Go.Proofs.Ytaojnbhnogndnaa.SL
