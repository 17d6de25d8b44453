/- The law WireTurned. -/
import Derived.Test.YtaojnbhnogndnaaY23
import Derived.Test.YtaojnbhnogndnaaY26
namespace Go.Proofs.Ytaojnbhnogndnaa.SL
open Go.RowKit Go.Proofs.YtaojnbhnogndnaaW.PrintWords Go.Proofs.YtaojnbhnogndnaaW.PrintLast Go.Proofs.YtaojnbhnogndnaaW.PrintMore
attribute [local go_sem] max2_int min2_int max_two min_two
attribute [local go_sem high] Small.cell_set_same
set_option linter.unusedVariables false
set_option linter.unusedSimpArgs false

def selT (mk : Int) (f j : Nat) : Bool := decide (Go.bits .and .u32 (mk / 2 ^ j) 1 = 1) && (((f : Int) + (j : Int)) / 8 != 9)
theorem sel_skip {S : Nat → Bool} {i : Nat} (h : S i = false) : (∃ j, j < i ∧ S j = true) ↔ ∃ j, j < i + 1 ∧ S j = true := by
  refine ⟨fun ⟨j, h1, h2⟩ => ⟨j, by omega, h2⟩, fun ⟨j, h1, h2⟩ => ⟨j, ?_, h2⟩⟩
  rcases Nat.lt_succ_iff_lt_or_eq.1 h1 with h3 | rfl
  · exact h3
  · rw [h] at h2; cases h2
theorem two_pow8 {k : Nat} (hk : k < 8) : 2 ^ k < 256 := by
  have := Nat.pow_le_pow_right (show 0 < 2 by decide) (show k ≤ 7 by omega)
  omega
theorem wrap_two {k : Nat} (hk : k < 8) : IntKind.u8.wrap ((2 : Int) ^ k) = ((2 ^ k : Nat) : Int) := by
  have h1 := two_pow8 hk
  have h2 : (2 : Int) ^ k = ((2 ^ k : Nat) : Int) := by rw [Int.natCast_pow]; rfl
  rw [IntKind.wrap_u8, h2]
  generalize 2 ^ k = z at h1
  omega
/-! ### WireTurned: function 13 -/
set_option maxHeartbeats 8000000 in
set_option maxRecDepth 100000 in
theorem WireTurned_no {w : World} (kd nd nc : Int) (A : Option Addr) (c : Nat) (xs : List Int) (tt mk : Int) (ec : Int) (hec : PW16.cutE kd nd nc xs = ec) (hz0 : ec ≠ 0) (hr : kB.C w A xs.length xs) (hc0 : xs.length ≤ c) (hx : ∀ x ∈ xs, 0 ≤ x ∧ x < 256) (ht : -9223372036854775808 ≤ tt ∧ tt ≤ 9223372036854775807) (hm : 0 ≤ mk ∧ mk < 4294967296) :
    Calls Try.prog 13 #[.agg #[.int .i64 kd, .int .i64 nd, .int .i64 nc, .slice A xs.length c], .int .i64 tt, .int .u32 mk] w fun e w' => e = .returned (.bool true) ∧ Below w.heap.size w w' := by
  have hu24 := Try.underlying24
  have hu35 := Try.underlying35
  have HS := Sat.start w
  have HR := Aside0.mk hr
  have HX := Aside0.mk hx
  clear hr hx
  obtain ⟨len, hlen⟩ : ∃ len, len = xs.length := ⟨_, rfl⟩
  rw [← hlen] at HR ⊢
  have hc : len ≤ c := by omega
  have HLEN := Aside0.mk hlen
  clear hlen hc0
  have HEC := Aside0.mk hec
  have hz1 : (ec == 0) = false := by simpa using hz0
  have hz2 : (ec != 0) = true := by simpa using hz0
  clear hec
  go_enter Try.func13, Try.ntmps13
  go_wp2_with (first | (have hgd := HS; clear hgd; (with_reducible refine gate_dst (N := 3) rfl ?_); refine box_event ?hg1 (N := 3) ?hd1 (cs := #[.int .i64 kd, .int .i64 nd, .int .i64 nc, .slice A len c]) (t := 24) ?hr1 ?_; (case hd1 => rfl); (case hg1 => rfl); (case hr1 => first | (go_simp; done) | (go_simp; rfl)); intro g3 hg w1 hbox hb; have HS1 := HS.box hg hbox hb; clear HS hg hbox hb) | (go_at_call 41; refine shown16_calls.mono ?_; rintro e w2 ⟨rfl, HH⟩; have HS2 := HS1.frame HH; clear HS1 HH; have m0 := HS2.cell 0 0 rfl rfl; have m1 := HS2.cell 0 1 rfl rfl; have m2 := HS2.cell 0 2 rfl rfl; have m3 := HS2.cell 0 3 rfl rfl) | (go_at_call 42; refine (cut42_no kd nd nc A len c xs ec HEC.out hz0 (Kd.C_below HR.out HS2.below) hc).mono ?_; rintro e w3 ⟨Aa, ca, rfl, HH⟩; have HS3 := HS2.frame HH; clear HS2 HH m0 m1 m2 m3))
  go_ret
  exact ⟨rfl, HS3.below⟩
set_option maxHeartbeats 8000000 in
set_option maxRecDepth 100000 in
theorem WireTurned_ok {w : World} (kd nd nc : Int) (A : Option Addr) (c : Nat) (xs : List Int) (tt mk : Int) (hec : PW16.cutE kd nd nc xs = 0) (hr : kB.C w A xs.length xs) (hc0 : xs.length ≤ c) (hx : ∀ x ∈ xs, 0 ≤ x ∧ x < 256) (ht : -9223372036854775808 ≤ tt ∧ tt ≤ 9223372036854775807) (hm : 0 ≤ mk ∧ mk < 4294967296) :
    Calls Try.prog 13 #[.agg #[.int .i64 kd, .int .i64 nd, .int .i64 nc, .slice A xs.length c], .int .i64 tt, .int .u32 mk] w fun e w' => e = .returned (.bool true) ∧ Below w.heap.size w w' := by
  obtain ⟨hh, hl, _⟩ := cutE_zero hec
  have hu24 := Try.underlying24
  have hu35 := Try.underlying35
  have HS := Sat.start w
  have HR := Aside0.mk hr
  have HX := Aside0.mk hx
  clear hr hx
  obtain ⟨len, hlen⟩ : ∃ len, len = xs.length := ⟨_, rfl⟩
  rw [← hlen] at HR ⊢
  have hc : len ≤ c := by omega
  have HLEN := Aside0.mk hlen
  clear hlen hc0
  have HH0 := Aside0.mk hh
  have HL0 := Aside0.mk hl
  have HCE := Aside0.mk hec
  have HMK := Aside0.mk hm
  clear hm
  obtain ⟨ht0, ht1⟩ := ht
  obtain ⟨n, hn⟩ : ∃ n, n = PW16.cutN xs.length := ⟨_, rfl⟩
  have hn1 : 1 ≤ n := by rw [hn]; exact PW16.cutN_pos _
  have hn2 : n ≤ 86 := by rw [hn]; exact PW16.cutN_le hl
  have HN := Aside0.mk hn
  have HCB := Aside0.mk (show (PW16.cutB kd nd nc xs).length = n from by rw [hn]; exact cutB_len _ _ _ _)
  have hn3 : ((n : Int) == 0) = false := by simp; omega
  clear hec hh hl hn
  go_enter Try.func13, Try.ntmps13
  go_upto_if 41 with (first | (have hgd := HS; clear hgd; (with_reducible refine gate_dst (N := 3) rfl ?_); refine box_event ?hg2 (N := 3) ?hd2 (cs := #[.int .i64 kd, .int .i64 nd, .int .i64 nc, .slice A len c]) (t := 24) ?hr2 ?_; (case hd2 => rfl); (case hg2 => rfl); (case hr2 => first | (go_simp; done) | (go_simp; rfl)); intro g3 hg w1 hbox hb; have HS1 := HS.box hg hbox hb; clear HS hg hbox hb) | (go_at_call 41; refine shown16_calls.mono ?_; rintro e w2 ⟨rfl, HH⟩; have HS2 := HS1.frame HH; clear HS1 HH; have m0 := HS2.cell 0 0 rfl rfl; have m1 := HS2.cell 0 1 rfl rfl; have m2 := HS2.cell 0 2 rfl rfl; have m3 := HS2.cell 0 3 rfl rfl) | (go_at_call 42; refine (cut42_ok kd nd nc A len c xs n HCE.out HN.out (Kd.C_below HR.out HS2.below) hc).mono ?_; rintro e w3 ⟨ba, oa, ca, rfl, HH⟩; have HS3 := HS2.frame HH; clear HS2 HH m0 m1 m2 m3))
  go_cut [1] (fun v1 wd => ∃ t : Nat, v1 = .int .i64 t ∧ t ≤ 9223372036854775807 ∧ wd = w3)
  case first =>
    by_cases hneg : tt < 0
    · have hzd : decide (tt < 0) = true := decide_eq_true hneg
      go_wp2_with fail
      go_meet
      case rel => exact ⟨(-(tt + 1)).toNat, by rw [Int.toNat_of_nonneg (by omega)], by omega, rfl⟩
    · have hzd : decide (tt < 0) = false := decide_eq_false hneg
      go_wp2_with fail
      go_meet
      case rel => exact ⟨tt.toNat, by rw [Int.toNat_of_nonneg (by omega)], by omega, rfl⟩
  case rest =>
    obtain ⟨t, rfl, ht2, rfl⟩ := hcut
    obtain ⟨w4, rfl⟩ : ∃ w4, w4 = wc := ⟨_, rfl⟩
    clear ht0 ht1
    obtain ⟨kk, hkk⟩ : ∃ kk, kk = t % n := ⟨_, rfl⟩
    have hkn : kk < n := by rw [hkk]; exact Nat.mod_lt _ (by omega)
    have hk1 : (t : Int).tmod (n : Int) = (kk : Int) := by rw [hkk]; rfl
    have hk2 : (t : Int) % (n : Int) = (kk : Int) := by rw [hkk]; rfl
    have hk3 : decide ((kk : Int) < 0) = false := decide_eq_false (by omega)
    have hk4 : decide ((n : Int) ≤ (kk : Int)) = false := decide_eq_false (by omega)
    have hn4 : ((n : Int) = 0) = False := eq_false (by omega)
    obtain ⟨fr, hfr⟩ : ∃ fr, fr = PW16.frameOf kd nd nc xs kk := ⟨_, rfl⟩
    obtain ⟨lk, hlk⟩ : ∃ lk, lk = fr.length := ⟨_, rfl⟩
    have hlk2 : 14 ≤ lk ∧ lk ≤ 62 := by rw [hlk, hfr]; unfold PW16.frameOf; rw [PW16.frameB_len, PW16.piece_len]; omega
    have HFR := Aside0.mk hfr
    have HLK := Aside0.mk hlk
    have HT2 := Aside0.mk ht2
    clear hfr hlk hkk
    obtain ⟨f, hf, hf2⟩ : ∃ f : Nat, (t : Int) % (8 * (lk : Int) - 31) = f ∧ f + 32 ≤ 8 * lk := by
      have h1 := Int.emod_nonneg (t : Int) (show (8 * (lk : Int) - 31) ≠ 0 by omega)
      have h2 := Int.emod_lt_of_pos (t : Int) (show (0 : Int) < 8 * (lk : Int) - 31 by omega)
      exact ⟨((t : Int) % (8 * (lk : Int) - 31)).toNat, by omega, by omega⟩
    obtain ⟨ba', oa', hbe, hrows⟩ := rows_row (HS3.readsRows 0 rfl).2.2 (show 0 < (PW16.cutB kd nd nc xs).length by rw [HCB.out]; omega)
    injection hbe with hbe
    injection hbe with hb1 hb2
    subst hb1 hb2
    obtain ⟨Aa, cka, ka, hca, hck2⟩ := hrows kk (by rw [HCB.out]; exact hkn)
    rw [cutB_at kd nd nc xs kk (by rw [← HN.out]; exact hkn), ← HFR.out, ← HLK.out] at ka hca hck2
    have HA := Aside0.mk hck2
    clear hrows hck2
    go_wp2_with (first | ((with_reducible refine gate_dst (N := 45) rfl ?_); refine box_event2 ?hg17 (N := 45) ?hd17 (v := fun g => .slice (some ⟨g, 0, none⟩) 0 0) (cs := #[]) (t := 5) ?hr17 ?_; (case hd17 => rfl); (case hg17 => rfl); (case hr17 => first | (go_simp; done) | (go_simp; rfl)); intro g45 hg w5 hbox hb; have HS5' := HS3.box hg hbox hb; have ka := (hb.cell (World.block_lt_of_cell? _ _ ka)).trans ka; have HA := Aside0.mk (Kd.C_below HA.out hb); clear HS3 hg hbox hb; have HS5 := HS5'.emptyRow0 kB; clear HS5') | ((with_reducible refine gate_builtin (b := .append) (xs := #[.tmp 45, .tmp 52]) rfl ?_); refine appRow kB rfl (.tmp 45) (.tmp 52) 22 5 (.int .u8 0) 1 rfl Try.underlying22 inf5 rfl (by decide) (by decide) _ [] fr Aa lk cka rfl rfl HS5 HA.out (fun _ _ h => h) (by simp; omega) ?_; intro vb w6 HS6; rw [List.nil_append] at HS6; clear HS5 ka HA; obtain ⟨A1, c1, hv⟩ := HS6.rowShape 0 rfl; rw [← HLK.out] at hv; subst hv; have HC1 := Aside0.mk (HS6.readsRow 0 rfl).2.1))
    have HKN := Aside0.mk hkn
    clear hk1 hk2 hk3 hk4 hf hkn
    go_loopw [13, 14] (fun v13 v14 wr => ∃ (i : Nat) (ys : List Int) (tb : Bool), v14 = .int .i64 i ∧ i ≤ 32 ∧ v13 = .bool tb ∧ TurnedTo fr ys f i (selT mk f) ∧ (tb = true ↔ ∃ j, j < i ∧ selT mk f j = true) ∧ Sat w wr [row kB 5 (.slice A1 lk c1) ys]) (fun _ v14 _ => 32 - (intOf v14).toNat)
    case atStart => exact ⟨0, fr, false, rfl, by omega, rfl, TurnedTo.start (by rw [HFR.out]; exact frameOf_in _ _ _ HX.out _) f _, by simp, (HS6.pick 0 rfl).swap.tail.swap.tail⟩
    case round =>
      obtain ⟨i, ys, tb, rfl, hi, rfl, htu, htb, HT⟩ := hrel
      clear HS6
      by_cases hin : i < 32
      · have h1d : decide ((i : Int) < 32) = true := decide_eq_true (by omega)
        have h1e : decide (i < 32) = true := decide_eq_true hin
        have HTU := Aside0.mk htu
        have HTB := Aside0.mk htb
        clear htu htb
        obtain ⟨q, hq, hq2⟩ : ∃ q : Nat, (f : Int) + (i : Int) = q ∧ q = f + i := ⟨f + i, by rw [Int.natCast_add], rfl⟩
        have hqb : q + 1 ≤ 8 * lk := by omega
        have HQ2 := Aside0.mk hq2
        clear hq2
        have hqw : IntKind.i64.wrap ((f : Int) + (i : Int)) = (q : Int) := (Go.IntWalk.i64_in _ (by omega)).trans hq
        by_cases hm1 : Go.bits .and .u32 (mk / 2 ^ i) 1 = 1
        · cases h9 : (((q : Nat) : Int) / 8 != 9) with
          | true =>
            have HSI := Aside0.mk (show selT mk f i = true from by unfold selT; rw [decide_eq_true hm1, hq, h9]; rfl)
            have h9e : decide ((q : Int) / 8 = 9) = false := by simpa using h9
            obtain ⟨p, hp, hp2⟩ : ∃ p : Nat, (q : Int) / 8 = p ∧ p = q / 8 := ⟨q / 8, rfl, rfl⟩
            obtain ⟨k, hk, hk2⟩ : ∃ k : Nat, (q : Int) % 8 = k ∧ k = q % 8 := ⟨q % 8, rfl, rfl⟩
            have hp3 : (q : Int).tdiv 8 = p := hp
            have hk3 : (q : Int).tmod 8 = k := hk
            have hpl : p < lk := by omega
            have hk8 : k < 8 := by omega
            have HP2 := Aside0.mk (show p = (f + i) / 8 from by rw [hp2, HQ2.out])
            have HK2 := Aside0.mk (show k = (f + i) % 8 from by rw [hk2, HQ2.out])
            have hp4 : decide ((lk : Int) ≤ (p : Int)) = false := decide_eq_false (by omega)
            have hp6 : decide ((p : Int) < (lk : Int)) = true := decide_eq_true (by omega)
            have hp7 : decide (p < lk) = true := decide_eq_true hpl
            have hp5 : decide ((p : Int) < 0) = false := decide_eq_false (by omega)
            clear hp2 hk2
            have hpw : IntKind.i64.wrap (p : Int) = p := Go.IntWalk.i64_in _ (by omega)
            have hkw : IntKind.i64.wrap (k : Int) = k := Go.IntWalk.i64_in _ (by omega)
            obtain ⟨g, hA1, kc, kf⟩ := HT.rowCell 0 rfl p hpl
            subst hA1
            go_wp2_with fail
            refine region (frees [0, 1, 2, 3, 4, 5, 6, 8, 9, 10] (helds [7] (frees [11, 12] (.last 13 .done)))) (fun w' => w'.cell? ⟨g, p, none⟩ = some (.int .u8 (ys.getD p 0))) [13] (by kernel_rfl) (by kernel_rfl) ?_
            have HT1 := HT.drew
            have HD : Below wr.heap.size wr wr.drew := below_drew (Below.refl _ _)
            generalize wr.drew = w8 at HT1 HD ⊢
            have kc := (HD.cell (World.block_lt_of_cell? _ _ kc)).trans kc
            clear HT kf
            repeat (first | (refine st_free (v := ?_) (a' := ?_) (by simp only [List.getElem?_toArray, List.getElem?_cons_succ, List.getElem?_cons_zero]; rfl) (by rfl) ?_ ?_ ?_; rotate_left 2; (intro w'; go_simp; with_reducible rfl); (simp only [Act.put, List.setIfInBounds_toArray, List.set_cons_zero, List.set_cons_succ]; rfl)) | (refine st_held (v := ?_) (a' := ?_) kc (by simp only [List.getElem?_toArray, List.getElem?_cons_succ, List.getElem?_cons_zero]; rfl) (by rfl) ?_ ?_ ?_; rotate_left 2; (rintro w' z0; go_simp; with_reducible rfl); (simp only [Act.put, List.setIfInBounds_toArray, List.set_cons_zero, List.set_cons_succ]; rfl)))
            have kf2 : w8.frozen? ⟨g, p, none⟩ = false := by
              obtain ⟨g', hA2, _, kf2⟩ := HT1.rowCell 0 rfl p hpl
              cases hA2
              exact kf2
            refine st_last (by simp only [List.getElem?_toArray, List.getElem?_cons_succ, List.getElem?_cons_zero]; rfl) ?_
            refine store_event (t := 5) (p := 90) (v := .tmp 89) (w1 := w8.setCell ⟨g, p, none⟩ (.int .u8 (Go.bits .xor .u8 (ys[p]?.getD 0) (IntKind.u8.wrap (2 ^ k))))) rfl rfl rfl (by go_simp) ?_
            rintro _ rfl
            have hgd2 : ys[p]?.getD 0 = ys.getD p 0 := by rw [List.getD_eq_getElem?_getD]
            have HT2 := HT1.rowPut p (Go.bits .xor .u8 (ys[p]?.getD 0) (IntKind.u8.wrap (2 ^ k)))
            obtain ⟨x, hx⟩ : ∃ x, x = Go.bits .xor .u8 (ys[p]?.getD 0) (IntKind.u8.wrap (2 ^ k)) := ⟨_, rfl⟩
            rw [← hx] at HT2 ⊢
            have hrx := reg_xor (getD_in HTU.out.2.1 p) (show 0 ≤ ((2 ^ k : Nat) : Int) ∧ ((2 ^ k : Nat) : Int) < 256 from ⟨Int.natCast_nonneg _, by have := two_pow8 hk8; omega⟩)
            rw [hgd2, wrap_two hk8] at hx
            rw [← hx] at hrx
            have HRX := Aside0.mk hrx
            have HFL := Aside0.mk (show f + i < 8 * fr.length from by rw [← HLK.out, ← HQ2.out]; omega)
            clear HT1 kc kf2 hgd2 hx hrx hpw hkw hp3 hk3 hp hk
            refine st_norm rfl ?_
            refine st_done ?_
            generalize w8.setCell _ _ = w9 at HT2 ⊢
            go_wp2_with fail
            exact ⟨⟨i + 1, ys.set p x, true, by rw [Int.natCast_add]; rfl, by omega, rfl, by
              have h := HTU.out.turn HSI.out x HFL.out HRX.out.1 (fun j hj => by rw [HRX.out.2 j hj, bt_one k j (by omega), HP2.out, HK2.out])
              rw [← HP2.out] at h; exact h, ⟨fun _ => ⟨i, by omega, HSI.out⟩, fun _ => rfl⟩, HT2⟩, by simp [intOf]; omega⟩
          | false =>
            have HSI := Aside0.mk (show selT mk f i = false from by unfold selT; rw [hq, h9]; simp)
            go_wp2_with fail
            exact ⟨⟨i + 1, ys, tb, by rw [Int.natCast_add]; rfl, by omega, rfl, HTU.out.skip HSI.out, HTB.out.trans (sel_skip HSI.out), HT⟩, by simp [intOf]; omega⟩
        · have HSI := Aside0.mk (show selT mk f i = false from by unfold selT; rw [decide_eq_false hm1]; rfl)
          go_wp2_with fail
          exact ⟨⟨i + 1, ys, tb, by rw [Int.natCast_add]; rfl, by omega, rfl, HTU.out.skip HSI.out, HTB.out.trans (sel_skip HSI.out), HT⟩, by simp [intOf]; omega⟩
      · have h1d : decide ((i : Int) < 32) = false := decide_eq_false (by omega)
        have h1e : decide (i < 32) = false := decide_eq_false hin
        obtain rfl : i = 32 := by omega
        have hfx := frameOf_in kd nd nc HX.out kk
        rw [← HFR.out] at hfx
        have hly := htu.1
        rw [← HLK.out] at hly
        have HLY := Aside0.mk hly
        have HC2 := Aside0.mk (HT.readsRow 0 rfl).2.1
        have hlk3 : lk ≤ 140737488355328 := by omega
        cases tb with
        | true =>
          obtain ⟨j, hj, hsj⟩ := htb.1 rfl
          have hok : ReadOk fr := by
            rw [HFR.out]
            exact (frameOf_reads kd nd nc xs HH0.out HL0.out kk (by rw [← HN.out]; exact HKN.out)).1
          have HNO := Aside0.mk (htu.bad hfx hok (by rw [← HLK.out]; exact hf2) j hj hsj)
          have HYX := Aside0.mk htu.2.1
          clear hok hj hsj htb htu hfx hly
          go_wp2_with (first | (go_at_call 43; refine (read43_no A1 lk c1 ys HNO.out (by have h := (HT.readsRow 0 rfl).2.2; rw [HLY.out] at h; exact h) HC2.out hlk3 HYX.out).mono ?_; rintro e w9 ⟨rfl, HH⟩; have HT9 := HT.frame HH; clear HT HH) | ((with_reducible refine gate_dst (N := 16) rfl ?_); refine box_event ?hg18 (N := 16) ?hd18 (cs := #[.int .i64 0, .int .i64 0, .int .i64 0, .int .i64 0, .int .i64 0, .slice none 0 0]) (t := 35) ?hr18 ?_; (case hd18 => rfl); (case hg18 => rfl); (case hr18 => first | (go_simp; done) | (go_simp; rfl)); intro g16 hg w10 hbox hb; have HT10 := HT9.box hg hbox hb; clear HT9 hg hbox hb; have d0 := HT10.cell 0 0 rfl rfl; have d1 := HT10.cell 0 1 rfl rfl; have d2 := HT10.cell 0 2 rfl rfl; have d3 := HT10.cell 0 3 rfl rfl; have d4 := HT10.cell 0 4 rfl rfl; have d5 := HT10.cell 0 5 rfl rfl; have f0 := HT10.frozen 0 0 rfl; have f1 := HT10.frozen 0 1 rfl; have f2 := HT10.frozen 0 2 rfl; have f3 := HT10.frozen 0 3 rfl; have f4 := HT10.frozen 0 4 rfl; have f5 := HT10.frozen 0 5 rfl) | ((with_reducible refine gate_store (t := 35) (p := 16) rfl ?_); refine store_event (t := 35) (p := 16) (v := ?vo19) (w1 := ((((((w10.setCell ⟨g16, 0, none⟩ (.int .i64 0)).setCell ⟨g16, 1, none⟩ (.int .i64 0)).setCell ⟨g16, 2, none⟩ (.int .i64 0)).setCell ⟨g16, 3, none⟩ (.int .i64 0)).setCell ⟨g16, 4, none⟩ (.int .i64 0)).setCell ⟨g16, 5, none⟩ (.slice none 0 0))) ?hg19 ?ho19 ?hn19 ?hr19 ?_; (case ho19 => rfl); (case hg19 => rfl); (case hn19 => rfl); (case hr19 => first | (go_simp; done) | (go_simp; rfl)); intro w11 hw; have HT11 := ((((((HT10.setAt 0 0 (.int .i64 0) rfl).setAt 0 1 (.int .i64 0) rfl).setAt 0 2 (.int .i64 0) rfl).setAt 0 3 (.int .i64 0) rfl).setAt 0 4 (.int .i64 0) rfl).setAt 0 5 (.slice none 0 0) rfl); rw [← hw] at HT11; clear hw HT10 d0 d1 d2 d3 d4 d5 f0 f1 f2 f3 f4 f5))
          go_ret
          exact ⟨rfl, HT11.below⟩
        | false =>
          have hyf : ys = fr := htu.same hfx (fun j hj => by
            cases hs : selT mk f j with
            | false => rfl
            | true => exact absurd (htb.2 ⟨j, hj, hs⟩) Bool.false_ne_true)
          subst hyf
          clear htb htu hfx hly
          go_wp2_with (first | (go_at_call 43; refine (readFrame43 kd nd nc xs kk n HN.out A1 lk c1 (by have h := (HT.readsRow 0 rfl).2.2; rw [HLY.out, HFR.out] at h; exact h) HC2.out HH0.out HL0.out HX.out HKN.out).mono ?_; rintro e w9 ⟨vx, rfl, HH⟩; have HT9 := HT.frame HH; clear HT HH; obtain ⟨Ax, cx, rfl⟩ := HT9.rowShape 0 rfl) | ((with_reducible refine gate_dst (N := 16) rfl ?_); refine box_event ?hg20 (N := 16) ?hd20 (cs := #[.int .i64 0, .int .i64 0, .int .i64 0, .int .i64 0, .int .i64 0, .slice none 0 0]) (t := 35) ?hr20 ?_; (case hd20 => rfl); (case hg20 => rfl); (case hr20 => first | (go_simp; done) | (go_simp; rfl)); intro g16 hg w10 hbox hb; have HT10 := HT9.box hg hbox hb; clear HT9 hg hbox hb; have d0 := HT10.cell 0 0 rfl rfl; have d1 := HT10.cell 0 1 rfl rfl; have d2 := HT10.cell 0 2 rfl rfl; have d3 := HT10.cell 0 3 rfl rfl; have d4 := HT10.cell 0 4 rfl rfl; have d5 := HT10.cell 0 5 rfl rfl; have f0 := HT10.frozen 0 0 rfl; have f1 := HT10.frozen 0 1 rfl; have f2 := HT10.frozen 0 2 rfl; have f3 := HT10.frozen 0 3 rfl; have f4 := HT10.frozen 0 4 rfl; have f5 := HT10.frozen 0 5 rfl) | ((with_reducible refine gate_store (t := 35) (p := 16) rfl ?_); refine store_event (t := 35) (p := 16) (v := ?vo21) (w1 := ((((((w10.setCell ⟨g16, 0, none⟩ (.int .i64 kd)).setCell ⟨g16, 1, none⟩ (.int .i64 nd)).setCell ⟨g16, 2, none⟩ (.int .i64 nc)).setCell ⟨g16, 3, none⟩ (.int .i64 kk)).setCell ⟨g16, 4, none⟩ (.int .i64 n)).setCell ⟨g16, 5, none⟩ (.slice Ax (PW16.piece xs kk).length cx))) ?hg21 ?ho21 ?hn21 ?hr21 ?_; (case ho21 => rfl); (case hg21 => rfl); (case hn21 => rfl); (case hr21 => first | (go_simp; done) | (go_simp; rfl)); intro w11 hw; have HT11 := ((((((HT10.setAt 0 0 (.int .i64 kd) rfl).setAt 0 1 (.int .i64 nd) rfl).setAt 0 2 (.int .i64 nc) rfl).setAt 0 3 (.int .i64 kk) rfl).setAt 0 4 (.int .i64 n) rfl).setAt 0 5 (.slice Ax (PW16.piece xs kk).length cx) rfl); rw [← hw] at HT11; clear hw HT10 d0 d1 d2 d3 d4 d5 f0 f1 f2 f3 f4 f5))
          go_ret
          exact ⟨rfl, HT11.below⟩
theorem wfu32 {z : Int} (h : (Lit.int .u32 z).wf = true) : 0 ≤ z ∧ z < 4294967296 := by
  simp [Lit.wf] at h
  have h1 : IntKind.u32.min = 0 := by decide
  have h2 : IntKind.u32.max = 4294967295 := by decide
  omega
theorem WireTurned_calls {w : World} (kd nd nc : Int) (A : Option Addr) (c : Nat) (xs : List Int) (tt mk : Int)  (hr : kB.C w A xs.length xs) (hc0 : xs.length ≤ c) (hx : ∀ x ∈ xs, 0 ≤ x ∧ x < 256) (ht : -9223372036854775808 ≤ tt ∧ tt ≤ 9223372036854775807) (hm : 0 ≤ mk ∧ mk < 4294967296) :
    Calls Try.prog 13 #[.agg #[.int .i64 kd, .int .i64 nd, .int .i64 nc, .slice A xs.length c], .int .i64 tt, .int .u32 mk] w fun e w' => e = .returned (.bool true) ∧ Below w.heap.size w w' := by
  by_cases h : PW16.cutE kd nd nc xs = 0
  · exact WireTurned_ok kd nd nc A c xs tt mk h hr hc0 hx ht hm
  · exact WireTurned_no kd nd nc A c xs tt mk _ rfl h hr hc0 hx ht hm

end Go.Proofs.Ytaojnbhnogndnaa.SL
