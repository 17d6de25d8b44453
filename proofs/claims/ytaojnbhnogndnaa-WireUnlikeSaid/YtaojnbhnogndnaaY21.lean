/- The wire's Read. -/
import Derived.Test.YtaojnbhnogndnaaY4
import Derived.Test.YtaojnbhnogndnaaPW16x5
import Derived.Test.YtaojnbhnogndnaaPW16x7
import Derived.Test.YtaojnbhnogndnaaPW16x9
namespace Go.Proofs.Ytaojnbhnogndnaa.SL
open Go.RowKit Go.Proofs.YtaojnbhnogndnaaW.PrintWords Go.Proofs.YtaojnbhnogndnaaW.PrintLast Go.Proofs.YtaojnbhnogndnaaW.PrintMore
attribute [local go_sem] max2_int min2_int max_two min_two
attribute [local go_sem high] Small.cell_set_same
set_option linter.unusedVariables false
set_option linter.unusedSimpArgs false

def ReadPostW (xs : List Int) (w0 : World) (L : List Asrt) (e : Ending) (w : World) : Prop := (ReadOk xs → IsFrame xs w0 L e w) ∧ (¬ ReadOk xs → NoFrame w0 L e w)
theorem may54 {w : World} (kd nd nc : Int) (t : Bool) (ht : PW16.okHead kd nd nc = t) : Calls Try.prog 54 #[.int .i64 kd, .int .i64 nd, .int .i64 nc] w fun e w' => e = .returned (.bool t) ∧ Sat w w' [] := by
  subst ht
  refine (PW16.wire_may.calls kd nd nc _ _ (PW16.may_w kd nd nc)).mono ?_
  rintro e w' ⟨he, ⟨n, rfl⟩⟩
  exact ⟨he, (Sat.start w).drewN n⟩
theorem frame55 {w : World} (kd nd nc ix ct : Int) (A : Option Addr) (m c : Nat) (p : List Int) (hr : kB.C w A m p) (hc : m ≤ c) (hl : p.length ≤ 1073741824) :
    Calls Try.prog 55 #[.agg #[.int .i64 kd, .int .i64 nd, .int .i64 nc, .int .i64 ix, .int .i64 ct, .slice A m c]] w fun e w' => ∃ v, e = .returned v ∧ Sat w w' [row kB 5 v (PW16.frameB kd nd nc ix ct p)] := by
  obtain rfl : p.length = m := hr.1
  obtain ⟨k, hk⟩ := (PW16.frame_w kd nd nc ix ct p hl).rounds
  refine (PW16.wire_frame.calls k kd nd nc ix ct A c p _ w hr hc hk).mono ?_
  rintro e w' ⟨v, he, hR, hb⟩
  exact ⟨v, he, (Sat.start w).newRow hb hR (Nat.le_refl _)⟩
theorem clone49w {w : World} (A : Option Addr) (m c : Nat) (p : List Int) (hr : kB.C w A m p) (hc : m ≤ c) (hl : p.length < 140737488355328) :
    Calls Try.prog 49 #[.slice A m c] w fun e w' => ∃ v, e = .returned v ∧ Sat w w' [row kB 5 v p] := by
  obtain rfl : p.length = m := hr.1
  refine (PW16.slices_Clone_byte_byte.calls A c p p w hr hc (by unfold PW16.slices_Clone_byte_byte.f; rw [if_pos hl])).mono ?_
  rintro e w' ⟨v, he, hR, hb⟩
  exact ⟨v, he, (Sat.start w).newRow hb hR (Nat.le_refl _)⟩
def szW (m : Nat) (x7 x8 : Int) : Bool := if x7 = x8 - 1 then (decide (m ≤ 48) && (decide (0 < m) || decide (x8 = 1)) && decide (x7 * 48 + m ≤ 4096)) else decide (m = 48)
theorem readw_iff {xs : List Int} {x1 x2 nc x7 x8 : Int} {m : Nat} (h : x1 = fKd xs ∧ x2 = fNd xs ∧ nc = fNc xs ∧ x7 = fIx xs ∧ x8 = fCt xs) (hF : Fits xs) (hm : m = (fBy xs).length) :
    ReadOk xs ↔ PW16.okHead x1 x2 nc = true ∧ ¬ x8 < 1 ∧ ¬ 86 < x8 ∧ ¬ x8 ≤ x7 ∧ szW m x7 x8 = true ∧ PW16.frameB x1 x2 nc x7 x8 (fBy xs) = xs := by
  obtain ⟨rfl, rfl, rfl, rfl, rfl⟩ := h
  subst hm
  have e : szW (fBy xs).length (fIx xs) (fCt xs) = true ↔ SizeOk (fBy xs).length (fIx xs) (fCt xs) := by
    unfold szW SizeOk
    by_cases hl : fIx xs = fCt xs - 1
    · rw [if_pos hl]
      simp only [Bool.or_eq_true, Bool.and_eq_true, decide_eq_true_eq]
      constructor
      · rintro ⟨⟨h1, h2⟩, h3⟩
        refine ⟨?_, fun _ => h3⟩
        by_cases h48 : (fBy xs).length = 48
        · exact .inl h48
        · exact .inr ⟨by omega, by omega, h2⟩
      · rintro ⟨h1, h2⟩
        have h3 := h2 (by omega)
        rcases h1 with h1 | ⟨_, h4, h5⟩
        · exact ⟨⟨by omega, .inl (by omega)⟩, h3⟩
        · exact ⟨⟨by omega, h5⟩, h3⟩
    · rw [if_neg hl]
      simp only [decide_eq_true_eq]
      constructor
      · intro h1
        exact ⟨.inl h1, fun h2 => by omega⟩
      · rintro ⟨h1 | ⟨h2, _⟩, _⟩
        · exact h1
        · omega
  unfold ReadOk
  rw [← e]
  constructor
  · rintro ⟨h1, h2, h3, h4, h5, h6, h8⟩
    exact ⟨h2, by omega, by omega, by omega, h6, h8⟩
  · rintro ⟨h2, h3, h4, h5, h6, h8⟩
    exact ⟨hF, h2, by omega, by omega, by omega, h6, h8⟩
theorem orN (x y : Int) (h0 : 0 ≤ x) (h1 : x < 16777216) (y0 : 0 ≤ y) (y1 : y < 256) : Go.bits .or .i64 (x * 256) y = x * 256 + y :=
  bits_join .i64 62 (by decide) (fun n h0 h1 => Go.IntWalk.i64_in n (by omega)) 8 _ _ (by omega) (by omega) (by omega) (by omega) (by omega) (by omega)
/-- The number that the first j of some bytes tell. -/
def numOf (l : List Int) (j : Nat) : Int := (l.take j).foldl (fun a c => a * 256 + c) 0
theorem numOf_succ (l : List Int) (j : Nat) (hj : j < l.length) : numOf l (j + 1) = numOf l j * 256 + l.getD j 0 := by
  unfold numOf
  rw [take_snoc 0 hj, List.foldl_append]; rfl
theorem numOf_lo (l : List Int) (h : ∀ x ∈ l, 0 ≤ x ∧ x < 256) : ∀ j, j ≤ l.length → 0 ≤ numOf l j ∧ numOf l j < 256 ^ j
  | 0, _ => by unfold numOf; simp
  | j + 1, hj => by
    have h1 := numOf_lo l h j (by omega)
    have h2 := getD_in h j
    rw [numOf_succ l j (by omega), Int.pow_succ]
    omega
theorem num4 (xs : List Int) (h : 7 ≤ xs.length) : numOf ((xs.take 7).drop 3) 4 = fNc xs := by
  match xs, h with
  | a :: b :: c :: d :: e :: f :: g :: t, _ =>
    show ((((0 * 256 + d) * 256 + e) * 256 + f) * 256 + g) = d * 16777216 + e * 65536 + f * 256 + g
    omega
/-! ### Read (wire): function 43, where the length does not fit -/
set_option maxHeartbeats 4000000 in
set_option maxRecDepth 100000 in
theorem Read43_short {w : World} (A : Option Addr) (c : Nat) (xs : List Int) (hf : ¬ Fits xs) (hr : kB.C w A xs.length xs) (hm : xs.length ≤ 140737488355328) (hx : ∀ x ∈ xs, 0 ≤ x ∧ x < 256) :
    Calls Try.prog 43 #[.slice A xs.length c] w (NoFrame w []) := by
  have hu35 := Try.underlying35
  have HS := Sat.start w
  by_cases h14 : xs.length < 14
  · have hd : decide ((xs.length : Int) < 14) = true := decide_eq_true (by omega)
    have hd2 : decide (xs.length < 14) = true := decide_eq_true (by omega)
    clear hf hr hx
    go_enter Try.func43, Try.ntmps43
    go_wp2_with (first | ((with_reducible refine gate_dst (N := 2) rfl ?_); refine box_event ?hg3 (N := 2) ?hd3 (cs := #[.int .i64 0, .int .i64 0, .int .i64 0, .int .i64 0, .int .i64 0, .slice none 0 0]) (t := 35) ?hr3 ?_; (case hd3 => rfl); (case hg3 => rfl); (case hr3 => first | (go_simp; done) | (go_simp; rfl)); intro g2 hg w1 hbox hb; have HS1 := HS.box hg hbox hb; clear HS hg hbox hb; have d0 := HS1.cell 0 0 rfl rfl; have d1 := HS1.cell 0 1 rfl rfl; have d2 := HS1.cell 0 2 rfl rfl; have d3 := HS1.cell 0 3 rfl rfl; have d4 := HS1.cell 0 4 rfl rfl; have d5 := HS1.cell 0 5 rfl rfl; have f0 := HS1.frozen 0 0 rfl; have f1 := HS1.frozen 0 1 rfl; have f2 := HS1.frozen 0 2 rfl; have f3 := HS1.frozen 0 3 rfl; have f4 := HS1.frozen 0 4 rfl; have f5 := HS1.frozen 0 5 rfl) | ((with_reducible refine gate_store (t := 35) (p := 2) rfl ?_); refine store_event (t := 35) (p := 2) (v := ?vo4) (w1 := ((((((w1.setCell ⟨g2, 0, none⟩ (.int .i64 0)).setCell ⟨g2, 1, none⟩ (.int .i64 0)).setCell ⟨g2, 2, none⟩ (.int .i64 0)).setCell ⟨g2, 3, none⟩ (.int .i64 0)).setCell ⟨g2, 4, none⟩ (.int .i64 0)).setCell ⟨g2, 5, none⟩ (.slice none 0 0))) ?hg4 ?ho4 ?hn4 ?hr4 ?_; (case ho4 => rfl); (case hg4 => rfl); (case hn4 => rfl); (case hr4 => first | (go_simp; done) | (go_simp; rfl)); intro w2 hw; have HS2 := ((((((HS1.setAt 0 0 (.int .i64 0) rfl).setAt 0 1 (.int .i64 0) rfl).setAt 0 2 (.int .i64 0) rfl).setAt 0 3 (.int .i64 0) rfl).setAt 0 4 (.int .i64 0) rfl).setAt 0 5 (.slice none 0 0) rfl); rw [← hw] at HS2; clear hw HS1 d0 d1 d2 d3 d4 d5 f0 f1 f2 f3 f4 f5))
    refine bodyPost_ret (results_ct rfl _ _ g2 35 #[.int .i64 0, .int .i64 0, .int .i64 0, .int .i64 0, .int .i64 0, .slice none 0 0] (0, 0) _ rfl (HS2.block 0 rfl).1 hu35 rfl rfl) rfl ⟨rfl, HS2.tail⟩
  · have hd : decide ((xs.length : Int) < 14) = false := decide_eq_false (by omega)
    have hd2 : decide (xs.length < 14) = false := decide_eq_false (by omega)
    obtain ⟨b, o, rfl, hcell⟩ := int_row hr (by omega)
    have k9 := hcell 9 (by omega)
    have h9 := getD_in hx 9
    have hn : xs.length ≠ 14 + (xs.getD 9 0).toNat := fun h => hf ⟨by omega, by omega⟩
    obtain ⟨z, hz⟩ : ∃ z, z = xs.getD 9 0 := ⟨_, rfl⟩
    rw [← hz] at k9 h9 hn
    obtain ⟨h90, h91⟩ := h9
    have hne : ((xs.length : Int) == 14 + z) = false := by simp; omega
    have hne2 : ((xs.length : Int) != 14 + z) = true := by simp; omega
    have K9 := Aside0.mk k9
    clear hf hr hz hx hn hcell k9
    go_enter Try.func43, Try.ntmps43
    go_wp2_with (first | ((with_reducible refine gate_dst (N := 2) rfl ?_); refine box_event ?hg5 (N := 2) ?hd5 (cs := #[.int .i64 0, .int .i64 0, .int .i64 0, .int .i64 0, .int .i64 0, .slice none 0 0]) (t := 35) ?hr5 ?_; (case hd5 => rfl); (case hg5 => rfl); (case hr5 => first | (go_simp; done) | (go_simp; rfl)); intro g2 hg w1 hbox hb; have HS1 := HS.box hg hbox hb; have hb9 := hb; clear HS hg hbox hb; have d0 := HS1.cell 0 0 rfl rfl; have d1 := HS1.cell 0 1 rfl rfl; have d2 := HS1.cell 0 2 rfl rfl; have d3 := HS1.cell 0 3 rfl rfl; have d4 := HS1.cell 0 4 rfl rfl; have d5 := HS1.cell 0 5 rfl rfl; have f0 := HS1.frozen 0 0 rfl; have f1 := HS1.frozen 0 1 rfl; have f2 := HS1.frozen 0 2 rfl; have f3 := HS1.frozen 0 3 rfl; have f4 := HS1.frozen 0 4 rfl; have f5 := HS1.frozen 0 5 rfl; have k9' := (hb9.cell (World.block_lt_of_cell? _ _ K9.out)).trans K9.out) | ((with_reducible refine gate_store (t := 35) (p := 2) rfl ?_); refine store_event (t := 35) (p := 2) (v := ?vo6) (w1 := ((((((w1.setCell ⟨g2, 0, none⟩ (.int .i64 0)).setCell ⟨g2, 1, none⟩ (.int .i64 0)).setCell ⟨g2, 2, none⟩ (.int .i64 0)).setCell ⟨g2, 3, none⟩ (.int .i64 0)).setCell ⟨g2, 4, none⟩ (.int .i64 0)).setCell ⟨g2, 5, none⟩ (.slice none 0 0))) ?hg6 ?ho6 ?hn6 ?hr6 ?_; (case ho6 => rfl); (case hg6 => rfl); (case hn6 => rfl); (case hr6 => first | (go_simp; done) | (go_simp; rfl)); intro w2 hw; have HS2 := ((((((HS1.setAt 0 0 (.int .i64 0) rfl).setAt 0 1 (.int .i64 0) rfl).setAt 0 2 (.int .i64 0) rfl).setAt 0 3 (.int .i64 0) rfl).setAt 0 4 (.int .i64 0) rfl).setAt 0 5 (.slice none 0 0) rfl); rw [← hw] at HS2; clear hw HS1 d0 d1 d2 d3 d4 d5 f0 f1 f2 f3 f4 f5 k9'))
    refine bodyPost_ret (results_ct rfl _ _ g2 35 #[.int .i64 0, .int .i64 0, .int .i64 0, .int .i64 0, .int .i64 0, .slice none 0 0] (0, 0) _ rfl (HS2.block 0 rfl).1 hu35 rfl rfl) rfl ⟨rfl, HS2.tail⟩
/-! ### Read (wire), where the length fits -/
set_option maxHeartbeats 100000000 in
set_option maxRecDepth 100000 in
theorem Read43_fits {w : World} (A : Option Addr) (c : Nat) (xs : List Int) (hf : Fits xs) (hr : kB.C w A xs.length xs) (hcap : xs.length ≤ c) (hx : ∀ x ∈ xs, 0 ≤ x ∧ x < 256) :
    Calls Try.prog 43 #[.slice A xs.length c] w (ReadPostW xs w []) := by
  have hu35 := Try.underlying35
  have HS := Sat.start w
  have h9x := getD_in hx 9
  have h9e := hf.2
  have hlen : 14 ≤ xs.length ∧ xs.length ≤ 269 := ⟨hf.1, by omega⟩
  obtain ⟨b, o, rfl, hcell⟩ := int_row hr (by omega)
  have hx1 := getD_in hx 1
  obtain ⟨x1, ex1⟩ : ∃ x, x = xs.getD 1 0 := ⟨_, rfl⟩
  have kk1 := hcell 1 (by omega)
  rw [← ex1] at hx1 kk1
  obtain ⟨lo1, hi1⟩ := hx1
  have hx2 := getD_in hx 2
  obtain ⟨x2, ex2⟩ : ∃ x, x = xs.getD 2 0 := ⟨_, rfl⟩
  have kk2 := hcell 2 (by omega)
  rw [← ex2] at hx2 kk2
  obtain ⟨lo2, hi2⟩ := hx2
  have hx7 := getD_in hx 7
  obtain ⟨x7, ex7⟩ : ∃ x, x = xs.getD 7 0 := ⟨_, rfl⟩
  have kk7 := hcell 7 (by omega)
  rw [← ex7] at hx7 kk7
  obtain ⟨lo7, hi7⟩ := hx7
  have hx8 := getD_in hx 8
  obtain ⟨x8, ex8⟩ : ∃ x, x = xs.getD 8 0 := ⟨_, rfl⟩
  have kk8 := hcell 8 (by omega)
  rw [← ex8] at hx8 kk8
  obtain ⟨lo8, hi8⟩ := hx8
  have hx9 := getD_in hx 9
  obtain ⟨x9, ex9⟩ : ∃ x, x = xs.getD 9 0 := ⟨_, rfl⟩
  have kk9 := hcell 9 (by omega)
  rw [← ex9] at hx9 kk9
  obtain ⟨lo9, hi9⟩ := hx9
  have hn9 : (xs.length : Int) = 14 + x9 := by rw [ex9]; exact h9e
  obtain ⟨l4, hl4⟩ : ∃ l4, l4 = (xs.take 7).drop 3 := ⟨_, rfl⟩
  have hl4l : l4.length = 4 := by rw [hl4, List.length_drop, List.length_take]; omega
  have HXS := Aside0.mk (show x1 = fKd xs ∧ x2 = fNd xs ∧ numOf l4 4 = fNc xs ∧ x7 = fIx xs ∧ x8 = fCt xs from by
    refine ⟨ex1, ex2, ?_, ex7, ex8⟩
    rw [hl4]
    exact num4 xs (by omega))
  have HX4 := Aside0.mk (show ∀ x ∈ l4, 0 ≤ x ∧ x < 256 from by rw [hl4]; exact fun x hx' => hx x (List.mem_of_mem_take (List.mem_of_mem_drop hx')))
  have HK : Aside0 (∀ w', Below w.heap.size w w' → w'.cell? ⟨b, o + 1, none⟩ = some (.int .u8 x1) ∧ w'.cell? ⟨b, o + 2, none⟩ = some (.int .u8 x2) ∧ w'.cell? ⟨b, o + 7, none⟩ = some (.int .u8 x7) ∧ w'.cell? ⟨b, o + 8, none⟩ = some (.int .u8 x8) ∧ w'.cell? ⟨b, o + 9, none⟩ = some (.int .u8 x9)) := Aside0.mk (fun w' hb => ⟨(hb.cell (World.block_lt_of_cell? _ _ kk1)).trans kk1, (hb.cell (World.block_lt_of_cell? _ _ kk2)).trans kk2, (hb.cell (World.block_lt_of_cell? _ _ kk7)).trans kk7, (hb.cell (World.block_lt_of_cell? _ _ kk8)).trans kk8, (hb.cell (World.block_lt_of_cell? _ _ kk9)).trans kk9⟩)
  have HR := Aside0.mk hr
  have HX := Aside0.mk hx
  have HF := Aside0.mk hf
  have HL4 := Aside0.mk hl4
  have HL4L := Aside0.mk hl4l
  clear hf hr hx hcell h9x h9e hl4 hl4l ex1 kk1 ex2 kk2 ex7 kk7 ex8 kk8 ex9 kk9
  obtain ⟨len, hl⟩ : ∃ len, len = xs.length := ⟨_, rfl⟩
  rw [← hl] at hn9 hlen hcap ⊢
  have HL := Aside0.mk hl
  clear hl
  obtain ⟨hl0, hl1⟩ := hlen
  have hd : decide ((len : Int) < 14) = false := decide_eq_false (by omega)
  have hd2 : decide (len < 14) = false := decide_eq_false (by omega)
  have hne : ((len : Int) == 14 + x9) = true := by simp; omega
  have hne2 : ((len : Int) != 14 + x9) = false := by simp; omega
  have HN9 := Aside0.mk hn9
  clear hn9
  go_enter Try.func43, Try.ntmps43
  go_wp2_with (first | ((with_reducible refine gate_dst (N := 2) rfl ?_); refine box_event ?hg1 (N := 2) ?hd1 (cs := #[.int .i64 0, .int .i64 0, .int .i64 0, .int .i64 0, .int .i64 0, .slice none 0 0]) (t := 35) ?hr1 ?_; (case hd1 => rfl); (case hg1 => rfl); (case hr1 => first | (go_simp; done) | (go_simp; rfl)); intro g2 hg w1 hbox hb; have HS1 := HS.box hg hbox hb; clear HS hg hbox hb; have k9' := (HK.out w1 HS1.below).2.2.2.2))
  clear hd hd2 hne hne2 k9'
  obtain ⟨A', hrun, hcut⟩ := cut_lh kB (P := Try.prog) 22 5 Try.underlying22 (i := _) rfl rfl (some ⟨b, o, none⟩) len c 10 (len - 4) (by omega) (by omega) hcap
  have hcutr := fun W => hrun W 10 ((len : Int) - 4) rfl (by omega)
  have hws : IntKind.i64.wrap ((len : Int) - 4) = (len : Int) - 4 := Go.IntWalk.i64_in _ (by omega)
  have hb1 : (1 : Int) < (len : Int) := by omega
  have hc1 : 1 < len := by omega
  have hq1 : IntKind.i64.wrap x1 = x1 := Go.IntWalk.i64_in _ (by omega)
  have hb2 : (2 : Int) < (len : Int) := by omega
  have hc2 : 2 < len := by omega
  have hq2 : IntKind.i64.wrap x2 = x2 := Go.IntWalk.i64_in _ (by omega)
  have hb7 : (7 : Int) < (len : Int) := by omega
  have hc7 : 7 < len := by omega
  have hq7 : IntKind.i64.wrap x7 = x7 := Go.IntWalk.i64_in _ (by omega)
  have hb8 : (8 : Int) < (len : Int) := by omega
  have hc8 : 8 < len := by omega
  have hq8 : IntKind.i64.wrap x8 = x8 := Go.IntWalk.i64_in _ (by omega)
  obtain ⟨m, hm⟩ : ∃ m, m = len - 4 - 10 := ⟨_, rfl⟩
  rw [← hm] at hcutr
  have HC : Aside0 (∀ w', Below w.heap.size w w' → kB.C w' A' m (fBy xs)) := Aside0.mk (fun w' hb => by
    have h1 := hcut w' xs (by rw [HL.out]; exact Kd.C_below HR.out hb)
    rw [← hm, HL.out] at h1
    exact h1)
  have HM := Aside0.mk hm
  have HML := Aside0.mk (show m = (fBy xs).length from (HC.out w (Below.refl _ _)).1.symm)
  have hmc : m ≤ c - 10 := by omega
  clear hm hcut hrun
  go_cut [4] (fun v4 wc => ∃ g4 A1 c1, v4 = .pointer (some ⟨g4, 0, none⟩) ∧ Sat w wc [row kB 5 (.slice A1 m c1) (fBy xs), blk g4 (.cells #[.int .i64 x1, .int .i64 x2, .int .i64 0, .int .i64 x7, .int .i64 x8, .slice A1 m c1] 35 (0, 0)), blk g2 (.cells #[.int .i64 0, .int .i64 0, .int .i64 0, .int .i64 0, .int .i64 0, .slice none 0 0] 35 (0, 0))])
  case first =>
    refine region (frees [0, 1, 4, 5, 8, 9, 12, 13, 16, 17, 18, 19, 20] (helds [2, 6, 10, 14] (frees [3, 7, 11, 15] (.two 21 23 (frees [22] (.one 23 (.last 24 .done))) (.one 21 (frees [22] (.last 24 .done))))))) (fun w' => w'.cell? ⟨b, o + 1, none⟩ = some (.int .u8 x1) ∧ w'.cell? ⟨b, o + 2, none⟩ = some (.int .u8 x2) ∧ w'.cell? ⟨b, o + 7, none⟩ = some (.int .u8 x7) ∧ w'.cell? ⟨b, o + 8, none⟩ = some (.int .u8 x8) ∧ w'.cell? ⟨b, o + 9, none⟩ = some (.int .u8 x9)) [24] (by kernel_rfl) (by kernel_rfl) ?_
    have HS4 := HS1.drew
    clear HS1
    generalize w1.drew = w4 at HS4 ⊢
    obtain ⟨k1, k2, k7, k8, k9⟩ := HK.out w4 HS4.below
    repeat (first | (refine st_free (v := ?_) (a' := ?_) (by simp only [List.getElem?_toArray, List.getElem?_cons_succ, List.getElem?_cons_zero]; rfl) (by rfl) ?_ ?_ ?_; rotate_left 2; (intro w'; go_simp; with_reducible rfl); (simp only [Act.put, List.setIfInBounds_toArray, List.set_cons_zero, List.set_cons_succ]; rfl)) | (refine st_held (v := ?_) (a' := ?_) ⟨k1, k2, k7, k8, k9⟩ (by simp only [List.getElem?_toArray, List.getElem?_cons_succ, List.getElem?_cons_zero]; rfl) (by rfl) ?_ ?_ ?_; rotate_left 2; (rintro w' ⟨s1, s2, s7, s8, s9⟩; go_simp; with_reducible rfl); (simp only [Act.put, List.setIfInBounds_toArray, List.set_cons_zero, List.set_cons_succ]; rfl)))
    refine st_two (by simp only [List.getElem?_toArray, List.getElem?_cons_succ, List.getElem?_cons_zero]; rfl) (by simp only [List.getElem?_toArray, List.getElem?_cons_succ, List.getElem?_cons_zero]; rfl) ?_ ?_
    · refine goesL_ (some 44) rfl rfl Try.func49 (by kernel_rfl) rfl #[.slice A' m (c - 10)] rfl (by go_simp) ?_
      refine (clone49w A' m (c - 10) (fBy xs) (HC.out _ HS4.below) hmc (by have := HML.out; have := HM.out; omega)).mono ?_
      rintro e w5 ⟨v, rfl, HH⟩
      have HS5 := HS4.frame HH
      clear HS4 HH
      obtain ⟨A1, c1, rfl⟩ := HS5.rowShape 0 rfl
      rw [← HML.out] at HS5 ⊢
      refine ⟨_, rfl, ?_⟩
      refine ⟨HK.out _ HS5.below, ?_⟩
      refine st_norm (a' := ?_) ?_ ?_; rotate_left; (simp only [Act.put, List.setIfInBounds_toArray, List.set_cons_zero, List.set_cons_succ]; rfl)
      repeat (refine st_free (v := ?_) (a' := ?_) (by simp only [List.getElem?_toArray, List.getElem?_cons_succ, List.getElem?_cons_zero]; rfl) (by rfl) ?_ ?_ ?_; rotate_left 2; (intro w'; go_simp; with_reducible rfl); (simp only [Act.put, List.setIfInBounds_toArray, List.set_cons_zero, List.set_cons_succ]; rfl))
      refine st_one (by simp only [List.getElem?_toArray, List.getElem?_cons_succ, List.getElem?_cons_zero]; rfl) ?_
      refine Kd.event_run (v := .pointer (some ⟨w5.heap.size, 0, none⟩)) (w1 := w5.alloc (.cells #[.int .i64 0, .int .i64 0, .int .i64 0, .int .i64 0, .int .i64 0, .slice none 0 0] 35)) rfl (by go_simp) ?_
      have HS6 := HS5.box (g := w5.heap.size) (cs := #[.int .i64 0, .int .i64 0, .int .i64 0, .int .i64 0, .int .i64 0, .slice none 0 0]) (t := 35) rfl (blk_new w5 _) (below_alloc (Below.refl _ _) _)
      generalize hgw : w5.alloc (.cells #[.int .i64 0, .int .i64 0, .int .i64 0, .int .i64 0, .int .i64 0, .slice none 0 0] 35) = w6 at HS6 ⊢
      clear hgw
      generalize w5.heap.size = g4 at HS6 ⊢
      clear HS5
      refine ⟨HK.out _ HS6.below, ?_⟩
      refine st_norm (a' := ?_) ?_ ?_; rotate_left; (simp only [Act.put, List.setIfInBounds_toArray, List.set_cons_zero, List.set_cons_succ]; rfl)
      have d0 := HS6.cell 0 0 rfl rfl
      have f0 := HS6.frozen 0 0 rfl
      have d1 := HS6.cell 0 1 rfl rfl
      have f1 := HS6.frozen 0 1 rfl
      have d2 := HS6.cell 0 2 rfl rfl
      have f2 := HS6.frozen 0 2 rfl
      have d3 := HS6.cell 0 3 rfl rfl
      have f3 := HS6.frozen 0 3 rfl
      have d4 := HS6.cell 0 4 rfl rfl
      have f4 := HS6.frozen 0 4 rfl
      have d5 := HS6.cell 0 5 rfl rfl
      have f5 := HS6.frozen 0 5 rfl
      refine st_last (by simp only [List.getElem?_toArray, List.getElem?_cons_succ, List.getElem?_cons_zero]; rfl) ?_
      refine store_event (t := 35) (p := 4) (v := .tmp 45) (w1 := ((((((w6.setCell ⟨g4, 0, none⟩ (.int .i64 x1)).setCell ⟨g4, 1, none⟩ (.int .i64 x2)).setCell ⟨g4, 2, none⟩ (.int .i64 0)).setCell ⟨g4, 3, none⟩ (.int .i64 x7)).setCell ⟨g4, 4, none⟩ (.int .i64 x8)).setCell ⟨g4, 5, none⟩ (.slice A1 m c1))) rfl rfl rfl (by go_simp) ?_
      rintro wz hw
      have HZ := ((((((HS6.setAt 0 0 (.int .i64 x1) rfl).setAt 0 1 (.int .i64 x2) rfl).setAt 0 2 (.int .i64 0) rfl).setAt 0 3 (.int .i64 x7) rfl).setAt 0 4 (.int .i64 x8) rfl).setAt 0 5 (.slice A1 m c1) rfl)
      rw [← hw] at HZ
      clear hw HS6 d0 f0 d1 f1 d2 f2 d3 f3 d4 f4 d5 f5
      refine st_norm rfl ?_
      refine st_done ?_
      go_wp2_with fail
      go_meet
      case rel => exact ⟨_, _, _, rfl, HZ.swap⟩
    · refine Kd.event_run (v := .pointer (some ⟨w4.heap.size, 0, none⟩)) (w1 := w4.alloc (.cells #[.int .i64 0, .int .i64 0, .int .i64 0, .int .i64 0, .int .i64 0, .slice none 0 0] 35)) rfl (by go_simp) ?_
      have HS5 := HS4.box (g := w4.heap.size) (cs := #[.int .i64 0, .int .i64 0, .int .i64 0, .int .i64 0, .int .i64 0, .slice none 0 0]) (t := 35) rfl (blk_new w4 _) (below_alloc (Below.refl _ _) _)
      generalize hgw : w4.alloc (.cells #[.int .i64 0, .int .i64 0, .int .i64 0, .int .i64 0, .int .i64 0, .slice none 0 0] 35) = w5 at HS5 ⊢
      clear hgw
      generalize w4.heap.size = g4 at HS5 ⊢
      clear HS4
      refine ⟨HK.out _ HS5.below, ?_⟩
      refine st_norm (a' := ?_) ?_ ?_; rotate_left; (simp only [Act.put, List.setIfInBounds_toArray, List.set_cons_zero, List.set_cons_succ]; rfl)
      refine st_one (by simp only [List.getElem?_toArray, List.getElem?_cons_succ, List.getElem?_cons_zero]; rfl) ?_
      refine goesL_ (some 44) rfl rfl Try.func49 (by kernel_rfl) rfl #[.slice A' m (c - 10)] rfl (by go_simp) ?_
      refine (clone49w A' m (c - 10) (fBy xs) (HC.out _ HS5.below) hmc (by have := HML.out; have := HM.out; omega)).mono ?_
      rintro e w6 ⟨v, rfl, HH⟩
      have HS6 := HS5.frame HH
      clear HS5 HH
      obtain ⟨A1, c1, rfl⟩ := HS6.rowShape 0 rfl
      rw [← HML.out] at HS6 ⊢
      refine ⟨_, rfl, ?_⟩
      refine ⟨HK.out _ HS6.below, ?_⟩
      refine st_norm (a' := ?_) ?_ ?_; rotate_left; (simp only [Act.put, List.setIfInBounds_toArray, List.set_cons_zero, List.set_cons_succ]; rfl)
      repeat (refine st_free (v := ?_) (a' := ?_) (by simp only [List.getElem?_toArray, List.getElem?_cons_succ, List.getElem?_cons_zero]; rfl) (by rfl) ?_ ?_ ?_; rotate_left 2; (intro w'; go_simp; with_reducible rfl); (simp only [Act.put, List.setIfInBounds_toArray, List.set_cons_zero, List.set_cons_succ]; rfl))
      have d0 := HS6.cell 1 0 rfl rfl
      have f0 := HS6.frozen 1 0 rfl
      have d1 := HS6.cell 1 1 rfl rfl
      have f1 := HS6.frozen 1 1 rfl
      have d2 := HS6.cell 1 2 rfl rfl
      have f2 := HS6.frozen 1 2 rfl
      have d3 := HS6.cell 1 3 rfl rfl
      have f3 := HS6.frozen 1 3 rfl
      have d4 := HS6.cell 1 4 rfl rfl
      have f4 := HS6.frozen 1 4 rfl
      have d5 := HS6.cell 1 5 rfl rfl
      have f5 := HS6.frozen 1 5 rfl
      refine st_last (by simp only [List.getElem?_toArray, List.getElem?_cons_succ, List.getElem?_cons_zero]; rfl) ?_
      refine store_event (t := 35) (p := 4) (v := .tmp 45) (w1 := ((((((w6.setCell ⟨g4, 0, none⟩ (.int .i64 x1)).setCell ⟨g4, 1, none⟩ (.int .i64 x2)).setCell ⟨g4, 2, none⟩ (.int .i64 0)).setCell ⟨g4, 3, none⟩ (.int .i64 x7)).setCell ⟨g4, 4, none⟩ (.int .i64 x8)).setCell ⟨g4, 5, none⟩ (.slice A1 m c1))) rfl rfl rfl (by go_simp) ?_
      rintro wz hw
      have HZ := ((((((HS6.setAt 1 0 (.int .i64 x1) rfl).setAt 1 1 (.int .i64 x2) rfl).setAt 1 2 (.int .i64 0) rfl).setAt 1 3 (.int .i64 x7) rfl).setAt 1 4 (.int .i64 x8) rfl).setAt 1 5 (.slice A1 m c1) rfl)
      rw [← hw] at HZ
      clear hw HS6 d0 f0 d1 f1 d2 f2 d3 f3 d4 f4 d5 f5
      refine st_norm rfl ?_
      refine st_done ?_
      go_wp2_with fail
      go_meet
      case rel => exact ⟨_, _, _, rfl, HZ⟩
  case rest =>
    obtain ⟨g4, A1, c1, rfl, HS4⟩ := hcut
    obtain ⟨w4, rfl⟩ : ∃ w4, w4 = wc := ⟨_, rfl⟩
    clear hcutr hws HS1 hb1 hc1 hq1 hb2 hc2 hq2 hb7 hc7 hq7 hb8 hc8 hq8
    obtain ⟨A2, hrun2, hcut2⟩ := cut_lh kB (P := Try.prog) 22 5 Try.underlying22 (i := _) rfl rfl (some ⟨b, o, none⟩) len c 3 7 (by omega) (by omega) hcap
    have hcutr2 : ∀ W, (Instr.slice 22 (.slice (some ⟨b, o, none⟩) len c) (some (.int .i64 3)) (some (.int .i64 7)) none).run Try.prog W = .ok (.slice A2 4 (c - 3)) W := fun W => hrun2 W 3 7 rfl rfl
    have hc40 : ∀ w', Below w.heap.size w w' → kB.C w' A2 4 l4 := fun w' hb => by
      have h1 := hcut2 w' xs (by rw [HL.out]; exact Kd.C_below HR.out hb)
      rw [HL4.out]
      exact h1
    obtain ⟨b2, o2, rfl, _⟩ := int_row (hc40 w (Below.refl _ _)) (by decide)
    have HC4 := Aside0.mk hc40
    have hm255 : m ≤ 255 := by have := HM.out; omega
    clear hc40 hcut2 hrun2
    go_wp2_with fail
    clear hcutr2
    go_loopw [6, 49] (fun v6 v49 wr => ∃ j : Nat, v49 = .int .i64 j ∧ j ≤ 4 ∧ Sat w wr [row kB 5 (.slice A1 m c1) (fBy xs), blk g4 (.cells #[.int .i64 x1, .int .i64 x2, .int .i64 (numOf l4 j), .int .i64 x7, .int .i64 x8, .slice A1 m c1] 35 (0, 0)), blk g2 (.cells #[.int .i64 0, .int .i64 0, .int .i64 0, .int .i64 0, .int .i64 0, .slice none 0 0] 35 (0, 0))]) (fun _ v49 _ => 4 - (intOf v49).toNat)
    case atStart => exact ⟨0, rfl, by omega, HS4⟩
    case round =>
      obtain ⟨j, rfl, hj, HS5⟩ := hrel
      clear HS4
      obtain ⟨b3, o3, hbe, hc4⟩ := int_row (HC4.out _ HS5.below) (by decide)
      injection hbe with hbe
      injection hbe with hb1 hb2
      subst hb1 hb2
      obtain ⟨nn, hnn⟩ : ∃ nn, nn = numOf l4 j := ⟨_, rfl⟩
      have hnb := numOf_lo l4 HX4.out j (by rw [HL4L.out]; omega)
      rw [← hnn] at hnb HS5
      have HNN := Aside0.mk hnn
      clear hnn
      by_cases hlt : j < 4
      · have hltd : decide ((j : Int) < 4) = true := decide_eq_true (by omega)
        have hlte : decide (j < 4) = true := decide_eq_true hlt
        have hlti : (j : Int) < 4 := by omega
        have kj := hc4 j hlt
        have hyb := getD_in HX4.out j
        obtain ⟨y, hy⟩ : ∃ y, y = l4.getD j 0 := ⟨_, rfl⟩
        rw [← hy] at kj hyb
        obtain ⟨hy0, hy1⟩ := hyb
        have HY := Aside0.mk hy
        have hn0 : 0 ≤ nn := hnb.1
        have hn1 : nn < 16777216 := by
          have h1 := hnb.2
          have h2 : (256 : Int) ^ j ≤ 16777216 := by
            match j, hlt with
            | 0, _ => decide
            | 1, _ => decide
            | 2, _ => decide
            | 3, _ => decide
          omega
        have hor := orN nn y hn0 hn1 hy0 hy1
        have hwy : IntKind.i64.wrap y = y := Go.IntWalk.i64_in _ (by omega)
        have hwn : IntKind.i64.wrap (nn * 256) = nn * 256 := Go.IntWalk.i64_in _ (by omega)
        clear hy hc4 hnb
        have d2 := HS5.cell 1 2 rfl rfl
        have f2 := HS5.frozen 1 2 rfl
        go_wp2_with (first | ((with_reducible refine gate_store (t := 3) (p := 59) rfl ?_); refine store_event (t := 3) (p := 59) (v := ?vo) (w1 := (wr.setCell ⟨g4, 2, none⟩ (.int .i64 (nn * 256 + y)))) ?hga ?hoa ?hna ?hra ?_; (case hoa => rfl); (case hga => rfl); (case hna => rfl); (case hra => first | (go_simp; done) | (go_simp; rfl)); intro w6 hw; have HS6 := HS5.setAt 1 2 (.int .i64 (nn * 256 + y)) rfl; rw [← hw] at HS6; clear hw HS5 d2 f2))
        exact ⟨⟨j + 1, by rw [Int.natCast_add]; rfl, by omega, by rw [numOf_succ l4 j (by rw [HL4L.out]; exact hlt), ← HNN.out, ← HY.out]; exact HS6⟩, by simp [intOf]; omega⟩
      · have hj4 : j = 4 := by omega
        subst hj4
        have hltd : decide (((4 : Nat) : Int) < 4) = false := decide_eq_false (by omega)
        have hn0 : 0 ≤ nn := hnb.1
        have hn1 : nn < 4294967296 := by have h1 := hnb.2; have h2 : (256 : Int) ^ 4 = 4294967296 := by decide
                                         omega
        have HXS2 : Aside0 (x1 = fKd xs ∧ x2 = fNd xs ∧ nn = fNc xs ∧ x7 = fIx xs ∧ x8 = fCt xs) := Aside0.mk ⟨HXS.out.1, HXS.out.2.1, HNN.out.trans HXS.out.2.2.1, HXS.out.2.2.2⟩
        clear hc4 hnb HXS
        obtain ⟨w5, rfl⟩ : ∃ w5, w5 = wr := ⟨_, rfl⟩
        have e3 := HS5.cell 1 3 rfl rfl
        have e4 := HS5.cell 1 4 rfl rfl
        have e5 := HS5.cell 1 5 rfl rfl
        go_upto_if 71 with (fail)
        go_cut [8, 71] (fun v8 v71 wd => v8 = .bool (szW m x7 x8) ∧ wd = w5)
        case first =>
          by_cases clast : x7 = x8 - 1
          · by_cases cle : m ≤ 48
            · by_cases cpos : 0 < m
              · by_cases cbig : x7 * 48 + (m : Int) ≤ 4096
                · have HSZ := Aside0.mk (show szW m x7 x8 = true from by unfold szW; rw [if_pos clast]; simp [cle, cpos, cbig])
                  have hlaa : (x7 == (x8 - 1)) = true := by simp; omega
                  have hlab : (x7 != (x8 - 1)) = false := by simp; omega
                  have hle : decide ((m : Int) ≤ 48) = true := decide_eq_true (by omega)
                  have hlf : decide (m ≤ 48) = true := decide_eq_true (by omega)
                  have hpo : decide ((0 : Int) < (m : Int)) = true := decide_eq_true (by omega)
                  have hpp : decide (0 < m) = true := decide_eq_true (by omega)
                  have hbg : decide (x7 * 48 + (m : Int) ≤ 4096) = true := decide_eq_true (by omega)
                  clear clast cle cpos cbig
                  go_wp2_with fail
                  go_meet
                  case rel => exact ⟨by rw [HSZ.out], rfl⟩
                · have HSZ := Aside0.mk (show szW m x7 x8 = false from by unfold szW; rw [if_pos clast]; simp [cle, cpos, cbig])
                  have hlaa : (x7 == (x8 - 1)) = true := by simp; omega
                  have hlab : (x7 != (x8 - 1)) = false := by simp; omega
                  have hle : decide ((m : Int) ≤ 48) = true := decide_eq_true (by omega)
                  have hlf : decide (m ≤ 48) = true := decide_eq_true (by omega)
                  have hpo : decide ((0 : Int) < (m : Int)) = true := decide_eq_true (by omega)
                  have hpp : decide (0 < m) = true := decide_eq_true (by omega)
                  have hbg : decide (x7 * 48 + (m : Int) ≤ 4096) = false := decide_eq_false (by omega)
                  clear clast cle cpos cbig
                  go_wp2_with fail
                  go_meet
                  case rel => exact ⟨by rw [HSZ.out], rfl⟩
              · by_cases cone : x8 = 1
                · by_cases cbig : x7 * 48 + (m : Int) ≤ 4096
                  · have HSZ := Aside0.mk (show szW m x7 x8 = true from by unfold szW; rw [if_pos clast]; simp [cle, cpos, cone, cbig])
                    have hlaa : (x7 == (x8 - 1)) = true := by simp; omega
                    have hlab : (x7 != (x8 - 1)) = false := by simp; omega
                    have hle : decide ((m : Int) ≤ 48) = true := decide_eq_true (by omega)
                    have hlf : decide (m ≤ 48) = true := decide_eq_true (by omega)
                    have hpo : decide ((0 : Int) < (m : Int)) = false := decide_eq_false (by omega)
                    have hpp : decide (0 < m) = false := decide_eq_false (by omega)
                    have hona : (x8 == 1) = true := by simp; omega
                    have honb : (x8 != 1) = false := by simp; omega
                    have hbg : decide (x7 * 48 + (m : Int) ≤ 4096) = true := decide_eq_true (by omega)
                    clear clast cle cpos cone cbig
                    go_wp2_with fail
                    go_meet
                    case rel => exact ⟨by rw [HSZ.out], rfl⟩
                  · have HSZ := Aside0.mk (show szW m x7 x8 = false from by unfold szW; rw [if_pos clast]; simp [cle, cpos, cone, cbig])
                    have hlaa : (x7 == (x8 - 1)) = true := by simp; omega
                    have hlab : (x7 != (x8 - 1)) = false := by simp; omega
                    have hle : decide ((m : Int) ≤ 48) = true := decide_eq_true (by omega)
                    have hlf : decide (m ≤ 48) = true := decide_eq_true (by omega)
                    have hpo : decide ((0 : Int) < (m : Int)) = false := decide_eq_false (by omega)
                    have hpp : decide (0 < m) = false := decide_eq_false (by omega)
                    have hona : (x8 == 1) = true := by simp; omega
                    have honb : (x8 != 1) = false := by simp; omega
                    have hbg : decide (x7 * 48 + (m : Int) ≤ 4096) = false := decide_eq_false (by omega)
                    clear clast cle cpos cone cbig
                    go_wp2_with fail
                    go_meet
                    case rel => exact ⟨by rw [HSZ.out], rfl⟩
                · have HSZ := Aside0.mk (show szW m x7 x8 = false from by unfold szW; rw [if_pos clast]; simp [cle, cpos, cone])
                  have hlaa : (x7 == (x8 - 1)) = true := by simp; omega
                  have hlab : (x7 != (x8 - 1)) = false := by simp; omega
                  have hle : decide ((m : Int) ≤ 48) = true := decide_eq_true (by omega)
                  have hlf : decide (m ≤ 48) = true := decide_eq_true (by omega)
                  have hpo : decide ((0 : Int) < (m : Int)) = false := decide_eq_false (by omega)
                  have hpp : decide (0 < m) = false := decide_eq_false (by omega)
                  have hona : (x8 == 1) = false := by simp; omega
                  have honb : (x8 != 1) = true := by simp; omega
                  clear clast cle cpos cone
                  go_wp2_with fail
                  go_meet
                  case rel => exact ⟨by rw [HSZ.out], rfl⟩
            · have HSZ := Aside0.mk (show szW m x7 x8 = false from by unfold szW; rw [if_pos clast]; simp [cle])
              have hlaa : (x7 == (x8 - 1)) = true := by simp; omega
              have hlab : (x7 != (x8 - 1)) = false := by simp; omega
              have hle : decide ((m : Int) ≤ 48) = false := decide_eq_false (by omega)
              have hlf : decide (m ≤ 48) = false := decide_eq_false (by omega)
              clear clast cle
              go_wp2_with fail
              go_meet
              case rel => exact ⟨by rw [HSZ.out], rfl⟩
          · have HSZ := Aside0.mk (show szW m x7 x8 = ((m : Int) == 48) from by unfold szW; rw [if_neg clast, Bool.eq_iff_iff]; simp; omega)
            have hlaa : (x7 == (x8 - 1)) = false := by simp; omega
            have hlab : (x7 != (x8 - 1)) = true := by simp; omega
            clear clast
            go_wp2_with fail
            go_meet
            case rel => exact ⟨by rw [HSZ.out], rfl⟩
        case rest =>
          obtain ⟨rfl, rfl⟩ := hcut
          obtain ⟨w5, rfl⟩ : ∃ w5, w5 = wc := ⟨_, rfl⟩
          have HIFF := Aside0.mk (readw_iff HXS2.out HF.out HML.out)
          have HFL := Aside0.mk (show (fBy xs).length ≤ 1073741824 from by have := HML.out; omega)
          have HFX := Aside0.mk (show ∀ x ∈ PW16.frameB x1 x2 nn x7 x8 (fBy xs), 0 ≤ x ∧ x < 256 from PW16.frameB_in x1 x2 nn x7 x8 (fun x hx => HX.out x (List.mem_of_mem_take (List.mem_of_mem_drop hx))))
          have HSC := Aside0.mk (fun (w' : World) (hb : Below w.heap.size w w') => Kd.C_string (P := Try.prog) (src := 22) (dst := 9) (c := c) Try.underlying22 Try.underlying5 Try.underlying9 (Kd.C_below HR.out hb))
          have hxl : (xs.length) = len := HL.out.symm
          rw [hxl] at HSC
          clear hxl
          obtain ⟨sz, hsz⟩ : ∃ sz, sz = szW m x7 x8 := ⟨_, rfl⟩
          rw [← hsz] at HIFF ⊢
          clear hsz hcap e3 e4 e5
          go_upto_region 13 with fail
          go_cut [127] (fun v127 wd => ∃ bad : Bool, v127 = .bool bad ∧ (bad = true ↔ ¬ ReadOk xs) ∧ Sat w wd [row kB 5 (.slice A1 m c1) (fBy xs), blk g4 (.cells #[.int .i64 x1, .int .i64 x2, .int .i64 nn, .int .i64 x7, .int .i64 x8, .slice A1 m c1] 35 (0, 0)), blk g2 (.cells #[.int .i64 0, .int .i64 0, .int .i64 0, .int .i64 0, .int .i64 0, .slice none 0 0] 35 (0, 0))])
          case first =>
            by_cases chd : PW16.okHead x1 x2 nn = true
            · by_cases cc1 : x8 < 1
              · as_aux_lemma =>
                  have hc1 : decide (x8 < 1) = true := decide_eq_true (by omega)
                  have HBAD : Aside0 ((true = true) ↔ ¬ ReadOk xs) := Aside0.mk (by rw [HIFF.out]; simp [chd, cc1])
                  have HHD := Aside0.mk chd
                  clear chd cc1
                  refine region (frees [0, 2, 4] (helds [1, 3, 5] (.one 6 (frees [7, 8, 9] (helds [10] (frees [11, 12, 13, 14] (helds [15] (frees [16, 17, 18, 19, 21] (helds [20, 22] (frees [23, 24, 25, 26, 27, 28, 29, 33] (helds [30, 34] (.one 31 (.one 32 (frees [35, 36] .done)))))))))))))) (fun w' => w'.cell? ⟨g4, 0, none⟩ = some (.int .i64 x1) ∧ w'.cell? ⟨g4, 1, none⟩ = some (.int .i64 x2) ∧ w'.cell? ⟨g4, 2, none⟩ = some (.int .i64 nn) ∧ w'.cell? ⟨g4, 3, none⟩ = some (.int .i64 x7) ∧ w'.cell? ⟨g4, 4, none⟩ = some (.int .i64 x8) ∧ w'.cell? ⟨g4, 5, none⟩ = some (.slice A1 m c1) ∧ (convert 22 9 (.slice (some ⟨b, o, none⟩) len c)).run Try.prog w' = .ok (.string (strOfNums xs)) w') [] (by kernel_rfl) (by kernel_rfl) ?_
                  have HS6 := HS5.drew
                  clear HS5
                  generalize w5.drew = wb at HS6 ⊢
                  have e0 := HS6.cell 1 0 rfl rfl
                  have e1 := HS6.cell 1 1 rfl rfl
                  have e2 := HS6.cell 1 2 rfl rfl
                  have e3 := HS6.cell 1 3 rfl rfl
                  have e4 := HS6.cell 1 4 rfl rfl
                  have e5 := HS6.cell 1 5 rfl rfl
                  have sx := HSC.out _ HS6.below
                  repeat (first | (refine st_free (v := ?_) (a' := ?_) (by simp only [List.getElem?_toArray, List.getElem?_cons_succ, List.getElem?_cons_zero]; rfl) (by rfl) ?_ ?_ ?_; rotate_left 2; (intro w'; go_simp; with_reducible rfl); (simp only [Act.put, List.setIfInBounds_toArray, List.set_cons_zero, List.set_cons_succ]; rfl)) | (refine st_held (v := ?_) (a' := ?_) ⟨e0, e1, e2, e3, e4, e5, sx⟩ (by simp only [List.getElem?_toArray, List.getElem?_cons_succ, List.getElem?_cons_zero]; rfl) (by rfl) ?_ ?_ ?_; rotate_left 2; (rintro w' ⟨s0, s1, s2, s3, s4, s5, s6⟩; go_simp; with_reducible rfl); (simp only [Act.put, List.setIfInBounds_toArray, List.set_cons_zero, List.set_cons_succ]; rfl)) | (refine st_off (a' := ?_) (by simp only [List.getElem?_toArray, List.getElem?_cons_succ, List.getElem?_cons_zero]; rfl) (by rfl) ?_ ?_; rotate_left; (simp only [Act.put, List.setIfInBounds_toArray, List.set_cons_zero, List.set_cons_succ]; rfl)) | (refine st_hoff (a' := ?_) ⟨e0, e1, e2, e3, e4, e5, sx⟩ (by simp only [List.getElem?_toArray, List.getElem?_cons_succ, List.getElem?_cons_zero]; rfl) (by rfl) ?_ ?_; rotate_left; (simp only [Act.put, List.setIfInBounds_toArray, List.set_cons_zero, List.set_cons_succ]; rfl)))
                  refine st_one (by simp only [List.getElem?_toArray, List.getElem?_cons_succ, List.getElem?_cons_zero]; rfl) ?_
                  refine goesL_ (some 97) rfl rfl Try.func54 (by kernel_rfl) rfl #[.int .i64 x1, .int .i64 x2, .int .i64 nn] rfl (by go_simp) ?_
                  refine (may54 x1 x2 nn true HHD.out).mono ?_
                  rintro e w6 ⟨rfl, HH⟩
                  have HS7 := HS6.frame HH
                  clear HS6 HH e0 e1 e2 e3 e4 e5 sx
                  refine ⟨_, rfl, ?_⟩
                  have e0 := HS7.cell 1 0 rfl rfl
                  have e1 := HS7.cell 1 1 rfl rfl
                  have e2 := HS7.cell 1 2 rfl rfl
                  have e3 := HS7.cell 1 3 rfl rfl
                  have e4 := HS7.cell 1 4 rfl rfl
                  have e5 := HS7.cell 1 5 rfl rfl
                  have sx := HSC.out _ HS7.below
                  refine ⟨⟨e0, e1, e2, e3, e4, e5, sx⟩, ?_⟩
                  refine st_norm (a' := ?_) ?_ ?_; rotate_left; (simp only [Act.put, List.setIfInBounds_toArray, List.set_cons_zero, List.set_cons_succ]; rfl)
                  repeat (first | (refine st_free (v := ?_) (a' := ?_) (by simp only [List.getElem?_toArray, List.getElem?_cons_succ, List.getElem?_cons_zero]; rfl) (by rfl) ?_ ?_ ?_; rotate_left 2; (intro w'; go_simp; with_reducible rfl); (simp only [Act.put, List.setIfInBounds_toArray, List.set_cons_zero, List.set_cons_succ]; rfl)) | (refine st_held (v := ?_) (a' := ?_) ⟨e0, e1, e2, e3, e4, e5, sx⟩ (by simp only [List.getElem?_toArray, List.getElem?_cons_succ, List.getElem?_cons_zero]; rfl) (by rfl) ?_ ?_ ?_; rotate_left 2; (rintro w' ⟨s0, s1, s2, s3, s4, s5, s6⟩; go_simp; with_reducible rfl); (simp only [Act.put, List.setIfInBounds_toArray, List.set_cons_zero, List.set_cons_succ]; rfl)) | (refine st_off (a' := ?_) (by simp only [List.getElem?_toArray, List.getElem?_cons_succ, List.getElem?_cons_zero]; rfl) (by rfl) ?_ ?_; rotate_left; (simp only [Act.put, List.setIfInBounds_toArray, List.set_cons_zero, List.set_cons_succ]; rfl)) | (refine st_hoff (a' := ?_) ⟨e0, e1, e2, e3, e4, e5, sx⟩ (by simp only [List.getElem?_toArray, List.getElem?_cons_succ, List.getElem?_cons_zero]; rfl) (by rfl) ?_ ?_; rotate_left; (simp only [Act.put, List.setIfInBounds_toArray, List.set_cons_zero, List.set_cons_succ]; rfl)))
                  refine st_one (by simp only [List.getElem?_toArray, List.getElem?_cons_succ, List.getElem?_cons_zero]; rfl) ?_
                  refine offG (by rfl) ?_
                  refine ⟨⟨e0, e1, e2, e3, e4, e5, sx⟩, ?_⟩
                  refine st_norm (a' := ?_) ?_ ?_; rotate_left; (simp only [Act.put, List.setIfInBounds_toArray, List.set_cons_zero, List.set_cons_succ]; rfl)
                  refine st_one (by simp only [List.getElem?_toArray, List.getElem?_cons_succ, List.getElem?_cons_zero]; rfl) ?_
                  refine offG (by rfl) ?_
                  refine ⟨⟨e0, e1, e2, e3, e4, e5, sx⟩, ?_⟩
                  refine st_norm (a' := ?_) ?_ ?_; rotate_left; (simp only [Act.put, List.setIfInBounds_toArray, List.set_cons_zero, List.set_cons_succ]; rfl)
                  repeat (first | (refine st_free (v := ?_) (a' := ?_) (by simp only [List.getElem?_toArray, List.getElem?_cons_succ, List.getElem?_cons_zero]; rfl) (by rfl) ?_ ?_ ?_; rotate_left 2; (intro w'; go_simp; with_reducible rfl); (simp only [Act.put, List.setIfInBounds_toArray, List.set_cons_zero, List.set_cons_succ]; rfl)) | (refine st_held (v := ?_) (a' := ?_) ⟨e0, e1, e2, e3, e4, e5, sx⟩ (by simp only [List.getElem?_toArray, List.getElem?_cons_succ, List.getElem?_cons_zero]; rfl) (by rfl) ?_ ?_ ?_; rotate_left 2; (rintro w' ⟨s0, s1, s2, s3, s4, s5, s6⟩; go_simp; with_reducible rfl); (simp only [Act.put, List.setIfInBounds_toArray, List.set_cons_zero, List.set_cons_succ]; rfl)) | (refine st_off (a' := ?_) (by simp only [List.getElem?_toArray, List.getElem?_cons_succ, List.getElem?_cons_zero]; rfl) (by rfl) ?_ ?_; rotate_left; (simp only [Act.put, List.setIfInBounds_toArray, List.set_cons_zero, List.set_cons_succ]; rfl)) | (refine st_hoff (a' := ?_) ⟨e0, e1, e2, e3, e4, e5, sx⟩ (by simp only [List.getElem?_toArray, List.getElem?_cons_succ, List.getElem?_cons_zero]; rfl) (by rfl) ?_ ?_; rotate_left; (simp only [Act.put, List.setIfInBounds_toArray, List.set_cons_zero, List.set_cons_succ]; rfl)))
                  refine st_done ?_
                  go_wp2_with fail
                  go_meet
                  case rel => exact ⟨_, rfl, by simpa using HBAD.out, HS7⟩
              · by_cases cc2 : 86 < x8
                · as_aux_lemma =>
                    have hc1 : decide (x8 < 1) = false := decide_eq_false (by omega)
                    have hc2 : decide (86 < x8) = true := decide_eq_true (by omega)
                    have HBAD : Aside0 ((true = true) ↔ ¬ ReadOk xs) := Aside0.mk (by rw [HIFF.out]; simp [chd, cc1, cc2])
                    have HHD := Aside0.mk chd
                    clear chd cc1 cc2
                    refine region (frees [0, 2, 4] (helds [1, 3, 5] (.one 6 (frees [7, 8, 9] (helds [10] (frees [11, 12, 13, 14] (helds [15] (frees [16, 17, 18, 19, 21] (helds [20, 22] (frees [23, 24, 25, 26, 27, 28, 29, 33] (helds [30, 34] (.one 31 (.one 32 (frees [35, 36] .done)))))))))))))) (fun w' => w'.cell? ⟨g4, 0, none⟩ = some (.int .i64 x1) ∧ w'.cell? ⟨g4, 1, none⟩ = some (.int .i64 x2) ∧ w'.cell? ⟨g4, 2, none⟩ = some (.int .i64 nn) ∧ w'.cell? ⟨g4, 3, none⟩ = some (.int .i64 x7) ∧ w'.cell? ⟨g4, 4, none⟩ = some (.int .i64 x8) ∧ w'.cell? ⟨g4, 5, none⟩ = some (.slice A1 m c1) ∧ (convert 22 9 (.slice (some ⟨b, o, none⟩) len c)).run Try.prog w' = .ok (.string (strOfNums xs)) w') [] (by kernel_rfl) (by kernel_rfl) ?_
                    have HS6 := HS5.drew
                    clear HS5
                    generalize w5.drew = wb at HS6 ⊢
                    have e0 := HS6.cell 1 0 rfl rfl
                    have e1 := HS6.cell 1 1 rfl rfl
                    have e2 := HS6.cell 1 2 rfl rfl
                    have e3 := HS6.cell 1 3 rfl rfl
                    have e4 := HS6.cell 1 4 rfl rfl
                    have e5 := HS6.cell 1 5 rfl rfl
                    have sx := HSC.out _ HS6.below
                    repeat (first | (refine st_free (v := ?_) (a' := ?_) (by simp only [List.getElem?_toArray, List.getElem?_cons_succ, List.getElem?_cons_zero]; rfl) (by rfl) ?_ ?_ ?_; rotate_left 2; (intro w'; go_simp; with_reducible rfl); (simp only [Act.put, List.setIfInBounds_toArray, List.set_cons_zero, List.set_cons_succ]; rfl)) | (refine st_held (v := ?_) (a' := ?_) ⟨e0, e1, e2, e3, e4, e5, sx⟩ (by simp only [List.getElem?_toArray, List.getElem?_cons_succ, List.getElem?_cons_zero]; rfl) (by rfl) ?_ ?_ ?_; rotate_left 2; (rintro w' ⟨s0, s1, s2, s3, s4, s5, s6⟩; go_simp; with_reducible rfl); (simp only [Act.put, List.setIfInBounds_toArray, List.set_cons_zero, List.set_cons_succ]; rfl)) | (refine st_off (a' := ?_) (by simp only [List.getElem?_toArray, List.getElem?_cons_succ, List.getElem?_cons_zero]; rfl) (by rfl) ?_ ?_; rotate_left; (simp only [Act.put, List.setIfInBounds_toArray, List.set_cons_zero, List.set_cons_succ]; rfl)) | (refine st_hoff (a' := ?_) ⟨e0, e1, e2, e3, e4, e5, sx⟩ (by simp only [List.getElem?_toArray, List.getElem?_cons_succ, List.getElem?_cons_zero]; rfl) (by rfl) ?_ ?_; rotate_left; (simp only [Act.put, List.setIfInBounds_toArray, List.set_cons_zero, List.set_cons_succ]; rfl)))
                    refine st_one (by simp only [List.getElem?_toArray, List.getElem?_cons_succ, List.getElem?_cons_zero]; rfl) ?_
                    refine goesL_ (some 97) rfl rfl Try.func54 (by kernel_rfl) rfl #[.int .i64 x1, .int .i64 x2, .int .i64 nn] rfl (by go_simp) ?_
                    refine (may54 x1 x2 nn true HHD.out).mono ?_
                    rintro e w6 ⟨rfl, HH⟩
                    have HS7 := HS6.frame HH
                    clear HS6 HH e0 e1 e2 e3 e4 e5 sx
                    refine ⟨_, rfl, ?_⟩
                    have e0 := HS7.cell 1 0 rfl rfl
                    have e1 := HS7.cell 1 1 rfl rfl
                    have e2 := HS7.cell 1 2 rfl rfl
                    have e3 := HS7.cell 1 3 rfl rfl
                    have e4 := HS7.cell 1 4 rfl rfl
                    have e5 := HS7.cell 1 5 rfl rfl
                    have sx := HSC.out _ HS7.below
                    refine ⟨⟨e0, e1, e2, e3, e4, e5, sx⟩, ?_⟩
                    refine st_norm (a' := ?_) ?_ ?_; rotate_left; (simp only [Act.put, List.setIfInBounds_toArray, List.set_cons_zero, List.set_cons_succ]; rfl)
                    repeat (first | (refine st_free (v := ?_) (a' := ?_) (by simp only [List.getElem?_toArray, List.getElem?_cons_succ, List.getElem?_cons_zero]; rfl) (by rfl) ?_ ?_ ?_; rotate_left 2; (intro w'; go_simp; with_reducible rfl); (simp only [Act.put, List.setIfInBounds_toArray, List.set_cons_zero, List.set_cons_succ]; rfl)) | (refine st_held (v := ?_) (a' := ?_) ⟨e0, e1, e2, e3, e4, e5, sx⟩ (by simp only [List.getElem?_toArray, List.getElem?_cons_succ, List.getElem?_cons_zero]; rfl) (by rfl) ?_ ?_ ?_; rotate_left 2; (rintro w' ⟨s0, s1, s2, s3, s4, s5, s6⟩; go_simp; with_reducible rfl); (simp only [Act.put, List.setIfInBounds_toArray, List.set_cons_zero, List.set_cons_succ]; rfl)) | (refine st_off (a' := ?_) (by simp only [List.getElem?_toArray, List.getElem?_cons_succ, List.getElem?_cons_zero]; rfl) (by rfl) ?_ ?_; rotate_left; (simp only [Act.put, List.setIfInBounds_toArray, List.set_cons_zero, List.set_cons_succ]; rfl)) | (refine st_hoff (a' := ?_) ⟨e0, e1, e2, e3, e4, e5, sx⟩ (by simp only [List.getElem?_toArray, List.getElem?_cons_succ, List.getElem?_cons_zero]; rfl) (by rfl) ?_ ?_; rotate_left; (simp only [Act.put, List.setIfInBounds_toArray, List.set_cons_zero, List.set_cons_succ]; rfl)))
                    refine st_one (by simp only [List.getElem?_toArray, List.getElem?_cons_succ, List.getElem?_cons_zero]; rfl) ?_
                    refine offG (by rfl) ?_
                    refine ⟨⟨e0, e1, e2, e3, e4, e5, sx⟩, ?_⟩
                    refine st_norm (a' := ?_) ?_ ?_; rotate_left; (simp only [Act.put, List.setIfInBounds_toArray, List.set_cons_zero, List.set_cons_succ]; rfl)
                    refine st_one (by simp only [List.getElem?_toArray, List.getElem?_cons_succ, List.getElem?_cons_zero]; rfl) ?_
                    refine offG (by rfl) ?_
                    refine ⟨⟨e0, e1, e2, e3, e4, e5, sx⟩, ?_⟩
                    refine st_norm (a' := ?_) ?_ ?_; rotate_left; (simp only [Act.put, List.setIfInBounds_toArray, List.set_cons_zero, List.set_cons_succ]; rfl)
                    repeat (first | (refine st_free (v := ?_) (a' := ?_) (by simp only [List.getElem?_toArray, List.getElem?_cons_succ, List.getElem?_cons_zero]; rfl) (by rfl) ?_ ?_ ?_; rotate_left 2; (intro w'; go_simp; with_reducible rfl); (simp only [Act.put, List.setIfInBounds_toArray, List.set_cons_zero, List.set_cons_succ]; rfl)) | (refine st_held (v := ?_) (a' := ?_) ⟨e0, e1, e2, e3, e4, e5, sx⟩ (by simp only [List.getElem?_toArray, List.getElem?_cons_succ, List.getElem?_cons_zero]; rfl) (by rfl) ?_ ?_ ?_; rotate_left 2; (rintro w' ⟨s0, s1, s2, s3, s4, s5, s6⟩; go_simp; with_reducible rfl); (simp only [Act.put, List.setIfInBounds_toArray, List.set_cons_zero, List.set_cons_succ]; rfl)) | (refine st_off (a' := ?_) (by simp only [List.getElem?_toArray, List.getElem?_cons_succ, List.getElem?_cons_zero]; rfl) (by rfl) ?_ ?_; rotate_left; (simp only [Act.put, List.setIfInBounds_toArray, List.set_cons_zero, List.set_cons_succ]; rfl)) | (refine st_hoff (a' := ?_) ⟨e0, e1, e2, e3, e4, e5, sx⟩ (by simp only [List.getElem?_toArray, List.getElem?_cons_succ, List.getElem?_cons_zero]; rfl) (by rfl) ?_ ?_; rotate_left; (simp only [Act.put, List.setIfInBounds_toArray, List.set_cons_zero, List.set_cons_succ]; rfl)))
                    refine st_done ?_
                    go_wp2_with fail
                    go_meet
                    case rel => exact ⟨_, rfl, by simpa using HBAD.out, HS7⟩
                · by_cases cc3 : x8 ≤ x7
                  · as_aux_lemma =>
                      have hc1 : decide (x8 < 1) = false := decide_eq_false (by omega)
                      have hc2 : decide (86 < x8) = false := decide_eq_false (by omega)
                      have hc3 : decide (x8 ≤ x7) = true := decide_eq_true (by omega)
                      have HBAD : Aside0 ((true = true) ↔ ¬ ReadOk xs) := Aside0.mk (by rw [HIFF.out]; simp [chd, cc1, cc2, cc3])
                      have HHD := Aside0.mk chd
                      clear chd cc1 cc2 cc3
                      refine region (frees [0, 2, 4] (helds [1, 3, 5] (.one 6 (frees [7, 8, 9] (helds [10] (frees [11, 12, 13, 14] (helds [15] (frees [16, 17, 18, 19, 21] (helds [20, 22] (frees [23, 24, 25, 26, 27, 28, 29, 33] (helds [30, 34] (.one 31 (.one 32 (frees [35, 36] .done)))))))))))))) (fun w' => w'.cell? ⟨g4, 0, none⟩ = some (.int .i64 x1) ∧ w'.cell? ⟨g4, 1, none⟩ = some (.int .i64 x2) ∧ w'.cell? ⟨g4, 2, none⟩ = some (.int .i64 nn) ∧ w'.cell? ⟨g4, 3, none⟩ = some (.int .i64 x7) ∧ w'.cell? ⟨g4, 4, none⟩ = some (.int .i64 x8) ∧ w'.cell? ⟨g4, 5, none⟩ = some (.slice A1 m c1) ∧ (convert 22 9 (.slice (some ⟨b, o, none⟩) len c)).run Try.prog w' = .ok (.string (strOfNums xs)) w') [] (by kernel_rfl) (by kernel_rfl) ?_
                      have HS6 := HS5.drew
                      clear HS5
                      generalize w5.drew = wb at HS6 ⊢
                      have e0 := HS6.cell 1 0 rfl rfl
                      have e1 := HS6.cell 1 1 rfl rfl
                      have e2 := HS6.cell 1 2 rfl rfl
                      have e3 := HS6.cell 1 3 rfl rfl
                      have e4 := HS6.cell 1 4 rfl rfl
                      have e5 := HS6.cell 1 5 rfl rfl
                      have sx := HSC.out _ HS6.below
                      repeat (first | (refine st_free (v := ?_) (a' := ?_) (by simp only [List.getElem?_toArray, List.getElem?_cons_succ, List.getElem?_cons_zero]; rfl) (by rfl) ?_ ?_ ?_; rotate_left 2; (intro w'; go_simp; with_reducible rfl); (simp only [Act.put, List.setIfInBounds_toArray, List.set_cons_zero, List.set_cons_succ]; rfl)) | (refine st_held (v := ?_) (a' := ?_) ⟨e0, e1, e2, e3, e4, e5, sx⟩ (by simp only [List.getElem?_toArray, List.getElem?_cons_succ, List.getElem?_cons_zero]; rfl) (by rfl) ?_ ?_ ?_; rotate_left 2; (rintro w' ⟨s0, s1, s2, s3, s4, s5, s6⟩; go_simp; with_reducible rfl); (simp only [Act.put, List.setIfInBounds_toArray, List.set_cons_zero, List.set_cons_succ]; rfl)) | (refine st_off (a' := ?_) (by simp only [List.getElem?_toArray, List.getElem?_cons_succ, List.getElem?_cons_zero]; rfl) (by rfl) ?_ ?_; rotate_left; (simp only [Act.put, List.setIfInBounds_toArray, List.set_cons_zero, List.set_cons_succ]; rfl)) | (refine st_hoff (a' := ?_) ⟨e0, e1, e2, e3, e4, e5, sx⟩ (by simp only [List.getElem?_toArray, List.getElem?_cons_succ, List.getElem?_cons_zero]; rfl) (by rfl) ?_ ?_; rotate_left; (simp only [Act.put, List.setIfInBounds_toArray, List.set_cons_zero, List.set_cons_succ]; rfl)))
                      refine st_one (by simp only [List.getElem?_toArray, List.getElem?_cons_succ, List.getElem?_cons_zero]; rfl) ?_
                      refine goesL_ (some 97) rfl rfl Try.func54 (by kernel_rfl) rfl #[.int .i64 x1, .int .i64 x2, .int .i64 nn] rfl (by go_simp) ?_
                      refine (may54 x1 x2 nn true HHD.out).mono ?_
                      rintro e w6 ⟨rfl, HH⟩
                      have HS7 := HS6.frame HH
                      clear HS6 HH e0 e1 e2 e3 e4 e5 sx
                      refine ⟨_, rfl, ?_⟩
                      have e0 := HS7.cell 1 0 rfl rfl
                      have e1 := HS7.cell 1 1 rfl rfl
                      have e2 := HS7.cell 1 2 rfl rfl
                      have e3 := HS7.cell 1 3 rfl rfl
                      have e4 := HS7.cell 1 4 rfl rfl
                      have e5 := HS7.cell 1 5 rfl rfl
                      have sx := HSC.out _ HS7.below
                      refine ⟨⟨e0, e1, e2, e3, e4, e5, sx⟩, ?_⟩
                      refine st_norm (a' := ?_) ?_ ?_; rotate_left; (simp only [Act.put, List.setIfInBounds_toArray, List.set_cons_zero, List.set_cons_succ]; rfl)
                      repeat (first | (refine st_free (v := ?_) (a' := ?_) (by simp only [List.getElem?_toArray, List.getElem?_cons_succ, List.getElem?_cons_zero]; rfl) (by rfl) ?_ ?_ ?_; rotate_left 2; (intro w'; go_simp; with_reducible rfl); (simp only [Act.put, List.setIfInBounds_toArray, List.set_cons_zero, List.set_cons_succ]; rfl)) | (refine st_held (v := ?_) (a' := ?_) ⟨e0, e1, e2, e3, e4, e5, sx⟩ (by simp only [List.getElem?_toArray, List.getElem?_cons_succ, List.getElem?_cons_zero]; rfl) (by rfl) ?_ ?_ ?_; rotate_left 2; (rintro w' ⟨s0, s1, s2, s3, s4, s5, s6⟩; go_simp; with_reducible rfl); (simp only [Act.put, List.setIfInBounds_toArray, List.set_cons_zero, List.set_cons_succ]; rfl)) | (refine st_off (a' := ?_) (by simp only [List.getElem?_toArray, List.getElem?_cons_succ, List.getElem?_cons_zero]; rfl) (by rfl) ?_ ?_; rotate_left; (simp only [Act.put, List.setIfInBounds_toArray, List.set_cons_zero, List.set_cons_succ]; rfl)) | (refine st_hoff (a' := ?_) ⟨e0, e1, e2, e3, e4, e5, sx⟩ (by simp only [List.getElem?_toArray, List.getElem?_cons_succ, List.getElem?_cons_zero]; rfl) (by rfl) ?_ ?_; rotate_left; (simp only [Act.put, List.setIfInBounds_toArray, List.set_cons_zero, List.set_cons_succ]; rfl)))
                      refine st_one (by simp only [List.getElem?_toArray, List.getElem?_cons_succ, List.getElem?_cons_zero]; rfl) ?_
                      refine offG (by rfl) ?_
                      refine ⟨⟨e0, e1, e2, e3, e4, e5, sx⟩, ?_⟩
                      refine st_norm (a' := ?_) ?_ ?_; rotate_left; (simp only [Act.put, List.setIfInBounds_toArray, List.set_cons_zero, List.set_cons_succ]; rfl)
                      refine st_one (by simp only [List.getElem?_toArray, List.getElem?_cons_succ, List.getElem?_cons_zero]; rfl) ?_
                      refine offG (by rfl) ?_
                      refine ⟨⟨e0, e1, e2, e3, e4, e5, sx⟩, ?_⟩
                      refine st_norm (a' := ?_) ?_ ?_; rotate_left; (simp only [Act.put, List.setIfInBounds_toArray, List.set_cons_zero, List.set_cons_succ]; rfl)
                      repeat (first | (refine st_free (v := ?_) (a' := ?_) (by simp only [List.getElem?_toArray, List.getElem?_cons_succ, List.getElem?_cons_zero]; rfl) (by rfl) ?_ ?_ ?_; rotate_left 2; (intro w'; go_simp; with_reducible rfl); (simp only [Act.put, List.setIfInBounds_toArray, List.set_cons_zero, List.set_cons_succ]; rfl)) | (refine st_held (v := ?_) (a' := ?_) ⟨e0, e1, e2, e3, e4, e5, sx⟩ (by simp only [List.getElem?_toArray, List.getElem?_cons_succ, List.getElem?_cons_zero]; rfl) (by rfl) ?_ ?_ ?_; rotate_left 2; (rintro w' ⟨s0, s1, s2, s3, s4, s5, s6⟩; go_simp; with_reducible rfl); (simp only [Act.put, List.setIfInBounds_toArray, List.set_cons_zero, List.set_cons_succ]; rfl)) | (refine st_off (a' := ?_) (by simp only [List.getElem?_toArray, List.getElem?_cons_succ, List.getElem?_cons_zero]; rfl) (by rfl) ?_ ?_; rotate_left; (simp only [Act.put, List.setIfInBounds_toArray, List.set_cons_zero, List.set_cons_succ]; rfl)) | (refine st_hoff (a' := ?_) ⟨e0, e1, e2, e3, e4, e5, sx⟩ (by simp only [List.getElem?_toArray, List.getElem?_cons_succ, List.getElem?_cons_zero]; rfl) (by rfl) ?_ ?_; rotate_left; (simp only [Act.put, List.setIfInBounds_toArray, List.set_cons_zero, List.set_cons_succ]; rfl)))
                      refine st_done ?_
                      go_wp2_with fail
                      go_meet
                      case rel => exact ⟨_, rfl, by simpa using HBAD.out, HS7⟩
                  · by_cases csz : sz = true
                    · by_cases cfr : PW16.frameB x1 x2 nn x7 x8 (fBy xs) = xs
                      · as_aux_lemma =>
                          have hc1 : decide (x8 < 1) = false := decide_eq_false (by omega)
                          have hc2 : decide (86 < x8) = false := decide_eq_false (by omega)
                          have hc3 : decide (x8 ≤ x7) = false := decide_eq_false (by omega)
                          subst csz
                          have hfa : ((strOfNums (PW16.frameB x1 x2 nn x7 x8 (fBy xs))).toList == (strOfNums xs).toList) = true := by rw [str_beq HFX.out HX.out]; simp [cfr]
                          have hfb : ((strOfNums (PW16.frameB x1 x2 nn x7 x8 (fBy xs))).toList != (strOfNums xs).toList) = false := by unfold bne; rw [hfa]; rfl
                          have HBAD : Aside0 ((false = true) ↔ ¬ ReadOk xs) := Aside0.mk (by rw [HIFF.out]; simp [chd, cc1, cc2, cc3, cfr])
                          have HHD := Aside0.mk chd
                          clear chd cc1 cc2 cc3 cfr
                          refine region (frees [0, 2, 4] (helds [1, 3, 5] (.one 6 (frees [7, 8, 9] (helds [10] (frees [11, 12, 13, 14] (helds [15] (frees [16, 17, 18, 19, 21] (helds [20, 22] (frees [23, 24, 25, 26, 27, 28, 29, 33] (helds [30, 34] (.one 31 (.one 32 (frees [35, 36] .done)))))))))))))) (fun w' => w'.cell? ⟨g4, 0, none⟩ = some (.int .i64 x1) ∧ w'.cell? ⟨g4, 1, none⟩ = some (.int .i64 x2) ∧ w'.cell? ⟨g4, 2, none⟩ = some (.int .i64 nn) ∧ w'.cell? ⟨g4, 3, none⟩ = some (.int .i64 x7) ∧ w'.cell? ⟨g4, 4, none⟩ = some (.int .i64 x8) ∧ w'.cell? ⟨g4, 5, none⟩ = some (.slice A1 m c1) ∧ (convert 22 9 (.slice (some ⟨b, o, none⟩) len c)).run Try.prog w' = .ok (.string (strOfNums xs)) w') [] (by kernel_rfl) (by kernel_rfl) ?_
                          have HS6 := HS5.drew
                          clear HS5
                          generalize w5.drew = wb at HS6 ⊢
                          have e0 := HS6.cell 1 0 rfl rfl
                          have e1 := HS6.cell 1 1 rfl rfl
                          have e2 := HS6.cell 1 2 rfl rfl
                          have e3 := HS6.cell 1 3 rfl rfl
                          have e4 := HS6.cell 1 4 rfl rfl
                          have e5 := HS6.cell 1 5 rfl rfl
                          have sx := HSC.out _ HS6.below
                          repeat (first | (refine st_free (v := ?_) (a' := ?_) (by simp only [List.getElem?_toArray, List.getElem?_cons_succ, List.getElem?_cons_zero]; rfl) (by rfl) ?_ ?_ ?_; rotate_left 2; (intro w'; go_simp; with_reducible rfl); (simp only [Act.put, List.setIfInBounds_toArray, List.set_cons_zero, List.set_cons_succ]; rfl)) | (refine st_held (v := ?_) (a' := ?_) ⟨e0, e1, e2, e3, e4, e5, sx⟩ (by simp only [List.getElem?_toArray, List.getElem?_cons_succ, List.getElem?_cons_zero]; rfl) (by rfl) ?_ ?_ ?_; rotate_left 2; (rintro w' ⟨s0, s1, s2, s3, s4, s5, s6⟩; go_simp; with_reducible rfl); (simp only [Act.put, List.setIfInBounds_toArray, List.set_cons_zero, List.set_cons_succ]; rfl)) | (refine st_off (a' := ?_) (by simp only [List.getElem?_toArray, List.getElem?_cons_succ, List.getElem?_cons_zero]; rfl) (by rfl) ?_ ?_; rotate_left; (simp only [Act.put, List.setIfInBounds_toArray, List.set_cons_zero, List.set_cons_succ]; rfl)) | (refine st_hoff (a' := ?_) ⟨e0, e1, e2, e3, e4, e5, sx⟩ (by simp only [List.getElem?_toArray, List.getElem?_cons_succ, List.getElem?_cons_zero]; rfl) (by rfl) ?_ ?_; rotate_left; (simp only [Act.put, List.setIfInBounds_toArray, List.set_cons_zero, List.set_cons_succ]; rfl)))
                          refine st_one (by simp only [List.getElem?_toArray, List.getElem?_cons_succ, List.getElem?_cons_zero]; rfl) ?_
                          refine goesL_ (some 97) rfl rfl Try.func54 (by kernel_rfl) rfl #[.int .i64 x1, .int .i64 x2, .int .i64 nn] rfl (by go_simp) ?_
                          refine (may54 x1 x2 nn true HHD.out).mono ?_
                          rintro e w6 ⟨rfl, HH⟩
                          have HS7 := HS6.frame HH
                          clear HS6 HH e0 e1 e2 e3 e4 e5 sx
                          refine ⟨_, rfl, ?_⟩
                          have e0 := HS7.cell 1 0 rfl rfl
                          have e1 := HS7.cell 1 1 rfl rfl
                          have e2 := HS7.cell 1 2 rfl rfl
                          have e3 := HS7.cell 1 3 rfl rfl
                          have e4 := HS7.cell 1 4 rfl rfl
                          have e5 := HS7.cell 1 5 rfl rfl
                          have sx := HSC.out _ HS7.below
                          refine ⟨⟨e0, e1, e2, e3, e4, e5, sx⟩, ?_⟩
                          refine st_norm (a' := ?_) ?_ ?_; rotate_left; (simp only [Act.put, List.setIfInBounds_toArray, List.set_cons_zero, List.set_cons_succ]; rfl)
                          repeat (first | (refine st_free (v := ?_) (a' := ?_) (by simp only [List.getElem?_toArray, List.getElem?_cons_succ, List.getElem?_cons_zero]; rfl) (by rfl) ?_ ?_ ?_; rotate_left 2; (intro w'; go_simp; with_reducible rfl); (simp only [Act.put, List.setIfInBounds_toArray, List.set_cons_zero, List.set_cons_succ]; rfl)) | (refine st_held (v := ?_) (a' := ?_) ⟨e0, e1, e2, e3, e4, e5, sx⟩ (by simp only [List.getElem?_toArray, List.getElem?_cons_succ, List.getElem?_cons_zero]; rfl) (by rfl) ?_ ?_ ?_; rotate_left 2; (rintro w' ⟨s0, s1, s2, s3, s4, s5, s6⟩; go_simp; with_reducible rfl); (simp only [Act.put, List.setIfInBounds_toArray, List.set_cons_zero, List.set_cons_succ]; rfl)) | (refine st_off (a' := ?_) (by simp only [List.getElem?_toArray, List.getElem?_cons_succ, List.getElem?_cons_zero]; rfl) (by rfl) ?_ ?_; rotate_left; (simp only [Act.put, List.setIfInBounds_toArray, List.set_cons_zero, List.set_cons_succ]; rfl)) | (refine st_hoff (a' := ?_) ⟨e0, e1, e2, e3, e4, e5, sx⟩ (by simp only [List.getElem?_toArray, List.getElem?_cons_succ, List.getElem?_cons_zero]; rfl) (by rfl) ?_ ?_; rotate_left; (simp only [Act.put, List.setIfInBounds_toArray, List.set_cons_zero, List.set_cons_succ]; rfl)))
                          refine st_one (by simp only [List.getElem?_toArray, List.getElem?_cons_succ, List.getElem?_cons_zero]; rfl) ?_
                          refine goesG (some 122) rfl (by rfl) Try.func55 (by kernel_rfl) rfl #[.agg #[.int .i64 x1, .int .i64 x2, .int .i64 nn, .int .i64 x7, .int .i64 x8, .slice A1 m c1]] rfl (by go_simp) ?_
                          refine (frame55 x1 x2 nn x7 x8 A1 m c1 (fBy xs) (by have := HS7.readsRow 0 rfl; rw [← HML.out] at this; exact this.2.2) (HS7.readsRow 0 rfl).2.1 HFL.out).mono ?_
                          rintro e w7 ⟨v, rfl, HH⟩
                          have HS8 := HS7.frame HH
                          clear HS7 HH e0 e1 e2 e3 e4 e5 sx
                          obtain ⟨A9, c9, rfl⟩ := HS8.rowShape 0 rfl
                          refine ⟨_, rfl, ?_⟩
                          have e0 := HS8.cell 2 0 rfl rfl
                          have e1 := HS8.cell 2 1 rfl rfl
                          have e2 := HS8.cell 2 2 rfl rfl
                          have e3 := HS8.cell 2 3 rfl rfl
                          have e4 := HS8.cell 2 4 rfl rfl
                          have e5 := HS8.cell 2 5 rfl rfl
                          have sx := HSC.out _ HS8.below
                          have sy := Kd.C_string (P := Try.prog) (src := 22) (dst := 9) (c := c9) Try.underlying22 Try.underlying5 Try.underlying9 (HS8.readsRow 0 rfl).2.2
                          refine ⟨⟨e0, e1, e2, e3, e4, e5, sx⟩, ?_⟩
                          refine st_norm (a' := ?_) ?_ ?_; rotate_left; (simp only [Act.put, List.setIfInBounds_toArray, List.set_cons_zero, List.set_cons_succ]; rfl)
                          refine st_one (by simp only [List.getElem?_toArray, List.getElem?_cons_succ, List.getElem?_cons_zero]; rfl) ?_
                          refine valG (v := .string (strOfNums (PW16.frameB x1 x2 nn x7 x8 (fBy xs)))) (w' := w7) (by rfl) (by go_simp) ?_
                          refine ⟨⟨e0, e1, e2, e3, e4, e5, sx⟩, ?_⟩
                          refine st_norm (a' := ?_) ?_ ?_; rotate_left; (simp only [Act.put, List.setIfInBounds_toArray, List.set_cons_zero, List.set_cons_succ]; rfl)
                          repeat (first | (refine st_free (v := ?_) (a' := ?_) (by simp only [List.getElem?_toArray, List.getElem?_cons_succ, List.getElem?_cons_zero]; rfl) (by rfl) ?_ ?_ ?_; rotate_left 2; (intro w'; go_simp; with_reducible rfl); (simp only [Act.put, List.setIfInBounds_toArray, List.set_cons_zero, List.set_cons_succ]; rfl)) | (refine st_held (v := ?_) (a' := ?_) ⟨e0, e1, e2, e3, e4, e5, sx⟩ (by simp only [List.getElem?_toArray, List.getElem?_cons_succ, List.getElem?_cons_zero]; rfl) (by rfl) ?_ ?_ ?_; rotate_left 2; (rintro w' ⟨s0, s1, s2, s3, s4, s5, s6⟩; go_simp; with_reducible rfl); (simp only [Act.put, List.setIfInBounds_toArray, List.set_cons_zero, List.set_cons_succ]; rfl)) | (refine st_off (a' := ?_) (by simp only [List.getElem?_toArray, List.getElem?_cons_succ, List.getElem?_cons_zero]; rfl) (by rfl) ?_ ?_; rotate_left; (simp only [Act.put, List.setIfInBounds_toArray, List.set_cons_zero, List.set_cons_succ]; rfl)) | (refine st_hoff (a' := ?_) ⟨e0, e1, e2, e3, e4, e5, sx⟩ (by simp only [List.getElem?_toArray, List.getElem?_cons_succ, List.getElem?_cons_zero]; rfl) (by rfl) ?_ ?_; rotate_left; (simp only [Act.put, List.setIfInBounds_toArray, List.set_cons_zero, List.set_cons_succ]; rfl)))
                          refine st_done ?_
                          go_wp2_with fail
                          go_meet
                          case rel => exact ⟨_, rfl, by simpa using HBAD.out, HS8.tail⟩
                      · as_aux_lemma =>
                          have hc1 : decide (x8 < 1) = false := decide_eq_false (by omega)
                          have hc2 : decide (86 < x8) = false := decide_eq_false (by omega)
                          have hc3 : decide (x8 ≤ x7) = false := decide_eq_false (by omega)
                          subst csz
                          have hfa : ((strOfNums (PW16.frameB x1 x2 nn x7 x8 (fBy xs))).toList == (strOfNums xs).toList) = false := by rw [str_beq HFX.out HX.out]; simp [cfr]
                          have hfb : ((strOfNums (PW16.frameB x1 x2 nn x7 x8 (fBy xs))).toList != (strOfNums xs).toList) = true := by unfold bne; rw [hfa]; rfl
                          have HBAD : Aside0 ((true = true) ↔ ¬ ReadOk xs) := Aside0.mk (by rw [HIFF.out]; simp [chd, cc1, cc2, cc3, cfr])
                          have HHD := Aside0.mk chd
                          clear chd cc1 cc2 cc3 cfr
                          refine region (frees [0, 2, 4] (helds [1, 3, 5] (.one 6 (frees [7, 8, 9] (helds [10] (frees [11, 12, 13, 14] (helds [15] (frees [16, 17, 18, 19, 21] (helds [20, 22] (frees [23, 24, 25, 26, 27, 28, 29, 33] (helds [30, 34] (.one 31 (.one 32 (frees [35, 36] .done)))))))))))))) (fun w' => w'.cell? ⟨g4, 0, none⟩ = some (.int .i64 x1) ∧ w'.cell? ⟨g4, 1, none⟩ = some (.int .i64 x2) ∧ w'.cell? ⟨g4, 2, none⟩ = some (.int .i64 nn) ∧ w'.cell? ⟨g4, 3, none⟩ = some (.int .i64 x7) ∧ w'.cell? ⟨g4, 4, none⟩ = some (.int .i64 x8) ∧ w'.cell? ⟨g4, 5, none⟩ = some (.slice A1 m c1) ∧ (convert 22 9 (.slice (some ⟨b, o, none⟩) len c)).run Try.prog w' = .ok (.string (strOfNums xs)) w') [] (by kernel_rfl) (by kernel_rfl) ?_
                          have HS6 := HS5.drew
                          clear HS5
                          generalize w5.drew = wb at HS6 ⊢
                          have e0 := HS6.cell 1 0 rfl rfl
                          have e1 := HS6.cell 1 1 rfl rfl
                          have e2 := HS6.cell 1 2 rfl rfl
                          have e3 := HS6.cell 1 3 rfl rfl
                          have e4 := HS6.cell 1 4 rfl rfl
                          have e5 := HS6.cell 1 5 rfl rfl
                          have sx := HSC.out _ HS6.below
                          repeat (first | (refine st_free (v := ?_) (a' := ?_) (by simp only [List.getElem?_toArray, List.getElem?_cons_succ, List.getElem?_cons_zero]; rfl) (by rfl) ?_ ?_ ?_; rotate_left 2; (intro w'; go_simp; with_reducible rfl); (simp only [Act.put, List.setIfInBounds_toArray, List.set_cons_zero, List.set_cons_succ]; rfl)) | (refine st_held (v := ?_) (a' := ?_) ⟨e0, e1, e2, e3, e4, e5, sx⟩ (by simp only [List.getElem?_toArray, List.getElem?_cons_succ, List.getElem?_cons_zero]; rfl) (by rfl) ?_ ?_ ?_; rotate_left 2; (rintro w' ⟨s0, s1, s2, s3, s4, s5, s6⟩; go_simp; with_reducible rfl); (simp only [Act.put, List.setIfInBounds_toArray, List.set_cons_zero, List.set_cons_succ]; rfl)) | (refine st_off (a' := ?_) (by simp only [List.getElem?_toArray, List.getElem?_cons_succ, List.getElem?_cons_zero]; rfl) (by rfl) ?_ ?_; rotate_left; (simp only [Act.put, List.setIfInBounds_toArray, List.set_cons_zero, List.set_cons_succ]; rfl)) | (refine st_hoff (a' := ?_) ⟨e0, e1, e2, e3, e4, e5, sx⟩ (by simp only [List.getElem?_toArray, List.getElem?_cons_succ, List.getElem?_cons_zero]; rfl) (by rfl) ?_ ?_; rotate_left; (simp only [Act.put, List.setIfInBounds_toArray, List.set_cons_zero, List.set_cons_succ]; rfl)))
                          refine st_one (by simp only [List.getElem?_toArray, List.getElem?_cons_succ, List.getElem?_cons_zero]; rfl) ?_
                          refine goesL_ (some 97) rfl rfl Try.func54 (by kernel_rfl) rfl #[.int .i64 x1, .int .i64 x2, .int .i64 nn] rfl (by go_simp) ?_
                          refine (may54 x1 x2 nn true HHD.out).mono ?_
                          rintro e w6 ⟨rfl, HH⟩
                          have HS7 := HS6.frame HH
                          clear HS6 HH e0 e1 e2 e3 e4 e5 sx
                          refine ⟨_, rfl, ?_⟩
                          have e0 := HS7.cell 1 0 rfl rfl
                          have e1 := HS7.cell 1 1 rfl rfl
                          have e2 := HS7.cell 1 2 rfl rfl
                          have e3 := HS7.cell 1 3 rfl rfl
                          have e4 := HS7.cell 1 4 rfl rfl
                          have e5 := HS7.cell 1 5 rfl rfl
                          have sx := HSC.out _ HS7.below
                          refine ⟨⟨e0, e1, e2, e3, e4, e5, sx⟩, ?_⟩
                          refine st_norm (a' := ?_) ?_ ?_; rotate_left; (simp only [Act.put, List.setIfInBounds_toArray, List.set_cons_zero, List.set_cons_succ]; rfl)
                          repeat (first | (refine st_free (v := ?_) (a' := ?_) (by simp only [List.getElem?_toArray, List.getElem?_cons_succ, List.getElem?_cons_zero]; rfl) (by rfl) ?_ ?_ ?_; rotate_left 2; (intro w'; go_simp; with_reducible rfl); (simp only [Act.put, List.setIfInBounds_toArray, List.set_cons_zero, List.set_cons_succ]; rfl)) | (refine st_held (v := ?_) (a' := ?_) ⟨e0, e1, e2, e3, e4, e5, sx⟩ (by simp only [List.getElem?_toArray, List.getElem?_cons_succ, List.getElem?_cons_zero]; rfl) (by rfl) ?_ ?_ ?_; rotate_left 2; (rintro w' ⟨s0, s1, s2, s3, s4, s5, s6⟩; go_simp; with_reducible rfl); (simp only [Act.put, List.setIfInBounds_toArray, List.set_cons_zero, List.set_cons_succ]; rfl)) | (refine st_off (a' := ?_) (by simp only [List.getElem?_toArray, List.getElem?_cons_succ, List.getElem?_cons_zero]; rfl) (by rfl) ?_ ?_; rotate_left; (simp only [Act.put, List.setIfInBounds_toArray, List.set_cons_zero, List.set_cons_succ]; rfl)) | (refine st_hoff (a' := ?_) ⟨e0, e1, e2, e3, e4, e5, sx⟩ (by simp only [List.getElem?_toArray, List.getElem?_cons_succ, List.getElem?_cons_zero]; rfl) (by rfl) ?_ ?_; rotate_left; (simp only [Act.put, List.setIfInBounds_toArray, List.set_cons_zero, List.set_cons_succ]; rfl)))
                          refine st_one (by simp only [List.getElem?_toArray, List.getElem?_cons_succ, List.getElem?_cons_zero]; rfl) ?_
                          refine goesG (some 122) rfl (by rfl) Try.func55 (by kernel_rfl) rfl #[.agg #[.int .i64 x1, .int .i64 x2, .int .i64 nn, .int .i64 x7, .int .i64 x8, .slice A1 m c1]] rfl (by go_simp) ?_
                          refine (frame55 x1 x2 nn x7 x8 A1 m c1 (fBy xs) (by have := HS7.readsRow 0 rfl; rw [← HML.out] at this; exact this.2.2) (HS7.readsRow 0 rfl).2.1 HFL.out).mono ?_
                          rintro e w7 ⟨v, rfl, HH⟩
                          have HS8 := HS7.frame HH
                          clear HS7 HH e0 e1 e2 e3 e4 e5 sx
                          obtain ⟨A9, c9, rfl⟩ := HS8.rowShape 0 rfl
                          refine ⟨_, rfl, ?_⟩
                          have e0 := HS8.cell 2 0 rfl rfl
                          have e1 := HS8.cell 2 1 rfl rfl
                          have e2 := HS8.cell 2 2 rfl rfl
                          have e3 := HS8.cell 2 3 rfl rfl
                          have e4 := HS8.cell 2 4 rfl rfl
                          have e5 := HS8.cell 2 5 rfl rfl
                          have sx := HSC.out _ HS8.below
                          have sy := Kd.C_string (P := Try.prog) (src := 22) (dst := 9) (c := c9) Try.underlying22 Try.underlying5 Try.underlying9 (HS8.readsRow 0 rfl).2.2
                          refine ⟨⟨e0, e1, e2, e3, e4, e5, sx⟩, ?_⟩
                          refine st_norm (a' := ?_) ?_ ?_; rotate_left; (simp only [Act.put, List.setIfInBounds_toArray, List.set_cons_zero, List.set_cons_succ]; rfl)
                          refine st_one (by simp only [List.getElem?_toArray, List.getElem?_cons_succ, List.getElem?_cons_zero]; rfl) ?_
                          refine valG (v := .string (strOfNums (PW16.frameB x1 x2 nn x7 x8 (fBy xs)))) (w' := w7) (by rfl) (by go_simp) ?_
                          refine ⟨⟨e0, e1, e2, e3, e4, e5, sx⟩, ?_⟩
                          refine st_norm (a' := ?_) ?_ ?_; rotate_left; (simp only [Act.put, List.setIfInBounds_toArray, List.set_cons_zero, List.set_cons_succ]; rfl)
                          repeat (first | (refine st_free (v := ?_) (a' := ?_) (by simp only [List.getElem?_toArray, List.getElem?_cons_succ, List.getElem?_cons_zero]; rfl) (by rfl) ?_ ?_ ?_; rotate_left 2; (intro w'; go_simp; with_reducible rfl); (simp only [Act.put, List.setIfInBounds_toArray, List.set_cons_zero, List.set_cons_succ]; rfl)) | (refine st_held (v := ?_) (a' := ?_) ⟨e0, e1, e2, e3, e4, e5, sx⟩ (by simp only [List.getElem?_toArray, List.getElem?_cons_succ, List.getElem?_cons_zero]; rfl) (by rfl) ?_ ?_ ?_; rotate_left 2; (rintro w' ⟨s0, s1, s2, s3, s4, s5, s6⟩; go_simp; with_reducible rfl); (simp only [Act.put, List.setIfInBounds_toArray, List.set_cons_zero, List.set_cons_succ]; rfl)) | (refine st_off (a' := ?_) (by simp only [List.getElem?_toArray, List.getElem?_cons_succ, List.getElem?_cons_zero]; rfl) (by rfl) ?_ ?_; rotate_left; (simp only [Act.put, List.setIfInBounds_toArray, List.set_cons_zero, List.set_cons_succ]; rfl)) | (refine st_hoff (a' := ?_) ⟨e0, e1, e2, e3, e4, e5, sx⟩ (by simp only [List.getElem?_toArray, List.getElem?_cons_succ, List.getElem?_cons_zero]; rfl) (by rfl) ?_ ?_; rotate_left; (simp only [Act.put, List.setIfInBounds_toArray, List.set_cons_zero, List.set_cons_succ]; rfl)))
                          refine st_done ?_
                          go_wp2_with fail
                          go_meet
                          case rel => exact ⟨_, rfl, by simpa using HBAD.out, HS8.tail⟩
                    · as_aux_lemma =>
                        have hc1 : decide (x8 < 1) = false := decide_eq_false (by omega)
                        have hc2 : decide (86 < x8) = false := decide_eq_false (by omega)
                        have hc3 : decide (x8 ≤ x7) = false := decide_eq_false (by omega)
                        obtain rfl : sz = false := by simpa using csz
                        have HBAD : Aside0 ((true = true) ↔ ¬ ReadOk xs) := Aside0.mk (by rw [HIFF.out]; simp [chd, cc1, cc2, cc3])
                        have HHD := Aside0.mk chd
                        clear chd cc1 cc2 cc3
                        refine region (frees [0, 2, 4] (helds [1, 3, 5] (.one 6 (frees [7, 8, 9] (helds [10] (frees [11, 12, 13, 14] (helds [15] (frees [16, 17, 18, 19, 21] (helds [20, 22] (frees [23, 24, 25, 26, 27, 28, 29, 33] (helds [30, 34] (.one 31 (.one 32 (frees [35, 36] .done)))))))))))))) (fun w' => w'.cell? ⟨g4, 0, none⟩ = some (.int .i64 x1) ∧ w'.cell? ⟨g4, 1, none⟩ = some (.int .i64 x2) ∧ w'.cell? ⟨g4, 2, none⟩ = some (.int .i64 nn) ∧ w'.cell? ⟨g4, 3, none⟩ = some (.int .i64 x7) ∧ w'.cell? ⟨g4, 4, none⟩ = some (.int .i64 x8) ∧ w'.cell? ⟨g4, 5, none⟩ = some (.slice A1 m c1) ∧ (convert 22 9 (.slice (some ⟨b, o, none⟩) len c)).run Try.prog w' = .ok (.string (strOfNums xs)) w') [] (by kernel_rfl) (by kernel_rfl) ?_
                        have HS6 := HS5.drew
                        clear HS5
                        generalize w5.drew = wb at HS6 ⊢
                        have e0 := HS6.cell 1 0 rfl rfl
                        have e1 := HS6.cell 1 1 rfl rfl
                        have e2 := HS6.cell 1 2 rfl rfl
                        have e3 := HS6.cell 1 3 rfl rfl
                        have e4 := HS6.cell 1 4 rfl rfl
                        have e5 := HS6.cell 1 5 rfl rfl
                        have sx := HSC.out _ HS6.below
                        repeat (first | (refine st_free (v := ?_) (a' := ?_) (by simp only [List.getElem?_toArray, List.getElem?_cons_succ, List.getElem?_cons_zero]; rfl) (by rfl) ?_ ?_ ?_; rotate_left 2; (intro w'; go_simp; with_reducible rfl); (simp only [Act.put, List.setIfInBounds_toArray, List.set_cons_zero, List.set_cons_succ]; rfl)) | (refine st_held (v := ?_) (a' := ?_) ⟨e0, e1, e2, e3, e4, e5, sx⟩ (by simp only [List.getElem?_toArray, List.getElem?_cons_succ, List.getElem?_cons_zero]; rfl) (by rfl) ?_ ?_ ?_; rotate_left 2; (rintro w' ⟨s0, s1, s2, s3, s4, s5, s6⟩; go_simp; with_reducible rfl); (simp only [Act.put, List.setIfInBounds_toArray, List.set_cons_zero, List.set_cons_succ]; rfl)) | (refine st_off (a' := ?_) (by simp only [List.getElem?_toArray, List.getElem?_cons_succ, List.getElem?_cons_zero]; rfl) (by rfl) ?_ ?_; rotate_left; (simp only [Act.put, List.setIfInBounds_toArray, List.set_cons_zero, List.set_cons_succ]; rfl)) | (refine st_hoff (a' := ?_) ⟨e0, e1, e2, e3, e4, e5, sx⟩ (by simp only [List.getElem?_toArray, List.getElem?_cons_succ, List.getElem?_cons_zero]; rfl) (by rfl) ?_ ?_; rotate_left; (simp only [Act.put, List.setIfInBounds_toArray, List.set_cons_zero, List.set_cons_succ]; rfl)))
                        refine st_one (by simp only [List.getElem?_toArray, List.getElem?_cons_succ, List.getElem?_cons_zero]; rfl) ?_
                        refine goesL_ (some 97) rfl rfl Try.func54 (by kernel_rfl) rfl #[.int .i64 x1, .int .i64 x2, .int .i64 nn] rfl (by go_simp) ?_
                        refine (may54 x1 x2 nn true HHD.out).mono ?_
                        rintro e w6 ⟨rfl, HH⟩
                        have HS7 := HS6.frame HH
                        clear HS6 HH e0 e1 e2 e3 e4 e5 sx
                        refine ⟨_, rfl, ?_⟩
                        have e0 := HS7.cell 1 0 rfl rfl
                        have e1 := HS7.cell 1 1 rfl rfl
                        have e2 := HS7.cell 1 2 rfl rfl
                        have e3 := HS7.cell 1 3 rfl rfl
                        have e4 := HS7.cell 1 4 rfl rfl
                        have e5 := HS7.cell 1 5 rfl rfl
                        have sx := HSC.out _ HS7.below
                        refine ⟨⟨e0, e1, e2, e3, e4, e5, sx⟩, ?_⟩
                        refine st_norm (a' := ?_) ?_ ?_; rotate_left; (simp only [Act.put, List.setIfInBounds_toArray, List.set_cons_zero, List.set_cons_succ]; rfl)
                        repeat (first | (refine st_free (v := ?_) (a' := ?_) (by simp only [List.getElem?_toArray, List.getElem?_cons_succ, List.getElem?_cons_zero]; rfl) (by rfl) ?_ ?_ ?_; rotate_left 2; (intro w'; go_simp; with_reducible rfl); (simp only [Act.put, List.setIfInBounds_toArray, List.set_cons_zero, List.set_cons_succ]; rfl)) | (refine st_held (v := ?_) (a' := ?_) ⟨e0, e1, e2, e3, e4, e5, sx⟩ (by simp only [List.getElem?_toArray, List.getElem?_cons_succ, List.getElem?_cons_zero]; rfl) (by rfl) ?_ ?_ ?_; rotate_left 2; (rintro w' ⟨s0, s1, s2, s3, s4, s5, s6⟩; go_simp; with_reducible rfl); (simp only [Act.put, List.setIfInBounds_toArray, List.set_cons_zero, List.set_cons_succ]; rfl)) | (refine st_off (a' := ?_) (by simp only [List.getElem?_toArray, List.getElem?_cons_succ, List.getElem?_cons_zero]; rfl) (by rfl) ?_ ?_; rotate_left; (simp only [Act.put, List.setIfInBounds_toArray, List.set_cons_zero, List.set_cons_succ]; rfl)) | (refine st_hoff (a' := ?_) ⟨e0, e1, e2, e3, e4, e5, sx⟩ (by simp only [List.getElem?_toArray, List.getElem?_cons_succ, List.getElem?_cons_zero]; rfl) (by rfl) ?_ ?_; rotate_left; (simp only [Act.put, List.setIfInBounds_toArray, List.set_cons_zero, List.set_cons_succ]; rfl)))
                        refine st_one (by simp only [List.getElem?_toArray, List.getElem?_cons_succ, List.getElem?_cons_zero]; rfl) ?_
                        refine offG (by rfl) ?_
                        refine ⟨⟨e0, e1, e2, e3, e4, e5, sx⟩, ?_⟩
                        refine st_norm (a' := ?_) ?_ ?_; rotate_left; (simp only [Act.put, List.setIfInBounds_toArray, List.set_cons_zero, List.set_cons_succ]; rfl)
                        refine st_one (by simp only [List.getElem?_toArray, List.getElem?_cons_succ, List.getElem?_cons_zero]; rfl) ?_
                        refine offG (by rfl) ?_
                        refine ⟨⟨e0, e1, e2, e3, e4, e5, sx⟩, ?_⟩
                        refine st_norm (a' := ?_) ?_ ?_; rotate_left; (simp only [Act.put, List.setIfInBounds_toArray, List.set_cons_zero, List.set_cons_succ]; rfl)
                        repeat (first | (refine st_free (v := ?_) (a' := ?_) (by simp only [List.getElem?_toArray, List.getElem?_cons_succ, List.getElem?_cons_zero]; rfl) (by rfl) ?_ ?_ ?_; rotate_left 2; (intro w'; go_simp; with_reducible rfl); (simp only [Act.put, List.setIfInBounds_toArray, List.set_cons_zero, List.set_cons_succ]; rfl)) | (refine st_held (v := ?_) (a' := ?_) ⟨e0, e1, e2, e3, e4, e5, sx⟩ (by simp only [List.getElem?_toArray, List.getElem?_cons_succ, List.getElem?_cons_zero]; rfl) (by rfl) ?_ ?_ ?_; rotate_left 2; (rintro w' ⟨s0, s1, s2, s3, s4, s5, s6⟩; go_simp; with_reducible rfl); (simp only [Act.put, List.setIfInBounds_toArray, List.set_cons_zero, List.set_cons_succ]; rfl)) | (refine st_off (a' := ?_) (by simp only [List.getElem?_toArray, List.getElem?_cons_succ, List.getElem?_cons_zero]; rfl) (by rfl) ?_ ?_; rotate_left; (simp only [Act.put, List.setIfInBounds_toArray, List.set_cons_zero, List.set_cons_succ]; rfl)) | (refine st_hoff (a' := ?_) ⟨e0, e1, e2, e3, e4, e5, sx⟩ (by simp only [List.getElem?_toArray, List.getElem?_cons_succ, List.getElem?_cons_zero]; rfl) (by rfl) ?_ ?_; rotate_left; (simp only [Act.put, List.setIfInBounds_toArray, List.set_cons_zero, List.set_cons_succ]; rfl)))
                        refine st_done ?_
                        go_wp2_with fail
                        go_meet
                        case rel => exact ⟨_, rfl, by simpa using HBAD.out, HS7⟩
            · as_aux_lemma =>
                have HBAD : Aside0 ((true = true) ↔ ¬ ReadOk xs) := Aside0.mk (by rw [HIFF.out]; simp [chd])
                have HHD := Aside0.mk (show PW16.okHead x1 x2 nn = false from by simpa using chd)
                clear chd
                refine region (frees [0, 2, 4] (helds [1, 3, 5] (.one 6 (frees [7, 8, 9] (helds [10] (frees [11, 12, 13, 14] (helds [15] (frees [16, 17, 18, 19, 21] (helds [20, 22] (frees [23, 24, 25, 26, 27, 28, 29, 33] (helds [30, 34] (.one 31 (.one 32 (frees [35, 36] .done)))))))))))))) (fun w' => w'.cell? ⟨g4, 0, none⟩ = some (.int .i64 x1) ∧ w'.cell? ⟨g4, 1, none⟩ = some (.int .i64 x2) ∧ w'.cell? ⟨g4, 2, none⟩ = some (.int .i64 nn) ∧ w'.cell? ⟨g4, 3, none⟩ = some (.int .i64 x7) ∧ w'.cell? ⟨g4, 4, none⟩ = some (.int .i64 x8) ∧ w'.cell? ⟨g4, 5, none⟩ = some (.slice A1 m c1) ∧ (convert 22 9 (.slice (some ⟨b, o, none⟩) len c)).run Try.prog w' = .ok (.string (strOfNums xs)) w') [] (by kernel_rfl) (by kernel_rfl) ?_
                have HS6 := HS5.drew
                clear HS5
                generalize w5.drew = wb at HS6 ⊢
                have e0 := HS6.cell 1 0 rfl rfl
                have e1 := HS6.cell 1 1 rfl rfl
                have e2 := HS6.cell 1 2 rfl rfl
                have e3 := HS6.cell 1 3 rfl rfl
                have e4 := HS6.cell 1 4 rfl rfl
                have e5 := HS6.cell 1 5 rfl rfl
                have sx := HSC.out _ HS6.below
                repeat (first | (refine st_free (v := ?_) (a' := ?_) (by simp only [List.getElem?_toArray, List.getElem?_cons_succ, List.getElem?_cons_zero]; rfl) (by rfl) ?_ ?_ ?_; rotate_left 2; (intro w'; go_simp; with_reducible rfl); (simp only [Act.put, List.setIfInBounds_toArray, List.set_cons_zero, List.set_cons_succ]; rfl)) | (refine st_held (v := ?_) (a' := ?_) ⟨e0, e1, e2, e3, e4, e5, sx⟩ (by simp only [List.getElem?_toArray, List.getElem?_cons_succ, List.getElem?_cons_zero]; rfl) (by rfl) ?_ ?_ ?_; rotate_left 2; (rintro w' ⟨s0, s1, s2, s3, s4, s5, s6⟩; go_simp; with_reducible rfl); (simp only [Act.put, List.setIfInBounds_toArray, List.set_cons_zero, List.set_cons_succ]; rfl)) | (refine st_off (a' := ?_) (by simp only [List.getElem?_toArray, List.getElem?_cons_succ, List.getElem?_cons_zero]; rfl) (by rfl) ?_ ?_; rotate_left; (simp only [Act.put, List.setIfInBounds_toArray, List.set_cons_zero, List.set_cons_succ]; rfl)) | (refine st_hoff (a' := ?_) ⟨e0, e1, e2, e3, e4, e5, sx⟩ (by simp only [List.getElem?_toArray, List.getElem?_cons_succ, List.getElem?_cons_zero]; rfl) (by rfl) ?_ ?_; rotate_left; (simp only [Act.put, List.setIfInBounds_toArray, List.set_cons_zero, List.set_cons_succ]; rfl)))
                refine st_one (by simp only [List.getElem?_toArray, List.getElem?_cons_succ, List.getElem?_cons_zero]; rfl) ?_
                refine goesL_ (some 97) rfl rfl Try.func54 (by kernel_rfl) rfl #[.int .i64 x1, .int .i64 x2, .int .i64 nn] rfl (by go_simp) ?_
                refine (may54 x1 x2 nn false HHD.out).mono ?_
                rintro e w6 ⟨rfl, HH⟩
                have HS7 := HS6.frame HH
                clear HS6 HH e0 e1 e2 e3 e4 e5 sx
                refine ⟨_, rfl, ?_⟩
                have e0 := HS7.cell 1 0 rfl rfl
                have e1 := HS7.cell 1 1 rfl rfl
                have e2 := HS7.cell 1 2 rfl rfl
                have e3 := HS7.cell 1 3 rfl rfl
                have e4 := HS7.cell 1 4 rfl rfl
                have e5 := HS7.cell 1 5 rfl rfl
                have sx := HSC.out _ HS7.below
                refine ⟨⟨e0, e1, e2, e3, e4, e5, sx⟩, ?_⟩
                refine st_norm (a' := ?_) ?_ ?_; rotate_left; (simp only [Act.put, List.setIfInBounds_toArray, List.set_cons_zero, List.set_cons_succ]; rfl)
                repeat (first | (refine st_free (v := ?_) (a' := ?_) (by simp only [List.getElem?_toArray, List.getElem?_cons_succ, List.getElem?_cons_zero]; rfl) (by rfl) ?_ ?_ ?_; rotate_left 2; (intro w'; go_simp; with_reducible rfl); (simp only [Act.put, List.setIfInBounds_toArray, List.set_cons_zero, List.set_cons_succ]; rfl)) | (refine st_held (v := ?_) (a' := ?_) ⟨e0, e1, e2, e3, e4, e5, sx⟩ (by simp only [List.getElem?_toArray, List.getElem?_cons_succ, List.getElem?_cons_zero]; rfl) (by rfl) ?_ ?_ ?_; rotate_left 2; (rintro w' ⟨s0, s1, s2, s3, s4, s5, s6⟩; go_simp; with_reducible rfl); (simp only [Act.put, List.setIfInBounds_toArray, List.set_cons_zero, List.set_cons_succ]; rfl)) | (refine st_off (a' := ?_) (by simp only [List.getElem?_toArray, List.getElem?_cons_succ, List.getElem?_cons_zero]; rfl) (by rfl) ?_ ?_; rotate_left; (simp only [Act.put, List.setIfInBounds_toArray, List.set_cons_zero, List.set_cons_succ]; rfl)) | (refine st_hoff (a' := ?_) ⟨e0, e1, e2, e3, e4, e5, sx⟩ (by simp only [List.getElem?_toArray, List.getElem?_cons_succ, List.getElem?_cons_zero]; rfl) (by rfl) ?_ ?_; rotate_left; (simp only [Act.put, List.setIfInBounds_toArray, List.set_cons_zero, List.set_cons_succ]; rfl)))
                refine st_one (by simp only [List.getElem?_toArray, List.getElem?_cons_succ, List.getElem?_cons_zero]; rfl) ?_
                refine offG (by rfl) ?_
                refine ⟨⟨e0, e1, e2, e3, e4, e5, sx⟩, ?_⟩
                refine st_norm (a' := ?_) ?_ ?_; rotate_left; (simp only [Act.put, List.setIfInBounds_toArray, List.set_cons_zero, List.set_cons_succ]; rfl)
                refine st_one (by simp only [List.getElem?_toArray, List.getElem?_cons_succ, List.getElem?_cons_zero]; rfl) ?_
                refine offG (by rfl) ?_
                refine ⟨⟨e0, e1, e2, e3, e4, e5, sx⟩, ?_⟩
                refine st_norm (a' := ?_) ?_ ?_; rotate_left; (simp only [Act.put, List.setIfInBounds_toArray, List.set_cons_zero, List.set_cons_succ]; rfl)
                repeat (first | (refine st_free (v := ?_) (a' := ?_) (by simp only [List.getElem?_toArray, List.getElem?_cons_succ, List.getElem?_cons_zero]; rfl) (by rfl) ?_ ?_ ?_; rotate_left 2; (intro w'; go_simp; with_reducible rfl); (simp only [Act.put, List.setIfInBounds_toArray, List.set_cons_zero, List.set_cons_succ]; rfl)) | (refine st_held (v := ?_) (a' := ?_) ⟨e0, e1, e2, e3, e4, e5, sx⟩ (by simp only [List.getElem?_toArray, List.getElem?_cons_succ, List.getElem?_cons_zero]; rfl) (by rfl) ?_ ?_ ?_; rotate_left 2; (rintro w' ⟨s0, s1, s2, s3, s4, s5, s6⟩; go_simp; with_reducible rfl); (simp only [Act.put, List.setIfInBounds_toArray, List.set_cons_zero, List.set_cons_succ]; rfl)) | (refine st_off (a' := ?_) (by simp only [List.getElem?_toArray, List.getElem?_cons_succ, List.getElem?_cons_zero]; rfl) (by rfl) ?_ ?_; rotate_left; (simp only [Act.put, List.setIfInBounds_toArray, List.set_cons_zero, List.set_cons_succ]; rfl)) | (refine st_hoff (a' := ?_) ⟨e0, e1, e2, e3, e4, e5, sx⟩ (by simp only [List.getElem?_toArray, List.getElem?_cons_succ, List.getElem?_cons_zero]; rfl) (by rfl) ?_ ?_; rotate_left; (simp only [Act.put, List.setIfInBounds_toArray, List.set_cons_zero, List.set_cons_succ]; rfl)))
                refine st_done ?_
                go_wp2_with fail
                go_meet
                case rel => exact ⟨_, rfl, by simpa using HBAD.out, HS7⟩
          case rest =>
            obtain ⟨bad, rfl, hbad, HS6⟩ := hcut
            obtain ⟨w6, rfl⟩ : ∃ w6, w6 = wc := ⟨_, rfl⟩
            clear HS5
            have HBAD := Aside0.mk hbad
            clear hbad
            have d0 := HS6.cell 2 0 rfl rfl; have f0 := HS6.frozen 2 0 rfl; have y0 := HS6.cell 1 0 rfl rfl; have d1 := HS6.cell 2 1 rfl rfl; have f1 := HS6.frozen 2 1 rfl; have y1 := HS6.cell 1 1 rfl rfl; have d2 := HS6.cell 2 2 rfl rfl; have f2 := HS6.frozen 2 2 rfl; have y2 := HS6.cell 1 2 rfl rfl; have d3 := HS6.cell 2 3 rfl rfl; have f3 := HS6.frozen 2 3 rfl; have y3 := HS6.cell 1 3 rfl rfl; have d4 := HS6.cell 2 4 rfl rfl; have f4 := HS6.frozen 2 4 rfl; have y4 := HS6.cell 1 4 rfl rfl; have d5 := HS6.cell 2 5 rfl rfl; have f5 := HS6.frozen 2 5 rfl; have y5 := HS6.cell 1 5 rfl rfl
            cases bad with
            | true =>
              go_wp2_with (first | ((with_reducible refine gate_store (t := 35) (p := 2) rfl ?_); refine store_event (t := 35) (p := 2) (v := ?vo7) (w1 := ((((((w6.setCell ⟨g2, 0, none⟩ (.int .i64 0)).setCell ⟨g2, 1, none⟩ (.int .i64 0)).setCell ⟨g2, 2, none⟩ (.int .i64 0)).setCell ⟨g2, 3, none⟩ (.int .i64 0)).setCell ⟨g2, 4, none⟩ (.int .i64 0)).setCell ⟨g2, 5, none⟩ (.slice none 0 0))) ?hg7 ?ho7 ?hn7 ?hr7 ?_; (case ho7 => rfl); (case hg7 => rfl); (case hn7 => rfl); (case hr7 => first | (go_simp; done) | (go_simp; rfl)); intro w7 hw; have HS7 := ((((((HS6.setAt 2 0 (.int .i64 0) rfl).setAt 2 1 (.int .i64 0) rfl).setAt 2 2 (.int .i64 0) rfl).setAt 2 3 (.int .i64 0) rfl).setAt 2 4 (.int .i64 0) rfl).setAt 2 5 (.slice none 0 0) rfl); rw [← hw] at HS7; clear hw HS6 d0 d1 d2 d3 d4 d5 f0 f1 f2 f3 f4 f5 y0 y1 y2 y3 y4 y5))
              refine bodyPost_ret (results_ct rfl _ _ g2 35 #[.int .i64 0, .int .i64 0, .int .i64 0, .int .i64 0, .int .i64 0, .slice none 0 0] (0, 0) _ rfl (HS7.block 2 rfl).1 hu35 rfl rfl) rfl ⟨fun hok => absurd hok (by simpa using HBAD.out), fun _ => ⟨rfl, HS7.tail.tail.tail⟩⟩
            | false =>
              go_wp2_with (first | ((with_reducible refine gate_store (t := 35) (p := 2) rfl ?_); refine store_event (t := 35) (p := 2) (v := ?vo8) (w1 := ((((((w6.setCell ⟨g2, 0, none⟩ (.int .i64 x1)).setCell ⟨g2, 1, none⟩ (.int .i64 x2)).setCell ⟨g2, 2, none⟩ (.int .i64 nn)).setCell ⟨g2, 3, none⟩ (.int .i64 x7)).setCell ⟨g2, 4, none⟩ (.int .i64 x8)).setCell ⟨g2, 5, none⟩ (.slice A1 m c1))) ?hg8 ?ho8 ?hn8 ?hr8 ?_; (case ho8 => rfl); (case hg8 => rfl); (case hn8 => rfl); (case hr8 => first | (go_simp; done) | (go_simp; rfl)); intro w7 hw; have HS7 := ((((((HS6.setAt 2 0 (.int .i64 x1) rfl).setAt 2 1 (.int .i64 x2) rfl).setAt 2 2 (.int .i64 nn) rfl).setAt 2 3 (.int .i64 x7) rfl).setAt 2 4 (.int .i64 x8) rfl).setAt 2 5 (.slice A1 m c1) rfl); rw [← hw] at HS7; clear hw HS6 d0 d1 d2 d3 d4 d5 f0 f1 f2 f3 f4 f5 y0 y1 y2 y3 y4 y5))
              refine bodyPost_ret (results_ct rfl _ _ g2 35 #[.int .i64 x1, .int .i64 x2, .int .i64 nn, .int .i64 x7, .int .i64 x8, .slice A1 m c1] (0, 0) _ rfl (HS7.block 2 rfl).1 hu35 rfl rfl) rfl ⟨fun _ => ?_, fun hn => absurd hn (by simpa using HBAD.out)⟩
              obtain ⟨rfl, rfl, rfl, rfl, rfl⟩ := HXS2.out
              exact ⟨_, rfl, HS7.sel [0] _ (by decide) rfl⟩

end Go.Proofs.Ytaojnbhnogndnaa.SL
