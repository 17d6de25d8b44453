/- The document's Read (majordomoref16), where the length fits. -/
import Derived.Test.YtaojnbhnogndnaaY4
namespace Go.Proofs.Ytaojnbhnogndnaa.SL
open Go.RowKit Go.Proofs.YtaojnbhnogndnaaW.PrintWords Go.Proofs.YtaojnbhnogndnaaW.PrintLast Go.Proofs.YtaojnbhnogndnaaW.PrintMore
attribute [local go_sem] max2_int min2_int max_two min_two
attribute [local go_sem high] Small.cell_set_same
set_option linter.unusedVariables false
set_option linter.unusedSimpArgs false

def szB (m : Nat) (x7 x8 : Int) : Bool := decide (m = 48) || (decide (x7 + 1 = x8) && decide (m < 48) && (decide (0 < m) || decide (x8 = 1)))
theorem read_iff {xs : List Int} {x1 x2 nc x7 x8 : Int} {m : Nat} (h : x1 = fKd xs ∧ x2 = fNd xs ∧ nc = fNc xs ∧ x7 = fIx xs ∧ x8 = fCt xs) (hF : Fits xs) (hm : m = (fBy xs).length) :
    ReadOk xs ↔ PW16.okHead x1 x2 nc = true ∧ ¬ x8 < 1 ∧ ¬ 86 < x8 ∧ ¬ x8 ≤ x7 ∧ szB m x7 x8 = true ∧ ¬ (x7 + 1 = x8 ∧ 4096 < x7 * 48 + m) ∧ PW16.frameB x1 x2 nc x7 x8 (fBy xs) = xs := by
  obtain ⟨rfl, rfl, rfl, rfl, rfl⟩ := h
  subst hm
  have e : szB (fBy xs).length (fIx xs) (fCt xs) = true ↔ ((fBy xs).length = 48 ∨ fIx xs + 1 = fCt xs ∧ (fBy xs).length < 48 ∧ (0 < (fBy xs).length ∨ fCt xs = 1)) := by
    unfold szB
    simp only [Bool.or_eq_true, Bool.and_eq_true, decide_eq_true_eq, and_assoc]
  unfold ReadOk SizeOk
  rw [e]
  constructor
  · rintro ⟨h1, h2, h3, h4, h5, ⟨h6, h7⟩, h8⟩
    exact ⟨h2, by omega, by omega, by omega, h6, fun h => by have := h7 h.1; omega, h8⟩
  · rintro ⟨h2, h3, h4, h5, h6, h7, h8⟩
    exact ⟨hF, h2, by omega, by omega, by omega, ⟨h6, fun h => by have : ¬ 4096 < fIx xs * 48 + ((fBy xs).length : Int) := fun h' => h7 ⟨h, h'⟩; omega⟩, h8⟩
def ReadPost (xs : List Int) (w0 : World) (L : List Asrt) (e : Ending) (w : World) : Prop := (ReadOk xs → IsFrame xs w0 L e w) ∧ (¬ ReadOk xs → NoFrame w0 L e w)
theorem or2 (x y : Int) (hx0 : 0 ≤ x) (hx1 : x < 256) (hy0 : 0 ≤ y) (hy1 : y < 256) : Go.bits .or .i64 (x * 16777216) (y * 65536) = x * 16777216 + y * 65536 :=
  bits_join .i64 62 (by decide) (fun n h0 h1 => Go.IntWalk.i64_in n (by omega)) 24 _ _ (by omega) (by omega) (by omega) (by omega) (by omega) (by omega)
theorem or3 (x y z : Int) (hx0 : 0 ≤ x) (hx1 : x < 256) (hy0 : 0 ≤ y) (hy1 : y < 256) (hz0 : 0 ≤ z) (hz1 : z < 256) : Go.bits .or .i64 (x * 16777216 + y * 65536) (z * 256) = x * 16777216 + y * 65536 + z * 256 :=
  bits_join .i64 62 (by decide) (fun n h0 h1 => Go.IntWalk.i64_in n (by omega)) 16 _ _ (by omega) (by omega) (by omega) (by omega) (by omega) (by omega)
theorem or4 (x y z u : Int) (hx0 : 0 ≤ x) (hx1 : x < 256) (hy0 : 0 ≤ y) (hy1 : y < 256) (hz0 : 0 ≤ z) (hz1 : z < 256) (hu0 : 0 ≤ u) (hu1 : u < 256) : Go.bits .or .i64 (x * 16777216 + y * 65536 + z * 256) u = x * 16777216 + y * 65536 + z * 256 + u :=
  bits_join .i64 62 (by decide) (fun n h0 h1 => Go.IntWalk.i64_in n (by omega)) 8 _ _ (by omega) (by omega) (by omega) (by omega) (by omega) (by omega)
/-! ### Read (majordomoref16), where the length fits -/
set_option maxHeartbeats 64000000 in
set_option maxRecDepth 100000 in
theorem Read16_fits {w : World} (A : Option Addr) (c : Nat) (xs : List Int) (hf : Fits xs) (hr : kB.C w A xs.length xs) (hcap : xs.length ≤ c) (hx : ∀ x ∈ xs, 0 ≤ x ∧ x < 256) :
    Calls Try.prog 18 #[.slice A xs.length c] w (ReadPost xs w []) := by
  have hu35 := Try.underlying35
  have HS := Sat.start w
  have h9x := getD_in hx 9
  have h9e := hf.2
  have hlen : 14 ≤ xs.length ∧ xs.length ≤ 269 := ⟨hf.1, by omega⟩
  obtain ⟨b, o, rfl, hcell⟩ := int_row hr (by omega)
  have hx1 := getD_in hx 1
  obtain ⟨x1, ex1⟩ : ∃ x, x = xs.getD 1 0 := ⟨_, rfl⟩
  have kk1 := hcell 1 (by omega)
  rw [← ex1] at hx1 kk1
  obtain ⟨lo1, hi1⟩ := hx1
  have hx2 := getD_in hx 2
  obtain ⟨x2, ex2⟩ : ∃ x, x = xs.getD 2 0 := ⟨_, rfl⟩
  have kk2 := hcell 2 (by omega)
  rw [← ex2] at hx2 kk2
  obtain ⟨lo2, hi2⟩ := hx2
  have hx3 := getD_in hx 3
  obtain ⟨x3, ex3⟩ : ∃ x, x = xs.getD 3 0 := ⟨_, rfl⟩
  have kk3 := hcell 3 (by omega)
  rw [← ex3] at hx3 kk3
  obtain ⟨lo3, hi3⟩ := hx3
  have hx4 := getD_in hx 4
  obtain ⟨x4, ex4⟩ : ∃ x, x = xs.getD 4 0 := ⟨_, rfl⟩
  have kk4 := hcell 4 (by omega)
  rw [← ex4] at hx4 kk4
  obtain ⟨lo4, hi4⟩ := hx4
  have hx5 := getD_in hx 5
  obtain ⟨x5, ex5⟩ : ∃ x, x = xs.getD 5 0 := ⟨_, rfl⟩
  have kk5 := hcell 5 (by omega)
  rw [← ex5] at hx5 kk5
  obtain ⟨lo5, hi5⟩ := hx5
  have hx6 := getD_in hx 6
  obtain ⟨x6, ex6⟩ : ∃ x, x = xs.getD 6 0 := ⟨_, rfl⟩
  have kk6 := hcell 6 (by omega)
  rw [← ex6] at hx6 kk6
  obtain ⟨lo6, hi6⟩ := hx6
  have hx7 := getD_in hx 7
  obtain ⟨x7, ex7⟩ : ∃ x, x = xs.getD 7 0 := ⟨_, rfl⟩
  have kk7 := hcell 7 (by omega)
  rw [← ex7] at hx7 kk7
  obtain ⟨lo7, hi7⟩ := hx7
  have hx8 := getD_in hx 8
  obtain ⟨x8, ex8⟩ : ∃ x, x = xs.getD 8 0 := ⟨_, rfl⟩
  have kk8 := hcell 8 (by omega)
  rw [← ex8] at hx8 kk8
  obtain ⟨lo8, hi8⟩ := hx8
  have hx9 := getD_in hx 9
  obtain ⟨x9, ex9⟩ : ∃ x, x = xs.getD 9 0 := ⟨_, rfl⟩
  have kk9 := hcell 9 (by omega)
  rw [← ex9] at hx9 kk9
  obtain ⟨lo9, hi9⟩ := hx9
  have hn9 : (xs.length : Int) = 14 + x9 := by rw [ex9]; exact h9e
  have HXS := Aside0.mk (show x1 = fKd xs ∧ x2 = fNd xs ∧ x3 * 16777216 + x4 * 65536 + x5 * 256 + x6 = fNc xs ∧ x7 = fIx xs ∧ x8 = fCt xs from by subst ex1 ex2 ex3 ex4 ex5 ex6 ex7 ex8; exact ⟨rfl, rfl, rfl, rfl, rfl⟩)
  have HK : Aside0 (∀ w', Below w.heap.size w w' → w'.cell? ⟨b, o + 1, none⟩ = some (.int .u8 x1) ∧ w'.cell? ⟨b, o + 2, none⟩ = some (.int .u8 x2) ∧ w'.cell? ⟨b, o + 3, none⟩ = some (.int .u8 x3) ∧ w'.cell? ⟨b, o + 4, none⟩ = some (.int .u8 x4) ∧ w'.cell? ⟨b, o + 5, none⟩ = some (.int .u8 x5) ∧ w'.cell? ⟨b, o + 6, none⟩ = some (.int .u8 x6) ∧ w'.cell? ⟨b, o + 7, none⟩ = some (.int .u8 x7) ∧ w'.cell? ⟨b, o + 8, none⟩ = some (.int .u8 x8) ∧ w'.cell? ⟨b, o + 9, none⟩ = some (.int .u8 x9)) := Aside0.mk (fun w' hb => ⟨(hb.cell (World.block_lt_of_cell? _ _ kk1)).trans kk1, (hb.cell (World.block_lt_of_cell? _ _ kk2)).trans kk2, (hb.cell (World.block_lt_of_cell? _ _ kk3)).trans kk3, (hb.cell (World.block_lt_of_cell? _ _ kk4)).trans kk4, (hb.cell (World.block_lt_of_cell? _ _ kk5)).trans kk5, (hb.cell (World.block_lt_of_cell? _ _ kk6)).trans kk6, (hb.cell (World.block_lt_of_cell? _ _ kk7)).trans kk7, (hb.cell (World.block_lt_of_cell? _ _ kk8)).trans kk8, (hb.cell (World.block_lt_of_cell? _ _ kk9)).trans kk9⟩)
  have HR := Aside0.mk hr
  have HX := Aside0.mk hx
  have HF := Aside0.mk hf
  clear hf hr hx hcell h9x h9e ex1 kk1 ex2 kk2 ex3 kk3 ex4 kk4 ex5 kk5 ex6 kk6 ex7 kk7 ex8 kk8 ex9 kk9
  obtain ⟨len, hl⟩ : ∃ len, len = xs.length := ⟨_, rfl⟩
  rw [← hl] at hn9 hlen hcap ⊢
  have HL := Aside0.mk hl
  clear hl
  obtain ⟨hl0, hl1⟩ := hlen
  have hd : decide ((len : Int) < 14) = false := decide_eq_false (by omega)
  have hd2 : decide (len < 14) = false := decide_eq_false (by omega)
  have hne : ((len : Int) == 14 + x9) = true := by simp; omega
  have hne2 : ((len : Int) != 14 + x9) = false := by simp; omega
  have HN9 := Aside0.mk hn9
  clear hn9
  go_enter Try.func18, Try.ntmps18
  go_wp2_with (first | ((with_reducible refine gate_dst (N := 2) rfl ?_); refine box_event ?hg1 (N := 2) ?hd1 (cs := #[.int .i64 0, .int .i64 0, .int .i64 0, .int .i64 0, .int .i64 0, .slice none 0 0]) (t := 35) ?hr1 ?_; (case hd1 => rfl); (case hg1 => rfl); (case hr1 => first | (go_simp; done) | (go_simp; rfl)); intro g2 hg w1 hbox hb; have HS1 := HS.box hg hbox hb; clear HS hg hbox hb) | ((with_reducible refine gate_dst (N := 4) rfl ?_); refine box_event ?hg2 (N := 4) ?hd2 (cs := #[.int .i64 0, .int .i64 0, .int .i64 0, .int .i64 0, .int .i64 0, .slice none 0 0]) (t := 35) ?hr2 ?_; (case hd2 => rfl); (case hg2 => rfl); (case hr2 => first | (go_simp; done) | (go_simp; rfl)); intro g4 hg w2 hbox hb; have HS2 := HS1.box hg hbox hb; clear HS1 hg hbox hb; have d0 := HS2.cell 0 0 rfl rfl; have d1 := HS2.cell 0 1 rfl rfl; have d2 := HS2.cell 0 2 rfl rfl; have d3 := HS2.cell 0 3 rfl rfl; have d4 := HS2.cell 0 4 rfl rfl; have d5 := HS2.cell 0 5 rfl rfl; have f0 := HS2.frozen 0 0 rfl; have f1 := HS2.frozen 0 1 rfl; have f2 := HS2.frozen 0 2 rfl; have f3 := HS2.frozen 0 3 rfl; have f4 := HS2.frozen 0 4 rfl; have f5 := HS2.frozen 0 5 rfl) | ((with_reducible refine gate_store (t := 35) (p := 4) rfl ?_); refine store_event (t := 35) (p := 4) (v := ?vo3) (w1 := ((((((w2.setCell ⟨g4, 0, none⟩ (.int .i64 0)).setCell ⟨g4, 1, none⟩ (.int .i64 0)).setCell ⟨g4, 2, none⟩ (.int .i64 0)).setCell ⟨g4, 3, none⟩ (.int .i64 0)).setCell ⟨g4, 4, none⟩ (.int .i64 0)).setCell ⟨g4, 5, none⟩ (.slice none 0 0))) ?hg3 ?ho3 ?hn3 ?hr3 ?_; (case ho3 => rfl); (case hg3 => rfl); (case hn3 => rfl); (case hr3 => first | (go_simp; done) | (go_simp; rfl)); intro w3 hw; have HS3 := ((((((HS2.setAt 0 0 (.int .i64 0) rfl).setAt 0 1 (.int .i64 0) rfl).setAt 0 2 (.int .i64 0) rfl).setAt 0 3 (.int .i64 0) rfl).setAt 0 4 (.int .i64 0) rfl).setAt 0 5 (.slice none 0 0) rfl); rw [← hw] at HS3; clear hw HS2 d0 d1 d2 d3 d4 d5 f0 f1 f2 f3 f4 f5; have k9' := (HK.out w3 HS3.below).2.2.2.2.2.2.2.2))
  clear hd hd2 hne hne2 k9'
  obtain ⟨A', hrun, hcut⟩ := cut_lh kB (P := Try.prog) 22 5 Try.underlying22 (i := _) rfl rfl (some ⟨b, o, none⟩) len c 10 (len - 4) (by omega) (by omega) hcap
  have hcutr := fun W => hrun W 10 ((len : Int) - 4) rfl (by omega)
  have hws : IntKind.i64.wrap ((len : Int) - 4) = (len : Int) - 4 := Go.IntWalk.i64_in _ (by omega)
  have hw3 : IntKind.i64.wrap (x3 * 16777216) = x3 * 16777216 := Go.IntWalk.i64_in _ (by omega)
  have hw4 : IntKind.i64.wrap (x4 * 65536) = x4 * 65536 := Go.IntWalk.i64_in _ (by omega)
  have hw5 : IntKind.i64.wrap (x5 * 256) = x5 * 256 := Go.IntWalk.i64_in _ (by omega)
  have ho2 := or2 x3 x4 (by omega) (by omega) (by omega) (by omega)
  have ho3 := or3 x3 x4 x5 (by omega) (by omega) (by omega) (by omega) (by omega) (by omega)
  have ho4 := or4 x3 x4 x5 x6 (by omega) (by omega) (by omega) (by omega) (by omega) (by omega) (by omega) (by omega)
  have hb1 : (1 : Int) < (len : Int) := by omega
  have hc1 : 1 < len := by omega
  have hb2 : (2 : Int) < (len : Int) := by omega
  have hc2 : 2 < len := by omega
  have hb3 : (3 : Int) < (len : Int) := by omega
  have hc3 : 3 < len := by omega
  have hb4 : (4 : Int) < (len : Int) := by omega
  have hc4 : 4 < len := by omega
  have hb5 : (5 : Int) < (len : Int) := by omega
  have hc5 : 5 < len := by omega
  have hb6 : (6 : Int) < (len : Int) := by omega
  have hc6 : 6 < len := by omega
  have hb7 : (7 : Int) < (len : Int) := by omega
  have hc7 : 7 < len := by omega
  have hb8 : (8 : Int) < (len : Int) := by omega
  have hc8 : 8 < len := by omega
  have hq1 : IntKind.i64.wrap x1 = x1 := Go.IntWalk.i64_in _ (by omega)
  have hq2 : IntKind.i64.wrap x2 = x2 := Go.IntWalk.i64_in _ (by omega)
  have hq3 : IntKind.i64.wrap x3 = x3 := Go.IntWalk.i64_in _ (by omega)
  have hq4 : IntKind.i64.wrap x4 = x4 := Go.IntWalk.i64_in _ (by omega)
  have hq5 : IntKind.i64.wrap x5 = x5 := Go.IntWalk.i64_in _ (by omega)
  have hq6 : IntKind.i64.wrap x6 = x6 := Go.IntWalk.i64_in _ (by omega)
  have hq7 : IntKind.i64.wrap x7 = x7 := Go.IntWalk.i64_in _ (by omega)
  have hq8 : IntKind.i64.wrap x8 = x8 := Go.IntWalk.i64_in _ (by omega)
  obtain ⟨m, hm⟩ : ∃ m, m = len - 4 - 10 := ⟨_, rfl⟩
  rw [← hm] at hcutr
  have HC : Aside0 (∀ w', Below w.heap.size w w' → kB.C w' A' m (fBy xs)) := Aside0.mk (fun w' hb => by
    have h1 := hcut w' xs (by rw [HL.out]; exact Kd.C_below HR.out hb)
    rw [← hm, HL.out] at h1
    exact h1)
  have HM := Aside0.mk hm
  have HML := Aside0.mk (show m = (fBy xs).length from (HC.out w (Below.refl _ _)).1.symm)
  clear hm hcut hrun
  go_cut [5] (fun v5 wc => ∃ g5 A1 c1, v5 = .pointer (some ⟨g5, 0, none⟩) ∧ Sat w wc [row kB 5 (.slice A1 m c1) (fBy xs), blk g5 (.cells #[.int .i64 x1, .int .i64 x2, .int .i64 (x3 * 16777216 + x4 * 65536 + x5 * 256 + x6), .int .i64 x7, .int .i64 x8, .slice A1 m c1] 35 (0, 0)), blk g4 (.cells #[.int .i64 0, .int .i64 0, .int .i64 0, .int .i64 0, .int .i64 0, .slice none 0 0] 35 (0, 0)), blk g2 (.cells #[.int .i64 0, .int .i64 0, .int .i64 0, .int .i64 0, .int .i64 0, .slice none 0 0] 35 (0, 0))])
  case first =>
    refine region (frees [0, 1, 4, 5, 8, 9, 13, 14, 19, 20, 25, 26, 30, 31, 34, 35, 39, 40, 41, 42, 43] (helds [2, 6, 10, 15, 21, 27, 32, 36] (frees [3, 7, 11, 12, 16, 17, 18, 22, 23, 24, 28, 29, 33, 37] (.two 38 46 (.two 44 46 (frees [45] (.one 46 (.last 47 .done))) (.one 44 (frees [45] (.last 47 .done)))) (.one 38 (.one 44 (frees [45] (.last 47 .done)))))))) (fun w' => w'.cell? ⟨b, o + 1, none⟩ = some (.int .u8 x1) ∧ w'.cell? ⟨b, o + 2, none⟩ = some (.int .u8 x2) ∧ w'.cell? ⟨b, o + 3, none⟩ = some (.int .u8 x3) ∧ w'.cell? ⟨b, o + 4, none⟩ = some (.int .u8 x4) ∧ w'.cell? ⟨b, o + 5, none⟩ = some (.int .u8 x5) ∧ w'.cell? ⟨b, o + 6, none⟩ = some (.int .u8 x6) ∧ w'.cell? ⟨b, o + 7, none⟩ = some (.int .u8 x7) ∧ w'.cell? ⟨b, o + 8, none⟩ = some (.int .u8 x8) ∧ w'.cell? ⟨b, o + 9, none⟩ = some (.int .u8 x9)) [47] (by kernel_rfl) (by kernel_rfl) ?_
    have HS4 := HS3.drew
    clear HS3
    generalize w3.drew = w4 at HS4 ⊢
    obtain ⟨k1, k2, k3, k4, k5, k6, k7, k8, k9⟩ := HK.out w4 HS4.below
    repeat (first | (refine st_free (v := ?_) (a' := ?_) (by simp only [List.getElem?_toArray, List.getElem?_cons_succ, List.getElem?_cons_zero]; rfl) (by rfl) ?_ ?_ ?_; rotate_left 2; (intro w'; go_simp; with_reducible rfl); (simp only [Act.put, List.setIfInBounds_toArray, List.set_cons_zero, List.set_cons_succ]; rfl)) | (refine st_held (v := ?_) (a' := ?_) ⟨k1, k2, k3, k4, k5, k6, k7, k8, k9⟩ (by simp only [List.getElem?_toArray, List.getElem?_cons_succ, List.getElem?_cons_zero]; rfl) (by rfl) ?_ ?_ ?_; rotate_left 2; (rintro w' ⟨s1, s2, s3, s4, s5, s6, s7, s8, s9⟩; go_simp; with_reducible rfl); (simp only [Act.put, List.setIfInBounds_toArray, List.set_cons_zero, List.set_cons_succ]; rfl)))
    refine st_two (by simp only [List.getElem?_toArray, List.getElem?_cons_succ, List.getElem?_cons_zero]; rfl) (by simp only [List.getElem?_toArray, List.getElem?_cons_succ, List.getElem?_cons_zero]; rfl) ?_ ?_
    · refine Kd.event_run (v := .slice (some ⟨w4.heap.size, 0, none⟩) 0 0) (w1 := w4.alloc (.cells #[] 5)) rfl (by go_simp) ?_
      have HS5 := (HS4.box (g := w4.heap.size) (cs := #[]) (t := 5) rfl (blk_new w4 _) (below_alloc (Below.refl _ _) _)).emptyRow0 kB
      generalize hgw : w4.alloc (.cells #[] 5) = w5 at HS5 ⊢
      clear hgw
      generalize w4.heap.size = ge at HS5 ⊢
      clear HS4
      refine ⟨HK.out _ HS5.below, ?_⟩
      refine st_norm (a' := ?_) ?_ ?_; rotate_left; (simp only [Act.put, List.setIfInBounds_toArray, List.set_cons_zero, List.set_cons_succ]; rfl)
      refine st_two (by simp only [List.getElem?_toArray, List.getElem?_cons_succ, List.getElem?_cons_zero]; rfl) (by simp only [List.getElem?_toArray, List.getElem?_cons_succ, List.getElem?_cons_zero]; rfl) ?_ ?_
      · refine appRow kB rfl (.tmp 62) (.tmp 67) 22 5 (.int .u8 0) 1 rfl Try.underlying22 inf5 rfl (by decide) (by decide) _ [] (fBy xs) A' m (c - 10) rfl rfl HS5 (HC.out _ HS5.below) (fun _ _ h => h) (by have := HM.out; simp; omega) ?_
        intro v w6 HS6
        rw [List.nil_append] at HS6
        obtain ⟨A1, c1, rfl⟩ := HS6.rowShape 0 rfl
        rw [← HML.out] at HS6 ⊢
        clear HS5
        refine ⟨HK.out _ HS6.below, ?_⟩
        refine st_norm (a' := ?_) ?_ ?_; rotate_left; (simp only [Act.put, List.setIfInBounds_toArray, List.set_cons_zero, List.set_cons_succ]; rfl)
        repeat (refine st_free (v := ?_) (a' := ?_) (by simp only [List.getElem?_toArray, List.getElem?_cons_succ, List.getElem?_cons_zero]; rfl) (by rfl) ?_ ?_ ?_; rotate_left 2; (intro w'; go_simp; with_reducible rfl); (simp only [Act.put, List.setIfInBounds_toArray, List.set_cons_zero, List.set_cons_succ]; rfl))
        refine st_one (by simp only [List.getElem?_toArray, List.getElem?_cons_succ, List.getElem?_cons_zero]; rfl) ?_
        refine Kd.event_run (v := .pointer (some ⟨w6.heap.size, 0, none⟩)) (w1 := w6.alloc (.cells #[.int .i64 0, .int .i64 0, .int .i64 0, .int .i64 0, .int .i64 0, .slice none 0 0] 35)) rfl (by go_simp) ?_
        have HS7 := HS6.box (g := w6.heap.size) (cs := #[.int .i64 0, .int .i64 0, .int .i64 0, .int .i64 0, .int .i64 0, .slice none 0 0]) (t := 35) rfl (blk_new w6 _) (below_alloc (Below.refl _ _) _)
        generalize hgw : w6.alloc (.cells #[.int .i64 0, .int .i64 0, .int .i64 0, .int .i64 0, .int .i64 0, .slice none 0 0] 35) = w7 at HS7 ⊢
        clear hgw
        generalize w6.heap.size = g5 at HS7 ⊢
        clear HS6
        refine ⟨HK.out _ HS7.below, ?_⟩
        refine st_norm (a' := ?_) ?_ ?_; rotate_left; (simp only [Act.put, List.setIfInBounds_toArray, List.set_cons_zero, List.set_cons_succ]; rfl)
        have d0 := HS7.cell 0 0 rfl rfl
        have f0 := HS7.frozen 0 0 rfl
        have d1 := HS7.cell 0 1 rfl rfl
        have f1 := HS7.frozen 0 1 rfl
        have d2 := HS7.cell 0 2 rfl rfl
        have f2 := HS7.frozen 0 2 rfl
        have d3 := HS7.cell 0 3 rfl rfl
        have f3 := HS7.frozen 0 3 rfl
        have d4 := HS7.cell 0 4 rfl rfl
        have f4 := HS7.frozen 0 4 rfl
        have d5 := HS7.cell 0 5 rfl rfl
        have f5 := HS7.frozen 0 5 rfl
        refine st_last (by simp only [List.getElem?_toArray, List.getElem?_cons_succ, List.getElem?_cons_zero]; rfl) ?_
        refine store_event (t := 35) (p := 5) (v := .tmp 69) (w1 := ((((((w7.setCell ⟨g5, 0, none⟩ (.int .i64 x1)).setCell ⟨g5, 1, none⟩ (.int .i64 x2)).setCell ⟨g5, 2, none⟩ (.int .i64 (x3 * 16777216 + x4 * 65536 + x5 * 256 + x6))).setCell ⟨g5, 3, none⟩ (.int .i64 x7)).setCell ⟨g5, 4, none⟩ (.int .i64 x8)).setCell ⟨g5, 5, none⟩ (.slice A1 m c1))) rfl rfl rfl (by go_simp) ?_
        rintro wz hw
        have HZ := ((((((HS7.setAt 0 0 (.int .i64 x1) rfl).setAt 0 1 (.int .i64 x2) rfl).setAt 0 2 (.int .i64 (x3 * 16777216 + x4 * 65536 + x5 * 256 + x6)) rfl).setAt 0 3 (.int .i64 x7) rfl).setAt 0 4 (.int .i64 x8) rfl).setAt 0 5 (.slice A1 m c1) rfl)
        rw [← hw] at HZ
        clear hw HS7 d0 f0 d1 f1 d2 f2 d3 f3 d4 f4 d5 f5
        refine st_norm rfl ?_
        refine st_done ?_
        go_wp2_with fail
        go_meet
        case rel => exact ⟨_, _, _, rfl, HZ.swap⟩
      · refine Kd.event_run (v := .pointer (some ⟨w5.heap.size, 0, none⟩)) (w1 := w5.alloc (.cells #[.int .i64 0, .int .i64 0, .int .i64 0, .int .i64 0, .int .i64 0, .slice none 0 0] 35)) rfl (by go_simp) ?_
        have HS6' := HS5.box (g := w5.heap.size) (cs := #[.int .i64 0, .int .i64 0, .int .i64 0, .int .i64 0, .int .i64 0, .slice none 0 0]) (t := 35) rfl (blk_new w5 _) (below_alloc (Below.refl _ _) _)
        generalize hgw : w5.alloc (.cells #[.int .i64 0, .int .i64 0, .int .i64 0, .int .i64 0, .int .i64 0, .slice none 0 0] 35) = w6 at HS6' ⊢
        clear hgw
        generalize w5.heap.size = g5 at HS6' ⊢
        clear HS5
        have HS6 := HS6'.swap
        clear HS6'
        refine ⟨HK.out _ HS6.below, ?_⟩
        refine st_norm (a' := ?_) ?_ ?_; rotate_left; (simp only [Act.put, List.setIfInBounds_toArray, List.set_cons_zero, List.set_cons_succ]; rfl)
        refine st_one (by simp only [List.getElem?_toArray, List.getElem?_cons_succ, List.getElem?_cons_zero]; rfl) ?_
        refine appRow kB rfl (.tmp 62) (.tmp 67) 22 5 (.int .u8 0) 1 rfl Try.underlying22 inf5 rfl (by decide) (by decide) _ [] (fBy xs) A' m (c - 10) rfl rfl HS6 (HC.out _ HS6.below) (fun _ _ h => h) (by have := HM.out; simp; omega) ?_
        intro v w7 HS7
        rw [List.nil_append] at HS7
        obtain ⟨A1, c1, rfl⟩ := HS7.rowShape 0 rfl
        rw [← HML.out] at HS7 ⊢
        clear HS6
        refine ⟨HK.out _ HS7.below, ?_⟩
        refine st_norm (a' := ?_) ?_ ?_; rotate_left; (simp only [Act.put, List.setIfInBounds_toArray, List.set_cons_zero, List.set_cons_succ]; rfl)
        repeat (refine st_free (v := ?_) (a' := ?_) (by simp only [List.getElem?_toArray, List.getElem?_cons_succ, List.getElem?_cons_zero]; rfl) (by rfl) ?_ ?_ ?_; rotate_left 2; (intro w'; go_simp; with_reducible rfl); (simp only [Act.put, List.setIfInBounds_toArray, List.set_cons_zero, List.set_cons_succ]; rfl))
        have d0 := HS7.cell 1 0 rfl rfl
        have f0 := HS7.frozen 1 0 rfl
        have d1 := HS7.cell 1 1 rfl rfl
        have f1 := HS7.frozen 1 1 rfl
        have d2 := HS7.cell 1 2 rfl rfl
        have f2 := HS7.frozen 1 2 rfl
        have d3 := HS7.cell 1 3 rfl rfl
        have f3 := HS7.frozen 1 3 rfl
        have d4 := HS7.cell 1 4 rfl rfl
        have f4 := HS7.frozen 1 4 rfl
        have d5 := HS7.cell 1 5 rfl rfl
        have f5 := HS7.frozen 1 5 rfl
        refine st_last (by simp only [List.getElem?_toArray, List.getElem?_cons_succ, List.getElem?_cons_zero]; rfl) ?_
        refine store_event (t := 35) (p := 5) (v := .tmp 69) (w1 := ((((((w7.setCell ⟨g5, 0, none⟩ (.int .i64 x1)).setCell ⟨g5, 1, none⟩ (.int .i64 x2)).setCell ⟨g5, 2, none⟩ (.int .i64 (x3 * 16777216 + x4 * 65536 + x5 * 256 + x6))).setCell ⟨g5, 3, none⟩ (.int .i64 x7)).setCell ⟨g5, 4, none⟩ (.int .i64 x8)).setCell ⟨g5, 5, none⟩ (.slice A1 m c1))) rfl rfl rfl (by go_simp) ?_
        rintro wz hw
        have HZ := ((((((HS7.setAt 1 0 (.int .i64 x1) rfl).setAt 1 1 (.int .i64 x2) rfl).setAt 1 2 (.int .i64 (x3 * 16777216 + x4 * 65536 + x5 * 256 + x6)) rfl).setAt 1 3 (.int .i64 x7) rfl).setAt 1 4 (.int .i64 x8) rfl).setAt 1 5 (.slice A1 m c1) rfl)
        rw [← hw] at HZ
        clear hw HS7 d0 f0 d1 f1 d2 f2 d3 f3 d4 f4 d5 f5
        refine st_norm rfl ?_
        refine st_done ?_
        go_wp2_with fail
        go_meet
        case rel => exact ⟨_, _, _, rfl, HZ⟩
    · refine Kd.event_run (v := .pointer (some ⟨w4.heap.size, 0, none⟩)) (w1 := w4.alloc (.cells #[.int .i64 0, .int .i64 0, .int .i64 0, .int .i64 0, .int .i64 0, .slice none 0 0] 35)) rfl (by go_simp) ?_
      have HS5 := HS4.box (g := w4.heap.size) (cs := #[.int .i64 0, .int .i64 0, .int .i64 0, .int .i64 0, .int .i64 0, .slice none 0 0]) (t := 35) rfl (blk_new w4 _) (below_alloc (Below.refl _ _) _)
      generalize hgw : w4.alloc (.cells #[.int .i64 0, .int .i64 0, .int .i64 0, .int .i64 0, .int .i64 0, .slice none 0 0] 35) = w5 at HS5 ⊢
      clear hgw
      generalize w4.heap.size = g5 at HS5 ⊢
      clear HS4
      refine ⟨HK.out _ HS5.below, ?_⟩
      refine st_norm (a' := ?_) ?_ ?_; rotate_left; (simp only [Act.put, List.setIfInBounds_toArray, List.set_cons_zero, List.set_cons_succ]; rfl)
      refine st_one (by simp only [List.getElem?_toArray, List.getElem?_cons_succ, List.getElem?_cons_zero]; rfl) ?_
      refine Kd.event_run (v := .slice (some ⟨w5.heap.size, 0, none⟩) 0 0) (w1 := w5.alloc (.cells #[] 5)) rfl (by go_simp) ?_
      have HS6 := (HS5.box (g := w5.heap.size) (cs := #[]) (t := 5) rfl (blk_new w5 _) (below_alloc (Below.refl _ _) _)).emptyRow0 kB
      generalize hgw : w5.alloc (.cells #[] 5) = w6 at HS6 ⊢
      clear hgw
      generalize w5.heap.size = ge at HS6 ⊢
      clear HS5
      refine ⟨HK.out _ HS6.below, ?_⟩
      refine st_norm (a' := ?_) ?_ ?_; rotate_left; (simp only [Act.put, List.setIfInBounds_toArray, List.set_cons_zero, List.set_cons_succ]; rfl)
      refine st_one (by simp only [List.getElem?_toArray, List.getElem?_cons_succ, List.getElem?_cons_zero]; rfl) ?_
      refine appRow kB rfl (.tmp 62) (.tmp 67) 22 5 (.int .u8 0) 1 rfl Try.underlying22 inf5 rfl (by decide) (by decide) _ [] (fBy xs) A' m (c - 10) rfl rfl HS6 (HC.out _ HS6.below) (fun _ _ h => h) (by have := HM.out; simp; omega) ?_
      intro v w7 HS7
      rw [List.nil_append] at HS7
      obtain ⟨A1, c1, rfl⟩ := HS7.rowShape 0 rfl
      rw [← HML.out] at HS7 ⊢
      clear HS6
      refine ⟨HK.out _ HS7.below, ?_⟩
      refine st_norm (a' := ?_) ?_ ?_; rotate_left; (simp only [Act.put, List.setIfInBounds_toArray, List.set_cons_zero, List.set_cons_succ]; rfl)
      repeat (refine st_free (v := ?_) (a' := ?_) (by simp only [List.getElem?_toArray, List.getElem?_cons_succ, List.getElem?_cons_zero]; rfl) (by rfl) ?_ ?_ ?_; rotate_left 2; (intro w'; go_simp; with_reducible rfl); (simp only [Act.put, List.setIfInBounds_toArray, List.set_cons_zero, List.set_cons_succ]; rfl))
      have d0 := HS7.cell 1 0 rfl rfl
      have f0 := HS7.frozen 1 0 rfl
      have d1 := HS7.cell 1 1 rfl rfl
      have f1 := HS7.frozen 1 1 rfl
      have d2 := HS7.cell 1 2 rfl rfl
      have f2 := HS7.frozen 1 2 rfl
      have d3 := HS7.cell 1 3 rfl rfl
      have f3 := HS7.frozen 1 3 rfl
      have d4 := HS7.cell 1 4 rfl rfl
      have f4 := HS7.frozen 1 4 rfl
      have d5 := HS7.cell 1 5 rfl rfl
      have f5 := HS7.frozen 1 5 rfl
      refine st_last (by simp only [List.getElem?_toArray, List.getElem?_cons_succ, List.getElem?_cons_zero]; rfl) ?_
      refine store_event (t := 35) (p := 5) (v := .tmp 69) (w1 := ((((((w7.setCell ⟨g5, 0, none⟩ (.int .i64 x1)).setCell ⟨g5, 1, none⟩ (.int .i64 x2)).setCell ⟨g5, 2, none⟩ (.int .i64 (x3 * 16777216 + x4 * 65536 + x5 * 256 + x6))).setCell ⟨g5, 3, none⟩ (.int .i64 x7)).setCell ⟨g5, 4, none⟩ (.int .i64 x8)).setCell ⟨g5, 5, none⟩ (.slice A1 m c1))) rfl rfl rfl (by go_simp) ?_
      rintro wz hw
      have HZ := ((((((HS7.setAt 1 0 (.int .i64 x1) rfl).setAt 1 1 (.int .i64 x2) rfl).setAt 1 2 (.int .i64 (x3 * 16777216 + x4 * 65536 + x5 * 256 + x6)) rfl).setAt 1 3 (.int .i64 x7) rfl).setAt 1 4 (.int .i64 x8) rfl).setAt 1 5 (.slice A1 m c1) rfl)
      rw [← hw] at HZ
      clear hw HS7 d0 f0 d1 f1 d2 f2 d3 f3 d4 f4 d5 f5
      refine st_norm rfl ?_
      refine st_done ?_
      go_wp2_with fail
      go_meet
      case rel => exact ⟨_, _, _, rfl, HZ⟩
  case rest =>
    obtain ⟨g5, A1, c1, rfl, HS4⟩ := hcut
    obtain ⟨w4, rfl⟩ : ∃ w4, w4 = wc := ⟨_, rfl⟩
    clear hcutr hws hw3 hw4 hw5 ho2 ho3 ho4 HS3 hb1 hc1 hq1 hb2 hc2 hq2 hb3 hc3 hq3 hb4 hc4 hq4 hb5 hc5 hq5 hb6 hc6 hq6 hb7 hc7 hq7 hb8 hc8 hq8
    obtain ⟨nc, hnc⟩ : ∃ nc, nc = x3 * 16777216 + x4 * 65536 + x5 * 256 + x6 := ⟨_, rfl⟩
    have hnc0 : 0 ≤ nc := by omega
    have hnc1 : nc < 4294967296 := by omega
    rw [← hnc] at HS4 HXS
    have hm255 : m ≤ 255 := by have := HM.out; omega
    clear hnc
    have e0 := HS4.cell 1 0 rfl rfl; have e1 := HS4.cell 1 1 rfl rfl; have e2 := HS4.cell 1 2 rfl rfl; have e3 := HS4.cell 1 3 rfl rfl; have e4 := HS4.cell 1 4 rfl rfl; have e5 := HS4.cell 1 5 rfl rfl
    go_upto_region 7 with fail
    go_cut [7, 8] (fun v7 v8 wd => v7 = .bool (x7 + 1 == x8) ∧ v8 = .bool (szB m x7 x8) ∧ wd = w4)
    case first =>
      by_cases cm48 : m = 48
      · have HSZ := Aside0.mk (show szB m x7 x8 = true from by unfold szB; simp [cm48])
        have h48a : ((m : Int) == 48) = true := by simp; omega
        have h48b : ((m : Int) != 48) = false := by simp; omega
        clear cm48
        go_wp2_with fail
        go_meet
        case rel => exact ⟨by first | rfl | rw [HLA.out], by rw [HSZ.out], rfl⟩
      · by_cases clast : x7 + 1 = x8
        · by_cases clt : m < 48
          · by_cases cpos : 0 < m
            · have HSZ := Aside0.mk (show szB m x7 x8 = true from by unfold szB; simp [cm48, clast, clt, cpos])
              have h48a : ((m : Int) == 48) = false := by simp; omega
              have h48b : ((m : Int) != 48) = true := by simp; omega
              have hlaa : ((x7 + 1) == x8) = true := by simp; omega
              have hlab : ((x7 + 1) != x8) = false := by simp; omega
              have HLA := Aside0.mk hlaa
              have hlt : decide ((m : Int) < 48) = true := decide_eq_true (by omega)
              have hlu : decide (m < 48) = true := decide_eq_true (by omega)
              have hpo : decide ((0 : Int) < (m : Int)) = true := decide_eq_true (by omega)
              have hpp : decide (0 < m) = true := decide_eq_true (by omega)
              clear cm48 clast clt cpos
              go_wp2_with fail
              go_meet
              case rel => exact ⟨by first | rfl | rw [HLA.out], by rw [HSZ.out], rfl⟩
            · by_cases cone : x8 = 1
              · have HSZ := Aside0.mk (show szB m x7 x8 = true from by unfold szB; simp [cm48, clast, clt, cpos, cone])
                have h48a : ((m : Int) == 48) = false := by simp; omega
                have h48b : ((m : Int) != 48) = true := by simp; omega
                have hlaa : ((x7 + 1) == x8) = true := by simp; omega
                have hlab : ((x7 + 1) != x8) = false := by simp; omega
                have HLA := Aside0.mk hlaa
                have hlt : decide ((m : Int) < 48) = true := decide_eq_true (by omega)
                have hlu : decide (m < 48) = true := decide_eq_true (by omega)
                have hpo : decide ((0 : Int) < (m : Int)) = false := decide_eq_false (by omega)
                have hpp : decide (0 < m) = false := decide_eq_false (by omega)
                have hona : (x8 == 1) = true := by simp; omega
                have honb : (x8 != 1) = false := by simp; omega
                clear cm48 clast clt cpos cone
                go_wp2_with fail
                go_meet
                case rel => exact ⟨by first | rfl | rw [HLA.out], by rw [HSZ.out], rfl⟩
              · have HSZ := Aside0.mk (show szB m x7 x8 = false from by unfold szB; simp [cm48, clast, clt, cpos, cone])
                have h48a : ((m : Int) == 48) = false := by simp; omega
                have h48b : ((m : Int) != 48) = true := by simp; omega
                have hlaa : ((x7 + 1) == x8) = true := by simp; omega
                have hlab : ((x7 + 1) != x8) = false := by simp; omega
                have HLA := Aside0.mk hlaa
                have hlt : decide ((m : Int) < 48) = true := decide_eq_true (by omega)
                have hlu : decide (m < 48) = true := decide_eq_true (by omega)
                have hpo : decide ((0 : Int) < (m : Int)) = false := decide_eq_false (by omega)
                have hpp : decide (0 < m) = false := decide_eq_false (by omega)
                have hona : (x8 == 1) = false := by simp; omega
                have honb : (x8 != 1) = true := by simp; omega
                clear cm48 clast clt cpos cone
                go_wp2_with fail
                go_meet
                case rel => exact ⟨by first | rfl | rw [HLA.out], by rw [HSZ.out], rfl⟩
          · have HSZ := Aside0.mk (show szB m x7 x8 = false from by unfold szB; simp [cm48, clast, clt])
            have h48a : ((m : Int) == 48) = false := by simp; omega
            have h48b : ((m : Int) != 48) = true := by simp; omega
            have hlaa : ((x7 + 1) == x8) = true := by simp; omega
            have hlab : ((x7 + 1) != x8) = false := by simp; omega
            have HLA := Aside0.mk hlaa
            have hlt : decide ((m : Int) < 48) = false := decide_eq_false (by omega)
            have hlu : decide (m < 48) = false := decide_eq_false (by omega)
            clear cm48 clast clt
            go_wp2_with fail
            go_meet
            case rel => exact ⟨by first | rfl | rw [HLA.out], by rw [HSZ.out], rfl⟩
        · have HSZ := Aside0.mk (show szB m x7 x8 = false from by unfold szB; simp [cm48, clast])
          have h48a : ((m : Int) == 48) = false := by simp; omega
          have h48b : ((m : Int) != 48) = true := by simp; omega
          have hlaa : ((x7 + 1) == x8) = false := by simp; omega
          have hlab : ((x7 + 1) != x8) = true := by simp; omega
          have HLA := Aside0.mk hlaa
          clear cm48 clast
          go_wp2_with fail
          go_meet
          case rel => exact ⟨by first | rfl | rw [HLA.out], by rw [HSZ.out], rfl⟩
    case rest =>
      obtain ⟨rfl, rfl, rfl⟩ := hcut
      obtain ⟨w5, rfl⟩ : ∃ w5, w5 = wc := ⟨_, rfl⟩
      have HIFF := Aside0.mk (read_iff HXS.out HF.out HML.out)
      have HFL := Aside0.mk (show (fBy xs).length ≤ 1073741824 from by have := HML.out; omega)
      have HFX := Aside0.mk (show ∀ x ∈ PW16.frameB x1 x2 nc x7 x8 (fBy xs), 0 ≤ x ∧ x < 256 from PW16.frameB_in x1 x2 nc x7 x8 (fun x hx => HX.out x (List.mem_of_mem_take (List.mem_of_mem_drop hx))))
      have HSC := Aside0.mk (fun (w' : World) (hb : Below w.heap.size w w') => Kd.C_string (P := Try.prog) (src := 22) (dst := 9) (c := c) Try.underlying22 Try.underlying5 Try.underlying9 (Kd.C_below HR.out hb))
      have hxl : (xs.length) = len := HL.out.symm
      rw [hxl] at HSC
      clear hxl
      obtain ⟨sz, hsz⟩ : ∃ sz, sz = szB m x7 x8 := ⟨_, rfl⟩
      rw [← hsz] at HIFF ⊢
      have hw6 : IntKind.i64.wrap (x7 * 48) = x7 * 48 := Go.IntWalk.i64_in _ (by omega)
      have hw7 : IntKind.i64.wrap (x7 * 48 + (m : Int)) = x7 * 48 + (m : Int) := Go.IntWalk.i64_in _ (by omega)
      clear hsz hcap
      go_upto_region 8 with fail
      go_cut [7, 144] (fun v7 v144 wd => ∃ bad : Bool, v144 = .bool bad ∧ (bad = true ↔ ¬ ReadOk xs) ∧ Sat w wd [row kB 5 (.slice A1 m c1) (fBy xs), blk g5 (.cells #[.int .i64 x1, .int .i64 x2, .int .i64 nc, .int .i64 x7, .int .i64 x8, .slice A1 m c1] 35 (0, 0)), blk g4 (.cells #[.int .i64 0, .int .i64 0, .int .i64 0, .int .i64 0, .int .i64 0, .slice none 0 0] 35 (0, 0)), blk g2 (.cells #[.int .i64 0, .int .i64 0, .int .i64 0, .int .i64 0, .int .i64 0, .slice none 0 0] 35 (0, 0))])
      case first =>
        by_cases chd : PW16.okHead x1 x2 nc = true
        · by_cases cc1 : x8 < 1
          · as_aux_lemma =>
              have hc1 : decide (x8 < 1) = true := decide_eq_true (by omega)
              have HBAD : Aside0 ((true = true) ↔ ¬ ReadOk xs) := Aside0.mk (by rw [HIFF.out]; simp [chd, cc1])
              have HHD := Aside0.mk chd
              clear chd cc1
              refine region (frees [0, 2, 4] (helds [1, 3, 5] (.one 6 (frees [7, 8, 9] (helds [10] (frees [11, 12, 13, 14] (helds [15] (frees [16, 17, 18, 19, 21] (helds [20, 22] (frees [23, 24, 25, 26, 27, 28, 29, 30, 31, 32, 35] (helds [33] (frees [34, 36, 37, 38, 39, 40, 44] (helds [41, 45] (.one 42 (.one 43 (frees [46, 47] .done)))))))))))))))) (fun w' => w'.cell? ⟨g5, 0, none⟩ = some (.int .i64 x1) ∧ w'.cell? ⟨g5, 1, none⟩ = some (.int .i64 x2) ∧ w'.cell? ⟨g5, 2, none⟩ = some (.int .i64 nc) ∧ w'.cell? ⟨g5, 3, none⟩ = some (.int .i64 x7) ∧ w'.cell? ⟨g5, 4, none⟩ = some (.int .i64 x8) ∧ w'.cell? ⟨g5, 5, none⟩ = some (.slice A1 m c1) ∧ (convert 22 9 (.slice (some ⟨b, o, none⟩) len c)).run Try.prog w' = .ok (.string (strOfNums xs)) w') [] (by kernel_rfl) (by kernel_rfl) ?_
              have HS5 := HS4.drew
              clear HS4 e0 e1 e2 e3 e4 e5
              generalize w5.drew = wb at HS5 ⊢
              have e0 := HS5.cell 1 0 rfl rfl
              have e1 := HS5.cell 1 1 rfl rfl
              have e2 := HS5.cell 1 2 rfl rfl
              have e3 := HS5.cell 1 3 rfl rfl
              have e4 := HS5.cell 1 4 rfl rfl
              have e5 := HS5.cell 1 5 rfl rfl
              have sx := HSC.out _ HS5.below
              repeat (first | (refine st_free (v := ?_) (a' := ?_) (by simp only [List.getElem?_toArray, List.getElem?_cons_succ, List.getElem?_cons_zero]; rfl) (by rfl) ?_ ?_ ?_; rotate_left 2; (intro w'; go_simp; with_reducible rfl); (simp only [Act.put, List.setIfInBounds_toArray, List.set_cons_zero, List.set_cons_succ]; rfl)) | (refine st_held (v := ?_) (a' := ?_) ⟨e0, e1, e2, e3, e4, e5, sx⟩ (by simp only [List.getElem?_toArray, List.getElem?_cons_succ, List.getElem?_cons_zero]; rfl) (by rfl) ?_ ?_ ?_; rotate_left 2; (rintro w' ⟨s0, s1, s2, s3, s4, s5, s6⟩; go_simp; with_reducible rfl); (simp only [Act.put, List.setIfInBounds_toArray, List.set_cons_zero, List.set_cons_succ]; rfl)) | (refine st_off (a' := ?_) (by simp only [List.getElem?_toArray, List.getElem?_cons_succ, List.getElem?_cons_zero]; rfl) (by rfl) ?_ ?_; rotate_left; (simp only [Act.put, List.setIfInBounds_toArray, List.set_cons_zero, List.set_cons_succ]; rfl)) | (refine st_hoff (a' := ?_) ⟨e0, e1, e2, e3, e4, e5, sx⟩ (by simp only [List.getElem?_toArray, List.getElem?_cons_succ, List.getElem?_cons_zero]; rfl) (by rfl) ?_ ?_; rotate_left; (simp only [Act.put, List.setIfInBounds_toArray, List.set_cons_zero, List.set_cons_succ]; rfl)))
              refine st_one (by simp only [List.getElem?_toArray, List.getElem?_cons_succ, List.getElem?_cons_zero]; rfl) ?_
              refine goesL_ (some 103) rfl rfl Try.func47 (by kernel_rfl) rfl #[.int .i64 x1, .int .i64 x2, .int .i64 nc] rfl (by go_simp) ?_
              refine (head16 x1 x2 nc true HHD.out).mono ?_
              rintro e w6 ⟨rfl, HH⟩
              have HS6 := HS5.frame HH
              clear HS5 HH e0 e1 e2 e3 e4 e5 sx
              refine ⟨_, rfl, ?_⟩
              have e0 := HS6.cell 1 0 rfl rfl
              have e1 := HS6.cell 1 1 rfl rfl
              have e2 := HS6.cell 1 2 rfl rfl
              have e3 := HS6.cell 1 3 rfl rfl
              have e4 := HS6.cell 1 4 rfl rfl
              have e5 := HS6.cell 1 5 rfl rfl
              have sx := HSC.out _ HS6.below
              refine ⟨⟨e0, e1, e2, e3, e4, e5, sx⟩, ?_⟩
              refine st_norm (a' := ?_) ?_ ?_; rotate_left; (simp only [Act.put, List.setIfInBounds_toArray, List.set_cons_zero, List.set_cons_succ]; rfl)
              repeat (first | (refine st_free (v := ?_) (a' := ?_) (by simp only [List.getElem?_toArray, List.getElem?_cons_succ, List.getElem?_cons_zero]; rfl) (by rfl) ?_ ?_ ?_; rotate_left 2; (intro w'; go_simp; with_reducible rfl); (simp only [Act.put, List.setIfInBounds_toArray, List.set_cons_zero, List.set_cons_succ]; rfl)) | (refine st_held (v := ?_) (a' := ?_) ⟨e0, e1, e2, e3, e4, e5, sx⟩ (by simp only [List.getElem?_toArray, List.getElem?_cons_succ, List.getElem?_cons_zero]; rfl) (by rfl) ?_ ?_ ?_; rotate_left 2; (rintro w' ⟨s0, s1, s2, s3, s4, s5, s6⟩; go_simp; with_reducible rfl); (simp only [Act.put, List.setIfInBounds_toArray, List.set_cons_zero, List.set_cons_succ]; rfl)) | (refine st_off (a' := ?_) (by simp only [List.getElem?_toArray, List.getElem?_cons_succ, List.getElem?_cons_zero]; rfl) (by rfl) ?_ ?_; rotate_left; (simp only [Act.put, List.setIfInBounds_toArray, List.set_cons_zero, List.set_cons_succ]; rfl)) | (refine st_hoff (a' := ?_) ⟨e0, e1, e2, e3, e4, e5, sx⟩ (by simp only [List.getElem?_toArray, List.getElem?_cons_succ, List.getElem?_cons_zero]; rfl) (by rfl) ?_ ?_; rotate_left; (simp only [Act.put, List.setIfInBounds_toArray, List.set_cons_zero, List.set_cons_succ]; rfl)))
              refine st_one (by simp only [List.getElem?_toArray, List.getElem?_cons_succ, List.getElem?_cons_zero]; rfl) ?_
              refine offG (by rfl) ?_
              refine ⟨⟨e0, e1, e2, e3, e4, e5, sx⟩, ?_⟩
              refine st_norm (a' := ?_) ?_ ?_; rotate_left; (simp only [Act.put, List.setIfInBounds_toArray, List.set_cons_zero, List.set_cons_succ]; rfl)
              refine st_one (by simp only [List.getElem?_toArray, List.getElem?_cons_succ, List.getElem?_cons_zero]; rfl) ?_
              refine offG (by rfl) ?_
              refine ⟨⟨e0, e1, e2, e3, e4, e5, sx⟩, ?_⟩
              refine st_norm (a' := ?_) ?_ ?_; rotate_left; (simp only [Act.put, List.setIfInBounds_toArray, List.set_cons_zero, List.set_cons_succ]; rfl)
              repeat (first | (refine st_free (v := ?_) (a' := ?_) (by simp only [List.getElem?_toArray, List.getElem?_cons_succ, List.getElem?_cons_zero]; rfl) (by rfl) ?_ ?_ ?_; rotate_left 2; (intro w'; go_simp; with_reducible rfl); (simp only [Act.put, List.setIfInBounds_toArray, List.set_cons_zero, List.set_cons_succ]; rfl)) | (refine st_held (v := ?_) (a' := ?_) ⟨e0, e1, e2, e3, e4, e5, sx⟩ (by simp only [List.getElem?_toArray, List.getElem?_cons_succ, List.getElem?_cons_zero]; rfl) (by rfl) ?_ ?_ ?_; rotate_left 2; (rintro w' ⟨s0, s1, s2, s3, s4, s5, s6⟩; go_simp; with_reducible rfl); (simp only [Act.put, List.setIfInBounds_toArray, List.set_cons_zero, List.set_cons_succ]; rfl)) | (refine st_off (a' := ?_) (by simp only [List.getElem?_toArray, List.getElem?_cons_succ, List.getElem?_cons_zero]; rfl) (by rfl) ?_ ?_; rotate_left; (simp only [Act.put, List.setIfInBounds_toArray, List.set_cons_zero, List.set_cons_succ]; rfl)) | (refine st_hoff (a' := ?_) ⟨e0, e1, e2, e3, e4, e5, sx⟩ (by simp only [List.getElem?_toArray, List.getElem?_cons_succ, List.getElem?_cons_zero]; rfl) (by rfl) ?_ ?_; rotate_left; (simp only [Act.put, List.setIfInBounds_toArray, List.set_cons_zero, List.set_cons_succ]; rfl)))
              refine st_done ?_
              go_wp2_with fail
              go_meet
              case rel => exact ⟨_, rfl, by simpa using HBAD.out, HS6⟩
          · by_cases cc2 : 86 < x8
            · as_aux_lemma =>
                have hc1 : decide (x8 < 1) = false := decide_eq_false (by omega)
                have hc2 : decide (86 < x8) = true := decide_eq_true (by omega)
                have HBAD : Aside0 ((true = true) ↔ ¬ ReadOk xs) := Aside0.mk (by rw [HIFF.out]; simp [chd, cc1, cc2])
                have HHD := Aside0.mk chd
                clear chd cc1 cc2
                refine region (frees [0, 2, 4] (helds [1, 3, 5] (.one 6 (frees [7, 8, 9] (helds [10] (frees [11, 12, 13, 14] (helds [15] (frees [16, 17, 18, 19, 21] (helds [20, 22] (frees [23, 24, 25, 26, 27, 28, 29, 30, 31, 32, 35] (helds [33] (frees [34, 36, 37, 38, 39, 40, 44] (helds [41, 45] (.one 42 (.one 43 (frees [46, 47] .done)))))))))))))))) (fun w' => w'.cell? ⟨g5, 0, none⟩ = some (.int .i64 x1) ∧ w'.cell? ⟨g5, 1, none⟩ = some (.int .i64 x2) ∧ w'.cell? ⟨g5, 2, none⟩ = some (.int .i64 nc) ∧ w'.cell? ⟨g5, 3, none⟩ = some (.int .i64 x7) ∧ w'.cell? ⟨g5, 4, none⟩ = some (.int .i64 x8) ∧ w'.cell? ⟨g5, 5, none⟩ = some (.slice A1 m c1) ∧ (convert 22 9 (.slice (some ⟨b, o, none⟩) len c)).run Try.prog w' = .ok (.string (strOfNums xs)) w') [] (by kernel_rfl) (by kernel_rfl) ?_
                have HS5 := HS4.drew
                clear HS4 e0 e1 e2 e3 e4 e5
                generalize w5.drew = wb at HS5 ⊢
                have e0 := HS5.cell 1 0 rfl rfl
                have e1 := HS5.cell 1 1 rfl rfl
                have e2 := HS5.cell 1 2 rfl rfl
                have e3 := HS5.cell 1 3 rfl rfl
                have e4 := HS5.cell 1 4 rfl rfl
                have e5 := HS5.cell 1 5 rfl rfl
                have sx := HSC.out _ HS5.below
                repeat (first | (refine st_free (v := ?_) (a' := ?_) (by simp only [List.getElem?_toArray, List.getElem?_cons_succ, List.getElem?_cons_zero]; rfl) (by rfl) ?_ ?_ ?_; rotate_left 2; (intro w'; go_simp; with_reducible rfl); (simp only [Act.put, List.setIfInBounds_toArray, List.set_cons_zero, List.set_cons_succ]; rfl)) | (refine st_held (v := ?_) (a' := ?_) ⟨e0, e1, e2, e3, e4, e5, sx⟩ (by simp only [List.getElem?_toArray, List.getElem?_cons_succ, List.getElem?_cons_zero]; rfl) (by rfl) ?_ ?_ ?_; rotate_left 2; (rintro w' ⟨s0, s1, s2, s3, s4, s5, s6⟩; go_simp; with_reducible rfl); (simp only [Act.put, List.setIfInBounds_toArray, List.set_cons_zero, List.set_cons_succ]; rfl)) | (refine st_off (a' := ?_) (by simp only [List.getElem?_toArray, List.getElem?_cons_succ, List.getElem?_cons_zero]; rfl) (by rfl) ?_ ?_; rotate_left; (simp only [Act.put, List.setIfInBounds_toArray, List.set_cons_zero, List.set_cons_succ]; rfl)) | (refine st_hoff (a' := ?_) ⟨e0, e1, e2, e3, e4, e5, sx⟩ (by simp only [List.getElem?_toArray, List.getElem?_cons_succ, List.getElem?_cons_zero]; rfl) (by rfl) ?_ ?_; rotate_left; (simp only [Act.put, List.setIfInBounds_toArray, List.set_cons_zero, List.set_cons_succ]; rfl)))
                refine st_one (by simp only [List.getElem?_toArray, List.getElem?_cons_succ, List.getElem?_cons_zero]; rfl) ?_
                refine goesL_ (some 103) rfl rfl Try.func47 (by kernel_rfl) rfl #[.int .i64 x1, .int .i64 x2, .int .i64 nc] rfl (by go_simp) ?_
                refine (head16 x1 x2 nc true HHD.out).mono ?_
                rintro e w6 ⟨rfl, HH⟩
                have HS6 := HS5.frame HH
                clear HS5 HH e0 e1 e2 e3 e4 e5 sx
                refine ⟨_, rfl, ?_⟩
                have e0 := HS6.cell 1 0 rfl rfl
                have e1 := HS6.cell 1 1 rfl rfl
                have e2 := HS6.cell 1 2 rfl rfl
                have e3 := HS6.cell 1 3 rfl rfl
                have e4 := HS6.cell 1 4 rfl rfl
                have e5 := HS6.cell 1 5 rfl rfl
                have sx := HSC.out _ HS6.below
                refine ⟨⟨e0, e1, e2, e3, e4, e5, sx⟩, ?_⟩
                refine st_norm (a' := ?_) ?_ ?_; rotate_left; (simp only [Act.put, List.setIfInBounds_toArray, List.set_cons_zero, List.set_cons_succ]; rfl)
                repeat (first | (refine st_free (v := ?_) (a' := ?_) (by simp only [List.getElem?_toArray, List.getElem?_cons_succ, List.getElem?_cons_zero]; rfl) (by rfl) ?_ ?_ ?_; rotate_left 2; (intro w'; go_simp; with_reducible rfl); (simp only [Act.put, List.setIfInBounds_toArray, List.set_cons_zero, List.set_cons_succ]; rfl)) | (refine st_held (v := ?_) (a' := ?_) ⟨e0, e1, e2, e3, e4, e5, sx⟩ (by simp only [List.getElem?_toArray, List.getElem?_cons_succ, List.getElem?_cons_zero]; rfl) (by rfl) ?_ ?_ ?_; rotate_left 2; (rintro w' ⟨s0, s1, s2, s3, s4, s5, s6⟩; go_simp; with_reducible rfl); (simp only [Act.put, List.setIfInBounds_toArray, List.set_cons_zero, List.set_cons_succ]; rfl)) | (refine st_off (a' := ?_) (by simp only [List.getElem?_toArray, List.getElem?_cons_succ, List.getElem?_cons_zero]; rfl) (by rfl) ?_ ?_; rotate_left; (simp only [Act.put, List.setIfInBounds_toArray, List.set_cons_zero, List.set_cons_succ]; rfl)) | (refine st_hoff (a' := ?_) ⟨e0, e1, e2, e3, e4, e5, sx⟩ (by simp only [List.getElem?_toArray, List.getElem?_cons_succ, List.getElem?_cons_zero]; rfl) (by rfl) ?_ ?_; rotate_left; (simp only [Act.put, List.setIfInBounds_toArray, List.set_cons_zero, List.set_cons_succ]; rfl)))
                refine st_one (by simp only [List.getElem?_toArray, List.getElem?_cons_succ, List.getElem?_cons_zero]; rfl) ?_
                refine offG (by rfl) ?_
                refine ⟨⟨e0, e1, e2, e3, e4, e5, sx⟩, ?_⟩
                refine st_norm (a' := ?_) ?_ ?_; rotate_left; (simp only [Act.put, List.setIfInBounds_toArray, List.set_cons_zero, List.set_cons_succ]; rfl)
                refine st_one (by simp only [List.getElem?_toArray, List.getElem?_cons_succ, List.getElem?_cons_zero]; rfl) ?_
                refine offG (by rfl) ?_
                refine ⟨⟨e0, e1, e2, e3, e4, e5, sx⟩, ?_⟩
                refine st_norm (a' := ?_) ?_ ?_; rotate_left; (simp only [Act.put, List.setIfInBounds_toArray, List.set_cons_zero, List.set_cons_succ]; rfl)
                repeat (first | (refine st_free (v := ?_) (a' := ?_) (by simp only [List.getElem?_toArray, List.getElem?_cons_succ, List.getElem?_cons_zero]; rfl) (by rfl) ?_ ?_ ?_; rotate_left 2; (intro w'; go_simp; with_reducible rfl); (simp only [Act.put, List.setIfInBounds_toArray, List.set_cons_zero, List.set_cons_succ]; rfl)) | (refine st_held (v := ?_) (a' := ?_) ⟨e0, e1, e2, e3, e4, e5, sx⟩ (by simp only [List.getElem?_toArray, List.getElem?_cons_succ, List.getElem?_cons_zero]; rfl) (by rfl) ?_ ?_ ?_; rotate_left 2; (rintro w' ⟨s0, s1, s2, s3, s4, s5, s6⟩; go_simp; with_reducible rfl); (simp only [Act.put, List.setIfInBounds_toArray, List.set_cons_zero, List.set_cons_succ]; rfl)) | (refine st_off (a' := ?_) (by simp only [List.getElem?_toArray, List.getElem?_cons_succ, List.getElem?_cons_zero]; rfl) (by rfl) ?_ ?_; rotate_left; (simp only [Act.put, List.setIfInBounds_toArray, List.set_cons_zero, List.set_cons_succ]; rfl)) | (refine st_hoff (a' := ?_) ⟨e0, e1, e2, e3, e4, e5, sx⟩ (by simp only [List.getElem?_toArray, List.getElem?_cons_succ, List.getElem?_cons_zero]; rfl) (by rfl) ?_ ?_; rotate_left; (simp only [Act.put, List.setIfInBounds_toArray, List.set_cons_zero, List.set_cons_succ]; rfl)))
                refine st_done ?_
                go_wp2_with fail
                go_meet
                case rel => exact ⟨_, rfl, by simpa using HBAD.out, HS6⟩
            · by_cases cc3 : x8 ≤ x7
              · as_aux_lemma =>
                  have hc1 : decide (x8 < 1) = false := decide_eq_false (by omega)
                  have hc2 : decide (86 < x8) = false := decide_eq_false (by omega)
                  have hc3 : decide (x8 ≤ x7) = true := decide_eq_true (by omega)
                  have HBAD : Aside0 ((true = true) ↔ ¬ ReadOk xs) := Aside0.mk (by rw [HIFF.out]; simp [chd, cc1, cc2, cc3])
                  have HHD := Aside0.mk chd
                  clear chd cc1 cc2 cc3
                  refine region (frees [0, 2, 4] (helds [1, 3, 5] (.one 6 (frees [7, 8, 9] (helds [10] (frees [11, 12, 13, 14] (helds [15] (frees [16, 17, 18, 19, 21] (helds [20, 22] (frees [23, 24, 25, 26, 27, 28, 29, 30, 31, 32, 35] (helds [33] (frees [34, 36, 37, 38, 39, 40, 44] (helds [41, 45] (.one 42 (.one 43 (frees [46, 47] .done)))))))))))))))) (fun w' => w'.cell? ⟨g5, 0, none⟩ = some (.int .i64 x1) ∧ w'.cell? ⟨g5, 1, none⟩ = some (.int .i64 x2) ∧ w'.cell? ⟨g5, 2, none⟩ = some (.int .i64 nc) ∧ w'.cell? ⟨g5, 3, none⟩ = some (.int .i64 x7) ∧ w'.cell? ⟨g5, 4, none⟩ = some (.int .i64 x8) ∧ w'.cell? ⟨g5, 5, none⟩ = some (.slice A1 m c1) ∧ (convert 22 9 (.slice (some ⟨b, o, none⟩) len c)).run Try.prog w' = .ok (.string (strOfNums xs)) w') [] (by kernel_rfl) (by kernel_rfl) ?_
                  have HS5 := HS4.drew
                  clear HS4 e0 e1 e2 e3 e4 e5
                  generalize w5.drew = wb at HS5 ⊢
                  have e0 := HS5.cell 1 0 rfl rfl
                  have e1 := HS5.cell 1 1 rfl rfl
                  have e2 := HS5.cell 1 2 rfl rfl
                  have e3 := HS5.cell 1 3 rfl rfl
                  have e4 := HS5.cell 1 4 rfl rfl
                  have e5 := HS5.cell 1 5 rfl rfl
                  have sx := HSC.out _ HS5.below
                  repeat (first | (refine st_free (v := ?_) (a' := ?_) (by simp only [List.getElem?_toArray, List.getElem?_cons_succ, List.getElem?_cons_zero]; rfl) (by rfl) ?_ ?_ ?_; rotate_left 2; (intro w'; go_simp; with_reducible rfl); (simp only [Act.put, List.setIfInBounds_toArray, List.set_cons_zero, List.set_cons_succ]; rfl)) | (refine st_held (v := ?_) (a' := ?_) ⟨e0, e1, e2, e3, e4, e5, sx⟩ (by simp only [List.getElem?_toArray, List.getElem?_cons_succ, List.getElem?_cons_zero]; rfl) (by rfl) ?_ ?_ ?_; rotate_left 2; (rintro w' ⟨s0, s1, s2, s3, s4, s5, s6⟩; go_simp; with_reducible rfl); (simp only [Act.put, List.setIfInBounds_toArray, List.set_cons_zero, List.set_cons_succ]; rfl)) | (refine st_off (a' := ?_) (by simp only [List.getElem?_toArray, List.getElem?_cons_succ, List.getElem?_cons_zero]; rfl) (by rfl) ?_ ?_; rotate_left; (simp only [Act.put, List.setIfInBounds_toArray, List.set_cons_zero, List.set_cons_succ]; rfl)) | (refine st_hoff (a' := ?_) ⟨e0, e1, e2, e3, e4, e5, sx⟩ (by simp only [List.getElem?_toArray, List.getElem?_cons_succ, List.getElem?_cons_zero]; rfl) (by rfl) ?_ ?_; rotate_left; (simp only [Act.put, List.setIfInBounds_toArray, List.set_cons_zero, List.set_cons_succ]; rfl)))
                  refine st_one (by simp only [List.getElem?_toArray, List.getElem?_cons_succ, List.getElem?_cons_zero]; rfl) ?_
                  refine goesL_ (some 103) rfl rfl Try.func47 (by kernel_rfl) rfl #[.int .i64 x1, .int .i64 x2, .int .i64 nc] rfl (by go_simp) ?_
                  refine (head16 x1 x2 nc true HHD.out).mono ?_
                  rintro e w6 ⟨rfl, HH⟩
                  have HS6 := HS5.frame HH
                  clear HS5 HH e0 e1 e2 e3 e4 e5 sx
                  refine ⟨_, rfl, ?_⟩
                  have e0 := HS6.cell 1 0 rfl rfl
                  have e1 := HS6.cell 1 1 rfl rfl
                  have e2 := HS6.cell 1 2 rfl rfl
                  have e3 := HS6.cell 1 3 rfl rfl
                  have e4 := HS6.cell 1 4 rfl rfl
                  have e5 := HS6.cell 1 5 rfl rfl
                  have sx := HSC.out _ HS6.below
                  refine ⟨⟨e0, e1, e2, e3, e4, e5, sx⟩, ?_⟩
                  refine st_norm (a' := ?_) ?_ ?_; rotate_left; (simp only [Act.put, List.setIfInBounds_toArray, List.set_cons_zero, List.set_cons_succ]; rfl)
                  repeat (first | (refine st_free (v := ?_) (a' := ?_) (by simp only [List.getElem?_toArray, List.getElem?_cons_succ, List.getElem?_cons_zero]; rfl) (by rfl) ?_ ?_ ?_; rotate_left 2; (intro w'; go_simp; with_reducible rfl); (simp only [Act.put, List.setIfInBounds_toArray, List.set_cons_zero, List.set_cons_succ]; rfl)) | (refine st_held (v := ?_) (a' := ?_) ⟨e0, e1, e2, e3, e4, e5, sx⟩ (by simp only [List.getElem?_toArray, List.getElem?_cons_succ, List.getElem?_cons_zero]; rfl) (by rfl) ?_ ?_ ?_; rotate_left 2; (rintro w' ⟨s0, s1, s2, s3, s4, s5, s6⟩; go_simp; with_reducible rfl); (simp only [Act.put, List.setIfInBounds_toArray, List.set_cons_zero, List.set_cons_succ]; rfl)) | (refine st_off (a' := ?_) (by simp only [List.getElem?_toArray, List.getElem?_cons_succ, List.getElem?_cons_zero]; rfl) (by rfl) ?_ ?_; rotate_left; (simp only [Act.put, List.setIfInBounds_toArray, List.set_cons_zero, List.set_cons_succ]; rfl)) | (refine st_hoff (a' := ?_) ⟨e0, e1, e2, e3, e4, e5, sx⟩ (by simp only [List.getElem?_toArray, List.getElem?_cons_succ, List.getElem?_cons_zero]; rfl) (by rfl) ?_ ?_; rotate_left; (simp only [Act.put, List.setIfInBounds_toArray, List.set_cons_zero, List.set_cons_succ]; rfl)))
                  refine st_one (by simp only [List.getElem?_toArray, List.getElem?_cons_succ, List.getElem?_cons_zero]; rfl) ?_
                  refine offG (by rfl) ?_
                  refine ⟨⟨e0, e1, e2, e3, e4, e5, sx⟩, ?_⟩
                  refine st_norm (a' := ?_) ?_ ?_; rotate_left; (simp only [Act.put, List.setIfInBounds_toArray, List.set_cons_zero, List.set_cons_succ]; rfl)
                  refine st_one (by simp only [List.getElem?_toArray, List.getElem?_cons_succ, List.getElem?_cons_zero]; rfl) ?_
                  refine offG (by rfl) ?_
                  refine ⟨⟨e0, e1, e2, e3, e4, e5, sx⟩, ?_⟩
                  refine st_norm (a' := ?_) ?_ ?_; rotate_left; (simp only [Act.put, List.setIfInBounds_toArray, List.set_cons_zero, List.set_cons_succ]; rfl)
                  repeat (first | (refine st_free (v := ?_) (a' := ?_) (by simp only [List.getElem?_toArray, List.getElem?_cons_succ, List.getElem?_cons_zero]; rfl) (by rfl) ?_ ?_ ?_; rotate_left 2; (intro w'; go_simp; with_reducible rfl); (simp only [Act.put, List.setIfInBounds_toArray, List.set_cons_zero, List.set_cons_succ]; rfl)) | (refine st_held (v := ?_) (a' := ?_) ⟨e0, e1, e2, e3, e4, e5, sx⟩ (by simp only [List.getElem?_toArray, List.getElem?_cons_succ, List.getElem?_cons_zero]; rfl) (by rfl) ?_ ?_ ?_; rotate_left 2; (rintro w' ⟨s0, s1, s2, s3, s4, s5, s6⟩; go_simp; with_reducible rfl); (simp only [Act.put, List.setIfInBounds_toArray, List.set_cons_zero, List.set_cons_succ]; rfl)) | (refine st_off (a' := ?_) (by simp only [List.getElem?_toArray, List.getElem?_cons_succ, List.getElem?_cons_zero]; rfl) (by rfl) ?_ ?_; rotate_left; (simp only [Act.put, List.setIfInBounds_toArray, List.set_cons_zero, List.set_cons_succ]; rfl)) | (refine st_hoff (a' := ?_) ⟨e0, e1, e2, e3, e4, e5, sx⟩ (by simp only [List.getElem?_toArray, List.getElem?_cons_succ, List.getElem?_cons_zero]; rfl) (by rfl) ?_ ?_; rotate_left; (simp only [Act.put, List.setIfInBounds_toArray, List.set_cons_zero, List.set_cons_succ]; rfl)))
                  refine st_done ?_
                  go_wp2_with fail
                  go_meet
                  case rel => exact ⟨_, rfl, by simpa using HBAD.out, HS6⟩
              · by_cases csz : sz = true
                · by_cases cla : x7 + 1 = x8
                  · by_cases cbig : 4096 < x7 * 48 + (m : Int)
                    · as_aux_lemma =>
                        have hc1 : decide (x8 < 1) = false := decide_eq_false (by omega)
                        have hc2 : decide (86 < x8) = false := decide_eq_false (by omega)
                        have hc3 : decide (x8 ≤ x7) = false := decide_eq_false (by omega)
                        subst csz
                        have hlaa : ((x7 + 1) == x8) = true := by simp; omega
                        have hlab : ((x7 + 1) != x8) = false := by simp; omega
                        have hbg : decide (4096 < x7 * 48 + (m : Int)) = true := decide_eq_true (by omega)
                        have HBAD : Aside0 ((true = true) ↔ ¬ ReadOk xs) := Aside0.mk (by rw [HIFF.out]; simp [chd, cc1, cc2, cc3, cla, cbig])
                        have HHD := Aside0.mk chd
                        clear chd cc1 cc2 cc3 cla cbig
                        refine region (frees [0, 2, 4] (helds [1, 3, 5] (.one 6 (frees [7, 8, 9] (helds [10] (frees [11, 12, 13, 14] (helds [15] (frees [16, 17, 18, 19, 21] (helds [20, 22] (frees [23, 24, 25, 26, 27, 28, 29, 30, 31, 32, 35] (helds [33] (frees [34, 36, 37, 38, 39, 40, 44] (helds [41, 45] (.one 42 (.one 43 (frees [46, 47] .done)))))))))))))))) (fun w' => w'.cell? ⟨g5, 0, none⟩ = some (.int .i64 x1) ∧ w'.cell? ⟨g5, 1, none⟩ = some (.int .i64 x2) ∧ w'.cell? ⟨g5, 2, none⟩ = some (.int .i64 nc) ∧ w'.cell? ⟨g5, 3, none⟩ = some (.int .i64 x7) ∧ w'.cell? ⟨g5, 4, none⟩ = some (.int .i64 x8) ∧ w'.cell? ⟨g5, 5, none⟩ = some (.slice A1 m c1) ∧ (convert 22 9 (.slice (some ⟨b, o, none⟩) len c)).run Try.prog w' = .ok (.string (strOfNums xs)) w') [] (by kernel_rfl) (by kernel_rfl) ?_
                        have HS5 := HS4.drew
                        clear HS4 e0 e1 e2 e3 e4 e5
                        generalize w5.drew = wb at HS5 ⊢
                        have e0 := HS5.cell 1 0 rfl rfl
                        have e1 := HS5.cell 1 1 rfl rfl
                        have e2 := HS5.cell 1 2 rfl rfl
                        have e3 := HS5.cell 1 3 rfl rfl
                        have e4 := HS5.cell 1 4 rfl rfl
                        have e5 := HS5.cell 1 5 rfl rfl
                        have sx := HSC.out _ HS5.below
                        repeat (first | (refine st_free (v := ?_) (a' := ?_) (by simp only [List.getElem?_toArray, List.getElem?_cons_succ, List.getElem?_cons_zero]; rfl) (by rfl) ?_ ?_ ?_; rotate_left 2; (intro w'; go_simp; with_reducible rfl); (simp only [Act.put, List.setIfInBounds_toArray, List.set_cons_zero, List.set_cons_succ]; rfl)) | (refine st_held (v := ?_) (a' := ?_) ⟨e0, e1, e2, e3, e4, e5, sx⟩ (by simp only [List.getElem?_toArray, List.getElem?_cons_succ, List.getElem?_cons_zero]; rfl) (by rfl) ?_ ?_ ?_; rotate_left 2; (rintro w' ⟨s0, s1, s2, s3, s4, s5, s6⟩; go_simp; with_reducible rfl); (simp only [Act.put, List.setIfInBounds_toArray, List.set_cons_zero, List.set_cons_succ]; rfl)) | (refine st_off (a' := ?_) (by simp only [List.getElem?_toArray, List.getElem?_cons_succ, List.getElem?_cons_zero]; rfl) (by rfl) ?_ ?_; rotate_left; (simp only [Act.put, List.setIfInBounds_toArray, List.set_cons_zero, List.set_cons_succ]; rfl)) | (refine st_hoff (a' := ?_) ⟨e0, e1, e2, e3, e4, e5, sx⟩ (by simp only [List.getElem?_toArray, List.getElem?_cons_succ, List.getElem?_cons_zero]; rfl) (by rfl) ?_ ?_; rotate_left; (simp only [Act.put, List.setIfInBounds_toArray, List.set_cons_zero, List.set_cons_succ]; rfl)))
                        refine st_one (by simp only [List.getElem?_toArray, List.getElem?_cons_succ, List.getElem?_cons_zero]; rfl) ?_
                        refine goesL_ (some 103) rfl rfl Try.func47 (by kernel_rfl) rfl #[.int .i64 x1, .int .i64 x2, .int .i64 nc] rfl (by go_simp) ?_
                        refine (head16 x1 x2 nc true HHD.out).mono ?_
                        rintro e w6 ⟨rfl, HH⟩
                        have HS6 := HS5.frame HH
                        clear HS5 HH e0 e1 e2 e3 e4 e5 sx
                        refine ⟨_, rfl, ?_⟩
                        have e0 := HS6.cell 1 0 rfl rfl
                        have e1 := HS6.cell 1 1 rfl rfl
                        have e2 := HS6.cell 1 2 rfl rfl
                        have e3 := HS6.cell 1 3 rfl rfl
                        have e4 := HS6.cell 1 4 rfl rfl
                        have e5 := HS6.cell 1 5 rfl rfl
                        have sx := HSC.out _ HS6.below
                        refine ⟨⟨e0, e1, e2, e3, e4, e5, sx⟩, ?_⟩
                        refine st_norm (a' := ?_) ?_ ?_; rotate_left; (simp only [Act.put, List.setIfInBounds_toArray, List.set_cons_zero, List.set_cons_succ]; rfl)
                        repeat (first | (refine st_free (v := ?_) (a' := ?_) (by simp only [List.getElem?_toArray, List.getElem?_cons_succ, List.getElem?_cons_zero]; rfl) (by rfl) ?_ ?_ ?_; rotate_left 2; (intro w'; go_simp; with_reducible rfl); (simp only [Act.put, List.setIfInBounds_toArray, List.set_cons_zero, List.set_cons_succ]; rfl)) | (refine st_held (v := ?_) (a' := ?_) ⟨e0, e1, e2, e3, e4, e5, sx⟩ (by simp only [List.getElem?_toArray, List.getElem?_cons_succ, List.getElem?_cons_zero]; rfl) (by rfl) ?_ ?_ ?_; rotate_left 2; (rintro w' ⟨s0, s1, s2, s3, s4, s5, s6⟩; go_simp; with_reducible rfl); (simp only [Act.put, List.setIfInBounds_toArray, List.set_cons_zero, List.set_cons_succ]; rfl)) | (refine st_off (a' := ?_) (by simp only [List.getElem?_toArray, List.getElem?_cons_succ, List.getElem?_cons_zero]; rfl) (by rfl) ?_ ?_; rotate_left; (simp only [Act.put, List.setIfInBounds_toArray, List.set_cons_zero, List.set_cons_succ]; rfl)) | (refine st_hoff (a' := ?_) ⟨e0, e1, e2, e3, e4, e5, sx⟩ (by simp only [List.getElem?_toArray, List.getElem?_cons_succ, List.getElem?_cons_zero]; rfl) (by rfl) ?_ ?_; rotate_left; (simp only [Act.put, List.setIfInBounds_toArray, List.set_cons_zero, List.set_cons_succ]; rfl)))
                        refine st_one (by simp only [List.getElem?_toArray, List.getElem?_cons_succ, List.getElem?_cons_zero]; rfl) ?_
                        refine offG (by rfl) ?_
                        refine ⟨⟨e0, e1, e2, e3, e4, e5, sx⟩, ?_⟩
                        refine st_norm (a' := ?_) ?_ ?_; rotate_left; (simp only [Act.put, List.setIfInBounds_toArray, List.set_cons_zero, List.set_cons_succ]; rfl)
                        refine st_one (by simp only [List.getElem?_toArray, List.getElem?_cons_succ, List.getElem?_cons_zero]; rfl) ?_
                        refine offG (by rfl) ?_
                        refine ⟨⟨e0, e1, e2, e3, e4, e5, sx⟩, ?_⟩
                        refine st_norm (a' := ?_) ?_ ?_; rotate_left; (simp only [Act.put, List.setIfInBounds_toArray, List.set_cons_zero, List.set_cons_succ]; rfl)
                        repeat (first | (refine st_free (v := ?_) (a' := ?_) (by simp only [List.getElem?_toArray, List.getElem?_cons_succ, List.getElem?_cons_zero]; rfl) (by rfl) ?_ ?_ ?_; rotate_left 2; (intro w'; go_simp; with_reducible rfl); (simp only [Act.put, List.setIfInBounds_toArray, List.set_cons_zero, List.set_cons_succ]; rfl)) | (refine st_held (v := ?_) (a' := ?_) ⟨e0, e1, e2, e3, e4, e5, sx⟩ (by simp only [List.getElem?_toArray, List.getElem?_cons_succ, List.getElem?_cons_zero]; rfl) (by rfl) ?_ ?_ ?_; rotate_left 2; (rintro w' ⟨s0, s1, s2, s3, s4, s5, s6⟩; go_simp; with_reducible rfl); (simp only [Act.put, List.setIfInBounds_toArray, List.set_cons_zero, List.set_cons_succ]; rfl)) | (refine st_off (a' := ?_) (by simp only [List.getElem?_toArray, List.getElem?_cons_succ, List.getElem?_cons_zero]; rfl) (by rfl) ?_ ?_; rotate_left; (simp only [Act.put, List.setIfInBounds_toArray, List.set_cons_zero, List.set_cons_succ]; rfl)) | (refine st_hoff (a' := ?_) ⟨e0, e1, e2, e3, e4, e5, sx⟩ (by simp only [List.getElem?_toArray, List.getElem?_cons_succ, List.getElem?_cons_zero]; rfl) (by rfl) ?_ ?_; rotate_left; (simp only [Act.put, List.setIfInBounds_toArray, List.set_cons_zero, List.set_cons_succ]; rfl)))
                        refine st_done ?_
                        go_wp2_with fail
                        go_meet
                        case rel => exact ⟨_, rfl, by simpa using HBAD.out, HS6⟩
                    · by_cases cfr : PW16.frameB x1 x2 nc x7 x8 (fBy xs) = xs
                      · as_aux_lemma =>
                          have hc1 : decide (x8 < 1) = false := decide_eq_false (by omega)
                          have hc2 : decide (86 < x8) = false := decide_eq_false (by omega)
                          have hc3 : decide (x8 ≤ x7) = false := decide_eq_false (by omega)
                          subst csz
                          have hlaa : ((x7 + 1) == x8) = true := by simp; omega
                          have hlab : ((x7 + 1) != x8) = false := by simp; omega
                          have hbg : decide (4096 < x7 * 48 + (m : Int)) = false := decide_eq_false (by omega)
                          have hfa : ((strOfNums (PW16.frameB x1 x2 nc x7 x8 (fBy xs))).toList == (strOfNums xs).toList) = true := by rw [str_beq HFX.out HX.out]; simp [cfr]
                          have hfb : ((strOfNums (PW16.frameB x1 x2 nc x7 x8 (fBy xs))).toList != (strOfNums xs).toList) = false := by unfold bne; rw [hfa]; rfl
                          have HBAD : Aside0 ((false = true) ↔ ¬ ReadOk xs) := Aside0.mk (by rw [HIFF.out]; simp [chd, cc1, cc2, cc3, cla, cbig, cfr])
                          have HHD := Aside0.mk chd
                          clear chd cc1 cc2 cc3 cla cbig cfr
                          refine region (frees [0, 2, 4] (helds [1, 3, 5] (.one 6 (frees [7, 8, 9] (helds [10] (frees [11, 12, 13, 14] (helds [15] (frees [16, 17, 18, 19, 21] (helds [20, 22] (frees [23, 24, 25, 26, 27, 28, 29, 30, 31, 32, 35] (helds [33] (frees [34, 36, 37, 38, 39, 40, 44] (helds [41, 45] (.one 42 (.one 43 (frees [46, 47] .done)))))))))))))))) (fun w' => w'.cell? ⟨g5, 0, none⟩ = some (.int .i64 x1) ∧ w'.cell? ⟨g5, 1, none⟩ = some (.int .i64 x2) ∧ w'.cell? ⟨g5, 2, none⟩ = some (.int .i64 nc) ∧ w'.cell? ⟨g5, 3, none⟩ = some (.int .i64 x7) ∧ w'.cell? ⟨g5, 4, none⟩ = some (.int .i64 x8) ∧ w'.cell? ⟨g5, 5, none⟩ = some (.slice A1 m c1) ∧ (convert 22 9 (.slice (some ⟨b, o, none⟩) len c)).run Try.prog w' = .ok (.string (strOfNums xs)) w') [] (by kernel_rfl) (by kernel_rfl) ?_
                          have HS5 := HS4.drew
                          clear HS4 e0 e1 e2 e3 e4 e5
                          generalize w5.drew = wb at HS5 ⊢
                          have e0 := HS5.cell 1 0 rfl rfl
                          have e1 := HS5.cell 1 1 rfl rfl
                          have e2 := HS5.cell 1 2 rfl rfl
                          have e3 := HS5.cell 1 3 rfl rfl
                          have e4 := HS5.cell 1 4 rfl rfl
                          have e5 := HS5.cell 1 5 rfl rfl
                          have sx := HSC.out _ HS5.below
                          repeat (first | (refine st_free (v := ?_) (a' := ?_) (by simp only [List.getElem?_toArray, List.getElem?_cons_succ, List.getElem?_cons_zero]; rfl) (by rfl) ?_ ?_ ?_; rotate_left 2; (intro w'; go_simp; with_reducible rfl); (simp only [Act.put, List.setIfInBounds_toArray, List.set_cons_zero, List.set_cons_succ]; rfl)) | (refine st_held (v := ?_) (a' := ?_) ⟨e0, e1, e2, e3, e4, e5, sx⟩ (by simp only [List.getElem?_toArray, List.getElem?_cons_succ, List.getElem?_cons_zero]; rfl) (by rfl) ?_ ?_ ?_; rotate_left 2; (rintro w' ⟨s0, s1, s2, s3, s4, s5, s6⟩; go_simp; with_reducible rfl); (simp only [Act.put, List.setIfInBounds_toArray, List.set_cons_zero, List.set_cons_succ]; rfl)) | (refine st_off (a' := ?_) (by simp only [List.getElem?_toArray, List.getElem?_cons_succ, List.getElem?_cons_zero]; rfl) (by rfl) ?_ ?_; rotate_left; (simp only [Act.put, List.setIfInBounds_toArray, List.set_cons_zero, List.set_cons_succ]; rfl)) | (refine st_hoff (a' := ?_) ⟨e0, e1, e2, e3, e4, e5, sx⟩ (by simp only [List.getElem?_toArray, List.getElem?_cons_succ, List.getElem?_cons_zero]; rfl) (by rfl) ?_ ?_; rotate_left; (simp only [Act.put, List.setIfInBounds_toArray, List.set_cons_zero, List.set_cons_succ]; rfl)))
                          refine st_one (by simp only [List.getElem?_toArray, List.getElem?_cons_succ, List.getElem?_cons_zero]; rfl) ?_
                          refine goesL_ (some 103) rfl rfl Try.func47 (by kernel_rfl) rfl #[.int .i64 x1, .int .i64 x2, .int .i64 nc] rfl (by go_simp) ?_
                          refine (head16 x1 x2 nc true HHD.out).mono ?_
                          rintro e w6 ⟨rfl, HH⟩
                          have HS6 := HS5.frame HH
                          clear HS5 HH e0 e1 e2 e3 e4 e5 sx
                          refine ⟨_, rfl, ?_⟩
                          have e0 := HS6.cell 1 0 rfl rfl
                          have e1 := HS6.cell 1 1 rfl rfl
                          have e2 := HS6.cell 1 2 rfl rfl
                          have e3 := HS6.cell 1 3 rfl rfl
                          have e4 := HS6.cell 1 4 rfl rfl
                          have e5 := HS6.cell 1 5 rfl rfl
                          have sx := HSC.out _ HS6.below
                          refine ⟨⟨e0, e1, e2, e3, e4, e5, sx⟩, ?_⟩
                          refine st_norm (a' := ?_) ?_ ?_; rotate_left; (simp only [Act.put, List.setIfInBounds_toArray, List.set_cons_zero, List.set_cons_succ]; rfl)
                          repeat (first | (refine st_free (v := ?_) (a' := ?_) (by simp only [List.getElem?_toArray, List.getElem?_cons_succ, List.getElem?_cons_zero]; rfl) (by rfl) ?_ ?_ ?_; rotate_left 2; (intro w'; go_simp; with_reducible rfl); (simp only [Act.put, List.setIfInBounds_toArray, List.set_cons_zero, List.set_cons_succ]; rfl)) | (refine st_held (v := ?_) (a' := ?_) ⟨e0, e1, e2, e3, e4, e5, sx⟩ (by simp only [List.getElem?_toArray, List.getElem?_cons_succ, List.getElem?_cons_zero]; rfl) (by rfl) ?_ ?_ ?_; rotate_left 2; (rintro w' ⟨s0, s1, s2, s3, s4, s5, s6⟩; go_simp; with_reducible rfl); (simp only [Act.put, List.setIfInBounds_toArray, List.set_cons_zero, List.set_cons_succ]; rfl)) | (refine st_off (a' := ?_) (by simp only [List.getElem?_toArray, List.getElem?_cons_succ, List.getElem?_cons_zero]; rfl) (by rfl) ?_ ?_; rotate_left; (simp only [Act.put, List.setIfInBounds_toArray, List.set_cons_zero, List.set_cons_succ]; rfl)) | (refine st_hoff (a' := ?_) ⟨e0, e1, e2, e3, e4, e5, sx⟩ (by simp only [List.getElem?_toArray, List.getElem?_cons_succ, List.getElem?_cons_zero]; rfl) (by rfl) ?_ ?_; rotate_left; (simp only [Act.put, List.setIfInBounds_toArray, List.set_cons_zero, List.set_cons_succ]; rfl)))
                          refine st_one (by simp only [List.getElem?_toArray, List.getElem?_cons_succ, List.getElem?_cons_zero]; rfl) ?_
                          refine goesG (some 139) rfl (by rfl) Try.func48 (by kernel_rfl) rfl #[.agg #[.int .i64 x1, .int .i64 x2, .int .i64 nc, .int .i64 x7, .int .i64 x8, .slice A1 m c1]] rfl (by go_simp) ?_
                          refine (frame16 x1 x2 nc x7 x8 A1 m c1 (fBy xs) (by have := HS6.readsRow 0 rfl; rw [← HML.out] at this; exact this.2.2) (HS6.readsRow 0 rfl).2.1 HFL.out).mono ?_
                          rintro e w7 ⟨v, rfl, HH⟩
                          have HS7 := HS6.frame HH
                          clear HS6 HH e0 e1 e2 e3 e4 e5 sx
                          obtain ⟨A2, c2, rfl⟩ := HS7.rowShape 0 rfl
                          refine ⟨_, rfl, ?_⟩
                          have e0 := HS7.cell 2 0 rfl rfl
                          have e1 := HS7.cell 2 1 rfl rfl
                          have e2 := HS7.cell 2 2 rfl rfl
                          have e3 := HS7.cell 2 3 rfl rfl
                          have e4 := HS7.cell 2 4 rfl rfl
                          have e5 := HS7.cell 2 5 rfl rfl
                          have sx := HSC.out _ HS7.below
                          have sy := Kd.C_string (P := Try.prog) (src := 22) (dst := 9) (c := c2) Try.underlying22 Try.underlying5 Try.underlying9 (HS7.readsRow 0 rfl).2.2
                          refine ⟨⟨e0, e1, e2, e3, e4, e5, sx⟩, ?_⟩
                          refine st_norm (a' := ?_) ?_ ?_; rotate_left; (simp only [Act.put, List.setIfInBounds_toArray, List.set_cons_zero, List.set_cons_succ]; rfl)
                          refine st_one (by simp only [List.getElem?_toArray, List.getElem?_cons_succ, List.getElem?_cons_zero]; rfl) ?_
                          refine valG (v := .string (strOfNums (PW16.frameB x1 x2 nc x7 x8 (fBy xs)))) (w' := w7) (by rfl) (by go_simp) ?_
                          refine ⟨⟨e0, e1, e2, e3, e4, e5, sx⟩, ?_⟩
                          refine st_norm (a' := ?_) ?_ ?_; rotate_left; (simp only [Act.put, List.setIfInBounds_toArray, List.set_cons_zero, List.set_cons_succ]; rfl)
                          repeat (first | (refine st_free (v := ?_) (a' := ?_) (by simp only [List.getElem?_toArray, List.getElem?_cons_succ, List.getElem?_cons_zero]; rfl) (by rfl) ?_ ?_ ?_; rotate_left 2; (intro w'; go_simp; with_reducible rfl); (simp only [Act.put, List.setIfInBounds_toArray, List.set_cons_zero, List.set_cons_succ]; rfl)) | (refine st_held (v := ?_) (a' := ?_) ⟨e0, e1, e2, e3, e4, e5, sx⟩ (by simp only [List.getElem?_toArray, List.getElem?_cons_succ, List.getElem?_cons_zero]; rfl) (by rfl) ?_ ?_ ?_; rotate_left 2; (rintro w' ⟨s0, s1, s2, s3, s4, s5, s6⟩; go_simp; with_reducible rfl); (simp only [Act.put, List.setIfInBounds_toArray, List.set_cons_zero, List.set_cons_succ]; rfl)) | (refine st_off (a' := ?_) (by simp only [List.getElem?_toArray, List.getElem?_cons_succ, List.getElem?_cons_zero]; rfl) (by rfl) ?_ ?_; rotate_left; (simp only [Act.put, List.setIfInBounds_toArray, List.set_cons_zero, List.set_cons_succ]; rfl)) | (refine st_hoff (a' := ?_) ⟨e0, e1, e2, e3, e4, e5, sx⟩ (by simp only [List.getElem?_toArray, List.getElem?_cons_succ, List.getElem?_cons_zero]; rfl) (by rfl) ?_ ?_; rotate_left; (simp only [Act.put, List.setIfInBounds_toArray, List.set_cons_zero, List.set_cons_succ]; rfl)))
                          refine st_done ?_
                          go_wp2_with fail
                          go_meet
                          case rel => exact ⟨_, rfl, by simpa using HBAD.out, HS7.tail⟩
                      · as_aux_lemma =>
                          have hc1 : decide (x8 < 1) = false := decide_eq_false (by omega)
                          have hc2 : decide (86 < x8) = false := decide_eq_false (by omega)
                          have hc3 : decide (x8 ≤ x7) = false := decide_eq_false (by omega)
                          subst csz
                          have hlaa : ((x7 + 1) == x8) = true := by simp; omega
                          have hlab : ((x7 + 1) != x8) = false := by simp; omega
                          have hbg : decide (4096 < x7 * 48 + (m : Int)) = false := decide_eq_false (by omega)
                          have hfa : ((strOfNums (PW16.frameB x1 x2 nc x7 x8 (fBy xs))).toList == (strOfNums xs).toList) = false := by rw [str_beq HFX.out HX.out]; simp [cfr]
                          have hfb : ((strOfNums (PW16.frameB x1 x2 nc x7 x8 (fBy xs))).toList != (strOfNums xs).toList) = true := by unfold bne; rw [hfa]; rfl
                          have HBAD : Aside0 ((true = true) ↔ ¬ ReadOk xs) := Aside0.mk (by rw [HIFF.out]; simp [chd, cc1, cc2, cc3, cla, cbig, cfr])
                          have HHD := Aside0.mk chd
                          clear chd cc1 cc2 cc3 cla cbig cfr
                          refine region (frees [0, 2, 4] (helds [1, 3, 5] (.one 6 (frees [7, 8, 9] (helds [10] (frees [11, 12, 13, 14] (helds [15] (frees [16, 17, 18, 19, 21] (helds [20, 22] (frees [23, 24, 25, 26, 27, 28, 29, 30, 31, 32, 35] (helds [33] (frees [34, 36, 37, 38, 39, 40, 44] (helds [41, 45] (.one 42 (.one 43 (frees [46, 47] .done)))))))))))))))) (fun w' => w'.cell? ⟨g5, 0, none⟩ = some (.int .i64 x1) ∧ w'.cell? ⟨g5, 1, none⟩ = some (.int .i64 x2) ∧ w'.cell? ⟨g5, 2, none⟩ = some (.int .i64 nc) ∧ w'.cell? ⟨g5, 3, none⟩ = some (.int .i64 x7) ∧ w'.cell? ⟨g5, 4, none⟩ = some (.int .i64 x8) ∧ w'.cell? ⟨g5, 5, none⟩ = some (.slice A1 m c1) ∧ (convert 22 9 (.slice (some ⟨b, o, none⟩) len c)).run Try.prog w' = .ok (.string (strOfNums xs)) w') [] (by kernel_rfl) (by kernel_rfl) ?_
                          have HS5 := HS4.drew
                          clear HS4 e0 e1 e2 e3 e4 e5
                          generalize w5.drew = wb at HS5 ⊢
                          have e0 := HS5.cell 1 0 rfl rfl
                          have e1 := HS5.cell 1 1 rfl rfl
                          have e2 := HS5.cell 1 2 rfl rfl
                          have e3 := HS5.cell 1 3 rfl rfl
                          have e4 := HS5.cell 1 4 rfl rfl
                          have e5 := HS5.cell 1 5 rfl rfl
                          have sx := HSC.out _ HS5.below
                          repeat (first | (refine st_free (v := ?_) (a' := ?_) (by simp only [List.getElem?_toArray, List.getElem?_cons_succ, List.getElem?_cons_zero]; rfl) (by rfl) ?_ ?_ ?_; rotate_left 2; (intro w'; go_simp; with_reducible rfl); (simp only [Act.put, List.setIfInBounds_toArray, List.set_cons_zero, List.set_cons_succ]; rfl)) | (refine st_held (v := ?_) (a' := ?_) ⟨e0, e1, e2, e3, e4, e5, sx⟩ (by simp only [List.getElem?_toArray, List.getElem?_cons_succ, List.getElem?_cons_zero]; rfl) (by rfl) ?_ ?_ ?_; rotate_left 2; (rintro w' ⟨s0, s1, s2, s3, s4, s5, s6⟩; go_simp; with_reducible rfl); (simp only [Act.put, List.setIfInBounds_toArray, List.set_cons_zero, List.set_cons_succ]; rfl)) | (refine st_off (a' := ?_) (by simp only [List.getElem?_toArray, List.getElem?_cons_succ, List.getElem?_cons_zero]; rfl) (by rfl) ?_ ?_; rotate_left; (simp only [Act.put, List.setIfInBounds_toArray, List.set_cons_zero, List.set_cons_succ]; rfl)) | (refine st_hoff (a' := ?_) ⟨e0, e1, e2, e3, e4, e5, sx⟩ (by simp only [List.getElem?_toArray, List.getElem?_cons_succ, List.getElem?_cons_zero]; rfl) (by rfl) ?_ ?_; rotate_left; (simp only [Act.put, List.setIfInBounds_toArray, List.set_cons_zero, List.set_cons_succ]; rfl)))
                          refine st_one (by simp only [List.getElem?_toArray, List.getElem?_cons_succ, List.getElem?_cons_zero]; rfl) ?_
                          refine goesL_ (some 103) rfl rfl Try.func47 (by kernel_rfl) rfl #[.int .i64 x1, .int .i64 x2, .int .i64 nc] rfl (by go_simp) ?_
                          refine (head16 x1 x2 nc true HHD.out).mono ?_
                          rintro e w6 ⟨rfl, HH⟩
                          have HS6 := HS5.frame HH
                          clear HS5 HH e0 e1 e2 e3 e4 e5 sx
                          refine ⟨_, rfl, ?_⟩
                          have e0 := HS6.cell 1 0 rfl rfl
                          have e1 := HS6.cell 1 1 rfl rfl
                          have e2 := HS6.cell 1 2 rfl rfl
                          have e3 := HS6.cell 1 3 rfl rfl
                          have e4 := HS6.cell 1 4 rfl rfl
                          have e5 := HS6.cell 1 5 rfl rfl
                          have sx := HSC.out _ HS6.below
                          refine ⟨⟨e0, e1, e2, e3, e4, e5, sx⟩, ?_⟩
                          refine st_norm (a' := ?_) ?_ ?_; rotate_left; (simp only [Act.put, List.setIfInBounds_toArray, List.set_cons_zero, List.set_cons_succ]; rfl)
                          repeat (first | (refine st_free (v := ?_) (a' := ?_) (by simp only [List.getElem?_toArray, List.getElem?_cons_succ, List.getElem?_cons_zero]; rfl) (by rfl) ?_ ?_ ?_; rotate_left 2; (intro w'; go_simp; with_reducible rfl); (simp only [Act.put, List.setIfInBounds_toArray, List.set_cons_zero, List.set_cons_succ]; rfl)) | (refine st_held (v := ?_) (a' := ?_) ⟨e0, e1, e2, e3, e4, e5, sx⟩ (by simp only [List.getElem?_toArray, List.getElem?_cons_succ, List.getElem?_cons_zero]; rfl) (by rfl) ?_ ?_ ?_; rotate_left 2; (rintro w' ⟨s0, s1, s2, s3, s4, s5, s6⟩; go_simp; with_reducible rfl); (simp only [Act.put, List.setIfInBounds_toArray, List.set_cons_zero, List.set_cons_succ]; rfl)) | (refine st_off (a' := ?_) (by simp only [List.getElem?_toArray, List.getElem?_cons_succ, List.getElem?_cons_zero]; rfl) (by rfl) ?_ ?_; rotate_left; (simp only [Act.put, List.setIfInBounds_toArray, List.set_cons_zero, List.set_cons_succ]; rfl)) | (refine st_hoff (a' := ?_) ⟨e0, e1, e2, e3, e4, e5, sx⟩ (by simp only [List.getElem?_toArray, List.getElem?_cons_succ, List.getElem?_cons_zero]; rfl) (by rfl) ?_ ?_; rotate_left; (simp only [Act.put, List.setIfInBounds_toArray, List.set_cons_zero, List.set_cons_succ]; rfl)))
                          refine st_one (by simp only [List.getElem?_toArray, List.getElem?_cons_succ, List.getElem?_cons_zero]; rfl) ?_
                          refine goesG (some 139) rfl (by rfl) Try.func48 (by kernel_rfl) rfl #[.agg #[.int .i64 x1, .int .i64 x2, .int .i64 nc, .int .i64 x7, .int .i64 x8, .slice A1 m c1]] rfl (by go_simp) ?_
                          refine (frame16 x1 x2 nc x7 x8 A1 m c1 (fBy xs) (by have := HS6.readsRow 0 rfl; rw [← HML.out] at this; exact this.2.2) (HS6.readsRow 0 rfl).2.1 HFL.out).mono ?_
                          rintro e w7 ⟨v, rfl, HH⟩
                          have HS7 := HS6.frame HH
                          clear HS6 HH e0 e1 e2 e3 e4 e5 sx
                          obtain ⟨A2, c2, rfl⟩ := HS7.rowShape 0 rfl
                          refine ⟨_, rfl, ?_⟩
                          have e0 := HS7.cell 2 0 rfl rfl
                          have e1 := HS7.cell 2 1 rfl rfl
                          have e2 := HS7.cell 2 2 rfl rfl
                          have e3 := HS7.cell 2 3 rfl rfl
                          have e4 := HS7.cell 2 4 rfl rfl
                          have e5 := HS7.cell 2 5 rfl rfl
                          have sx := HSC.out _ HS7.below
                          have sy := Kd.C_string (P := Try.prog) (src := 22) (dst := 9) (c := c2) Try.underlying22 Try.underlying5 Try.underlying9 (HS7.readsRow 0 rfl).2.2
                          refine ⟨⟨e0, e1, e2, e3, e4, e5, sx⟩, ?_⟩
                          refine st_norm (a' := ?_) ?_ ?_; rotate_left; (simp only [Act.put, List.setIfInBounds_toArray, List.set_cons_zero, List.set_cons_succ]; rfl)
                          refine st_one (by simp only [List.getElem?_toArray, List.getElem?_cons_succ, List.getElem?_cons_zero]; rfl) ?_
                          refine valG (v := .string (strOfNums (PW16.frameB x1 x2 nc x7 x8 (fBy xs)))) (w' := w7) (by rfl) (by go_simp) ?_
                          refine ⟨⟨e0, e1, e2, e3, e4, e5, sx⟩, ?_⟩
                          refine st_norm (a' := ?_) ?_ ?_; rotate_left; (simp only [Act.put, List.setIfInBounds_toArray, List.set_cons_zero, List.set_cons_succ]; rfl)
                          repeat (first | (refine st_free (v := ?_) (a' := ?_) (by simp only [List.getElem?_toArray, List.getElem?_cons_succ, List.getElem?_cons_zero]; rfl) (by rfl) ?_ ?_ ?_; rotate_left 2; (intro w'; go_simp; with_reducible rfl); (simp only [Act.put, List.setIfInBounds_toArray, List.set_cons_zero, List.set_cons_succ]; rfl)) | (refine st_held (v := ?_) (a' := ?_) ⟨e0, e1, e2, e3, e4, e5, sx⟩ (by simp only [List.getElem?_toArray, List.getElem?_cons_succ, List.getElem?_cons_zero]; rfl) (by rfl) ?_ ?_ ?_; rotate_left 2; (rintro w' ⟨s0, s1, s2, s3, s4, s5, s6⟩; go_simp; with_reducible rfl); (simp only [Act.put, List.setIfInBounds_toArray, List.set_cons_zero, List.set_cons_succ]; rfl)) | (refine st_off (a' := ?_) (by simp only [List.getElem?_toArray, List.getElem?_cons_succ, List.getElem?_cons_zero]; rfl) (by rfl) ?_ ?_; rotate_left; (simp only [Act.put, List.setIfInBounds_toArray, List.set_cons_zero, List.set_cons_succ]; rfl)) | (refine st_hoff (a' := ?_) ⟨e0, e1, e2, e3, e4, e5, sx⟩ (by simp only [List.getElem?_toArray, List.getElem?_cons_succ, List.getElem?_cons_zero]; rfl) (by rfl) ?_ ?_; rotate_left; (simp only [Act.put, List.setIfInBounds_toArray, List.set_cons_zero, List.set_cons_succ]; rfl)))
                          refine st_done ?_
                          go_wp2_with fail
                          go_meet
                          case rel => exact ⟨_, rfl, by simpa using HBAD.out, HS7.tail⟩
                  · by_cases cfr : PW16.frameB x1 x2 nc x7 x8 (fBy xs) = xs
                    · as_aux_lemma =>
                        have hc1 : decide (x8 < 1) = false := decide_eq_false (by omega)
                        have hc2 : decide (86 < x8) = false := decide_eq_false (by omega)
                        have hc3 : decide (x8 ≤ x7) = false := decide_eq_false (by omega)
                        subst csz
                        have hlaa : ((x7 + 1) == x8) = false := by simp; omega
                        have hlab : ((x7 + 1) != x8) = true := by simp; omega
                        have hfa : ((strOfNums (PW16.frameB x1 x2 nc x7 x8 (fBy xs))).toList == (strOfNums xs).toList) = true := by rw [str_beq HFX.out HX.out]; simp [cfr]
                        have hfb : ((strOfNums (PW16.frameB x1 x2 nc x7 x8 (fBy xs))).toList != (strOfNums xs).toList) = false := by unfold bne; rw [hfa]; rfl
                        have HBAD : Aside0 ((false = true) ↔ ¬ ReadOk xs) := Aside0.mk (by rw [HIFF.out]; simp [chd, cc1, cc2, cc3, cla, cfr])
                        have HHD := Aside0.mk chd
                        clear chd cc1 cc2 cc3 cla cfr
                        refine region (frees [0, 2, 4] (helds [1, 3, 5] (.one 6 (frees [7, 8, 9] (helds [10] (frees [11, 12, 13, 14] (helds [15] (frees [16, 17, 18, 19, 21] (helds [20, 22] (frees [23, 24, 25, 26, 27, 28, 29, 30, 31, 32, 35] (helds [33] (frees [34, 36, 37, 38, 39, 40, 44] (helds [41, 45] (.one 42 (.one 43 (frees [46, 47] .done)))))))))))))))) (fun w' => w'.cell? ⟨g5, 0, none⟩ = some (.int .i64 x1) ∧ w'.cell? ⟨g5, 1, none⟩ = some (.int .i64 x2) ∧ w'.cell? ⟨g5, 2, none⟩ = some (.int .i64 nc) ∧ w'.cell? ⟨g5, 3, none⟩ = some (.int .i64 x7) ∧ w'.cell? ⟨g5, 4, none⟩ = some (.int .i64 x8) ∧ w'.cell? ⟨g5, 5, none⟩ = some (.slice A1 m c1) ∧ (convert 22 9 (.slice (some ⟨b, o, none⟩) len c)).run Try.prog w' = .ok (.string (strOfNums xs)) w') [] (by kernel_rfl) (by kernel_rfl) ?_
                        have HS5 := HS4.drew
                        clear HS4 e0 e1 e2 e3 e4 e5
                        generalize w5.drew = wb at HS5 ⊢
                        have e0 := HS5.cell 1 0 rfl rfl
                        have e1 := HS5.cell 1 1 rfl rfl
                        have e2 := HS5.cell 1 2 rfl rfl
                        have e3 := HS5.cell 1 3 rfl rfl
                        have e4 := HS5.cell 1 4 rfl rfl
                        have e5 := HS5.cell 1 5 rfl rfl
                        have sx := HSC.out _ HS5.below
                        repeat (first | (refine st_free (v := ?_) (a' := ?_) (by simp only [List.getElem?_toArray, List.getElem?_cons_succ, List.getElem?_cons_zero]; rfl) (by rfl) ?_ ?_ ?_; rotate_left 2; (intro w'; go_simp; with_reducible rfl); (simp only [Act.put, List.setIfInBounds_toArray, List.set_cons_zero, List.set_cons_succ]; rfl)) | (refine st_held (v := ?_) (a' := ?_) ⟨e0, e1, e2, e3, e4, e5, sx⟩ (by simp only [List.getElem?_toArray, List.getElem?_cons_succ, List.getElem?_cons_zero]; rfl) (by rfl) ?_ ?_ ?_; rotate_left 2; (rintro w' ⟨s0, s1, s2, s3, s4, s5, s6⟩; go_simp; with_reducible rfl); (simp only [Act.put, List.setIfInBounds_toArray, List.set_cons_zero, List.set_cons_succ]; rfl)) | (refine st_off (a' := ?_) (by simp only [List.getElem?_toArray, List.getElem?_cons_succ, List.getElem?_cons_zero]; rfl) (by rfl) ?_ ?_; rotate_left; (simp only [Act.put, List.setIfInBounds_toArray, List.set_cons_zero, List.set_cons_succ]; rfl)) | (refine st_hoff (a' := ?_) ⟨e0, e1, e2, e3, e4, e5, sx⟩ (by simp only [List.getElem?_toArray, List.getElem?_cons_succ, List.getElem?_cons_zero]; rfl) (by rfl) ?_ ?_; rotate_left; (simp only [Act.put, List.setIfInBounds_toArray, List.set_cons_zero, List.set_cons_succ]; rfl)))
                        refine st_one (by simp only [List.getElem?_toArray, List.getElem?_cons_succ, List.getElem?_cons_zero]; rfl) ?_
                        refine goesL_ (some 103) rfl rfl Try.func47 (by kernel_rfl) rfl #[.int .i64 x1, .int .i64 x2, .int .i64 nc] rfl (by go_simp) ?_
                        refine (head16 x1 x2 nc true HHD.out).mono ?_
                        rintro e w6 ⟨rfl, HH⟩
                        have HS6 := HS5.frame HH
                        clear HS5 HH e0 e1 e2 e3 e4 e5 sx
                        refine ⟨_, rfl, ?_⟩
                        have e0 := HS6.cell 1 0 rfl rfl
                        have e1 := HS6.cell 1 1 rfl rfl
                        have e2 := HS6.cell 1 2 rfl rfl
                        have e3 := HS6.cell 1 3 rfl rfl
                        have e4 := HS6.cell 1 4 rfl rfl
                        have e5 := HS6.cell 1 5 rfl rfl
                        have sx := HSC.out _ HS6.below
                        refine ⟨⟨e0, e1, e2, e3, e4, e5, sx⟩, ?_⟩
                        refine st_norm (a' := ?_) ?_ ?_; rotate_left; (simp only [Act.put, List.setIfInBounds_toArray, List.set_cons_zero, List.set_cons_succ]; rfl)
                        repeat (first | (refine st_free (v := ?_) (a' := ?_) (by simp only [List.getElem?_toArray, List.getElem?_cons_succ, List.getElem?_cons_zero]; rfl) (by rfl) ?_ ?_ ?_; rotate_left 2; (intro w'; go_simp; with_reducible rfl); (simp only [Act.put, List.setIfInBounds_toArray, List.set_cons_zero, List.set_cons_succ]; rfl)) | (refine st_held (v := ?_) (a' := ?_) ⟨e0, e1, e2, e3, e4, e5, sx⟩ (by simp only [List.getElem?_toArray, List.getElem?_cons_succ, List.getElem?_cons_zero]; rfl) (by rfl) ?_ ?_ ?_; rotate_left 2; (rintro w' ⟨s0, s1, s2, s3, s4, s5, s6⟩; go_simp; with_reducible rfl); (simp only [Act.put, List.setIfInBounds_toArray, List.set_cons_zero, List.set_cons_succ]; rfl)) | (refine st_off (a' := ?_) (by simp only [List.getElem?_toArray, List.getElem?_cons_succ, List.getElem?_cons_zero]; rfl) (by rfl) ?_ ?_; rotate_left; (simp only [Act.put, List.setIfInBounds_toArray, List.set_cons_zero, List.set_cons_succ]; rfl)) | (refine st_hoff (a' := ?_) ⟨e0, e1, e2, e3, e4, e5, sx⟩ (by simp only [List.getElem?_toArray, List.getElem?_cons_succ, List.getElem?_cons_zero]; rfl) (by rfl) ?_ ?_; rotate_left; (simp only [Act.put, List.setIfInBounds_toArray, List.set_cons_zero, List.set_cons_succ]; rfl)))
                        refine st_one (by simp only [List.getElem?_toArray, List.getElem?_cons_succ, List.getElem?_cons_zero]; rfl) ?_
                        refine goesG (some 139) rfl (by rfl) Try.func48 (by kernel_rfl) rfl #[.agg #[.int .i64 x1, .int .i64 x2, .int .i64 nc, .int .i64 x7, .int .i64 x8, .slice A1 m c1]] rfl (by go_simp) ?_
                        refine (frame16 x1 x2 nc x7 x8 A1 m c1 (fBy xs) (by have := HS6.readsRow 0 rfl; rw [← HML.out] at this; exact this.2.2) (HS6.readsRow 0 rfl).2.1 HFL.out).mono ?_
                        rintro e w7 ⟨v, rfl, HH⟩
                        have HS7 := HS6.frame HH
                        clear HS6 HH e0 e1 e2 e3 e4 e5 sx
                        obtain ⟨A2, c2, rfl⟩ := HS7.rowShape 0 rfl
                        refine ⟨_, rfl, ?_⟩
                        have e0 := HS7.cell 2 0 rfl rfl
                        have e1 := HS7.cell 2 1 rfl rfl
                        have e2 := HS7.cell 2 2 rfl rfl
                        have e3 := HS7.cell 2 3 rfl rfl
                        have e4 := HS7.cell 2 4 rfl rfl
                        have e5 := HS7.cell 2 5 rfl rfl
                        have sx := HSC.out _ HS7.below
                        have sy := Kd.C_string (P := Try.prog) (src := 22) (dst := 9) (c := c2) Try.underlying22 Try.underlying5 Try.underlying9 (HS7.readsRow 0 rfl).2.2
                        refine ⟨⟨e0, e1, e2, e3, e4, e5, sx⟩, ?_⟩
                        refine st_norm (a' := ?_) ?_ ?_; rotate_left; (simp only [Act.put, List.setIfInBounds_toArray, List.set_cons_zero, List.set_cons_succ]; rfl)
                        refine st_one (by simp only [List.getElem?_toArray, List.getElem?_cons_succ, List.getElem?_cons_zero]; rfl) ?_
                        refine valG (v := .string (strOfNums (PW16.frameB x1 x2 nc x7 x8 (fBy xs)))) (w' := w7) (by rfl) (by go_simp) ?_
                        refine ⟨⟨e0, e1, e2, e3, e4, e5, sx⟩, ?_⟩
                        refine st_norm (a' := ?_) ?_ ?_; rotate_left; (simp only [Act.put, List.setIfInBounds_toArray, List.set_cons_zero, List.set_cons_succ]; rfl)
                        repeat (first | (refine st_free (v := ?_) (a' := ?_) (by simp only [List.getElem?_toArray, List.getElem?_cons_succ, List.getElem?_cons_zero]; rfl) (by rfl) ?_ ?_ ?_; rotate_left 2; (intro w'; go_simp; with_reducible rfl); (simp only [Act.put, List.setIfInBounds_toArray, List.set_cons_zero, List.set_cons_succ]; rfl)) | (refine st_held (v := ?_) (a' := ?_) ⟨e0, e1, e2, e3, e4, e5, sx⟩ (by simp only [List.getElem?_toArray, List.getElem?_cons_succ, List.getElem?_cons_zero]; rfl) (by rfl) ?_ ?_ ?_; rotate_left 2; (rintro w' ⟨s0, s1, s2, s3, s4, s5, s6⟩; go_simp; with_reducible rfl); (simp only [Act.put, List.setIfInBounds_toArray, List.set_cons_zero, List.set_cons_succ]; rfl)) | (refine st_off (a' := ?_) (by simp only [List.getElem?_toArray, List.getElem?_cons_succ, List.getElem?_cons_zero]; rfl) (by rfl) ?_ ?_; rotate_left; (simp only [Act.put, List.setIfInBounds_toArray, List.set_cons_zero, List.set_cons_succ]; rfl)) | (refine st_hoff (a' := ?_) ⟨e0, e1, e2, e3, e4, e5, sx⟩ (by simp only [List.getElem?_toArray, List.getElem?_cons_succ, List.getElem?_cons_zero]; rfl) (by rfl) ?_ ?_; rotate_left; (simp only [Act.put, List.setIfInBounds_toArray, List.set_cons_zero, List.set_cons_succ]; rfl)))
                        refine st_done ?_
                        go_wp2_with fail
                        go_meet
                        case rel => exact ⟨_, rfl, by simpa using HBAD.out, HS7.tail⟩
                    · as_aux_lemma =>
                        have hc1 : decide (x8 < 1) = false := decide_eq_false (by omega)
                        have hc2 : decide (86 < x8) = false := decide_eq_false (by omega)
                        have hc3 : decide (x8 ≤ x7) = false := decide_eq_false (by omega)
                        subst csz
                        have hlaa : ((x7 + 1) == x8) = false := by simp; omega
                        have hlab : ((x7 + 1) != x8) = true := by simp; omega
                        have hfa : ((strOfNums (PW16.frameB x1 x2 nc x7 x8 (fBy xs))).toList == (strOfNums xs).toList) = false := by rw [str_beq HFX.out HX.out]; simp [cfr]
                        have hfb : ((strOfNums (PW16.frameB x1 x2 nc x7 x8 (fBy xs))).toList != (strOfNums xs).toList) = true := by unfold bne; rw [hfa]; rfl
                        have HBAD : Aside0 ((true = true) ↔ ¬ ReadOk xs) := Aside0.mk (by rw [HIFF.out]; simp [chd, cc1, cc2, cc3, cla, cfr])
                        have HHD := Aside0.mk chd
                        clear chd cc1 cc2 cc3 cla cfr
                        refine region (frees [0, 2, 4] (helds [1, 3, 5] (.one 6 (frees [7, 8, 9] (helds [10] (frees [11, 12, 13, 14] (helds [15] (frees [16, 17, 18, 19, 21] (helds [20, 22] (frees [23, 24, 25, 26, 27, 28, 29, 30, 31, 32, 35] (helds [33] (frees [34, 36, 37, 38, 39, 40, 44] (helds [41, 45] (.one 42 (.one 43 (frees [46, 47] .done)))))))))))))))) (fun w' => w'.cell? ⟨g5, 0, none⟩ = some (.int .i64 x1) ∧ w'.cell? ⟨g5, 1, none⟩ = some (.int .i64 x2) ∧ w'.cell? ⟨g5, 2, none⟩ = some (.int .i64 nc) ∧ w'.cell? ⟨g5, 3, none⟩ = some (.int .i64 x7) ∧ w'.cell? ⟨g5, 4, none⟩ = some (.int .i64 x8) ∧ w'.cell? ⟨g5, 5, none⟩ = some (.slice A1 m c1) ∧ (convert 22 9 (.slice (some ⟨b, o, none⟩) len c)).run Try.prog w' = .ok (.string (strOfNums xs)) w') [] (by kernel_rfl) (by kernel_rfl) ?_
                        have HS5 := HS4.drew
                        clear HS4 e0 e1 e2 e3 e4 e5
                        generalize w5.drew = wb at HS5 ⊢
                        have e0 := HS5.cell 1 0 rfl rfl
                        have e1 := HS5.cell 1 1 rfl rfl
                        have e2 := HS5.cell 1 2 rfl rfl
                        have e3 := HS5.cell 1 3 rfl rfl
                        have e4 := HS5.cell 1 4 rfl rfl
                        have e5 := HS5.cell 1 5 rfl rfl
                        have sx := HSC.out _ HS5.below
                        repeat (first | (refine st_free (v := ?_) (a' := ?_) (by simp only [List.getElem?_toArray, List.getElem?_cons_succ, List.getElem?_cons_zero]; rfl) (by rfl) ?_ ?_ ?_; rotate_left 2; (intro w'; go_simp; with_reducible rfl); (simp only [Act.put, List.setIfInBounds_toArray, List.set_cons_zero, List.set_cons_succ]; rfl)) | (refine st_held (v := ?_) (a' := ?_) ⟨e0, e1, e2, e3, e4, e5, sx⟩ (by simp only [List.getElem?_toArray, List.getElem?_cons_succ, List.getElem?_cons_zero]; rfl) (by rfl) ?_ ?_ ?_; rotate_left 2; (rintro w' ⟨s0, s1, s2, s3, s4, s5, s6⟩; go_simp; with_reducible rfl); (simp only [Act.put, List.setIfInBounds_toArray, List.set_cons_zero, List.set_cons_succ]; rfl)) | (refine st_off (a' := ?_) (by simp only [List.getElem?_toArray, List.getElem?_cons_succ, List.getElem?_cons_zero]; rfl) (by rfl) ?_ ?_; rotate_left; (simp only [Act.put, List.setIfInBounds_toArray, List.set_cons_zero, List.set_cons_succ]; rfl)) | (refine st_hoff (a' := ?_) ⟨e0, e1, e2, e3, e4, e5, sx⟩ (by simp only [List.getElem?_toArray, List.getElem?_cons_succ, List.getElem?_cons_zero]; rfl) (by rfl) ?_ ?_; rotate_left; (simp only [Act.put, List.setIfInBounds_toArray, List.set_cons_zero, List.set_cons_succ]; rfl)))
                        refine st_one (by simp only [List.getElem?_toArray, List.getElem?_cons_succ, List.getElem?_cons_zero]; rfl) ?_
                        refine goesL_ (some 103) rfl rfl Try.func47 (by kernel_rfl) rfl #[.int .i64 x1, .int .i64 x2, .int .i64 nc] rfl (by go_simp) ?_
                        refine (head16 x1 x2 nc true HHD.out).mono ?_
                        rintro e w6 ⟨rfl, HH⟩
                        have HS6 := HS5.frame HH
                        clear HS5 HH e0 e1 e2 e3 e4 e5 sx
                        refine ⟨_, rfl, ?_⟩
                        have e0 := HS6.cell 1 0 rfl rfl
                        have e1 := HS6.cell 1 1 rfl rfl
                        have e2 := HS6.cell 1 2 rfl rfl
                        have e3 := HS6.cell 1 3 rfl rfl
                        have e4 := HS6.cell 1 4 rfl rfl
                        have e5 := HS6.cell 1 5 rfl rfl
                        have sx := HSC.out _ HS6.below
                        refine ⟨⟨e0, e1, e2, e3, e4, e5, sx⟩, ?_⟩
                        refine st_norm (a' := ?_) ?_ ?_; rotate_left; (simp only [Act.put, List.setIfInBounds_toArray, List.set_cons_zero, List.set_cons_succ]; rfl)
                        repeat (first | (refine st_free (v := ?_) (a' := ?_) (by simp only [List.getElem?_toArray, List.getElem?_cons_succ, List.getElem?_cons_zero]; rfl) (by rfl) ?_ ?_ ?_; rotate_left 2; (intro w'; go_simp; with_reducible rfl); (simp only [Act.put, List.setIfInBounds_toArray, List.set_cons_zero, List.set_cons_succ]; rfl)) | (refine st_held (v := ?_) (a' := ?_) ⟨e0, e1, e2, e3, e4, e5, sx⟩ (by simp only [List.getElem?_toArray, List.getElem?_cons_succ, List.getElem?_cons_zero]; rfl) (by rfl) ?_ ?_ ?_; rotate_left 2; (rintro w' ⟨s0, s1, s2, s3, s4, s5, s6⟩; go_simp; with_reducible rfl); (simp only [Act.put, List.setIfInBounds_toArray, List.set_cons_zero, List.set_cons_succ]; rfl)) | (refine st_off (a' := ?_) (by simp only [List.getElem?_toArray, List.getElem?_cons_succ, List.getElem?_cons_zero]; rfl) (by rfl) ?_ ?_; rotate_left; (simp only [Act.put, List.setIfInBounds_toArray, List.set_cons_zero, List.set_cons_succ]; rfl)) | (refine st_hoff (a' := ?_) ⟨e0, e1, e2, e3, e4, e5, sx⟩ (by simp only [List.getElem?_toArray, List.getElem?_cons_succ, List.getElem?_cons_zero]; rfl) (by rfl) ?_ ?_; rotate_left; (simp only [Act.put, List.setIfInBounds_toArray, List.set_cons_zero, List.set_cons_succ]; rfl)))
                        refine st_one (by simp only [List.getElem?_toArray, List.getElem?_cons_succ, List.getElem?_cons_zero]; rfl) ?_
                        refine goesG (some 139) rfl (by rfl) Try.func48 (by kernel_rfl) rfl #[.agg #[.int .i64 x1, .int .i64 x2, .int .i64 nc, .int .i64 x7, .int .i64 x8, .slice A1 m c1]] rfl (by go_simp) ?_
                        refine (frame16 x1 x2 nc x7 x8 A1 m c1 (fBy xs) (by have := HS6.readsRow 0 rfl; rw [← HML.out] at this; exact this.2.2) (HS6.readsRow 0 rfl).2.1 HFL.out).mono ?_
                        rintro e w7 ⟨v, rfl, HH⟩
                        have HS7 := HS6.frame HH
                        clear HS6 HH e0 e1 e2 e3 e4 e5 sx
                        obtain ⟨A2, c2, rfl⟩ := HS7.rowShape 0 rfl
                        refine ⟨_, rfl, ?_⟩
                        have e0 := HS7.cell 2 0 rfl rfl
                        have e1 := HS7.cell 2 1 rfl rfl
                        have e2 := HS7.cell 2 2 rfl rfl
                        have e3 := HS7.cell 2 3 rfl rfl
                        have e4 := HS7.cell 2 4 rfl rfl
                        have e5 := HS7.cell 2 5 rfl rfl
                        have sx := HSC.out _ HS7.below
                        have sy := Kd.C_string (P := Try.prog) (src := 22) (dst := 9) (c := c2) Try.underlying22 Try.underlying5 Try.underlying9 (HS7.readsRow 0 rfl).2.2
                        refine ⟨⟨e0, e1, e2, e3, e4, e5, sx⟩, ?_⟩
                        refine st_norm (a' := ?_) ?_ ?_; rotate_left; (simp only [Act.put, List.setIfInBounds_toArray, List.set_cons_zero, List.set_cons_succ]; rfl)
                        refine st_one (by simp only [List.getElem?_toArray, List.getElem?_cons_succ, List.getElem?_cons_zero]; rfl) ?_
                        refine valG (v := .string (strOfNums (PW16.frameB x1 x2 nc x7 x8 (fBy xs)))) (w' := w7) (by rfl) (by go_simp) ?_
                        refine ⟨⟨e0, e1, e2, e3, e4, e5, sx⟩, ?_⟩
                        refine st_norm (a' := ?_) ?_ ?_; rotate_left; (simp only [Act.put, List.setIfInBounds_toArray, List.set_cons_zero, List.set_cons_succ]; rfl)
                        repeat (first | (refine st_free (v := ?_) (a' := ?_) (by simp only [List.getElem?_toArray, List.getElem?_cons_succ, List.getElem?_cons_zero]; rfl) (by rfl) ?_ ?_ ?_; rotate_left 2; (intro w'; go_simp; with_reducible rfl); (simp only [Act.put, List.setIfInBounds_toArray, List.set_cons_zero, List.set_cons_succ]; rfl)) | (refine st_held (v := ?_) (a' := ?_) ⟨e0, e1, e2, e3, e4, e5, sx⟩ (by simp only [List.getElem?_toArray, List.getElem?_cons_succ, List.getElem?_cons_zero]; rfl) (by rfl) ?_ ?_ ?_; rotate_left 2; (rintro w' ⟨s0, s1, s2, s3, s4, s5, s6⟩; go_simp; with_reducible rfl); (simp only [Act.put, List.setIfInBounds_toArray, List.set_cons_zero, List.set_cons_succ]; rfl)) | (refine st_off (a' := ?_) (by simp only [List.getElem?_toArray, List.getElem?_cons_succ, List.getElem?_cons_zero]; rfl) (by rfl) ?_ ?_; rotate_left; (simp only [Act.put, List.setIfInBounds_toArray, List.set_cons_zero, List.set_cons_succ]; rfl)) | (refine st_hoff (a' := ?_) ⟨e0, e1, e2, e3, e4, e5, sx⟩ (by simp only [List.getElem?_toArray, List.getElem?_cons_succ, List.getElem?_cons_zero]; rfl) (by rfl) ?_ ?_; rotate_left; (simp only [Act.put, List.setIfInBounds_toArray, List.set_cons_zero, List.set_cons_succ]; rfl)))
                        refine st_done ?_
                        go_wp2_with fail
                        go_meet
                        case rel => exact ⟨_, rfl, by simpa using HBAD.out, HS7.tail⟩
                · as_aux_lemma =>
                    have hc1 : decide (x8 < 1) = false := decide_eq_false (by omega)
                    have hc2 : decide (86 < x8) = false := decide_eq_false (by omega)
                    have hc3 : decide (x8 ≤ x7) = false := decide_eq_false (by omega)
                    obtain rfl : sz = false := by simpa using csz
                    have HBAD : Aside0 ((true = true) ↔ ¬ ReadOk xs) := Aside0.mk (by rw [HIFF.out]; simp [chd, cc1, cc2, cc3])
                    have HHD := Aside0.mk chd
                    clear chd cc1 cc2 cc3
                    refine region (frees [0, 2, 4] (helds [1, 3, 5] (.one 6 (frees [7, 8, 9] (helds [10] (frees [11, 12, 13, 14] (helds [15] (frees [16, 17, 18, 19, 21] (helds [20, 22] (frees [23, 24, 25, 26, 27, 28, 29, 30, 31, 32, 35] (helds [33] (frees [34, 36, 37, 38, 39, 40, 44] (helds [41, 45] (.one 42 (.one 43 (frees [46, 47] .done)))))))))))))))) (fun w' => w'.cell? ⟨g5, 0, none⟩ = some (.int .i64 x1) ∧ w'.cell? ⟨g5, 1, none⟩ = some (.int .i64 x2) ∧ w'.cell? ⟨g5, 2, none⟩ = some (.int .i64 nc) ∧ w'.cell? ⟨g5, 3, none⟩ = some (.int .i64 x7) ∧ w'.cell? ⟨g5, 4, none⟩ = some (.int .i64 x8) ∧ w'.cell? ⟨g5, 5, none⟩ = some (.slice A1 m c1) ∧ (convert 22 9 (.slice (some ⟨b, o, none⟩) len c)).run Try.prog w' = .ok (.string (strOfNums xs)) w') [] (by kernel_rfl) (by kernel_rfl) ?_
                    have HS5 := HS4.drew
                    clear HS4 e0 e1 e2 e3 e4 e5
                    generalize w5.drew = wb at HS5 ⊢
                    have e0 := HS5.cell 1 0 rfl rfl
                    have e1 := HS5.cell 1 1 rfl rfl
                    have e2 := HS5.cell 1 2 rfl rfl
                    have e3 := HS5.cell 1 3 rfl rfl
                    have e4 := HS5.cell 1 4 rfl rfl
                    have e5 := HS5.cell 1 5 rfl rfl
                    have sx := HSC.out _ HS5.below
                    repeat (first | (refine st_free (v := ?_) (a' := ?_) (by simp only [List.getElem?_toArray, List.getElem?_cons_succ, List.getElem?_cons_zero]; rfl) (by rfl) ?_ ?_ ?_; rotate_left 2; (intro w'; go_simp; with_reducible rfl); (simp only [Act.put, List.setIfInBounds_toArray, List.set_cons_zero, List.set_cons_succ]; rfl)) | (refine st_held (v := ?_) (a' := ?_) ⟨e0, e1, e2, e3, e4, e5, sx⟩ (by simp only [List.getElem?_toArray, List.getElem?_cons_succ, List.getElem?_cons_zero]; rfl) (by rfl) ?_ ?_ ?_; rotate_left 2; (rintro w' ⟨s0, s1, s2, s3, s4, s5, s6⟩; go_simp; with_reducible rfl); (simp only [Act.put, List.setIfInBounds_toArray, List.set_cons_zero, List.set_cons_succ]; rfl)) | (refine st_off (a' := ?_) (by simp only [List.getElem?_toArray, List.getElem?_cons_succ, List.getElem?_cons_zero]; rfl) (by rfl) ?_ ?_; rotate_left; (simp only [Act.put, List.setIfInBounds_toArray, List.set_cons_zero, List.set_cons_succ]; rfl)) | (refine st_hoff (a' := ?_) ⟨e0, e1, e2, e3, e4, e5, sx⟩ (by simp only [List.getElem?_toArray, List.getElem?_cons_succ, List.getElem?_cons_zero]; rfl) (by rfl) ?_ ?_; rotate_left; (simp only [Act.put, List.setIfInBounds_toArray, List.set_cons_zero, List.set_cons_succ]; rfl)))
                    refine st_one (by simp only [List.getElem?_toArray, List.getElem?_cons_succ, List.getElem?_cons_zero]; rfl) ?_
                    refine goesL_ (some 103) rfl rfl Try.func47 (by kernel_rfl) rfl #[.int .i64 x1, .int .i64 x2, .int .i64 nc] rfl (by go_simp) ?_
                    refine (head16 x1 x2 nc true HHD.out).mono ?_
                    rintro e w6 ⟨rfl, HH⟩
                    have HS6 := HS5.frame HH
                    clear HS5 HH e0 e1 e2 e3 e4 e5 sx
                    refine ⟨_, rfl, ?_⟩
                    have e0 := HS6.cell 1 0 rfl rfl
                    have e1 := HS6.cell 1 1 rfl rfl
                    have e2 := HS6.cell 1 2 rfl rfl
                    have e3 := HS6.cell 1 3 rfl rfl
                    have e4 := HS6.cell 1 4 rfl rfl
                    have e5 := HS6.cell 1 5 rfl rfl
                    have sx := HSC.out _ HS6.below
                    refine ⟨⟨e0, e1, e2, e3, e4, e5, sx⟩, ?_⟩
                    refine st_norm (a' := ?_) ?_ ?_; rotate_left; (simp only [Act.put, List.setIfInBounds_toArray, List.set_cons_zero, List.set_cons_succ]; rfl)
                    repeat (first | (refine st_free (v := ?_) (a' := ?_) (by simp only [List.getElem?_toArray, List.getElem?_cons_succ, List.getElem?_cons_zero]; rfl) (by rfl) ?_ ?_ ?_; rotate_left 2; (intro w'; go_simp; with_reducible rfl); (simp only [Act.put, List.setIfInBounds_toArray, List.set_cons_zero, List.set_cons_succ]; rfl)) | (refine st_held (v := ?_) (a' := ?_) ⟨e0, e1, e2, e3, e4, e5, sx⟩ (by simp only [List.getElem?_toArray, List.getElem?_cons_succ, List.getElem?_cons_zero]; rfl) (by rfl) ?_ ?_ ?_; rotate_left 2; (rintro w' ⟨s0, s1, s2, s3, s4, s5, s6⟩; go_simp; with_reducible rfl); (simp only [Act.put, List.setIfInBounds_toArray, List.set_cons_zero, List.set_cons_succ]; rfl)) | (refine st_off (a' := ?_) (by simp only [List.getElem?_toArray, List.getElem?_cons_succ, List.getElem?_cons_zero]; rfl) (by rfl) ?_ ?_; rotate_left; (simp only [Act.put, List.setIfInBounds_toArray, List.set_cons_zero, List.set_cons_succ]; rfl)) | (refine st_hoff (a' := ?_) ⟨e0, e1, e2, e3, e4, e5, sx⟩ (by simp only [List.getElem?_toArray, List.getElem?_cons_succ, List.getElem?_cons_zero]; rfl) (by rfl) ?_ ?_; rotate_left; (simp only [Act.put, List.setIfInBounds_toArray, List.set_cons_zero, List.set_cons_succ]; rfl)))
                    refine st_one (by simp only [List.getElem?_toArray, List.getElem?_cons_succ, List.getElem?_cons_zero]; rfl) ?_
                    refine offG (by rfl) ?_
                    refine ⟨⟨e0, e1, e2, e3, e4, e5, sx⟩, ?_⟩
                    refine st_norm (a' := ?_) ?_ ?_; rotate_left; (simp only [Act.put, List.setIfInBounds_toArray, List.set_cons_zero, List.set_cons_succ]; rfl)
                    refine st_one (by simp only [List.getElem?_toArray, List.getElem?_cons_succ, List.getElem?_cons_zero]; rfl) ?_
                    refine offG (by rfl) ?_
                    refine ⟨⟨e0, e1, e2, e3, e4, e5, sx⟩, ?_⟩
                    refine st_norm (a' := ?_) ?_ ?_; rotate_left; (simp only [Act.put, List.setIfInBounds_toArray, List.set_cons_zero, List.set_cons_succ]; rfl)
                    repeat (first | (refine st_free (v := ?_) (a' := ?_) (by simp only [List.getElem?_toArray, List.getElem?_cons_succ, List.getElem?_cons_zero]; rfl) (by rfl) ?_ ?_ ?_; rotate_left 2; (intro w'; go_simp; with_reducible rfl); (simp only [Act.put, List.setIfInBounds_toArray, List.set_cons_zero, List.set_cons_succ]; rfl)) | (refine st_held (v := ?_) (a' := ?_) ⟨e0, e1, e2, e3, e4, e5, sx⟩ (by simp only [List.getElem?_toArray, List.getElem?_cons_succ, List.getElem?_cons_zero]; rfl) (by rfl) ?_ ?_ ?_; rotate_left 2; (rintro w' ⟨s0, s1, s2, s3, s4, s5, s6⟩; go_simp; with_reducible rfl); (simp only [Act.put, List.setIfInBounds_toArray, List.set_cons_zero, List.set_cons_succ]; rfl)) | (refine st_off (a' := ?_) (by simp only [List.getElem?_toArray, List.getElem?_cons_succ, List.getElem?_cons_zero]; rfl) (by rfl) ?_ ?_; rotate_left; (simp only [Act.put, List.setIfInBounds_toArray, List.set_cons_zero, List.set_cons_succ]; rfl)) | (refine st_hoff (a' := ?_) ⟨e0, e1, e2, e3, e4, e5, sx⟩ (by simp only [List.getElem?_toArray, List.getElem?_cons_succ, List.getElem?_cons_zero]; rfl) (by rfl) ?_ ?_; rotate_left; (simp only [Act.put, List.setIfInBounds_toArray, List.set_cons_zero, List.set_cons_succ]; rfl)))
                    refine st_done ?_
                    go_wp2_with fail
                    go_meet
                    case rel => exact ⟨_, rfl, by simpa using HBAD.out, HS6⟩
        · as_aux_lemma =>
            have HBAD : Aside0 ((true = true) ↔ ¬ ReadOk xs) := Aside0.mk (by rw [HIFF.out]; simp [chd])
            have HHD := Aside0.mk (show PW16.okHead x1 x2 nc = false from by simpa using chd)
            clear chd
            refine region (frees [0, 2, 4] (helds [1, 3, 5] (.one 6 (frees [7, 8, 9] (helds [10] (frees [11, 12, 13, 14] (helds [15] (frees [16, 17, 18, 19, 21] (helds [20, 22] (frees [23, 24, 25, 26, 27, 28, 29, 30, 31, 32, 35] (helds [33] (frees [34, 36, 37, 38, 39, 40, 44] (helds [41, 45] (.one 42 (.one 43 (frees [46, 47] .done)))))))))))))))) (fun w' => w'.cell? ⟨g5, 0, none⟩ = some (.int .i64 x1) ∧ w'.cell? ⟨g5, 1, none⟩ = some (.int .i64 x2) ∧ w'.cell? ⟨g5, 2, none⟩ = some (.int .i64 nc) ∧ w'.cell? ⟨g5, 3, none⟩ = some (.int .i64 x7) ∧ w'.cell? ⟨g5, 4, none⟩ = some (.int .i64 x8) ∧ w'.cell? ⟨g5, 5, none⟩ = some (.slice A1 m c1) ∧ (convert 22 9 (.slice (some ⟨b, o, none⟩) len c)).run Try.prog w' = .ok (.string (strOfNums xs)) w') [] (by kernel_rfl) (by kernel_rfl) ?_
            have HS5 := HS4.drew
            clear HS4 e0 e1 e2 e3 e4 e5
            generalize w5.drew = wb at HS5 ⊢
            have e0 := HS5.cell 1 0 rfl rfl
            have e1 := HS5.cell 1 1 rfl rfl
            have e2 := HS5.cell 1 2 rfl rfl
            have e3 := HS5.cell 1 3 rfl rfl
            have e4 := HS5.cell 1 4 rfl rfl
            have e5 := HS5.cell 1 5 rfl rfl
            have sx := HSC.out _ HS5.below
            repeat (first | (refine st_free (v := ?_) (a' := ?_) (by simp only [List.getElem?_toArray, List.getElem?_cons_succ, List.getElem?_cons_zero]; rfl) (by rfl) ?_ ?_ ?_; rotate_left 2; (intro w'; go_simp; with_reducible rfl); (simp only [Act.put, List.setIfInBounds_toArray, List.set_cons_zero, List.set_cons_succ]; rfl)) | (refine st_held (v := ?_) (a' := ?_) ⟨e0, e1, e2, e3, e4, e5, sx⟩ (by simp only [List.getElem?_toArray, List.getElem?_cons_succ, List.getElem?_cons_zero]; rfl) (by rfl) ?_ ?_ ?_; rotate_left 2; (rintro w' ⟨s0, s1, s2, s3, s4, s5, s6⟩; go_simp; with_reducible rfl); (simp only [Act.put, List.setIfInBounds_toArray, List.set_cons_zero, List.set_cons_succ]; rfl)) | (refine st_off (a' := ?_) (by simp only [List.getElem?_toArray, List.getElem?_cons_succ, List.getElem?_cons_zero]; rfl) (by rfl) ?_ ?_; rotate_left; (simp only [Act.put, List.setIfInBounds_toArray, List.set_cons_zero, List.set_cons_succ]; rfl)) | (refine st_hoff (a' := ?_) ⟨e0, e1, e2, e3, e4, e5, sx⟩ (by simp only [List.getElem?_toArray, List.getElem?_cons_succ, List.getElem?_cons_zero]; rfl) (by rfl) ?_ ?_; rotate_left; (simp only [Act.put, List.setIfInBounds_toArray, List.set_cons_zero, List.set_cons_succ]; rfl)))
            refine st_one (by simp only [List.getElem?_toArray, List.getElem?_cons_succ, List.getElem?_cons_zero]; rfl) ?_
            refine goesL_ (some 103) rfl rfl Try.func47 (by kernel_rfl) rfl #[.int .i64 x1, .int .i64 x2, .int .i64 nc] rfl (by go_simp) ?_
            refine (head16 x1 x2 nc false HHD.out).mono ?_
            rintro e w6 ⟨rfl, HH⟩
            have HS6 := HS5.frame HH
            clear HS5 HH e0 e1 e2 e3 e4 e5 sx
            refine ⟨_, rfl, ?_⟩
            have e0 := HS6.cell 1 0 rfl rfl
            have e1 := HS6.cell 1 1 rfl rfl
            have e2 := HS6.cell 1 2 rfl rfl
            have e3 := HS6.cell 1 3 rfl rfl
            have e4 := HS6.cell 1 4 rfl rfl
            have e5 := HS6.cell 1 5 rfl rfl
            have sx := HSC.out _ HS6.below
            refine ⟨⟨e0, e1, e2, e3, e4, e5, sx⟩, ?_⟩
            refine st_norm (a' := ?_) ?_ ?_; rotate_left; (simp only [Act.put, List.setIfInBounds_toArray, List.set_cons_zero, List.set_cons_succ]; rfl)
            repeat (first | (refine st_free (v := ?_) (a' := ?_) (by simp only [List.getElem?_toArray, List.getElem?_cons_succ, List.getElem?_cons_zero]; rfl) (by rfl) ?_ ?_ ?_; rotate_left 2; (intro w'; go_simp; with_reducible rfl); (simp only [Act.put, List.setIfInBounds_toArray, List.set_cons_zero, List.set_cons_succ]; rfl)) | (refine st_held (v := ?_) (a' := ?_) ⟨e0, e1, e2, e3, e4, e5, sx⟩ (by simp only [List.getElem?_toArray, List.getElem?_cons_succ, List.getElem?_cons_zero]; rfl) (by rfl) ?_ ?_ ?_; rotate_left 2; (rintro w' ⟨s0, s1, s2, s3, s4, s5, s6⟩; go_simp; with_reducible rfl); (simp only [Act.put, List.setIfInBounds_toArray, List.set_cons_zero, List.set_cons_succ]; rfl)) | (refine st_off (a' := ?_) (by simp only [List.getElem?_toArray, List.getElem?_cons_succ, List.getElem?_cons_zero]; rfl) (by rfl) ?_ ?_; rotate_left; (simp only [Act.put, List.setIfInBounds_toArray, List.set_cons_zero, List.set_cons_succ]; rfl)) | (refine st_hoff (a' := ?_) ⟨e0, e1, e2, e3, e4, e5, sx⟩ (by simp only [List.getElem?_toArray, List.getElem?_cons_succ, List.getElem?_cons_zero]; rfl) (by rfl) ?_ ?_; rotate_left; (simp only [Act.put, List.setIfInBounds_toArray, List.set_cons_zero, List.set_cons_succ]; rfl)))
            refine st_one (by simp only [List.getElem?_toArray, List.getElem?_cons_succ, List.getElem?_cons_zero]; rfl) ?_
            refine offG (by rfl) ?_
            refine ⟨⟨e0, e1, e2, e3, e4, e5, sx⟩, ?_⟩
            refine st_norm (a' := ?_) ?_ ?_; rotate_left; (simp only [Act.put, List.setIfInBounds_toArray, List.set_cons_zero, List.set_cons_succ]; rfl)
            refine st_one (by simp only [List.getElem?_toArray, List.getElem?_cons_succ, List.getElem?_cons_zero]; rfl) ?_
            refine offG (by rfl) ?_
            refine ⟨⟨e0, e1, e2, e3, e4, e5, sx⟩, ?_⟩
            refine st_norm (a' := ?_) ?_ ?_; rotate_left; (simp only [Act.put, List.setIfInBounds_toArray, List.set_cons_zero, List.set_cons_succ]; rfl)
            repeat (first | (refine st_free (v := ?_) (a' := ?_) (by simp only [List.getElem?_toArray, List.getElem?_cons_succ, List.getElem?_cons_zero]; rfl) (by rfl) ?_ ?_ ?_; rotate_left 2; (intro w'; go_simp; with_reducible rfl); (simp only [Act.put, List.setIfInBounds_toArray, List.set_cons_zero, List.set_cons_succ]; rfl)) | (refine st_held (v := ?_) (a' := ?_) ⟨e0, e1, e2, e3, e4, e5, sx⟩ (by simp only [List.getElem?_toArray, List.getElem?_cons_succ, List.getElem?_cons_zero]; rfl) (by rfl) ?_ ?_ ?_; rotate_left 2; (rintro w' ⟨s0, s1, s2, s3, s4, s5, s6⟩; go_simp; with_reducible rfl); (simp only [Act.put, List.setIfInBounds_toArray, List.set_cons_zero, List.set_cons_succ]; rfl)) | (refine st_off (a' := ?_) (by simp only [List.getElem?_toArray, List.getElem?_cons_succ, List.getElem?_cons_zero]; rfl) (by rfl) ?_ ?_; rotate_left; (simp only [Act.put, List.setIfInBounds_toArray, List.set_cons_zero, List.set_cons_succ]; rfl)) | (refine st_hoff (a' := ?_) ⟨e0, e1, e2, e3, e4, e5, sx⟩ (by simp only [List.getElem?_toArray, List.getElem?_cons_succ, List.getElem?_cons_zero]; rfl) (by rfl) ?_ ?_; rotate_left; (simp only [Act.put, List.setIfInBounds_toArray, List.set_cons_zero, List.set_cons_succ]; rfl)))
            refine st_done ?_
            go_wp2_with fail
            go_meet
            case rel => exact ⟨_, rfl, by simpa using HBAD.out, HS6⟩
      case rest =>
        obtain ⟨bad, rfl, hbad, HS6⟩ := hcut
        obtain ⟨w6, rfl⟩ : ∃ w6, w6 = wc := ⟨_, rfl⟩
        clear HS4 e0 e1 e2 e3 e4 e5
        have HBAD := Aside0.mk hbad
        clear hbad hw6 hw7
        have d0 := HS6.cell 3 0 rfl rfl; have f0 := HS6.frozen 3 0 rfl; have y0 := HS6.cell 1 0 rfl rfl; have z0 := HS6.cell 2 0 rfl rfl; have d1 := HS6.cell 3 1 rfl rfl; have f1 := HS6.frozen 3 1 rfl; have y1 := HS6.cell 1 1 rfl rfl; have z1 := HS6.cell 2 1 rfl rfl; have d2 := HS6.cell 3 2 rfl rfl; have f2 := HS6.frozen 3 2 rfl; have y2 := HS6.cell 1 2 rfl rfl; have z2 := HS6.cell 2 2 rfl rfl; have d3 := HS6.cell 3 3 rfl rfl; have f3 := HS6.frozen 3 3 rfl; have y3 := HS6.cell 1 3 rfl rfl; have z3 := HS6.cell 2 3 rfl rfl; have d4 := HS6.cell 3 4 rfl rfl; have f4 := HS6.frozen 3 4 rfl; have y4 := HS6.cell 1 4 rfl rfl; have z4 := HS6.cell 2 4 rfl rfl; have d5 := HS6.cell 3 5 rfl rfl; have f5 := HS6.frozen 3 5 rfl; have y5 := HS6.cell 1 5 rfl rfl; have z5 := HS6.cell 2 5 rfl rfl
        cases bad with
        | true =>
          go_wp2_with (first | ((with_reducible refine gate_store (t := 35) (p := 2) rfl ?_); refine store_event (t := 35) (p := 2) (v := ?vo4) (w1 := ((((((w6.setCell ⟨g2, 0, none⟩ (.int .i64 0)).setCell ⟨g2, 1, none⟩ (.int .i64 0)).setCell ⟨g2, 2, none⟩ (.int .i64 0)).setCell ⟨g2, 3, none⟩ (.int .i64 0)).setCell ⟨g2, 4, none⟩ (.int .i64 0)).setCell ⟨g2, 5, none⟩ (.slice none 0 0))) ?hg4 ?ho4 ?hn4 ?hr4 ?_; (case ho4 => rfl); (case hg4 => rfl); (case hn4 => rfl); (case hr4 => first | (go_simp; done) | (go_simp; rfl)); intro w7 hw; have HS7 := ((((((HS6.setAt 3 0 (.int .i64 0) rfl).setAt 3 1 (.int .i64 0) rfl).setAt 3 2 (.int .i64 0) rfl).setAt 3 3 (.int .i64 0) rfl).setAt 3 4 (.int .i64 0) rfl).setAt 3 5 (.slice none 0 0) rfl); rw [← hw] at HS7; clear hw HS6 d0 d1 d2 d3 d4 d5 f0 f1 f2 f3 f4 f5 z0 z1 z2 z3 z4 z5 y0 y1 y2 y3 y4 y5))
          refine bodyPost_ret (results_ct rfl _ _ g2 35 #[.int .i64 0, .int .i64 0, .int .i64 0, .int .i64 0, .int .i64 0, .slice none 0 0] (0, 0) _ rfl (HS7.block 3 rfl).1 hu35 rfl rfl) rfl ⟨fun hok => absurd hok (by simpa using HBAD.out), fun _ => ⟨rfl, HS7.tail.tail.tail.tail⟩⟩
        | false =>
          go_wp2_with (first | ((with_reducible refine gate_store (t := 35) (p := 2) rfl ?_); refine store_event (t := 35) (p := 2) (v := ?vo5) (w1 := ((((((w6.setCell ⟨g2, 0, none⟩ (.int .i64 x1)).setCell ⟨g2, 1, none⟩ (.int .i64 x2)).setCell ⟨g2, 2, none⟩ (.int .i64 nc)).setCell ⟨g2, 3, none⟩ (.int .i64 x7)).setCell ⟨g2, 4, none⟩ (.int .i64 x8)).setCell ⟨g2, 5, none⟩ (.slice A1 m c1))) ?hg5 ?ho5 ?hn5 ?hr5 ?_; (case ho5 => rfl); (case hg5 => rfl); (case hn5 => rfl); (case hr5 => first | (go_simp; done) | (go_simp; rfl)); intro w7 hw; have HS7 := ((((((HS6.setAt 3 0 (.int .i64 x1) rfl).setAt 3 1 (.int .i64 x2) rfl).setAt 3 2 (.int .i64 nc) rfl).setAt 3 3 (.int .i64 x7) rfl).setAt 3 4 (.int .i64 x8) rfl).setAt 3 5 (.slice A1 m c1) rfl); rw [← hw] at HS7; clear hw HS6 d0 d1 d2 d3 d4 d5 f0 f1 f2 f3 f4 f5 z0 z1 z2 z3 z4 z5 y0 y1 y2 y3 y4 y5))
          refine bodyPost_ret (results_ct rfl _ _ g2 35 #[.int .i64 x1, .int .i64 x2, .int .i64 nc, .int .i64 x7, .int .i64 x8, .slice A1 m c1] (0, 0) _ rfl (HS7.block 3 rfl).1 hu35 rfl rfl) rfl ⟨fun _ => ?_, fun hn => absurd hn (by simpa using HBAD.out)⟩
          obtain ⟨rfl, rfl, rfl, rfl, rfl⟩ := HXS.out
          exact ⟨_, rfl, HS7.sel [0] _ (by decide) rfl⟩

end Go.Proofs.Ytaojnbhnogndnaa.SL
