/- The document's Read (majordomoref16): what is no frame by its length. -/
import Derived.Test.YtaojnbhnogndnaaY0
import Derived.Test.YtaojnbhnogndnaaY2
namespace Go.Proofs.Ytaojnbhnogndnaa.SL
open Go.RowKit Go.Proofs.YtaojnbhnogndnaaW.PrintWords Go.Proofs.YtaojnbhnogndnaaW.PrintLast Go.Proofs.YtaojnbhnogndnaaW.PrintMore
attribute [local go_sem] max2_int min2_int max_two min_two
attribute [local go_sem high] Small.cell_set_same
set_option linter.unusedVariables false
set_option linter.unusedSimpArgs false

/-! ### What is read out of a row of bytes -/
def fKd (xs : List Int) : Int := xs.getD 1 0
def fNd (xs : List Int) : Int := xs.getD 2 0
def fNc (xs : List Int) : Int := xs.getD 3 0 * 16777216 + xs.getD 4 0 * 65536 + xs.getD 5 0 * 256 + xs.getD 6 0
def fIx (xs : List Int) : Int := xs.getD 7 0
def fCt (xs : List Int) : Int := xs.getD 8 0
def fBy (xs : List Int) : List Int := (xs.take (xs.length - 4)).drop 10
def Fits (xs : List Int) : Prop := 14 ≤ xs.length ∧ (xs.length : Int) = 14 + xs.getD 9 0
def SizeOk (n : Nat) (ix ct : Int) : Prop := (n = 48 ∨ ix + 1 = ct ∧ n < 48 ∧ (0 < n ∨ ct = 1)) ∧ (ix + 1 = ct → ix * 48 + n ≤ 4096)
def ReadOk (xs : List Int) : Prop := Fits xs ∧ PW16.okHead (fKd xs) (fNd xs) (fNc xs) = true ∧ 1 ≤ fCt xs ∧ fCt xs ≤ 86 ∧ fIx xs < fCt xs ∧ SizeOk (fBy xs).length (fIx xs) (fCt xs) ∧
  PW16.frameB (fKd xs) (fNd xs) (fNc xs) (fIx xs) (fCt xs) (fBy xs) = xs
def NoFrame (w0 : World) (L : List Asrt) (e : Ending) (w : World) : Prop := e = .returned (.tuple #[.agg #[.int .i64 0, .int .i64 0, .int .i64 0, .int .i64 0, .int .i64 0, .slice none 0 0], .int .i64 160]) ∧ Sat w0 w L
def IsFrame (xs : List Int) (w0 : World) (L : List Asrt) (e : Ending) (w : World) : Prop :=
  ∃ v, e = .returned (.tuple #[.agg #[.int .i64 (fKd xs), .int .i64 (fNd xs), .int .i64 (fNc xs), .int .i64 (fIx xs), .int .i64 (fCt xs), v], .int .i64 0]) ∧ Sat w0 w (row kB 5 v (fBy xs) :: L)
/-! ### Contracts of head and frame (majordomoref16) -/
theorem head16 {w : World} (kd nd nc : Int) (t : Bool) (ht : PW16.okHead kd nd nc = t) : Calls Try.prog 47 #[.int .i64 kd, .int .i64 nd, .int .i64 nc] w fun e w' => e = .returned (.bool t) ∧ Sat w w' [] := by
  subst ht
  refine (PW16.majordomoref16_head.calls kd nd nc _ _ (PW16.head_r kd nd nc)).mono ?_
  rintro e w' ⟨he, ⟨n, rfl⟩⟩
  exact ⟨he, (Sat.start w).drewN n⟩
theorem frame16 {w : World} (kd nd nc ix ct : Int) (A : Option Addr) (m c : Nat) (p : List Int) (hr : kB.C w A m p) (hc : m ≤ c) (hl : p.length ≤ 1073741824) :
    Calls Try.prog 48 #[.agg #[.int .i64 kd, .int .i64 nd, .int .i64 nc, .int .i64 ix, .int .i64 ct, .slice A m c]] w fun e w' => ∃ v, e = .returned v ∧ Sat w w' [row kB 5 v (PW16.frameB kd nd nc ix ct p)] := by
  obtain rfl : p.length = m := hr.1
  obtain ⟨k, hk⟩ := (PW16.frame_r kd nd nc ix ct p hl).rounds
  refine (PW16.majordomoref16_frame.calls k kd nd nc ix ct A c p _ w hr hc hk).mono ?_
  rintro e w' ⟨v, he, hR, hb⟩
  exact ⟨v, he, (Sat.start w).newRow hb hR (Nat.le_refl _)⟩
/-! ### Read (majordomoref16): function 18 -/
set_option maxHeartbeats 4000000 in
set_option maxRecDepth 100000 in
theorem Read16_short {w0 w : World} {L : List Asrt} (A : Option Addr) (c : Nat) (xs : List Int) (hf : ¬ Fits xs) (hr : kB.C w A xs.length xs) (hm : xs.length ≤ 140737488355328) (hx : ∀ x ∈ xs, 0 ≤ x ∧ x < 256) (HS : Sat w0 w L) :
    Calls Try.prog 18 #[.slice A xs.length c] w (NoFrame w0 L) := by
  have hu35 := Try.underlying35
  by_cases h14 : xs.length < 14
  · have hd : decide ((xs.length : Int) < 14) = true := decide_eq_true (by omega)
    have hd2 : decide (xs.length < 14) = true := decide_eq_true (by omega)
    clear hf hr hx
    go_enter Try.func18, Try.ntmps18
    go_wp2_with (first | ((with_reducible refine gate_dst (N := 2) rfl ?_); refine box_event ?hg1 (N := 2) ?hd1 (cs := #[.int .i64 0, .int .i64 0, .int .i64 0, .int .i64 0, .int .i64 0, .slice none 0 0]) (t := 35) ?hr1 ?_; (case hd1 => rfl); (case hg1 => rfl); (case hr1 => first | (go_simp; done) | (go_simp; rfl)); intro g2 hg w1 hbox hb; have HS1 := HS.box hg hbox hb; clear HS hg hbox hb) | ((with_reducible refine gate_dst (N := 4) rfl ?_); refine box_event ?hg2 (N := 4) ?hd2 (cs := #[.int .i64 0, .int .i64 0, .int .i64 0, .int .i64 0, .int .i64 0, .slice none 0 0]) (t := 35) ?hr2 ?_; (case hd2 => rfl); (case hg2 => rfl); (case hr2 => first | (go_simp; done) | (go_simp; rfl)); intro g4 hg w2 hbox hb; have HS2 := HS1.box hg hbox hb; clear HS1 hg hbox hb; have d0 := HS2.cell 0 0 rfl rfl; have d1 := HS2.cell 0 1 rfl rfl; have d2 := HS2.cell 0 2 rfl rfl; have d3 := HS2.cell 0 3 rfl rfl; have d4 := HS2.cell 0 4 rfl rfl; have d5 := HS2.cell 0 5 rfl rfl; have f0 := HS2.frozen 0 0 rfl; have f1 := HS2.frozen 0 1 rfl; have f2 := HS2.frozen 0 2 rfl; have f3 := HS2.frozen 0 3 rfl; have f4 := HS2.frozen 0 4 rfl; have f5 := HS2.frozen 0 5 rfl) | ((with_reducible refine gate_store (t := 35) (p := 4) rfl ?_); refine store_event (t := 35) (p := 4) (v := ?vo3) (w1 := ((((((w2.setCell ⟨g4, 0, none⟩ (.int .i64 0)).setCell ⟨g4, 1, none⟩ (.int .i64 0)).setCell ⟨g4, 2, none⟩ (.int .i64 0)).setCell ⟨g4, 3, none⟩ (.int .i64 0)).setCell ⟨g4, 4, none⟩ (.int .i64 0)).setCell ⟨g4, 5, none⟩ (.slice none 0 0))) ?hg3 ?ho3 ?hn3 ?hr3 ?_; (case ho3 => rfl); (case hg3 => rfl); (case hn3 => rfl); (case hr3 => first | (go_simp; done) | (go_simp; rfl)); intro w3 hw; have HS3 := ((((((HS2.setAt 0 0 (.int .i64 0) rfl).setAt 0 1 (.int .i64 0) rfl).setAt 0 2 (.int .i64 0) rfl).setAt 0 3 (.int .i64 0) rfl).setAt 0 4 (.int .i64 0) rfl).setAt 0 5 (.slice none 0 0) rfl); rw [← hw] at HS3; clear hw HS2 d0 d1 d2 d3 d4 d5 f0 f1 f2 f3 f4 f5; have d0 := HS3.cell 1 0 rfl rfl; have d1 := HS3.cell 1 1 rfl rfl; have d2 := HS3.cell 1 2 rfl rfl; have d3 := HS3.cell 1 3 rfl rfl; have d4 := HS3.cell 1 4 rfl rfl; have d5 := HS3.cell 1 5 rfl rfl; have f0 := HS3.frozen 1 0 rfl; have f1 := HS3.frozen 1 1 rfl; have f2 := HS3.frozen 1 2 rfl; have f3 := HS3.frozen 1 3 rfl; have f4 := HS3.frozen 1 4 rfl; have f5 := HS3.frozen 1 5 rfl; have e0 := HS3.cell 0 0 rfl rfl; have e1 := HS3.cell 0 1 rfl rfl; have e2 := HS3.cell 0 2 rfl rfl; have e3 := HS3.cell 0 3 rfl rfl; have e4 := HS3.cell 0 4 rfl rfl; have e5 := HS3.cell 0 5 rfl rfl; have h0 := HS3.frozen 0 0 rfl; have h1 := HS3.frozen 0 1 rfl; have h2 := HS3.frozen 0 2 rfl; have h3 := HS3.frozen 0 3 rfl; have h4 := HS3.frozen 0 4 rfl; have h5 := HS3.frozen 0 5 rfl) | ((with_reducible refine gate_store (t := 35) (p := 2) rfl ?_); refine store_event (t := 35) (p := 2) (v := ?vo4) (w1 := ((((((w3.setCell ⟨g2, 0, none⟩ (.int .i64 0)).setCell ⟨g2, 1, none⟩ (.int .i64 0)).setCell ⟨g2, 2, none⟩ (.int .i64 0)).setCell ⟨g2, 3, none⟩ (.int .i64 0)).setCell ⟨g2, 4, none⟩ (.int .i64 0)).setCell ⟨g2, 5, none⟩ (.slice none 0 0))) ?hg4 ?ho4 ?hn4 ?hr4 ?_; (case ho4 => rfl); (case hg4 => rfl); (case hn4 => rfl); (case hr4 => first | (go_simp; done) | (go_simp; rfl)); intro w4 hw; have HS4 := ((((((HS3.setAt 1 0 (.int .i64 0) rfl).setAt 1 1 (.int .i64 0) rfl).setAt 1 2 (.int .i64 0) rfl).setAt 1 3 (.int .i64 0) rfl).setAt 1 4 (.int .i64 0) rfl).setAt 1 5 (.slice none 0 0) rfl); rw [← hw] at HS4; clear hw HS3 d0 d1 d2 d3 d4 d5 f0 f1 f2 f3 f4 f5 e0 e1 e2 e3 e4 e5 h0 h1 h2 h3 h4 h5))
    refine bodyPost_ret (results_ct rfl _ _ g2 35 #[.int .i64 0, .int .i64 0, .int .i64 0, .int .i64 0, .int .i64 0, .slice none 0 0] (0, 0) _ rfl (HS4.block 1 rfl).1 hu35 rfl rfl) rfl ⟨rfl, HS4.tail.tail⟩
  · have hd : decide ((xs.length : Int) < 14) = false := decide_eq_false (by omega)
    have hd2 : decide (xs.length < 14) = false := decide_eq_false (by omega)
    obtain ⟨b, o, rfl, hcell⟩ := int_row hr (by omega)
    have k9 := hcell 9 (by omega)
    have h9 := getD_in hx 9
    have hn : xs.length ≠ 14 + (xs.getD 9 0).toNat := fun h => hf ⟨by omega, by omega⟩
    obtain ⟨z, hz⟩ : ∃ z, z = xs.getD 9 0 := ⟨_, rfl⟩
    rw [← hz] at k9 h9 hn
    obtain ⟨h90, h91⟩ := h9
    have hne : ((xs.length : Int) == 14 + z) = false := by simp; omega
    have hne2 : ((xs.length : Int) != 14 + z) = true := by simp; omega
    have K9 := Aside0.mk k9
    clear hf hr hz hx hn hcell
    go_enter Try.func18, Try.ntmps18
    go_wp2_with (first | ((with_reducible refine gate_dst (N := 2) rfl ?_); refine box_event ?hg5 (N := 2) ?hd5 (cs := #[.int .i64 0, .int .i64 0, .int .i64 0, .int .i64 0, .int .i64 0, .slice none 0 0]) (t := 35) ?hr5 ?_; (case hd5 => rfl); (case hg5 => rfl); (case hr5 => first | (go_simp; done) | (go_simp; rfl)); intro g2 hg w1 hbox hb; have HS1 := HS.box hg hbox hb; have HB1 := Aside0.mk hb; have HG1 := Aside0.mk (Nat.le_of_eq hg.symm); clear HS hg hbox hb) | ((with_reducible refine gate_dst (N := 4) rfl ?_); refine box_event ?hg6 (N := 4) ?hd6 (cs := #[.int .i64 0, .int .i64 0, .int .i64 0, .int .i64 0, .int .i64 0, .slice none 0 0]) (t := 35) ?hr6 ?_; (case hd6 => rfl); (case hg6 => rfl); (case hr6 => first | (go_simp; done) | (go_simp; rfl)); intro g4 hg w2 hbox hb; have HS2 := HS1.box hg hbox hb; have HG2 := Aside0.mk (Nat.le_trans HB1.out.size (Nat.le_of_eq hg.symm)); have HB2 := Aside0.mk (HB1.out.trans (hb.mono HB1.out.size)); clear HS1 hg hbox hb HB1; have d0 := HS2.cell 0 0 rfl rfl; have d1 := HS2.cell 0 1 rfl rfl; have d2 := HS2.cell 0 2 rfl rfl; have d3 := HS2.cell 0 3 rfl rfl; have d4 := HS2.cell 0 4 rfl rfl; have d5 := HS2.cell 0 5 rfl rfl; have f0 := HS2.frozen 0 0 rfl; have f1 := HS2.frozen 0 1 rfl; have f2 := HS2.frozen 0 2 rfl; have f3 := HS2.frozen 0 3 rfl; have f4 := HS2.frozen 0 4 rfl; have f5 := HS2.frozen 0 5 rfl) | ((with_reducible refine gate_store (t := 35) (p := 4) rfl ?_); refine store_event (t := 35) (p := 4) (v := ?vo7) (w1 := ((((((w2.setCell ⟨g4, 0, none⟩ (.int .i64 0)).setCell ⟨g4, 1, none⟩ (.int .i64 0)).setCell ⟨g4, 2, none⟩ (.int .i64 0)).setCell ⟨g4, 3, none⟩ (.int .i64 0)).setCell ⟨g4, 4, none⟩ (.int .i64 0)).setCell ⟨g4, 5, none⟩ (.slice none 0 0))) ?hg7 ?ho7 ?hn7 ?hr7 ?_; (case ho7 => rfl); (case hg7 => rfl); (case hn7 => rfl); (case hr7 => first | (go_simp; done) | (go_simp; rfl)); intro w3 hw; have HS3 := ((((((HS2.setAt 0 0 (.int .i64 0) rfl).setAt 0 1 (.int .i64 0) rfl).setAt 0 2 (.int .i64 0) rfl).setAt 0 3 (.int .i64 0) rfl).setAt 0 4 (.int .i64 0) rfl).setAt 0 5 (.slice none 0 0) rfl); rw [← hw] at HS3; have HB3 := Aside0.mk (show Below w.heap.size w w3 from by rw [hw]; exact ((((((HB2.out.setCell HG2.out _).setCell HG2.out _).setCell HG2.out _).setCell HG2.out _).setCell HG2.out _).setCell HG2.out _)); clear hw HS2 d0 d1 d2 d3 d4 d5 f0 f1 f2 f3 f4 f5 HB2; have d0 := HS3.cell 1 0 rfl rfl; have d1 := HS3.cell 1 1 rfl rfl; have d2 := HS3.cell 1 2 rfl rfl; have d3 := HS3.cell 1 3 rfl rfl; have d4 := HS3.cell 1 4 rfl rfl; have d5 := HS3.cell 1 5 rfl rfl; have f0 := HS3.frozen 1 0 rfl; have f1 := HS3.frozen 1 1 rfl; have f2 := HS3.frozen 1 2 rfl; have f3 := HS3.frozen 1 3 rfl; have f4 := HS3.frozen 1 4 rfl; have f5 := HS3.frozen 1 5 rfl; have e0 := HS3.cell 0 0 rfl rfl; have e1 := HS3.cell 0 1 rfl rfl; have e2 := HS3.cell 0 2 rfl rfl; have e3 := HS3.cell 0 3 rfl rfl; have e4 := HS3.cell 0 4 rfl rfl; have e5 := HS3.cell 0 5 rfl rfl; have h0 := HS3.frozen 0 0 rfl; have h1 := HS3.frozen 0 1 rfl; have h2 := HS3.frozen 0 2 rfl; have h3 := HS3.frozen 0 3 rfl; have h4 := HS3.frozen 0 4 rfl; have h5 := HS3.frozen 0 5 rfl; have k9' := (HB3.out.cell (World.block_lt_of_cell? _ _ K9.out)).trans K9.out) | ((with_reducible refine gate_store (t := 35) (p := 2) rfl ?_); refine store_event (t := 35) (p := 2) (v := ?vo4) (w1 := ((((((w3.setCell ⟨g2, 0, none⟩ (.int .i64 0)).setCell ⟨g2, 1, none⟩ (.int .i64 0)).setCell ⟨g2, 2, none⟩ (.int .i64 0)).setCell ⟨g2, 3, none⟩ (.int .i64 0)).setCell ⟨g2, 4, none⟩ (.int .i64 0)).setCell ⟨g2, 5, none⟩ (.slice none 0 0))) ?hg4 ?ho4 ?hn4 ?hr4 ?_; (case ho4 => rfl); (case hg4 => rfl); (case hn4 => rfl); (case hr4 => first | (go_simp; done) | (go_simp; rfl)); intro w4 hw; have HS4 := ((((((HS3.setAt 1 0 (.int .i64 0) rfl).setAt 1 1 (.int .i64 0) rfl).setAt 1 2 (.int .i64 0) rfl).setAt 1 3 (.int .i64 0) rfl).setAt 1 4 (.int .i64 0) rfl).setAt 1 5 (.slice none 0 0) rfl); rw [← hw] at HS4; clear hw HS3 d0 d1 d2 d3 d4 d5 f0 f1 f2 f3 f4 f5 e0 e1 e2 e3 e4 e5 h0 h1 h2 h3 h4 h5))
    refine bodyPost_ret (results_ct rfl _ _ g2 35 #[.int .i64 0, .int .i64 0, .int .i64 0, .int .i64 0, .int .i64 0, .slice none 0 0] (0, 0) _ rfl (HS4.block 1 rfl).1 hu35 rfl rfl) rfl ⟨rfl, HS4.tail.tail⟩

end Go.Proofs.Ytaojnbhnogndnaa.SL
