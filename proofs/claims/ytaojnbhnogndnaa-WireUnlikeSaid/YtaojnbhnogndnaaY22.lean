/- The words that the laws of the wire share; the law's first question (shown). -/
import Derived.Test.YtaojnbhnogndnaaY3
import Derived.Test.YtaojnbhnogndnaaY20
import Derived.Test.YtaojnbhnogndnaaY21
import Derived.Test.YtaojnbhnogndnaaPW16x14
import Derived.Test.YtaojnbhnogndnaaPW16x2
import Derived.Test.YtaojnbhnogndnaaPW16x4
import Derived.Test.YtaojnbhnogndnaaPW16x6
namespace Go.Proofs.Ytaojnbhnogndnaa.SL
open Go.RowKit Go.Proofs.YtaojnbhnogndnaaW.PrintWords Go.Proofs.YtaojnbhnogndnaaW.PrintLast Go.Proofs.YtaojnbhnogndnaaW.PrintMore
attribute [local go_sem] max2_int min2_int max_two min_two
attribute [local go_sem high] Small.cell_set_same
set_option linter.unusedVariables false
set_option linter.unusedSimpArgs false

theorem sum45 {w : World} (A : Option Addr) (m c : Nat) (xs : List Int) (s : Int) (hs : s = Crc.sum xs) (hr : kB.C w A m xs) (hc : m ≤ c) (hl : xs.length ≤ 140737488355328) :
    Calls Try.prog 45 #[.slice A m c] w fun e w' => e = .returned (.int .u32 s) ∧ Sat w w' [] := by
  obtain rfl : xs.length = m := hr.1
  subst hs
  obtain ⟨k, hk⟩ := (PW16.sum_w xs hl).rounds
  refine (PW16.wire_Sum.calls k A c xs _ w hr hc hk).mono ?_
  rintro e w' ⟨he, ⟨n, rfl⟩⟩
  exact ⟨he, (Sat.start w).drewN n⟩
theorem sum46 {w : World} (A : Option Addr) (m c : Nat) (xs : List Int) (s : Int) (hs : s = Crc.sum xs) (hr : kB.C w A m xs) (hc : m ≤ c) (hl : xs.length ≤ 140737488355328) :
    Calls Try.prog 46 #[.slice A m c] w fun e w' => e = .returned (.int .u32 s) ∧ Sat w w' [] := by
  obtain rfl : xs.length = m := hr.1
  subst hs
  obtain ⟨k, hk⟩ := (PW16.sum_r xs hl).rounds
  refine (PW16.majordomoref16_Sum.calls k A c xs _ w hr hc hk).mono ?_
  rintro e w' ⟨he, ⟨n, rfl⟩⟩
  exact ⟨he, (Sat.start w).drewN n⟩
theorem same44 {w : World} (k1 n1 t1 i1 c1 : Int) (A1 : Option Addr) (ca : Nat) (xs : List Int) (k2 n2 t2 i2 c2 : Int) (A2 : Option Addr) (cb : Nat) (ys : List Int) (l1 l2 : Nat) (hr1 : kB.C w A1 l1 xs) (hc1 : l1 ≤ ca) (hr2 : kB.C w A2 l2 ys) (hc2 : l2 ≤ cb) (he : k1 = k2 ∧ n1 = n2 ∧ t1 = t2 ∧ i1 = i2 ∧ c1 = c2 ∧ xs = ys) :
    Calls Try.prog 44 #[.agg #[.int .i64 k1, .int .i64 n1, .int .i64 t1, .int .i64 i1, .int .i64 c1, .slice A1 l1 ca], .agg #[.int .i64 k2, .int .i64 n2, .int .i64 t2, .int .i64 i2, .int .i64 c2, .slice A2 l2 cb]] w fun e w' => e = .returned (.bool true) ∧ Sat w w' [] := by
  obtain rfl : xs.length = l1 := hr1.1
  obtain rfl : ys.length = l2 := hr2.1
  obtain ⟨rfl, rfl, rfl, rfl, rfl, rfl⟩ := he
  refine (PW16.majordomoref16_Same.calls k1 n1 t1 i1 c1 A1 ca xs k1 n1 t1 i1 c1 A2 cb xs true w hr1 hc1 hr2 hc2 (by unfold PW16.majordomoref16_Same.f; simp)).mono ?_
  rintro e w' ⟨he, hb⟩
  exact ⟨he, (Sat.start w).keep hb⟩

theorem cut16 {w : World} (kd nd nc : Int) (A : Option Addr) (m c : Nat) (xs : List Int) (hr : kB.C w A m xs) (hc : m ≤ c) :
    Calls Try.prog 16 #[.agg #[.int .i64 kd, .int .i64 nd, .int .i64 nc, .slice A m c]] w fun e w' => ∃ v, e = .returned (.tuple #[v, .int .i64 (PW16.cutE kd nd nc xs)]) ∧ Sat w w' [rows kF 22 v (PW16.cutL kd nd nc xs)] := by
  obtain rfl : xs.length = m := hr.1
  obtain ⟨k, hk⟩ := (PW16.cut_r kd nd nc xs).rounds
  refine (PW16.majordomoref16_Cut.calls k kd nd nc A c xs _ _ w hr hc hk).mono ?_
  rintro e w' ⟨v, he, hS, hb⟩
  exact ⟨v, he, (Sat.start w).newRows hb hS (Nat.le_refl _)⟩
theorem cut16_ok {w : World} (kd nd nc : Int) (A : Option Addr) (m c : Nat) (xs : List Int) (n : Nat) (hz : PW16.cutE kd nd nc xs = 0) (hn : n = PW16.cutN xs.length) (hr : kB.C w A m xs) (hc : m ≤ c) :
    Calls Try.prog 16 #[.agg #[.int .i64 kd, .int .i64 nd, .int .i64 nc, .slice A m c]] w fun e w' => ∃ bf ofs cf, e = .returned (.tuple #[.slice (some ⟨bf, ofs, none⟩) n cf, .int .i64 0]) ∧ Sat w w' [rows kF 22 (.slice (some ⟨bf, ofs, none⟩) n cf) (PW16.cutB kd nd nc xs)] := by
  refine (cut16 kd nd nc A m c xs hr hc).mono ?_
  rintro e w' ⟨v, he, HS⟩
  have hl : (PW16.cutB kd nd nc xs).length = n := by rw [hn]; exact cutB_len _ _ _ _
  rw [(cutE_zero hz).2.2] at HS
  rw [hz] at he
  obtain ⟨Af, cf, rfl⟩ := HS.rowsShape 0 rfl
  rw [hl] at he HS
  have h1 := PW16.cutN_pos xs.length
  obtain ⟨bf, ofs, rfl, _⟩ := rows_row (HS.readsRows 0 rfl).2.2 (by rw [hl]; omega)
  exact ⟨bf, ofs, cf, he, HS⟩
/-- .. where it refuses: no frame. -/
theorem cut16_no {w : World} (kd nd nc : Int) (A : Option Addr) (m c : Nat) (xs : List Int) (ec : Int) (hz : PW16.cutE kd nd nc xs = ec) (h0 : ec ≠ 0) (hr : kB.C w A m xs) (hc : m ≤ c) :
    Calls Try.prog 16 #[.agg #[.int .i64 kd, .int .i64 nd, .int .i64 nc, .slice A m c]] w fun e w' => ∃ Af cf, e = .returned (.tuple #[.slice Af 0 cf, .int .i64 ec]) ∧ Sat w w' [] := by
  refine (cut16 kd nd nc A m c xs hr hc).mono ?_
  rintro e w' ⟨v, he, HS⟩
  rw [show PW16.cutL kd nd nc xs = [] from by unfold PW16.cutL; rw [if_neg (by rw [hz]; exact h0)]] at HS
  obtain ⟨Af, cf, rfl⟩ := HS.rowsShape 0 rfl
  rw [hz] at he
  exact ⟨Af, cf, he, HS.tail⟩

theorem cut42 {w : World} (kd nd nc : Int) (A : Option Addr) (m c : Nat) (xs : List Int) (hr : kB.C w A m xs) (hc : m ≤ c) :
    Calls Try.prog 42 #[.agg #[.int .i64 kd, .int .i64 nd, .int .i64 nc, .slice A m c]] w fun e w' => ∃ v, e = .returned (.tuple #[v, .int .i64 (PW16.cutE kd nd nc xs)]) ∧ Sat w w' [rows kF 22 v (PW16.cutL kd nd nc xs)] := by
  obtain rfl : xs.length = m := hr.1
  obtain ⟨k, hk⟩ := (PW16.cut_w kd nd nc xs).rounds
  refine (PW16.wire_Cut.calls k kd nd nc A c xs _ _ w hr hc hk).mono ?_
  rintro e w' ⟨v, he, hS, hb⟩
  exact ⟨v, he, (Sat.start w).newRows hb hS (Nat.le_refl _)⟩
theorem cut42_ok {w : World} (kd nd nc : Int) (A : Option Addr) (m c : Nat) (xs : List Int) (n : Nat) (hz : PW16.cutE kd nd nc xs = 0) (hn : n = PW16.cutN xs.length) (hr : kB.C w A m xs) (hc : m ≤ c) :
    Calls Try.prog 42 #[.agg #[.int .i64 kd, .int .i64 nd, .int .i64 nc, .slice A m c]] w fun e w' => ∃ bf ofs cf, e = .returned (.tuple #[.slice (some ⟨bf, ofs, none⟩) n cf, .int .i64 0]) ∧ Sat w w' [rows kF 22 (.slice (some ⟨bf, ofs, none⟩) n cf) (PW16.cutB kd nd nc xs)] := by
  refine (cut42 kd nd nc A m c xs hr hc).mono ?_
  rintro e w' ⟨v, he, HS⟩
  have hl : (PW16.cutB kd nd nc xs).length = n := by rw [hn]; exact cutB_len _ _ _ _
  rw [(cutE_zero hz).2.2] at HS
  rw [hz] at he
  obtain ⟨Af, cf, rfl⟩ := HS.rowsShape 0 rfl
  rw [hl] at he HS
  have h1 := PW16.cutN_pos xs.length
  obtain ⟨bf, ofs, rfl, _⟩ := rows_row (HS.readsRows 0 rfl).2.2 (by rw [hl]; omega)
  exact ⟨bf, ofs, cf, he, HS⟩
/-- .. where it refuses: no frame. -/
theorem cut42_no {w : World} (kd nd nc : Int) (A : Option Addr) (m c : Nat) (xs : List Int) (ec : Int) (hz : PW16.cutE kd nd nc xs = ec) (h0 : ec ≠ 0) (hr : kB.C w A m xs) (hc : m ≤ c) :
    Calls Try.prog 42 #[.agg #[.int .i64 kd, .int .i64 nd, .int .i64 nc, .slice A m c]] w fun e w' => ∃ Af cf, e = .returned (.tuple #[.slice Af 0 cf, .int .i64 ec]) ∧ Sat w w' [] := by
  refine (cut42 kd nd nc A m c xs hr hc).mono ?_
  rintro e w' ⟨v, he, HS⟩
  rw [show PW16.cutL kd nd nc xs = [] from by unfold PW16.cutL; rw [if_neg (by rw [hz]; exact h0)]] at HS
  obtain ⟨Af, cf, rfl⟩ := HS.rowsShape 0 rfl
  rw [hz] at he
  exact ⟨Af, cf, he, HS.tail⟩

/-- The wire's Read at a frame of a message. -/
theorem readFrame43 {w : World} (kd nd nc : Int) (xs : List Int) (i n : Nat) (hn : n = PW16.cutN xs.length) (A : Option Addr) (m c : Nat) (hr : kB.C w A m (PW16.frameOf kd nd nc xs i)) (hc : m ≤ c) (hh : PW16.okHead kd nd nc = true) (hl : xs.length ≤ 4096) (hx : ∀ x ∈ xs, 0 ≤ x ∧ x < 256) (hi : i < n) :
    Calls Try.prog 43 #[.slice A m c] w fun e w' => ∃ v, e = .returned (.tuple #[.agg #[.int .i64 kd, .int .i64 nd, .int .i64 nc, .int .i64 i, .int .i64 n, v], .int .i64 0]) ∧ Sat w w' [row kB 5 v (PW16.piece xs i)] := by
  subst hn
  obtain rfl : (PW16.frameOf kd nd nc xs i).length = m := hr.1
  obtain ⟨h0, h1, h2, h3, h4, h5, h6, h7⟩ := frameOf_reads kd nd nc xs hh hl i hi
  refine (Read43_fits A c _ h7 hr hc (frameOf_in kd nd nc hx i)).mono ?_
  rintro e w' ⟨hyes, _⟩
  obtain ⟨v, he, HS⟩ := hyes h0
  rw [h1, h2, h3, h4, h5] at he
  rw [h6] at HS
  exact ⟨v, he, HS⟩
theorem read_shown {w : World} {F : List Int} (hF : F = PW16.frameOf 1 2 5 [] 0) (A : Option Addr) (c : Nat) (hr : kB.C w A 14 F) (hc : 14 ≤ c) :
    Calls Try.prog 43 #[.slice A 14 c] w fun e w' => ∃ Ar cr, e = .returned (.tuple #[.agg #[.int .i64 1, .int .i64 2, .int .i64 5, .int .i64 0, .int .i64 1, .slice Ar 0 cr], .int .i64 0]) ∧ Sat w w' [row kB 5 (.slice Ar 0 cr) []] := by
  subst hF
  refine (readFrame43 1 2 5 [] 0 1 rfl A 14 c hr hc rfl (Nat.zero_le _) (fun x hx => absurd hx (List.not_mem_nil)) (by decide)).mono ?_
  rintro e w' ⟨v, rfl, HS⟩
  obtain ⟨Ar, cr, rfl⟩ := HS.rowShape 0 rfl
  exact ⟨Ar, cr, rfl, HS⟩
theorem read_short {w : World} (A : Option Addr) (m c : Nat) (xs : List Int) (hf : ¬ Fits xs) (hm : xs.length = m) (hr : kB.C w A xs.length xs) (hl : xs.length ≤ 140737488355328) (hx : ∀ x ∈ xs, 0 ≤ x ∧ x < 256) :
    Calls Try.prog 43 #[.slice A m c] w (NoFrame w []) := by
  subst hm
  exact Read43_short A c xs hf hr hl hx
theorem zeros_made (n : Nat) : madeCells #[.int .u8 0] n = ((List.replicate n (0 : Int)).map fun x => Value.int .u8 x).toArray := by
  unfold madeCells
  apply Array.ext
  · simp
  · intro i h1 h2
    simp [Nat.mod_one]
theorem nilB (w : World) : kB.C w none 0 [] := ⟨rfl, Nat.zero_le _, fun hh => absurd hh (Nat.lt_irrefl 0)⟩
theorem sum_shown : (3421780262 : Int) = Crc.sum [49, 50, 51, 52, 53, 54, 55, 56, 57] := by kernel_rfl
/-- The one frame of an empty message. -/
theorem frame1 : ∃ F : List Int, F = PW16.frameOf 1 2 5 [] 0 ∧ F.length = 14 ∧ (∀ x ∈ F, 0 ≤ x ∧ x < 256) ∧ ¬ Fits (F ++ [0]) ∧ (∀ x ∈ F ++ [0], 0 ≤ x ∧ x < 256) := by
  have hl : (PW16.frameOf 1 2 5 [] 0).length = 14 := by unfold PW16.frameOf; rw [PW16.frameB_len]; rfl
  have hx := frameOf_in 1 2 5 (xs := []) (fun x hx => absurd hx (List.not_mem_nil)) 0
  refine ⟨_, rfl, hl, hx, fun h => ?_, fun x h => ?_⟩
  · have h2 := h.2
    rw [List.length_append, hl] at h2
    have h3 : (PW16.frameOf 1 2 5 [] 0 ++ [0]).getD 9 0 = 0 := rfl
    rw [h3] at h2
    revert h2
    decide
  · rcases List.mem_append.1 h with h | h
    · exact hx x h
    · rw [List.mem_singleton.1 h]; decide
/-- A message of 49 bytes. -/
theorem zeros49 : ∃ (zs : List Int) (Z : Array Value), madeCells #[.int .u8 0] 49 = Z ∧ Z = (zs.map fun x => Value.int .u8 x).toArray ∧ zs.length = 49 ∧ PW16.cutE 1 2 5 zs = 0 ∧ 2 = PW16.cutN zs.length :=
  ⟨List.replicate 49 0, _, rfl, zeros_made 49, List.length_replicate, by unfold PW16.cutE; rw [if_pos (show PW16.okHead 1 2 5 = true from rfl), List.length_replicate]; rfl, by rw [List.length_replicate]; rfl⟩

/-! ### shown (majordomolaw16): function 41 -/
set_option maxHeartbeats 4000000 in
set_option maxRecDepth 100000 in
theorem shown16_calls {w : World} : Calls Try.prog 41 #[] w fun e w' => e = .returned (.bool true) ∧ Sat w w' [] := by
  have hu24 := Try.underlying24
  have hu35 := Try.underlying35
  have hmk := print_make_of (P := Try.prog) 22 5 (.int .u8 0) 1 Try.underlying22 inf5 rfl (by decide) 49 (by decide)
  have HS := Sat.start w
  obtain ⟨F, hF, hFl, hFx, hFn, hFy⟩ := frame1
  have HF := Aside0.mk hF
  have HFL := Aside0.mk hFl
  have HFN := Aside0.mk hFn
  have HFY := Aside0.mk hFy
  clear hF hFl hFx hFn hFy
  obtain ⟨zs, Z, hz1, hz2, hz3, hz4, hz5⟩ := zeros49
  rw [hz1] at hmk
  have hmk : ∀ W : World, (Instr.makeSlice 22 (.int .i64 49) (.int .i64 49)).run Try.prog W = .ok (.slice (some ⟨W.heap.size, 0, none⟩) 49 49) (W.alloc (.cells Z 5)) := hmk
  have HZ2 := Aside0.mk hz2
  have HZ3 := Aside0.mk hz3
  have HZ4 := Aside0.mk hz4
  have HZ5 := Aside0.mk hz5
  clear hz1 hz2 hz3 hz4 hz5
  go_enter Try.func41, Try.ntmps41
  go_wp2_with (first | (have hgd := HS; clear hgd; go_at_call 42; refine (cut42_ok 1 2 5 none 0 0 [] 1 rfl rfl (nilB _) (Nat.le_refl _)).mono ?_; rintro e w1 ⟨ba, oa, ca, rfl, HH⟩; have HS1 := HS.frame HH; clear HS HH) | ((with_reducible refine gate_dst (N := 17) rfl ?_); refine box_event2 ?hgm (N := 17) ?hdm (v := fun g => .slice (some ⟨g, 0, none⟩) 49 49) (cs := Z) (t := 5) ?hrm ?_; (case hdm => rfl); (case hgm => rfl); (case hrm => first | exact hmk _ | (go_simp; exact hmk _) | (go_simp; done) | (go_simp; rfl)); intro gm hg w2 hbox hb; rw [HZ2.out] at hbox; have HS2 := HS1.box hg hbox hb; clear HS1 hg hbox hb hmk) | (have hgd := HS2; clear hgd; go_at_call 42; refine (cut42_ok 1 2 5 (some ⟨gm, 0, none⟩) 49 49 zs 2 HZ4.out HZ5.out (by have h := C_blk (HS2.block 0 rfl).1 (by rw [HZ3.out]; decide); rw [HZ3.out] at h; exact h) (Nat.le_refl _)).mono ?_; rintro e w3 ⟨bb, ob, cb, rfl, HH⟩; have HS3 := (HS2.frame HH).pick 2 rfl; clear HS2 HH) | (have hgd := HS3; clear hgd; go_at_call 42; refine (cut42_no 4 2 0 none 0 0 [] 1 rfl (by decide) (nilB _) (Nat.le_refl _)).mono ?_; rintro e w4 ⟨Az, cz, rfl, HH⟩; have HS4 := HS3.frame HH; clear HS3 HH; obtain ⟨ba', oa', hbe, hrows⟩ := rows_row (HS4.readsRows 0 rfl).2.2 (show 0 < (PW16.cutB 1 2 5 []).length from by rw [cutB_len]; decide); injection hbe with hbe; injection hbe with hb1 hb2; subst hb1 hb2; obtain ⟨Ak, ck, kf, hck1, hck2⟩ := hrows 0 (by rw [cutB_len]; decide); rw [cutB_at 1 2 5 [] 0 (by decide), ← HF.out, HFL.out] at kf hck1 hck2; rw [Nat.add_zero] at kf; have HCK2 := Aside0.mk hck2; clear hrows hck2) | (have hgd := HS4; clear hgd; go_at_call 43; refine (read_shown HF.out Ak ck HCK2.out hck1).mono ?_; rintro e w5 ⟨Ar, cr, rfl, HH⟩; have HS5 := HS4.frame HH; clear HS4 HH kf hck1 HCK2) | ((with_reducible refine gate_dst (N := 7) rfl ?_); refine box_event ?hg2 (N := 7) ?hd2 (cs := #[.int .i64 0, .int .i64 0, .int .i64 0, .int .i64 0, .int .i64 0, .slice none 0 0]) (t := 35) ?hr2 ?_; (case hd2 => rfl); (case hg2 => rfl); (case hr2 => first | (go_simp; done) | (go_simp; rfl)); intro g7 hg w6 hbox hb; have HS6 := HS5.box hg hbox hb; clear HS5 hg hbox hb; have d0 := HS6.cell 0 0 rfl rfl; have d1 := HS6.cell 0 1 rfl rfl; have d2 := HS6.cell 0 2 rfl rfl; have d3 := HS6.cell 0 3 rfl rfl; have d4 := HS6.cell 0 4 rfl rfl; have d5 := HS6.cell 0 5 rfl rfl; have f0 := HS6.frozen 0 0 rfl; have f1 := HS6.frozen 0 1 rfl; have f2 := HS6.frozen 0 2 rfl; have f3 := HS6.frozen 0 3 rfl; have f4 := HS6.frozen 0 4 rfl; have f5 := HS6.frozen 0 5 rfl) | ((with_reducible refine gate_store (t := 35) (p := 7) rfl ?_); refine store_event (t := 35) (p := 7) (v := ?vo3) (w1 := ((((((w6.setCell ⟨g7, 0, none⟩ (.int .i64 1)).setCell ⟨g7, 1, none⟩ (.int .i64 2)).setCell ⟨g7, 2, none⟩ (.int .i64 5)).setCell ⟨g7, 3, none⟩ (.int .i64 0)).setCell ⟨g7, 4, none⟩ (.int .i64 1)).setCell ⟨g7, 5, none⟩ (.slice Ar 0 cr))) ?hg3 ?ho3 ?hn3 ?hr3 ?_; (case ho3 => rfl); (case hg3 => rfl); (case hn3 => rfl); (case hr3 => first | (go_simp; done) | (go_simp; rfl)); intro w7 hw; have HS7 := ((((((HS6.setAt 0 0 (.int .i64 1) rfl).setAt 0 1 (.int .i64 2) rfl).setAt 0 2 (.int .i64 5) rfl).setAt 0 3 (.int .i64 0) rfl).setAt 0 4 (.int .i64 1) rfl).setAt 0 5 (.slice Ar 0 cr) rfl); rw [← hw] at HS7; clear hw HS6 d0 d1 d2 d3 d4 d5 f0 f1 f2 f3 f4 f5) | ((with_reducible refine gate_dst (N := 58) rfl ?_); refine box_event2 ?hg4 (N := 58) ?hd4 (v := fun g => .slice (some ⟨g, 0, none⟩) 0 0) (cs := #[]) (t := 5) ?hr4 ?_; (case hd4 => rfl); (case hg4 => rfl); (case hr4 => first | (go_simp; done) | (go_simp; rfl)); intro g58 hg w8 hbox hb; have HS8' := HS7.box hg hbox hb; clear HS7 hg hbox hb; have HS8 := HS8'.emptyRow0 kB; clear HS8'; obtain ⟨ba', oa', hbe, hrows⟩ := rows_row (HS8.readsRows 3 rfl).2.2 (show 0 < (PW16.cutB 1 2 5 []).length from by rw [cutB_len]; decide); injection hbe with hbe; injection hbe with hb1 hb2; subst hb1 hb2; obtain ⟨Ak, ck, kf, hck1, hck2⟩ := hrows 0 (by rw [cutB_len]; decide); rw [cutB_at 1 2 5 [] 0 (by decide), ← HF.out, HFL.out] at kf hck1 hck2; rw [Nat.add_zero] at kf; have HCK2 := Aside0.mk hck2; clear hrows hck2) | ((with_reducible refine gate_builtin (b := .append) (xs := #[.tmp 58, .tmp 61]) rfl ?_); refine appRow kB rfl (.tmp 58) (.tmp 61) 22 5 (.int .u8 0) 1 rfl Try.underlying22 inf5 rfl (by decide) (by decide) _ [] F Ak 14 ck rfl rfl HS8 HCK2.out (fun _ _ h => h) (by decide) ?_; intro vb w9 HS9; rw [List.nil_append] at HS9; clear HS8 kf hck1 HCK2; obtain ⟨Ab, cb1, rfl⟩ := HS9.rowShape 0 rfl; rw [HFL.out] at HS9) | ((with_reducible refine gate_dst (N := 63) rfl ?_); refine box_event2 ?hg5 (N := 63) ?hd5 (v := fun g => .slice (some ⟨g, 0, none⟩) 1 1) (cs := #[.int .u8 0]) (t := 5) ?hr5 ?_; (case hd5 => rfl); (case hg5 => rfl); (case hr5 => first | (go_simp; done) | (go_simp; rfl)); intro g63 hg w10 hbox hb; have HS10 := HS9.box hg hbox hb; clear HS9 hg hbox hb) | ((with_reducible refine gate_builtin (b := .append) (xs := #[.tmp 62, .tmp 63]) rfl ?_); refine appRow kB rfl (.tmp 62) (.tmp 63) 22 5 (.int .u8 0) 1 rfl Try.underlying22 inf5 rfl (by decide) (by decide) _ F [0] (some ⟨g63, 0, none⟩) 1 1 ?hs1 rfl (HS10.pick 1 rfl) (C_blk (xs := [0]) (HS10.block 0 rfl).1 (by decide)) (fun _ _ h => h) (by rw [HFL.out]; decide) ?_; (case hs1 => first | rfl | (rw [HFL.out]; rfl)); intro vc w11 HS11; clear HS10; obtain ⟨Ac, cc, rfl⟩ := HS11.rowShape 0 rfl) | (go_at_call 43; refine (read_short Ac _ cc (F ++ [0]) HFN.out (by rw [List.length_append]; rfl) (HS11.readsRow 0 rfl).2.2 (by rw [List.length_append, HFL.out]; decide) HFY.out).mono ?_; rintro e w12 ⟨rfl, HH⟩; have HS12 := HS11.frame HH; clear HS11 HH) | ((with_reducible refine gate_dst (N := 9) rfl ?_); refine box_event ?hg6 (N := 9) ?hd6 (cs := #[.int .i64 0, .int .i64 0, .int .i64 0, .int .i64 0, .int .i64 0, .slice none 0 0]) (t := 35) ?hr6 ?_; (case hd6 => rfl); (case hg6 => rfl); (case hr6 => first | (go_simp; done) | (go_simp; rfl)); intro g9 hg w13 hbox hb; have HS13 := HS12.box hg hbox hb; clear HS12 hg hbox hb; have d0 := HS13.cell 0 0 rfl rfl; have d1 := HS13.cell 0 1 rfl rfl; have d2 := HS13.cell 0 2 rfl rfl; have d3 := HS13.cell 0 3 rfl rfl; have d4 := HS13.cell 0 4 rfl rfl; have d5 := HS13.cell 0 5 rfl rfl; have f0 := HS13.frozen 0 0 rfl; have f1 := HS13.frozen 0 1 rfl; have f2 := HS13.frozen 0 2 rfl; have f3 := HS13.frozen 0 3 rfl; have f4 := HS13.frozen 0 4 rfl; have f5 := HS13.frozen 0 5 rfl) | ((with_reducible refine gate_store (t := 35) (p := 9) rfl ?_); refine store_event (t := 35) (p := 9) (v := ?vo7) (w1 := ((((((w13.setCell ⟨g9, 0, none⟩ (.int .i64 0)).setCell ⟨g9, 1, none⟩ (.int .i64 0)).setCell ⟨g9, 2, none⟩ (.int .i64 0)).setCell ⟨g9, 3, none⟩ (.int .i64 0)).setCell ⟨g9, 4, none⟩ (.int .i64 0)).setCell ⟨g9, 5, none⟩ (.slice none 0 0))) ?hg7 ?ho7 ?hn7 ?hr7 ?_; (case ho7 => rfl); (case hg7 => rfl); (case hn7 => rfl); (case hr7 => first | (go_simp; done) | (go_simp; rfl)); intro w14 hw; have HS14 := ((((((HS13.setAt 0 0 (.int .i64 0) rfl).setAt 0 1 (.int .i64 0) rfl).setAt 0 2 (.int .i64 0) rfl).setAt 0 3 (.int .i64 0) rfl).setAt 0 4 (.int .i64 0) rfl).setAt 0 5 (.slice none 0 0) rfl); rw [← hw] at HS14; clear hw HS13 d0 d1 d2 d3 d4 d5 f0 f1 f2 f3 f4 f5) | ((with_reducible refine gate_dst (N := 68) rfl ?_); refine box_event2 ?hg8 (N := 68) ?hd8 (v := fun g => .slice (some ⟨g, 0, none⟩) 9 9) (cs := #[.int .u8 49, .int .u8 50, .int .u8 51, .int .u8 52, .int .u8 53, .int .u8 54, .int .u8 55, .int .u8 56, .int .u8 57]) (t := 5) ?hr8 ?_; (case hd8 => rfl); (case hg8 => rfl); (case hr8 => first | (go_simp; done) | (go_simp; rfl)); intro g68 hg w15 hbox hb; have HS15 := HS14.box hg hbox hb; clear HS14 hg hbox hb) | ((with_reducible refine gate_dst (N := 69) rfl ?_); refine mark_ev rfl (N := 69) rfl 22 5 (.tmp 68) rfl Try.underlying22 Try.underlying5 (n := 9) (c := 9) rfl HS15 ?_; intro w16 HS16; clear HS15) | (go_at_call 45; refine (sum45 (some ⟨g68, 0, none⟩) 9 9 [49, 50, 51, 52, 53, 54, 55, 56, 57] 3421780262 sum_shown (C_blk (xs := [49, 50, 51, 52, 53, 54, 55, 56, 57]) (HS16.block 0 rfl).1 (by decide)) (Nat.le_refl _) (by decide)).mono ?_; rintro e w17 ⟨rfl, HH⟩; have HS17 := HS16.frame HH; clear HS16 HH; have d0 := HS17.cell 4 0 rfl rfl; have d1 := HS17.cell 4 1 rfl rfl; have d2 := HS17.cell 4 2 rfl rfl; have d3 := HS17.cell 4 3 rfl rfl; have d4 := HS17.cell 4 4 rfl rfl))
  go_ret
  exact ⟨rfl, HS17.tail.tail.tail.tail.tail.tail.tail.tail.tail⟩

end Go.Proofs.Ytaojnbhnogndnaa.SL
