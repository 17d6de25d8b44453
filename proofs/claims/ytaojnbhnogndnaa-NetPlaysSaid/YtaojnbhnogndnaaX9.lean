/- The law NetOrder: what it answers. -/
import Derived.Test.YtaojnbhnogndnaaX8
namespace Go.Proofs.Ytaojnbhnogndnaa.SL
open Go.RowKit Go.Proofs.YtaojnbhnogndnaaW.PrintWords Go.Proofs.YtaojnbhnogndnaaW.PrintLast Go.Proofs.YtaojnbhnogndnaaW.PrintMore
attribute [local go_sem] max2_int min2_int max_two min_two
attribute [local go_sem high] Small.cell_set_same
set_option linter.unusedVariables false
set_option linter.unusedSimpArgs false

/-- The packets of the first m frames, each to its number. -/
def pk (fs : List (List Int)) (m : Nat) : List (Int × List Int) := (List.range m).map fun (j : Nat) => ((j : Int), fs.getD j [])
theorem pkLen (fs : List (List Int)) (m : Nat) : (pk fs m).length = m := by simp [pk]
theorem pkSucc (fs : List (List Int)) (m : Nat) : pk fs (m + 1) = pk fs m ++ [((m : Int), fs.getD m [])] := by simp [pk, List.range_succ]
theorem pkDrop (fs : List (List Int)) (m j : Nat) (hj : j < m) : (pk fs m).drop j = ((j : Int), fs.getD j []) :: (pk fs m).drop (j + 1) := by
  rw [List.drop_eq_getElem_cons (by rw [pkLen]; exact hj)]
  simp [pk]
theorem one_fr {w : World} {g c : Nat} {B : Option Addr} {x : List Int} (h : w.cell? ⟨g, 0, none⟩ = some (.slice B x.length c)) (hc : x.length ≤ c) (hr : kB.C w B x.length x) : (Kd.slice 5 kB).C w (some ⟨g, 0, none⟩) 1 [x] := by
  refine ⟨rfl, by decide, fun _ => ⟨_, rfl, fun j y hj => ?_⟩⟩
  match j, hj with
  | 0, hj => injection hj with hj; subst hj; exact ⟨[.slice B x.length c], rfl, ⟨_, _, rfl, hc, hr⟩, fun i v hi => by match i, hi with | 0, hi => (injection hi with hi; subst hi; exact h)⟩

theorem pkStep (fs : List (List Int)) (i : Nat) : ∃ lost : Int, lost = (([fs.getD i []].length - min [fs.getD i []].length (256 - (pk fs (min i 256)).length) : Nat) : Int) ∧ pk fs (min (i + 1) 256) = pk fs (min i 256) ++ ([fs.getD i []].take (256 - (pk fs (min i 256)).length)).map (fun f => ((i : Int), f)) ∧ (lost == 0) = decide ((i : Int) < 256) := by
  rw [pkLen]
  by_cases h : i < 256
  · have h1 : min i 256 = i := Nat.min_eq_left (by omega)
    have h2 : min (i + 1) 256 = i + 1 := Nat.min_eq_left (by omega)
    rw [h1, h2, pkSucc]
    obtain ⟨k, hk⟩ : ∃ k, 256 - i = k + 1 := ⟨255 - i, by omega⟩
    rw [hk]
    exact ⟨0, by simp, by simp, by simp; omega⟩
  · have h1 : min i 256 = 256 := Nat.min_eq_right (by omega)
    have h2 : min (i + 1) 256 = 256 := Nat.min_eq_right (by omega)
    rw [h1, h2]
    exact ⟨1, by simp, by simp, by simp; omega⟩

/-! ### NetOrder: function 7 -/
set_option maxHeartbeats 4000000 in
set_option maxRecDepth 100000 in
theorem NetOrder_calls (A : Option Addr) (c : Nat) (fs : List (List Int)) (w : World) (hr : (Kd.slice 5 kB).C w A fs.length fs) (hc : fs.length ≤ c) (hb : ∀ x ∈ fs, x.length ≤ 140737488355328) :
    Calls Try.prog 7 #[.slice A fs.length c] w fun e w' => e = .returned (.bool true) ∧ Below w.heap.size w w' := by
  have hu52 := Try.underlying52
  have HS := Sat.start w
  have HR := Aside0.mk hr
  have HC := Aside0.mk hc
  have HB := Aside0.mk hb
  clear hr hc hb
  go_enter Try.func7, Try.ntmps7
  go_wp2_with (first | (go_at_call 22; refine (shown18_calls HS).mono ?_; rintro e w1 ⟨rfl, HS1⟩; clear HS) | (go_at_call 23; refine (New_calls HS1).mono ?_; rintro e w2 ⟨g, rfl, HS2⟩; clear HS1))
  go_loopw [5] (fun v5 wr => ∃ i : Nat, v5 = .int .i64 i ∧ i ≤ 300 ∧ i ≤ fs.length ∧ Sat w wr [bag g (pk fs (min i 256))]) (fun i _ => 300 - (intOf i).toNat)
  case atStart => exact ⟨0, rfl, by omega, by omega, HS2⟩
  case round =>
    obtain ⟨i, rfl, hi, hil, HS3⟩ := hrel
    clear HS2
    by_cases hlt : i < fs.length ∧ i < 300
    · obtain ⟨hlt, hlt3⟩ := hlt
      have hd1 : decide ((i : Int) < (fs.length : Int)) = true := decide_eq_true (by omega)
      have hd2 : decide ((i : Int) < 300) = true := decide_eq_true (by omega)
      obtain ⟨ad, B, cb, rfl, k0, hcb, hrb⟩ := fr_at HR.out i (by omega)
      have hx1 := HB.out (fs.getD i []) (by rw [List.getD_eq_getElem?_getD, List.getElem?_eq_getElem hlt]; exact List.getElem_mem _)
      have k0 := (HS3.below.cell (World.block_lt_of_cell? _ _ k0)).trans k0
      obtain ⟨x, hx⟩ : ∃ x, x = fs.getD i [] := ⟨_, rfl⟩
      rw [← hx] at k0 hcb hrb hx1
      have HX := Aside0.mk hx1
      have HXX := Aside0.mk hx
      have HCB := Aside0.mk hcb
      have HRB := Aside0.mk hrb
      clear hx1 hx hcb hrb
      obtain ⟨lost, hL, hP, hl1⟩ : ∃ lost : Int, lost = (([x].length - min [x].length (256 - (pk fs (min i 256)).length) : Nat) : Int) ∧ pk fs (min (i + 1) 256) = pk fs (min i 256) ++ ([x].take (256 - (pk fs (min i 256)).length)).map (fun f => ((i : Int), f)) ∧ (lost == 0) = decide ((i : Int) < 256) := by
        rw [HXX.out]; exact pkStep fs i
      have HL := Aside0.mk hL
      have HP := Aside0.mk hP
      clear hL hP
      go_wp2_with (first | ((with_reducible refine gate_dst (N := 35) rfl ?_); refine box_event2 ?hg1 (N := 35) ?hd1 (v := fun g => .slice (some ⟨g, 0, none⟩) 1 1) (cs := #[.slice B x.length cb]) (t := 22) ?hr1 ?_; (case hd1 => rfl); (case hg1 => rfl); (case hr1 => first | (go_simp; done) | (go_simp; rfl)); intro g3 hg w4 hbox hb; have HS4 := HS3.box hg hbox hb; clear HS3 hg hbox hb k0) | (go_at_call 25; refine (Send_calls (L := [blk g3 (.cells #[.slice B x.length cb] 22 (0, 0))]) g _ (i : Int) (some ⟨g3, 0, none⟩) 1 [x] (by rw [pkLen]; omega) (Nat.le_refl _) (fun y hy => by simp at hy; rw [hy]; exact HX.out) (fun w' h => one_fr (h.cell 0 0 rfl rfl) HCB.out (Kd.C_below HRB.out h.below)) HS4.swap).mono ?_; rintro e w5 ⟨he, HS5'⟩; obtain rfl : e = .returned (.int .i64 lost) := he.trans (congrArg (fun k => Ending.returned (.int .i64 k)) HL.out.symm); have HS5 : Sat w w5 [bag g (pk fs (min (i + 1) 256))] := by {rw [HP.out]; exact HS5'.swap.tail}; clear HS4 HS5'))
      exact ⟨⟨i + 1, by rw [Int.natCast_add]; rfl, by omega, by omega, HS5⟩, by simp [intOf]; omega⟩
    · obtain ⟨M, hM⟩ : ∃ M, M = min fs.length 256 := ⟨_, rfl⟩
      have hM1 : min i 256 = M := by omega
      rw [hM1] at HS3
      have hmin : (if (256 : Int) < (fs.length : Int) then (256 : Int) else (fs.length : Int)) = (M : Int) := by rw [hM]; split <;> omega
      have hMf : M ≤ fs.length := by omega
      have hM2 : M ≤ 256 := by omega
      have hcases : (decide (i < fs.length) = false ∧ decide ((i : Int) < (fs.length : Int)) = false) ∨ (decide (i < fs.length) = true ∧ decide ((i : Int) < 300) = false) := by
        by_cases h : i < fs.length
        · exact .inr ⟨decide_eq_true (by omega), decide_eq_false (by omega)⟩
        · exact .inl ⟨decide_eq_false (by omega), decide_eq_false (by omega)⟩
      clear hM hM1 hlt
      rcases hcases with ⟨hd1, hd2⟩ | ⟨hd1, hd2⟩
      all_goals
        go_wp2_with (first | (go_at_call 29; refine (Len_calls g _ HS3).mono ?_; rintro e w4 ⟨he, HS4⟩; rw [pkLen] at he; subst he; clear HS3))
        clear hd1 hd2
        go_loopw [8] (fun v8 wr => ∃ j : Nat, v8 = .int .i64 j ∧ j ≤ M ∧ Sat w wr [bag g ((pk fs M).drop j)]) (fun j _ => M - (intOf j).toNat)
        case atStart => exact ⟨0, rfl, Nat.zero_le _, HS4⟩
        case round =>
          obtain ⟨j, rfl, hj, HS5⟩ := hrel
          clear HS4
          by_cases hlt : j < M
          · have hlt1 : (j : Int) < (M : Int) := by omega
            obtain ⟨ad, B, cb, rfl, k0, hcb, hrb⟩ := fr_at HR.out j (by omega)
            have hx1 := HB.out (fs.getD j []) (by rw [List.getD_eq_getElem?_getD, List.getElem?_eq_getElem (by omega)]; exact List.getElem_mem _)
            rw [pkDrop fs M j hlt] at HS5
            obtain ⟨x, hx⟩ : ∃ x, x = fs.getD j [] := ⟨_, rfl⟩
            obtain ⟨q, hq⟩ : ∃ q, q = (pk fs M).drop (j + 1) := ⟨_, rfl⟩
            have hq2 : q.length ≤ 255 := by rw [hq, List.length_drop, pkLen]; omega
            rw [← hx] at k0 hcb hrb hx1 HS5
            rw [← hq] at HS5
            have k1 := (HS5.below.cell (World.block_lt_of_cell? _ _ k0)).trans k0
            have HQ := Aside0.mk hq
            have HCB := Aside0.mk hcb
            have HRB := Aside0.mk hrb
            clear hx1 hx hcb hrb hq
            go_wp2_with (first | (go_at_call 26; refine (Deliver_yes g (((j : Int), x) :: q) 0 (Nat.zero_lt_succ _) (by rw [List.length_cons]; omega) HS5).mono ?_; rintro e w5 ⟨v, he, HS6'⟩; have HS6 : Sat w w5 (row kB 5 v x :: bag g q :: []) := HS6'; obtain ⟨A1, c1, rfl⟩ := HS6.rowShape 0 rfl; obtain rfl : e = .returned (.tuple #[.agg #[.int .i64 j, .slice A1 x.length c1], .int .i64 0]) := he; clear HS5 HS6' k1) | ((with_reducible refine gate_dst (N := 9) rfl ?_); refine box_event ?hg2 (N := 9) ?hd2 (cs := #[.int .i64 0, .slice none 0 0]) (t := 52) ?hr2 ?_; (case hd2 => rfl); (case hg2 => rfl); (case hr2 => first | (go_simp; done) | (go_simp; rfl)); intro g9 hg w6 hbox hb; have HS7 := HS6.box hg hbox hb; clear HS6 hg hbox hb; have d0 := HS7.cell 0 0 rfl rfl; have d1 := HS7.cell 0 1 rfl rfl; have f0 := HS7.frozen 0 0 rfl; have f1 := HS7.frozen 0 1 rfl) | ((with_reducible refine gate_store (t := 52) (p := 9) rfl ?_); refine store_event (t := 52) (p := 9) (v := ?vo3) (w1 := ((w6.setCell ⟨g9, 0, none⟩ (.int .i64 j)).setCell ⟨g9, 1, none⟩ (.slice A1 x.length c1))) ?hg3 ?ho3 ?hn3 ?hr3 ?_; (case ho3 => rfl); (case hg3 => rfl); (case hn3 => rfl); (case hr3 => first | (go_simp; done) | (go_simp; rfl)); intro w7 hw; have HS8 := ((HS7.setAt 0 0 (.int .i64 j) rfl).setAt 0 1 (.slice A1 x.length c1) rfl); rw [← hw] at HS8; clear hw HS7 d0 d1 f0 f1))
            refine region (frees [0, 1, 2] (helds [3, 4, 5, 6, 7, 8, 9, 10, 11, 12, 13, 14, 15, 16, 17, 18] .done)) (fun w' => w'.cell? ⟨g9, 0, none⟩ = some (.int .i64 j) ∧ w'.cell? ⟨g9, 1, none⟩ = some (.slice A1 x.length c1) ∧ w'.cell? (ad.add j) = some (.slice B x.length cb) ∧ (convert 22 9 (.slice A1 x.length c1)).run Try.prog w' = .ok (.string (strOfNums x)) w' ∧ (convert 22 9 (.slice B x.length cb)).run Try.prog w' = .ok (.string (strOfNums x)) w') [] (by kernel_rfl) (by kernel_rfl) ?_
            have HS9 := HS8.drew
            generalize w7.drew = w8 at HS9 ⊢
            have d0 : w8.cell? ⟨g9, 0, none⟩ = some (.int .i64 j) := HS9.cell 0 0 rfl rfl
            have d1 : w8.cell? ⟨g9, 1, none⟩ = some (.slice A1 x.length c1) := HS9.cell 0 1 rfl rfl
            have k1 := (HS9.below.cell (World.block_lt_of_cell? _ _ k0)).trans k0
            have s1 := Kd.C_string (P := Try.prog) (src := 22) (dst := 9) (c := c1) Try.underlying22 Try.underlying5 Try.underlying9 (HS9.readsRow 1 rfl).2.2
            have s2 := Kd.C_string (P := Try.prog) (src := 22) (dst := 9) (c := cb) Try.underlying22 Try.underlying5 Try.underlying9 (Kd.C_below HRB.out HS9.below)
            have hjf : j < fs.length := by omega
            clear HS8 k0
            repeat (first | (refine st_free (v := ?_) (a' := ?_) (by simp only [List.getElem?_toArray, List.getElem?_cons_succ, List.getElem?_cons_zero]; rfl) (by rfl) ?_ ?_ ?_; rotate_left 2; (intro w'; go_simp; with_reducible rfl); (simp only [Act.put, List.setIfInBounds_toArray, List.set_cons_zero, List.set_cons_succ]; rfl)) | (refine st_held (v := ?_) (a' := ?_) ⟨d0, d1, k1, s1, s2⟩ (by simp only [List.getElem?_toArray, List.getElem?_cons_succ, List.getElem?_cons_zero]; rfl) (by rfl) ?_ ?_ ?_; rotate_left 2; (rintro w' ⟨z0, z1, z2, z3, z4⟩; go_simp; with_reducible rfl); (simp only [Act.put, List.setIfInBounds_toArray, List.set_cons_zero, List.set_cons_succ]; rfl)))
            refine st_done ?_
            go_wp2
            exact ⟨⟨j + 1, by rw [Int.natCast_add]; rfl, by omega, by rw [← HQ.out]; exact HS9.tail.tail⟩, by simp [intOf]; omega⟩
          · obtain rfl : j = M := by omega
            have hnil : (pk fs j).drop j = [] := List.drop_of_length_le (by rw [pkLen]; omega)
            rw [hnil] at HS5
            go_wp2_with (first | (go_at_call 29; refine (Len_calls g [] HS5).mono ?_; rintro e w6 ⟨he, HS6⟩; obtain rfl : e = .returned (.int .i64 0) := he; clear HS5))
            go_ret
            exact ⟨rfl, HS6.below⟩

end Go.Proofs.Ytaojnbhnogndnaa.SL
