/- The law NetLoses: what it answers. -/
import Derived.Test.YtaojnbhnogndnaaX9
namespace Go.Proofs.Ytaojnbhnogndnaa.SL
open Go.RowKit Go.Proofs.YtaojnbhnogndnaaW.PrintWords Go.Proofs.YtaojnbhnogndnaaW.PrintLast Go.Proofs.YtaojnbhnogndnaaW.PrintMore
attribute [local go_sem] max2_int min2_int max_two min_two
attribute [local go_sem high] Small.cell_set_same
set_option linter.unusedVariables false
set_option linter.unusedSimpArgs false

/-- How many packets the bag at block g has. -/
def bagLen (g : Nat) (w : World) : Nat := match w.cell? ⟨g, 0, none⟩ with | some (.slice _ n _) => n | _ => 0
theorem bagLen_of {w0 w : World} {L : List Asrt} {g : Nat} {ps : List (Int × List Int)} (h : Sat w0 w (bag g ps :: L)) : bagLen g w = ps.length := by
  obtain ⟨v, h1⟩ := h.bagE
  obtain ⟨A, c, rfl⟩ := h1.rowsShape 1 rfl
  have c0 : w.cell? ⟨g, 0, none⟩ = some (.slice A ps.length c) := h1.cell 0 0 rfl rfl
  unfold bagLen
  rw [c0]
theorem int_at {w : World} {k : IntKind} {A : Option Addr} {n : Nat} {xs : List Int} (hr : (Kd.int k).C w A n xs) (i : Nat) (hi : i < n) : ∃ ad, A = some ad ∧ w.cell? (ad.add i) = some (.int k (xs.getD i 0)) := by
  obtain ⟨ad, c, e, _, hK, hc⟩ := Kd.C_get hr 0 (i : Int) (by omega) (by omega)
  simp only [Int.toNat_natCast] at hK hc
  have hK' : c = [.int k (xs.getD i 0)] := hK
  subst hK'
  refine ⟨ad, e, ?_⟩
  have := hc 0 _ rfl
  have h1 : (Kd.int k).sz = 1 := rfl
  rw [h1, Nat.mul_one, Nat.add_zero] at this
  exact this

/-! ### NetLoses: function 8 -/
set_option maxHeartbeats 4000000 in
set_option maxRecDepth 100000 in
theorem NetLoses_calls (A : Option Addr) (c : Nat) (fs : List (List Int)) (N : Option Addr) (cn : Nat) (ns : List Int) (w : World) (hr : (Kd.slice 5 kB).C w A fs.length fs) (hc : fs.length ≤ c) (hb : ∀ x ∈ fs, x.length ≤ 140737488355328) (hn : (Kd.int .i64).C w N ns.length ns) (hcn : ns.length ≤ cn) :
    Calls Try.prog 8 #[.slice A fs.length c, .slice N ns.length cn] w fun e w' => e = .returned (.bool true) ∧ Below w.heap.size w w' := by
  have hu52 := Try.underlying52
  have HS := Sat.start w
  obtain ⟨gs, hgs⟩ : ∃ gs, gs = fs.take 256 := ⟨_, rfl⟩
  have hgl : gs.length ≤ fs.length := by rw [hgs, List.length_take]; omega
  have hgc : gs.length ≤ c := by omega
  have hg2 : gs.length ≤ 256 := by rw [hgs, List.length_take]; omega
  have hmin : (if (256 : Int) < (fs.length : Int) then (256 : Int) else (fs.length : Int)) = (gs.length : Int) := by rw [hgs, List.length_take]; split <;> omega
  have HGR := Aside0.mk (show (Kd.slice 5 kB).C w A gs.length gs by
    have h1 := Kd.C_take (m := gs.length) hr hgl
    have h2 : fs.take gs.length = gs := by
      rw [hgs, List.length_take]
      rcases Nat.le_total 256 fs.length with h | h
      · rw [Nat.min_eq_left h]
      · rw [Nat.min_eq_right h, List.take_of_length_le h, List.take_length]
    rw [h2] at h1
    exact h1)
  have HGB := Aside0.mk (show ∀ x ∈ gs, x.length ≤ 140737488355328 from fun x hx => hb x (by rw [hgs] at hx; exact List.mem_of_mem_take hx))
  have HGC := Aside0.mk hgc
  have HNR := Aside0.mk hn
  have HCN := Aside0.mk hcn
  clear hr hb hgs hn hcn
  go_enter Try.func8, Try.ntmps8
  go_wp2_with (first | (go_at_call 22; refine (shown18_calls HS).mono ?_; rintro e w1 ⟨rfl, HS1⟩; clear HS) | (go_at_call 23; first | (refine (New_calls HS1).mono ?_; rintro e w2 ⟨g1, rfl, HS2⟩; clear HS1) | (refine (New_calls HS2).mono ?_; rintro e w3 ⟨g2, rfl, HS3⟩; clear HS2)) | (go_at_call 25; first | (refine (Send_calls g1 [] 1 A c gs (Nat.zero_le _) HGC.out HGB.out (fun w' h => Kd.C_below HGR.out h.below) HS3.swap).mono ?_; rintro e w4 ⟨rfl, HS4⟩; clear HS3) | (refine (Send_calls g2 [] 1 A c gs (Nat.zero_le _) HGC.out HGB.out (fun w' h => Kd.C_below HGR.out h.below) HS4.swap).mono ?_; rintro e w5 ⟨rfl, HS5⟩; clear HS4)))
  obtain ⟨ps, hps⟩ : ∃ ps, ps = [] ++ (gs.take (256 - ([] : List (Int × List Int)).length)).map (fun f => ((1 : Int), f)) := ⟨_, rfl⟩
  rw [← hps] at HS5
  have hpl : ps.length ≤ 256 := by rw [hps, List.length_append, List.length_map, List.length_take]; simp; omega
  clear hps
  go_loopw [9] (fun v9 wr => ∃ (i : Nat) (ps : List (Int × List Int)), v9 = .int .i64 i ∧ i ≤ 60 ∧ i ≤ ns.length ∧ ps.length ≤ 256 ∧ Sat w wr [bag g1 ps, bag g2 ps]) (fun i _ => 60 - (intOf i).toNat)
  case atStart => exact ⟨0, ps, rfl, by omega, by omega, hpl, HS5.swap⟩
  case round =>
    clear HS5 hpl ps
    obtain ⟨i, ps, rfl, hi, hin, hpl, HS⟩ := hrel
    have HPL := Aside0.mk hpl
    clear hpl
    by_cases hlt : i < ns.length ∧ i < 60
    · obtain ⟨hlt, hlt3⟩ := hlt
      have hd1 : decide ((i : Int) < (ns.length : Int)) = true := decide_eq_true (by omega)
      have hd2 : decide ((i : Int) < 60) = true := decide_eq_true (by omega)
      have hd3 : decide (i < ns.length) = true := decide_eq_true hlt
      obtain ⟨ad, rfl, k0⟩ := int_at HNR.out i hlt
      have k1 := fun (w' : World) (h : Below w.heap.size w w') => (h.cell (World.block_lt_of_cell? _ _ k0)).trans k0
      obtain ⟨z, hz⟩ : ∃ z, z = ns.getD i 0 := ⟨_, rfl⟩
      rw [← hz] at k1
      clear hz k0
      have k0 := k1 _ HS.below
      by_cases hz : 0 ≤ z ∧ z < ps.length
      · obtain ⟨k, rfl⟩ : ∃ k : Nat, z = k := ⟨z.toNat, by omega⟩
        have hk : k < ps.length := by omega
        obtain ⟨x, hx⟩ : ∃ x, x = ps.getD k (0, []) := ⟨_, rfl⟩
        have HX := Aside0.mk hx
        clear hx hz
        go_wp2_with (first | (go_at_call 27; refine (Drop_yes g1 ps k hk HPL.out HS).mono ?_; rintro e w6 ⟨rfl, HS6⟩; clear HS k0; have k0 := k1 _ HS6.below) | (go_at_call 26; refine (Deliver_yes g2 ps k hk HPL.out HS6.swap).mono ?_; rintro e w7 ⟨v, he, HS7⟩; rw [← HX.out] at he HS7; obtain ⟨A1, c1, rfl⟩ := HS7.rowShape 0 rfl; subst he; clear HS6) | ((with_reducible refine gate_dst (N := 11) rfl ?_); refine box_event ?hg1 (N := 11) ?hd1 (cs := #[.int .i64 0, .slice none 0 0]) (t := 52) ?hr1 ?_; (case hd1 => rfl); (case hg1 => rfl); (case hr1 => first | (go_simp; done) | (go_simp; rfl)); intro g9 hg w8 hbox hb; have HS8 := HS7.box hg hbox hb; clear HS7 hg hbox hb; have d0 := HS8.cell 0 0 rfl rfl; have d1 := HS8.cell 0 1 rfl rfl; have f0 := HS8.frozen 0 0 rfl; have f1 := HS8.frozen 0 1 rfl) | ((with_reducible refine gate_store (t := 52) (p := 11) rfl ?_); refine store_event (t := 52) (p := 11) (v := ?vo2) (w1 := ((w8.setCell ⟨g9, 0, none⟩ (.int .i64 x.1)).setCell ⟨g9, 1, none⟩ (.slice A1 x.2.length c1))) ?hg2 ?ho2 ?hn2 ?hr2 ?_; (case ho2 => rfl); (case hg2 => rfl); (case hn2 => rfl); (case hr2 => first | (go_simp; done) | (go_simp; rfl)); intro w9 hw; have HS9 := ((HS8.setAt 0 0 (.int .i64 x.1) rfl).setAt 0 1 (.slice A1 x.2.length c1) rfl); rw [← hw] at HS9; clear hw HS8 d0 d1 f0 f1))
        exact ⟨⟨i + 1, ps.eraseIdx k, by rw [Int.natCast_add]; rfl, by omega, by omega, by have h1 := HPL.out; have h2 := List.length_eraseIdx_le ps k; omega, HS9.tail.tail.swap⟩, by simp [intOf]; omega⟩
      · have hz : z < 0 ∨ (ps.length : Int) ≤ z := by omega
        go_wp2_with (first | (go_at_call 27; refine (Drop_no g1 ps z hz HS).mono ?_; rintro e w6 ⟨rfl, HS6⟩; clear HS k0; have k0 := k1 _ HS6.below) | (go_at_call 26; refine (Deliver_no g2 ps z hz HS6.swap).mono ?_; rintro e w7 ⟨rfl, HS7⟩; clear HS6) | ((with_reducible refine gate_dst (N := 11) rfl ?_); refine box_event ?hg3 (N := 11) ?hd3 (cs := #[.int .i64 0, .slice none 0 0]) (t := 52) ?hr3 ?_; (case hd3 => rfl); (case hg3 => rfl); (case hr3 => first | (go_simp; done) | (go_simp; rfl)); intro g9 hg w8 hbox hb; have HS8 := HS7.box hg hbox hb; clear HS7 hg hbox hb; have d0 := HS8.cell 0 0 rfl rfl; have d1 := HS8.cell 0 1 rfl rfl; have f0 := HS8.frozen 0 0 rfl; have f1 := HS8.frozen 0 1 rfl) | ((with_reducible refine gate_store (t := 52) (p := 11) rfl ?_); refine store_event (t := 52) (p := 11) (v := ?vo4) (w1 := ((w8.setCell ⟨g9, 0, none⟩ (.int .i64 0)).setCell ⟨g9, 1, none⟩ (.slice none 0 0))) ?hg4 ?ho4 ?hn4 ?hr4 ?_; (case ho4 => rfl); (case hg4 => rfl); (case hn4 => rfl); (case hr4 => first | (go_simp; done) | (go_simp; rfl)); intro w9 hw; have HS9 := ((HS8.setAt 0 0 (.int .i64 0) rfl).setAt 0 1 (.slice none 0 0) rfl); rw [← hw] at HS9; clear hw HS8 d0 d1 f0 f1))
        exact ⟨⟨i + 1, ps, by rw [Int.natCast_add]; rfl, by omega, by omega, HPL.out, HS9.tail.swap⟩, by simp [intOf]; omega⟩
    · have hcases : (decide (i < ns.length) = false ∧ decide ((i : Int) < (ns.length : Int)) = false) ∨ (decide (i < ns.length) = true ∧ decide ((i : Int) < 60) = false) := by
        by_cases h : i < ns.length
        · exact .inr ⟨decide_eq_true (by omega), decide_eq_false (by omega)⟩
        · exact .inl ⟨decide_eq_false (by omega), decide_eq_false (by omega)⟩
      clear hlt
      rcases hcases with ⟨hd1, hd2⟩ | ⟨hd1, hd2⟩
      all_goals
        go_wp2
        clear hd1 hd2
        go_loopw [14] (fun v14 wr => ∃ (ps : List (Int × List Int)), ps.length ≤ 256 ∧ Sat w wr [bag g1 ps, bag g2 ps]) (fun _ wr => bagLen g1 wr)
        case atStart => exact ⟨ps, HPL.out, HS⟩
        case round =>
          clear HPL HS ps
          obtain ⟨ps, hpl, HS⟩ := hrel
          have HPL := Aside0.mk hpl
          clear hpl
          have HBL := Aside0.mk (bagLen_of HS)
          cases ps with
          | nil =>
            go_wp2_with (first | (go_at_call 29; first | (refine (Len_calls g1 [] HS).mono ?_; rintro e w6 ⟨he, HS6⟩; obtain rfl : e = .returned (.int .i64 0) := he; clear HS) | (refine (Len_calls g2 [] HS6.swap).mono ?_; rintro e w7 ⟨he, HS7⟩; obtain rfl : e = .returned (.int .i64 0) := he; clear HS6)))
            go_ret
            exact ⟨rfl, HS7.below⟩
          | cons x q =>
            go_wp2_with (first | (go_at_call 29; refine (Len_calls g1 (x :: q) HS).mono ?_; rintro e w6 ⟨he, HS6⟩; rw [List.length_cons] at he; subst he; clear HS) | (go_at_call 26; first | (refine (Deliver_yes g1 (x :: q) 0 (Nat.zero_lt_succ _) HPL.out HS6).mono ?_; rintro e w7 ⟨v, he, HS7'⟩; have HS7 : Sat w w7 (row kB 5 v x.2 :: bag g1 q :: [bag g2 (x :: q)]) := HS7'; clear HS6 HS7'; obtain ⟨A1, c1, rfl⟩ := HS7.rowShape 0 rfl; obtain rfl : e = .returned (.tuple #[.agg #[.int .i64 x.1, .slice A1 x.2.length c1], .int .i64 0]) := he) | (refine (Deliver_yes g2 (x :: q) 0 (Nat.zero_lt_succ _) HPL.out (HS9.pick 3 rfl)).mono ?_; rintro e w10 ⟨v, he, HS10'⟩; have HS10 : Sat w w10 (row kB 5 v x.2 :: bag g2 q :: blk g9 (.cells #[.int .i64 x.1, .slice A1 x.2.length c1] 52 (0, 0)) :: row kB 5 (.slice A1 x.2.length c1) x.2 :: bag g1 q :: []) := HS10'; clear HS9 HS10'; obtain ⟨A2, c2, rfl⟩ := HS10.rowShape 0 rfl; obtain rfl : e = .returned (.tuple #[.agg #[.int .i64 x.1, .slice A2 x.2.length c2], .int .i64 0]) := he)) | ((with_reducible refine gate_dst (N := 13) rfl ?_); refine box_event ?hg5 (N := 13) ?hd5 (cs := #[.int .i64 0, .slice none 0 0]) (t := 52) ?hr5 ?_; (case hd5 => rfl); (case hg5 => rfl); (case hr5 => first | (go_simp; done) | (go_simp; rfl)); intro g9 hg w8 hbox hb; have HS8 := HS7.box hg hbox hb; clear HS7 hg hbox hb; have d0 := HS8.cell 0 0 rfl rfl; have d1 := HS8.cell 0 1 rfl rfl; have f0 := HS8.frozen 0 0 rfl; have f1 := HS8.frozen 0 1 rfl) | ((with_reducible refine gate_store (t := 52) (p := 13) rfl ?_); refine store_event (t := 52) (p := 13) (v := ?vo6) (w1 := ((w8.setCell ⟨g9, 0, none⟩ (.int .i64 x.1)).setCell ⟨g9, 1, none⟩ (.slice A1 x.2.length c1))) ?hg6 ?ho6 ?hn6 ?hr6 ?_; (case ho6 => rfl); (case hg6 => rfl); (case hn6 => rfl); (case hr6 => first | (go_simp; done) | (go_simp; rfl)); intro w9 hw; have HS9 := ((HS8.setAt 0 0 (.int .i64 x.1) rfl).setAt 0 1 (.slice A1 x.2.length c1) rfl); rw [← hw] at HS9; clear hw HS8 d0 d1 f0 f1) | ((with_reducible refine gate_dst (N := 15) rfl ?_); refine box_event ?hg7 (N := 15) ?hd7 (cs := #[.int .i64 0, .slice none 0 0]) (t := 52) ?hr7 ?_; (case hd7 => rfl); (case hg7 => rfl); (case hr7 => first | (go_simp; done) | (go_simp; rfl)); intro g10 hg w11 hbox hb; have HS11 := HS10.box hg hbox hb; clear HS10 hg hbox hb; have d0 := HS11.cell 0 0 rfl rfl; have d1 := HS11.cell 0 1 rfl rfl; have f0 := HS11.frozen 0 0 rfl; have f1 := HS11.frozen 0 1 rfl) | ((with_reducible refine gate_store (t := 52) (p := 15) rfl ?_); refine store_event (t := 52) (p := 15) (v := ?vo8) (w1 := ((w11.setCell ⟨g10, 0, none⟩ (.int .i64 x.1)).setCell ⟨g10, 1, none⟩ (.slice A2 x.2.length c2))) ?hg8 ?ho8 ?hn8 ?hr8 ?_; (case ho8 => rfl); (case hg8 => rfl); (case hn8 => rfl); (case hr8 => first | (go_simp; done) | (go_simp; rfl)); intro w12 hw; have HS12 := ((HS11.setAt 0 0 (.int .i64 x.1) rfl).setAt 0 1 (.slice A2 x.2.length c2) rfl); rw [← hw] at HS12; clear hw HS11 d0 d1 f0 f1; have d0 := HS12.cell 0 0 rfl rfl; have d1 := HS12.cell 0 1 rfl rfl; have e0 := HS12.cell 3 0 rfl rfl; have e1 := HS12.cell 3 1 rfl rfl; have s1 := Kd.C_string (P := Try.prog) (src := 22) (dst := 9) (c := c1) Try.underlying22 Try.underlying5 Try.underlying9 (HS12.readsRow 4 rfl).2.2; have s2 := Kd.C_string (P := Try.prog) (src := 22) (dst := 9) (c := c2) Try.underlying22 Try.underlying5 Try.underlying9 (HS12.readsRow 1 rfl).2.2))
            have hb1 : bagLen g1 w12 = q.length := bagLen_of (HS12.pick 5 rfl)
            exact ⟨⟨q, by have h1 := HPL.out; rw [List.length_cons] at h1; omega, ((((HS12.pick 5 rfl).dropAt 1).dropAt 1).dropAt 2).dropAt 2⟩, by rw [hb1, HBL.out, List.length_cons]; omega⟩

end Go.Proofs.Ytaojnbhnogndnaa.SL
