/- Contracts of the document's net (majordomoref18): Drop, Double. -/
import Derived.Test.YtaojnbhnogndnaaX15
namespace Go.Proofs.Ytaojnbhnogndnaa.SL
open Go.RowKit Go.Proofs.YtaojnbhnogndnaaW.PrintWords Go.Proofs.YtaojnbhnogndnaaW.PrintLast Go.Proofs.YtaojnbhnogndnaaW.PrintMore
attribute [local go_sem] max2_int min2_int max_two min_two
attribute [local go_sem high] Small.cell_set_same
set_option linter.unusedVariables false
set_option linter.unusedSimpArgs false

theorem raw_of_blk {w : World} {g e : Nat} {fr : Nat × Nat} {cs : List Value} (h : w.heap[g]? = some (.cells cs.toArray e fr)) (hl : cs.length = 2) (h1 : ∀ u ∈ cs, u.oneCell' = true) : (Kd.raw 2).C w (some ⟨g, 0, none⟩) 1 [cs] := by
  refine ⟨rfl, by decide, fun _ => ⟨_, rfl, fun j p hj => ?_⟩⟩
  match j, hj with
  | 0, hj =>
    injection hj with hj
    subst hj
    refine ⟨cs, hl, ⟨rfl, hl, h1⟩, fun i u hu => ?_⟩
    rw [Nat.zero_mul, Nat.zero_add]
    have h5 : (⟨g, 0, none⟩ : Addr).add i = ⟨g, i, none⟩ := by unfold Addr.add; split <;> simp_all
    rw [h5]
    simp [World.cell?, h, hu]

/-! ### Drop (majordomoref18): function 34 -/
set_option maxRecDepth 100000 in
theorem rDrop_yes {w0 w : World} {L : List Asrt} {fs : List (World → Prop)} (g : Nat) (A : Option Addr) (c : Nat) (zs : List Zk) (i : Nat) (z0 : Zk) (hi : i < zs.length) (hm : zs.length ≤ 256) (hb : (zs.getD i z0).2.2.length ≤ 140737488355328) (HS : Sat w0 w (rbk g A c zs :: pool (PF A c zs :: fs) :: L)) :
    Calls Try.prog 34 #[.pointer (some ⟨g, 0, none⟩), .int .i64 i] w fun e w' => e = .returned (.int .i64 0) ∧ ∃ A' c', Sat w0 w' (rbk g A' c' (zs.eraseIdx i) :: pool (PF A' c' (zs.eraseIdx i) :: PF A c zs :: fs) :: L) := by
  have hu52 := Try.underlying52
  go_enter Try.func34, Try.ntmps34
  go_wp2_with (first | (go_at_call 33; refine (rDeliver_yes g A c zs i z0 hi hm hb HS).mono ?_; rintro e w1 ⟨v, A', c', rfl, HS1⟩; clear HS; obtain ⟨B, cb, rfl⟩ := HS1.rowShape 0 rfl) | ((with_reducible refine gate_dst (N := 5) rfl ?_); refine box_event ?hg1 (N := 5) ?hd1 (cs := #[.int .i64 0, .slice none 0 0]) (t := 52) ?hr1 ?_; (case hd1 => rfl); (case hg1 => rfl); (case hr1 => first | (go_simp; done) | (go_simp; rfl)); intro g5 hg w2 hbox hb; have HS2 := HS1.box hg hbox hb; clear HS1 hg hbox hb; have d0 := HS2.cell 0 0 rfl rfl; have d1 := HS2.cell 0 1 rfl rfl; have f0 := HS2.frozen 0 0 rfl; have f1 := HS2.frozen 0 1 rfl) | ((with_reducible refine gate_store (t := 52) (p := 5) rfl ?_); refine store_event (t := 52) (p := 5) (v := ?vo2) (w1 := ((w2.setCell ⟨g5, 0, none⟩ (.int .i64 (zs.getD i z0).2.1)).setCell ⟨g5, 1, none⟩ (.slice B (zs.getD i z0).2.2.length cb))) ?hg2 ?ho2 ?hn2 ?hr2 ?_; (case ho2 => rfl); (case hg2 => rfl); (case hn2 => rfl); (case hr2 => first | (go_simp; done) | (go_simp; rfl)); intro w3 hw; have HS3 := ((HS2.setAt 0 0 (.int .i64 (zs.getD i z0).2.1) rfl).setAt 0 1 (.slice B (zs.getD i z0).2.2.length cb) rfl); rw [← hw] at HS3; clear hw HS2 d0 d1 f0 f1))
  go_ret
  exact ⟨rfl, A', c', HS3.tail.tail⟩
set_option maxRecDepth 100000 in
theorem rDrop_no {w0 w : World} {L : List Asrt} (g : Nat) (A : Option Addr) (c : Nat) (zs : List Zk) (i : Int) (hi : i < 0 ∨ (zs.length : Int) ≤ i) (HS : Sat w0 w (rbk g A c zs :: L)) :
    Calls Try.prog 34 #[.pointer (some ⟨g, 0, none⟩), .int .i64 i] w fun e w' => e = .returned (.int .i64 1) ∧ Sat w0 w' (rbk g A c zs :: L) := by
  have hu52 := Try.underlying52
  go_enter Try.func34, Try.ntmps34
  go_wp2_with (first | (go_at_call 33; refine (rDeliver_no g A c zs i hi HS).mono ?_; rintro e w1 ⟨rfl, HS1⟩; clear HS) | ((with_reducible refine gate_dst (N := 5) rfl ?_); refine box_event ?hg3 (N := 5) ?hd3 (cs := #[.int .i64 0, .slice none 0 0]) (t := 52) ?hr3 ?_; (case hd3 => rfl); (case hg3 => rfl); (case hr3 => first | (go_simp; done) | (go_simp; rfl)); intro g5 hg w2 hbox hb; have HS2 := HS1.box hg hbox hb; clear HS1 hg hbox hb; have d0 := HS2.cell 0 0 rfl rfl; have d1 := HS2.cell 0 1 rfl rfl; have f0 := HS2.frozen 0 0 rfl; have f1 := HS2.frozen 0 1 rfl) | ((with_reducible refine gate_store (t := 52) (p := 5) rfl ?_); refine store_event (t := 52) (p := 5) (v := ?vo4) (w1 := ((w2.setCell ⟨g5, 0, none⟩ (.int .i64 0)).setCell ⟨g5, 1, none⟩ (.slice none 0 0))) ?hg4 ?ho4 ?hn4 ?hr4 ?_; (case ho4 => rfl); (case hg4 => rfl); (case hn4 => rfl); (case hr4 => first | (go_simp; done) | (go_simp; rfl)); intro w3 hw; have HS3 := ((HS2.setAt 0 0 (.int .i64 0) rfl).setAt 0 1 (.slice none 0 0) rfl); rw [← hw] at HS3; clear hw HS2 d0 d1 f0 f1))
  go_ret
  exact ⟨rfl, HS3.tail⟩

/-! ### Double (majordomoref18): function 35 -/
set_option maxRecDepth 100000 in
theorem rDouble_no {w0 w : World} {L : List Asrt} (g : Nat) (A : Option Addr) (c : Nat) (zs : List Zk) (i : Int) (hi : i < 0 ∨ (zs.length : Int) ≤ i) (HS : Sat w0 w (rbk g A c zs :: L)) :
    Calls Try.prog 35 #[.pointer (some ⟨g, 0, none⟩), .int .i64 i] w fun e w' => e = .returned (.int .i64 1) ∧ Sat w0 w' (rbk g A c zs :: L) := by
  have c0 : w.cell? ⟨g, 0, none⟩ = some (.slice A zs.length c) := HS.cell 0 0 rfl rfl
  by_cases h0 : i < 0
  · have hd : decide (i < 0) = true := decide_eq_true h0
    go_enter Try.func35, Try.ntmps35
    go_wp2
    go_ret
    exact ⟨rfl, HS⟩
  · have hd : decide (i < 0) = false := decide_eq_false h0
    have hd2 : decide ((zs.length : Int) ≤ i) = true := decide_eq_true (by omega)
    go_enter Try.func35, Try.ntmps35
    go_wp2
    go_ret
    exact ⟨rfl, HS⟩
set_option maxRecDepth 100000 in
theorem rDouble_full {w0 w : World} {L : List Asrt} (g : Nat) (A : Option Addr) (c : Nat) (zs : List Zk) (i : Nat) (hi : i < zs.length) (hm : zs.length = 256) (HS : Sat w0 w (rbk g A c zs :: L)) :
    Calls Try.prog 35 #[.pointer (some ⟨g, 0, none⟩), .int .i64 i] w fun e w' => e = .returned (.int .i64 3) ∧ Sat w0 w' (rbk g A c zs :: L) := by
  have c0 : w.cell? ⟨g, 0, none⟩ = some (.slice A zs.length c) := HS.cell 0 0 rfl rfl
  rw [hm] at c0 hi
  have hd : decide ((i : Int) < 0) = false := decide_eq_false (by omega)
  have hd2 : decide ((256 : Int) ≤ (i : Int)) = false := decide_eq_false (by omega)
  have hd3 : decide (256 ≤ i) = false := decide_eq_false (by omega)
  clear hm
  go_enter Try.func35, Try.ntmps35
  go_wp2
  go_ret
  exact ⟨rfl, HS⟩
theorem rDouble_end {w0 w : World} {L : List Asrt} {fs : List (World → Prop)} {g gk c c3 : Nat} {ad : Addr} {A3 : Option Addr} {zs : List Zk} {x : Zk} {o : Obj} (hx : x ∈ zs)
    (h : Sat w0 w (row (Kd.raw 2) 52 (.slice A3 (zs.map encZ ++ [encZ x]).length c3) (zs.map encZ ++ [encZ x]) :: blk gk o :: blk g (.cells #[.slice A3 (zs.map encZ ++ [encZ x]).length c3] 63 (0, 0)) :: pool (PF (some ad) c zs :: fs) :: L)) :
    Sat w0 w (rbk g A3 c3 (zs ++ [x]) :: pool (PF A3 c3 (zs ++ [x]) :: PF (some ad) c zs :: fs) :: L) := by
  have hlen : (zs.map encZ ++ [encZ x]).length = (zs ++ [x]).length := by simp
  have hmap : zs.map encZ ++ [encZ x] = (zs ++ [x]).map encZ := by simp
  have h2 := ((h.pick 3 rfl).pick 1 rfl).poolRow
  have h3 : Sat w0 w (pool (PF A3 c3 (zs ++ [x]) :: PF (some ad) c zs :: fs) :: _) := h2.poolMap (fun w' hw f hf => by
    rcases List.mem_cons.1 hf with rfl | hf
    · obtain ⟨_, h2, h3⟩ := hw _ List.mem_cons_self
      have h4 := hw _ (List.mem_cons_of_mem _ List.mem_cons_self)
      refine ⟨by rw [← hlen]; exact h2, by rw [← hlen, ← hmap]; exact h3, fun z hz => ?_⟩
      rcases List.mem_append.1 hz with hz | hz
      · exact h4.2.2 z hz
      · rw [List.mem_singleton.1 hz]; exact h4.2.2 x hx
    · exact hw f (List.mem_cons_of_mem _ hf))
  have hre : rbk g A3 c3 (zs ++ [x]) = blk g (.cells #[.slice A3 (zs.map encZ ++ [encZ x]).length c3] 63 (0, 0)) := by rw [hlen]; rfl
  rw [hre]
  exact ((h3.pick 2 rfl).dropAt 2)
set_option maxHeartbeats 4000000 in
set_option maxRecDepth 100000 in
theorem rDouble_yes {w0 w : World} {L : List Asrt} {fs : List (World → Prop)} (g : Nat) (A : Option Addr) (c : Nat) (zs : List Zk) (i : Nat) (z0 : Zk) (hi : i < zs.length) (hm : zs.length < 256) (HS : Sat w0 w (rbk g A c zs :: pool (PF A c zs :: fs) :: L)) :
    Calls Try.prog 35 #[.pointer (some ⟨g, 0, none⟩), .int .i64 i] w fun e w' => e = .returned (.int .i64 0) ∧ ∃ A' c', Sat w0 w' (rbk g A' c' (zs ++ [zs.getD i z0]) :: pool (PF A' c' (zs ++ [zs.getD i z0]) :: PF A c zs :: fs) :: L) := by
  have hu52 := Try.underlying52
  have P0 := HS.poolGet 1 rfl List.mem_cons_self
  obtain ⟨ad, b, o, rfl, ha, _, _⟩ := raw_at P0.2.1 i hi z0
  obtain ⟨n, hn⟩ : ∃ n, n = zs.length := ⟨_, rfl⟩
  have hnc : n ≤ c := by have := P0.1; omega
  have hin : i < n := by omega
  have hic : i ≤ c := by omega
  have hn256 : n < 256 := by omega
  have hk : ∀ w', PF (some ad) c zs w' → w'.cell? ⟨b, o, none⟩ = some (.int .i64 (zs.getD i z0).2.1) ∧ w'.cell? ⟨b, o + 1, none⟩ = some (.slice (zs.getD i z0).1.1 (zs.getD i z0).2.2.length (zs.getD i z0).1.2) := fun w' h => raw_cells ha hi z0 h.2.1
  have hxm : zs.getD i z0 ∈ zs := by rw [List.getD_eq_getElem?_getD, List.getElem?_eq_getElem hi]; exact List.getElem_mem _
  obtain ⟨x, hx⟩ : ∃ x, x = zs.getD i z0 := ⟨_, rfl⟩
  rw [← hx] at hk hxm ⊢
  have HY0 := Aside0.mk (show ∀ w', PF (some ad) c zs w' → ReadsRow ((Kd.raw 2).K w') 2 w' (some ad) n (zs.map encZ) from fun w' h => by
    have := h.2.1
    rw [← hn] at this
    exact this)
  have HXM := Aside0.mk hxm
  have c0 : w.cell? ⟨g, 0, none⟩ = some (.slice (some ad) zs.length c) := HS.cell 0 0 rfl rfl
  rw [← hn] at c0
  have k0 := (hk _ P0).1
  have k1 := (hk _ P0).2
  have hre : rbk g (some ad) c zs = blk g (.cells #[.slice (some ad) n c] 63 (0, 0)) := by rw [hn]; rfl
  rw [hre] at HS
  have HN := Aside0.mk hn
  have HM := Aside0.mk hm
  have hd : decide ((i : Int) < 0) = false := decide_eq_false (by omega)
  have hd2 : decide ((n : Int) ≤ (i : Int)) = false := decide_eq_false (by omega)
  have hd3 : decide (n ≤ i) = false := decide_eq_false (by omega)
  have hd4 : ((n : Int) == 256) = false := by simp; omega
  clear hn hx hxm P0 hre hm
  go_enter Try.func35, Try.ntmps35
  go_wp2
  refine region (frees [0, 2, 7, 11, 3, 4, 8, 9] (helds [5, 10] (.free 12 (.held 13 (.two 1 14 (.two 6 14 (.one 14 (.last 15 (frees [16, 17] (.last 18 .done)))) (.one 6 (.last 15 (frees [16, 17] (.last 18 .done))))) (.one 1 (.one 6 (.last 15 (frees [16, 17] (.last 18 .done)))))))))) (fun w' => w'.cell? ⟨g, 0, none⟩ = some (.slice (some ad) n c) ∧ w'.cell? ⟨b, o, none⟩ = some (.int .i64 x.2.1) ∧ w'.cell? ⟨b, o + 1, none⟩ = some (.slice x.1.1 x.2.2.length x.1.2)) [15, 18] (by kernel_rfl) (by kernel_rfl) ?_
  have HS1 := HS.drew
  have e0 : w.drew.cell? ⟨g, 0, none⟩ = some (.slice (some ad) n c) := c0
  have e1 : w.drew.cell? ⟨b, o, none⟩ = some (.int .i64 x.2.1) := k0
  have e2 : w.drew.cell? ⟨b, o + 1, none⟩ = some (.slice x.1.1 x.2.2.length x.1.2) := k1
  clear HS c0 k0 k1
  generalize w.drew = w1 at HS1 e0 e1 e2 ⊢
  repeat (first | (refine st_free (v := ?_) (a' := ?_) (by simp only [List.getElem?_toArray, List.getElem?_cons_succ, List.getElem?_cons_zero]; rfl) (by rfl) ?_ ?_ ?_; rotate_left 2; (intro w'; go_simp; with_reducible rfl); (simp only [Act.put, List.setIfInBounds_toArray, List.set_cons_zero, List.set_cons_succ]; rfl)) | (refine st_held (v := ?_) (a' := ?_) ⟨e0, e1, e2⟩ (by simp only [List.getElem?_toArray, List.getElem?_cons_succ, List.getElem?_cons_zero]; rfl) (by rfl) ?_ ?_ ?_; rotate_left 2; (rintro w' ⟨s0, s1, s2⟩; go_simp; with_reducible rfl); (simp only [Act.put, List.setIfInBounds_toArray, List.set_cons_zero, List.set_cons_succ]; rfl)))
  clear e0 e1 e2
  refine st_two (by simp only [List.getElem?_toArray, List.getElem?_cons_succ, List.getElem?_cons_zero]; rfl) (by simp only [List.getElem?_toArray, List.getElem?_cons_succ, List.getElem?_cons_zero]; rfl) ?_ ?_
  · refine Kd.event_run (v := .slice (some ⟨w1.heap.size, 0, none⟩) 0 0) (w1 := w1.alloc (.cells #[] 52)) rfl (by go_simp) ?_
    have HS2 := (HS1.box (g := w1.heap.size) (cs := #[]) (t := 52) rfl (blk_new w1 _) (below_alloc (Below.refl _ _) _)).emptyRow (Kd.raw 2)
    generalize hgw : w1.alloc (.cells #[] 52) = w2 at HS2 ⊢
    clear hgw
    generalize w1.heap.size = GE at HS2 ⊢
    clear HS1
    refine ⟨⟨HS2.cell 1 0 rfl rfl, (hk _ (HS2.poolGet 2 rfl List.mem_cons_self)).1, (hk _ (HS2.poolGet 2 rfl List.mem_cons_self)).2⟩, ?_⟩
    refine st_norm (a' := ?_) ?_ ?_; rotate_left; (simp only [Act.put, List.setIfInBounds_toArray, List.set_cons_zero, List.set_cons_succ]; rfl)
    refine st_two (by simp only [List.getElem?_toArray, List.getElem?_cons_succ, List.getElem?_cons_zero]; rfl) (by simp only [List.getElem?_toArray, List.getElem?_cons_succ, List.getElem?_cons_zero]; rfl) ?_ ?_
    · refine appRow (Kd.raw 2) rfl (.tmp 23) (.tmp 27) 61 52 (.agg #[.int .i64 0, .slice none 0 0]) 32 rfl Try.underlying61 inf52 rfl (by decide) (by decide) _ [] (zs.map encZ) (some ad) n c rfl rfl HS2 (HY0.out _ (HS2.poolGet 2 rfl List.mem_cons_self)) (fun _ _ h => h) (by simp; omega) ?_
      intro v w3 HS3
      rw [List.nil_append] at HS3
      obtain ⟨A1, c1, rfl⟩ := HS3.rowShape 0 rfl
      clear HS2
      refine ⟨⟨HS3.cell 1 0 rfl rfl, (hk _ (HS3.poolGet 2 rfl List.mem_cons_self)).1, (hk _ (HS3.poolGet 2 rfl List.mem_cons_self)).2⟩, ?_⟩
      refine st_norm (a' := ?_) ?_ ?_; rotate_left; (simp only [Act.put, List.setIfInBounds_toArray, List.set_cons_zero, List.set_cons_succ]; rfl)
      refine st_one (by simp only [List.getElem?_toArray, List.getElem?_cons_succ, List.getElem?_cons_zero]; rfl) ?_
      refine Kd.event_run (v := .slice (some ⟨w3.heap.size, 0, none⟩) 1 1) (w1 := w3.alloc (.cells #[.int .i64 x.2.1, .slice x.1.1 x.2.2.length x.1.2] 52)) rfl (by go_simp) ?_
      have HS4 := HS3.box (g := w3.heap.size) (cs := #[.int .i64 x.2.1, .slice x.1.1 x.2.2.length x.1.2]) (t := 52) rfl (blk_new w3 _) (below_alloc (Below.refl _ _) _)
      generalize hgw : w3.alloc (.cells #[.int .i64 x.2.1, .slice x.1.1 x.2.2.length x.1.2] 52) = w4 at HS4 ⊢
      clear hgw
      generalize w3.heap.size = GK at HS4 ⊢
      clear HS3
      refine ⟨⟨HS4.cell 2 0 rfl rfl, (hk _ (HS4.poolGet 3 rfl List.mem_cons_self)).1, (hk _ (HS4.poolGet 3 rfl List.mem_cons_self)).2⟩, ?_⟩
      refine st_norm (a' := ?_) ?_ ?_; rotate_left; (simp only [Act.put, List.setIfInBounds_toArray, List.set_cons_zero, List.set_cons_succ]; rfl)
      have HT := HS4.swap
      clear HS4
      have K := raw_of_blk (HT.block 1 rfl).1 (cs := [.int .i64 x.2.1, .slice x.1.1 x.2.2.length x.1.2]) rfl (by intro u hu; simp at hu; rcases hu with rfl | rfl <;> rfl)
      refine st_last (by simp only [List.getElem?_toArray, List.getElem?_cons_succ, List.getElem?_cons_zero]; rfl) ?_
      refine appRow (Kd.raw 2) rfl (.tmp 28) (.tmp 36) 61 52 (.agg #[.int .i64 0, .slice none 0 0]) 32 rfl Try.underlying61 inf52 rfl (by decide) (by decide) _ (zs.map encZ) [encZ x] (some ⟨GK, 0, none⟩) 1 1 rfl rfl HT K (fun _ _ h => h) (by rw [List.length_map]; have := HN.out; omega) ?_
      intro v w6 HS6
      obtain ⟨A3, c3, rfl⟩ := HS6.rowShape 0 rfl
      clear HT
      refine st_norm (a' := ?_) ?_ ?_; rotate_left; (simp only [Act.put, List.setIfInBounds_toArray, List.set_cons_zero, List.set_cons_succ]; rfl)
      repeat (refine st_free (v := ?_) (a' := ?_) (by simp only [List.getElem?_toArray, List.getElem?_cons_succ, List.getElem?_cons_zero]; rfl) (by rfl) ?_ ?_ ?_; rotate_left 2; (intro w'; go_simp; with_reducible rfl); (simp only [Act.put, List.setIfInBounds_toArray, List.set_cons_zero, List.set_cons_succ]; rfl))
      have c4 := HS6.cell 2 0 rfl rfl
      have f4 := HS6.frozen 2 0 rfl
      refine st_last (by simp only [List.getElem?_toArray, List.getElem?_cons_succ, List.getElem?_cons_zero]; rfl) ?_
      refine store_event (t := 61) (p := 39) (v := .tmp 37) (w1 := w6.setCell ⟨g, 0, none⟩ (.slice A3 (zs.map encZ ++ [encZ x]).length c3)) rfl rfl rfl (by go_simp) ?_
      rintro _ rfl
      have HS7 := HS6.setAt 2 0 (.slice A3 (zs.map encZ ++ [encZ x]).length c3) rfl
      clear HS6 c4 f4
      refine st_norm rfl ?_
      refine st_done ?_
      generalize w6.setCell _ _ = w7 at HS7 ⊢
      go_wp2
      go_ret
      exact ⟨rfl, A3, c3, rDouble_end HXM.out HS7⟩
    · refine Kd.event_run (v := .slice (some ⟨w2.heap.size, 0, none⟩) 1 1) (w1 := w2.alloc (.cells #[.int .i64 x.2.1, .slice x.1.1 x.2.2.length x.1.2] 52)) rfl (by go_simp) ?_
      have HS3 := HS2.box (g := w2.heap.size) (cs := #[.int .i64 x.2.1, .slice x.1.1 x.2.2.length x.1.2]) (t := 52) rfl (blk_new w2 _) (below_alloc (Below.refl _ _) _)
      generalize hgw : w2.alloc (.cells #[.int .i64 x.2.1, .slice x.1.1 x.2.2.length x.1.2] 52) = w3 at HS3 ⊢
      clear hgw
      generalize w2.heap.size = GK at HS3 ⊢
      clear HS2
      refine ⟨⟨HS3.cell 2 0 rfl rfl, (hk _ (HS3.poolGet 3 rfl List.mem_cons_self)).1, (hk _ (HS3.poolGet 3 rfl List.mem_cons_self)).2⟩, ?_⟩
      refine st_norm (a' := ?_) ?_ ?_; rotate_left; (simp only [Act.put, List.setIfInBounds_toArray, List.set_cons_zero, List.set_cons_succ]; rfl)
      refine st_one (by simp only [List.getElem?_toArray, List.getElem?_cons_succ, List.getElem?_cons_zero]; rfl) ?_
      have HS3b := HS3.swap
      clear HS3
      refine appRow (Kd.raw 2) rfl (.tmp 23) (.tmp 27) 61 52 (.agg #[.int .i64 0, .slice none 0 0]) 32 rfl Try.underlying61 inf52 rfl (by decide) (by decide) _ [] (zs.map encZ) (some ad) n c rfl rfl HS3b (HY0.out _ (HS3b.poolGet 3 rfl List.mem_cons_self)) (fun _ _ h => h) (by simp; omega) ?_
      intro v w4 HS4
      rw [List.nil_append] at HS4
      obtain ⟨A1, c1, rfl⟩ := HS4.rowShape 0 rfl
      clear HS3b
      refine ⟨⟨HS4.cell 2 0 rfl rfl, (hk _ (HS4.poolGet 3 rfl List.mem_cons_self)).1, (hk _ (HS4.poolGet 3 rfl List.mem_cons_self)).2⟩, ?_⟩
      refine st_norm (a' := ?_) ?_ ?_; rotate_left; (simp only [Act.put, List.setIfInBounds_toArray, List.set_cons_zero, List.set_cons_succ]; rfl)
      have HT := HS4
      clear HS4
      have K := raw_of_blk (HT.block 1 rfl).1 (cs := [.int .i64 x.2.1, .slice x.1.1 x.2.2.length x.1.2]) rfl (by intro u hu; simp at hu; rcases hu with rfl | rfl <;> rfl)
      refine st_last (by simp only [List.getElem?_toArray, List.getElem?_cons_succ, List.getElem?_cons_zero]; rfl) ?_
      refine appRow (Kd.raw 2) rfl (.tmp 28) (.tmp 36) 61 52 (.agg #[.int .i64 0, .slice none 0 0]) 32 rfl Try.underlying61 inf52 rfl (by decide) (by decide) _ (zs.map encZ) [encZ x] (some ⟨GK, 0, none⟩) 1 1 rfl rfl HT K (fun _ _ h => h) (by rw [List.length_map]; have := HN.out; omega) ?_
      intro v w6 HS6
      obtain ⟨A3, c3, rfl⟩ := HS6.rowShape 0 rfl
      clear HT
      refine st_norm (a' := ?_) ?_ ?_; rotate_left; (simp only [Act.put, List.setIfInBounds_toArray, List.set_cons_zero, List.set_cons_succ]; rfl)
      repeat (refine st_free (v := ?_) (a' := ?_) (by simp only [List.getElem?_toArray, List.getElem?_cons_succ, List.getElem?_cons_zero]; rfl) (by rfl) ?_ ?_ ?_; rotate_left 2; (intro w'; go_simp; with_reducible rfl); (simp only [Act.put, List.setIfInBounds_toArray, List.set_cons_zero, List.set_cons_succ]; rfl))
      have c4 := HS6.cell 2 0 rfl rfl
      have f4 := HS6.frozen 2 0 rfl
      refine st_last (by simp only [List.getElem?_toArray, List.getElem?_cons_succ, List.getElem?_cons_zero]; rfl) ?_
      refine store_event (t := 61) (p := 39) (v := .tmp 37) (w1 := w6.setCell ⟨g, 0, none⟩ (.slice A3 (zs.map encZ ++ [encZ x]).length c3)) rfl rfl rfl (by go_simp) ?_
      rintro _ rfl
      have HS7 := HS6.setAt 2 0 (.slice A3 (zs.map encZ ++ [encZ x]).length c3) rfl
      clear HS6 c4 f4
      refine st_norm rfl ?_
      refine st_done ?_
      generalize w6.setCell _ _ = w7 at HS7 ⊢
      go_wp2
      go_ret
      exact ⟨rfl, A3, c3, rDouble_end HXM.out HS7⟩
  · refine Kd.event_run (v := .slice (some ⟨w1.heap.size, 0, none⟩) 1 1) (w1 := w1.alloc (.cells #[.int .i64 x.2.1, .slice x.1.1 x.2.2.length x.1.2] 52)) rfl (by go_simp) ?_
    have HS2 := HS1.box (g := w1.heap.size) (cs := #[.int .i64 x.2.1, .slice x.1.1 x.2.2.length x.1.2]) (t := 52) rfl (blk_new w1 _) (below_alloc (Below.refl _ _) _)
    generalize hgw : w1.alloc (.cells #[.int .i64 x.2.1, .slice x.1.1 x.2.2.length x.1.2] 52) = w2 at HS2 ⊢
    clear hgw
    generalize w1.heap.size = GK at HS2 ⊢
    clear HS1
    refine ⟨⟨HS2.cell 1 0 rfl rfl, (hk _ (HS2.poolGet 2 rfl List.mem_cons_self)).1, (hk _ (HS2.poolGet 2 rfl List.mem_cons_self)).2⟩, ?_⟩
    refine st_norm (a' := ?_) ?_ ?_; rotate_left; (simp only [Act.put, List.setIfInBounds_toArray, List.set_cons_zero, List.set_cons_succ]; rfl)
    refine st_one (by simp only [List.getElem?_toArray, List.getElem?_cons_succ, List.getElem?_cons_zero]; rfl) ?_
    refine Kd.event_run (v := .slice (some ⟨w2.heap.size, 0, none⟩) 0 0) (w1 := w2.alloc (.cells #[] 52)) rfl (by go_simp) ?_
    have HS3 := (HS2.box (g := w2.heap.size) (cs := #[]) (t := 52) rfl (blk_new w2 _) (below_alloc (Below.refl _ _) _)).emptyRow (Kd.raw 2)
    generalize hgw : w2.alloc (.cells #[] 52) = w3 at HS3 ⊢
    clear hgw
    generalize w2.heap.size = GE at HS3 ⊢
    clear HS2
    refine ⟨⟨HS3.cell 2 0 rfl rfl, (hk _ (HS3.poolGet 3 rfl List.mem_cons_self)).1, (hk _ (HS3.poolGet 3 rfl List.mem_cons_self)).2⟩, ?_⟩
    refine st_norm (a' := ?_) ?_ ?_; rotate_left; (simp only [Act.put, List.setIfInBounds_toArray, List.set_cons_zero, List.set_cons_succ]; rfl)
    refine st_one (by simp only [List.getElem?_toArray, List.getElem?_cons_succ, List.getElem?_cons_zero]; rfl) ?_
    refine appRow (Kd.raw 2) rfl (.tmp 23) (.tmp 27) 61 52 (.agg #[.int .i64 0, .slice none 0 0]) 32 rfl Try.underlying61 inf52 rfl (by decide) (by decide) _ [] (zs.map encZ) (some ad) n c rfl rfl HS3 (HY0.out _ (HS3.poolGet 3 rfl List.mem_cons_self)) (fun _ _ h => h) (by simp; omega) ?_
    intro v w4 HS4
    rw [List.nil_append] at HS4
    obtain ⟨A1, c1, rfl⟩ := HS4.rowShape 0 rfl
    clear HS3
    refine ⟨⟨HS4.cell 2 0 rfl rfl, (hk _ (HS4.poolGet 3 rfl List.mem_cons_self)).1, (hk _ (HS4.poolGet 3 rfl List.mem_cons_self)).2⟩, ?_⟩
    refine st_norm (a' := ?_) ?_ ?_; rotate_left; (simp only [Act.put, List.setIfInBounds_toArray, List.set_cons_zero, List.set_cons_succ]; rfl)
    have HT := HS4
    clear HS4
    have K := raw_of_blk (HT.block 1 rfl).1 (cs := [.int .i64 x.2.1, .slice x.1.1 x.2.2.length x.1.2]) rfl (by intro u hu; simp at hu; rcases hu with rfl | rfl <;> rfl)
    refine st_last (by simp only [List.getElem?_toArray, List.getElem?_cons_succ, List.getElem?_cons_zero]; rfl) ?_
    refine appRow (Kd.raw 2) rfl (.tmp 28) (.tmp 36) 61 52 (.agg #[.int .i64 0, .slice none 0 0]) 32 rfl Try.underlying61 inf52 rfl (by decide) (by decide) _ (zs.map encZ) [encZ x] (some ⟨GK, 0, none⟩) 1 1 rfl rfl HT K (fun _ _ h => h) (by rw [List.length_map]; have := HN.out; omega) ?_
    intro v w6 HS6
    obtain ⟨A3, c3, rfl⟩ := HS6.rowShape 0 rfl
    clear HT
    refine st_norm (a' := ?_) ?_ ?_; rotate_left; (simp only [Act.put, List.setIfInBounds_toArray, List.set_cons_zero, List.set_cons_succ]; rfl)
    repeat (refine st_free (v := ?_) (a' := ?_) (by simp only [List.getElem?_toArray, List.getElem?_cons_succ, List.getElem?_cons_zero]; rfl) (by rfl) ?_ ?_ ?_; rotate_left 2; (intro w'; go_simp; with_reducible rfl); (simp only [Act.put, List.setIfInBounds_toArray, List.set_cons_zero, List.set_cons_succ]; rfl))
    have c4 := HS6.cell 2 0 rfl rfl
    have f4 := HS6.frozen 2 0 rfl
    refine st_last (by simp only [List.getElem?_toArray, List.getElem?_cons_succ, List.getElem?_cons_zero]; rfl) ?_
    refine store_event (t := 61) (p := 39) (v := .tmp 37) (w1 := w6.setCell ⟨g, 0, none⟩ (.slice A3 (zs.map encZ ++ [encZ x]).length c3)) rfl rfl rfl (by go_simp) ?_
    rintro _ rfl
    have HS7 := HS6.setAt 2 0 (.slice A3 (zs.map encZ ++ [encZ x]).length c3) rfl
    clear HS6 c4 f4
    refine st_norm rfl ?_
    refine st_done ?_
    generalize w6.setCell _ _ = w7 at HS7 ⊢
    go_wp2
    go_ret
    exact ⟨rfl, A3, c3, rDouble_end HXM.out HS7⟩

end Go.Proofs.Ytaojnbhnogndnaa.SL
