/- Contract of the document's net (majordomoref18): Deliver of a packet that is there. -/
import Derived.Test.YtaojnbhnogndnaaX14
namespace Go.Proofs.Ytaojnbhnogndnaa.SL
open Go.RowKit Go.Proofs.YtaojnbhnogndnaaW.PrintWords Go.Proofs.YtaojnbhnogndnaaW.PrintLast Go.Proofs.YtaojnbhnogndnaaW.PrintMore
attribute [local go_sem] max2_int min2_int max_two min_two
attribute [local go_sem high] Small.cell_set_same
set_option linter.unusedVariables false
set_option linter.unusedSimpArgs false

theorem raw_cells {w : World} {ad : Addr} {n b o i : Nat} {zs : List Zk} (ha : ad.add (i * 2) = ⟨b, o, none⟩) (hi : i < n) (z0 : Zk) (hr : (Kd.raw 2).C w (some ad) n (zs.map encZ)) :
    w.cell? ⟨b, o, none⟩ = some (.int .i64 (zs.getD i z0).2.1) ∧ w.cell? ⟨b, o + 1, none⟩ = some (.slice (zs.getD i z0).1.1 (zs.getD i z0).2.2.length (zs.getD i z0).1.2) := by
  obtain ⟨ad', b', o', e, h0, h1, h2⟩ := raw_at hr i hi z0
  injection e with e
  subst e
  rw [ha] at h0
  injection h0 with e1 e2
  subst e1; subst e2
  exact ⟨h1, h2⟩
theorem erz_eq (zs : List Zk) (i : Nat) : ys1 zs i ++ ys2 zs i = erz zs i := by
  unfold ys1 ys2 erz
  rw [← List.map_append, List.eraseIdx_eq_take_drop_succ]

/-! ### Deliver (majordomoref18), a packet that is there: function 33 -/
set_option maxHeartbeats 2000000 in
set_option maxRecDepth 100000 in
theorem rDeliver_yes {w0 w : World} {L : List Asrt} {fs : List (World → Prop)} (g : Nat) (A : Option Addr) (c : Nat) (zs : List Zk) (i : Nat) (z0 : Zk) (hi : i < zs.length) (hm : zs.length ≤ 256) (hb : (zs.getD i z0).2.2.length ≤ 140737488355328) (HS : Sat w0 w (rbk g A c zs :: pool (PF A c zs :: fs) :: L)) :
    Calls Try.prog 33 #[.pointer (some ⟨g, 0, none⟩), .int .i64 i] w fun e w' => ∃ v A' c', e = .returned (.tuple #[.agg #[.int .i64 (zs.getD i z0).2.1, v], .int .i64 0]) ∧ Sat w0 w' (row kB 5 v (zs.getD i z0).2.2 :: rbk g A' c' (zs.eraseIdx i) :: pool (PF A' c' (zs.eraseIdx i) :: PF A c zs :: fs) :: L) := by
  have hu52 := Try.underlying52
  have P0 := HS.poolGet 1 rfl List.mem_cons_self
  obtain ⟨ad, b, o, rfl, ha, _, _⟩ := raw_at P0.2.1 i hi z0
  obtain ⟨n, hn⟩ : ∃ n, n = zs.length := ⟨_, rfl⟩
  have hnc : n ≤ c := by have := P0.1; omega
  have hin : i < n := by omega
  have hic : i ≤ c := by omega
  have hin1 : i + 1 ≤ n := by omega
  obtain ⟨A2, hA2, hrun⟩ := cut_l (P := Try.prog) 2 61 52 Try.underlying61 (i := _) rfl rfl (some ad) n c (i + 1) hin1
  have hcut := fun W => hrun W ((i : Int) + 1) (by omega)
  have hk : ∀ w', PF (some ad) c zs w' → w'.cell? ⟨b, o, none⟩ = some (.int .i64 (zs.getD i z0).2.1) ∧ w'.cell? ⟨b, o + 1, none⟩ = some (.slice (zs.getD i z0).1.1 (zs.getD i z0).2.2.length (zs.getD i z0).1.2) := fun w' h => raw_cells ha hi z0 h.2.1
  have hxm : zs.getD i z0 ∈ zs := by rw [List.getD_eq_getElem?_getD, List.getElem?_eq_getElem hi]; exact List.getElem_mem _
  obtain ⟨x, hx⟩ : ∃ x, x = zs.getD i z0 := ⟨_, rfl⟩
  rw [← hx] at hk hxm hb ⊢
  have HY1 := Aside0.mk (show ∀ w', PF (some ad) c zs w' → ReadsRow ((Kd.raw 2).K w') 2 w' (some ad) i (ys1 zs i) from fun w' h => by
    have h1 := Kd.C_take (m := i) (by rw [List.length_map]; exact h.2.1) (by rw [List.length_map]; omega)
    rw [← List.map_take] at h1
    have h2 : (ys1 zs i).length = i := by unfold ys1; rw [List.length_map, List.length_take]; omega
    have h3 : (Kd.raw 2).C w' (some ad) (ys1 zs i).length (ys1 zs i) := h1
    rw [h2] at h3
    exact h3)
  have HY2 := Aside0.mk (show ∀ w', PF (some ad) c zs w' → ReadsRow ((Kd.raw 2).K w') 2 w' A2 (n - (i + 1)) (ys2 zs i) from fun w' h => by
    have h1 := Kd.C_drop (c := c) (m := i + 1) (by rw [List.length_map]; exact h.2.1) (by rw [List.length_map]; omega) (by rw [List.length_map]; omega)
    rw [← List.map_drop] at h1
    have h2 : (ys2 zs i).length = n - (i + 1) := by unfold ys2; rw [List.length_map, List.length_drop]; omega
    have h3 : (Kd.raw 2).C w' (if c = i + 1 then some ad else Option.map (fun x => x.add ((i + 1) * (Kd.raw 2).sz)) (some ad)) (ys2 zs i).length (ys2 zs i) := h1
    rw [h2] at h3
    rw [hA2]
    exact h3)
  have HY3 := Aside0.mk (erz_eq zs i)
  have HL1 := Aside0.mk (show ((([] : List (List Value)).length + i) * 32 ≤ 140737488355328) by simp; omega)
  have HL2 := Aside0.mk (show ((ys1 zs i).length + (n - (i + 1))) * 32 ≤ 140737488355328 by unfold ys1; rw [List.length_map, List.length_take]; omega)
  have HXM := Aside0.mk hxm
  have HB := Aside0.mk hb
  have c0 : w.cell? ⟨g, 0, none⟩ = some (.slice (some ad) zs.length c) := HS.cell 0 0 rfl rfl
  rw [← hn] at c0
  have k0 := (hk _ P0).1
  have k1 := (hk _ P0).2
  have hre : rbk g (some ad) c zs = blk g (.cells #[.slice (some ad) n c] 63 (0, 0)) := by rw [hn]; rfl
  rw [hre] at HS
  have HN := Aside0.mk hn
  have hd : decide ((i : Int) < 0) = false := decide_eq_false (by omega)
  have hd2 : decide ((n : Int) ≤ (i : Int)) = false := decide_eq_false (by omega)
  have hd3 : decide (n ≤ i) = false := decide_eq_false (by omega)
  clear hn hrun hA2 hx hxm hb P0 hre
  go_enter Try.func33, Try.ntmps33
  go_wp2_with (first | ((with_reducible refine gate_dst (N := 4) rfl ?_); refine box_event ?hg1 (N := 4) ?hd1 (cs := #[.int .i64 0, .slice none 0 0]) (t := 52) ?hr1 ?_; (case hd1 => rfl); (case hg1 => rfl); (case hr1 => first | (go_simp; done) | (go_simp; rfl)); intro g4 hg w1 hbox hb; have HS1 := HS.box hg hbox hb; clear HS hg hbox hb c0 k0 k1; have c0 : w1.cell? ⟨g, 0, none⟩ = some (.slice (some ad) n c) := HS1.cell 1 0 rfl rfl; have k0 := (hk _ (HS1.poolGet 2 rfl List.mem_cons_self)).1; have k1 := (hk _ (HS1.poolGet 2 rfl List.mem_cons_self)).2) | ((with_reducible refine gate_dst (N := 6) rfl ?_); refine box_event ?hg2 (N := 6) ?hd2 (cs := #[.int .i64 0, .slice none 0 0]) (t := 52) ?hr2 ?_; (case hd2 => rfl); (case hg2 => rfl); (case hr2 => first | (go_simp; done) | (go_simp; rfl)); intro g6 hg w2 hbox hb; have HS2 := HS1.box hg hbox hb; clear HS1 hg hbox hb c0 k0 k1; have d0 := HS2.cell 0 0 rfl rfl; have d1 := HS2.cell 0 1 rfl rfl; have f0 := HS2.frozen 0 0 rfl; have f1 := HS2.frozen 0 1 rfl) | ((with_reducible refine gate_store (t := 52) (p := 6) rfl ?_); refine store_event (t := 52) (p := 6) (v := ?vo3) (w1 := ((w2.setCell ⟨g6, 0, none⟩ (.int .i64 x.2.1)).setCell ⟨g6, 1, none⟩ (.slice x.1.1 x.2.2.length x.1.2))) ?hg3 ?ho3 ?hn3 ?hr3 ?_; (case ho3 => rfl); (case hg3 => rfl); (case hn3 => rfl); (case hr3 => first | (go_simp; done) | (go_simp; rfl)); intro w3 hw; have HS3 := ((HS2.setAt 0 0 (.int .i64 x.2.1) rfl).setAt 0 1 (.slice x.1.1 x.2.2.length x.1.2) rfl); rw [← hw] at HS3; clear hw HS2 d0 d1 f0 f1) | ((with_reducible refine gate_dst (N := 27) rfl ?_); refine box_event2 ?hg4 (N := 27) ?hd4 (v := fun g => .slice (some ⟨g, 0, none⟩) 0 0) (cs := #[]) (t := 52) ?hr4 ?_; (case hd4 => rfl); (case hg4 => rfl); (case hr4 => first | (go_simp; done) | (go_simp; rfl)); intro g27 hg w4 hbox hb; have HS4 := HS3.box hg hbox hb; clear HS3 hg hbox hb; have c0 : w4.cell? ⟨g, 0, none⟩ = some (.slice (some ad) n c) := HS4.cell 3 0 rfl rfl) | ((with_reducible refine gate_builtin (b := .append) (xs := #[.tmp 27, .tmp 33]) rfl ?_); refine appRow (Kd.raw 2) rfl (.tmp 27) (.tmp 33) 61 52 (.agg #[.int .i64 0, .slice none 0 0]) 32 rfl Try.underlying61 inf52 rfl (by decide) (by decide) _ [] (ys1 zs i) (some ad) i c rfl rfl (HS4.emptyRow (Kd.raw 2)) (HY1.out _ (HS4.poolGet 4 rfl List.mem_cons_self)) (fun _ _ h => h) HL1.out ?_; intro v1 w5 HS5; rw [List.nil_append] at HS5; clear HS4 c0; obtain ⟨A1, c1, rfl⟩ := HS5.rowShape 0 rfl; have c0 : w5.cell? ⟨g, 0, none⟩ = some (.slice (some ad) n c) := HS5.cell 3 0 rfl rfl) | ((with_reducible refine gate_builtin (b := .append) (xs := #[.tmp 36, .tmp 43]) rfl ?_); refine appRow (Kd.raw 2) rfl (.tmp 36) (.tmp 43) 61 52 (.agg #[.int .i64 0, .slice none 0 0]) 32 rfl Try.underlying61 inf52 rfl (by decide) (by decide) _ (ys1 zs i) (ys2 zs i) A2 (n - (i + 1)) (c - (i + 1)) rfl rfl HS5 (HY2.out _ (HS5.poolGet 4 rfl List.mem_cons_self)) (fun _ _ h => h) HL2.out ?_; intro v2 w6 HS6; rw [HY3.out] at HS6; clear HS5 c0; obtain ⟨A3, c3, rfl⟩ := HS6.rowShape 0 rfl; have c0 := HS6.cell 3 0 rfl rfl; have f0 := HS6.frozen 3 0 rfl) | ((with_reducible refine gate_store (t := 61) (p := 46) rfl ?_); refine store_event (t := 61) (p := 46) (v := ?vo5) (w1 := (w6.setCell ⟨g, 0, none⟩ (.slice A3 (erz zs i).length c3))) ?hg5 ?ho5 ?hn5 ?hr5 ?_; (case ho5 => rfl); (case hg5 => rfl); (case hn5 => rfl); (case hr5 => first | (go_simp; done) | (go_simp; rfl)); intro w7 hw; have HS7 := (HS6.setAt 3 0 (.slice A3 (erz zs i).length c3) rfl); rw [← hw] at HS7; clear hw HS6 c0 f0; have d0 := HS7.cell 1 0 rfl rfl; have d1 := HS7.cell 1 1 rfl rfl))
  refine region (frees [0, 3] (helds [1, 4] (.one 2 (.one 5 (.free 6 (.last 7 (.free 8 .done))))))) (fun w' => w'.cell? ⟨g6, 0, none⟩ = some (.int .i64 x.2.1) ∧ w'.cell? ⟨g6, 1, none⟩ = some (.slice x.1.1 x.2.2.length x.1.2)) [7] (by kernel_rfl) (by kernel_rfl) ?_
  have HS8 := HS7.drew
  have e0 : w7.drew.cell? ⟨g6, 0, none⟩ = some (.int .i64 x.2.1) := d0
  have e1 : w7.drew.cell? ⟨g6, 1, none⟩ = some (.slice x.1.1 x.2.2.length x.1.2) := d1
  clear HS7 d0 d1
  generalize w7.drew = w8 at HS8 e0 e1 ⊢
  repeat (first | (refine st_free (v := ?_) (a' := ?_) (by simp only [List.getElem?_toArray, List.getElem?_cons_succ, List.getElem?_cons_zero]; rfl) (by rfl) ?_ ?_ ?_; rotate_left 2; (intro w'; go_simp; with_reducible rfl); (simp only [Act.put, List.setIfInBounds_toArray, List.set_cons_zero, List.set_cons_succ]; rfl)) | (refine st_held (v := ?_) (a' := ?_) ⟨e0, e1⟩ (by simp only [List.getElem?_toArray, List.getElem?_cons_succ, List.getElem?_cons_zero]; rfl) (by rfl) ?_ ?_ ?_; rotate_left 2; (rintro w' ⟨s0, s1⟩; go_simp; with_reducible rfl); (simp only [Act.put, List.setIfInBounds_toArray, List.set_cons_zero, List.set_cons_succ]; rfl)))
  refine st_one (by simp only [List.getElem?_toArray, List.getElem?_cons_succ, List.getElem?_cons_zero]; rfl) ?_
  refine Kd.event_run (v := .slice (some ⟨w8.heap.size, 0, none⟩) 0 0) (w1 := w8.alloc (.cells #[] 5)) rfl (by go_simp) ?_
  have HS9 := HS8.box (g := w8.heap.size) (cs := #[]) (t := 5) rfl (blk_new w8 _) (below_alloc (Below.refl _ _) _)
  have hbn : Below w8.heap.size w8 (w8.alloc (.cells #[] 5)) := below_alloc (Below.refl _ _) _
  have e2 := (hbn.cell (World.block_lt_of_cell? _ _ e0)).trans e0
  have e3 := (hbn.cell (World.block_lt_of_cell? _ _ e1)).trans e1
  clear HS8 e0 e1 hbn
  refine ⟨⟨e2, e3⟩, ?_⟩
  refine st_norm (a' := ?_) ?_ ?_; rotate_left; (simp only [Act.put, List.setIfInBounds_toArray, List.set_cons_zero, List.set_cons_succ]; rfl)
  generalize w8.alloc _ = w9 at HS9 e2 e3 ⊢
  refine st_one (by simp only [List.getElem?_toArray, List.getElem?_cons_succ, List.getElem?_cons_zero]; rfl) ?_
  refine appRow kB rfl (.tmp 49) (.tmp 51) 22 5 (.int .u8 0) 1 rfl Try.underlying22 inf5 rfl (by decide) (by decide) _ [] x.2.2 x.1.1 x.2.2.length x.1.2 rfl rfl (HS9.emptyRow kB) ((HS9.poolGet 5 rfl List.mem_cons_self).2.2 x HXM.out).2 (fun _ _ h => h) (by have := HB.out; simp; omega) ?_
  intro v w10 HS10
  rw [List.nil_append] at HS10
  obtain ⟨D, cd, rfl⟩ := HS10.rowShape 0 rfl
  clear HS9 e2 e3
  refine ⟨⟨HS10.cell 2 0 rfl rfl, HS10.cell 2 1 rfl rfl⟩, ?_⟩
  refine st_norm (a' := ?_) ?_ ?_; rotate_left; (simp only [Act.put, List.setIfInBounds_toArray, List.set_cons_zero, List.set_cons_succ]; rfl)
  repeat (refine st_free (v := ?_) (a' := ?_) (by simp only [List.getElem?_toArray, List.getElem?_cons_succ, List.getElem?_cons_zero]; rfl) (by rfl) ?_ ?_ ?_; rotate_left 2; (intro w'; go_simp; with_reducible rfl); (simp only [Act.put, List.setIfInBounds_toArray, List.set_cons_zero, List.set_cons_succ]; rfl))
  have c4 := HS10.cell 3 0 rfl rfl
  have c5 := HS10.cell 3 1 rfl rfl
  have f4 := HS10.frozen 3 0 rfl
  have f5 := HS10.frozen 3 1 rfl
  refine st_last (by simp only [List.getElem?_toArray, List.getElem?_cons_succ, List.getElem?_cons_zero]; rfl) ?_
  refine store_event (t := 52) (p := 4) (v := .tmp 53) (w1 := (w10.setCell ⟨g4, 0, none⟩ (.int .i64 x.2.1)).setCell ⟨g4, 1, none⟩ (.slice D x.2.2.length cd)) rfl rfl rfl (by go_simp) ?_
  rintro _ rfl
  have HS11 := (HS10.setAt 3 0 (.int .i64 x.2.1) rfl).setAt 3 1 (.slice D x.2.2.length cd) rfl
  clear HS10 c4 c5 f4 f5
  refine st_norm rfl ?_
  repeat (refine st_free (v := ?_) (a' := ?_) (by simp only [List.getElem?_toArray, List.getElem?_cons_succ, List.getElem?_cons_zero]; rfl) (by rfl) ?_ ?_ ?_; rotate_left 2; (intro w'; go_simp; with_reducible rfl); (simp only [Act.put, List.setIfInBounds_toArray, List.set_cons_zero, List.set_cons_succ]; rfl))
  refine st_done ?_
  generalize (w10.setCell _ _).setCell _ _ = w11 at HS11 ⊢
  go_wp2
  refine bodyPost_ret (results_ct rfl _ _ g4 52 #[.int .i64 x.2.1, .slice D x.2.2.length cd] (0, 0) _ rfl (HS11.block 3 rfl).1 hu52 rfl rfl) rfl ⟨_, A3, c3, rfl, ?_⟩
  have hlen : (erz zs i).length = (zs.eraseIdx i).length := by unfold erz; rw [List.length_map]
  have HS12 := ((HS11.pick 5 rfl).pick 2 rfl).poolRow
  have HS13 : Sat w0 w11 (pool (PF A3 c3 (zs.eraseIdx i) :: PF (some ad) c zs :: fs) :: _) := HS12.poolMap (fun w' hw f hf => by
    rcases List.mem_cons.1 hf with rfl | hf
    · obtain ⟨_, h2, h3⟩ := hw _ List.mem_cons_self
      have h4 := hw _ (List.mem_cons_of_mem _ List.mem_cons_self)
      refine ⟨by rw [← hlen]; exact h2, by rw [← hlen]; exact h3, fun z hz => h4.2.2 z (List.mem_of_mem_eraseIdx hz)⟩
    · exact hw f (List.mem_cons_of_mem _ hf))
  have HS14 := ((HS13.pick 4 rfl).pick 2 rfl)
  have hre : rbk g A3 c3 (zs.eraseIdx i) = blk g (.cells #[.slice A3 (erz zs i).length c3] 63 (0, 0)) := by rw [hlen]; rfl
  rw [hre]
  exact (HS14.dropAt 3).dropAt 3

end Go.Proofs.Ytaojnbhnogndnaa.SL
