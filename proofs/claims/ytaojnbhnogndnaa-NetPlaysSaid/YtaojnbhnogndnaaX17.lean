/- Contract of the document's net (majordomoref18): Send. -/
import Derived.Test.YtaojnbhnogndnaaX16
namespace Go.Proofs.Ytaojnbhnogndnaa.SL
open Go.RowKit Go.Proofs.YtaojnbhnogndnaaW.PrintWords Go.Proofs.YtaojnbhnogndnaaW.PrintLast Go.Proofs.YtaojnbhnogndnaaW.PrintMore
attribute [local go_sem] max2_int min2_int max_two min_two
attribute [local go_sem high] Small.cell_set_same
set_option linter.unusedVariables false
set_option linter.unusedSimpArgs false

/-! ### Send (majordomoref18): function 32 -/
/-- The bytes of all of them read so. -/
def NF (ns : List Zk) : World → Prop := fun w => ∀ z ∈ ns, Tells w z
theorem rSend_step {w0 w : World} {L : List Asrt} {fs : List (World → Prop)} {g gk n c cd : Nat} {v : Value} {A D : Option Addr} {zs ns : List Zk} {to_ : Int} {x : List Int} {o : Obj}
    (h : Sat w0 w (row (Kd.raw 2) 52 v ((zs ++ ns).map encZ ++ [encZ ((D, cd), (to_, x))]) :: blk gk o :: row kB 5 (.slice D x.length cd) x :: blk g (.cells #[.slice A n c] 63 (0, 0)) :: pool (NF ns :: PF A c zs :: fs) :: L)) :
    Sat w0 w (row (Kd.raw 2) 52 v ((zs ++ (ns ++ [((D, cd), (to_, x))])).map encZ) :: blk g (.cells #[.slice A n c] 63 (0, 0)) :: pool (NF (ns ++ [((D, cd), (to_, x))]) :: PF A c zs :: fs) :: L) := by
  have hmap : (zs ++ ns).map encZ ++ [encZ ((D, cd), (to_, x))] = (zs ++ (ns ++ [((D, cd), (to_, x))])).map encZ := by simp
  rw [hmap] at h
  have h2 := ((h.pick 4 rfl).pick 3 rfl).poolRow
  have h3 : Sat w0 w (pool (NF (ns ++ [((D, cd), (to_, x))]) :: PF A c zs :: fs) :: _) := h2.poolMap (fun w' hw f hf => by
    rcases List.mem_cons.1 hf with rfl | hf
    · intro z hz
      rcases List.mem_append.1 hz with hz | hz
      · exact hw (NF ns) (List.mem_cons_of_mem _ List.mem_cons_self) z hz
      · rw [List.mem_singleton.1 hz]
        exact (hw _ List.mem_cons_self).2
    · exact hw f (List.mem_cons_of_mem _ (List.mem_cons_of_mem _ hf)))
  exact (((h3.pick 3 rfl).pick 2 rfl).dropAt 3)
theorem rSend_end {w0 w : World} {L : List Asrt} {fs : List (World → Prop)} {g c c3 : Nat} {A A3 : Option Addr} {zs ns : List Zk}
    (h : Sat w0 w (row (Kd.raw 2) 52 (.slice A3 ((zs ++ ns).map encZ).length c3) ((zs ++ ns).map encZ) :: blk g (.cells #[.slice A3 ((zs ++ ns).map encZ).length c3] 63 (0, 0)) :: pool (NF ns :: PF A c zs :: fs) :: L)) :
    Sat w0 w (rbk g A3 c3 (zs ++ ns) :: pool (PF A3 c3 (zs ++ ns) :: PF A c zs :: fs) :: L) := by
  have hlen : ((zs ++ ns).map encZ).length = (zs ++ ns).length := by simp
  rw [hlen] at h
  have h2 := ((h.pick 2 rfl).pick 1 rfl).poolRow
  have h3 : Sat w0 w (pool (PF A3 c3 (zs ++ ns) :: PF A c zs :: fs) :: _) := h2.poolMap (fun w' hw f hf => by
    rcases List.mem_cons.1 hf with rfl | hf
    · obtain ⟨_, h2, h3⟩ := hw _ List.mem_cons_self
      have h4 := hw (NF ns) (List.mem_cons_of_mem _ List.mem_cons_self)
      have h5 := hw (PF A c zs) (List.mem_cons_of_mem _ (List.mem_cons_of_mem _ List.mem_cons_self))
      refine ⟨h2, by rw [← hlen]; exact h3, fun z hz => ?_⟩
      rcases List.mem_append.1 hz with hz | hz
      · exact h5.2.2 z hz
      · exact h4 z hz
    · exact hw f (List.mem_cons_of_mem _ (List.mem_cons_of_mem _ hf)))
  exact h3.swap
theorem takeTake {α : Type} (xs : List α) (i m : Nat) (z : α) (hi : i < xs.length) : (if i < m then (xs.take i).take m ++ [xs.getD i z] else (xs.take i).take m) = (xs.take (i + 1)).take m := by
  rw [List.take_take, List.take_take]
  split
  · have h1 : min m i = i := by omega
    have h2 : min m (i + 1) = i + 1 := by omega
    rw [h1, h2]
    have := takeSnoc (fun x : α => x) z hi
    simpa using this.symm
  · have h1 : min m i = m := by omega
    have h2 : min m (i + 1) = m := by omega
    rw [h1, h2]
set_option maxHeartbeats 4000000 in
set_option maxRecDepth 100000 in
theorem rSend_calls {w0 w : World} {L : List Asrt} {fs : List (World → Prop)} (g : Nat) (A : Option Addr) (c : Nat) (zs : List Zk) (to_ : Int) (Bf : Option Addr) (cf : Nat) (fr : List (List Int)) (hm : zs.length ≤ 256) (hcf : fr.length ≤ cf) (hb : ∀ x ∈ fr, x.length ≤ 140737488355328) (hfl : fr.length ≤ 140737488355328)
    (hr : ∀ w', Sat w0 w' L → (Kd.slice 5 kB).C w' Bf fr.length fr) (HS : Sat w0 w (rbk g A c zs :: pool (PF A c zs :: fs) :: L)) :
    Calls Try.prog 32 #[.pointer (some ⟨g, 0, none⟩), .int .i64 to_, .slice Bf fr.length cf] w fun e w' => e = .returned (.int .i64 ((fr.length - min fr.length (256 - zs.length) : Nat) : Int)) ∧
      ∃ A' c' ns, ns.map (·.2) = (fr.take (256 - zs.length)).map (fun f => (to_, f)) ∧ Sat w0 w' (rbk g A' c' (zs ++ ns) :: pool (PF A' c' (zs ++ ns) :: PF A c zs :: fs) :: L) := by
  have hu52 := Try.underlying52
  have P0 := HS.poolGet 1 rfl List.mem_cons_self
  obtain ⟨n, hn⟩ : ∃ n, n = zs.length := ⟨_, rfl⟩
  have hnc : n ≤ c := by have := P0.1; omega
  have hn256 : n ≤ 256 := by omega
  have HY0 := Aside0.mk (show ∀ w', PF A c zs w' → ReadsRow ((Kd.raw 2).K w') 2 w' A n (zs.map encZ) from fun w' h => by
    have := h.2.1
    rw [← hn] at this
    exact this)
  have c0 : w.cell? ⟨g, 0, none⟩ = some (.slice A zs.length c) := HS.cell 0 0 rfl rfl
  rw [← hn] at c0 ⊢
  have hre : rbk g A c zs = blk g (.cells #[.slice A n c] 63 (0, 0)) := by rw [hn]; rfl
  rw [hre] at HS
  have HN := Aside0.mk hn
  have HB := Aside0.mk hb
  have HR := Aside0.mk hr
  clear hn P0 hre hm hb hr
  go_enter Try.func32, Try.ntmps32
  go_wp2_with (first | ((with_reducible refine gate_dst (N := 10) rfl ?_); refine box_event2 ?hg1 (N := 10) ?hd1 (v := fun g => .slice (some ⟨g, 0, none⟩) 0 0) (cs := #[]) (t := 52) ?hr1 ?_; (case hd1 => rfl); (case hg1 => rfl); (case hr1 => first | (go_simp; done) | (go_simp; rfl)); intro g10 hg w1 hbox hb; have HS1 := HS.box hg hbox hb; clear HS hg hbox hb c0; have c0 : w1.cell? ⟨g, 0, none⟩ = some (.slice A n c) := HS1.cell 1 0 rfl rfl) | ((with_reducible refine gate_builtin (b := .append) (xs := #[.tmp 10, .tmp 14]) rfl ?_); refine appRow (Kd.raw 2) rfl (.tmp 10) (.tmp 14) 61 52 (.agg #[.int .i64 0, .slice none 0 0]) 32 rfl Try.underlying61 inf52 rfl (by decide) (by decide) _ [] (zs.map encZ) A n c rfl rfl (HS1.emptyRow (Kd.raw 2)) (HY0.out _ (HS1.poolGet 2 rfl List.mem_cons_self)) (fun _ _ h => h) (by simp; omega) ?_; intro v w2 HS2; rw [List.nil_append] at HS2; clear HS1 c0))
  go_loopw [7, 8, 9] (fun v7 v8 v9 wr => ∃ (i lost : Nat) (ns : List Zk), v9 = .int .i64 i ∧ v7 = .int .i64 lost ∧ i ≤ fr.length ∧ ns.map (·.2) = ((fr.take i).take (256 - n)).map (fun f => (to_, f)) ∧ lost = i - min i (256 - n) ∧ Sat w0 wr (row (Kd.raw 2) 52 v8 ((zs ++ ns).map encZ) :: blk g (.cells #[.slice A n c] 63 (0, 0)) :: pool (NF ns :: PF A c zs :: fs) :: L)) (fun _ _ i _ => fr.length - (intOf i).toNat)
  case atStart =>
    refine ⟨0, 0, [], rfl, rfl, Nat.zero_le _, by simp, by omega, ?_⟩
    rw [List.append_nil]
    exact ((HS2.pick 2 rfl).poolMap (gs := NF [] :: PF A c zs :: fs) (fun w' hw f hf => by
      rcases List.mem_cons.1 hf with rfl | hf
      · intro z hz; cases hz
      · exact hw f hf)).perm (by exact (List.Perm.swap _ _ _).trans ((List.Perm.swap _ _ _).cons _))
  case round =>
    obtain ⟨i, lost, ns, rfl, rfl, hi, hns, hlost, HS3⟩ := hrel
    clear HS2
    have hnl : ns.length = min i (256 - n) := by
      have h1 := congrArg List.length hns
      rw [List.length_map, List.length_map, List.length_take, List.length_take] at h1
      omega
    obtain ⟨A3, c3, rfl⟩ := HS3.rowShape 0 rfl
    by_cases hlt : i < fr.length
    · have hd1 : decide ((i : Int) < (fr.length : Int)) = true := decide_eq_true (by omega)
      have hd2 : decide (i < fr.length) = true := decide_eq_true hlt
      obtain ⟨q, hq⟩ : ∃ q, q = ((zs ++ ns).map encZ).length := ⟨_, rfl⟩
      have hq2 : q = n + ns.length := by rw [hq, List.length_map, List.length_append, HN.out]
      have hstep := takeTake fr i (256 - n) [] hlt
      rw [← hq] at HS3 ⊢
      by_cases hfull : i < 256 - n
      · have hd3 : ((q : Int) == 256) = false := by simp; omega
        have hd4 : (q == 256) = false := by simp; omega
        rw [if_pos hfull] at hstep
        have hlost' : lost = i + 1 - min (i + 1) (256 - n) := by omega
        obtain ⟨ad, _, _, rfl, _, _, _⟩ := fr_at (HR.out _ HS3.tail.tail.tail) i hlt
        have hx1 := HB.out (fr.getD i []) (by rw [List.getD_eq_getElem?_getD, List.getElem?_eq_getElem hlt]; exact List.getElem_mem _)
        obtain ⟨x, hx⟩ : ∃ x, x = fr.getD i [] := ⟨_, rfl⟩
        rw [← hx] at hx1 hstep
        have HX := Aside0.mk hx1
        have HXX := Aside0.mk hx
        have HQ := Aside0.mk hq
        have HQ2 := Aside0.mk (show (q + 1) * 32 ≤ 140737488355328 by omega)
        have HST := Aside0.mk hstep
        have HNS := Aside0.mk hns
        have HLO := Aside0.mk hlost'
        clear hx1 hx hq hq2 hstep hns hlost hnl hlost'
        go_wp2_with (first | ((with_reducible refine gate_dst (N := 29) rfl ?_); refine box_event2 ?hg2 (N := 29) ?hd2 (v := fun g => .slice (some ⟨g, 0, none⟩) 0 0) (cs := #[]) (t := 5) ?hr2 ?_; (case hd2 => rfl); (case hg2 => rfl); (case hr2 => first | (go_simp; done) | (go_simp; rfl)); intro g29 hg w3 hbox hb; have HS5 := HS3.box hg hbox hb; clear HS3 hg hbox hb; obtain ⟨ad2, B, cb, he, k0, hcb, hrb⟩ := fr_at (HR.out _ HS5.tail.tail.tail.tail) i hlt; injection he with he; subst he; rw [← HXX.out] at k0 hcb hrb; have HRB := Aside0.mk hrb; clear hrb hcb) | ((with_reducible refine gate_builtin (b := .append) (xs := #[.tmp 29, .tmp 33]) rfl ?_); refine appRow kB rfl (.tmp 29) (.tmp 33) 22 5 (.int .u8 0) 1 rfl Try.underlying22 inf5 rfl (by decide) (by decide) _ [] x B x.length cb rfl rfl (HS5.emptyRow kB) HRB.out (fun _ _ h => h) (by have := HX.out; simp; omega) ?_; intro v w4 HS6; rw [List.nil_append] at HS6; clear HS5 k0 HRB; obtain ⟨D, cd, rfl⟩ := HS6.rowShape 0 rfl) | ((with_reducible refine gate_dst (N := 36) rfl ?_); refine box_event2 ?hg3 (N := 36) ?hd3 (v := fun g => .slice (some ⟨g, 0, none⟩) 1 1) (cs := #[.int .i64 to_, .slice D x.length cd]) (t := 52) ?hr3 ?_; (case hd3 => rfl); (case hg3 => rfl); (case hr3 => first | (go_simp; done) | (go_simp; rfl)); intro g36 hg w5 hbox hb; have HS7 := HS6.box hg hbox hb; clear HS6 hg hbox hb) | ((with_reducible refine gate_builtin (b := .append) (xs := #[.tmp 27, .tmp 36]) rfl ?_); refine appRow (Kd.raw 2) rfl (.tmp 27) (.tmp 36) 61 52 (.agg #[.int .i64 0, .slice none 0 0]) 32 rfl Try.underlying61 inf52 rfl (by decide) (by decide) _ ((zs ++ ns).map encZ) [encZ ((D, cd), (to_, x))] (some ⟨g36, 0, none⟩) 1 1 rfl rfl (HS7.pick 2 rfl) (raw_of_blk (HS7.block 0 rfl).1 (cs := [.int .i64 to_, .slice D x.length cd]) rfl (by intro u hu; simp at hu; rcases hu with rfl | rfl <;> rfl)) (fun _ _ h => h) (by rw [← HQ.out]; exact HQ2.out) ?_; intro v w6 HS8; clear HS7; obtain ⟨A4, c4, rfl⟩ := HS8.rowShape 0 rfl; generalize ((zs ++ ns).map encZ ++ [encZ ((D, cd), (to_, x))]).length = q2 at HS8 ⊢))
        exact ⟨⟨i + 1, lost, ns ++ [((D, cd), (to_, x))], by rw [Int.natCast_add]; rfl, rfl, by omega, by rw [List.map_append, HNS.out, ← HST.out, List.map_append]; rfl, HLO.out, rSend_step HS8⟩, by simp [intOf]; omega⟩
      · have hd3 : ((q : Int) == 256) = true := by simp; omega
        have hd4 : (q == 256) = true := by simp; omega
        rw [if_neg hfull] at hstep
        have hlost' : lost + 1 = i + 1 - min (i + 1) (256 - n) := by omega
        have hlost2 : lost ≤ i := by omega
        have HST := Aside0.mk hstep
        have HNS := Aside0.mk hns
        have HQ := Aside0.mk hq
        have HLO := Aside0.mk hlost'
        clear hstep hns hlost hq hq2 hnl hlost'
        go_wp2
        exact ⟨⟨i + 1, lost + 1, ns, by rw [Int.natCast_add]; rfl, by rw [Int.natCast_add]; rfl, by omega, by rw [HNS.out, HST.out], HLO.out, HS3⟩, by simp [intOf]; omega⟩
    · obtain rfl : i = fr.length := by omega
      have hd1 : decide ((fr.length : Int) < (fr.length : Int)) = false := decide_eq_false (by omega)
      have hd2 : decide (fr.length < fr.length) = false := decide_eq_false (by omega)
      have c0 := HS3.cell 1 0 rfl rfl
      have f0 := HS3.frozen 1 0 rfl
      rw [List.take_length] at hns
      have HLO := Aside0.mk hlost
      have HNS := Aside0.mk hns
      clear hlost hnl hns
      go_wp2_with (first | ((with_reducible refine gate_store (t := 61) (p := 41) rfl ?_); refine store_event (t := 61) (p := 41) (v := ?vo4) (w1 := (wr.setCell ⟨g, 0, none⟩ (.slice A3 ((zs ++ ns).map encZ).length c3))) ?hg4 ?ho4 ?hn4 ?hr4 ?_; (case ho4 => rfl); (case hg4 => rfl); (case hn4 => rfl); (case hr4 => first | (go_simp; done) | (go_simp; rfl)); intro w3 hw; have HS4 := (HS3.setAt 1 0 (.slice A3 ((zs ++ ns).map encZ).length c3) rfl); rw [← hw] at HS4; clear hw HS3 c0 f0))
      go_ret
      exact ⟨congrArg (fun k : Nat => Ending.returned (.int .i64 (k : Int))) HLO.out, A3, c3, ns, HNS.out, rSend_end HS4⟩

end Go.Proofs.Ytaojnbhnogndnaa.SL
