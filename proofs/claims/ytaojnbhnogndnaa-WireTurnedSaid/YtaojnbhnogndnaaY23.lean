/- The law WireReads. -/
import Derived.Test.YtaojnbhnogndnaaY22
import Derived.Test.YtaojnbhnogndnaaY5
namespace Go.Proofs.Ytaojnbhnogndnaa.SL
open Go.RowKit Go.Proofs.YtaojnbhnogndnaaW.PrintWords Go.Proofs.YtaojnbhnogndnaaW.PrintLast Go.Proofs.YtaojnbhnogndnaaW.PrintMore
attribute [local go_sem] max2_int min2_int max_two min_two
attribute [local go_sem high] Small.cell_set_same
set_option linter.unusedVariables false
set_option linter.unusedSimpArgs false

theorem int_at {w : World} {k : IntKind} {A : Option Addr} {n : Nat} {xs : List Int} (hr : (Kd.int k).C w A n xs) (i : Nat) (hi : i < n) : ∃ ad, A = some ad ∧ w.cell? (ad.add i) = some (.int k (xs.getD i 0)) := by
  obtain ⟨ad, c, e, _, hK, hc⟩ := Kd.C_get hr 0 (i : Int) (by omega) (by omega)
  simp only [Int.toNat_natCast] at hK hc
  have hK' : c = [.int k (xs.getD i 0)] := hK
  subst hK'
  refine ⟨ad, e, ?_⟩
  have := hc 0 _ rfl
  have h1 : (Kd.int k).sz = 1 := rfl
  rw [h1, Nat.mul_one, Nat.add_zero] at this
  exact this

section
variable {w0 w w' : World} {a : Asrt} {L l : List Asrt}
/-- A number of a row of one's own is written. -/
theorem Sat.rowPut {k : IntKind} {e n c g : Nat} {xs : List Int} (h : Sat w0 w (row (Kd.int k) e (.slice (some ⟨g, 0, none⟩) n c) xs :: L)) (i : Nat) (x : Int) : Sat w0 (w.setCell ⟨g, i, none⟩ (.int k x)) (row (Kd.int k) e (.slice (some ⟨g, 0, none⟩) n c) (xs.set i x) :: L) := by
  obtain rfl := (h.readsRow 0 rfl).1
  refine h.write (fun S hP _ => ⟨S, fun k hk => .inl hk, (Touch.set w g i _).mono (fun k _ hk => hP.1.1 k (by rw [hk]; simp [Value.ownBlock])), ?_, fun k hk => ?_⟩)
  · have := (Kd.R_put hP.1 (i : Int) x).1
    rw [Int.toNat_natCast] at this
    exact this
  · have := hP.2 k hk
    simpa [World.setCell] using this
theorem Sat.rowCell {k : IntKind} {e n c : Nat} {A : Option Addr} {xs : List Int} (h : Sat w0 w l) (p : Nat) (hp : l[p]? = some (row (Kd.int k) e (.slice A n c) xs)) (i : Nat) (hi : i < n) : ∃ g, A = some ⟨g, 0, none⟩ ∧ w.cell? ⟨g, i, none⟩ = some (.int k (xs.getD i 0)) ∧ w.frozen? ⟨g, i, none⟩ = false := by
  obtain ⟨ok, hr⟩ := h.rowAt p hp
  obtain ⟨rfl, _, hC⟩ := Kd.R_reads' hr
  obtain ⟨g, cap, he, _, _, _⟩ := Kd.R_form hr (by omega)
  injection he with e1 _ e2
  subst e1
  have h2 := (Kd.R_cell (0 : Int) hr (i : Int) (by omega) (by omega)).2
  obtain ⟨ad, e3, h1⟩ := int_at hC i hi
  injection e3 with e3
  subst e3
  have h5 : (⟨g, 0, none⟩ : Addr).add i = ⟨g, i, none⟩ := by unfold Addr.add; split <;> simp_all
  rw [h5] at h1
  exact ⟨g, rfl, h1, by simpa using h2⟩
end

theorem read43_yes {w : World} (A : Option Addr) (m c : Nat) (xs : List Int) (hok : ReadOk xs) (hr : kB.C w A m xs) (hc : m ≤ c) (hx : ∀ x ∈ xs, 0 ≤ x ∧ x < 256) :
    Calls Try.prog 43 #[.slice A m c] w fun e w' => ∃ Ax cx, e = .returned (.tuple #[.agg #[.int .i64 (fKd xs), .int .i64 (fNd xs), .int .i64 (fNc xs), .int .i64 (fIx xs), .int .i64 (fCt xs), .slice Ax (fBy xs).length cx], .int .i64 0]) ∧ Sat w w' [row kB 5 (.slice Ax (fBy xs).length cx) (fBy xs)] := by
  obtain rfl : xs.length = m := hr.1
  refine (Read43_fits A c xs hok.1 hr hc hx).mono ?_
  rintro e w' ⟨hyes, _⟩
  obtain ⟨v, rfl, HS⟩ := hyes hok
  obtain ⟨Ax, cx, rfl⟩ := HS.rowShape 0 rfl
  exact ⟨Ax, cx, rfl, HS⟩
theorem read43_no {w : World} (A : Option Addr) (m c : Nat) (xs : List Int) (hok : ¬ ReadOk xs) (hr : kB.C w A m xs) (hc : m ≤ c) (hl : m ≤ 140737488355328) (hx : ∀ x ∈ xs, 0 ≤ x ∧ x < 256) :
    Calls Try.prog 43 #[.slice A m c] w fun e w' => e = .returned (.tuple #[.agg #[.int .i64 0, .int .i64 0, .int .i64 0, .int .i64 0, .int .i64 0, .slice none 0 0], .int .i64 160]) ∧ Sat w w' [] := by
  obtain rfl : xs.length = m := hr.1
  by_cases hf : Fits xs
  · refine (Read43_fits A c xs hf hr hc hx).mono ?_
    rintro e w' ⟨_, hno⟩
    exact hno hok
  · exact Read43_short A c xs hf hr hl hx

theorem read16_yes {w : World} (A : Option Addr) (m c : Nat) (xs : List Int) (hok : ReadOk xs) (hr : kB.C w A m xs) (hc : m ≤ c) (hx : ∀ x ∈ xs, 0 ≤ x ∧ x < 256) :
    Calls Try.prog 18 #[.slice A m c] w fun e w' => ∃ Ax cx, e = .returned (.tuple #[.agg #[.int .i64 (fKd xs), .int .i64 (fNd xs), .int .i64 (fNc xs), .int .i64 (fIx xs), .int .i64 (fCt xs), .slice Ax (fBy xs).length cx], .int .i64 0]) ∧ Sat w w' [row kB 5 (.slice Ax (fBy xs).length cx) (fBy xs)] := by
  obtain rfl : xs.length = m := hr.1
  refine (Read16_fits A c xs hok.1 hr hc hx).mono ?_
  rintro e w' ⟨hyes, _⟩
  obtain ⟨v, rfl, HS⟩ := hyes hok
  obtain ⟨Ax, cx, rfl⟩ := HS.rowShape 0 rfl
  exact ⟨Ax, cx, rfl, HS⟩
theorem read16_no {w : World} (A : Option Addr) (m c : Nat) (xs : List Int) (hok : ¬ ReadOk xs) (hr : kB.C w A m xs) (hc : m ≤ c) (hl : m ≤ 140737488355328) (hx : ∀ x ∈ xs, 0 ≤ x ∧ x < 256) :
    Calls Try.prog 18 #[.slice A m c] w fun e w' => e = .returned (.tuple #[.agg #[.int .i64 0, .int .i64 0, .int .i64 0, .int .i64 0, .int .i64 0, .slice none 0 0], .int .i64 160]) ∧ Sat w w' [] := by
  obtain rfl : xs.length = m := hr.1
  by_cases hf : Fits xs
  · refine (Read16_fits A c xs hf hr hc hx).mono ?_
    rintro e w' ⟨_, hno⟩
    exact hno hok
  · exact Read16_short A c xs hf hr hl hx (Sat.start w)

/-! ### WireReads: function 12 -/
set_option maxHeartbeats 8000000 in
set_option maxRecDepth 100000 in
theorem WireReads_calls {w : World} (A : Option Addr) (c : Nat) (xs : List Int) (hr : kB.C w A xs.length xs) (hc0 : xs.length ≤ c) (hx : ∀ x ∈ xs, 0 ≤ x ∧ x < 256) (hl0 : xs.length ≤ 140737488355328) :
    Calls Try.prog 12 #[.slice A xs.length c] w fun e w' => e = .returned (.bool true) ∧ Below w.heap.size w w' := by
  have hu35 := Try.underlying35
  have HS := Sat.start w
  have HR := Aside0.mk hr
  have HX := Aside0.mk hx
  clear hr hx
  obtain ⟨n, hn⟩ : ∃ n, n = xs.length := ⟨_, rfl⟩
  rw [← hn] at HR ⊢
  have hc : n ≤ c := by omega
  have hnl : n ≤ 140737488355328 := by omega
  have HN := Aside0.mk hn
  obtain ⟨s, hs⟩ : ∃ s, s = Crc.sum xs := ⟨_, rfl⟩
  have HSU := Aside0.mk hs
  clear hn hc0 hl0 hs
  by_cases hok : ReadOk xs
  · have HOK := Aside0.mk hok
    clear hok
    go_enter Try.func12, Try.ntmps12
    go_wp2_with (first | (go_at_call 41; refine shown16_calls.mono ?_; rintro e w1 ⟨rfl, HH⟩; have HS1 := HS.frame HH; clear HS HH) | ((with_reducible refine gate_dst (N := 12) rfl ?_); refine box_event2 ?hg1 (N := 12) ?hd1 (v := fun g => .slice (some ⟨g, 0, none⟩) 0 0) (cs := #[]) (t := 5) ?hr1 ?_; (case hd1 => rfl); (case hg1 => rfl); (case hr1 => first | (go_simp; done) | (go_simp; rfl)); intro g12 hg w2 hbox hb; have HS2' := HS1.box hg hbox hb; clear HS1 hg hbox hb; have HS2 := HS2'.emptyRow0 kB; clear HS2') | ((with_reducible refine gate_builtin (b := .append) (xs := #[.tmp 12, .tmp 13]) rfl ?_); refine appRow kB rfl (.tmp 12) (.tmp 13) 22 5 (.int .u8 0) 1 rfl Try.underlying22 inf5 rfl (by decide) (by decide) _ [] xs A n c rfl rfl HS2 (Kd.C_below HR.out HS2.below) (fun _ _ h => h) (by simp; omega) ?_; intro vb w3 HS3; rw [List.nil_append] at HS3; clear HS2; obtain ⟨A1, c1, hv⟩ := HS3.rowShape 0 rfl; rw [← HN.out] at hv; subst hv; have HC1 := Aside0.mk (HS3.readsRow 0 rfl).2.1) | (go_at_call 43; refine (read43_yes A1 n c1 xs HOK.out (by rw [HN.out]; exact (HS3.readsRow 0 rfl).2.2) HC1.out HX.out).mono ?_; rintro e w4 ⟨Ax, cx, rfl, HH⟩; have HS4 := HS3.frame HH; clear HS3 HH) | ((with_reducible refine gate_dst (N := 5) rfl ?_); refine box_event ?hg2 (N := 5) ?hd2 (cs := #[.int .i64 0, .int .i64 0, .int .i64 0, .int .i64 0, .int .i64 0, .slice none 0 0]) (t := 35) ?hr2 ?_; (case hd2 => rfl); (case hg2 => rfl); (case hr2 => first | (go_simp; done) | (go_simp; rfl)); intro g5 hg w5 hbox hb; have HS5 := HS4.box hg hbox hb; clear HS4 hg hbox hb; have d0 := HS5.cell 0 0 rfl rfl; have d1 := HS5.cell 0 1 rfl rfl; have d2 := HS5.cell 0 2 rfl rfl; have d3 := HS5.cell 0 3 rfl rfl; have d4 := HS5.cell 0 4 rfl rfl; have d5 := HS5.cell 0 5 rfl rfl; have f0 := HS5.frozen 0 0 rfl; have f1 := HS5.frozen 0 1 rfl; have f2 := HS5.frozen 0 2 rfl; have f3 := HS5.frozen 0 3 rfl; have f4 := HS5.frozen 0 4 rfl; have f5 := HS5.frozen 0 5 rfl) | ((with_reducible refine gate_store (t := 35) (p := 5) rfl ?_); refine store_event (t := 35) (p := 5) (v := ?vo3) (w1 := ((((((w5.setCell ⟨g5, 0, none⟩ (.int .i64 (fKd xs))).setCell ⟨g5, 1, none⟩ (.int .i64 (fNd xs))).setCell ⟨g5, 2, none⟩ (.int .i64 (fNc xs))).setCell ⟨g5, 3, none⟩ (.int .i64 (fIx xs))).setCell ⟨g5, 4, none⟩ (.int .i64 (fCt xs))).setCell ⟨g5, 5, none⟩ (.slice Ax (fBy xs).length cx))) ?hg3 ?ho3 ?hn3 ?hr3 ?_; (case ho3 => rfl); (case hg3 => rfl); (case hn3 => rfl); (case hr3 => first | (go_simp; done) | (go_simp; rfl)); intro w6 hw; have HS6 := ((((((HS5.setAt 0 0 (.int .i64 (fKd xs)) rfl).setAt 0 1 (.int .i64 (fNd xs)) rfl).setAt 0 2 (.int .i64 (fNc xs)) rfl).setAt 0 3 (.int .i64 (fIx xs)) rfl).setAt 0 4 (.int .i64 (fCt xs)) rfl).setAt 0 5 (.slice Ax (fBy xs).length cx) rfl); rw [← hw] at HS6; clear hw HS5 d0 d1 d2 d3 d4 d5 f0 f1 f2 f3 f4 f5) | (go_at_call 18; refine (read16_yes A n c xs HOK.out (Kd.C_below HR.out HS6.below) hc HX.out).mono ?_; rintro e w7 ⟨Ay, cy, rfl, HH⟩; have HS7 := HS6.frame HH; clear HS6 HH) | ((with_reducible refine gate_dst (N := 7) rfl ?_); refine box_event ?hg4 (N := 7) ?hd4 (cs := #[.int .i64 0, .int .i64 0, .int .i64 0, .int .i64 0, .int .i64 0, .slice none 0 0]) (t := 35) ?hr4 ?_; (case hd4 => rfl); (case hg4 => rfl); (case hr4 => first | (go_simp; done) | (go_simp; rfl)); intro g7 hg w8 hbox hb; have HS8 := HS7.box hg hbox hb; clear HS7 hg hbox hb; have d0 := HS8.cell 0 0 rfl rfl; have d1 := HS8.cell 0 1 rfl rfl; have d2 := HS8.cell 0 2 rfl rfl; have d3 := HS8.cell 0 3 rfl rfl; have d4 := HS8.cell 0 4 rfl rfl; have d5 := HS8.cell 0 5 rfl rfl; have f0 := HS8.frozen 0 0 rfl; have f1 := HS8.frozen 0 1 rfl; have f2 := HS8.frozen 0 2 rfl; have f3 := HS8.frozen 0 3 rfl; have f4 := HS8.frozen 0 4 rfl; have f5 := HS8.frozen 0 5 rfl) | ((with_reducible refine gate_store (t := 35) (p := 7) rfl ?_); refine store_event (t := 35) (p := 7) (v := ?vo5) (w1 := ((((((w8.setCell ⟨g7, 0, none⟩ (.int .i64 (fKd xs))).setCell ⟨g7, 1, none⟩ (.int .i64 (fNd xs))).setCell ⟨g7, 2, none⟩ (.int .i64 (fNc xs))).setCell ⟨g7, 3, none⟩ (.int .i64 (fIx xs))).setCell ⟨g7, 4, none⟩ (.int .i64 (fCt xs))).setCell ⟨g7, 5, none⟩ (.slice Ay (fBy xs).length cy))) ?hg5 ?ho5 ?hn5 ?hr5 ?_; (case ho5 => rfl); (case hg5 => rfl); (case hn5 => rfl); (case hr5 => first | (go_simp; done) | (go_simp; rfl)); intro w9 hw; have HS9 := ((((((HS8.setAt 0 0 (.int .i64 (fKd xs)) rfl).setAt 0 1 (.int .i64 (fNd xs)) rfl).setAt 0 2 (.int .i64 (fNc xs)) rfl).setAt 0 3 (.int .i64 (fIx xs)) rfl).setAt 0 4 (.int .i64 (fCt xs)) rfl).setAt 0 5 (.slice Ay (fBy xs).length cy) rfl); rw [← hw] at HS9; clear hw HS8 d0 d1 d2 d3 d4 d5 f0 f1 f2 f3 f4 f5))
    go_loopw [9] (fun v9 wr => ∃ (i : Nat) (ys : List Int), v9 = .int .i64 i ∧ i ≤ n ∧ ys.length = n ∧ Sat w wr (row kB 5 (.slice A1 n c1) ys :: blk g7 (.cells #[.int .i64 (fKd xs), .int .i64 (fNd xs), .int .i64 (fNc xs), .int .i64 (fIx xs), .int .i64 (fCt xs), .slice Ay (fBy xs).length cy] 35 (0, 0)) :: row kB 5 (.slice Ay (fBy xs).length cy) (fBy xs) :: blk g5 (.cells #[.int .i64 (fKd xs), .int .i64 (fNd xs), .int .i64 (fNc xs), .int .i64 (fIx xs), .int .i64 (fCt xs), .slice Ax (fBy xs).length cx] 35 (0, 0)) :: row kB 5 (.slice Ax (fBy xs).length cx) (fBy xs) :: [])) (fun v9 _ => n - (intOf v9).toNat)
    case atStart => exact ⟨0, xs, rfl, Nat.zero_le _, HN.out.symm, HS9.pick 4 rfl⟩
    case round =>
      obtain ⟨i, ys, rfl, hi, hy, HT⟩ := hrel
      clear HS9
      by_cases hin : i < n
      · have h1d : decide ((i : Int) < (n : Int)) = true := decide_eq_true (by omega)
        have h1e : decide (i < n) = true := decide_eq_true hin
        obtain ⟨g, hA1, kc, kf⟩ := HT.rowCell 0 rfl i hin
        subst hA1
        go_wp2_with (first | ((with_reducible refine gate_store (t := 5) (p := 33) rfl ?_); refine store_event (t := 5) (p := 33) (v := ?vo) (w1 := (wr.setCell ⟨g, i, none⟩ (.int .u8 99))) ?hga ?hoa ?hna ?hra ?_; (case hoa => rfl); (case hga => rfl); (case hna => rfl); (case hra => first | (go_simp; done) | (go_simp; rfl)); intro wt hw; have HT2 := HT.rowPut i 99; rw [← hw] at HT2; clear hw HT kc kf))
        exact ⟨⟨i + 1, ys.set i 99, by rw [Int.natCast_add]; rfl, by omega, by rw [List.length_set]; exact hy, HT2⟩, by simp [intOf]; omega⟩
      · have h1d : decide ((i : Int) < (n : Int)) = false := decide_eq_false (by omega)
        have h1e : decide (i < n) = false := decide_eq_false hin
        have d0 := HT.cell 3 0 rfl rfl; have d1 := HT.cell 3 1 rfl rfl; have d2 := HT.cell 3 2 rfl rfl; have d3 := HT.cell 3 3 rfl rfl; have d4 := HT.cell 3 4 rfl rfl; have d5 := HT.cell 3 5 rfl rfl
        have e0 := HT.cell 1 0 rfl rfl; have e1 := HT.cell 1 1 rfl rfl; have e2 := HT.cell 1 2 rfl rfl; have e3 := HT.cell 1 3 rfl rfl; have e4 := HT.cell 1 4 rfl rfl; have e5 := HT.cell 1 5 rfl rfl
        go_wp2_with (first | (go_at_call 44; refine (same44 (fKd xs) (fNd xs) (fNc xs) (fIx xs) (fCt xs) Ax cx (fBy xs) (fKd xs) (fNd xs) (fNc xs) (fIx xs) (fCt xs) Ay cy (fBy xs) (fBy xs).length (fBy xs).length (HT.readsRow 4 rfl).2.2 (HT.readsRow 4 rfl).2.1 (HT.readsRow 2 rfl).2.2 (HT.readsRow 2 rfl).2.1 ⟨rfl, rfl, rfl, rfl, rfl, rfl⟩).mono ?_; rintro e wa ⟨rfl, HH⟩; have HT1 := HT.frame HH; clear HT HH) | (go_at_call 45; refine (sum45 A n c xs s HSU.out (Kd.C_below HR.out HT1.below) hc (by rw [← HN.out]; exact hnl)).mono ?_; rintro e wb ⟨rfl, HH⟩; have HT2 := HT1.frame HH; clear HT1 HH) | (go_at_call 46; refine (sum46 A n c xs s HSU.out (Kd.C_below HR.out HT2.below) hc (by rw [← HN.out]; exact hnl)).mono ?_; rintro e wc ⟨rfl, HH⟩; have HT3 := HT2.frame HH; clear HT2 HH))
        go_ret
        exact ⟨rfl, HT3.below⟩
  · have HOK := Aside0.mk hok
    clear hok
    go_enter Try.func12, Try.ntmps12
    go_wp2_with (first | (go_at_call 41; refine shown16_calls.mono ?_; rintro e w1 ⟨rfl, HH⟩; have HS1 := HS.frame HH; clear HS HH) | ((with_reducible refine gate_dst (N := 12) rfl ?_); refine box_event2 ?hg6 (N := 12) ?hd6 (v := fun g => .slice (some ⟨g, 0, none⟩) 0 0) (cs := #[]) (t := 5) ?hr6 ?_; (case hd6 => rfl); (case hg6 => rfl); (case hr6 => first | (go_simp; done) | (go_simp; rfl)); intro g12 hg w2 hbox hb; have HS2' := HS1.box hg hbox hb; clear HS1 hg hbox hb; have HS2 := HS2'.emptyRow0 kB; clear HS2') | ((with_reducible refine gate_builtin (b := .append) (xs := #[.tmp 12, .tmp 13]) rfl ?_); refine appRow kB rfl (.tmp 12) (.tmp 13) 22 5 (.int .u8 0) 1 rfl Try.underlying22 inf5 rfl (by decide) (by decide) _ [] xs A n c rfl rfl HS2 (Kd.C_below HR.out HS2.below) (fun _ _ h => h) (by simp; omega) ?_; intro vb w3 HS3; rw [List.nil_append] at HS3; clear HS2; obtain ⟨A1, c1, hv⟩ := HS3.rowShape 0 rfl; rw [← HN.out] at hv; subst hv; have HC1 := Aside0.mk (HS3.readsRow 0 rfl).2.1) | (go_at_call 43; refine (read43_no A1 n c1 xs HOK.out (by rw [HN.out]; exact (HS3.readsRow 0 rfl).2.2) HC1.out hnl HX.out).mono ?_; rintro e w4 ⟨rfl, HH⟩; have HS4 := HS3.frame HH; clear HS3 HH) | ((with_reducible refine gate_dst (N := 5) rfl ?_); refine box_event ?hg7 (N := 5) ?hd7 (cs := #[.int .i64 0, .int .i64 0, .int .i64 0, .int .i64 0, .int .i64 0, .slice none 0 0]) (t := 35) ?hr7 ?_; (case hd7 => rfl); (case hg7 => rfl); (case hr7 => first | (go_simp; done) | (go_simp; rfl)); intro g5 hg w5 hbox hb; have HS5 := HS4.box hg hbox hb; clear HS4 hg hbox hb; have d0 := HS5.cell 0 0 rfl rfl; have d1 := HS5.cell 0 1 rfl rfl; have d2 := HS5.cell 0 2 rfl rfl; have d3 := HS5.cell 0 3 rfl rfl; have d4 := HS5.cell 0 4 rfl rfl; have d5 := HS5.cell 0 5 rfl rfl; have f0 := HS5.frozen 0 0 rfl; have f1 := HS5.frozen 0 1 rfl; have f2 := HS5.frozen 0 2 rfl; have f3 := HS5.frozen 0 3 rfl; have f4 := HS5.frozen 0 4 rfl; have f5 := HS5.frozen 0 5 rfl) | ((with_reducible refine gate_store (t := 35) (p := 5) rfl ?_); refine store_event (t := 35) (p := 5) (v := ?vo8) (w1 := ((((((w5.setCell ⟨g5, 0, none⟩ (.int .i64 0)).setCell ⟨g5, 1, none⟩ (.int .i64 0)).setCell ⟨g5, 2, none⟩ (.int .i64 0)).setCell ⟨g5, 3, none⟩ (.int .i64 0)).setCell ⟨g5, 4, none⟩ (.int .i64 0)).setCell ⟨g5, 5, none⟩ (.slice none 0 0))) ?hg8 ?ho8 ?hn8 ?hr8 ?_; (case ho8 => rfl); (case hg8 => rfl); (case hn8 => rfl); (case hr8 => first | (go_simp; done) | (go_simp; rfl)); intro w6 hw; have HS6 := ((((((HS5.setAt 0 0 (.int .i64 0) rfl).setAt 0 1 (.int .i64 0) rfl).setAt 0 2 (.int .i64 0) rfl).setAt 0 3 (.int .i64 0) rfl).setAt 0 4 (.int .i64 0) rfl).setAt 0 5 (.slice none 0 0) rfl); rw [← hw] at HS6; clear hw HS5 d0 d1 d2 d3 d4 d5 f0 f1 f2 f3 f4 f5) | (go_at_call 18; refine (read16_no A n c xs HOK.out (Kd.C_below HR.out HS6.below) hc hnl HX.out).mono ?_; rintro e w7 ⟨rfl, HH⟩; have HS7 := HS6.frame HH; clear HS6 HH) | ((with_reducible refine gate_dst (N := 7) rfl ?_); refine box_event ?hg9 (N := 7) ?hd9 (cs := #[.int .i64 0, .int .i64 0, .int .i64 0, .int .i64 0, .int .i64 0, .slice none 0 0]) (t := 35) ?hr9 ?_; (case hd9 => rfl); (case hg9 => rfl); (case hr9 => first | (go_simp; done) | (go_simp; rfl)); intro g7 hg w8 hbox hb; have HS8 := HS7.box hg hbox hb; clear HS7 hg hbox hb; have d0 := HS8.cell 0 0 rfl rfl; have d1 := HS8.cell 0 1 rfl rfl; have d2 := HS8.cell 0 2 rfl rfl; have d3 := HS8.cell 0 3 rfl rfl; have d4 := HS8.cell 0 4 rfl rfl; have d5 := HS8.cell 0 5 rfl rfl; have f0 := HS8.frozen 0 0 rfl; have f1 := HS8.frozen 0 1 rfl; have f2 := HS8.frozen 0 2 rfl; have f3 := HS8.frozen 0 3 rfl; have f4 := HS8.frozen 0 4 rfl; have f5 := HS8.frozen 0 5 rfl) | ((with_reducible refine gate_store (t := 35) (p := 7) rfl ?_); refine store_event (t := 35) (p := 7) (v := ?vo10) (w1 := ((((((w8.setCell ⟨g7, 0, none⟩ (.int .i64 0)).setCell ⟨g7, 1, none⟩ (.int .i64 0)).setCell ⟨g7, 2, none⟩ (.int .i64 0)).setCell ⟨g7, 3, none⟩ (.int .i64 0)).setCell ⟨g7, 4, none⟩ (.int .i64 0)).setCell ⟨g7, 5, none⟩ (.slice none 0 0))) ?hg10 ?ho10 ?hn10 ?hr10 ?_; (case ho10 => rfl); (case hg10 => rfl); (case hn10 => rfl); (case hr10 => first | (go_simp; done) | (go_simp; rfl)); intro w9 hw; have HS9 := ((((((HS8.setAt 0 0 (.int .i64 0) rfl).setAt 0 1 (.int .i64 0) rfl).setAt 0 2 (.int .i64 0) rfl).setAt 0 3 (.int .i64 0) rfl).setAt 0 4 (.int .i64 0) rfl).setAt 0 5 (.slice none 0 0) rfl); rw [← hw] at HS9; clear hw HS8 d0 d1 d2 d3 d4 d5 f0 f1 f2 f3 f4 f5))
    go_loopw [9] (fun v9 wr => ∃ (i : Nat) (ys : List Int), v9 = .int .i64 i ∧ i ≤ n ∧ ys.length = n ∧ Sat w wr (row kB 5 (.slice A1 n c1) ys :: blk g7 (.cells #[.int .i64 0, .int .i64 0, .int .i64 0, .int .i64 0, .int .i64 0, .slice none 0 0] 35 (0, 0)) :: blk g5 (.cells #[.int .i64 0, .int .i64 0, .int .i64 0, .int .i64 0, .int .i64 0, .slice none 0 0] 35 (0, 0)) :: [])) (fun v9 _ => n - (intOf v9).toNat)
    case atStart => exact ⟨0, xs, rfl, Nat.zero_le _, HN.out.symm, HS9.pick 2 rfl⟩
    case round =>
      obtain ⟨i, ys, rfl, hi, hy, HT⟩ := hrel
      clear HS9
      by_cases hin : i < n
      · have h1d : decide ((i : Int) < (n : Int)) = true := decide_eq_true (by omega)
        have h1e : decide (i < n) = true := decide_eq_true hin
        obtain ⟨g, hA1, kc, kf⟩ := HT.rowCell 0 rfl i hin
        subst hA1
        go_wp2_with (first | ((with_reducible refine gate_store (t := 5) (p := 33) rfl ?_); refine store_event (t := 5) (p := 33) (v := ?vo) (w1 := (wr.setCell ⟨g, i, none⟩ (.int .u8 99))) ?hga ?hoa ?hna ?hra ?_; (case hoa => rfl); (case hga => rfl); (case hna => rfl); (case hra => first | (go_simp; done) | (go_simp; rfl)); intro wt hw; have HT2 := HT.rowPut i 99; rw [← hw] at HT2; clear hw HT kc kf))
        exact ⟨⟨i + 1, ys.set i 99, by rw [Int.natCast_add]; rfl, by omega, by rw [List.length_set]; exact hy, HT2⟩, by simp [intOf]; omega⟩
      · have h1d : decide ((i : Int) < (n : Int)) = false := decide_eq_false (by omega)
        have h1e : decide (i < n) = false := decide_eq_false hin
        have d0 := HT.cell 2 0 rfl rfl; have d1 := HT.cell 2 1 rfl rfl; have d2 := HT.cell 2 2 rfl rfl; have d3 := HT.cell 2 3 rfl rfl; have d4 := HT.cell 2 4 rfl rfl; have d5 := HT.cell 2 5 rfl rfl
        have e0 := HT.cell 1 0 rfl rfl; have e1 := HT.cell 1 1 rfl rfl; have e2 := HT.cell 1 2 rfl rfl; have e3 := HT.cell 1 3 rfl rfl; have e4 := HT.cell 1 4 rfl rfl; have e5 := HT.cell 1 5 rfl rfl
        go_wp2_with (first | (go_at_call 44; refine (same44 0 0 0 0 0 none 0 [] 0 0 0 0 0 none 0 [] 0 0 (nilB _) (Nat.le_refl _) (nilB _) (Nat.le_refl _) ⟨rfl, rfl, rfl, rfl, rfl, rfl⟩).mono ?_; rintro e wa ⟨rfl, HH⟩; have HT1 := HT.frame HH; clear HT HH) | (go_at_call 45; refine (sum45 A n c xs s HSU.out (Kd.C_below HR.out HT1.below) hc (by rw [← HN.out]; exact hnl)).mono ?_; rintro e wb ⟨rfl, HH⟩; have HT2 := HT1.frame HH; clear HT1 HH) | (go_at_call 46; refine (sum46 A n c xs s HSU.out (Kd.C_below HR.out HT2.below) hc (by rw [← HN.out]; exact hnl)).mono ?_; rintro e wc ⟨rfl, HH⟩; have HT3 := HT2.frame HH; clear HT2 HH))
        go_ret
        exact ⟨rfl, HT3.below⟩

end Go.Proofs.Ytaojnbhnogndnaa.SL
