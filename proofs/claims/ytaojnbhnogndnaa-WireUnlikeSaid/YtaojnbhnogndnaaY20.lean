/- Contract of the wire's Cut; what it comes to. -/
import Derived.Test.YtaojnbhnogndnaaX1
import Derived.Test.YtaojnbhnogndnaaPW16x5
import Derived.Test.YtaojnbhnogndnaaPW16x7
import Derived.Test.YtaojnbhnogndnaaY2
namespace Go.Proofs.Ytaojnbhnogndnaa.PW16
open Go.RowKit Go.Proofs.YtaojnbhnogndnaaW.PrintWords Go.Proofs.YtaojnbhnogndnaaW.PrintLast Go.Proofs.YtaojnbhnogndnaaW.PrintMore
attribute [local go_sem] max2_int min2_int max_two min_two max_three min_three max_four min_four
attribute [local go_sem high] Small.cell_set_same
set_option linter.unusedVariables false
set_option linter.unusedSimpArgs false
/-! ### wire_Cut: function 42 (by hand) -/
/-- The answers of F from i on, n of them. -/
def framesOf (F : Int → Option (List Int)) : Nat → Nat → Option (List (List Int))
  | _, 0 => some []
  | i, n + 1 => (F i).bind fun t => (framesOf F (i + 1) n).bind fun r => some (t :: r)
/-- How many frames a message of so many bytes has. -/
def cutCount (n : Nat) : Nat := max 1 ((n + 47) / 48)
def wire_Cut.f (k : Nat) (a0 a1 a2 : Int) (xs : List Int) : Option (List (List Int) × Int) :=
  (wire_may.f a0 a1 a2).bind fun t => if t = true then (if xs.length > 4096 then some ([], 5) else (framesOf (fun i => wire_frame.f k a0 a1 a2 i (cutCount xs.length) ((xs.take (min xs.length (i.toNat * 48 + 48))).drop (i.toNat * 48))) 0 (cutCount xs.length)).bind fun r => some (r, 0)) else some ([], 1)
theorem wire_Cut.mono (a0 a1 a2 : Int) (xs : List Int) (k : Nat) : LeO (wire_Cut.f k a0 a1 a2 xs) (wire_Cut.f (k + 1) a0 a1 a2 xs) := by
  have hF : ∀ (n i : Nat) (F G : Int → Option (List Int)), (∀ i, LeO (F i) (G i)) → LeO (framesOf F i n) (framesOf G i n) := by
    intro n
    induction n with
    | zero => intros; exact LeO.refl _
    | succ n ih => intro i F G h; exact LeO.bind (h i) (fun t => LeO.bind (ih _ _ _ h) (fun r => LeO.refl _))
  unfold wire_Cut.f
  refine LeO.bind (LeO.refl _) (fun t => LeO.ite (LeO.ite (LeO.refl _) (LeO.bind (hF _ _ _ _ (fun i => wire_frame.mono _ _ _ _ _ _ k)) (fun r => LeO.refl _))) (LeO.refl _))
/-- What holds at the head of Cut's loop. -/
def CutRel (k : Nat) (a0 a1 a2 : Int) (A : Option Addr) (c : Nat) (xs : List Int) (r : List (List Int)) (w : World) (n g1 g2 : Nat) (v5 v38 : Value) (wr : World) : Prop :=
  ∃ (i : Nat) (dn rest : List (List Int)) (idx : Int) (u : Value), v38 = .int .i64 i ∧ i ≤ n ∧
    framesOf (fun i => wire_frame.f k a0 a1 a2 i n ((xs.take (min xs.length (i.toNat * 48 + 48))).drop (i.toNat * 48))) i (n - i) = some rest ∧ dn ++ rest = r ∧ dn.length = i ∧
    SL.Sat w wr [SL.rows (Kd.slice 5 (Kd.int .u8)) 22 v5 dn, SL.blk g2 (.cells #[.int .i64 a0, .int .i64 a1, .int .i64 a2, .int .i64 idx, .int .i64 n, u] 35 (0, 0)), SL.blk g1 (.cells #[.int .i64 a0, .int .i64 a1, .int .i64 a2, .slice A xs.length c] 24 (0, 0))]
set_option maxHeartbeats 4000000 in
set_option maxRecDepth 100000 in
theorem wire_Cut.calls (k : Nat) (a0 a1 a2 : Int) (A : Option Addr) (c : Nat) (xs : List Int) (r1 : List (List Int)) (r2 : Int) (w : World) (hr : Kd.C (Kd.int .u8) w A xs.length xs) (hc : xs.length ≤ c) (h : wire_Cut.f k a0 a1 a2 xs = some (r1, r2)) :
    Calls Try.prog 42 #[.agg #[.int .i64 a0, .int .i64 a1, .int .i64 a2, .slice A xs.length c]] w fun e w' => ∃ v0_ : Value, e = .returned (.tuple #[v0_, .int .i64 r2]) ∧ Kd.S (Kd.slice 5 (Kd.int .u8)) 22 w' w.heap.size (fun k_ => (w.heap.size ≤ k_)) v0_ r1 ∧ Below w.heap.size w w' := by
  have hu24 := Try.underlying24
  have hu35 := Try.underlying35
  have HR := Aside0.mk hr
  have HC := Aside0.mk hc
  clear hr hc
  have HS := SL.Sat.start w
  unfold wire_Cut.f at h
  obtain ⟨t, hm, h⟩ := Option.bind_eq_some_iff.1 h
  have A2 := Aside0.mk hm
  clear hm
  cases t with
  | false =>
    rw [if_neg (by simp)] at h
    simp only [Option.some.injEq, Prod.mk.injEq] at h
    obtain ⟨rfl, rfl⟩ := h
    go_enter Try.func42, Try.ntmps42
    go_wp2_with (first | ((with_reducible refine gate_dst (N := 1) rfl ?_); refine box_event ?hg (N := 1) ?hd (cs := #[.int .i64 a0, .int .i64 a1, .int .i64 a2, .slice A xs.length c]) (t := 24) ?hr ?_; (case hd => rfl); (case hg => rfl); (case hr => first | (go_simp; done) | (go_simp; rfl)); intro g1 hg w1 hbox hb; have HS1 := HS.box hg hbox hb; clear HS hg hbox hb; have c0 := HS1.cell 0 0 rfl rfl; have c1 := HS1.cell 0 1 rfl rfl; have c2 := HS1.cell 0 2 rfl rfl; have c3 := HS1.cell 0 3 rfl rfl) | (go_at_call 54; (with_reducible refine (wire_may.calls a0 a1 a2 false _ A2.out).mono ?_); rintro e w' ⟨rfl, ⟨nd, rfl⟩⟩))
    go_ret2
    exact ⟨_, rfl, Kd.S_nil _ _ _ _ _, (HS1.drewN _).below⟩
  | true =>
    rw [if_pos rfl] at h
    by_cases hl : xs.length > 4096
    · rw [if_pos hl] at h
      simp only [Option.some.injEq, Prod.mk.injEq] at h
      obtain ⟨rfl, rfl⟩ := h
      go_enter Try.func42, Try.ntmps42
      go_wp2_with (first | ((with_reducible refine gate_dst (N := 1) rfl ?_); refine box_event ?hg (N := 1) ?hd (cs := #[.int .i64 a0, .int .i64 a1, .int .i64 a2, .slice A xs.length c]) (t := 24) ?hr ?_; (case hd => rfl); (case hg => rfl); (case hr => first | (go_simp; done) | (go_simp; rfl)); intro g1 hg w1 hbox hb; have HS1 := HS.box hg hbox hb; clear HS hg hbox hb; have c0 := HS1.cell 0 0 rfl rfl; have c1 := HS1.cell 0 1 rfl rfl; have c2 := HS1.cell 0 2 rfl rfl; have c3 := HS1.cell 0 3 rfl rfl) | (go_at_call 54; (with_reducible refine (wire_may.calls a0 a1 a2 true _ A2.out).mono ?_); rintro e w' ⟨rfl, ⟨nd, rfl⟩⟩))
      go_ret2
      exact ⟨_, rfl, Kd.S_nil _ _ _ _ _, (HS1.drewN _).below⟩
    · rw [if_neg hl] at h
      obtain ⟨r, hf, h⟩ := Option.bind_eq_some_iff.1 h
      simp only [Option.some.injEq, Prod.mk.injEq] at h
      obtain ⟨rfl, rfl⟩ := h
      have HF := Aside0.mk hf
      clear hf
      obtain ⟨n, hn⟩ : ∃ n, n = cutCount xs.length := ⟨_, rfl⟩
      have hn1 : 1 ≤ n := by rw [hn]; unfold cutCount; omega
      have hn2 : n ≤ 86 := by rw [hn]; unfold cutCount; omega
      have hmax : (if (1 : Int) < ((xs.length : Int) + 48 - 1) / 48 then ((xs.length : Int) + 48 - 1) / 48 else 1) = (n : Int) := by
        rw [hn]; unfold cutCount; split <;> omega
      rw [← hn] at HF
      have HN := Aside0.mk hn
      clear hn
      have hlen : (xs.length : Int) ≤ 4096 := by omega
      have hd1 : decide ((4096 : Int) < (xs.length : Int)) = false := decide_eq_false (by omega)
      have hd2 : decide (4096 < xs.length) = false := decide_eq_false (by omega)
      go_enter Try.func42, Try.ntmps42
      go_wp2_with (first | ((with_reducible refine gate_dst (N := 1) rfl ?_); refine box_event ?hg (N := 1) ?hd (cs := #[.int .i64 a0, .int .i64 a1, .int .i64 a2, .slice A xs.length c]) (t := 24) ?hr ?_; (case hd => rfl); (case hg => rfl); (case hr => first | (go_simp; done) | (go_simp; rfl)); intro g1 hg w1 hbox hb; have HS1 := HS.box hg hbox hb; clear HS hg hbox hb; have c0 := HS1.cell 0 0 rfl rfl; have c1 := HS1.cell 0 1 rfl rfl; have c2 := HS1.cell 0 2 rfl rfl; have c3 := HS1.cell 0 3 rfl rfl) | (go_at_call 54; (with_reducible refine (wire_may.calls a0 a1 a2 true _ A2.out).mono ?_); rintro e w' ⟨rfl, ⟨nd, rfl⟩⟩) | ((with_reducible refine gate_dst (N := 4) rfl ?_); refine box_event ?hg (N := 4) ?hd (cs := #[.int .i64 0, .int .i64 0, .int .i64 0, .int .i64 0, .int .i64 0, .slice none 0 0]) (t := 35) ?hr ?_; (case hd => rfl); (case hg => rfl); (case hr => first | (go_simp; done) | (go_simp; rfl)); intro g2 hg w2 hbox hb; have HS2 := (HS1.drewN _).box hg hbox hb; clear HS1 hg hbox hb; have d0 := HS2.cell 1 0 rfl rfl; have d1 := HS2.cell 1 1 rfl rfl; have d2 := HS2.cell 1 2 rfl rfl; have d3 := HS2.cell 1 3 rfl rfl; have e0 := HS2.cell 0 0 rfl rfl; have e1 := HS2.cell 0 1 rfl rfl; have e2 := HS2.cell 0 2 rfl rfl; have e3 := HS2.cell 0 3 rfl rfl; have e4 := HS2.cell 0 4 rfl rfl; have e5 := HS2.cell 0 5 rfl rfl; have f0 := HS2.frozen 0 0 rfl; have f1 := HS2.frozen 0 1 rfl; have f2 := HS2.frozen 0 2 rfl; have f3 := HS2.frozen 0 3 rfl; have f4 := HS2.frozen 0 4 rfl; have f5 := HS2.frozen 0 5 rfl) | ((with_reducible refine gate_store (t := 35) (p := 4) rfl ?_); refine store_event (t := 35) (p := 4) (v := ?vo0) (w1 := ((((((w2.setCell ⟨g2, 0, none⟩ (.int .i64 a0)).setCell ⟨g2, 1, none⟩ (.int .i64 a1)).setCell ⟨g2, 2, none⟩ (.int .i64 a2)).setCell ⟨g2, 3, none⟩ (.int .i64 0)).setCell ⟨g2, 4, none⟩ (.int .i64 0)).setCell ⟨g2, 5, none⟩ (.slice none 0 0))) ?hg ?ho ?hn ?hr ?_; (case ho => rfl); (case hg => rfl); (case hn => rfl); (case hr => first | (go_simp; done) | (go_simp; rfl)); intro w3 hw; have HS3 := (((((HS2.set 0 (.int .i64 a0)).set 1 (.int .i64 a1)).set 2 (.int .i64 a2)).set 3 (.int .i64 0)).set 4 (.int .i64 0)).set 5 (.slice none 0 0); rw [← hw] at HS3; clear hw HS2 c0 c1 c2 c3 d0 d1 d2 d3 e0 e1 e2 e3 e4 e5 f0 f1 f2 f3 f4 f5; have d3 := HS3.cell 1 3 rfl rfl; have e4 := HS3.cell 0 4 rfl rfl; have f4 := HS3.frozen 0 4 rfl))
      have HS4 := HS3.set 4 (.int .i64 (n : Int))
      clear HS3 d3 e4 f4
      generalize w3.setCell ⟨g2, 4, none⟩ (.int .i64 (n : Int)) = w4 at HS4 ⊢
      go_loopw [5, 38] (fun v5 v38 wr => CutRel k a0 a1 a2 A c xs r w n g1 g2 v5 v38 wr) (fun _ i _ => n - (intOf i).toNat)
      case atStart => exact ⟨0, [], r, 0, .slice none 0 0, rfl, Nat.zero_le _, HF.out, rfl, rfl, (HS4.nilRows _ _)⟩
      case round =>
        obtain ⟨i, dn, rest, idx, u, rfl, hi, hf, hd, hdn, HS⟩ := hrel
        clear HS4 HF
        have b0 := HS.cell 1 3 rfl rfl
        have b1 := HS.cell 1 4 rfl rfl
        have p0 := HS.frozen 1 3 rfl
        by_cases hlt : i < n
        · obtain ⟨m, hm⟩ : ∃ m, n - i = m + 1 := ⟨n - i - 1, by omega⟩
          rw [hm] at hf
          obtain ⟨t, ht, hf2⟩ := Option.bind_eq_some_iff.1 hf
          obtain ⟨rest', hf3, hq⟩ := Option.bind_eq_some_iff.1 hf2
          obtain rfl := Option.some.inj hq
          have hm' : m = n - (i + 1) := by omega
          subst hm'
          have hcnt : i * 48 ≤ xs.length := by have := HN.out; unfold cutCount at this; omega
          obtain ⟨hi2, hhi2⟩ : ∃ j, j = min xs.length (i * 48 + 48) := ⟨_, rfl⟩
          have hmn : (if (i : Int) * 48 + 48 < (xs.length : Int) then (i : Int) * 48 + 48 else (xs.length : Int)) = (hi2 : Int) := by rw [hhi2]; split <;> omega
          obtain ⟨A', hrun, hread⟩ := SL.cut_lh (Kd.int .u8) (P := Try.prog) 22 5 Try.underlying22 (i := _) rfl rfl A xs.length c (i * 48) hi2 (by omega) (by omega) HC.out
          have hcut := fun W => hrun W ((i : Int) * 48) (hi2 : Int) (by omega) rfl
          clear hrun
          obtain ⟨ps, hps⟩ : ∃ q, q = (xs.take hi2).drop (i * 48) := ⟨_, rfl⟩
          have hpl : hi2 - i * 48 = ps.length := by rw [hps, List.length_drop, List.length_take]; omega
          have hrd := fun w => hread w xs
          rw [← hps, hpl] at hrd
          rw [hpl] at hcut
          have hft : wire_frame.f k a0 a1 a2 i n ps = some t := by rw [hps, hhi2]; have := ht; simpa using this
          have hpc : ps.length ≤ c - i * 48 := by have := HC.out; omega
          have HFT := Aside0.mk hft
          have HPC := Aside0.mk hpc
          have HRD := Aside0.mk hrd
          have HREST := Aside0.mk hf3
          have HD := Aside0.mk hd
          have HDN := Aside0.mk hdn
          clear hft hpc hrd hread hf hf2 hf3 hd hdn ht hpl hps hhi2 hcnt hm
          go_wp2_with (first | ((with_reducible refine gate_store (t := 3) (p := 41) rfl ?_); refine store_event (t := 3) (p := 41) (v := ?vo1) (w1 := (wr.setCell ⟨g2, 3, none⟩ (.int .i64 (i : Int)))) ?hg ?ho ?hn ?hr ?_; (case ho => rfl); (case hg => rfl); (case hn => rfl); (case hr => first | (go_simp; done) | (go_simp; rfl)); intro w5 hw; have HS5 := HS.setAt 1 3 (.int .i64 (i : Int)) rfl; rw [← hw] at HS5; clear hw HS b0 b1 p0; have b0 := HS5.cell 1 3 rfl rfl; have b1 := HS5.cell 2 3 rfl rfl; have b5 := HS5.cell 1 5 rfl rfl; have p0 := HS5.frozen 1 5 rfl) | ((with_reducible refine gate_store (t := 22) (p := 55) rfl ?_); refine store_event (t := 22) (p := 55) (v := ?vo2) (w1 := (w5.setCell ⟨g2, 5, none⟩ (.slice A' ps.length (c - i * 48)))) ?hg ?ho ?hn ?hr ?_; (case ho => rfl); (case hg => rfl); (case hn => rfl); (case hr => first | (go_simp; done) | (go_simp; rfl)); intro w6 hw; have HS6 := HS5.setAt 1 5 (.slice A' ps.length (c - i * 48)) rfl; rw [← hw] at HS6; clear hw HS5 b0 b1 b5 p0; have q0 := HS6.cell 1 0 rfl rfl; have q1 := HS6.cell 1 1 rfl rfl; have q2 := HS6.cell 1 2 rfl rfl; have q3 := HS6.cell 1 3 rfl rfl; have q4 := HS6.cell 1 4 rfl rfl; have q5 := HS6.cell 1 5 rfl rfl))
          refine (wire_frame.calls k a0 a1 a2 i n A' _ ps t w6 (HRD.out _ (Kd.C_below HR.out HS6.below)) HPC.out HFT.out).mono ?_
          rintro e w7 ⟨v0, rfl, hR, hB⟩
          have HS7 := HS6.newRow hB hR (Nat.le_refl _)
          clear HS6 hR hB q0 q1 q2 q3 q4 q5
          obtain ⟨A2, c2, rfl⟩ := HS7.rowShape 0 rfl
          go_wp2_with ((with_reducible refine gate_builtin (b := .append) (xs := #[.tmp 56, .tmp 59]) rfl ?_); at_builtin; refine SL.app1 (Kd.slice 5 (Kd.int .u8)) rfl (.tmp 56) (.tmp 59) 27 22 (.slice none 0 0) 24 rfl Try.underlying27 info22 rfl (by decide) (by omega) u5 dn t [.slice A2 t.length c2] (SL.row (Kd.int .u8) 5 (.slice A2 t.length c2) t) rfl rfl HS7 ?hel ?hl ?_; (case hel => exact fun S hp => Kd.M_row hp.1); (case hl => have := HDN.out; omega); intro v8 w8 HS8)
          exact ⟨⟨i + 1, dn ++ [t], rest', (i : Int), .slice A' ps.length (c - i * 48), by rw [Int.natCast_add]; rfl, by omega, HREST.out, by rw [List.append_assoc]; exact HD.out, by rw [List.length_append, HDN.out]; rfl, HS8⟩, by simp [intOf]; omega⟩
        · obtain rfl : i = n := by omega
          rw [Nat.sub_self] at hf
          obtain rfl := Option.some.inj hf
          rw [List.append_nil] at hd
          subst hd
          go_wp2
          go_ret2
          exact ⟨u5, rfl, HS.rowsOut (SL.Raise.slice (SL.Raise.int _) _) 0 rfl, HS.below⟩

theorem framesOf_map (F : Nat → Int → Option (List Int)) (G : Nat → List Int) (h : ∀ i : Nat, Ev (fun k => F k i) (G i)) : ∀ (n i : Nat), Ev (fun k => framesOf (F k) i n) ((List.range n).map fun j => G (i + j))
  | 0, i => Ev.now _
  | n + 1, i => by
    have h1 := framesOf_map F G h n (i + 1)
    refine Ev.congr (f := fun k => (F k i).bind fun t => (framesOf (F k) (i + 1) n).bind fun r => some (t :: r)) (fun k => by rw [framesOf]) ?_
    refine Ev.bind (h i) (Ev.bind h1 ?_)
    rw [List.range_succ_eq_map, List.map_cons, List.map_map]
    have e : ((List.range n).map ((fun j => G (i + j)) ∘ Nat.succ)) = (List.range n).map fun j => G (i + 1 + j) := List.map_congr_left (fun j _ => by simp only [Function.comp]; congr 1; omega)
    rw [e]
    exact Ev.now _
theorem cut_w (kd nd nc : Int) (xs : List Int) : Ev (fun k => wire_Cut.f k kd nd nc xs) (cutL kd nd nc xs, cutE kd nd nc xs) := by
  unfold wire_Cut.f
  rw [may_w]
  simp only [Option.bind_some]
  unfold cutL cutE
  by_cases h1 : okHead kd nd nc = true
  · rw [if_pos h1]
    by_cases h2 : xs.length ≤ 4096
    · refine Ev.congr (fun k => (if_pos h1).trans (if_neg (by omega))) ?_
      rw [if_pos h2, if_pos rfl]
      have hN := cutN_le h2
      have hcc : cutCount xs.length = cutN xs.length := rfl
      rw [hcc]
      have hk := framesOf_map (fun k i => wire_frame.f k kd nd nc i (cutN xs.length) ((xs.take (min xs.length (i.toNat * 48 + 48))).drop (i.toNat * 48))) (frameOf kd nd nc xs) (fun i => by
        simp only [Int.toNat_natCast]
        rw [piece_eq]
        exact frame_w kd nd nc i (cutN xs.length) (piece xs i) (by rw [piece_len]; omega)) (cutN xs.length) 0
      simp only [Nat.zero_add] at hk
      exact Ev.bind hk (Ev.now _)
    · refine Ev.congr (fun k => (if_pos h1).trans (if_pos (by omega))) ?_
      rw [if_neg h2, if_neg (by decide)]
      exact Ev.now _
  · refine Ev.congr (fun k => if_neg h1) ?_
    rw [if_neg h1, if_neg (by decide)]
    exact Ev.now _

end Go.Proofs.Ytaojnbhnogndnaa.PW16
