/- Pieces of a message that come in order; frames of one nonce. -/
import Derived.Test.YtaojnbhnogndnaaY14
namespace Go.Proofs.Ytaojnbhnogndnaa.SL
open Go.RowKit Go.Proofs.YtaojnbhnogndnaaW.PrintWords Go.Proofs.YtaojnbhnogndnaaW.PrintLast Go.Proofs.YtaojnbhnogndnaaW.PrintMore
attribute [local go_sem] max2_int min2_int max_two min_two
attribute [local go_sem high] Small.cell_set_same
set_option linter.unusedVariables false
set_option linter.unusedSimpArgs false

/-- The first i pieces of a message (of n) came at a slot, and no others. -/
def FirstOk (xs : List Int) (nc : Int) (n i : Nat) (o : Option KS) : Prop :=
  ∃ came cs, CameOk xs n came cs ∧ cs.length = n ∧ (∀ j, j < n → cs.getD j false = decide (j < i)) ∧ stepK o nc n = (nc, (n : Int), came) ∧ (0 < i → o = some (nc, (n : Int), came)) ∧ came.length = min i n
theorem FirstOk.none_ (xs : List Int) (nc : Int) (n : Nat) : FirstOk xs nc n 0 none :=
  ⟨[], List.replicate n false, CameOk.start xs n, List.length_replicate, fun j hj => by rw [List.getD_eq_getElem?_getD, List.getElem?_replicate, if_pos hj]; simp, rfl, fun h => absurd h (Nat.lt_irrefl 0), by simp⟩
theorem FirstOk.lower (xs : List Int) (nc : Int) (n : Nat) {s : KS} (h : s.1 < nc) : FirstOk xs nc n 0 (some s) :=
  ⟨[], List.replicate n false, CameOk.start xs n, List.length_replicate, fun j hj => by rw [List.getD_eq_getElem?_getD, List.getElem?_replicate, if_pos hj]; simp, (if_pos h : (if s.1 < nc then _ else _) = _), fun h => absurd h (Nat.lt_irrefl 0), by simp⟩
theorem FirstOk.over {xs : List Int} {nc : Int} {n i : Nat} {o : Option KS} (h : FirstOk xs nc n i o) (hi : n ≤ i) (hn : 0 < n) : FirstOk xs nc n (i + 1) o := by
  obtain ⟨came, cs, h1, h2, h3, h4, h5, h6⟩ := h
  exact ⟨came, cs, h1, h2, fun j hj => by rw [h3 j hj, decide_eq_true (show j < i by omega), decide_eq_true (show j < i + 1 by omega)], h4, fun _ => h5 (by omega), by omega⟩
theorem FirstOk.step {xs : List Int} {nc : Int} {n i : Nat} {o : Option KS} (h : FirstOk xs nc n i o) (hi : i < n) (hn : n ≤ 86) (hc : n = PW16.cutN xs.length) :
    (addK o nc i n (PW16.piece xs i)).2 = (if i + 1 < n then none else some xs) ∧ FirstOk xs nc n (i + 1) (addK o nc i n (PW16.piece xs i)).1 := by
  obtain ⟨came, cs, h1, h2, h3, h4, h5, h6⟩ := h
  have hb : cs.getD i false = false := by rw [h3 i hi]; simp
  have hr : refK (nc, (n : Int), came) nc i n = false := by
    unfold refK
    show (decide (nc < nc) || decide ((n : Int) ≠ n) || (lookP i came).isSome) = false
    rw [h1.look i hi, hb]; simp
  have hnew := h1.add h2 i hi hb
  have hlen : (came ++ [((i : Int), PW16.piece xs i)]).length = i + 1 := by rw [List.length_append, List.length_singleton, h6]; omega
  have hadd : addK o nc i n (PW16.piece xs i) = (some (nc, (n : Int), came ++ [((i : Int), PW16.piece xs i)]), if i + 1 < n then none else some xs) := by
    unfold addK
    rw [if_pos (okArg_nat hi hn), h4, if_neg (by rw [hr]; exact Bool.false_ne_true)]
    show (_, if ((came.length + 1 : Nat) : Int) < (n : Int) then none else some (catE (n : Int).toNat _)) = _
    rw [Int.toNat_natCast]
    have hl : came.length = i := by omega
    by_cases hlt : i + 1 < n
    · rw [if_pos hlt, if_pos (by omega)]
    · rw [if_neg hlt, if_neg (by omega), hnew.whole (by omega) hc]
  rw [hadd]
  refine ⟨rfl, came ++ [((i : Int), PW16.piece xs i)], cs.set i true, hnew, by rw [List.length_set]; exact h2, fun j hj => ?_, ?_, fun _ => rfl, by omega⟩
  · rw [List.getD_eq_getElem?_getD, List.getElem?_set]
    by_cases hij : i = j
    · rw [if_pos hij, if_pos (by omega), decide_eq_true (by omega)]; rfl
    · rw [if_neg hij, ← List.getD_eq_getElem?_getD, h3 j hj]
      by_cases h7 : j < i
      · rw [decide_eq_true h7, decide_eq_true (by omega)]
      · rw [decide_eq_false h7, decide_eq_false (by omega)]
  · show (if nc < nc then _ else _) = _
    rw [if_neg (by omega)]
theorem FirstOk.some_ {xs : List Int} {nc : Int} {n i : Nat} {o : Option KS} (h : FirstOk xs nc n i o) (hi : 0 < i) : ∃ s, o = some s ∧ s.1 = nc := by
  obtain ⟨came, cs, h1, h2, h3, h4, h5, h6⟩ := h
  exact ⟨_, h5 hi, rfl⟩
theorem FirstOk.miss {xs : List Int} {nc : Int} {n i : Nat} {o : Option KS} (h : FirstOk xs nc n i o) (hi : n ≤ i) (hn : 0 < n) : missK o = 0 := by
  obtain ⟨came, cs, h1, h2, h3, h4, h5, h6⟩ := h
  rw [h5 (by omega)]
  show (n : Int) - came.length = 0
  omega
/-- Whatever comes with one nonce, the slot bears that nonce. -/
def NonceIs (nc : Int) (o : Option KS) : Prop := o = none ∨ ∃ s, o = some s ∧ s.1 = nc
theorem NonceIs.add {nc : Int} {o : Option KS} (h : NonceIs nc o) (ix ct : Int) (bs : List Int) : NonceIs nc (addK o nc ix ct bs).1 := by
  have hs : (stepK o nc ct).1 = nc := by
    rcases h with rfl | ⟨s, rfl, h⟩
    · rfl
    · show (if s.1 < nc then _ else _ : KS).1 = nc
      rw [if_neg (by omega)]; exact h
  unfold addK
  split
  · split
    · exact .inr ⟨_, rfl, hs⟩
    · exact .inr ⟨_, rfl, hs⟩
  · exact h
theorem sAdd_any {w0 w : World} {L : List Asrt} (g b : Nat) (σ : List GS) (kd nd nc ix ct : Int) (A : Option Addr) (m c : Nat) (bs : List Int) (hw : WfE (er σ)) (hmc : m ≤ c) (hfr : ∀ w', Sat w0 w' L → kB.C w' A m bs)
    (hacc : acceptE (er σ) kd nd nc ix ct = true → bs.length ≤ 1048576) (HS : Sat w0 w (inbox g b σ ++ L)) :
    Calls Try.prog 19 #[.pointer (some ⟨g, 0, none⟩), .agg #[.int .i64 kd, .int .i64 nd, .int .i64 nc, .int .i64 ix, .int .i64 ct, .slice A m c]] w fun e w' => ∃ v, e = .returned v ∧ ∃ σ', er σ' = (addE (er σ) kd nd nc ix ct bs).1 ∧ Sat w0 w' (inbox g b σ' ++ L) := by
  refine (sAdd_calls g b σ kd nd nc ix ct A m c bs hw hmc hfr hacc HS).mono ?_
  rintro e w' ⟨σ', he, ⟨ms, v, _, h2, h3⟩ | ⟨_, h2, h3⟩⟩
  · exact ⟨_, h2, σ', he, h3.tail⟩
  · exact ⟨_, h2, σ', he, h3⟩

end Go.Proofs.Ytaojnbhnogndnaa.SL
