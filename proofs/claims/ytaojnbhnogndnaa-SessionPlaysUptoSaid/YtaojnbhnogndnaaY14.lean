/- Frames of a message as rows; their pieces as they come to an inbox. -/
import Derived.Test.YtaojnbhnogndnaaY13
import Derived.Test.YtaojnbhnogndnaaY5
import Derived.Test.YtaojnbhnogndnaaXO
namespace Go.Proofs.Ytaojnbhnogndnaa.SL
open Go.RowKit Go.Proofs.YtaojnbhnogndnaaW.PrintWords Go.Proofs.YtaojnbhnogndnaaW.PrintLast Go.Proofs.YtaojnbhnogndnaaW.PrintMore
attribute [local go_sem] max2_int min2_int max_two min_two
attribute [local go_sem high] Small.cell_set_same
set_option linter.unusedVariables false
set_option linter.unusedSimpArgs false

abbrev kF : Kd (List Int) := Kd.slice 5 kB
theorem kF_raise : Raise kF := Raise.slice (Raise.int _) _
/-- A row of rows of bytes that is read: its cells, the address in parts. -/
theorem rows_row {w : World} {A : Option Addr} {n : Nat} {xs : List (List Int)} (hr : kF.C w A n xs) (hn : 0 < n) : ∃ b o, A = some ⟨b, o, none⟩ ∧ ∀ i, i < n → ∃ Ai ci, w.cell? ⟨b, o + i, none⟩ = some (.slice Ai (xs.getD i []).length ci) ∧ (xs.getD i []).length ≤ ci ∧ kB.C w Ai (xs.getD i []).length (xs.getD i []) := by
  have key : ∀ i, i < n → ∃ ad Ai ci, A = some ad ∧ w.cell? (ad.add i) = some (.slice Ai (xs.getD i []).length ci) ∧ (xs.getD i []).length ≤ ci ∧ kB.C w Ai (xs.getD i []).length (xs.getD i []) := by
    intro i hi
    obtain ⟨ad, c, e, _, hK, hc⟩ := Kd.C_get hr [] (i : Int) (by omega) (by omega)
    simp only [Int.toNat_natCast] at hK hc
    obtain ⟨Ai, ci, rfl, h1, h2⟩ := hK
    refine ⟨ad, Ai, ci, e, ?_, h1, h2⟩
    have := hc 0 _ rfl
    have h3 : kF.sz = 1 := rfl
    rw [h3, Nat.mul_one, Nat.add_zero] at this
    exact this
  obtain ⟨ad, A0, c0, rfl, h0, _⟩ := key 0 hn
  have e0 : ad.add 0 = ad := by unfold Addr.add; split <;> simp_all
  rw [e0] at h0
  have e1 := spotless h0
  refine ⟨ad.block, ad.off, by rw [← e1], fun i hi => ?_⟩
  obtain ⟨ad', Ai, ci, e2, h1, h2, h3⟩ := key i hi
  obtain rfl := Option.some.inj e2
  rw [e1, addr_add] at h1
  exact ⟨Ai, ci, h1, h2, h3⟩
/-- Contract of the document's Cut. -/
theorem cut16 {w : World} (kd nd nc : Int) (A : Option Addr) (m c : Nat) (xs : List Int) (hr : kB.C w A m xs) (hc : m ≤ c) :
    Calls Try.prog 16 #[.agg #[.int .i64 kd, .int .i64 nd, .int .i64 nc, .slice A m c]] w fun e w' => ∃ v, e = .returned (.tuple #[v, .int .i64 (PW16.cutE kd nd nc xs)]) ∧ Sat w w' [rows kF 22 v (PW16.cutL kd nd nc xs)] := by
  obtain rfl : xs.length = m := hr.1
  obtain ⟨k, hk⟩ := (PW16.cut_r kd nd nc xs).rounds
  refine (PW16.majordomoref16_Cut.calls k kd nd nc A c xs _ _ w hr hc hk).mono ?_
  rintro e w' ⟨v, he, hS, hb⟩
  exact ⟨v, he, (Sat.start w).newRows hb hS (Nat.le_refl _)⟩
theorem cutE_zero {kd nd nc : Int} {xs : List Int} (h : PW16.cutE kd nd nc xs = 0) : PW16.okHead kd nd nc = true ∧ xs.length ≤ 4096 ∧ PW16.cutL kd nd nc xs = PW16.cutB kd nd nc xs := by
  have h0 := h
  unfold PW16.cutE at h
  split at h
  · rename_i h1
    split at h
    · rename_i h2
      exact ⟨h1, h2, by unfold PW16.cutL; rw [if_pos h0]⟩
    · cases h
  · cases h
theorem cut16_ok {w : World} (kd nd nc : Int) (A : Option Addr) (m c : Nat) (xs : List Int) (n : Nat) (hz : PW16.cutE kd nd nc xs = 0) (hn : n = PW16.cutN xs.length) (hr : kB.C w A m xs) (hc : m ≤ c) :
    Calls Try.prog 16 #[.agg #[.int .i64 kd, .int .i64 nd, .int .i64 nc, .slice A m c]] w fun e w' => ∃ bf ofs cf, e = .returned (.tuple #[.slice (some ⟨bf, ofs, none⟩) n cf, .int .i64 0]) ∧ Sat w w' [rows kF 22 (.slice (some ⟨bf, ofs, none⟩) n cf) (PW16.cutB kd nd nc xs)] := by
  refine (cut16 kd nd nc A m c xs hr hc).mono ?_
  rintro e w' ⟨v, he, HS⟩
  have hl : (PW16.cutB kd nd nc xs).length = n := by rw [hn]; exact cutB_len _ _ _ _
  rw [(cutE_zero hz).2.2] at HS
  rw [hz] at he
  obtain ⟨Af, cf, rfl⟩ := HS.rowsShape 0 rfl
  rw [hl] at he HS
  have h1 := PW16.cutN_pos xs.length
  obtain ⟨bf, ofs, rfl, _⟩ := rows_row (HS.readsRows 0 rfl).2.2 (by rw [hl]; omega)
  exact ⟨bf, ofs, cf, he, HS⟩
theorem cut16_no {w : World} (kd nd nc : Int) (A : Option Addr) (m c : Nat) (xs : List Int) (ec : Int) (hz : PW16.cutE kd nd nc xs = ec) (hr : kB.C w A m xs) (hc : m ≤ c) :
    Calls Try.prog 16 #[.agg #[.int .i64 kd, .int .i64 nd, .int .i64 nc, .slice A m c]] w fun e w' => ∃ v, e = .returned (.tuple #[v, .int .i64 ec]) ∧ Sat w w' [] := by
  refine (cut16 kd nd nc A m c xs hr hc).mono ?_
  rintro e w' ⟨v, he, HS⟩
  rw [hz] at he
  exact ⟨v, he, HS.tail⟩
/-- Contract of the document's Read at a frame of a message. -/
theorem readFrame {w : World} (kd nd nc : Int) (xs : List Int) (i : Nat) (A : Option Addr) (m c : Nat) (hr : kB.C w A m (PW16.frameOf kd nd nc xs i)) (hc : m ≤ c) (hh : PW16.okHead kd nd nc = true) (hl : xs.length ≤ 4096) (hx : ∀ x ∈ xs, 0 ≤ x ∧ x < 256) (hi : i < PW16.cutN xs.length) :
    Calls Try.prog 18 #[.slice A m c] w fun e w' => ∃ v, e = .returned (.tuple #[.agg #[.int .i64 kd, .int .i64 nd, .int .i64 nc, .int .i64 i, .int .i64 (PW16.cutN xs.length), v], .int .i64 0]) ∧ Sat w w' [row kB 5 v (PW16.piece xs i)] := by
  obtain rfl : (PW16.frameOf kd nd nc xs i).length = m := hr.1
  obtain ⟨h0, h1, h2, h3, h4, h5, h6, h7⟩ := frameOf_reads kd nd nc xs hh hl i hi
  refine (Read16_fits A c _ h7 hr hc (frameOf_in kd nd nc hx i)).mono ?_
  rintro e w' ⟨hyes, _⟩
  obtain ⟨v, he, HS⟩ := hyes h0
  rw [h1, h2, h3, h4, h5] at he
  rw [h6] at HS
  exact ⟨v, he, HS⟩
theorem Opens.agg4 {H : Type} {enc : TypeId × Value → H} {P : Program} {base : Nat} {held : Bool} {W : World} {t : TypeId} {α : Type} {d : Kd α} {B : α → Prop} {cs : Array Value} {x : DataW H} {p : List MemPlace} (ho : Opens enc P base held W t d B) (h : DataW.Trod enc P W base (fun _ => true) held t (.agg cs) x p) (hw : ∀ m ∈ x.weights P t, m ≤ reachBytes) : ∃ a, d.K W a cs.toList ∧ B a := by
  obtain ⟨fuel, hf⟩ := h
  exact ho fuel _ _ hf hw

/-! ### A message's pieces as they come -/
/-- What came: just the pieces whose places are marked, each once. -/
def CameOk (xs : List Int) (n : Nat) (came : List (Int × List Int)) (cs : List Bool) : Prop :=
  (∀ p ∈ came, ∃ k : Nat, p = ((k : Int), PW16.piece xs k) ∧ k < n ∧ cs.getD k false = true) ∧ (∀ k, k < n → cs.getD k false = true → ((k : Int), PW16.piece xs k) ∈ came) ∧ (came.map Prod.fst).Nodup
theorem nodup_full {n : Nat} {l : List Int} (hn : l.Nodup) (h : ∀ x ∈ l, 0 ≤ x ∧ x < n) (hl : l.length = n) (k : Nat) (hk : k < n) : (k : Int) ∈ l := by
  refine Classical.byContradiction fun hc => ?_
  have := nodup_le n ((k : Int) :: l) (List.nodup_cons.2 ⟨hc, hn⟩) (fun x hx => by
    rcases List.mem_cons.1 hx with rfl | hx
    · omega
    · exact h x hx)
  rw [List.length_cons] at this
  omega
theorem CameOk.start (xs : List Int) (n : Nat) : CameOk xs n [] (List.replicate n false) := by
  refine ⟨(fun p hp => absurd hp (List.not_mem_nil)), fun k hk h => ?_, List.nodup_nil⟩
  rw [List.getD_eq_getElem?_getD, List.getElem?_replicate, if_pos hk] at h
  cases h
theorem CameOk.look {xs : List Int} {n : Nat} {came : List (Int × List Int)} {cs : List Bool} (h : CameOk xs n came cs) (k : Nat) (hk : k < n) : (lookP k came).isSome = cs.getD k false := by
  cases hc : lookP (k : Int) came with
  | none =>
    cases hb : cs.getD k false with
    | false => rfl
    | true => exact absurd rfl (lookIn_none hc _ (h.2.1 k hk hb))
  | some q =>
    obtain ⟨h1, h2⟩ := lookIn_at hc
    obtain ⟨k', hp, _, hb⟩ := h.1 q.2 (List.mem_of_getElem? h1)
    rw [hp] at h2
    have : k' = k := by have : (k' : Int) = k := h2; omega
    rw [← this, hb]; rfl
theorem CameOk.add {xs : List Int} {n : Nat} {came : List (Int × List Int)} {cs : List Bool} (h : CameOk xs n came cs) (hl : cs.length = n) (k : Nat) (hk : k < n) (hb : cs.getD k false = false) : CameOk xs n (came ++ [((k : Int), PW16.piece xs k)]) (cs.set k true) := by
  have hset : ∀ j, (cs.set k true).getD j false = if k = j then true else cs.getD j false := by
    intro j
    rw [List.getD_eq_getElem?_getD, List.getD_eq_getElem?_getD, List.getElem?_set]
    by_cases hj : k = j
    · rw [if_pos hj, if_pos hj, if_pos (by omega)]; rfl
    · rw [if_neg hj, if_neg hj]
  refine ⟨fun p hp => ?_, fun j hj h1 => ?_, ?_⟩
  · rcases List.mem_append.1 hp with hp | hp
    · obtain ⟨j, h1, h2, h3⟩ := h.1 p hp
      exact ⟨j, h1, h2, by rw [hset]; split <;> simp_all⟩
    · exact ⟨k, List.mem_singleton.1 hp, hk, by rw [hset, if_pos rfl]⟩
  · rw [hset] at h1
    by_cases hj' : k = j
    · subst hj'; exact List.mem_append_right _ (List.mem_singleton.2 rfl)
    · rw [if_neg hj'] at h1; exact List.mem_append_left _ (h.2.1 j hj h1)
  · rw [List.map_append, List.map_singleton]
    refine List.nodup_append.2 ⟨h.2.2, by simp, fun a ha b hb' => ?_⟩
    obtain ⟨p, hp, rfl⟩ := List.mem_map.1 ha
    obtain ⟨j, h1, h2, h3⟩ := h.1 p hp
    rw [List.mem_singleton.1 hb', h1]
    intro he
    have : j = k := by have : (j : Int) = k := he; omega
    rw [this, hb] at h3; cases h3
theorem CameOk.le {xs : List Int} {n : Nat} {came : List (Int × List Int)} {cs : List Bool} (h : CameOk xs n came cs) : came.length ≤ n := by
  have := nodup_le n (came.map Prod.fst) h.2.2 (fun x hx => by
    obtain ⟨p, hp, rfl⟩ := List.mem_map.1 hx
    obtain ⟨k, h1, h2, _⟩ := h.1 p hp
    rw [h1]; exact ⟨Int.natCast_nonneg _, by show (k : Int) < n; omega⟩)
  rwa [List.length_map] at this
theorem CameOk.whole {xs : List Int} {n : Nat} {came : List (Int × List Int)} {cs : List Bool} (h : CameOk xs n came cs) (hn : came.length = n) (hc : n = PW16.cutN xs.length) : catE n came = xs := by
  have h1 : ∀ k, k < n → bytesE (k : Int) came = PW16.piece xs k := by
    intro k hk
    have hm := nodup_full (n := n) h.2.2 (fun x hx => by
      obtain ⟨p, hp, rfl⟩ := List.mem_map.1 hx
      obtain ⟨k, h1, h2, _⟩ := h.1 p hp
      rw [h1]; exact ⟨Int.natCast_nonneg _, by show (k : Int) < n; omega⟩) (by rw [List.length_map]; exact hn) k hk
    obtain ⟨p, hp, hpk⟩ := List.mem_map.1 hm
    unfold bytesE
    cases hl : lookP (k : Int) came with
    | none => exact absurd hpk (lookIn_none hl p hp)
    | some q =>
      obtain ⟨h2, h3⟩ := lookIn_at hl
      obtain ⟨k', h4, _, _⟩ := h.1 q.2 (List.mem_of_getElem? h2)
      rw [h4] at h3
      have : k' = k := by have : (k' : Int) = k := h3; omega
      show q.2.2 = _
      rw [h4, this]
  unfold catE
  rw [show (List.range n).flatMap (fun (i : Nat) => bytesE i came) = (List.range n).flatMap (PW16.piece xs) from ?_, hc, piece_whole]
  simp only [List.flatMap]
  congr 1
  exact List.map_congr_left (fun k hk => h1 k (List.mem_range.1 hk))
/-- The slot of a kind and a node at which pieces of one message came. -/
def SlotIs (nc : Int) (n : Nat) (came : List (Int × List Int)) (o : Option KS) : Prop := (o = none ∧ came = []) ∨ o = some (nc, (n : Int), came)
theorem SlotIs.step {nc : Int} {n : Nat} {came : List (Int × List Int)} {o : Option KS} (h : SlotIs nc n came o) : stepK o nc n = (nc, (n : Int), came) := by
  rcases h with ⟨rfl, rfl⟩ | rfl
  · rfl
  · show (if nc < nc then _ else _) = _
    rw [if_neg (by omega)]
theorem okArg_nat {k n : Nat} (hk : k < n) (hn : n ≤ 86) : okArg (k : Int) (n : Int) = true := by
  unfold okArg
  simp only [Bool.and_eq_true, decide_eq_true_eq]
  omega
/-- A PW16.piece that had not come. -/
theorem add_fresh {xs : List Int} {nc : Int} {n k : Nat} {came : List (Int × List Int)} {cs : List Bool} {o : Option KS} (h : SlotIs nc n came o) (hc : CameOk xs n came cs) (hk : k < n) (hn : n ≤ 86) (hb : cs.getD k false = false) :
    addK o nc k n (PW16.piece xs k) = (some (nc, (n : Int), came ++ [((k : Int), PW16.piece xs k)]), if came.length + 1 < n then none else some (catE n (came ++ [((k : Int), PW16.piece xs k)]))) := by
  unfold addK
  have hr : refK (nc, (n : Int), came) nc k n = false := by
    unfold refK
    show (decide (nc < nc) || decide ((n : Int) ≠ n) || (lookP k came).isSome) = false
    rw [hc.look k hk, hb]; simp
  rw [if_pos (okArg_nat hk hn), h.step, if_neg (by rw [hr]; exact Bool.false_ne_true)]
  show (_, if ((came.length + 1 : Nat) : Int) < (n : Int) then none else some (catE (n : Int).toNat _)) = _
  rw [Int.toNat_natCast]
  by_cases h1 : came.length + 1 < n
  · rw [if_pos h1, if_pos (by omega)]
  · rw [if_neg h1, if_neg (by omega)]
/-- A PW16.piece that had come. -/
theorem add_twice {xs : List Int} {nc : Int} {n k : Nat} {came : List (Int × List Int)} {cs : List Bool} {o : Option KS} (h : SlotIs nc n came o) (hc : CameOk xs n came cs) (hk : k < n) (hn : n ≤ 86) (hb : cs.getD k false = true) (bs : List Int) :
    addK o nc k n bs = (o, none) ∧ refK (stepK o nc n) nc k n = true := by
  have hr : refK (nc, (n : Int), came) nc k n = true := by
    unfold refK
    show (decide (nc < nc) || decide ((n : Int) ≠ n) || (lookP k came).isSome) = true
    rw [hc.look k hk, hb]; simp
  refine ⟨?_, by rw [h.step]; exact hr⟩
  unfold addK
  rw [if_pos (okArg_nat hk hn), h.step, if_pos hr]
  rcases h with ⟨_, rfl⟩ | rfl
  · exact absurd (hc.2.1 k hk hb) (List.not_mem_nil)
  · rfl
/-- A frame of a lower nonce. -/
theorem add_lower {nc lo ix ct : Int} {s : KS} (hs : s.1 = nc) (hlo : lo < nc) (bs : List Int) : addK (some s) lo ix ct bs = (some s, none) ∧ (okArg ix ct && !refK (stepK (some s) lo ct) lo ix ct) = false := by
  have hst : stepK (some s) lo ct = s := by
    show (if s.1 < lo then _ else _) = _
    rw [if_neg (by omega)]
  have hr : refK s lo ix ct = true := by
    unfold refK
    rw [decide_eq_true (show lo < s.1 by omega)]; rfl
  unfold addK
  rw [hst, hr]
  refine ⟨?_, by simp⟩
  split <;> rfl
def bools (cs : List Bool) : Array Value := (cs.map Value.bool).toArray
theorem bools_at (cs : List Bool) (k : Nat) (hk : k < cs.length) : (bools cs)[k]? = some (.bool (cs.getD k false)) := by
  unfold bools
  rw [List.getElem?_toArray, List.getElem?_map, List.getD_eq_getElem?_getD, List.getElem?_eq_getElem hk]; rfl
theorem bools_set (cs : List Bool) (k : Nat) (b : Bool) : (bools cs).setIfInBounds k (.bool b) = bools (cs.set k b) := by
  unfold bools
  rw [List.setIfInBounds_toArray, List.map_set]
theorem bools_made (n : Nat) : madeCells #[.bool false] n = bools (List.replicate n false) := by
  unfold bools madeCells
  apply Array.ext
  · simp
  · intro i h1 h2
    simp [Nat.mod_one]

end Go.Proofs.Ytaojnbhnogndnaa.SL
