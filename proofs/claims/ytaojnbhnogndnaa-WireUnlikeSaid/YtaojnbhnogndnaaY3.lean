/- A message's frames as they are read: the words that the laws of the wire need (as in Y12, Y14). -/
import Derived.Test.YtaojnbhnogndnaaY4
import Derived.Test.YtaojnbhnogndnaaXO
namespace Go.Proofs.Ytaojnbhnogndnaa.SL
open Go.RowKit Go.Proofs.YtaojnbhnogndnaaW.PrintWords Go.Proofs.YtaojnbhnogndnaaW.PrintLast Go.Proofs.YtaojnbhnogndnaaW.PrintMore
attribute [local go_sem] max2_int min2_int max_two min_two
attribute [local go_sem high] Small.cell_set_same
set_option linter.unusedVariables false
set_option linter.unusedSimpArgs false

abbrev kF : Kd (List Int) := Kd.slice 5 kB
theorem kF_raise : Raise kF := Raise.slice (Raise.int _) _
/-- A row of rows of bytes that is read: its cells, the address in parts. -/
theorem rows_row {w : World} {A : Option Addr} {n : Nat} {xs : List (List Int)} (hr : kF.C w A n xs) (hn : 0 < n) : ∃ b o, A = some ⟨b, o, none⟩ ∧ ∀ i, i < n → ∃ Ai ci, w.cell? ⟨b, o + i, none⟩ = some (.slice Ai (xs.getD i []).length ci) ∧ (xs.getD i []).length ≤ ci ∧ kB.C w Ai (xs.getD i []).length (xs.getD i []) := by
  have key : ∀ i, i < n → ∃ ad Ai ci, A = some ad ∧ w.cell? (ad.add i) = some (.slice Ai (xs.getD i []).length ci) ∧ (xs.getD i []).length ≤ ci ∧ kB.C w Ai (xs.getD i []).length (xs.getD i []) := by
    intro i hi
    obtain ⟨ad, c, e, _, hK, hc⟩ := Kd.C_get hr [] (i : Int) (by omega) (by omega)
    simp only [Int.toNat_natCast] at hK hc
    obtain ⟨Ai, ci, rfl, h1, h2⟩ := hK
    refine ⟨ad, Ai, ci, e, ?_, h1, h2⟩
    have := hc 0 _ rfl
    have h3 : kF.sz = 1 := rfl
    rw [h3, Nat.mul_one, Nat.add_zero] at this
    exact this
  obtain ⟨ad, A0, c0, rfl, h0, _⟩ := key 0 hn
  have e0 : ad.add 0 = ad := by unfold Addr.add; split <;> simp_all
  rw [e0] at h0
  have e1 := spotless h0
  refine ⟨ad.block, ad.off, by rw [← e1], fun i hi => ?_⟩
  obtain ⟨ad', Ai, ci, e2, h1, h2, h3⟩ := key i hi
  obtain rfl := Option.some.inj e2
  rw [e1, addr_add] at h1
  exact ⟨Ai, ci, h1, h2, h3⟩
theorem cutE_zero {kd nd nc : Int} {xs : List Int} (h : PW16.cutE kd nd nc xs = 0) : PW16.okHead kd nd nc = true ∧ xs.length ≤ 4096 ∧ PW16.cutL kd nd nc xs = PW16.cutB kd nd nc xs := by
  have h0 := h
  unfold PW16.cutE at h
  split at h
  · rename_i h1
    split at h
    · rename_i h2
      exact ⟨h1, h2, by unfold PW16.cutL; rw [if_pos h0]⟩
    · cases h
  · cases h
/-! ### A frame of a message, read -/
theorem getD_cons0 (x : Int) (l : List Int) (d : Int) : (x :: l).getD 0 d = x := rfl
theorem frame_fields (kd nd nc ix ct : Int) (p : List Int) (hh : PW16.okHead kd nd nc = true) (hi0 : 0 ≤ ix) (hi1 : ix < 256) (hc0 : 0 ≤ ct) (hc1 : ct < 256) (hp : p.length < 256) :
    fKd (PW16.frameB kd nd nc ix ct p) = kd ∧ fNd (PW16.frameB kd nd nc ix ct p) = nd ∧ fNc (PW16.frameB kd nd nc ix ct p) = nc ∧ fIx (PW16.frameB kd nd nc ix ct p) = ix ∧ fCt (PW16.frameB kd nd nc ix ct p) = ct ∧ fBy (PW16.frameB kd nd nc ix ct p) = p ∧ Fits (PW16.frameB kd nd nc ix ct p) := by
  obtain ⟨k1, k2, n1, n2, c1, c2⟩ := PW16.okHead_iff.1 hh
  have hl := PW16.frameB_len kd nd nc ix ct p
  refine ⟨?_, ?_, ?_, ?_, ?_, ?_, ?_, ?_⟩
  · show kd % 256 = kd; omega
  · show nd % 256 = nd; omega
  · show nc / 16777216 % 256 * 16777216 + nc / 65536 % 256 * 65536 + nc / 256 % 256 * 256 + nc % 256 = nc; omega
  · show ix % 256 = ix; omega
  · show ct % 256 = ct; omega
  · unfold fBy
    rw [hl]
    unfold PW16.frameB PW16.bodyB
    rw [List.take_append_of_le_length (by rw [List.length_append]; unfold PW16.headB; simp; omega), List.take_of_length_le (by rw [List.length_append]; unfold PW16.headB; simp; omega)]
    rw [List.drop_append_of_le_length (by unfold PW16.headB; simp)]
    rw [show (PW16.headB kd nd nc ix ct p.length).drop 10 = [] from rfl, List.nil_append]
  · rw [hl]; omega
  · rw [hl]
    show ((p.length + 14 : Nat) : Int) = 14 + ((p.length : Int) % 256)
    omega
theorem piece_all (xs : List Int) : ∀ n, (List.range n).flatMap (PW16.piece xs) = xs.take (n * 48)
  | 0 => by simp
  | n + 1 => by
    rw [List.range_succ, List.flatMap_append, piece_all xs n]
    simp only [List.flatMap_cons, List.flatMap_nil, List.append_nil]
    unfold PW16.piece
    rw [Nat.succ_mul, List.take_add]
theorem piece_whole (xs : List Int) : (List.range (PW16.cutN xs.length)).flatMap (PW16.piece xs) = xs := by
  rw [piece_all, List.take_of_length_le (by unfold PW16.cutN; omega)]
theorem piece_in {xs : List Int} (h : ∀ x ∈ xs, 0 ≤ x ∧ x < 256) (i : Nat) : ∀ x ∈ PW16.piece xs i, 0 ≤ x ∧ x < 256 := fun x hx => h x (List.mem_of_mem_drop (List.mem_of_mem_take hx))
/-- The i-th frame of a message is read as what it is. -/
theorem frameOf_reads (kd nd nc : Int) (xs : List Int) (hh : PW16.okHead kd nd nc = true) (hl : xs.length ≤ 4096) (i : Nat) (hi : i < PW16.cutN xs.length) :
    ReadOk (PW16.frameOf kd nd nc xs i) ∧ fKd (PW16.frameOf kd nd nc xs i) = kd ∧ fNd (PW16.frameOf kd nd nc xs i) = nd ∧ fNc (PW16.frameOf kd nd nc xs i) = nc ∧ fIx (PW16.frameOf kd nd nc xs i) = i ∧ fCt (PW16.frameOf kd nd nc xs i) = PW16.cutN xs.length ∧ fBy (PW16.frameOf kd nd nc xs i) = PW16.piece xs i ∧ Fits (PW16.frameOf kd nd nc xs i) := by
  have hn := PW16.cutN_le hl
  have hp := PW16.piece_len xs i
  obtain ⟨h1, h2, h3, h4, h5, h6, h7⟩ := frame_fields kd nd nc i (PW16.cutN xs.length) (PW16.piece xs i) hh (by omega) (by omega) (by omega) (by omega) (by rw [hp]; omega)
  refine ⟨⟨h7, ?_, ?_, ?_, ?_, ?_, ?_⟩, h1, h2, h3, h4, h5, h6, h7⟩
  · unfold PW16.frameOf; rw [h1, h2, h3]; exact hh
  · unfold PW16.frameOf; rw [h5]; omega
  · unfold PW16.frameOf; rw [h5]; omega
  · unfold PW16.frameOf; rw [h4, h5]; omega
  · unfold PW16.frameOf; rw [h4, h5, h6, hp]
    unfold PW16.cutN at hi ⊢
    refine ⟨?_, fun h => ?_⟩ <;> omega
  · unfold PW16.frameOf; rw [h1, h2, h3, h4, h5, h6]
theorem frameOf_in (kd nd nc : Int) {xs : List Int} (hx : ∀ x ∈ xs, 0 ≤ x ∧ x < 256) (i : Nat) : ∀ x ∈ PW16.frameOf kd nd nc xs i, 0 ≤ x ∧ x < 256 := PW16.frameB_in kd nd nc i (PW16.cutN xs.length) (piece_in hx i)
theorem cutB_len (kd nd nc : Int) (xs : List Int) : (PW16.cutB kd nd nc xs).length = PW16.cutN xs.length := by unfold PW16.cutB; simp
theorem cutB_at (kd nd nc : Int) (xs : List Int) (i : Nat) (hi : i < PW16.cutN xs.length) (z : List Int) : (PW16.cutB kd nd nc xs).getD i z = PW16.frameOf kd nd nc xs i := by
  unfold PW16.cutB
  rw [List.getD_eq_getElem?_getD, List.getElem?_map, List.getElem?_range hi]; rfl

end Go.Proofs.Ytaojnbhnogndnaa.SL
