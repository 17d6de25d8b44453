/- Turned bits of a frame: the plain law of WireTurned. -/
import Derived.Test.YtaojnbhnogndnaaY3
namespace Go.Proofs.Ytaojnbhnogndnaa.SL
open Go.RowKit
set_option linter.unusedVariables false
set_option linter.unusedSimpArgs false
/-- b with just those bits turned that S chooses among the first i from f on. -/
def TurnedTo (b ys : List Int) (f i : Nat) (S : Nat → Bool) : Prop :=
  ys.length = b.length ∧ (∀ c ∈ ys, 0 ≤ c ∧ c < 256) ∧ ∀ p j, p < b.length → j < 8 → Crc.bt (ys.getD p 0) j = (Crc.bt (b.getD p 0) j ^^ (decide (f ≤ 8 * p + j ∧ 8 * p + j < f + i) && S (8 * p + j - f)))
theorem TurnedTo.start {b : List Int} (hb : ∀ c ∈ b, 0 ≤ c ∧ c < 256) (f : Nat) (S : Nat → Bool) : TurnedTo b b f 0 S := by
  refine ⟨rfl, hb, fun p j _ _ => ?_⟩
  rw [decide_eq_false (by omega)]
  simp
theorem TurnedTo.skip {b ys : List Int} {f i : Nat} {S : Nat → Bool} (h : TurnedTo b ys f i S) (hs : S i = false) : TurnedTo b ys f (i + 1) S := by
  refine ⟨h.1, h.2.1, fun p j hp hj => ?_⟩
  rw [h.2.2 p j hp hj]
  congr 1
  by_cases hq : 8 * p + j = f + i
  · rw [show 8 * p + j - f = i from by omega, hs]; simp
  · have : (f ≤ 8 * p + j ∧ 8 * p + j < f + i) ↔ (f ≤ 8 * p + j ∧ 8 * p + j < f + (i + 1)) := by omega
    rw [decide_eq_decide.2 this]
theorem bt_nat (n j : Nat) (hj : j < 32) : Crc.bt (n : Int) j = n.testBit j := by
  unfold Crc.bt
  rw [Crc.reg_nat, BitVec.getLsbD_ofNat, decide_eq_true hj]; rfl
theorem reg_xor {a c : Int} (ha : 0 ≤ a ∧ a < 256) (hc : 0 ≤ c ∧ c < 256) : (0 ≤ Go.bits .xor .u8 a c ∧ Go.bits .xor .u8 a c < 256) ∧ ∀ j, j < 8 → Crc.bt (Go.bits .xor .u8 a c) j = (Crc.bt a j ^^ Crc.bt c j) := by
  obtain ⟨a, rfl⟩ := Int.eq_ofNat_of_zero_le ha.1
  obtain ⟨c, rfl⟩ := Int.eq_ofNat_of_zero_le hc.1
  have key : Go.bits .xor .u8 (a : Int) (c : Int) = ((BitVec.ofNat 8 a ^^^ BitVec.ofNat 8 c).toNat : Int) := by
    unfold Go.bits
    show IntKind.u8.wrap _ = _
    rw [IntKind.wrap_u8]
    show ((BitVec.ofInt 8 (a : Int) ^^^ BitVec.ofInt 8 (c : Int)).toNat : Int) % 256 = _
    rw [BitVec.ofInt_natCast, BitVec.ofInt_natCast]
    have := (BitVec.ofNat 8 a ^^^ BitVec.ofNat 8 c).isLt
    omega
  rw [key]
  have := (BitVec.ofNat 8 a ^^^ BitVec.ofNat 8 c).isLt
  refine ⟨by omega, fun j hj => ?_⟩
  rw [bt_nat _ _ (by omega), bt_nat _ _ (by omega), bt_nat _ _ (by omega), BitVec.testBit_toNat, BitVec.getLsbD_xor, BitVec.getLsbD_ofNat, BitVec.getLsbD_ofNat, decide_eq_true hj]
  simp
theorem bt_one (k j : Nat) (hj : j < 32) : Crc.bt ((2 ^ k : Nat) : Int) j = decide (j = k) := by
  rw [bt_nat _ _ hj, Nat.testBit_two_pow]
  exact decide_eq_decide.2 eq_comm
theorem TurnedTo.turn {b ys : List Int} {f i : Nat} {S : Nat → Bool} (h : TurnedTo b ys f i S) (hs : S i = true) (x : Int) (hlt : f + i < 8 * b.length) (hx0 : 0 ≤ x ∧ x < 256) (hx : ∀ j, j < 8 → Crc.bt x j = (Crc.bt (ys.getD ((f + i) / 8) 0) j ^^ decide (j = (f + i) % 8))) : TurnedTo b (ys.set ((f + i) / 8) x) f (i + 1) S := by
  refine ⟨by rw [List.length_set]; exact h.1, fun c hc => ?_, fun p j hp hj => ?_⟩
  · rcases List.mem_or_eq_of_mem_set hc with hc | rfl
    · exact h.2.1 c hc
    · exact hx0
  · have hl := h.1
    have hget : (ys.set ((f + i) / 8) x).getD p 0 = if p = (f + i) / 8 then x else ys.getD p 0 := by
      rw [List.getD_eq_getElem?_getD, List.getD_eq_getElem?_getD, List.getElem?_set]
      by_cases hpe : (f + i) / 8 = p
      · rw [if_pos hpe, if_pos (by omega), if_pos hpe.symm]; rfl
      · rw [if_neg hpe, if_neg (fun e => hpe e.symm)]
    rw [hget]
    by_cases hpe : p = (f + i) / 8
    · rw [if_pos hpe, hx j hj, ← hpe, h.2.2 p j hp hj, Bool.xor_assoc]
      congr 1
      by_cases hje : j = (f + i) % 8
      · rw [decide_eq_true hje, decide_eq_false (by omega), decide_eq_true (by omega), show 8 * p + j - f = i from by omega, hs]; rfl
      · rw [decide_eq_false hje, Bool.xor_false]
        have : (f ≤ 8 * p + j ∧ 8 * p + j < f + i) ↔ (f ≤ 8 * p + j ∧ 8 * p + j < f + (i + 1)) := by omega
        rw [decide_eq_decide.2 this]
    · rw [if_neg hpe, h.2.2 p j hp hj]
      congr 1
      have : (f ≤ 8 * p + j ∧ 8 * p + j < f + i) ↔ (f ≤ 8 * p + j ∧ 8 * p + j < f + (i + 1)) := by omega
      rw [decide_eq_decide.2 this]
theorem readOk_residue {xs : List Int} (h : ReadOk xs) : Crc.bytes xs (BitVec.allOnes 32) = Crc.Tn 32 (BitVec.allOnes 32) := by
  have h1 := h.2.2.2.2.2.2
  rw [← h1]
  unfold PW16.frameB
  exact Crc.residue _
/-- A frame with a bit turned is none. -/
theorem TurnedTo.bad {b ys : List Int} {f : Nat} {S : Nat → Bool} (h : TurnedTo b ys f 32 S) (hb : ∀ c ∈ b, 0 ≤ c ∧ c < 256) (hok : ReadOk b) (hf : f + 32 ≤ 8 * b.length) (j : Nat) (hj : j < 32) (hs : S j = true) : ¬ ReadOk ys := by
  intro hy
  have ht := Crc.turned b ys h.1.symm hb h.2.1 (readOk_residue hok) (readOk_residue hy) f hf (fun p k hp hk hn => by
    rw [h.2.2 p k hp hk, decide_eq_false hn]; simp) ((f + j) / 8) ((f + j) % 8) (by omega) (by omega)
  rw [h.2.2 _ _ (by omega) (by omega), show 8 * ((f + j) / 8) + (f + j) % 8 - f = j from by omega, decide_eq_true (by omega), hs] at ht
  revert ht
  cases Crc.bt (b.getD ((f + j) / 8) 0) ((f + j) % 8) <;> simp
theorem TurnedTo.same {b ys : List Int} {f : Nat} {S : Nat → Bool} (h : TurnedTo b ys f 32 S) (hb : ∀ c ∈ b, 0 ≤ c ∧ c < 256) (hs : ∀ j, j < 32 → S j = false) : ys = b := by
  refine List.ext_getElem h.1 fun p h1 h2 => ?_
  have e1 : ys[p] = ys.getD p 0 := by rw [List.getD_eq_getElem?_getD, List.getElem?_eq_getElem h1]; rfl
  have e2 : b[p] = b.getD p 0 := by rw [List.getD_eq_getElem?_getD, List.getElem?_eq_getElem h2]; rfl
  have m1 := h.2.1 _ (List.getElem_mem h1)
  have m2 := hb _ (List.getElem_mem h2)
  refine Crc.bt_ext m1 m2 fun j hj => ?_
  rw [e1, e2, h.2.2 p j h2 hj]
  by_cases hq : f ≤ 8 * p + j ∧ 8 * p + j < f + 32
  · rw [hs _ (by omega)]; simp
  · rw [decide_eq_false hq]; simp
end Go.Proofs.Ytaojnbhnogndnaa.SL
