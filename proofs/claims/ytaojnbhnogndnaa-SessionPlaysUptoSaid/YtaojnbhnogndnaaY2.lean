/- What the printed functions of the wire come to: the sum as a register of bits, a frame's bytes, a message cut. -/
import Derived.Test.YtaojnbhnogndnaaY1
import Derived.Test.YtaojnbhnogndnaaPW16x1
import Derived.Test.YtaojnbhnogndnaaPW16x2
import Derived.Test.YtaojnbhnogndnaaPW16x3
import Derived.Test.YtaojnbhnogndnaaPW16x4
import Derived.Test.YtaojnbhnogndnaaPW16x5
import Derived.Test.YtaojnbhnogndnaaPW16x6
import Derived.Test.YtaojnbhnogndnaaPW16x7
namespace Go.Proofs.Ytaojnbhnogndnaa.PW16
open Go.RowKit Go.Proofs.YtaojnbhnogndnaaW.PrintWords Go.Proofs.YtaojnbhnogndnaaW.PrintLast Go.Proofs.YtaojnbhnogndnaaW.PrintMore Crc
set_option linter.unusedVariables false

/-! ### The sum -/
def u (s : Reg) : Int := (s.toNat : Int)
theorem u_lo (s : Reg) : 0 ≤ u s := Int.natCast_nonneg _
theorem u_hi (s : Reg) : u s < 4294967296 := by have := s.isLt; unfold u; omega
theorem reg_u (s : Reg) : reg (u s) = s := by unfold u; rw [reg_nat, BitVec.ofNat_toNat, BitVec.setWidth_eq]
theorem xor_u (a b : Int) : Go.bits .xor .u32 a b = u (reg a ^^^ reg b) := by
  unfold Go.bits
  show IntKind.u32.wrap _ = _
  rw [IntKind.wrap_u32]
  show ((reg a ^^^ reg b).toNat : Int) % 4294967296 = _
  have := (reg a ^^^ reg b).isLt
  unfold u; omega
theorem and_u (a b : Int) : Go.bits .and .u32 a b = u (reg a &&& reg b) := by
  unfold Go.bits
  show IntKind.u32.wrap _ = _
  rw [IntKind.wrap_u32]
  show ((reg a &&& reg b).toNat : Int) % 4294967296 = _
  have := (reg a &&& reg b).isLt
  unfold u; omega
theorem reg_mod (a : Int) : reg (a % 4294967296) = reg a := by
  apply BitVec.eq_of_toInt_eq
  unfold reg
  rw [BitVec.toInt_ofInt, BitVec.toInt_ofInt]
  show (a % ((2 ^ 32 : Nat) : Int)).bmod (2 ^ 32) = _
  rw [Int.emod_bmod]
theorem u_half (s : Reg) : reg (u s / 2) = s >>> 1 := by
  have : u s / 2 = ((s.toNat / 2 : Nat) : Int) := by unfold u; omega
  rw [this, reg_nat]
  apply BitVec.eq_of_toNat_eq
  rw [BitVec.toNat_ofNat, BitVec.toNat_ushiftRight, Nat.shiftRight_eq_div_pow]
  have := s.isLt
  omega
theorem low_u (s : Reg) : s &&& 1#32 = if s.getLsbD 0 then 1#32 else 0#32 := by
  apply BitVec.eq_of_getLsbD_eq
  intro i hi
  rw [BitVec.getLsbD_and]
  by_cases h : i = 0
  · subst h
    cases s.getLsbD 0 <;> rfl
  · have h1 : (1#32).getLsbD i = false := by
      rw [BitVec.getLsbD_ofNat]
      have : Nat.testBit 1 i = false := by
        cases i with
        | zero => exact absurd rfl h
        | succ i => rw [Nat.testBit_succ]; exact Nat.zero_testBit i
      rw [this, Bool.and_false]
    rw [h1, Bool.and_false]
    cases s.getLsbD 0
    · simp
    · exact h1.symm
theorem reg_poly : reg 3988292384 = poly := by decide
theorem step_w (s : Reg) : Go.bits .xor .u32 (u s / 2) (((Go.bits .and .u32 (u s) 1) * 3988292384) % 4294967296) = u (T s) := by
  rw [xor_u, and_u, u_half, reg_mod, reg_u]
  unfold T
  have h1 : reg 1 = 1#32 := by decide
  rw [h1, low_u]
  cases s.getLsbD 0
  · congr 1
  · have : reg (u (1#32) * 3988292384) = poly := by decide
    rw [if_pos rfl, if_pos rfl, this]
theorem odd_u (s : Reg) : (Int.tmod (u s) 2 = 1) ↔ s.getLsbD 0 = true := by
  have h1 : Int.tmod (u s) 2 = u s % 2 := Int.tmod_eq_emod_of_nonneg (u_lo s)
  rw [h1]
  have h2 : s.getLsbD 0 = s.toNat.testBit 0 := rfl
  rw [h2, Nat.testBit_zero]
  unfold u
  simp only [decide_eq_true_eq]
  omega
theorem half_u (s : Reg) : (Int.tdiv (u s) 2) % (4294967296 : Int) = u (s >>> 1) := by
  have h1 : Int.tdiv (u s) 2 = u s / 2 := Int.tdiv_eq_ediv_of_nonneg (u_lo s)
  have h2 : u (s >>> 1) = u s / 2 := by
    unfold u
    rw [BitVec.toNat_ushiftRight, Nat.shiftRight_eq_div_pow]
    omega
  have h3 := u_lo s
  have h4 := u_hi s
  rw [h1, h2]; omega
theorem not_u (s : Reg) : Go.bits .xor .u32 4294967295 (u s) = u (~~~ s) := by
  rw [xor_u, reg_u]
  congr 1
theorem w64 {x : Int} (h0 : -9223372036854775808 ≤ x) (h1 : x ≤ 9223372036854775807) : wrap64 x = x := by unfold wrap64; omega
theorem in_w (l : List Int) (N : Int) (i : Int) : ∀ (m k : Nat) (s : Reg), m ≤ 8 → wire_Sum.l1 (k + m + 1) (u s) l N i (8 - m) = wire_Sum.l0 k (u (Tn m s)) l N (wrap64 (i + 1))
  | 0, k, s, _ => by
    rw [wire_Sum.l1]
    rw [if_neg (by omega)]; rfl
  | m + 1, k, s, h => by
    rw [wire_Sum.l1]
    rw [if_pos (by omega), step_w, w64 (by omega) (by omega)]
    have := in_w l N i m k (T s) (by omega)
    rw [show k + (m + 1) = k + m + 1 from by omega, show (8 - ((m + 1 : Nat) : Int) + 1) = 8 - (m : Int) from by omega, this]
    rfl
theorem in_r (l : List Int) (i : Int) : ∀ (m k : Nat) (s : Reg), m ≤ 8 → majordomoref16_Sum.l1 (k + m + 1) l (u s) i (8 - m) = majordomoref16_Sum.l0 k l (u (Tn m s)) (wrap64 (i + 1))
  | 0, k, s, _ => by
    rw [majordomoref16_Sum.l1]
    rw [if_neg (by omega)]; rfl
  | m + 1, k, s, h => by
    rw [majordomoref16_Sum.l1]
    rw [if_pos (by omega), w64 (by omega) (by omega)]
    have h1 := in_r l i m k (T s) (by omega)
    rw [show k + (m + 1) = k + m + 1 from by omega, show (8 - ((m + 1 : Nat) : Int) + 1) = 8 - (m : Int) from by omega]
    have h2 : (if Int.tmod (u s) 2 = 1 then majordomoref16_Sum.l1 (k + m + 1) l (Go.bits .xor .u32 ((Int.tdiv (u s) 2) % 4294967296) 3988292384) i (8 - (m : Int)) else majordomoref16_Sum.l1 (k + m + 1) l ((Int.tdiv (u s) 2) % 4294967296) i (8 - (m : Int))) = majordomoref16_Sum.l1 (k + m + 1) l (u (T s)) i (8 - (m : Int)) := by
      rw [half_u]
      by_cases ho : s.getLsbD 0 = true
      · rw [if_pos ((odd_u s).2 ho), xor_u, reg_u, reg_poly]
        unfold T
        rw [if_pos ho]
      · rw [if_neg (fun h => ho ((odd_u s).1 h))]
        unfold T
        rw [if_neg ho, BitVec.xor_zero]
    rw [h2, h1]
    rfl
theorem drop_rd {l : List Int} {i : Nat} (h : i < l.length) : l.drop i = rd l i :: l.drop (i + 1) := by
  rw [List.drop_eq_getElem_cons h]
  unfold rd
  rw [Int.toNat_natCast, List.getD_eq_getElem?_getD, List.getElem?_eq_getElem h]; rfl
theorem out_w (l : List Int) (hl : l.length ≤ 140737488355328) : ∀ (m i k : Nat) (s : Reg), i + m = l.length → wire_Sum.l0 (k + 10 * m + 1) (u s) l (l.length : Int) i = some (u (~~~ Crc.bytes (l.drop i) s))
  | 0, i, k, s, h => by
    rw [wire_Sum.l0]
    rw [if_neg (by omega), not_u, List.drop_eq_nil_of_le (by omega)]; rfl
  | m + 1, i, k, s, h => by
    rw [wire_Sum.l0]
    rw [if_pos (by omega), if_pos (by omega), if_pos (by omega), xor_u, reg_u, reg_mod]
    have h1 := in_w l (l.length : Int) i 8 (k + 10 * m + 1) (s ^^^ reg (rd l i)) (by omega)
    rw [show k + 10 * (m + 1) = k + 10 * m + 1 + 8 + 1 from by omega]
    have h0 : (8 : Int) - ((8 : Nat) : Int) = 0 := by omega
    rw [h0] at h1
    rw [h1, w64 (by omega) (by omega), drop_rd (by omega)]
    exact out_w l hl m (i + 1) k _ (by omega)
theorem out_r (l : List Int) (hl : l.length ≤ 140737488355328) : ∀ (m i k : Nat) (s : Reg), i + m = l.length → majordomoref16_Sum.l0 (k + 10 * m + 1) l (u s) i = some (u (~~~ Crc.bytes (l.drop i) s))
  | 0, i, k, s, h => by
    rw [majordomoref16_Sum.l0]
    rw [if_neg (by omega), not_u, List.drop_eq_nil_of_le (by omega)]; rfl
  | m + 1, i, k, s, h => by
    rw [majordomoref16_Sum.l0]
    rw [if_pos (by omega), if_pos (by omega), xor_u, reg_u, reg_mod]
    have h1 := in_r l i 8 (k + 10 * m + 1) (s ^^^ reg (rd l i)) (by omega)
    rw [show k + 10 * (m + 1) = k + 10 * m + 1 + 8 + 1 from by omega]
    have h0 : (8 : Int) - ((8 : Nat) : Int) = 0 := by omega
    rw [h0] at h1
    rw [h1, w64 (by omega) (by omega), drop_rd (by omega)]
    exact out_r l hl m (i + 1) k _ (by omega)
theorem ones : (4294967295 : Int) = u (BitVec.allOnes 32) := by decide
theorem sum_w (l : List Int) (hl : l.length ≤ 140737488355328) : Ev (fun k => wire_Sum.f k l) (sum l) := by
  refine Ev.of (fun k => wire_Sum.mono l k) (k := 0 + 10 * l.length + 1) ?_
  unfold wire_Sum.f
  rw [ones]
  have := out_w l hl l.length 0 0 (BitVec.allOnes 32) (by omega)
  rw [Int.natCast_zero] at this
  rw [this]; rfl
theorem sum_r (l : List Int) (hl : l.length ≤ 140737488355328) : Ev (fun k => majordomoref16_Sum.f k l) (sum l) := by
  refine Ev.of (fun k => majordomoref16_Sum.mono l k) (k := 0 + 10 * l.length + 1) ?_
  unfold majordomoref16_Sum.f
  rw [ones]
  have := out_r l hl l.length 0 0 (BitVec.allOnes 32) (by omega)
  rw [Int.natCast_zero] at this
  rw [this]; rfl

/-! ### A frame -/
def headB (kd nd nc ix ct : Int) (n : Nat) : List Int := [77, kd % 256, nd % 256, nc / 16777216 % 256, nc / 65536 % 256, nc / 256 % 256, nc % 256, ix % 256, ct % 256, (n : Int) % 256]
def bodyB (kd nd nc ix ct : Int) (p : List Int) : List Int := headB kd nd nc ix ct p.length ++ p
def frameB (kd nd nc ix ct : Int) (p : List Int) : List Int := bodyB kd nd nc ix ct p ++ four (sum (bodyB kd nd nc ix ct p))
theorem bodyB_len (kd nd nc ix ct : Int) (p : List Int) : (bodyB kd nd nc ix ct p).length = p.length + 10 := by unfold bodyB headB; simp
theorem frameB_len (kd nd nc ix ct : Int) (p : List Int) : (frameB kd nd nc ix ct p).length = p.length + 14 := by unfold frameB; rw [List.length_append, bodyB_len, four_len]
theorem frameB_in (kd nd nc ix ct : Int) {p : List Int} (hp : ∀ x ∈ p, 0 ≤ x ∧ x < 256) : ∀ x ∈ frameB kd nd nc ix ct p, 0 ≤ x ∧ x < 256 := by
  intro x hx
  unfold frameB at hx
  rcases List.mem_append.1 hx with hx | hx
  · unfold bodyB at hx
    rcases List.mem_append.1 hx with hx | hx
    · unfold headB at hx
      simp only [List.mem_cons, List.not_mem_nil, or_false] at hx
      rcases hx with rfl | rfl | rfl | rfl | rfl | rfl | rfl | rfl | rfl | rfl <;> omega
    · exact hp x hx
  · exact four_in _ x hx
theorem frame_r (kd nd nc ix ct : Int) (p : List Int) (hl : p.length ≤ 1073741824) : Ev (fun k => majordomoref16_frame.f k kd nd nc ix ct p) (frameB kd nd nc ix ct p) := by
  unfold majordomoref16_frame.f
  refine Ev.bind (Ev.now (headB kd nd nc ix ct p.length)) ?_
  refine Ev.congr (fun k => if_pos (by show 10 + _ < _; omega)) ?_
  refine Ev.bind (Ev.now (bodyB kd nd nc ix ct p)) (Ev.bind (sum_r _ (by rw [bodyB_len]; omega)) ?_)
  simp only [Option.bind_some]
  rw [if_pos (by rw [bodyB_len]; show _ + 4 < _; omega)]
  exact Ev.now _
theorem mod0 : ∀ j : Nat, j < 4 → 0 ≤ (wrap64 (24 - (wrap64 (8 * (j : Int))))) ∧ (wrap64 (8 * (j : Int))) = ((8 * j : Nat) : Int) ∧ (wrap64 (24 - (wrap64 (8 * (j : Int))))) = ((24 - 8 * j : Nat) : Int) ∧ wrap64 ((j : Int) + 1) = ((j + 1 : Nat) : Int) := by
  intro j hj
  unfold wrap64
  omega
theorem frame_w (kd nd nc ix ct : Int) (p : List Int) (hl : p.length ≤ 1073741824) : Ev (fun k => wire_frame.f k kd nd nc ix ct p) (frameB kd nd nc ix ct p) := by
  have st : ∀ (b : List Int) (j : Nat) (hj : j < 4) (hb : b.length < 100) {r : List Int}, Ev (fun k => wire_frame.l0 k (b ++ [(shr .i64 nc ((24 - 8 * j : Nat) : Int)) % 256]) ((j + 1 : Nat) : Int) kd nd nc ix ct p) r → Ev (fun k => wire_frame.l0 k b (j : Int) kd nd nc ix ct p) r := by
    intro b j hj hb r h
    obtain ⟨m1, m2, m3, m4⟩ := mod0 j hj
    refine Ev.step (f := fun k => wire_frame.l0 k (b ++ [(shr .i64 nc ((24 - 8 * j : Nat) : Int)) % 256]) ((j + 1 : Nat) : Int) kd nd nc ix ct p) (fun k => ?_) h
    rw [wire_frame.l0]
    rw [if_pos (by omega), if_pos m1, if_pos (by omega), m3, m4]
  have st2 : ∀ (b : List Int) (s : Int) (j : Nat) (hj : j < 4) (hb : b.length < 1073741924) {r : List Int}, Ev (fun k => wire_frame.l1 k (b ++ [(shr .u32 s ((8 * j : Nat) : Int)) % 256]) s ((j + 1 : Nat) : Int)) r → Ev (fun k => wire_frame.l1 k b s (j : Int)) r := by
    intro b s j hj hb r h
    obtain ⟨m1, m2, m3, m4⟩ := mod0 j hj
    refine Ev.step (f := fun k => wire_frame.l1 k (b ++ [(shr .u32 s ((8 * j : Nat) : Int)) % 256]) s ((j + 1 : Nat) : Int)) (fun k => ?_) h
    rw [wire_frame.l1]
    rw [if_pos (by omega), m2, if_pos (Int.natCast_nonneg _), if_pos (by omega), m4]
  have s24 : shr .i64 nc ((24 - 8 * 0 : Nat) : Int) = nc / 16777216 := rfl
  have s16 : shr .i64 nc ((24 - 8 * 1 : Nat) : Int) = nc / 65536 := rfl
  have s8 : shr .i64 nc ((24 - 8 * 2 : Nat) : Int) = nc / 256 := rfl
  have s0 : shr .i64 nc ((24 - 8 * 3 : Nat) : Int) = nc := by show nc / (2 ^ 0) = nc; simp
  have t24 : ∀ s, shr .u32 s ((8 * 3 : Nat) : Int) = s / 16777216 := fun _ => rfl
  have t16 : ∀ s, shr .u32 s ((8 * 2 : Nat) : Int) = s / 65536 := fun _ => rfl
  have t8 : ∀ s, shr .u32 s ((8 * 1 : Nat) : Int) = s / 256 := fun _ => rfl
  have t0 : ∀ s, shr .u32 s ((8 * 0 : Nat) : Int) = s := fun s => by show s / (2 ^ 0) = s; simp
  unfold wire_frame.f
  refine st _ 0 (by omega) (by simp) (st _ 1 (by omega) (by simp) (st _ 2 (by omega) (by simp) (st _ 3 (by omega) (by simp) ?_)))
  rw [s24, s16, s8, s0]
  refine Ev.step (f := fun k => (wire_Sum.f k (bodyB kd nd nc ix ct p)).bind fun t142 => (wire_frame.l1 k (bodyB kd nd nc ix ct p) t142 0)) (fun k => ?_) ?_
  · rw [wire_frame.l0]
    rw [if_neg (by decide)]
    simp only [List.cons_append, List.nil_append, Option.bind_some]
    rw [if_pos (by simp), if_pos (by simp; omega)]
    rfl
  refine Ev.bind (sum_w _ (by rw [bodyB_len]; omega)) ?_
  have hb := bodyB_len kd nd nc ix ct p
  refine st2 _ _ 0 (by omega) (by omega) (st2 _ _ 1 (by omega) (by simp; omega) (st2 _ _ 2 (by omega) (by simp; omega) (st2 _ _ 3 (by omega) (by simp; omega) ?_)))
  rw [t24, t16, t8, t0]
  refine Ev.step (f := fun _ => some (frameB kd nd nc ix ct p)) (fun k => ?_) (Ev.now _)
  rw [wire_frame.l1]
  rw [if_neg (by decide)]
  simp only [List.append_assoc, List.cons_append, List.nil_append]
  rfl

/-! ### A message cut -/
def okHead (kd nd nc : Int) : Bool := decide (1 ≤ kd) && decide (kd ≤ 3) && decide (1 ≤ nd) && decide (nd ≤ 4) && decide (0 ≤ nc) && decide (nc < 2147483648)
theorem okHead_iff {kd nd nc : Int} : okHead kd nd nc = true ↔ 1 ≤ kd ∧ kd ≤ 3 ∧ 1 ≤ nd ∧ nd ≤ 4 ∧ 0 ≤ nc ∧ nc < 2147483648 := by
  unfold okHead
  simp only [Bool.and_eq_true, decide_eq_true_eq, and_assoc]
theorem head_r (kd nd nc : Int) : majordomoref16_head.f kd nd nc = some (okHead kd nd nc) := by
  unfold majordomoref16_head.f okHead
  by_cases h1 : kd ≥ 1
  · by_cases h2 : kd ≤ 3
    · by_cases h3 : nd ≥ 1
      · by_cases h4 : nd ≤ 4
        · by_cases h5 : nc ≥ 0
          · rw [if_pos h1, if_pos h2, if_pos h3, if_pos h4, if_pos h5]; simp [h1, h2, h3, h4, h5]
          · rw [if_pos h1, if_pos h2, if_pos h3, if_pos h4, if_neg h5]; simp; omega
        · rw [if_pos h1, if_pos h2, if_pos h3, if_neg h4]; simp; omega
      · rw [if_pos h1, if_pos h2, if_neg h3]; simp; omega
    · rw [if_pos h1, if_neg h2]; simp; omega
  · rw [if_neg h1]; simp; omega
theorem may_w (kd nd nc : Int) : wire_may.f kd nd nc = some (okHead kd nd nc) := head_r kd nd nc
/-- How many frames. -/
def cutN (n : Nat) : Nat := max 1 ((n + 47) / 48)
def piece (xs : List Int) (i : Nat) : List Int := (xs.drop (i * 48)).take 48
def frameOf (kd nd nc : Int) (xs : List Int) (i : Nat) : List Int := frameB kd nd nc i (cutN xs.length) (piece xs i)
def cutB (kd nd nc : Int) (xs : List Int) : List (List Int) := (List.range (cutN xs.length)).map (frameOf kd nd nc xs)
def cutE (kd nd nc : Int) (xs : List Int) : Int := if okHead kd nd nc = true then (if xs.length ≤ 4096 then 0 else 5) else 1
def cutL (kd nd nc : Int) (xs : List Int) : List (List Int) := if cutE kd nd nc xs = 0 then cutB kd nd nc xs else []
theorem cutN_pos (n : Nat) : 1 ≤ cutN n := Nat.le_max_left _ _
theorem cutN_le {n : Nat} (h : n ≤ 4096) : cutN n ≤ 86 := by unfold cutN; omega
theorem piece_len (xs : List Int) (i : Nat) : (piece xs i).length = min 48 (xs.length - i * 48) := by unfold piece; rw [List.length_take, List.length_drop]
theorem piece_eq (xs : List Int) (i : Nat) : (xs.take (min xs.length (i * 48 + 48))).drop (i * 48) = piece xs i := by
  unfold piece
  rw [List.drop_take]
  by_cases h : i * 48 + 48 ≤ xs.length
  · rw [Nat.min_eq_right h]; congr 1; omega
  · rw [Nat.min_eq_left (by omega), List.take_of_length_le (by rw [List.length_drop]; omega), List.take_of_length_le (by rw [List.length_drop]; omega)]
theorem cut_r (kd nd nc : Int) (xs : List Int) : Ev (fun k => majordomoref16_Cut.f k kd nd nc xs) (cutL kd nd nc xs, cutE kd nd nc xs) := by
  unfold majordomoref16_Cut.f
  rw [head_r]
  simp only [Option.bind_some]
  unfold cutL cutE
  by_cases h1 : okHead kd nd nc = true
  · rw [if_pos h1]
    by_cases h2 : xs.length ≤ 4096
    · refine Ev.congr (fun k => (if_pos h1).trans (if_neg (by omega))) ?_
      rw [if_pos h2, if_pos rfl]
      have hn : mx 1 (wrap64 (Int.tdiv (wrap64 ((wrap64 ((xs.length : Int) + 48)) - 1)) 48)) = (cutN xs.length : Int) := by
        rw [w64 (x := (xs.length : Int) + 48) (by omega) (by omega), w64 (x := (xs.length : Int) + 48 - 1) (by omega) (by omega), Int.tdiv_eq_ediv_of_nonneg (by omega), w64 (by omega) (by omega)]
        unfold mx cutN
        split <;> omega
      rw [hn]
      have hN := cutN_le h2
      have key : ∀ (m i : Nat), i + m = cutN xs.length → Ev (fun k => majordomoref16_Cut.l0 k (cutN xs.length) ((List.range i).map (frameOf kd nd nc xs)) i kd nd nc xs) (cutB kd nd nc xs, 0) := by
        intro m
        induction m with
        | zero =>
          intro i hi
          refine Ev.step (f := fun _ => some (cutB kd nd nc xs, 0)) (fun k => ?_) (Ev.now _)
          rw [majordomoref16_Cut.l0]
          rw [if_neg (by omega)]
          unfold cutB
          rw [← hi]; rfl
        | succ m ih =>
          intro i hi
          have hi48 : i * 48 ≤ xs.length := by unfold cutN at hi; omega
          refine Ev.step (f := fun k => (majordomoref16_frame.f k kd nd nc i (cutN xs.length) (piece xs i)).bind fun t119 => majordomoref16_Cut.l0 k (cutN xs.length) ((List.range i).map (frameOf kd nd nc xs) ++ [t119]) ((i + 1 : Nat) : Int) kd nd nc xs) (fun k => ?_) ?_
          · rw [majordomoref16_Cut.l0]
            have e1 : wrap64 ((i : Int) * 48) = ((i * 48 : Nat) : Int) := by rw [w64 (by omega) (by omega)]; omega
            have e2 : wrap64 ((i : Int) + 1) = ((i + 1 : Nat) : Int) := by rw [w64 (by omega) (by omega)]; omega
            have e3 : wrap64 (((i + 1 : Nat) : Int) * 48) = ((i * 48 + 48 : Nat) : Int) := by rw [w64 (by omega) (by omega)]; omega
            have e4 : mn (xs.length : Int) ((i * 48 + 48 : Nat) : Int) = ((min xs.length (i * 48 + 48) : Nat) : Int) := by unfold mn; split <;> omega
            rw [e1, e2, e3, e4, if_pos (by omega), if_pos (by omega), if_pos (by omega), if_pos (by omega), Int.toNat_natCast, Int.toNat_natCast, piece_eq]
            congr 1
            funext t
            rw [if_pos (by simp; omega)]
          · refine Ev.bind (frame_r kd nd nc i (cutN xs.length) (piece xs i) (by rw [piece_len]; omega)) ?_
            have h3 := ih (i + 1) (by omega)
            rw [List.range_succ, List.map_append] at h3
            exact h3
      exact key (cutN xs.length) 0 (by omega)
    · refine Ev.congr (fun k => (if_pos h1).trans (if_pos (by omega))) ?_
      rw [if_neg h2, if_neg (by decide)]
      exact Ev.now _
  · refine Ev.congr (fun k => if_neg h1) ?_
    rw [if_neg h1, if_neg (by decide)]
    exact Ev.now _
end Go.Proofs.Ytaojnbhnogndnaa.PW16
