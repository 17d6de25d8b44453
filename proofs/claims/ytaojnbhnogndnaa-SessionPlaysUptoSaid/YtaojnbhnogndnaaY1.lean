/- The 32-bit sum of bytes as a register of bits: a step is linear and loses nothing; what turned bits within 32 side by side do to it. -/
import Derived.Laws.Entries
import Derived.Laws.BitsLemmas
namespace Go.Proofs.Ytaojnbhnogndnaa.Crc
set_option linter.unusedVariables false

abbrev Reg := BitVec 32
def poly : Reg := 0xEDB88320#32
/-- One step. -/
def T (s : Reg) : Reg := (s >>> 1) ^^^ (if s.getLsbD 0 then poly else 0#32)
def Tn : Nat → Reg → Reg
  | 0, s => s
  | n + 1, s => Tn n (T s)

theorem T_xor (a b : Reg) : T (a ^^^ b) = T a ^^^ T b := by
  unfold T
  rw [BitVec.ushiftRight_xor_distrib, BitVec.getLsbD_xor]
  generalize poly = p
  cases a.getLsbD 0 <;> cases b.getLsbD 0 <;> simp
  · rw [BitVec.xor_assoc]
  · rw [BitVec.xor_assoc, BitVec.xor_assoc, BitVec.xor_comm p]
  · rw [BitVec.xor_assoc (a >>> 1) p, ← BitVec.xor_assoc p, BitVec.xor_comm p (b >>> 1), BitVec.xor_assoc (b >>> 1) p p, BitVec.xor_self, BitVec.xor_zero]
theorem T_zero : T 0#32 = 0#32 := by decide
theorem Tn_zero : ∀ n, Tn n 0#32 = 0#32
  | 0 => rfl
  | n + 1 => by rw [Tn, T_zero, Tn_zero n]
theorem Tn_xor : ∀ n (a b : Reg), Tn n (a ^^^ b) = Tn n a ^^^ Tn n b
  | 0, _, _ => rfl
  | n + 1, a, b => by rw [Tn, T_xor, Tn_xor n]; rfl
theorem T_inj (s : Reg) (h : T s = 0#32) : s = 0#32 := by
  have h0 : s.getLsbD 0 = false := by
    cases hs : s.getLsbD 0
    · rfl
    · have h31 := congrArg (fun x : Reg => x.getLsbD 31) h
      unfold T at h31
      rw [if_pos hs] at h31
      simp only [BitVec.getLsbD_xor, BitVec.getLsbD_ushiftRight] at h31
      rw [BitVec.getLsbD_of_ge s (1 + 31) (by omega)] at h31
      exact absurd h31 (by decide)
  unfold T at h
  rw [if_neg (by rw [h0]; exact Bool.false_ne_true), BitVec.xor_zero] at h
  apply BitVec.eq_of_getLsbD_eq
  intro i hi
  cases i with
  | zero => rw [h0]; simp
  | succ i =>
    have h1 := congrArg (fun x : Reg => x.getLsbD i) h
    simp only [BitVec.getLsbD_ushiftRight, BitVec.getLsbD_zero] at h1
    rw [Nat.add_comm, h1]
    simp
theorem Tn_inj : ∀ n (s : Reg), Tn n s = 0#32 → s = 0#32
  | 0, _, h => h
  | n + 1, s, h => T_inj s (Tn_inj n (T s) h)
theorem Tn_add : ∀ m n (s : Reg), Tn (m + n) s = Tn n (Tn m s)
  | 0, n, s => by rw [Nat.zero_add]; rfl
  | m + 1, n, s => by rw [Nat.add_right_comm]; exact Tn_add m n (T s)

/-- One bit is taken in. -/
def one (b : Bool) : Reg := if b then 1#32 else 0#32
def bit (d : Reg) (b : Bool) : Reg := T (d ^^^ one b)
def bits (l : List Bool) (d : Reg) : Reg := l.foldl bit d
theorem bits_append (l m : List Bool) (d : Reg) : bits (l ++ m) d = bits m (bits l d) := List.foldl_append

/-- The word X, n bits of it, taken in bit by bit: as if it were laid over the register at once. -/
theorem bits_word : ∀ n (d X : Reg), (∀ i, n ≤ i → X.getLsbD i = false) → bits ((List.range n).map fun i => X.getLsbD i) d = Tn n (d ^^^ X)
  | 0, d, X, h => by
    have : X = 0#32 := BitVec.eq_of_getLsbD_eq (fun i _ => by rw [h i (Nat.zero_le _)]; simp)
    rw [this, BitVec.xor_zero]
    rfl
  | n + 1, d, X, h => by
    rw [List.range_succ_eq_map, List.map_cons, List.map_map]
    have hs : ((List.range n).map ((fun i => X.getLsbD i) ∘ Nat.succ)) = (List.range n).map fun i => (X >>> 1).getLsbD i := by
      refine List.map_congr_left (fun i _ => ?_)
      simp only [Function.comp, BitVec.getLsbD_ushiftRight, Nat.succ_eq_add_one]
      rw [Nat.add_comm]
    rw [hs]
    show bits _ (bit d (X.getLsbD 0)) = _
    rw [bits_word n _ (X >>> 1) (fun i hi => by rw [BitVec.getLsbD_ushiftRight]; exact h _ (by omega))]
    show Tn n _ = Tn n _
    congr 1
    have hX : X = one (X.getLsbD 0) ^^^ ((X >>> 1) <<< 1) := by
      apply BitVec.eq_of_getLsbD_eq
      intro i hi
      rw [BitVec.getLsbD_xor, BitVec.getLsbD_shiftLeft, BitVec.getLsbD_ushiftRight]
      cases i with
      | zero => cases X.getLsbD 0 <;> simp [one]
      | succ i =>
        have h1 : (one (X.getLsbD 0)).getLsbD (i + 1) = false := by cases X.getLsbD 0 <;> simp [one]
        rw [h1]
        simp [hi, Nat.add_comm]
    have hT : T ((X >>> 1) <<< 1) = X >>> 1 := by
      unfold T
      have h0 : ((X >>> 1) <<< 1 : Reg).getLsbD 0 = false := by rw [BitVec.getLsbD_shiftLeft]; simp
      rw [if_neg (by rw [h0]; exact Bool.false_ne_true), BitVec.xor_zero]
      apply BitVec.eq_of_getLsbD_eq
      intro i hi
      rw [BitVec.getLsbD_ushiftRight, BitVec.getLsbD_shiftLeft, BitVec.getLsbD_ushiftRight]
      rw [BitVec.getLsbD_ushiftRight, show 1 + (1 + i - 1) = 1 + i from by omega]
      by_cases h32 : 1 + i < 32
      · simp [h32]
      · rw [BitVec.getLsbD_of_ge X (1 + i) (by omega)]
        simp
    show T (d ^^^ one (X.getLsbD 0)) ^^^ X >>> 1 = T (d ^^^ X)
    conv => rhs; rw [hX]
    rw [← BitVec.xor_assoc, T_xor _ ((X >>> 1) <<< 1), hT]

/-! ### Bytes -/
def reg (c : Int) : Reg := BitVec.ofInt 32 c
/-- A byte is taken in. -/
def byte (s : Reg) (c : Int) : Reg := Tn 8 (s ^^^ reg c)
def bytes (l : List Int) (s : Reg) : Reg := l.foldl byte s
theorem bytes_append (l m : List Int) (s : Reg) : bytes (l ++ m) s = bytes m (bytes l s) := List.foldl_append
/-- The sum of bytes. -/
def sumR (l : List Int) : Reg := ~~~ bytes l (BitVec.allOnes 32)
def sum (l : List Int) : Int := (sumR l).toNat
theorem sum_lo (l : List Int) : 0 ≤ sum l := Int.natCast_nonneg _
theorem sum_hi (l : List Int) : sum l < 4294967296 := by have := (sumR l).isLt; unfold sum; omega

/-- A byte's bits. -/
def bt (c : Int) (i : Nat) : Bool := (reg c).getLsbD i
theorem bt_hi {c : Int} (h0 : 0 ≤ c) (h1 : c < 256) (i : Nat) (hi : 8 ≤ i) : bt c i = false := by
  unfold bt reg
  obtain ⟨n, rfl⟩ := Int.eq_ofNat_of_zero_le h0
  rw [show BitVec.ofInt 32 (n : Int) = BitVec.ofNat 32 n from by simp, BitVec.getLsbD_ofNat]
  by_cases h32 : i < 32
  · simp only [h32, decide_true, Bool.true_and]
    have : (n : Nat) < 2 ^ i := by
      have h2 : (2 : Nat) ^ 8 ≤ 2 ^ i := Nat.pow_le_pow_right (by decide) hi
      omega
    exact Nat.testBit_lt_two_pow this
  · simp [h32]
def allBits (l : List Int) : List Bool := l.flatMap fun c => (List.range 8).map (bt c)

/-- Two registers over two rows of bytes differ as the register over the bits in which the rows differ. -/
def diff (c e : Int) (i : Nat) : Bool := bt c i ^^ bt e i
theorem bytes_diff : ∀ (l m : List Int) (s t : Reg), l.length = m.length → (∀ c ∈ l, 0 ≤ c ∧ c < 256) → (∀ c ∈ m, 0 ≤ c ∧ c < 256) →
    bytes l s ^^^ bytes m t = bits ((l.zip m).flatMap fun p => (List.range 8).map (diff p.1 p.2)) (s ^^^ t)
  | [], [], s, t, _, _, _ => rfl
  | c :: l, e :: m, s, t, hl, h1, h2 => by
    have hc := h1 c (List.mem_cons_self)
    have he := h2 e (List.mem_cons_self)
    rw [List.zip_cons_cons, List.flatMap_cons, bits_append]
    show bytes l (byte s c) ^^^ bytes m (byte t e) = _
    rw [bytes_diff l m _ _ (by simpa using hl) (fun x hx => h1 x (List.mem_cons_of_mem _ hx)) (fun x hx => h2 x (List.mem_cons_of_mem _ hx))]
    congr 1
    have hX : (List.range 8).map (diff c e) = (List.range 8).map fun i => (reg c ^^^ reg e).getLsbD i := List.map_congr_left (fun i _ => by rw [BitVec.getLsbD_xor]; rfl)
    rw [hX, bits_word 8 (s ^^^ t) (reg c ^^^ reg e) (fun i hi => by rw [BitVec.getLsbD_xor]; have a := bt_hi hc.1 hc.2 i hi; have b := bt_hi he.1 he.2 i hi; unfold bt at a b; rw [a, b]; rfl)]
    unfold byte
    rw [← Tn_xor]
    congr 1
    rw [BitVec.xor_assoc, BitVec.xor_assoc, ← BitVec.xor_assoc (reg c), BitVec.xor_comm (reg c) t, BitVec.xor_assoc t]

/-- Bits within 32 side by side, one of them set: the register is not zero behind them. -/
theorem bits_zeros : ∀ (n : Nat), bits (List.replicate n false) 0#32 = 0#32
  | 0 => rfl
  | n + 1 => by
    rw [List.replicate_succ]
    show bits (List.replicate n false) (bit 0#32 false) = _
    have : bit 0#32 false = 0#32 := by decide
    rw [this]
    exact bits_zeros n
theorem bits_zeros_inj : ∀ (n : Nat) (s : Reg), bits (List.replicate n false) s = 0#32 → s = 0#32
  | 0, _, h => h
  | n + 1, s, h => by
    rw [List.replicate_succ] at h
    have h1 := bits_zeros_inj n (bit s false) h
    unfold bit one at h1
    rw [if_neg Bool.false_ne_true, BitVec.xor_zero] at h1
    exact T_inj s h1
theorem burst (E : List Bool) (f : Nat) (hf : f + 32 ≤ E.length) (hz : ∀ i, i < E.length → ¬ (f ≤ i ∧ i < f + 32) → E[i]? = some false) (h : bits E 0#32 = 0#32) : ∀ i, i < E.length → E[i]? = some false := by
  have hE : E = List.replicate f false ++ ((E.drop f).take 32 ++ List.replicate (E.length - f - 32) false) := by
    apply List.ext_getElem?
    intro i
    by_cases h1 : i < f
    · rw [List.getElem?_append_left (by simpa using h1), List.getElem?_replicate, if_pos h1]
      exact hz i (by omega) (by omega)
    · rw [List.getElem?_append_right (by simpa using Nat.le_of_not_lt h1), List.length_replicate]
      by_cases h2 : i < f + 32
      · rw [List.getElem?_append_left (by rw [List.length_take, List.length_drop]; omega), List.getElem?_take_of_lt (by omega), List.getElem?_drop]
        congr 1; omega
      · rw [List.getElem?_append_right (by rw [List.length_take, List.length_drop]; omega), List.length_take, List.length_drop, List.getElem?_replicate]
        by_cases h3 : i < E.length
        · rw [if_pos (by omega)]
          exact hz i h3 (by omega)
        · rw [if_neg (by omega)]
          exact List.getElem?_eq_none (by omega)
  obtain ⟨X, hX⟩ : ∃ X : Reg, (E.drop f).take 32 = (List.range 32).map fun i => X.getLsbD i := by
    refine ⟨BitVec.ofBoolListLE ((E.drop f).take 32) |>.setWidth 32, ?_⟩
    apply List.ext_getElem?
    intro i
    rw [List.getElem?_map]
    by_cases h1 : i < 32
    · rw [List.getElem?_range h1]
      simp only [Option.map_some]
      rw [BitVec.getLsbD_setWidth]
      have hl : i < ((E.drop f).take 32).length := by rw [List.length_take, List.length_drop]; omega
      rw [List.getElem?_eq_getElem hl, BitVec.getLsbD_ofBoolListLE]
      simp only [h1, decide_true, Bool.true_and]
      rw [List.getD_eq_getElem?_getD, List.getElem?_eq_getElem hl]; rfl
    · rw [List.getElem?_eq_none (by rw [List.length_take]; omega), List.getElem?_eq_none (by simp; omega)]
      rfl
  have h2 : X = 0#32 := by
    rw [hE, bits_append, bits_zeros, bits_append] at h
    have h3 := bits_zeros_inj _ _ h
    rw [hX, bits_word 32 0#32 X (fun i hi => BitVec.getLsbD_of_ge X i hi), BitVec.zero_xor] at h3
    exact Tn_inj _ _ h3
  intro i hi
  by_cases h1 : f ≤ i ∧ i < f + 32
  · have h4 : ((E.drop f).take 32)[i - f]? = some false := by
      rw [hX, h2, List.getElem?_map, List.getElem?_range (by omega)]
      simp
    rw [List.getElem?_take_of_lt (by omega), List.getElem?_drop] at h4
    rw [← h4]; congr 1; omega
  · exact hz i hi h1

/-! ### A row of bytes with its sum behind it -/
theorem reg_nat (n : Nat) : reg (n : Int) = BitVec.ofNat 32 n := by
  unfold reg; simp
/-- Four bytes taken in are the word that they make laid over the register. -/
theorem bytes_four (s : Reg) (a b c d : Int) (ha : 0 ≤ a ∧ a < 256) (hb : 0 ≤ b ∧ b < 256) (hc : 0 ≤ c ∧ c < 256) (hd : 0 ≤ d ∧ d < 256) :
    bytes [a, b, c, d] s = Tn 32 (s ^^^ reg (a + 256 * b + 65536 * c + 16777216 * d)) := by
  obtain ⟨a, rfl⟩ := Int.eq_ofNat_of_zero_le ha.1
  obtain ⟨b, rfl⟩ := Int.eq_ofNat_of_zero_le hb.1
  obtain ⟨c, rfl⟩ := Int.eq_ofNat_of_zero_le hc.1
  obtain ⟨d, rfl⟩ := Int.eq_ofNat_of_zero_le hd.1
  have key : ∀ (s : Reg) (l : List Int) (W : Reg), (∀ c ∈ l, 0 ≤ c ∧ c < 256) → l.flatMap (fun c => (List.range 8).map (bt c)) = (List.range (8 * l.length)).map (fun i => W.getLsbD i) → (∀ i, 8 * l.length ≤ i → W.getLsbD i = false) → bytes l s = Tn (8 * l.length) (s ^^^ W) := by
    intro s l W h1 h2 h3
    rw [← bits_word _ _ _ h3, ← h2]
    clear h2 h3
    induction l generalizing s with
    | nil => rfl
    | cons c l ih =>
      have hc := h1 c List.mem_cons_self
      rw [List.flatMap_cons, bits_append]
      show bytes l (byte s c) = _
      rw [ih _ (fun x hx => h1 x (List.mem_cons_of_mem _ hx))]
      congr 1
      exact (bits_word 8 s (reg c) (fun i hi => bt_hi hc.1 hc.2 i hi)).symm
  refine key s [(a : Int), b, c, d] _ ?_ ?_ (fun i hi => BitVec.getLsbD_of_ge _ i hi)
  · intro x hx
    simp only [List.mem_cons, List.not_mem_nil, or_false] at hx
    rcases hx with rfl | rfl | rfl | rfl <;> assumption
  · have e : reg ((a : Int) + 256 * b + 65536 * c + 16777216 * d) = BitVec.ofNat 32 (a + 256 * (b + 256 * (c + 256 * d))) := by
      have : ((a : Int) + 256 * b + 65536 * c + 16777216 * d) = ((a + 256 * (b + 256 * (c + 256 * d)) : Nat) : Int) := by omega
      rw [this, reg_nat]
    rw [e]
    have hbt : ∀ n i : Nat, n < 256 → i < 8 → bt (n : Int) i = n.testBit i := by
      intro n i hn hi
      unfold bt
      rw [reg_nat, BitVec.getLsbD_ofNat]
      simp; omega
    have tb : ∀ (x y i : Nat), x < 256 → (x + 256 * y).testBit i = if i < 8 then x.testBit i else y.testBit (i - 8) := by
      intro x y i hx
      rw [Nat.add_comm, show 256 = 2 ^ 8 from rfl, Nat.testBit_two_pow_mul_add _ (by simpa using hx)]
    apply List.ext_getElem?
    intro i
    simp only [List.flatMap_cons, List.flatMap_nil, List.append_nil]
    have ha' : a < 256 := by omega
    have hb' : b < 256 := by omega
    have hc' : c < 256 := by omega
    have hd' : d < 256 := by omega
    by_cases h32 : i < 32
    · rw [List.getElem?_map, List.getElem?_range (by simpa using h32), Option.map_some, BitVec.getLsbD_ofNat, tb _ _ _ ha', tb _ _ _ hb', tb _ _ _ hc']
      simp only [h32, decide_true, Bool.true_and]
      by_cases h8 : i < 8
      · rw [List.getElem?_append_left (by simpa using h8), List.getElem?_map, List.getElem?_range h8, if_pos h8, Option.map_some, hbt _ _ ha' h8]
      · rw [List.getElem?_append_right (by simp; omega), if_neg h8]
        simp only [List.length_map, List.length_range]
        by_cases h16 : i < 16
        · rw [List.getElem?_append_left (by simp; omega), List.getElem?_map, List.getElem?_range (by omega), if_pos (by omega), Option.map_some, hbt _ _ hb' (by omega)]
        · rw [List.getElem?_append_right (by simp; omega), if_neg (by omega)]
          simp only [List.length_map, List.length_range]
          by_cases h24 : i < 24
          · rw [List.getElem?_append_left (by simp; omega), List.getElem?_map, List.getElem?_range (by omega), if_pos (by omega), Option.map_some, hbt _ _ hc' (by omega)]
          · rw [List.getElem?_append_right (by simp; omega), if_neg (by omega)]
            simp only [List.length_map, List.length_range]
            rw [List.getElem?_map, List.getElem?_range (by omega), Option.map_some, hbt _ _ hd' (by omega)]
    · rw [List.getElem?_eq_none (by simp; omega), List.getElem?_eq_none (by simp; omega)]

/-- The four bytes of a sum, the lowest first. -/
def four (s : Int) : List Int := [s % 256, s / 256 % 256, s / 65536 % 256, s / 16777216 % 256]
theorem four_word (s : Int) (h0 : 0 ≤ s) (h1 : s < 4294967296) : s % 256 + 256 * (s / 256 % 256) + 65536 * (s / 65536 % 256) + 16777216 * (s / 16777216 % 256) = s := by omega
/-- Over bytes with their sum behind them the register ends at one fixed value. -/
theorem residue (l : List Int) : bytes (l ++ four (sum l)) (BitVec.allOnes 32) = Tn 32 (BitVec.allOnes 32) := by
  have h0 := sum_lo l
  have h1 := sum_hi l
  rw [bytes_append]
  unfold four
  rw [bytes_four _ _ _ _ _ (by omega) (by omega) (by omega) (by omega), four_word _ h0 h1]
  congr 1
  have : reg (sum l) = sumR l := by unfold sum; rw [reg_nat, BitVec.ofNat_toNat, BitVec.setWidth_eq]
  rw [this]
  unfold sumR
  generalize bytes l (BitVec.allOnes 32) = s
  apply BitVec.eq_of_getLsbD_eq
  intro i hi
  rw [BitVec.getLsbD_xor, BitVec.getLsbD_not, BitVec.getLsbD_allOnes, decide_eq_true hi]
  cases s.getLsbD i <;> rfl
theorem four_len (s : Int) : (four s).length = 4 := rfl
theorem four_in (s : Int) : ∀ c ∈ four s, 0 ≤ c ∧ c < 256 := by
  intro c hc
  simp only [four, List.mem_cons, List.not_mem_nil, or_false] at hc
  rcases hc with rfl | rfl | rfl | rfl <;> omega
/-- Two rows of bytes, both with their sum behind them, that differ only in bits within 32 side by side, do not differ. -/
theorem turned (l m : List Int) (hl : l.length = m.length) (h1 : ∀ c ∈ l, 0 ≤ c ∧ c < 256) (h2 : ∀ c ∈ m, 0 ≤ c ∧ c < 256)
    (hs : bytes l (BitVec.allOnes 32) = Tn 32 (BitVec.allOnes 32)) (ht : bytes m (BitVec.allOnes 32) = Tn 32 (BitVec.allOnes 32))
    (f : Nat) (hf : f + 32 ≤ 8 * l.length) (hz : ∀ p j, p < l.length → j < 8 → ¬ (f ≤ 8 * p + j ∧ 8 * p + j < f + 32) → bt (l.getD p 0) j = bt (m.getD p 0) j) :
    ∀ p j, p < l.length → j < 8 → bt (l.getD p 0) j = bt (m.getD p 0) j := by
  obtain ⟨E, hE⟩ : ∃ E, E = (l.zip m).flatMap fun p => (List.range 8).map (diff p.1 p.2) := ⟨_, rfl⟩
  have hd := bytes_diff l m (BitVec.allOnes 32) (BitVec.allOnes 32) hl h1 h2
  rw [hs, ht, BitVec.xor_self, BitVec.xor_self, ← hE] at hd
  have hat : ∀ (l m : List Int), l.length = m.length → ∀ p j, p < l.length → j < 8 → ((l.zip m).flatMap fun p => (List.range 8).map (diff p.1 p.2))[8 * p + j]? = some (diff (l.getD p 0) (m.getD p 0) j) := by
    intro l
    induction l with
    | nil => intro m _ p j hp; simp at hp
    | cons c l ih =>
      intro m hl p j hp hj
      match m, hl with
      | e :: m, hl =>
        rw [List.zip_cons_cons, List.flatMap_cons]
        cases p with
        | zero =>
          rw [List.getElem?_append_left (by simp; omega), List.getElem?_map, List.getElem?_range (by omega)]
          simp
        | succ p =>
          rw [List.getElem?_append_right (by simp; omega)]
          have := ih m (by simpa using hl) p j (by simpa using hp) hj
          simp only [List.length_map, List.length_range]
          rw [show 8 * (p + 1) + j - 8 = 8 * p + j from by omega, this]
          simp
  have hlen : ∀ (l m : List Int), l.length = m.length → ((l.zip m).flatMap fun p => (List.range 8).map (diff p.1 p.2)).length = 8 * l.length := by
    intro l
    induction l with
    | nil => intro m _; rfl
    | cons c l ih =>
      intro m hl
      match m, hl with
      | e :: m, hl =>
        rw [List.zip_cons_cons, List.flatMap_cons, List.length_append, ih m (by simpa using hl)]
        simp; omega
  have hEl : E.length = 8 * l.length := by rw [hE]; exact hlen l m hl
  have hb := burst E f (by omega) (fun i hi hn => by
    have h3 := hat l m hl (i / 8) (i % 8) (by omega) (by omega)
    rw [← hE, show 8 * (i / 8) + i % 8 = i from by omega] at h3
    rw [h3]
    have h4 := hz (i / 8) (i % 8) (by omega) (by omega) (by rw [show 8 * (i / 8) + i % 8 = i from by omega]; exact hn)
    unfold diff
    rw [h4]; simp) hd.symm
  intro p j hp hj
  have h3 := hat l m hl p j hp hj
  rw [← hE, hb _ (by omega)] at h3
  have h4 : diff (l.getD p 0) (m.getD p 0) j = false := (Option.some.inj h3).symm
  unfold diff at h4
  revert h4
  cases bt (l.getD p 0) j <;> cases bt (m.getD p 0) j <;> simp
/-- Bytes with the same bits are the same. -/
theorem bt_ext {c e : Int} (hc : 0 ≤ c ∧ c < 256) (he : 0 ≤ e ∧ e < 256) (h : ∀ j, j < 8 → bt c j = bt e j) : c = e := by
  obtain ⟨c, rfl⟩ := Int.eq_ofNat_of_zero_le hc.1
  obtain ⟨e, rfl⟩ := Int.eq_ofNat_of_zero_le he.1
  have h1 : reg (c : Int) = reg (e : Int) := by
    apply BitVec.eq_of_getLsbD_eq
    intro i hi
    by_cases h8 : i < 8
    · exact h i h8
    · have a := bt_hi hc.1 hc.2 i (by omega)
      have b := bt_hi he.1 he.2 i (by omega)
      unfold bt at a b
      rw [a, b]
  rw [reg_nat, reg_nat] at h1
  have h2 := congrArg BitVec.toNat h1
  simp only [BitVec.toNat_ofNat] at h2
  omega
end Go.Proofs.Ytaojnbhnogndnaa.Crc
