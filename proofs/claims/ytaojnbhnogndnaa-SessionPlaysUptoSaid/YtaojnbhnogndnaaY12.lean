/- A message's frames as they are read; what a frame does to an inbox, by the kind and node that it bears. -/
import Derived.Test.YtaojnbhnogndnaaY11
import Derived.Test.YtaojnbhnogndnaaY4
namespace Go.Proofs.Ytaojnbhnogndnaa.SL
open Go.RowKit Go.Proofs.YtaojnbhnogndnaaW.PrintWords Go.Proofs.YtaojnbhnogndnaaW.PrintLast Go.Proofs.YtaojnbhnogndnaaW.PrintMore
attribute [local go_sem] max2_int min2_int max_two min_two
attribute [local go_sem high] Small.cell_set_same
set_option linter.unusedVariables false
set_option linter.unusedSimpArgs false

/-! ### A frame of a message, read -/
theorem getD_cons0 (x : Int) (l : List Int) (d : Int) : (x :: l).getD 0 d = x := rfl
theorem frame_fields (kd nd nc ix ct : Int) (p : List Int) (hh : PW16.okHead kd nd nc = true) (hi0 : 0 ≤ ix) (hi1 : ix < 256) (hc0 : 0 ≤ ct) (hc1 : ct < 256) (hp : p.length < 256) :
    fKd (PW16.frameB kd nd nc ix ct p) = kd ∧ fNd (PW16.frameB kd nd nc ix ct p) = nd ∧ fNc (PW16.frameB kd nd nc ix ct p) = nc ∧ fIx (PW16.frameB kd nd nc ix ct p) = ix ∧ fCt (PW16.frameB kd nd nc ix ct p) = ct ∧ fBy (PW16.frameB kd nd nc ix ct p) = p ∧ Fits (PW16.frameB kd nd nc ix ct p) := by
  obtain ⟨k1, k2, n1, n2, c1, c2⟩ := PW16.okHead_iff.1 hh
  have hl := PW16.frameB_len kd nd nc ix ct p
  refine ⟨?_, ?_, ?_, ?_, ?_, ?_, ?_, ?_⟩
  · show kd % 256 = kd; omega
  · show nd % 256 = nd; omega
  · show nc / 16777216 % 256 * 16777216 + nc / 65536 % 256 * 65536 + nc / 256 % 256 * 256 + nc % 256 = nc; omega
  · show ix % 256 = ix; omega
  · show ct % 256 = ct; omega
  · unfold fBy
    rw [hl]
    unfold PW16.frameB PW16.bodyB
    rw [List.take_append_of_le_length (by rw [List.length_append]; unfold PW16.headB; simp; omega), List.take_of_length_le (by rw [List.length_append]; unfold PW16.headB; simp; omega)]
    rw [List.drop_append_of_le_length (by unfold PW16.headB; simp)]
    rw [show (PW16.headB kd nd nc ix ct p.length).drop 10 = [] from rfl, List.nil_append]
  · rw [hl]; omega
  · rw [hl]
    show ((p.length + 14 : Nat) : Int) = 14 + ((p.length : Int) % 256)
    omega
theorem piece_all (xs : List Int) : ∀ n, (List.range n).flatMap (PW16.piece xs) = xs.take (n * 48)
  | 0 => by simp
  | n + 1 => by
    rw [List.range_succ, List.flatMap_append, piece_all xs n]
    simp only [List.flatMap_cons, List.flatMap_nil, List.append_nil]
    unfold PW16.piece
    rw [Nat.succ_mul, List.take_add]
theorem piece_whole (xs : List Int) : (List.range (PW16.cutN xs.length)).flatMap (PW16.piece xs) = xs := by
  rw [piece_all, List.take_of_length_le (by unfold PW16.cutN; omega)]
theorem piece_in {xs : List Int} (h : ∀ x ∈ xs, 0 ≤ x ∧ x < 256) (i : Nat) : ∀ x ∈ PW16.piece xs i, 0 ≤ x ∧ x < 256 := fun x hx => h x (List.mem_of_mem_drop (List.mem_of_mem_take hx))
/-- The i-th frame of a message is read as what it is. -/
theorem frameOf_reads (kd nd nc : Int) (xs : List Int) (hh : PW16.okHead kd nd nc = true) (hl : xs.length ≤ 4096) (i : Nat) (hi : i < PW16.cutN xs.length) :
    ReadOk (PW16.frameOf kd nd nc xs i) ∧ fKd (PW16.frameOf kd nd nc xs i) = kd ∧ fNd (PW16.frameOf kd nd nc xs i) = nd ∧ fNc (PW16.frameOf kd nd nc xs i) = nc ∧ fIx (PW16.frameOf kd nd nc xs i) = i ∧ fCt (PW16.frameOf kd nd nc xs i) = PW16.cutN xs.length ∧ fBy (PW16.frameOf kd nd nc xs i) = PW16.piece xs i ∧ Fits (PW16.frameOf kd nd nc xs i) := by
  have hn := PW16.cutN_le hl
  have hp := PW16.piece_len xs i
  obtain ⟨h1, h2, h3, h4, h5, h6, h7⟩ := frame_fields kd nd nc i (PW16.cutN xs.length) (PW16.piece xs i) hh (by omega) (by omega) (by omega) (by omega) (by rw [hp]; omega)
  refine ⟨⟨h7, ?_, ?_, ?_, ?_, ?_, ?_⟩, h1, h2, h3, h4, h5, h6, h7⟩
  · unfold PW16.frameOf; rw [h1, h2, h3]; exact hh
  · unfold PW16.frameOf; rw [h5]; omega
  · unfold PW16.frameOf; rw [h5]; omega
  · unfold PW16.frameOf; rw [h4, h5]; omega
  · unfold PW16.frameOf; rw [h4, h5, h6, hp]
    unfold PW16.cutN at hi ⊢
    refine ⟨?_, fun h => ?_⟩ <;> omega
  · unfold PW16.frameOf; rw [h1, h2, h3, h4, h5, h6]
theorem frameOf_in (kd nd nc : Int) {xs : List Int} (hx : ∀ x ∈ xs, 0 ≤ x ∧ x < 256) (i : Nat) : ∀ x ∈ PW16.frameOf kd nd nc xs i, 0 ≤ x ∧ x < 256 := PW16.frameB_in kd nd nc i (PW16.cutN xs.length) (piece_in hx i)
theorem cutB_len (kd nd nc : Int) (xs : List Int) : (PW16.cutB kd nd nc xs).length = PW16.cutN xs.length := by unfold PW16.cutB; simp
theorem cutB_at (kd nd nc : Int) (xs : List Int) (i : Nat) (hi : i < PW16.cutN xs.length) (z : List Int) : (PW16.cutB kd nd nc xs).getD i z = PW16.frameOf kd nd nc xs i := by
  unfold PW16.cutB
  rw [List.getD_eq_getElem?_getD, List.getElem?_map, List.getElem?_range hi]; rfl

/-! ### One kind and node alone -/
abbrev KS : Type := Int × Int × List (Int × List Int)
def getE (x : ES) (k : Int × Int) : Option KS := (lookE k x).map fun q => q.2.2
def stepK (o : Option KS) (nc ct : Int) : KS := match o with | none => (nc, ct, []) | some s => if s.1 < nc then (nc, ct, []) else s
def refK (s : KS) (nc ix ct : Int) : Bool := decide (nc < s.1) || decide (ct ≠ s.2.1) || (lookP ix s.2.2).isSome
def addK (o : Option KS) (nc ix ct : Int) (bs : List Int) : Option KS × Option (List Int) :=
  if okArg ix ct = true then
    if refK (stepK o nc ct) nc ix ct = true then (some (stepK o nc ct), none)
    else (some ((stepK o nc ct).1, (stepK o nc ct).2.1, (stepK o nc ct).2.2 ++ [(ix, bs)]), if (((stepK o nc ct).2.2.length + 1 : Nat) : Int) < (stepK o nc ct).2.1 then none else some (catE (stepK o nc ct).2.1.toNat ((stepK o nc ct).2.2 ++ [(ix, bs)])))
  else (o, none)
theorem lookIn_other {α κ : Type} [DecidableEq κ] {key : α → κ} {x y : κ} (hxy : y ≠ x) (n : α) (hn : key n = x) : ∀ (l : List α) (i j : Nat) (a : α), l[j]? = some a → key a = x → (lookIn key y i (l.set j n)).map Prod.snd = (lookIn key y i l).map Prod.snd
  | c :: l, i, 0, a, h, ha => by
    simp only [List.getElem?_cons_zero, Option.some.injEq] at h
    subst h
    simp only [List.set_cons_zero, lookIn]
    rw [hn, ha, if_neg hxy, if_neg hxy]
  | c :: l, i, j + 1, a, h, ha => by
    simp only [List.set_cons_succ, lookIn]
    split
    · rfl
    · exact lookIn_other hxy n hn l (i + 1) j a (by simpa using h) ha
theorem lookIn_append {α κ : Type} [DecidableEq κ] {key : α → κ} {x y : κ} (hxy : y ≠ x) (n : α) (hn : key n = x) : ∀ (l : List α) (i : Nat), (lookIn key y i (l ++ [n])).map Prod.snd = (lookIn key y i l).map Prod.snd
  | [], i => by simp [lookIn, hn, hxy]
  | c :: l, i => by
    simp only [List.cons_append, lookIn]
    split
    · rfl
    · exact lookIn_append hxy n hn l (i + 1)
theorem getE_snd (x : ES) (k : Int × Int) : getE x k = ((lookE k x).map Prod.snd).map Prod.snd := by unfold getE; cases lookE k x <;> rfl
theorem step_get (x : ES) (k : Int × Int) (nc ct : Int) : ∃ j, lookE k (step1E k nc ct x) = some (j, k, stepK (getE x k) nc ct) ∧ ∀ y, y ≠ k → getE (step1E k nc ct x) y = getE x y := by
  unfold step1E getE
  cases hl : lookE k x with
  | none =>
    refine ⟨x.length, ?_, fun y hy => ?_⟩
    · have := lookIn_app (key := Prod.fst) (x := k) ((k, nc, ct, []) : ESlot) rfl (l := x) (i := 0) hl
      rw [Nat.zero_add] at this
      exact this
    · have := lookIn_append (key := Prod.fst) hy ((k, nc, ct, []) : ESlot) rfl x 0
      have h2 : ∀ l : ES, (lookE y l).map (fun q => q.2.2) = ((lookE y l).map Prod.snd).map Prod.snd := fun l => by cases lookE y l <;> rfl
      rw [h2, h2]
      unfold lookE
      rw [this]
  | some q =>
    obtain ⟨j, s⟩ := q
    obtain ⟨hj, hk⟩ := lookIn_at hl
    have hs : s = (k, s.2) := by rw [← hk]
    show ∃ j_1, lookE k (if s.2.1 < nc then _ else _) = _ ∧ _
    unfold stepK
    simp only [Option.map_some]
    by_cases hn : s.2.1 < nc
    · rw [if_pos hn, if_pos hn]
      refine ⟨j, ?_, fun y hy => ?_⟩
      · have := lookIn_set (key := Prod.fst) (x := k) ((k, nc, ct, []) : ESlot) rfl (l := x) (i := 0) (j := j) (a := s) (by rw [Nat.zero_add]; exact hl)
        rw [Nat.zero_add] at this
        exact this
      · have := lookIn_other (key := Prod.fst) hy ((k, nc, ct, []) : ESlot) rfl x 0 j s hj hk
        have h2 : ∀ l : ES, (lookE y l).map (fun q => q.2.2) = ((lookE y l).map Prod.snd).map Prod.snd := fun l => by cases lookE y l <;> rfl
        rw [h2, h2]
        unfold lookE
        rw [this]
    · rw [if_neg hn, if_neg hn]
      exact ⟨j, by rw [hl, hs], fun y _ => rfl⟩
theorem addE_at {x : ES} {kd nd nc ix ct : Int} {bs : List Int} {j : Nat} {s : ESlot} (hok : okArg ix ct = true) (hl : lookE (kd, nd) (step1E (kd, nd) nc ct x) = some (j, s)) :
    addE x kd nd nc ix ct bs = if refuse s nc ix ct = true then (step1E (kd, nd) nc ct x, none) else
      ((step1E (kd, nd) nc ct x).set j (s.1, s.2.1, s.2.2.1, s.2.2.2 ++ [(ix, bs)]), if ((s.2.2.2.length + 1 : Nat) : Int) < s.2.2.1 then none else some (catE s.2.2.1.toNat (s.2.2.2 ++ [(ix, bs)]))) := by
  unfold addE
  rw [if_pos hok, hl]
/-- What a frame does, by the kind and node that it bears. -/
theorem add_get (x : ES) (kd nd nc ix ct : Int) (bs : List Int) : getE (addE x kd nd nc ix ct bs).1 (kd, nd) = (addK (getE x (kd, nd)) nc ix ct bs).1 ∧ (addE x kd nd nc ix ct bs).2 = (addK (getE x (kd, nd)) nc ix ct bs).2 ∧ ∀ y, y ≠ (kd, nd) → getE (addE x kd nd nc ix ct bs).1 y = getE x y := by
  by_cases hok : okArg ix ct = true
  · obtain ⟨j, hl, hy⟩ := step_get x (kd, nd) nc ct
    rw [addE_at hok hl]
    unfold addK
    rw [if_pos hok]
    generalize stepK (getE x (kd, nd)) nc ct = s at hl ⊢
    have hr : refuse ((kd, nd), s) nc ix ct = refK s nc ix ct := rfl
    rw [hr]
    by_cases hf : refK s nc ix ct = true
    · rw [if_pos hf, if_pos hf]
      refine ⟨?_, rfl, hy⟩
      unfold getE
      rw [hl]; rfl
    · rw [if_neg hf, if_neg hf]
      obtain ⟨hj, _⟩ := lookIn_at hl
      refine ⟨?_, rfl, fun y hy' => ?_⟩
      · have := lookIn_set (key := Prod.fst) (x := (kd, nd)) (((kd, nd), s.1, s.2.1, s.2.2 ++ [(ix, bs)]) : ESlot) rfl (l := step1E (kd, nd) nc ct x) (i := 0) (j := j) (a := _) (by rw [Nat.zero_add]; exact hl)
        rw [Nat.zero_add] at this
        show Option.map _ (lookIn Prod.fst (kd, nd) 0 ((step1E (kd, nd) nc ct x).set j ((kd, nd), s.1, s.2.1, s.2.2 ++ [(ix, bs)]))) = _
        rw [this]; rfl
      · have := lookIn_other (key := Prod.fst) hy' (((kd, nd), s.1, s.2.1, s.2.2 ++ [(ix, bs)]) : ESlot) rfl (step1E (kd, nd) nc ct x) 0 j _ hj rfl
        rw [← hy y hy', getE_snd, getE_snd]
        show Option.map _ (Option.map _ (lookIn Prod.fst y 0 ((step1E (kd, nd) nc ct x).set j ((kd, nd), s.1, s.2.1, s.2.2 ++ [(ix, bs)])))) = _
        rw [this]; rfl
  · unfold addE addK
    rw [if_neg hok, if_neg hok]
    exact ⟨rfl, rfl, fun _ _ => rfl⟩
theorem accept_get (x : ES) (kd nd nc ix ct : Int) : acceptE x kd nd nc ix ct = (okArg ix ct && !refK (stepK (getE x (kd, nd)) nc ct) nc ix ct) := by
  unfold acceptE
  obtain ⟨j, hl, _⟩ := step_get x (kd, nd) nc ct
  rw [hl]; rfl
def missK (o : Option KS) : Int := match o with | none => -1 | some s => s.2.1 - s.2.2.length
theorem miss_get (σ : List GS) (k : Int × Int) : missOf σ k = missK (getE (er σ) k) := by
  unfold missOf getE
  rw [lookE_er]
  cases lookS k σ with
  | none => rfl
  | some q => simp [missK, er1]

/-! ### What an inbox's rows keep -/
def SlotOk (s : ESlot) : Prop := 1 ≤ s.2.2.1 ∧ s.2.2.1 ≤ 86 ∧ (s.2.2.2.map Prod.fst).Nodup ∧ ∀ p ∈ s.2.2.2, 0 ≤ p.1 ∧ p.1 < s.2.2.1 ∧ p.2.length ≤ 1048576
def WfE (x : ES) : Prop := ∀ s ∈ x, SlotOk s
theorem nodup_le : ∀ (n : Nat) (l : List Int), l.Nodup → (∀ x ∈ l, 0 ≤ x ∧ x < n) → l.length ≤ n
  | 0, l, _, h => by
    cases l with
    | nil => simp
    | cons x l => have := h x List.mem_cons_self; omega
  | n + 1, l, hn, h => by
    have h1 := nodup_le n (l.erase (n : Int)) (hn.erase _) (fun x hx => by
      have h2 := (hn.mem_erase_iff).1 hx
      have h3 := h x h2.2
      have : x ≠ n := h2.1
      omega)
    by_cases hm : (n : Int) ∈ l
    · rw [List.length_erase_of_mem hm] at h1; omega
    · rw [List.erase_of_not_mem hm] at h1; omega
theorem slot_len {s : ESlot} (h : SlotOk s) : s.2.2.2.length ≤ 86 := by
  have := nodup_le s.2.2.1.toNat (s.2.2.2.map Prod.fst) h.2.2.1 (fun x hx => by
    obtain ⟨p, hp, rfl⟩ := List.mem_map.1 hx
    have h1 := h.2.2.2 p hp
    have h2 := h.1
    omega)
  rw [List.length_map] at this
  have h2 := h.2.1
  omega
theorem add_wf {x : ES} (h : WfE x) (kd nd nc ix ct : Int) {bs : List Int} (hb : acceptE x kd nd nc ix ct = true → bs.length ≤ 1048576) : WfE (addE x kd nd nc ix ct bs).1 := by
  by_cases hok : okArg ix ct = true
  · have hj : 1 ≤ ct ∧ ct ≤ 86 ∧ 0 ≤ ix ∧ ix < ct := by
      unfold okArg at hok
      simp only [Bool.and_eq_true, decide_eq_true_eq] at hok
      omega
    have h1 : WfE (step1E (kd, nd) nc ct x) := by
      have hnew : SlotOk ((kd, nd), nc, ct, []) := ⟨hj.1, hj.2.1, by simp, fun p hp => by cases hp⟩
      unfold step1E
      split
      · intro s hs
        rcases List.mem_append.1 hs with hs | hs
        · exact h s hs
        · rw [List.mem_singleton.1 hs]; exact hnew
      · split
        · intro s hs
          rcases List.mem_or_eq_of_mem_set hs with hs | rfl
          · exact h s hs
          · exact hnew
        · exact h
    unfold acceptE at hb
    cases hl : lookE (kd, nd) (step1E (kd, nd) nc ct x) with
    | none => unfold addE; rw [if_pos hok, hl]; exact h1
    | some q =>
      obtain ⟨j, s⟩ := q
      rw [hl, hok] at hb
      rw [addE_at hok hl]
      by_cases hf : refuse s nc ix ct = true
      · rw [if_pos hf]; exact h1
      · rw [if_neg hf]
        have hff : refuse s nc ix ct = false := by simpa using hf
        have hs := h1 s (List.mem_of_getElem? (lookIn_at hl).1)
        have hb' : bs.length ≤ 1048576 := hb (by show (true && !refuse s nc ix ct) = true; rw [hff]; rfl)
        unfold refuse at hff
        simp only [Bool.or_eq_false_iff, decide_eq_false_iff_not] at hff
        obtain ⟨⟨h2, h3⟩, h4⟩ := hff
        have h3' : ct = s.2.2.1 := Classical.not_not.1 h3
        have hnone : lookP ix s.2.2.2 = none := by cases hc : lookP ix s.2.2.2 with
          | none => rfl
          | some q => rw [hc] at h4; cases h4
        intro s' hs'
        rcases List.mem_or_eq_of_mem_set hs' with hs' | rfl
        · exact h1 s' hs'
        · refine ⟨hs.1, hs.2.1, ?_, ?_⟩
          · rw [List.map_append, List.map_singleton]
            refine List.nodup_append.2 ⟨hs.2.2.1, by simp, fun a ha b hb => ?_⟩
            obtain ⟨p, hp, rfl⟩ := List.mem_map.1 ha
            rw [List.mem_singleton.1 hb]
            exact lookIn_none hnone p hp
          · intro p hp
            rcases List.mem_append.1 hp with hp | hp
            · exact hs.2.2.2 p hp
            · rw [List.mem_singleton.1 hp]
              exact ⟨hj.2.2.1, by show ix < s.2.2.1; omega, hb'⟩
  · unfold addE; rw [if_neg hok]; exact h

end Go.Proofs.Ytaojnbhnogndnaa.SL
