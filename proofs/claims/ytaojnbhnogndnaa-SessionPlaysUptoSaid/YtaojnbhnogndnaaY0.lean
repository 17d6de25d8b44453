/- Words that the session's and the wire's texts share: rows of numbers that are read, a literal row of bytes, a guarded call of a drawn region. -/
import Derived.Test.YtaojnbhnogndnaaX3
import Derived.Test.YtaojnbhnogndnaaX1s
namespace Go.Proofs.Ytaojnbhnogndnaa.SL
open Go.RowKit Go.Proofs.YtaojnbhnogndnaaW.PrintWords Go.Proofs.YtaojnbhnogndnaaW.PrintLast Go.Proofs.YtaojnbhnogndnaaW.PrintMore
attribute [local go_sem] max2_int min2_int max_two min_two
attribute [local go_sem high] Small.cell_set_same
set_option linter.unusedVariables false
set_option linter.unusedSimpArgs false

section
variable {P : Program} {ops : Array Oper} {Q : Exit → Act → World → Prop}
theorem goesG {rest : List Oper} {oi : Oper} {a : Act} {w : World} (N : Option Tmp) (hd : oi.dst = N) (hw : Region.wanted oi (yielded ops a.tmps) = true) {f : FuncId} {fn : Func} {os : Array Operand} {ts : Array TypeId} (hf : P.funcs[f]? = some fn) (hname : (fn.name == "runtime.NumGoroutine") = false) (hb : fn.body.isSome = true) (args : Array Value)
    (hop : oi.op = .call { callee := .value (.func f), args := os, argTypes := ts }) (hargs : os.map a.eval = args)
    (h : Calls P f args w fun e w' => ∃ v, e = .returned v ∧ wpList P ops Q rest (a.put N v) w') : wpList P ops Q (oi :: rest) a w := by
  refine wpList_step fun K hK => ?_
  rw [if_pos hw]
  have he := enters_ hf hname hb args w
  have hrun : (execOp a.eval oi).run P w = .ok (.enter f args) w := by
    unfold execOp
    simp [hop, resolve, Deferred.ofValue, invoke, Act.eval, hargs, he]
  unfold Oper.wp
  rw [hrun, Oper.upon_enter]
  refine h.mono fun e w'' hh => ?_
  obtain ⟨v, rfl, hk⟩ := hh
  subst hd
  exact hK _ _ hk
end
theorem C_blk {w : World} {g e : Nat} {k : IntKind} {fr : Nat × Nat} {xs : List Int} (h : w.heap[g]? = some (.cells (xs.map fun x => Value.int k x).toArray e fr)) (hm : xs.length ≤ 9223372036854775807) : (Kd.int k).C w (some ⟨g, 0, none⟩) xs.length xs := by
  refine ⟨rfl, hm, fun _ => ⟨_, rfl, fun j x hj => ⟨[.int k x], rfl, rfl, fun i v hi => ?_⟩⟩⟩
  match i, hi with
  | 0, hi =>
    injection hi with hi
    subst hi
    have h4 : (Kd.int k).sz = 1 := rfl
    rw [h4, Nat.mul_one, Nat.add_zero]
    have h5 : (⟨g, 0, none⟩ : Addr).add j = ⟨g, j, none⟩ := by unfold Addr.add; split <;> simp_all
    rw [h5]
    simp [World.cell?, h, hj]
section
variable {P : Program} {ops : Array Oper} {rest : List Oper} {o : Oper} {a : Act} {Q : Exit → Act → World → Prop}
/-- A literal []byte(".."): the row, then a conversion to its own type, which marks the place behind the last cell. -/
theorem mark_ev {w0 W : World} {L : List Asrt} (hgd : o.guard = none) {N : Tmp} (_hd : o.dst = some N) (t e : TypeId) (x : Operand) (ho : o.op = .convert t t x) (ht : P.underlying t = some (.slice e)) (he : P.underlying e = some (.int .u8)) {g n c : Nat} {cs : Array Value} (hx : a.eval x = .slice (some ⟨g, 0, none⟩) n c)
    (HS : Sat w0 W (blk g (.cells cs e (0, 0)) :: L)) (h : ∀ w', Sat w0 w' (blk g (.cells cs e (cs.size, cs.size + 1)) :: L) → wpList P ops Q rest (a.put o.dst (.slice (some ⟨g, 0, none⟩) n c)) w') : wpList P ops Q (o :: rest) a W := by
  have hb := (HS.block 0 rfl).1
  have hsh : W.shape? g = some (e, cs.size) := by unfold World.shape?; rw [hb]
  have hr : (execOp a.eval o).run P W = .ok (.value (.slice (some ⟨g, 0, none⟩) n c)) (W.freeze ⟨g, cs.size, none⟩ 1) := by
    simp [execOp, ho, hx, convert, run_underlying ht, run_underlying he, markStringish, hsh]
  refine Kd.event_run hgd hr (h _ (HS.write fun S hP hS => ⟨S, fun k hk => .inl hk, ⟨rfl, rfl, rfl, ?_, fun k _ hk => ?_⟩, ?_, hP.2⟩))
  · simp [World.freeze]
  · have hne : g ≠ k := fun he => hk ((hP.2 k).2 he.symm)
    simp [World.freeze, Array.getElem?_modify, hne]
  · simp [World.freeze, Array.getElem?_modify, hb]
end
theorem num_at {w : World} {k : IntKind} {A : Option Addr} {n : Nat} {xs : List Int} (hr : (Kd.int k).C w A n xs) (i : Nat) (hi : i < n) : ∃ ad, A = some ad ∧ w.cell? (ad.add i) = some (.int k (xs.getD i 0)) := by
  obtain ⟨ad, c, e, _, hK, hc⟩ := Kd.C_get hr 0 (i : Int) (by omega) (by omega)
  simp only [Int.toNat_natCast] at hK hc
  have hK' : c = [.int k (xs.getD i 0)] := hK
  subst hK'
  refine ⟨ad, e, ?_⟩
  have := hc 0 _ rfl
  have h1 : (Kd.int k).sz = 1 := rfl
  rw [h1, Nat.mul_one, Nat.add_zero] at this
  exact this

theorem spotless {w : World} {a : Addr} {v : Value} (h : w.cell? a = some v) : a = ⟨a.block, a.off, none⟩ := by
  obtain ⟨b, o, s⟩ := a
  cases s with
  | none => rfl
  | some s => unfold World.cell? at h; simp at h; split at h <;> simp_all
theorem addr_add (b o i : Nat) : (⟨b, o, none⟩ : Addr).add i = ⟨b, o + i, none⟩ := by unfold Addr.add; split <;> simp_all
/-- A row of numbers that is read: its cells, the address in parts. -/
theorem int_row {w : World} {k : IntKind} {A : Option Addr} {n : Nat} {xs : List Int} (hr : (Kd.int k).C w A n xs) (hn : 0 < n) : ∃ b o, A = some ⟨b, o, none⟩ ∧ ∀ i, i < n → w.cell? ⟨b, o + i, none⟩ = some (.int k (xs.getD i 0)) := by
  obtain ⟨ad, rfl, h0⟩ := num_at hr 0 hn
  have e0 : ad.add 0 = ad := by unfold Addr.add; split <;> simp_all
  rw [e0] at h0
  have e1 := spotless h0
  refine ⟨ad.block, ad.off, by rw [← e1], fun i hi => ?_⟩
  obtain ⟨ad', e2, h1⟩ := num_at hr i hi
  obtain rfl := Option.some.inj e2
  rw [e1, addr_add] at h1
  exact h1
theorem getD_in {xs : List Int} (h : ∀ x ∈ xs, 0 ≤ x ∧ x < 256) (i : Nat) : 0 ≤ xs.getD i 0 ∧ xs.getD i 0 < 256 := by
  rw [List.getD_eq_getElem?_getD]
  cases hi : xs[i]? with
  | none => exact ⟨Int.le_refl _, by decide⟩
  | some x => exact h x (List.mem_of_getElem? hi)
theorem getD_map {α β : Type} (f : α → β) (xs : List α) (i : Nat) (z : α) : (xs.map f).getD i (f z) = f (xs.getD i z) := by
  simp only [List.getD_eq_getElem?_getD, List.getElem?_map]
  cases xs[i]? <;> rfl
theorem take_snoc {α : Type} {xs : List α} (z : α) {i : Nat} (hi : i < xs.length) : xs.take (i + 1) = xs.take i ++ [xs.getD i z] := by
  rw [List.take_succ_eq_append_getElem hi, List.getD_eq_getElem?_getD, List.getElem?_eq_getElem hi]; rfl
/-- What a callee makes stands beside what the caller has. -/
theorem Sat.frame {w0 w w' : World} {L M : List Asrt} (h : Sat w0 w L) (h2 : Sat w w' M) : Sat w0 w' (M ++ L) := by
  have hk := h.keep h2.below
  have key : ∀ (M : List Asrt) (V : Nat → Prop), (∀ k, V k → w.heap.size ≤ k) → SatF w.heap.size w' M V → SatF w0.heap.size w' (M ++ L) V := by
    intro M
    induction M with
    | nil =>
      intro V hV _
      have h4 : ∀ (l : List Asrt) (V1 V2 : Nat → Prop), SatF w0.heap.size w l V1 → (∀ k, k < w.heap.size → V2 k → V1 k) → SatF w0.heap.size w' l V2 := by
        intro l
        induction l with
        | nil => intros; trivial
        | cons c l ih =>
          intro V1 V2 hw hd
          obtain ⟨S1, p1, s1, r1⟩ := hw
          exact ⟨S1, c.loc p1 (fun k hk => h2.below.block k (c.bd p1 k hk)), fun k hk => ⟨(s1 k hk).1, fun hv => (s1 k hk).2 (hd k (c.bd p1 k hk) hv)⟩,
            ih _ _ r1 (fun k hk hv => hv.imp (hd k hk) id)⟩
      exact h4 L _ V h.sat (fun k hk hv => absurd (hV k hv) (by omega))
    | cons c M ih =>
      intro V hV hs
      obtain ⟨S1, p1, s1, r1⟩ := hs
      refine ⟨S1, p1, fun k hk => ⟨Nat.le_trans h.below.size (s1 k hk).1, (s1 k hk).2⟩, ih _ ?_ r1⟩
      rintro k (hv | hs)
      · exact hV k hv
      · exact (s1 k hs).1
  exact ⟨hk.below, key M _ (fun _ hf => hf.elim) h2.sat⟩
theorem Sat.emptyRow0 {α : Type} (d : Kd α) {g e : Nat} {w0 w : World} {L : List Asrt} (h : Sat w0 w (blk g (.cells #[] e (0, 0)) :: L)) : Sat w0 w (row d e (.slice (some ⟨g, 0, none⟩) 0 0) [] :: L) := by
  refine h.write (fun S hP _ => ⟨S, fun k hk => .inl hk, Touch.refl _ _, ⟨fun k hk => ?_, [], ⟨by simp, .inr ⟨g, 0, #[], rfl, Nat.zero_le _, hP.1, Nat.le_refl _, by decide, by simp, by simp⟩⟩, ?_⟩, fun k hk => by obtain rfl := (hP.2 k).1 hk; exact (Array.getElem?_eq_some_iff.1 hP.1).1⟩)
  · have hgk : g = k := by simpa [Value.ownBlock] using hk
    exact (hP.2 k).2 hgk.symm
  · exact ⟨by simp, fun j p hj => by simp at hj⟩
section
variable {P : Program} {ops : Array Oper} {Q : Exit → Act → World → Prop}
/-- A guarded operation that is not wanted. -/
theorem offG {rest : List Oper} {oi : Oper} {a : Act} {w : World} (hw : Region.wanted oi (yielded ops a.tmps) = false) (h : wpList P ops Q rest (a.put oi.dst undef) w) : wpList P ops Q (oi :: rest) a w := by
  refine wpList_step fun K hK => ?_
  rw [if_neg (by rw [hw]; exact Bool.false_ne_true)]
  exact hK _ _ h
theorem st_hoff {S : World → Prop} {i : Nat} {p : Plan} {a a' : Act} {w : World} {oi : Oper} (hS : S w) (hi : ops[i]? = some oi) (hw : Region.wanted oi (yielded ops a.tmps) = false) (ha : a.put oi.dst undef = a') (h : p.seq P ops Q S a' w)
    (hQ : ∀ c a w, Q (.panic c) (a.put oi.dst undef) w → Q (.panic c) a w := by exact fun _ _ _ h => h) : (Plan.held i p).seq P ops Q S a w := by
  subst ha
  exact ⟨hS, oi, undef, hi, hQ, .inr ⟨hw, rfl⟩, h⟩
/-- An operation that yields a value, guarded or not. -/
theorem valG {rest : List Oper} {oi : Oper} {a : Act} {w w' : World} {v : Value} (hw : Region.wanted oi (yielded ops a.tmps) = true) (hrun : (execOp a.eval oi).run P w = .ok (.value v) w') (h : wpList P ops Q rest (a.put oi.dst v) w') : wpList P ops Q (oi :: rest) a w := by
  refine wpList_step fun K hK => ?_
  rw [if_pos hw]
  unfold Oper.wp
  rw [hrun]
  exact hK _ _ h
end
theorem bs_loop (bs : ByteArray) : ∀ (m i : Nat) (r : List UInt8), i + m = bs.size → ByteArray.toList.loop bs i r = r.reverse ++ bs.data.toList.drop i := by
  intro m
  induction m with
  | zero =>
    intro i r h
    have hs : bs.data.toList.length = bs.size := by rw [Array.length_toList]; rfl
    rw [ByteArray.toList.loop, if_neg (by omega), List.drop_eq_nil_of_le (by omega), List.append_nil]
  | succ m ih =>
    intro i r h
    have hi : i < bs.data.toList.length := by rw [Array.length_toList]; have : bs.data.size = bs.size := rfl; omega
    rw [ByteArray.toList.loop, if_pos (by omega), ih (i + 1) _ (by omega), List.drop_eq_getElem_cons hi, List.reverse_cons, List.append_assoc]
    congr 2
    have : bs.get! i = bs.data.toList[i] := by
      unfold ByteArray.get!
      simp at hi
      simp [hi]
    rw [this]; rfl
theorem bs_toList (bs : ByteArray) : bs.toList = bs.data.toList := by
  unfold ByteArray.toList
  rw [bs_loop bs bs.size 0 [] (by omega)]; simp
/-- Two strings of bytes are the same exactly if the bytes are. -/
theorem str_inj {xs ys : List Int} (hx : ∀ x ∈ xs, 0 ≤ x ∧ x < 256) (hy : ∀ x ∈ ys, 0 ≤ x ∧ x < 256) (h : (strOfNums xs).toList = (strOfNums ys).toList) : xs = ys := by
  rw [bs_toList, bs_toList] at h
  unfold strOfNums at h
  simp only [] at h
  revert ys
  induction xs with
  | nil =>
    intro ys _ h
    cases ys with
    | nil => rfl
    | cons y ys => simp at h
  | cons x xs ih =>
    intro ys hy h
    cases ys with
    | nil => simp at h
    | cons y ys =>
      simp only [List.map_cons, List.cons.injEq] at h
      obtain ⟨h1, h2⟩ := h
      have hx0 := hx x List.mem_cons_self
      have hy0 := hy y List.mem_cons_self
      have h3 := congrArg UInt8.toNat h1
      simp only [UInt8.toNat_ofNat'] at h3
      have : x = y := by omega
      subst this
      rw [ih (fun z hz => hx z (List.mem_cons_of_mem _ hz)) (fun z hz => hy z (List.mem_cons_of_mem _ hz)) h2]
theorem str_beq {xs ys : List Int} (hx : ∀ x ∈ xs, 0 ≤ x ∧ x < 256) (hy : ∀ x ∈ ys, 0 ≤ x ∧ x < 256) : ((strOfNums xs).toList == (strOfNums ys).toList) = decide (xs = ys) := by
  by_cases h : xs = ys
  · subst h; simp
  · rw [decide_eq_false h, beq_eq_false_iff_ne]
    exact fun he => h (str_inj hx hy he)
/-- Facts that hold by these blocks alone. -/
def pool (fs : List (World → Prop)) : Asrt where
  P w S := (∀ k, S k → k < w.heap.size) ∧ ∀ f ∈ fs, ∀ w', (∀ k, S k → w'.heap[k]? = w.heap[k]?) → f w'
  loc {w w'} {S} h hm := by
    refine ⟨fun k hk => ?_, fun f hf w2 h2 => h.2 f hf w2 (fun k hk => (h2 k hk).trans (hm k hk))⟩
    have h1 := hm k hk
    rw [Array.getElem?_eq_getElem (h.1 k hk)] at h1
    exact (Array.getElem?_eq_some_iff.1 h1).1
  bd h k hk := h.1 k hk
section
variable {w0 w w' : World} {l L : List Asrt}
theorem Sat.poolNew (h : Sat w0 w L) : Sat w0 w (pool [] :: L) := h.new (Below.refl _ _) (T := fun _ => False) (fun _ hf => hf.elim) ⟨fun _ hf => hf.elim, fun f hf => absurd hf (List.not_mem_nil)⟩
theorem Sat.poolGet (h : Sat w0 w l) (i : Nat) {fs : List (World → Prop)} (hi : l[i]? = some (pool fs)) {f : World → Prop} (hf : f ∈ fs) : f w := by
  obtain ⟨S, hp, _⟩ := h.get (List.mem_of_getElem? hi)
  exact hp.2 f hf w (fun _ _ => rfl)
theorem Sat.poolMap {fs gs : List (World → Prop)} (h : Sat w0 w (pool fs :: L)) (hd : ∀ w', (∀ f ∈ fs, f w') → ∀ f ∈ gs, f w') : Sat w0 w (pool gs :: L) :=
  h.write (fun S hP _ => ⟨S, fun k hk => .inl hk, Touch.refl _ _, hP.1, fun f hf w2 h2 => hd w2 (fun g hg => hP.2 g hg w2 h2) f hf⟩)
/-- A row of one's own goes into the pool. -/
theorem Sat.poolRow {α : Type} {d : Kd α} {e n c : Nat} {A : Option Addr} {xs : List α} {fs : List (World → Prop)} (h : Sat w0 w (row d e (.slice A n c) xs :: pool fs :: L)) : Sat w0 w (pool ((fun w => n = xs.length ∧ n ≤ c ∧ d.C w A xs.length xs) :: fs) :: L) := by
  refine h.join.write (fun S hP _ => ⟨S, fun k hk => .inl hk, Touch.refl _ _, ?_, ?_⟩)
  · obtain ⟨S1, S2, h1, h2, _, hs⟩ := hP
    intro k hk
    rcases (hs k).1 hk with hk | hk
    · exact h1.2 k hk
    · exact h2.1 k hk
  · obtain ⟨S1, S2, h1, h2, _, hs⟩ := hP
    intro f hf w2 hw
    rcases List.mem_cons.1 hf with rfl | hf
    · exact Kd.R_reads' (Kd.R_move h1.1 (fun k hk => hw k ((hs k).2 (.inl hk))))
    · exact h2.2 f hf w2 (fun k hk => hw k ((hs k).2 (.inr hk)))
/-- Nothing. -/
def emp : Asrt where
  P _ S := ∀ k, ¬ S k
  loc h _ := h
  bd h k hk := absurd hk (h k)
theorem Sat.emp (h : Sat w0 w L) : Sat w0 w (emp :: L) := h.new (Below.refl _ _) (T := fun _ => False) (fun _ hf => hf.elim) (fun _ hf => hf)
end
end Go.Proofs.Ytaojnbhnogndnaa.SL
