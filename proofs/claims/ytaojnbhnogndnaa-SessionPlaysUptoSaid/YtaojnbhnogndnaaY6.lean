/- Words for maps that a call owns: a map as a row of keys and values, in the order in which they came; how it is asked, written, counted. -/
import Derived.Test.YtaojnbhnogndnaaY0
import Derived.Test.YtaojnbhnogndnaaWEqStruct
import Derived.MapKept
namespace Go.Proofs.Ytaojnbhnogndnaa.SL
open Go.RowKit Go.Proofs.YtaojnbhnogndnaaW.PrintWords Go.Proofs.YtaojnbhnogndnaaW.PrintLast Go.Proofs.YtaojnbhnogndnaaW.PrintMore
set_option linter.unusedVariables false
set_option linter.unusedSimpArgs false

/-- The first entry at the key x: its place (counted from i on) and its value. -/
def lookFrom {κ : Type} [DecidableEq κ] (x : κ) : Nat → List (κ × Value) → Option (Nat × Value)
  | _, [] => none
  | i, (k, v) :: l => if x = k then some (i, v) else lookFrom x (i + 1) l
/-- How keys of one type are asked for. -/
structure KeyEnc (P : Program) (k : TypeId) {κ : Type} [DecidableEq κ] (enc : κ → Value) : Prop where
  check : ∀ (w : World) (em : Bool) (x : κ), (Instr.checkKey em 10000 k (enc x)).run P w = .ok () w
  find : ∀ (w : World) (x : κ) (es : List MapEntry) (l : List (κ × Value)), es.map (fun e => (e.key, e.val)) = l.map (fun p => (enc p.1, p.2)) → (Instr.findKey k (enc x) es).run P w = .ok (lookFrom x 0 l) w
  stays : ∀ (w : World) (x : κ), (Instr.keyThatStays (enc x) (enc x)).run P w = .ok (enc x) w

theorem keyInt {P : Program} {k : TypeId} (hk : P.underlying k = some (.int .i64)) : KeyEnc P k (fun x : Int => Value.int .i64 x) where
  check w em x := MapKept.run_checkKey hk (by simp [MapKept.IsKey]) em 9999
  find w x es l h := by
    have key : ∀ (es : List MapEntry) (l : List (Int × Value)) (i : Nat), es.map (fun e => (e.key, e.val)) = l.map (fun p => (Value.int .i64 p.1, p.2)) → Instr.findNow (.int .i64) (.int .i64 x) es i = some (lookFrom x i l) := by
      intro es
      induction es with
      | nil => intro l i h; cases l with
        | nil => rfl
        | cons p l => simp at h
      | cons e es ih =>
        intro l i h
        cases l with
        | nil => simp at h
        | cons p l =>
          simp only [List.map_cons, List.cons.injEq, Prod.mk.injEq] at h
          obtain ⟨⟨h1, h2⟩, h3⟩ := h
          unfold Instr.findNow lookFrom
          rw [h1]
          simp only [Instr.sameNow, if_true]
          by_cases hx : x = p.1
          · rw [if_pos hx, hx]; simp [h2]
          · rw [if_neg hx]
            have : (x == p.1) = false := by simpa using hx
            rw [this]
            exact ih l (i + 1) h3
    unfold Instr.findKey
    simp [run_underlying hk, key es l 0 h, Result.andThen]
  stays w x := by simp [Instr.keyThatStays, Instr.sameBits]

theorem eq86 (w : World) (a b c d : Int) : (Op.equal 86 (.agg #[.int .i64 a, .int .i64 b]) (.agg #[.int .i64 c, .int .i64 d])).run Try.prog w = .ok (a == c && b == d) w := by
  unfold Op.equal
  refine eqA_of (d := 9999) Try.underlying86 (by kernel_rfl) ?_
  refine eqf_cons (a := .int .i64 a) (b := .int .i64 c) (r := (a == c)) (by rfl) (by kernel_rfl) (by kernel_rfl) (run_equalIn_int (P := Try.prog) w 9998 3 .i64 .i64 a c Try.underlying3) ?_
  exact eqf_last (a := .int .i64 b) (b := .int .i64 d) (by rfl) (by kernel_rfl) (by kernel_rfl) (run_equalIn_int (P := Try.prog) w 9998 3 .i64 .i64 b d Try.underlying3)
theorem chk86 (w : World) (em : Bool) (a b : Int) : (Instr.checkKey em 10000 86 (.agg #[.int .i64 a, .int .i64 b])).run Try.prog w = .ok () w := by kernel_rfl
def encF (x : Int × Int) : Value := .agg #[.int .i64 x.1, .int .i64 x.2]
theorem key86 : KeyEnc Try.prog 86 encF where
  check w em x := chk86 w em x.1 x.2
  find w x es l h := by
    have key : ∀ (es : List MapEntry) (l : List ((Int × Int) × Value)) (i : Nat), es.map (fun e => (e.key, e.val)) = l.map (fun p => (encF p.1, p.2)) → (Instr.findAsking 86 (encF x) es i).run Try.prog w = .ok (lookFrom x i l) w := by
      intro es
      induction es with
      | nil => intro l i h; cases l with
        | nil => simp [Instr.findAsking, lookFrom]
        | cons p l => simp at h
      | cons e es ih =>
        intro l i h
        cases l with
        | nil => simp at h
        | cons p l =>
          simp only [List.map_cons, List.cons.injEq, Prod.mk.injEq] at h
          obtain ⟨⟨h1, h2⟩, h3⟩ := h
          unfold Instr.findAsking lookFrom
          rw [h1]
          have he := eq86 w x.1 x.2 p.1.1 p.1.2
          unfold encF
          simp only [Sem.run_bind, he, Result.andThen_ok]
          by_cases hx : x = p.1
          · rw [if_pos hx, hx]; simp [h2]
          · rw [if_neg hx]
            have : (x.1 == p.1.1 && x.2 == p.1.2) = false := by
              cases hb : (x.1 == p.1.1 && x.2 == p.1.2)
              · rfl
              · simp only [Bool.and_eq_true, beq_iff_eq] at hb
                exact absurd (Prod.ext hb.1 hb.2) hx
            rw [this]
            exact ih l (i + 1) h3
    unfold Instr.findKey
    cases es with
    | nil =>
      cases l with
      | nil => simp [run_underlying Try.underlying86, Instr.findNow, lookFrom, Result.andThen]
      | cons p l => simp at h
    | cons e es =>
      have hn : Instr.findNow (.struct #[{ name := "kind", type := 3, offset := 0, embedded := false, tag := "", pkgPath := "majordomo/session", byteOffset := 0 }, { name := "node", type := 3, offset := 1, embedded := false, tag := "", pkgPath := "majordomo/session", byteOffset := 8 }]) (encF x) (e :: es) 0 = none := by
        unfold Instr.findNow; rfl
      simp only [Sem.run_bind, run_underlying Try.underlying86, Result.andThen_ok, hn]
      exact key _ _ 0 h
  stays w x := by
    have h : ∀ a b : Int, (Instr.keyThatStays (.agg #[.int .i64 a, .int .i64 b]) (.agg #[.int .i64 a, .int .i64 b])).run Try.prog w = .ok (.agg #[.int .i64 a, .int .i64 b]) w := by
      intro a b
      simp [Instr.keyThatStays, Instr.sameBits]
    exact h x.1 x.2

section
variable {κ : Type} {enc : κ → Value} {P : Program} {k t e : TypeId} {w0 w : World} {L : List Asrt} {b : Nat} {l : List (κ × Value)}
/-- A map at block b: its keys and values in the order in which they came. -/
def mapA (enc : κ → Value) (b : Nat) (l : List (κ × Value)) : Asrt where
  P w S := (∃ es clock, w.heap[b]? = some (.map es clock) ∧ es.toList.map (fun e => (e.key, e.val)) = l.map (fun p => (enc p.1, p.2)) ∧ (∀ e ∈ es.toList, e.born < clock) ∧ (es.toList.map (·.born)).Nodup) ∧ ∀ k, S k ↔ k = b
  loc {w w'} {S} h hm := by
    obtain ⟨⟨es, clock, h1, h2⟩, h3⟩ := h
    exact ⟨⟨es, clock, (hm b ((h3 b).2 rfl)).trans h1, h2⟩, h3⟩
  bd h k hk := by
    obtain ⟨⟨es, clock, h1, h2⟩, h3⟩ := h
    obtain rfl := (h3 k).1 hk
    exact (Array.getElem?_eq_some_iff.1 h1).1
theorem Sat.mapAt (h : Sat w0 w L) (i : Nat) (hi : L[i]? = some (mapA enc b l)) : ∃ es clock, w.heap[b]? = some (.map es clock) ∧ es.toList.map (fun e => (e.key, e.val)) = l.map (fun p => (enc p.1, p.2)) ∧ (∀ e ∈ es.toList, e.born < clock) ∧ (es.toList.map (·.born)).Nodup := by
  obtain ⟨S, hp, _⟩ := h.get (List.mem_of_getElem? hi)
  exact hp.1
theorem Sat.mapLen (ht : P.underlying t = some (.map k e)) (h : Sat w0 w L) (i : Nat) (hi : L[i]? = some (mapA enc b l)) (ty : TypeId) : (Builtin.len_ #[t] ty #[.map (some b)]).run P w = .ok (.int .i64 l.length) w := by
  obtain ⟨es, clock, hb, he, _⟩ := h.mapAt i hi
  have hl : es.size = l.length := by
    have := congrArg List.length he
    simpa using this
  simp [Builtin.len_, run_underlying ht, MapKept.run_getObj_map hb, Result.andThen, goInt, hl]
/-- An empty map, made by the call. -/
theorem Sat.newMap {w' : World} (h : Sat w0 w L) (hb : b = w.heap.size) (hbox : w'.heap[b]? = some (.map #[] 0)) (hbw : Below w.heap.size w w') : Sat w0 w' (mapA enc b [] :: L) :=
  h.new hbw (T := fun k => k = b) (fun k hk => by omega) ⟨⟨#[], 0, hbox, rfl, (fun e he => by simp at he), List.nodup_nil⟩, fun _ => Iff.rfl⟩
end
section
variable {κ : Type} [DecidableEq κ] {enc : κ → Value} {P : Program} {k t e : TypeId} {z : Value} {w0 w : World} {L : List Asrt} {b : Nat} {l : List (κ × Value)}
theorem lookFrom_some : ∀ {l : List (κ × Value)} {x : κ} {i j : Nat} {v : Value}, lookFrom x i l = some (j, v) → ∃ m, j = i + m ∧ l[m]? = some (x, v)
  | (k, u) :: l, x, i, j, v, h => by
    unfold lookFrom at h
    split at h
    · rename_i hx
      obtain ⟨rfl, rfl⟩ := Prod.mk.inj (Option.some.inj h)
      exact ⟨0, rfl, by rw [hx]; rfl⟩
    · obtain ⟨m, h1, h2⟩ := lookFrom_some h
      exact ⟨m + 1, by omega, by simpa using h2⟩
theorem lookFrom_none : ∀ {l : List (κ × Value)} {x : κ} {i : Nat}, lookFrom x i l = none → ∀ p ∈ l, p.1 ≠ x
  | [], _, _, _ => fun p hp => by cases hp
  | (k, u) :: l, x, i, h => by
    unfold lookFrom at h
    split at h
    · cases h
    · rename_i hx
      intro p hp
      rcases List.mem_cons.1 hp with rfl | hp
      · exact fun he => hx he.symm
      · exact lookFrom_none h p hp
theorem Sat.look_some (K : KeyEnc P k enc) (ht : P.underlying t = some (.map k e)) (h : Sat w0 w L) (i : Nat) (hi : L[i]? = some (mapA enc b l)) (x : κ) {j : Nat} {v : Value} (hl : lookFrom x 0 l = some (j, v)) (c : Bool) :
    (Instr.lookup t (.map (some b)) (enc x) c).run P w = .ok (if c then .tuple #[v, .bool true] else v) w := by
  obtain ⟨es, clock, hb, he, _⟩ := h.mapAt i hi
  have h1 := K.find w x es.toList l he
  rw [hl] at h1
  simp [Instr.lookup, run_underlying ht, MapKept.run_getObj_map hb, K.check w _ x, h1, Result.andThen]
theorem Sat.look_none (K : KeyEnc P k enc) (ht : P.underlying t = some (.map k e)) (hz : ∀ w, (zeroValue e).run P w = .ok z w) (h : Sat w0 w L) (i : Nat) (hi : L[i]? = some (mapA enc b l)) (x : κ) (hl : lookFrom x 0 l = none) (c : Bool) :
    (Instr.lookup t (.map (some b)) (enc x) c).run P w = .ok (if c then .tuple #[z, .bool false] else z) w := by
  obtain ⟨es, clock, hb, he, _⟩ := h.mapAt i hi
  have h1 := K.find w x es.toList l he
  rw [hl] at h1
  simp [Instr.lookup, run_underlying ht, MapKept.run_getObj_map hb, K.check w _ x, h1, hz w, Result.andThen]
/-- A value laid in at the key x. -/
def putAt (x : κ) (v : Value) (l : List (κ × Value)) : List (κ × Value) :=
  match lookFrom x 0 l with
  | some (j, _) => l.set j (x, v)
  | none => l ++ [(x, v)]
theorem Sat.update (K : KeyEnc P k enc) (ht : P.underlying t = some (.map k e)) (h : Sat w0 w (mapA enc b l :: L)) (x : κ) (v : Value) :
    ∃ w', (Instr.mapUpdate t (.map (some b)) (enc x) v).run P w = .ok () w' ∧ Sat w0 w' (mapA enc b (putAt x v l) :: L) := by
  obtain ⟨es, clock, hb, he, hc, hn⟩ := h.mapAt 0 rfl
  have h1 := K.find w x es.toList l he
  have hbl : b < w.heap.size := (Array.getElem?_eq_some_iff.1 hb).1
  have stay : ∀ o : Obj, Touch (fun k => k = b) w { w with heap := w.heap.setIfInBounds b o } := fun o => ⟨rfl, rfl, rfl, by simp, fun j _ hj => by
    show (w.heap.setIfInBounds b o)[j]? = _
    rw [Array.getElem?_setIfInBounds, if_neg (fun e => hj e.symm)]⟩
  have self : ∀ o : Obj, (w.heap.setIfInBounds b o)[b]? = some o := fun o => by rw [Array.getElem?_setIfInBounds, if_pos rfl, if_pos hbl]
  cases hl : lookFrom x 0 l with
  | none =>
    rw [hl] at h1
    refine ⟨{ w with heap := w.heap.setIfInBounds b (.map (es.push ⟨enc x, v, clock⟩) (clock + 1)) }, by simp [Instr.mapUpdate, run_underlying ht, MapKept.run_getObj_map hb, K.check w _ x, h1, MapKept.run_setObj_map _ hb, Result.andThen], ?_⟩
    refine h.write (fun S hP _ => ⟨S, fun k hk => .inl hk, (stay _).mono (fun k _ hk => (hP.2 k).2 hk), ⟨_, _, self _, ?_, ?_, ?_⟩, hP.2⟩)
    · unfold putAt
      rw [hl]
      simp [he]
    · intro e' he'
      simp only [Array.toList_push, List.mem_append, List.mem_singleton] at he'
      rcases he' with he' | rfl
      · have := hc e' he'; omega
      · exact Nat.lt_succ_self _
    · simp only [Array.toList_push, List.map_append, List.map_cons, List.map_nil]
      refine List.nodup_append.2 ⟨hn, by simp, ?_⟩
      intro a ha b' hb'
      obtain ⟨e', he', rfl⟩ := List.mem_map.1 ha
      have := hc e' he'
      simp only [List.mem_singleton] at hb'
      omega
  | some q =>
    obtain ⟨j, v0⟩ := q
    rw [hl] at h1
    obtain ⟨m, hm, hlm⟩ := lookFrom_some hl
    rw [Nat.zero_add] at hm
    subst hm
    have hj : ∃ e0, es.toList[j]? = some e0 ∧ e0.key = enc x := by
      have h2 := congrArg (fun q => q[j]?) he
      simp only [List.getElem?_map, hlm, Option.map_some] at h2
      cases h3 : es.toList[j]? with
      | none => rw [h3] at h2; simp at h2
      | some e0 =>
        rw [h3] at h2
        simp only [Option.map_some, Option.some.injEq, Prod.mk.injEq] at h2
        exact ⟨e0, rfl, h2.1⟩
    obtain ⟨e0, hj0, hk0⟩ := hj
    have hj1 : es[j]? = some e0 := by simpa using hj0
    refine ⟨{ w with heap := w.heap.setIfInBounds b (.map (es.modify j fun e' => { e' with key := enc x, val := v }) clock) }, by simp [Instr.mapUpdate, run_underlying ht, MapKept.run_getObj_map hb, K.check w _ x, h1, hj1, hk0, K.stays w x, MapKept.run_setObj_map _ hb, Result.andThen], ?_⟩
    have hlist : (es.modify j (fun e' => { e' with key := enc x, val := v })).toList = es.toList.set j { e0 with key := enc x, val := v } := by rw [Array.toList_modify, ChangeMaps.modify_eq_set _ _ _ _ hj0]
    refine h.write (fun S hP _ => ⟨S, fun k hk => .inl hk, (stay _).mono (fun k _ hk => (hP.2 k).2 hk), ⟨_, _, self _, ?_, ?_, ?_⟩, hP.2⟩)
    · unfold putAt
      rw [hl, hlist, List.map_set, List.map_set, he]
    · intro e' he'
      rw [hlist] at he'
      rcases List.mem_or_eq_of_mem_set he' with he' | rfl
      · exact hc e' he'
      · exact hc e0 (List.mem_of_getElem? hj0)
    · rw [hlist, List.map_set]
      have : (es.toList.map (·.born)).set j e0.born = es.toList.map (·.born) := by
        apply List.ext_getElem?
        intro i
        rw [List.getElem?_set]
        split
        · rename_i hij
          subst hij
          rw [List.getElem?_map, hj0]
          have := (List.getElem?_eq_some_iff.1 hj0).1
          simp; omega
        · rfl
      show ((es.toList.map (·.born)).set j e0.born).Nodup
      rw [this]
      exact hn
end
section
variable {P : Program} {ops : Array Oper} {Q : Exit → Act → World → Prop} {rest : List Oper} {o : Oper} {a : Act}
theorem map_event {W : World} (hgd : o.guard = none) {N : Tmp} (hd : o.dst = some N) {t : TypeId} (ho : o.op = .makeMap t none)
    (h : ∀ b, b = W.heap.size → ∀ w1, w1.heap[b]? = some (.map #[] 0) → Below W.heap.size W w1 → wpList P ops Q rest (a.put o.dst (.map (some b))) w1) : wpList P ops Q (o :: rest) a W := by
  refine Kd.event_run hgd (v := .map (some W.heap.size)) (w1 := W.alloc (.map #[] 0)) ?_ (h _ rfl _ (blk_new W _) (below_alloc (Below.refl _ _) _))
  have h1 : (Instr.makeMap t none).run P W = .ok (.map (some W.heap.size)) (W.alloc (.map #[] 0)) := rfl
  simp [execOp, ho, h1, Result.andThen]
end
end Go.Proofs.Ytaojnbhnogndnaa.SL
