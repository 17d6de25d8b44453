/- Words for package net: a packet's kind, a bag in memory. -/
import Derived.Test.YtaojnbhnogndnaaProg
import Derived.Test.YtaojnbhnogndnaaX2
import Derived.Laws.CopyOwn
import Derived.Lib.SliceRun
namespace Go.Proofs.Ytaojnbhnogndnaa.SL
open Go.RowKit Go.Proofs.YtaojnbhnogndnaaW.PrintWords Go.Proofs.YtaojnbhnogndnaaW.PrintLast Go.Proofs.YtaojnbhnogndnaaW.PrintMore
set_option linter.unusedVariables false
set_option linter.unusedSimpArgs false

theorem inf5 : (Try.prog.info? 5).map (fun i => (i.zero, i.size, i.bytes)) = some (some (.int .u8 0), 1, 1) := by kernel_rfl
theorem inf22 : (Try.prog.info? 22).map (fun i => (i.zero, i.size, i.bytes)) = some (some (.slice none 0 0), 1, 24) := by kernel_rfl
theorem inf52 : (Try.prog.info? 52).map (fun i => (i.zero, i.size, i.bytes)) = some (some (.agg #[.int .i64 0, .slice none 0 0]), 2, 32) := by kernel_rfl

/-- Bytes. -/
abbrev kB : Kd Int := Kd.int .u8
/-- A packet: to whom, its bytes. -/
def kPk : Kd (Int × List Int) := Kd.pair (Kd.int .i64) (Kd.slice 5 kB)
theorem kPk_raise : Raise kPk := Raise.pair (Raise.int _) (Raise.slice (Raise.int _) _)
theorem kPk_K {w : World} {x : Int × List Int} {cs : List Value} (h : kPk.K w x cs) : ∃ A c, cs = [.int .i64 x.1, .slice A x.2.length c] ∧ x.2.length ≤ c ∧ kB.C w A x.2.length x.2 := by
  obtain ⟨_, _, rfl, rfl, ⟨A, c, rfl, l1, g1⟩⟩ := h
  exact ⟨A, c, rfl, l1, g1⟩
theorem kPk_M {w : World} {base : Nat} {ok : Nat → Prop} {x : Int × List Int} {cs : List Value} (h : kPk.M w base ok x cs) : ∃ v, cs = [.int .i64 x.1, v] ∧ kB.R 5 w base ok v x.2 := by
  obtain ⟨_, _, rfl, rfl, ⟨v, rfl, g1⟩⟩ := h
  exact ⟨v, rfl, g1⟩
theorem kPk_mk {w : World} {base : Nat} {ok : Nat → Prop} {x : Int × List Int} {v : Value} (h : kB.R 5 w base ok v x.2) : kPk.M w base ok x [.int .i64 x.1, v] := ⟨[.int .i64 x.1], [v], rfl, rfl, ⟨v, rfl, h⟩⟩

/-- Some value fits. -/
def exA (f : Value → Asrt) : Asrt where
  P w S := ∃ v, (f v).P w S
  loc h hm := let ⟨v, h⟩ := h; ⟨v, (f v).loc h hm⟩
  bd h k hk := let ⟨v, h⟩ := h; (f v).bd h k hk
theorem Sat.exI {w0 w : World} {f : Value → Asrt} {l : List Asrt} (v : Value) (h : Sat w0 w (f v :: l)) : Sat w0 w (exA f :: l) := by
  obtain ⟨S, hP, hS, h2⟩ := h.sat
  exact ⟨h.below, S, ⟨v, hP⟩, hS, h2⟩
theorem Sat.exE {w0 w : World} {f : Value → Asrt} {l : List Asrt} (h : Sat w0 w (exA f :: l)) : ∃ v, Sat w0 w (f v :: l) := by
  obtain ⟨S, ⟨v, hP⟩, hS, h2⟩ := h.sat
  exact ⟨v, h.below, S, hP, hS, h2⟩
theorem Sat.part {w0 w : World} {a b : Asrt} {l : List Asrt} (h : Sat w0 w (sep a b :: l)) : Sat w0 w (a :: b :: l) := by
  obtain ⟨S, ⟨S1, S2, h1, h2, hd, hs⟩, hS, h3⟩ := h.sat
  refine ⟨h.below, S1, h1, fun k hk => ⟨(hS k ((hs k).2 (.inl hk))).1, id⟩, S2, h2, fun k hk => ⟨(hS k ((hs k).2 (.inr hk))).1, ?_⟩, h3.mono ?_⟩
  · rintro (hf | h)
    · exact hf
    · exact hd k h hk
  · rintro k ((hf | h) | h)
    · exact .inl hf
    · exact .inr ((hs k).2 (.inl h))
    · exact .inr ((hs k).2 (.inr h))

/-- A bag of package net at block g, with these packets. -/
def bag (g : Nat) (ps : List (Int × List Int)) : Asrt := exA fun v => sep (blk g (.cells #[v] 94 (0, 0))) (rows kPk 52 v ps)
theorem Sat.bagE {w0 w : World} {g : Nat} {ps : List (Int × List Int)} {l : List Asrt} (h : Sat w0 w (bag g ps :: l)) : ∃ v, Sat w0 w (blk g (.cells #[v] 94 (0, 0)) :: rows kPk 52 v ps :: l) := by
  obtain ⟨v, h⟩ := h.exE
  exact ⟨v, h.part⟩
theorem Sat.bagI {w0 w : World} {g : Nat} {v : Value} {ps : List (Int × List Int)} {l : List Asrt} (h : Sat w0 w (blk g (.cells #[v] 94 (0, 0)) :: rows kPk 52 v ps :: l)) : Sat w0 w (bag g ps :: l) := h.join.exI (f := fun v => sep (blk g (.cells #[v] 94 (0, 0))) (rows kPk 52 v ps)) v

/-- One result that lies in a cell of memory. -/
theorem results_c {P : Program} {fn : Func} {p : Tmp} {ty : TypeId} (h : fn.results = #[.cell p ty]) (tmps : Array Value) (w : World) (g : Nat) (t : TypeId) (cs : Array Value) (fr : Nat × Nat) (d : TypeDesc)
    (hp : tmps.getD p undef = .pointer (some ⟨g, 0, none⟩)) (hg : w.heap[g]? = some (.cells cs t fr))
    (hu : P.underlying ty = some d) (hd : (match d with | .struct _ | .array _ _ => true | _ => false) = true) (hi : (P.info? ty).map (·.size) = some cs.size) :
    (results fn tmps).run P w = .ok (.agg cs) w := by
  have hp' : tmps[p]?.getD undef = .pointer (some ⟨g, 0, none⟩) := by simpa using hp
  simp [results, h, hp', asAddr, run_loadVar_row w g t ty cs fr d hg hu hd hi]

/-- A block of the call's own that holds numbers is a row of them. -/
theorem row_of_blk {w : World} {g e : Nat} {k : IntKind} {xs : List Int} {S : Nat → Prop} (h : w.heap[g]? = some (.cells (xs.map fun x => Value.int k x).toArray e (0, 0))) (hS : S g) (hm : xs.length ≤ 9223372036854775807) : (Kd.int k).R e w 0 S (.slice (some ⟨g, 0, none⟩) xs.length xs.length) xs := by
  refine Kd.R_of_own (enc := fun x => Value.int k x) (h1 := fun _ => rfl) ⟨by simp [encs], .inr ⟨g, xs.length, _, rfl, Nat.zero_le _, h, Nat.le_refl _, by simpa [maxLen] using hm, by simp, by simp only [encs, Nat.mul_one, List.toList_toArray]; exact List.take_of_length_le (by simp)⟩⟩ (fun k hk => ?_)
  obtain rfl : g = k := by simpa [Value.ownBlock] using hk
  exact hS

section
variable {P : Program} {ops : Array Oper} {rest : List Oper} {o : Oper} {a : Act} {Q : Exit → Act → World → Prop}
/-- copy(d, s) that fills d whole. -/
theorem copyAll {w0 w : World} {L : List Asrt} (hgd : o.guard = none) (d s : Operand) (dT sT e : TypeId) (ho : o.op = .call { callee := .builtin .copy, args := #[d, s], argTypes := #[dT, sT] }) (hu : P.underlying dT = some (.slice e)) (hsz : (P.info? e).map (·.size) = some 1)
    (k : IntKind) (g c : Nat) (A : Option Addr) (xs : List Int) (cur : Array Value) (hcur : cur.size = xs.length) (hd : a.eval d = .slice (some ⟨g, 0, none⟩) xs.length xs.length) (hs : a.eval s = .slice A xs.length c) (hr : (Kd.int k).C w A xs.length xs)
    (HS : Sat w0 w (blk g (.cells cur e (0, 0)) :: L)) (h : ∀ w', Sat w0 w' (row (Kd.int k) e (.slice (some ⟨g, 0, none⟩) xs.length xs.length) xs :: L) → wpList P ops Q rest (a.put o.dst (goInt xs.length)) w') : wpList P ops Q (o :: rest) a w := by
  obtain ⟨S, hP, hS, f⟩ := HS.open1
  have hlt : g < w.heap.size := (Array.getElem?_eq_some_iff.1 hP.1).1
  rcases Nat.eq_zero_or_pos xs.length with h0 | h0
  · obtain rfl : xs = [] := List.eq_nil_of_length_eq_zero h0
    refine wpList_copy_nothing hgd d s dT sT ho e hu hsz _ _ _ _ _ _ hd hs (by simp) (h w (f w _ S (fun k hk => .inl hk) (Touch.refl _ _) ⟨?_, fun k hk => by obtain rfl := (hP.2 k).1 hk; exact hlt⟩))
    have hc : cur = #[] := by simpa using hcur
    subst hc
    exact row_of_blk hP.1 ((hP.2 g).2 rfl) (by simp)
  · obtain ⟨ad, rfl, hcell⟩ := hr.2.2 h0
    have hc : ∀ j v, (xs.map fun x => Value.int k x)[j]? = some v → w.cell? (ad.add j) = some v := by
      intro j v hj
      rw [List.getElem?_map] at hj
      cases hx : xs[j]? with
      | none => rw [hx] at hj; cases hj
      | some x =>
        rw [hx] at hj
        obtain ⟨c1, hl, hR, hcc⟩ := hcell j x hx
        have hR' : c1 = [.int k x] := hR
        subst hR'
        have h3 := hcc 0 _ rfl
        have h4 : (Kd.int k).sz = 1 := rfl
        rw [h4, Nat.mul_one, Nat.add_zero] at h3
        rw [h3]
        exact hj
    refine wpList_copy_own hgd d s dT sT ho e hu hsz g 0 _ _ ad _ _ hd hs cur e hP.1 (xs.map fun x => .int k x) (by simp) hc (by simp [hcur]) (by intro v hv; obtain ⟨x, _, rfl⟩ := List.mem_map.1 hv; rfl) ?_
    rw [List.length_map]
    have hcs : (cur.toList.take 0 ++ ((xs.map fun x => Value.int k x) ++ cur.toList.drop (0 + xs.length))).toArray = (xs.map fun x => Value.int k x).toArray := by
      rw [Nat.zero_add, List.drop_of_length_le (by simp [hcur])]
      simp
    rw [hcs]
    refine h _ (f _ _ S (fun k hk => .inl hk) ⟨rfl, rfl, rfl, by simp, fun j _ hn => setRow_other w g j _ (fun e => hn ((hP.2 j).2 e))⟩ ⟨row_of_blk (setRow_heap w g _ _ e _ hP.1) ((hP.2 g).2 rfl) hr.2.1, fun j hj => ?_⟩)
    obtain rfl := (hP.2 j).1 hj
    simpa using hlt
end

/-! ### own: function 50 -/
set_option maxHeartbeats 1000000 in
set_option maxRecDepth 100000 in
theorem own_calls (rc : Int) (A : Option Addr) (c : Nat) (xs : List Int) (w : World) (hr : kB.C w A xs.length xs) (hb : xs.length ≤ 140737488355328) :
    Calls Try.prog 50 #[.agg #[.int .i64 rc, .slice A xs.length c]] w fun e w' => ∃ v : Value, e = .returned (.agg #[.int .i64 rc, v]) ∧ kB.R 5 w' w.heap.size (fun _ => True) v xs ∧ Below w.heap.size w w' := by
  have hu52 := Try.underlying52
  have HR := Aside0.mk hr
  have HB := Aside0.mk hb
  clear hr hb
  have HS := SL.Sat.start w
  have hmk := print_make (P := Try.prog) 22 5 .u8 1 Try.underlying22 inf5 (by decide) xs.length (by have := HB.out; omega)
  go_enter Try.func50, Try.ntmps50
  go_wp2_with (first | ((with_reducible refine gate_dst (N := 1) rfl ?_); refine box_event ?hg (N := 1) ?hd (cs := #[.int .i64 rc, .slice A xs.length c]) (t := 52) ?hr ?_; (case hd => rfl); (case hg => rfl); (case hr => first | (go_simp; done) | (go_simp; rfl)); intro g1 hg w1 hbox hb; have HS1 := HS.box hg hbox hb; clear HS hg hbox hb; have c0 := HS1.cell 0 0 rfl rfl; have c1 := HS1.cell 0 1 rfl rfl) | ((with_reducible refine gate_dst (N := 2) rfl ?_); refine box_event ?hg2 (N := 2) ?hd2 (cs := #[.int .i64 0, .slice none 0 0]) (t := 52) ?hr2 ?_; (case hd2 => rfl); (case hg2 => rfl); (case hr2 => first | (go_simp; done) | (go_simp; rfl)); intro g2 hg w2 hbox hb; have HS2 := HS1.box hg hbox hb; clear HS1 hg hbox hb c0 c1; have c1 := HS2.cell 1 1 rfl rfl) | ((with_reducible refine gate_dst (N := 7) rfl ?_); refine box_event2 ?hg3 (N := 7) ?hd3 (v := fun g => .slice (some ⟨g, 0, none⟩) xs.length xs.length) (cs := madeCells #[.int .u8 0] xs.length) (t := 5) ?hr3 ?_; (case hd3 => rfl); (case hg3 => rfl); (case hr3 => first | (go_simp; done) | (go_simp; rfl)); intro g3 hg w3 hbox hb; have HS3 := HS2.box hg hbox hb; clear HS2 hg hbox hb c1; have c1 := HS3.cell 2 1 rfl rfl) | ((with_reducible refine gate_builtin (b := .copy) (xs := #[.tmp 8, .tmp 10]) rfl ?_); refine copyAll rfl (.tmp 8) (.tmp 10) 22 22 5 rfl Try.underlying22 rfl .u8 g3 c A xs (madeCells #[.int .u8 0] xs.length) (by simp [madeCells]) rfl rfl (Kd.C_below HR.out HS3.below) HS3 ?_; intro w4 HS4; clear HS3 c1; have c0 := HS4.cell 2 0 rfl rfl; have d0 := HS4.cell 1 0 rfl rfl; have d1 := HS4.cell 1 1 rfl rfl; have f0 := HS4.frozen 1 0 rfl; have f1 := HS4.frozen 1 1 rfl) | ((with_reducible refine gate_store (t := 52) (p := 2) rfl ?_); refine store_event (t := 52) (p := 2) (v := ?vo) (w1 := ((w4.setCell ⟨g2, 0, none⟩ (.int .i64 rc)).setCell ⟨g2, 1, none⟩ (.slice (some ⟨g3, 0, none⟩) xs.length xs.length))) ?hg5 ?ho5 ?hn5 ?hr5 ?_; (case ho5 => rfl); (case hg5 => rfl); (case hn5 => rfl); (case hr5 => first | (go_simp; done) | (go_simp; rfl)); intro w5 hw; have HS5 := (HS4.setAt 1 0 (.int .i64 rc) rfl).setAt 1 1 (.slice (some ⟨g3, 0, none⟩) xs.length xs.length) rfl; rw [← hw] at HS5; clear hw HS4 c0 d0 d1 f0 f1))
  refine bodyPost_ret (results_c rfl _ _ g2 52 #[.int .i64 rc, .slice (some ⟨g3, 0, none⟩) xs.length xs.length] (0, 0) _ rfl (HS5.block 1 rfl).1 hu52 rfl rfl) rfl ?_
  exact ⟨_, rfl, Kd.R_mono (HS5.rowOut (Raise.int _) 0 rfl) (fun _ _ => trivial), HS5.below⟩
end Go.Proofs.Ytaojnbhnogndnaa.SL
