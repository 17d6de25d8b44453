/- The net's law's first question (shown): it is answered. -/
import Derived.Test.YtaojnbhnogndnaaX7
namespace Go.Proofs.Ytaojnbhnogndnaa.SL
open Go.RowKit Go.Proofs.YtaojnbhnogndnaaW.PrintWords Go.Proofs.YtaojnbhnogndnaaW.PrintLast Go.Proofs.YtaojnbhnogndnaaW.PrintMore
attribute [local go_sem] max2_int min2_int max_two min_two
attribute [local go_sem high] Small.cell_set_same
set_option linter.unusedVariables false
set_option linter.unusedSimpArgs false

theorem C_of_blk {w : World} {g e : Nat} {k : IntKind} {fr : Nat × Nat} {xs : List Int} (h : w.heap[g]? = some (.cells (xs.map fun x => Value.int k x).toArray e fr)) (hm : xs.length ≤ 9223372036854775807) : (Kd.int k).C w (some ⟨g, 0, none⟩) xs.length xs := by
  refine ⟨rfl, hm, fun _ => ⟨_, rfl, fun j x hj => ⟨[.int k x], rfl, rfl, fun i v hi => ?_⟩⟩⟩
  match i, hi with
  | 0, hi =>
    injection hi with hi
    subst hi
    have h4 : (Kd.int k).sz = 1 := rfl
    rw [h4, Nat.mul_one, Nat.add_zero]
    have h5 : (⟨g, 0, none⟩ : Addr).add j = ⟨g, j, none⟩ := by unfold Addr.add; split <;> simp_all
    rw [h5]
    simp [World.cell?, h, hj]
section
variable {P : Program} {ops : Array Oper} {rest : List Oper} {o : Oper} {a : Act} {Q : Exit → Act → World → Prop}
/-- A literal []byte(".."): the row, then a conversion to its own type, which marks the place behind the last cell. -/
theorem mark_event {w0 W : World} {L : List Asrt} (hgd : o.guard = none) {N : Tmp} (_hd : o.dst = some N) (t e : TypeId) (x : Operand) (ho : o.op = .convert t t x) (ht : P.underlying t = some (.slice e)) (he : P.underlying e = some (.int .u8)) {g n c : Nat} {cs : Array Value} (hx : a.eval x = .slice (some ⟨g, 0, none⟩) n c)
    (HS : Sat w0 W (blk g (.cells cs e (0, 0)) :: L)) (h : ∀ w', Sat w0 w' (blk g (.cells cs e (cs.size, cs.size + 1)) :: L) → wpList P ops Q rest (a.put o.dst (.slice (some ⟨g, 0, none⟩) n c)) w') : wpList P ops Q (o :: rest) a W := by
  have hb := (HS.block 0 rfl).1
  have hsh : W.shape? g = some (e, cs.size) := by unfold World.shape?; rw [hb]
  have hr : (execOp a.eval o).run P W = .ok (.value (.slice (some ⟨g, 0, none⟩) n c)) (W.freeze ⟨g, cs.size, none⟩ 1) := by
    simp [execOp, ho, hx, convert, run_underlying ht, run_underlying he, markStringish, hsh]
  refine Kd.event_run hgd hr (h _ (HS.write fun S hP hS => ⟨S, fun k hk => .inl hk, ⟨rfl, rfl, rfl, ?_, fun k _ hk => ?_⟩, ?_, hP.2⟩))
  · simp [World.freeze]
  · have hne : g ≠ k := fun he => hk ((hP.2 k).2 he.symm)
    simp [World.freeze, Array.getElem?_modify, hne]
  · simp [World.freeze, Array.getElem?_modify, hb]
end
theorem str97 : strOfNums [97] = ⟨#[97]⟩ := by rfl
theorem str98 : strOfNums [98] = ⟨#[98]⟩ := by rfl
theorem shown_fr {w0 w' : World} {L : List Asrt} {g1 g2 g3 : Nat} (h : Sat w0 w' ([blk g3 (.cells #[.slice (some ⟨g1, 0, none⟩) 1 1, .slice (some ⟨g2, 0, none⟩) 1 1] 22 (0, 0)), blk g2 (.cells #[.int .u8 98] 5 (1, 2)), blk g1 (.cells #[.int .u8 97] 5 (1, 2))] ++ L)) :
    (Kd.slice 5 kB).C w' (some ⟨g3, 0, none⟩) 2 [[97], [98]] := by
  have c0 := h.cell 0 0 rfl rfl
  have c1 := h.cell 0 1 rfl rfl
  have b2 := C_of_blk (xs := [98]) (h.block 1 rfl).1 (by decide)
  have b1 := C_of_blk (xs := [97]) (h.block 2 rfl).1 (by decide)
  refine ⟨rfl, by decide, fun _ => ⟨_, rfl, fun j x hj => ?_⟩⟩
  match j, hj with
  | 0, hj => injection hj with hj; subst hj; exact ⟨[.slice (some ⟨g1, 0, none⟩) 1 1], rfl, ⟨_, _, rfl, Nat.le_refl _, b1⟩, fun i v hi => by match i, hi with | 0, hi => (injection hi with hi; subst hi; exact c0)⟩
  | 1, hj => injection hj with hj; subst hj; exact ⟨[.slice (some ⟨g2, 0, none⟩) 1 1], rfl, ⟨_, _, rfl, Nat.le_refl _, b2⟩, fun i v hi => by match i, hi with | 0, hi => (injection hi with hi; subst hi; exact c1)⟩

/-! ### shown (majordomolaw18): function 22 -/
set_option maxHeartbeats 4000000 in
set_option maxRecDepth 100000 in
theorem shown18_calls {w0 w : World} {L : List Asrt} (HS : Sat w0 w L) : Calls Try.prog 22 #[] w fun e w' => e = .returned (.bool true) ∧ Sat w0 w' L := by
  have hu52 := Try.underlying52
  go_enter Try.func22, Try.ntmps22
  go_wp2_with (first | (go_at_call 23; refine (New_calls HS).mono ?_; rintro e w1 ⟨g, rfl, HS1⟩; clear HS) | ((with_reducible refine gate_dst (N := 15) rfl ?_); refine box_event2 ?hg1 (N := 15) ?hd1 (v := fun g => .slice (some ⟨g, 0, none⟩) 1 1) (cs := #[.int .u8 97]) (t := 5) ?hr1 ?_; (case hd1 => rfl); (case hg1 => rfl); (case hr1 => first | (go_simp; done) | (go_simp; rfl)); intro g1 hg w2 hbox hb; have HS2 := HS1.box hg hbox hb; clear HS1 hg hbox hb) | ((with_reducible refine gate_dst (N := 16) rfl ?_); refine mark_event rfl (N := 16) rfl 22 5 (.tmp 15) rfl Try.underlying22 Try.underlying5 (n := 1) (c := 1) rfl HS2 ?_; intro wa HS2a; clear HS2) | ((with_reducible refine gate_dst (N := 17) rfl ?_); refine box_event2 ?hg2 (N := 17) ?hd2 (v := fun g => .slice (some ⟨g, 0, none⟩) 1 1) (cs := #[.int .u8 98]) (t := 5) ?hr2 ?_; (case hd2 => rfl); (case hg2 => rfl); (case hr2 => first | (go_simp; done) | (go_simp; rfl)); intro g2 hg w3 hbox hb; have HS3 := HS2a.box hg hbox hb; clear HS2a hg hbox hb) | ((with_reducible refine gate_dst (N := 18) rfl ?_); refine mark_event rfl (N := 18) rfl 22 5 (.tmp 17) rfl Try.underlying22 Try.underlying5 (n := 1) (c := 1) rfl HS3 ?_; intro wb HS3a; clear HS3) | ((with_reducible refine gate_dst (N := 19) rfl ?_); refine box_event2 ?hg3 (N := 19) ?hd3 (v := fun g => .slice (some ⟨g, 0, none⟩) 2 2) (cs := #[.slice (some ⟨g1, 0, none⟩) 1 1, .slice (some ⟨g2, 0, none⟩) 1 1]) (t := 22) ?hr3 ?_; (case hd3 => rfl); (case hg3 => rfl); (case hr3 => first | (go_simp; done) | (go_simp; rfl)); intro g3 hg w4 hbox hb; have HS4 := HS3a.box hg hbox hb; clear HS3a hg hbox hb) | (go_at_call 25; refine (Send_calls (L := [blk g3 (.cells #[.slice (some ⟨g1, 0, none⟩) 1 1, .slice (some ⟨g2, 0, none⟩) 1 1] 22 (0, 0)), blk g2 (.cells #[.int .u8 98] 5 (1, 2)), blk g1 (.cells #[.int .u8 97] 5 (1, 2))] ++ L) g [] 1 (some ⟨g3, 0, none⟩) 2 [[97], [98]] (Nat.zero_le _) (Nat.le_refl _) (fun x hx => by simp at hx; rcases hx with rfl | rfl <;> decide) (fun w' h => shown_fr h) (HS4.pick 3 rfl)).mono ?_; rintro e w5 ⟨he, HS5'⟩; obtain rfl : e = .returned (.int .i64 0) := he; have HS5 : Sat w0 w5 (bag g [(1, [97]), (1, [98])] :: L) := HS5'.swap.tail.swap.tail.swap.tail; clear HS4 HS5') | (go_at_call 29; refine (Len_calls g _ HS5).mono ?_; rintro e w6 ⟨he, HS6⟩; obtain rfl : e = .returned (.int .i64 2) := he; clear HS5) | (go_at_call 28; refine (Double_yes g _ 0 (by decide) (by decide) (by decide) HS6).mono ?_; rintro e w7 ⟨he, HS7'⟩; obtain rfl : e = .returned (.int .i64 0) := he; have HS7 : Sat w0 w7 (bag g [(1, [97]), (1, [98]), (1, [97])] :: L) := HS7'; clear HS6 HS7') | (go_at_call 26; refine (Deliver_yes g [(1, [97]), (1, [98]), (1, [97])] 1 (by decide) (by decide) HS7).mono ?_; rintro e w8 ⟨v, he, HS8'⟩; have HS8 : Sat w0 w8 (row kB 5 v [98] :: bag g [(1, [97]), (1, [97])] :: L) := HS8'; obtain ⟨A1, c1, rfl⟩ := HS8.rowShape 0 rfl; obtain rfl : e = .returned (.tuple #[.agg #[.int .i64 1, .slice A1 1 c1], .int .i64 0]) := he; clear HS7 HS8') | ((with_reducible refine gate_dst (N := 5) rfl ?_); refine box_event ?hg4 (N := 5) ?hd4 (cs := #[.int .i64 0, .slice none 0 0]) (t := 52) ?hr4 ?_; (case hd4 => rfl); (case hg4 => rfl); (case hr4 => first | (go_simp; done) | (go_simp; rfl)); intro g5 hg w9 hbox hb; have HS9 := HS8.box hg hbox hb; clear HS8 hg hbox hb; have d0 := HS9.cell 0 0 rfl rfl; have d1 := HS9.cell 0 1 rfl rfl; have f0 := HS9.frozen 0 0 rfl; have f1 := HS9.frozen 0 1 rfl) | ((with_reducible refine gate_store (t := 52) (p := 5) rfl ?_); refine store_event (t := 52) (p := 5) (v := ?vo5) (w1 := ((w9.setCell ⟨g5, 0, none⟩ (.int .i64 1)).setCell ⟨g5, 1, none⟩ (.slice A1 1 c1))) ?hg5 ?ho5 ?hn5 ?hr5 ?_; (case ho5 => rfl); (case hg5 => rfl); (case hn5 => rfl); (case hr5 => first | (go_simp; done) | (go_simp; rfl)); intro w10 hw; have HS10 := ((HS9.setAt 0 0 (.int .i64 1) rfl).setAt 0 1 (.slice A1 1 c1) rfl); rw [← hw] at HS10; clear hw HS9 d0 d1 f0 f1) | (go_at_call 26; refine (Deliver_yes g [(1, [97]), (1, [97])] 1 (by decide) (by decide) (HS10.pick 2 rfl)).mono ?_; rintro e w11 ⟨v, he, HS11'⟩; have HS11 : Sat w0 w11 (row kB 5 v [97] :: bag g [(1, [97])] :: blk g5 (.cells #[.int .i64 1, .slice A1 1 c1] 52 (0, 0)) :: row kB 5 (.slice A1 1 c1) [98] :: L) := HS11'; obtain ⟨A2, c2, rfl⟩ := HS11.rowShape 0 rfl; obtain rfl : e = .returned (.tuple #[.agg #[.int .i64 1, .slice A2 1 c2], .int .i64 0]) := he; clear HS10 HS11') | ((with_reducible refine gate_dst (N := 7) rfl ?_); refine box_event ?hg6 (N := 7) ?hd6 (cs := #[.int .i64 0, .slice none 0 0]) (t := 52) ?hr6 ?_; (case hd6 => rfl); (case hg6 => rfl); (case hr6 => first | (go_simp; done) | (go_simp; rfl)); intro g7 hg w12 hbox hb; have HS12 := HS11.box hg hbox hb; clear HS11 hg hbox hb; have d0 := HS12.cell 0 0 rfl rfl; have d1 := HS12.cell 0 1 rfl rfl; have f0 := HS12.frozen 0 0 rfl; have f1 := HS12.frozen 0 1 rfl) | ((with_reducible refine gate_store (t := 52) (p := 7) rfl ?_); refine store_event (t := 52) (p := 7) (v := ?vo7) (w1 := ((w12.setCell ⟨g7, 0, none⟩ (.int .i64 1)).setCell ⟨g7, 1, none⟩ (.slice A2 1 c2))) ?hg7 ?ho7 ?hn7 ?hr7 ?_; (case ho7 => rfl); (case hg7 => rfl); (case hn7 => rfl); (case hr7 => first | (go_simp; done) | (go_simp; rfl)); intro w13 hw; have HS13 := ((HS12.setAt 0 0 (.int .i64 1) rfl).setAt 0 1 (.slice A2 1 c2) rfl); rw [← hw] at HS13; clear hw HS12 d0 d1 f0 f1) | (go_at_call 27; refine (Drop_yes g [(1, [97])] 0 (by decide) (by decide) (HS13.pick 2 rfl)).mono ?_; rintro e w14 ⟨rfl, HS14'⟩; have HS14 : Sat w0 w14 (bag g [] :: blk g7 (.cells #[.int .i64 1, .slice A2 1 c2] 52 (0, 0)) :: row kB 5 (.slice A2 1 c2) [97] :: blk g5 (.cells #[.int .i64 1, .slice A1 1 c1] 52 (0, 0)) :: row kB 5 (.slice A1 1 c1) [98] :: L) := HS14'; clear HS13 HS14') | (go_at_call 26; refine (Deliver_no g [] 0 (.inr (by decide)) HS14).mono ?_; rintro e w15 ⟨rfl, HS15⟩; clear HS14) | ((with_reducible refine gate_dst (N := 9) rfl ?_); refine box_event ?hg8 (N := 9) ?hd8 (cs := #[.int .i64 0, .slice none 0 0]) (t := 52) ?hr8 ?_; (case hd8 => rfl); (case hg8 => rfl); (case hr8 => first | (go_simp; done) | (go_simp; rfl)); intro g9 hg w16 hbox hb; have HS16 := HS15.box hg hbox hb; clear HS15 hg hbox hb; have d0 := HS16.cell 0 0 rfl rfl; have d1 := HS16.cell 0 1 rfl rfl; have f0 := HS16.frozen 0 0 rfl; have f1 := HS16.frozen 0 1 rfl) | ((with_reducible refine gate_store (t := 52) (p := 9) rfl ?_); refine store_event (t := 52) (p := 9) (v := ?vo9) (w1 := ((w16.setCell ⟨g9, 0, none⟩ (.int .i64 0)).setCell ⟨g9, 1, none⟩ (.slice none 0 0))) ?hg9 ?ho9 ?hn9 ?hr9 ?_; (case ho9 => rfl); (case hg9 => rfl); (case hn9 => rfl); (case hr9 => first | (go_simp; done) | (go_simp; rfl)); intro w17 hw; have HS17 := ((HS16.setAt 0 0 (.int .i64 0) rfl).setAt 0 1 (.slice none 0 0) rfl); rw [← hw] at HS17; clear hw HS16 d0 d1 f0 f1; have d0 := HS17.cell 4 0 rfl rfl; have d1 := HS17.cell 4 1 rfl rfl; have e0 := HS17.cell 2 0 rfl rfl; have e1 := HS17.cell 2 1 rfl rfl; have s1 := Kd.C_string (P := Try.prog) (src := 22) (dst := 9) (c := c1) Try.underlying22 Try.underlying5 Try.underlying9 (HS17.readsRow 5 rfl).2.2; have s2 := Kd.C_string (P := Try.prog) (src := 22) (dst := 9) (c := c2) Try.underlying22 Try.underlying5 Try.underlying9 (HS17.readsRow 3 rfl).2.2; simp only [List.length_cons, List.length_nil, Nat.zero_add, str98, str97] at s1 s2))
  go_ret
  exact ⟨rfl, HS17.tail.tail.tail.tail.tail.tail⟩
end Go.Proofs.Ytaojnbhnogndnaa.SL
