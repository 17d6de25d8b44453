/- The document's Add (majordomoref17). -/
import Derived.Test.YtaojnbhnogndnaaZA
namespace Go.Proofs.Ytaojnbhnogndnaa.SL
open Go.RowKit Go.Proofs.YtaojnbhnogndnaaW.PrintWords Go.Proofs.YtaojnbhnogndnaaW.PrintLast Go.Proofs.YtaojnbhnogndnaaW.PrintMore
attribute [local go_sem] max2_int min2_int max_two min_two
attribute [local go_sem high] Small.cell_set_same
set_option linter.unusedVariables false
set_option linter.unusedSimpArgs false

theorem inf99 : (Try.prog.info? 99).map (fun i => (i.zero, i.size, i.bytes)) = some (some (.agg #[.int .i64 0, .int .i64 0, .int .i64 0, .int .i64 0, .slice none 0 0]), 5, 56) := by kernel_rfl
theorem inf35 : (Try.prog.info? 35).map (fun i => (i.zero, i.size, i.bytes)) = some (some (.agg #[.int .i64 0, .int .i64 0, .int .i64 0, .int .i64 0, .int .i64 0, .slice none 0 0]), 6, 64) := by kernel_rfl
theorem freshR_ok (w : World) (kd nd nc ct : Int) : (freshR kd nd nc ct).ok w := ⟨Nat.le_refl _, ⟨rfl, Nat.zero_le _, fun h => absurd h (Nat.lt_irrefl 0)⟩, fun f hf => absurd hf List.not_mem_nil⟩
/-- A slot more. -/
theorem grow_end {w0 w : World} {L : List Asrt} {fs : List (World → Prop)} {cy c3 : Nat} {Ay A3 : Option Addr} {ρ : List RS} {s : RS} {es : List (List Value)} (he : es = ρ.map RS.enc ++ [s.enc]) (hs : ∀ w, s.ok w)
    (h : Sat w0 w (row (Kd.raw 5) 99 (.slice A3 es.length c3) es :: pool (RP Ay cy ρ :: fs) :: L)) : Sat w0 w (pool (RP A3 c3 (ρ ++ [s]) :: fs) :: L) := by
  subst he
  have hlen : (ρ.map RS.enc ++ [s.enc]).length = (ρ ++ [s]).length := by simp
  have hmap : ρ.map RS.enc ++ [s.enc] = (ρ ++ [s]).map RS.enc := by simp
  exact h.poolRow.poolMap (fun w' hw f hf => by
    rcases List.mem_cons.1 hf with rfl | hf
    · obtain ⟨_, h2, h3⟩ := hw _ List.mem_cons_self
      have h4 := hw _ (List.mem_cons_of_mem _ List.mem_cons_self)
      refine ⟨by rw [← hlen]; exact h2, by rw [← hlen, ← hmap]; exact h3, fun z hz => ?_⟩
      rcases List.mem_append.1 hz with hz | hz
      · exact h4.2.2 z hz
      · rw [List.mem_singleton.1 hz]; exact hs w'
    · exact hw f (List.mem_cons_of_mem _ (List.mem_cons_of_mem _ hf)))

/-- T{..} into an element of a row of bare cells of one's own. -/
theorem rawStore_ev {P : Program} {ops : Array Oper} {rest : List Oper} {o : Oper} {a : Act} {Q : Exit → Act → World → Prop} {w0 W : World} {L : List Asrt} (hN : o.dst = none) (hgd : o.guard = none) (t : TypeId) (p x : Operand) (ho : o.op = .store t p x) {gr n cap e sz : Nat} (j : Nat) (es : List (List Value)) (u : Value) (seg : List Value)
    (ha : a.eval p = .pointer (some ⟨gr, j * sz, none⟩)) (hx : a.eval x = u) (hu : u.cells.toList = seg) (ht : (P.info? t).map (·.size) = some seg.length) (h1 : ∀ q ∈ seg, q.oneCell' = true) (hl : seg.length = sz) (hs : 0 < sz)
    (HS : Sat w0 W (row (Kd.raw sz) e (.slice (some ⟨gr, 0, none⟩) n cap) es :: L)) (hj : j < n) (h : ∀ w1, Sat w0 w1 (row (Kd.raw sz) e (.slice (some ⟨gr, 0, none⟩) n cap) (es.set j seg) :: L) → wpList P ops Q rest a w1) : wpList P ops Q (o :: rest) a W := by
  obtain ⟨S0, hP, hB, f⟩ := HS.open1
  obtain ⟨rfl, _, hC⟩ := HS.readsRow 0 rfl
  obtain ⟨ad, b, oo, e1, e2, hl2, hc⟩ := rawN_at hC j hj hs
  injection e1 with e1
  subst e1
  have e3 : (⟨gr, 0, none⟩ : Addr).add (j * sz) = ⟨gr, j * sz, none⟩ := by unfold Addr.add; split <;> simp_all
  rw [e3] at e2
  injection e2 with e4 e5
  subst e4; subst e5
  refine Kd.R_store (Kd.raw sz) (w0 := W) 0 hN hgd t p x ho e (g := gr) (n := es.length) (cap := cap) (o' := j * sz) (j : Int) 0 es seg u seg (es.getD j []) S0 (fun _ => False) ha (by simp; rfl) hx hu ht h1 hP.1 (by omega) (by omega) hl2 (fun i v hv => by simp only [Int.toNat_natCast]; exact hc i v hv) (by rw [hl]; exact Nat.le_of_eq (Nat.zero_add _)) ?_ (fun k hk => hk.elim) ((Below.refl W.heap.size W).mono (Nat.zero_le _)) ?_
  · have h2 : (es.getD j []).take 0 ++ seg ++ (es.getD j []).drop (0 + seg.length) = seg := by rw [List.take_zero, List.nil_append, Nat.zero_add, List.drop_of_length_le (by rw [hl2, hl]; exact Nat.le_refl _), List.append_nil]
    rw [h2]
    exact ⟨rfl, hl, h1⟩
  · intro w1 hr _ hg
    simp only [Int.toNat_natCast] at hr
    refine h w1 (f w1 _ (fun k => (S0 k ∨ W.heap.size ≤ k) ∧ k < w1.heap.size) (fun k hk => hk.1) (Touch.of_grown hg (fun k hk => hP.1.1 k (by rw [← hk]; simp [Value.ownBlock]))) ⟨Kd.R_mono (Kd.R_bound hr) (fun k hk => ⟨.inl hk.1, hk.2.2.1⟩), fun k hk => hk.2⟩)
theorem refuse_iff {s : RS} {nc ix ct : Int} : refuse (rer1 s) nc ix ct = (decide (nc < s.nc) || decide (ct ≠ s.ct) || (lookP ix (s.came.map rerF)).isSome) := rfl
/-- A slot whose frames are a row more. -/
theorem came_end {w0 w : World} {L : List Asrt} {fs : List (World → Prop)} {c3 : Nat} {A3 : Option Addr} {s2 s3 : RS} {f : RF} {es : List (List Value)} (he : es = s2.came.map RF.enc ++ [f.enc]) (h3 : s3.A = A3 ∧ s3.c = c3 ∧ s3.came = s2.came ++ [f])
    (h : Sat w0 w (row (Kd.raw 6) 35 (.slice A3 es.length c3) es :: pool ((fun w => f.ok w) :: (fun w => s2.ok w) :: fs) :: L)) : Sat w0 w (pool ((fun w => s3.ok w) :: fs) :: L) := by
  subst he
  obtain ⟨rfl, rfl, h3⟩ := h3
  have hlen : (s2.came.map RF.enc ++ [f.enc]).length = s3.came.length := by rw [h3]; simp
  have hmap : s2.came.map RF.enc ++ [f.enc] = s3.came.map RF.enc := by rw [h3]; simp
  exact h.poolRow.poolMap (fun w' hw g hg => by
    rcases List.mem_cons.1 hg with rfl | hg
    · obtain ⟨_, h4, h5⟩ := hw _ List.mem_cons_self
      have h6 := hw _ (List.mem_cons_of_mem _ List.mem_cons_self)
      have h7 := hw _ (List.mem_cons_of_mem _ (List.mem_cons_of_mem _ List.mem_cons_self))
      refine ⟨by rw [← hlen]; exact h4, by rw [← hlen, ← hmap]; exact h5, fun z hz => ?_⟩
      rw [h3] at hz
      rcases List.mem_append.1 hz with hz | hz
      · exact h7.2.2 z hz
      · rw [List.mem_singleton.1 hz]; exact h6
    · exact hw g (List.mem_cons_of_mem _ (List.mem_cons_of_mem _ (List.mem_cons_of_mem _ hg))))
/-- A slot laid in its place. -/
theorem lay_end {w0 w : World} {L : List Asrt} {fs : List (World → Prop)} {c1 c3 j : Nat} {A1 A3 : Option Addr} {ρ1 : List RS} {s3 : RS} {es : List (List Value)} {n : Nat} (he : es = (ρ1.map RS.enc).set j s3.enc) (hn : n = ρ1.length)
    (h : Sat w0 w (row (Kd.raw 5) 99 (.slice A3 n c3) es :: pool ((fun w => s3.ok w) :: RP A1 c1 ρ1 :: fs) :: L)) : Sat w0 w (pool ((fun w => s3.ok w) :: RP A3 c3 (ρ1.set j s3) :: fs) :: L) := by
  subst he; subst hn
  have hmap : (ρ1.map RS.enc).set j s3.enc = (ρ1.set j s3).map RS.enc := by rw [List.map_set]
  have hlen : ((ρ1.map RS.enc).set j s3.enc).length = (ρ1.set j s3).length := by simp
  have hlen2 : ρ1.length = (ρ1.set j s3).length := by simp
  exact h.poolRow.poolMap (fun w' hw g hg => by
    rcases List.mem_cons.1 hg with rfl | hg
    · exact hw _ (List.mem_cons_of_mem _ List.mem_cons_self)
    · rcases List.mem_cons.1 hg with rfl | hg
      · obtain ⟨_, h4, h5⟩ := hw _ List.mem_cons_self
        have h6 := hw _ (List.mem_cons_of_mem _ List.mem_cons_self)
        have h7 := hw _ (List.mem_cons_of_mem _ (List.mem_cons_of_mem _ List.mem_cons_self))
        refine ⟨by rw [← hlen2]; exact h4, by rw [hlen, hmap] at h5; exact h5, fun z hz => ?_⟩
        rcases List.mem_or_eq_of_mem_set hz with hz | rfl
        · exact h7.2.2 z hz
        · exact h6
      · exact hw g (List.mem_cons_of_mem _ (List.mem_cons_of_mem _ (List.mem_cons_of_mem _ hg))))

/-- A fact more in the pool. -/
theorem Sat.okPool {w0 w : World} {a b c d e : Asrt} {L : List Asrt} {fs : List (World → Prop)} {f : World → Prop} (h : Sat w0 w (a :: b :: c :: d :: e :: pool fs :: L)) (hf : ∀ w, f w) : Sat w0 w (a :: b :: c :: d :: e :: pool (f :: fs) :: L) := by
  have h1 : Sat w0 w (pool (f :: fs) :: _) := (h.pick 5 rfl).poolMap (fun w' hw g hg => by
    rcases List.mem_cons.1 hg with rfl | hg
    · exact hf w'
    · exact hw g hg)
  exact ((((h1.pick 5 rfl).pick 5 rfl).pick 5 rfl).pick 5 rfl).pick 5 rfl
theorem Sat.okPoolOf {w0 w : World} {a b c d e : Asrt} {L : List Asrt} {fs : List (World → Prop)} {A : Option Addr} {n : Nat} {ρ : List RS} {s : RS} (h : Sat w0 w (a :: b :: c :: d :: e :: pool (RP A n ρ :: fs) :: L)) (hs : s ∈ ρ) : Sat w0 w (a :: b :: c :: d :: e :: pool ((fun w => s.ok w) :: RP A n ρ :: fs) :: L) := by
  have h1 : Sat w0 w (pool ((fun w => s.ok w) :: RP A n ρ :: fs) :: _) := (h.pick 5 rfl).poolMap (fun w' hw g hg => by
    rcases List.mem_cons.1 hg with rfl | hg
    · exact (hw _ List.mem_cons_self).2.2 s hs
    · exact hw g hg)
  exact ((((h1.pick 5 rfl).pick 5 rfl).pick 5 rfl).pick 5 rfl).pick 5 rfl

theorem slot_len2 {s : ESlot} (h : SlotOk s) : s.2.2.2.length ≤ 86 := by
  obtain ⟨h1, h2, h3, h4⟩ := h
  have h5 := nodup_le s.2.2.1.toNat (s.2.2.2.map Prod.fst) h3 (fun x hx => by
    obtain ⟨p, hp, rfl⟩ := List.mem_map.1 hx
    have := h4 p hp
    omega)
  rw [List.length_map] at h5
  omega
theorem slot2_ok {ρ ρ1 : List RS} {kd nd nc ct : Int} {j : Nat} {s : RS} (h : StepR ρ ρ1 kd nd nc ct j s) (hwf : WfE (rer ρ)) (h1 : 1 ≤ ct) (h2 : ct ≤ 86) : SlotOk (rer1 (s2of s nc ct)) := by
  have hf : ∀ a b c, SlotOk (rer1 (freshR a b c ct)) := fun a b c => ⟨h1, h2, List.nodup_nil, fun p hp => by cases hp⟩
  unfold s2of
  split
  · exact hf _ _ _
  · obtain ⟨hj, _, _, h⟩ := h
    rcases h with ⟨_, rfl⟩ | ⟨_, rfl, _⟩
    · exact hwf _ (List.mem_map_of_mem (List.mem_of_getElem? hj))
    · exact hf _ _ _
theorem Sat.poolTail {w0 w : World} {a : Asrt} {L : List Asrt} {f : World → Prop} {fs : List (World → Prop)} (h : Sat w0 w (a :: pool (f :: fs) :: L)) : Sat w0 w (a :: pool fs :: L) :=
  (h.swap.poolMap (fun w' hw g hg => hw g (List.mem_cons_of_mem _ hg))).swap

theorem came_keys {s2 s3 : RS} {ix : Int} (hw : SlotOk (rer1 s2)) (hn : lookP ix (s2.came.map rerF) = none) {bs : List Int} (hb : bs.length ≤ 1048576) {A : Option Addr} {c : Nat} {kd nd nc ct : Int} (h : s3.came = s2.came ++ [⟨A, c, kd, nd, nc, ix, ct, bs⟩]) :
    ((s3.came.map rerF).map Prod.fst).Nodup ∧ ∀ f ∈ s3.came, f.bs.length ≤ 1048576 := by
  rw [h]
  refine ⟨?_, fun f hf => ?_⟩
  · rw [List.map_append, List.map_append]
    refine List.nodup_append.2 ⟨hw.2.2.1, by simp, fun a ha b hb' => ?_⟩
    have : b = ix := by simpa [rerF] using hb'
    subst this
    obtain ⟨p, hp, rfl⟩ := List.mem_map.1 ha
    exact lookIn_none hn p hp
  · rcases List.mem_append.1 hf with hf | hf
    · exact (hw.2.2.2 (rerF f) (List.mem_map_of_mem hf)).2.2
    · rw [List.mem_singleton.1 hf]; exact hb

def toCE (f : RF) : CE := (f.ix, ((f.A, f.c), f.bs))
theorem cat_len {l : List RF} (h : ∀ f ∈ l, f.bs.length ≤ 1048576) (i : Nat) : (catE i (l.map rerF)).length ≤ i * 1048576 := by
  have h1 : l.map rerF = (l.map toCE).map erC := by rw [List.map_map]; rfl
  rw [h1]
  exact catE_len (fun e he => by obtain ⟨f, hf, rfl⟩ := List.mem_map.1 he; exact h f hf) i
theorem pick_len {l : List RF} (h : ∀ f ∈ l, f.bs.length ≤ 1048576) (i : Int) : ∀ q : Nat, (((l.map rerF).take q).flatMap fun p => if p.1 = i then p.2 else []).length ≤ q * 1048576
  | 0 => by simp
  | q + 1 => by
    rw [List.take_add_one, List.flatMap_append, List.length_append]
    have h1 := pick_len h i q
    have h2 : ((l.map rerF)[q]?.toList.flatMap fun p => if p.1 = i then p.2 else []).length ≤ 1048576 := by
      rw [List.getElem?_map]
      cases hf : l[q]? with
      | none => simp
      | some f =>
        have h3 := h f (List.mem_of_getElem? hf)
        simp only [Option.map_some, Option.toList_some, List.flatMap_cons, List.flatMap_nil, List.append_nil]
        split
        · exact h3
        · simp
    omega
theorem acc_len {l : List RF} (h : ∀ f ∈ l, f.bs.length ≤ 1048576) {i q : Nat} (hi : i ≤ 86) (hq : q ≤ 87) : (catE i (l.map rerF) ++ ((l.map rerF).take q).flatMap fun p => if p.1 = (i : Int) then p.2 else []).length ≤ 200 * 1048576 := by
  rw [List.length_append]
  have h1 := cat_len h i
  have h2 := pick_len h (i : Int) q
  omega
theorem pick_yes {l : List RF} {q : Nat} {f : RF} {i : Int} (hf : l[q]? = some f) (h : f.ix = i) : (((l.map rerF).take (q + 1)).flatMap fun p => if p.1 = i then p.2 else []) = (((l.map rerF).take q).flatMap fun p => if p.1 = i then p.2 else []) ++ f.bs := by
  rw [List.take_add_one, List.flatMap_append, List.getElem?_map, hf]
  simp [rerF, h]
theorem pick_not {l : List RF} {q : Nat} {f : RF} {i : Int} (hf : l[q]? = some f) (h : ¬ f.ix = i) : (((l.map rerF).take (q + 1)).flatMap fun p => if p.1 = i then p.2 else []) = (((l.map rerF).take q).flatMap fun p => if p.1 = i then p.2 else []) := by
  rw [List.take_add_one, List.flatMap_append, List.getElem?_map, hf]
  simp [rerF, h]
theorem Sat.poolTail2 {w0 w : World} {a b : Asrt} {L : List Asrt} {f : World → Prop} {fs : List (World → Prop)} (h : Sat w0 w (a :: b :: pool (f :: fs) :: L)) : Sat w0 w (a :: b :: pool fs :: L) := by
  have h1 : Sat w0 w (pool fs :: a :: b :: L) := (h.pick 2 rfl).poolMap (fun w' hw g hg => hw g (List.mem_cons_of_mem _ hg))
  exact h1.swap.perm (List.Perm.cons _ (List.Perm.swap _ _ _))

/-! ### Add (majordomoref17): function 38 -/
set_option maxHeartbeats 16000000 in
set_option maxRecDepth 100000 in
theorem rAdd_good {w0 w : World} {L : List Asrt} {fs : List (World → Prop)} (g : Nat) (Ay : Option Addr) (cy : Nat) (ρ : List RS) (kd nd nc ix ct : Int) (A : Option Addr) (m c : Nat) (bs : List Int) (hok : okArg ix ct = true) (hr : kB.C w0 A m bs) (hmc : m ≤ c) (hbl : bs.length ≤ 1048576) (hwf : WfE (rer ρ)) (hrl : ρ.length ≤ 1000000) (HS : Sat w0 w (rbx g Ay cy ρ :: pool (RP Ay cy ρ :: fs) :: L)) :
    Calls Try.prog 38 #[.pointer (some ⟨g, 0, none⟩), .agg #[.int .i64 kd, .int .i64 nd, .int .i64 nc, .int .i64 ix, .int .i64 ct, .slice A m c]] w (AddPostR ρ kd nd nc ix ct bs w0 g fs L) := by
  have hu24 := Try.underlying24
  have hu35 := Try.underlying35
  have hu69 := Try.underlying69
  have hu99 := Try.underlying99
  have HOK := Aside0.mk hok
  have HR := Aside0.mk hr
  have HBL := Aside0.mk hbl
  have HWF := Aside0.mk hwf
  have HRL := Aside0.mk hrl
  obtain ⟨ka, hka⟩ : ∃ ka, ka = atR (kd, nd) ρ := ⟨_, rfl⟩
  have HKA := Aside0.mk hka
  obtain ⟨ho1, ho2, ho3, ho4⟩ : 1 ≤ ct ∧ ct ≤ 86 ∧ 0 ≤ ix ∧ ix < ct := by
    unfold okArg at hok
    simp only [Bool.and_eq_true, decide_eq_true_eq] at hok
    omega
  have h1d : decide (ct < 1) = false := decide_eq_false (by omega)
  have h2d : decide (86 < ct) = false := decide_eq_false (by omega)
  have h3d : decide (ix < 0) = false := decide_eq_false (by omega)
  have h4d : decide (ct ≤ ix) = false := decide_eq_false (by omega)
  clear hok hr hbl hwf hka
  go_enter Try.func38, Try.ntmps38
  go_upto_if 42 with (first | ((with_reducible refine gate_dst (N := 3) rfl ?_); refine box_event ?hg1 (N := 3) ?hd1 (cs := #[.int .i64 kd, .int .i64 nd, .int .i64 nc, .int .i64 ix, .int .i64 ct, .slice A m c]) (t := 35) ?hr1 ?_; (case hd1 => rfl); (case hg1 => rfl); (case hr1 => first | (go_simp; done) | (go_simp; rfl)); intro g3 hg w1 hbox hb; have HS1 := HS.box hg hbox hb; clear HS hg hbox hb) | ((with_reducible refine gate_dst (N := 4) rfl ?_); refine box_event ?hg2 (N := 4) ?hd2 (cs := #[.int .i64 0, .int .i64 0, .int .i64 0, .slice none 0 0]) (t := 24) ?hr2 ?_; (case hd2 => rfl); (case hg2 => rfl); (case hr2 => first | (go_simp; done) | (go_simp; rfl)); intro g4 hg w2 hbox hb; have HS2 := HS1.box hg hbox hb; clear HS1 hg hbox hb) | ((with_reducible refine gate_dst (N := 6) rfl ?_); refine box_event ?hg3 (N := 6) ?hd3 (cs := #[.int .i64 0, .int .i64 0, .int .i64 0, .slice none 0 0]) (t := 24) ?hr3 ?_; (case hd3 => rfl); (case hg3 => rfl); (case hr3 => first | (go_simp; done) | (go_simp; rfl)); intro g6 hg w3 hbox hb; have HS3 := HS2.box hg hbox hb; clear HS2 hg hbox hb; have d0 := HS3.cell 0 0 rfl rfl; have d1 := HS3.cell 0 1 rfl rfl; have d2 := HS3.cell 0 2 rfl rfl; have d3 := HS3.cell 0 3 rfl rfl; have f0 := HS3.frozen 0 0 rfl; have f1 := HS3.frozen 0 1 rfl; have f2 := HS3.frozen 0 2 rfl; have f3 := HS3.frozen 0 3 rfl) | ((with_reducible refine gate_store (t := 24) (p := 6) rfl ?_); refine store_event (t := 24) (p := 6) (v := ?vo6) (w1 := ((((w3.setCell ⟨g6, 0, none⟩ (.int .i64 0)).setCell ⟨g6, 1, none⟩ (.int .i64 0)).setCell ⟨g6, 2, none⟩ (.int .i64 0)).setCell ⟨g6, 3, none⟩ (.slice none 0 0))) ?hg6 ?ho6 ?hn6 ?hr6 ?_; (case ho6 => rfl); (case hg6 => rfl); (case hn6 => rfl); (case hr6 => first | (go_simp; done) | (go_simp; rfl)); intro w4 hw; have HS4 := ((((HS3.setAt 0 0 (.int .i64 0) rfl).setAt 0 1 (.int .i64 0) rfl).setAt 0 2 (.int .i64 0) rfl).setAt 0 3 (.slice none 0 0) rfl); rw [← hw] at HS4; clear hw HS3 d0 d1 d2 d3 f0 f1 f2 f3; have d0 := HS4.cell 2 0 rfl rfl; have d1 := HS4.cell 2 1 rfl rfl; have d3 := HS4.cell 2 3 rfl rfl; have d4 := HS4.cell 2 4 rfl rfl) | (have hgd := HS4; clear hgd; go_at_call 53; refine (rAt_calls g Ay cy ρ kd nd (HS4.cell 3 0 rfl rfl) (HS4.poolGet 4 rfl List.mem_cons_self)).mono ?_; rintro e w5 ⟨he, hw5⟩; rw [← HKA.out] at he; subst he; have HS5 := HS4; rw [← hw5] at HS5; clear HS4 hw5 d0 d1 d3 d4))
  go_cut [7] (fun v7 wd => ∃ (A1 : Option Addr) (c1 : Nat) (ρ1 : List RS) (j : Nat) (s : RS), v7 = .int .i64 j ∧ StepR ρ ρ1 kd nd nc ct j s ∧ ρ1.length ≤ ρ.length + 1 ∧ Sat w0 wd (blk g6 (.cells #[.int .i64 0, .int .i64 0, .int .i64 0, .slice none 0 0] 24 (0, 0)) :: blk g4 (.cells #[.int .i64 0, .int .i64 0, .int .i64 0, .slice none 0 0] 24 (0, 0)) :: blk g3 (.cells #[.int .i64 kd, .int .i64 nd, .int .i64 nc, .int .i64 ix, .int .i64 ct, .slice A m c] 35 (0, 0)) :: rbx g A1 c1 ρ1 :: pool (RP A1 c1 ρ1 :: fs) :: L))
  case first =>
    cases hl : lookR (kd, nd) ρ with
    | some q =>
      obtain ⟨j, s⟩ := q
      have hk : ka = (j : Int) := by rw [HKA.out]; unfold atR; rw [hl]
      subst hk
      have hj : decide ((j : Int) < 0) = false := decide_eq_false (by omega)
      go_wp2_with fail
      go_meet
      case rel => exact ⟨Ay, cy, ρ, j, s, rfl, StepR.old hl, by omega, HS5⟩
    | none =>
      have hk : ka = -1 := by rw [HKA.out]; unfold atR; rw [hl]
      subst hk
      go_wp2_with fail
      refine region (frees [0, 2, 3, 4, 7, 9, 11, 13] (helds [5, 8, 10, 12, 14] (.free 15 (.two 1 16 (.two 6 16 (.one 16 (.last 17 (frees [18, 19] (.last 20 .done)))) (.one 6 (.last 17 (frees [18, 19] (.last 20 .done))))) (.one 1 (.one 6 (.last 17 (frees [18, 19] (.last 20 .done))))))))) (fun w' => w'.cell? ⟨g, 0, none⟩ = some (.slice Ay ρ.length cy) ∧ w'.cell? ⟨g3, 0, none⟩ = some (.int .i64 kd) ∧ w'.cell? ⟨g3, 1, none⟩ = some (.int .i64 nd) ∧ w'.cell? ⟨g3, 2, none⟩ = some (.int .i64 nc) ∧ w'.cell? ⟨g3, 4, none⟩ = some (.int .i64 ct)) [17, 20] (by kernel_rfl) (by kernel_rfl) ?_
      have HT0 := HS5.drew
      generalize World.drew _ = wt0 at HT0 ⊢
      clear HS5
      have k0 := HT0.cell 3 0 rfl rfl
      have k1 := HT0.cell 2 0 rfl rfl
      have k2 := HT0.cell 2 1 rfl rfl
      have k3 := HT0.cell 2 2 rfl rfl
      have k4 := HT0.cell 2 4 rfl rfl
      repeat (first | (refine st_free (v := ?_) (a' := ?_) (by simp only [List.getElem?_toArray, List.getElem?_cons_succ, List.getElem?_cons_zero]; rfl) (by rfl) ?_ ?_ ?_; rotate_left 2; (intro w'; go_simp; with_reducible rfl); (simp only [Act.put, List.setIfInBounds_toArray, List.set_cons_zero, List.set_cons_succ]; rfl)) | (refine st_held (v := ?_) (a' := ?_) ⟨k0, k1, k2, k3, k4⟩ (by simp only [List.getElem?_toArray, List.getElem?_cons_succ, List.getElem?_cons_zero]; rfl) (by rfl) ?_ ?_ ?_; rotate_left 2; (rintro w' ⟨z0, z1, z2, z3, z4⟩; go_simp; with_reducible rfl); (simp only [Act.put, List.setIfInBounds_toArray, List.set_cons_zero, List.set_cons_succ]; rfl)))
      clear k0 k1 k2 k3 k4
      refine st_two (by simp only [List.getElem?_toArray, List.getElem?_cons_succ, List.getElem?_cons_zero]; rfl) (by simp only [List.getElem?_toArray, List.getElem?_cons_succ, List.getElem?_cons_zero]; rfl) ?_ ?_
      · refine Kd.event_run (v := .slice (some ⟨wt0.heap.size, 0, none⟩) 0 0) (w1 := wt0.alloc (.cells #[] 99)) rfl (by go_simp) ?_
        have HRa1 := (HT0.box (g := wt0.heap.size) (cs := #[]) (t := 99) rfl (blk_new wt0 _) (below_alloc (Below.refl _ _) _)).emptyRow0 (Kd.raw 5)
        generalize hgw : wt0.alloc (.cells #[] 99) = wra2 at HRa1 ⊢
        clear hgw
        generalize wt0.heap.size = GEa2 at HRa1 ⊢
        clear HT0
        refine ⟨⟨HRa1.cell 4 0 rfl rfl, HRa1.cell 3 0 rfl rfl, HRa1.cell 3 1 rfl rfl, HRa1.cell 3 2 rfl rfl, HRa1.cell 3 4 rfl rfl⟩, ?_⟩
        refine st_norm (a' := ?_) ?_ ?_; rotate_left; (simp only [Act.put, List.setIfInBounds_toArray, List.set_cons_zero, List.set_cons_succ]; rfl)
        refine st_two (by simp only [List.getElem?_toArray, List.getElem?_cons_succ, List.getElem?_cons_zero]; rfl) (by simp only [List.getElem?_toArray, List.getElem?_cons_succ, List.getElem?_cons_zero]; rfl) ?_ ?_
        · refine appRow (Kd.raw 5) rfl (.tmp 44) (.tmp 48) 67 99 (.agg #[.int .i64 0, .int .i64 0, .int .i64 0, .int .i64 0, .slice none 0 0]) 56 rfl Try.underlying67 inf99 rfl (by decide) (by decide) _ [] (ρ.map RS.enc) Ay ρ.length cy rfl rfl HRa1 (HRa1.poolGet 5 rfl List.mem_cons_self).2.1 (fun _ _ h => h) (by have := HRL.out; simp; omega) ?_
          intro v wra4 HRa3
          rw [List.nil_append] at HRa3
          obtain ⟨A1, c1, rfl⟩ := HRa3.rowShape 0 rfl
          clear HRa1
          refine ⟨⟨HRa3.cell 4 0 rfl rfl, HRa3.cell 3 0 rfl rfl, HRa3.cell 3 1 rfl rfl, HRa3.cell 3 2 rfl rfl, HRa3.cell 3 4 rfl rfl⟩, ?_⟩
          refine st_norm (a' := ?_) ?_ ?_; rotate_left; (simp only [Act.put, List.setIfInBounds_toArray, List.set_cons_zero, List.set_cons_succ]; rfl)
          refine st_one (by simp only [List.getElem?_toArray, List.getElem?_cons_succ, List.getElem?_cons_zero]; rfl) ?_
          refine Kd.event_run (v := .slice (some ⟨wra4.heap.size, 0, none⟩) 1 1) (w1 := wra4.alloc (.cells #[.int .i64 kd, .int .i64 nd, .int .i64 nc, .int .i64 ct, .slice none 0 0] 99)) rfl (by go_simp) ?_
          have HRa5 := HRa3.box (g := wra4.heap.size) (cs := #[.int .i64 kd, .int .i64 nd, .int .i64 nc, .int .i64 ct, .slice none 0 0]) (t := 99) rfl (blk_new wra4 _) (below_alloc (Below.refl _ _) _)
          generalize hgw : wra4.alloc (.cells #[.int .i64 kd, .int .i64 nd, .int .i64 nc, .int .i64 ct, .slice none 0 0] 99) = wra6 at HRa5 ⊢
          clear hgw
          generalize wra4.heap.size = GKa6 at HRa5 ⊢
          clear HRa3
          refine ⟨⟨HRa5.cell 5 0 rfl rfl, HRa5.cell 4 0 rfl rfl, HRa5.cell 4 1 rfl rfl, HRa5.cell 4 2 rfl rfl, HRa5.cell 4 4 rfl rfl⟩, ?_⟩
          refine st_norm (a' := ?_) ?_ ?_; rotate_left; (simp only [Act.put, List.setIfInBounds_toArray, List.set_cons_zero, List.set_cons_succ]; rfl)
          have K := rawN_of_blk (sz := 5) (HRa5.block 0 rfl).1 (cs := [.int .i64 kd, .int .i64 nd, .int .i64 nc, .int .i64 ct, .slice none 0 0]) rfl (by intro u hu; simp at hu; rcases hu with rfl | rfl | rfl | rfl | rfl <;> rfl)
          refine st_last (by simp only [List.getElem?_toArray, List.getElem?_cons_succ, List.getElem?_cons_zero]; rfl) ?_
          refine appRow (Kd.raw 5) rfl (.tmp 49) (.tmp 59) 67 99 (.agg #[.int .i64 0, .int .i64 0, .int .i64 0, .int .i64 0, .slice none 0 0]) 56 rfl Try.underlying67 inf99 rfl (by decide) (by decide) _ (ρ.map RS.enc) [([.int .i64 kd, .int .i64 nd, .int .i64 nc, .int .i64 ct, .slice none 0 0] : List Value)] (some ⟨GKa6, 0, none⟩) 1 1 rfl rfl (HRa5.pick 1 rfl) K (fun _ _ h => h) (by have := HRL.out; rw [List.length_map]; omega) ?_
          intro v wra8 HRa7
          obtain ⟨A3, c3, rfl⟩ := HRa7.rowShape 0 rfl
          clear HRa5 K
          refine st_norm (a' := ?_) ?_ ?_; rotate_left; (simp only [Act.put, List.setIfInBounds_toArray, List.set_cons_zero, List.set_cons_succ]; rfl)
          repeat (refine st_free (v := ?_) (a' := ?_) (by simp only [List.getElem?_toArray, List.getElem?_cons_succ, List.getElem?_cons_zero]; rfl) (by rfl) ?_ ?_ ?_; rotate_left 2; (intro w'; go_simp; with_reducible rfl); (simp only [Act.put, List.setIfInBounds_toArray, List.set_cons_zero, List.set_cons_succ]; rfl))
          have cgst := HRa7.cell 5 0 rfl rfl
          have fgst := HRa7.frozen 5 0 rfl
          refine st_last (by simp only [List.getElem?_toArray, List.getElem?_cons_succ, List.getElem?_cons_zero]; rfl) ?_
          refine store_event (t := 67) (p := 62) (v := .tmp 60) (w1 := wra8.setCell ⟨g, 0, none⟩ (.slice A3 (ρ.map RS.enc ++ [([.int .i64 kd, .int .i64 nd, .int .i64 nc, .int .i64 ct, .slice none 0 0] : List Value)]).length c3)) rfl rfl rfl (by go_simp) ?_
          rintro _ rfl
          have HRa9 := HRa7.setAt 5 0 (.slice A3 (ρ.map RS.enc ++ [([.int .i64 kd, .int .i64 nd, .int .i64 nc, .int .i64 ct, .slice none 0 0] : List Value)]).length c3) rfl
          clear HRa7 cgst fgst
          refine st_norm rfl ?_
          refine st_done ?_
          generalize wra8.setCell _ _ = wra10 at HRa9 ⊢
          have HE := grow_end (s := freshR kd nd nc ct) (es := ρ.map RS.enc ++ [([.int .i64 kd, .int .i64 nd, .int .i64 nc, .int .i64 ct, .slice none 0 0] : List Value)]) rfl (fun w => freshR_ok w kd nd nc ct) ((HRa9.pick 6 rfl).pick 1 rfl)
          have HF : Sat w0 wra10 (blk g6 (.cells #[.int .i64 0, .int .i64 0, .int .i64 0, .slice none 0 0] 24 (0, 0)) :: blk g4 (.cells #[.int .i64 0, .int .i64 0, .int .i64 0, .slice none 0 0] 24 (0, 0)) :: blk g3 (.cells #[.int .i64 kd, .int .i64 nd, .int .i64 nc, .int .i64 ix, .int .i64 ct, .slice A m c] 35 (0, 0)) :: rbx g A3 c3 (ρ ++ [freshR kd nd nc ct]) :: pool (RP A3 c3 (ρ ++ [freshR kd nd nc ct]) :: fs) :: L) := by
            have h := ((((((HE.dropAt 1).pick 0 rfl).pick 4 rfl).pick 4 rfl).pick 4 rfl).pick 4 rfl)
            have hlen : (ρ.map RS.enc ++ [([.int .i64 kd, .int .i64 nd, .int .i64 nc, .int .i64 ct, .slice none 0 0] : List Value)]).length = (ρ ++ [freshR kd nd nc ct]).length := by simp
            rw [hlen] at h
            exact h
          have c5 := HRa9.cell 5 0 rfl rfl
          clear HE
          go_wp2_with fail
          go_meet
          case rel => exact ⟨A3, c3, ρ ++ [freshR kd nd nc ct], ρ.length, freshR kd nd nc ct, by simp, StepR.new hl, by simp, HF⟩
        · refine Kd.event_run (v := .slice (some ⟨wra2.heap.size, 0, none⟩) 1 1) (w1 := wra2.alloc (.cells #[.int .i64 kd, .int .i64 nd, .int .i64 nc, .int .i64 ct, .slice none 0 0] 99)) rfl (by go_simp) ?_
          have HRa11 := HRa1.box (g := wra2.heap.size) (cs := #[.int .i64 kd, .int .i64 nd, .int .i64 nc, .int .i64 ct, .slice none 0 0]) (t := 99) rfl (blk_new wra2 _) (below_alloc (Below.refl _ _) _)
          generalize hgw : wra2.alloc (.cells #[.int .i64 kd, .int .i64 nd, .int .i64 nc, .int .i64 ct, .slice none 0 0] 99) = wra12 at HRa11 ⊢
          clear hgw
          generalize wra2.heap.size = GKa12 at HRa11 ⊢
          clear HRa1
          refine ⟨⟨HRa11.cell 5 0 rfl rfl, HRa11.cell 4 0 rfl rfl, HRa11.cell 4 1 rfl rfl, HRa11.cell 4 2 rfl rfl, HRa11.cell 4 4 rfl rfl⟩, ?_⟩
          refine st_norm (a' := ?_) ?_ ?_; rotate_left; (simp only [Act.put, List.setIfInBounds_toArray, List.set_cons_zero, List.set_cons_succ]; rfl)
          refine st_one (by simp only [List.getElem?_toArray, List.getElem?_cons_succ, List.getElem?_cons_zero]; rfl) ?_
          refine appRow (Kd.raw 5) rfl (.tmp 44) (.tmp 48) 67 99 (.agg #[.int .i64 0, .int .i64 0, .int .i64 0, .int .i64 0, .slice none 0 0]) 56 rfl Try.underlying67 inf99 rfl (by decide) (by decide) _ [] (ρ.map RS.enc) Ay ρ.length cy rfl rfl (HRa11.pick 1 rfl) (HRa11.poolGet 6 rfl List.mem_cons_self).2.1 (fun _ _ h => h) (by have := HRL.out; simp; omega) ?_
          intro v wra14 HRa13
          rw [List.nil_append] at HRa13
          obtain ⟨A1, c1, rfl⟩ := HRa13.rowShape 0 rfl
          clear HRa11
          refine ⟨⟨HRa13.cell 5 0 rfl rfl, HRa13.cell 4 0 rfl rfl, HRa13.cell 4 1 rfl rfl, HRa13.cell 4 2 rfl rfl, HRa13.cell 4 4 rfl rfl⟩, ?_⟩
          refine st_norm (a' := ?_) ?_ ?_; rotate_left; (simp only [Act.put, List.setIfInBounds_toArray, List.set_cons_zero, List.set_cons_succ]; rfl)
          have K := rawN_of_blk (sz := 5) (HRa13.block 1 rfl).1 (cs := [.int .i64 kd, .int .i64 nd, .int .i64 nc, .int .i64 ct, .slice none 0 0]) rfl (by intro u hu; simp at hu; rcases hu with rfl | rfl | rfl | rfl | rfl <;> rfl)
          refine st_last (by simp only [List.getElem?_toArray, List.getElem?_cons_succ, List.getElem?_cons_zero]; rfl) ?_
          refine appRow (Kd.raw 5) rfl (.tmp 49) (.tmp 59) 67 99 (.agg #[.int .i64 0, .int .i64 0, .int .i64 0, .int .i64 0, .slice none 0 0]) 56 rfl Try.underlying67 inf99 rfl (by decide) (by decide) _ (ρ.map RS.enc) [([.int .i64 kd, .int .i64 nd, .int .i64 nc, .int .i64 ct, .slice none 0 0] : List Value)] (some ⟨GKa12, 0, none⟩) 1 1 rfl rfl HRa13 K (fun _ _ h => h) (by have := HRL.out; rw [List.length_map]; omega) ?_
          intro v wra16 HRa15
          obtain ⟨A3, c3, rfl⟩ := HRa15.rowShape 0 rfl
          clear HRa13 K
          refine st_norm (a' := ?_) ?_ ?_; rotate_left; (simp only [Act.put, List.setIfInBounds_toArray, List.set_cons_zero, List.set_cons_succ]; rfl)
          repeat (refine st_free (v := ?_) (a' := ?_) (by simp only [List.getElem?_toArray, List.getElem?_cons_succ, List.getElem?_cons_zero]; rfl) (by rfl) ?_ ?_ ?_; rotate_left 2; (intro w'; go_simp; with_reducible rfl); (simp only [Act.put, List.setIfInBounds_toArray, List.set_cons_zero, List.set_cons_succ]; rfl))
          have cgst := HRa15.cell 5 0 rfl rfl
          have fgst := HRa15.frozen 5 0 rfl
          refine st_last (by simp only [List.getElem?_toArray, List.getElem?_cons_succ, List.getElem?_cons_zero]; rfl) ?_
          refine store_event (t := 67) (p := 62) (v := .tmp 60) (w1 := wra16.setCell ⟨g, 0, none⟩ (.slice A3 (ρ.map RS.enc ++ [([.int .i64 kd, .int .i64 nd, .int .i64 nc, .int .i64 ct, .slice none 0 0] : List Value)]).length c3)) rfl rfl rfl (by go_simp) ?_
          rintro _ rfl
          have HRa17 := HRa15.setAt 5 0 (.slice A3 (ρ.map RS.enc ++ [([.int .i64 kd, .int .i64 nd, .int .i64 nc, .int .i64 ct, .slice none 0 0] : List Value)]).length c3) rfl
          clear HRa15 cgst fgst
          refine st_norm rfl ?_
          refine st_done ?_
          generalize wra16.setCell _ _ = wra18 at HRa17 ⊢
          have HE := grow_end (s := freshR kd nd nc ct) (es := ρ.map RS.enc ++ [([.int .i64 kd, .int .i64 nd, .int .i64 nc, .int .i64 ct, .slice none 0 0] : List Value)]) rfl (fun w => freshR_ok w kd nd nc ct) ((HRa17.pick 6 rfl).pick 1 rfl)
          have HF : Sat w0 wra18 (blk g6 (.cells #[.int .i64 0, .int .i64 0, .int .i64 0, .slice none 0 0] 24 (0, 0)) :: blk g4 (.cells #[.int .i64 0, .int .i64 0, .int .i64 0, .slice none 0 0] 24 (0, 0)) :: blk g3 (.cells #[.int .i64 kd, .int .i64 nd, .int .i64 nc, .int .i64 ix, .int .i64 ct, .slice A m c] 35 (0, 0)) :: rbx g A3 c3 (ρ ++ [freshR kd nd nc ct]) :: pool (RP A3 c3 (ρ ++ [freshR kd nd nc ct]) :: fs) :: L) := by
            have h := ((((((HE.dropAt 1).pick 0 rfl).pick 4 rfl).pick 4 rfl).pick 4 rfl).pick 4 rfl)
            have hlen : (ρ.map RS.enc ++ [([.int .i64 kd, .int .i64 nd, .int .i64 nc, .int .i64 ct, .slice none 0 0] : List Value)]).length = (ρ ++ [freshR kd nd nc ct]).length := by simp
            rw [hlen] at h
            exact h
          have c5 := HRa17.cell 5 0 rfl rfl
          clear HE
          go_wp2_with fail
          go_meet
          case rel => exact ⟨A3, c3, ρ ++ [freshR kd nd nc ct], ρ.length, freshR kd nd nc ct, by simp, StepR.new hl, by simp, HF⟩
      · refine Kd.event_run (v := .slice (some ⟨wt0.heap.size, 0, none⟩) 1 1) (w1 := wt0.alloc (.cells #[.int .i64 kd, .int .i64 nd, .int .i64 nc, .int .i64 ct, .slice none 0 0] 99)) rfl (by go_simp) ?_
        have HRa19 := HT0.box (g := wt0.heap.size) (cs := #[.int .i64 kd, .int .i64 nd, .int .i64 nc, .int .i64 ct, .slice none 0 0]) (t := 99) rfl (blk_new wt0 _) (below_alloc (Below.refl _ _) _)
        generalize hgw : wt0.alloc (.cells #[.int .i64 kd, .int .i64 nd, .int .i64 nc, .int .i64 ct, .slice none 0 0] 99) = wra20 at HRa19 ⊢
        clear hgw
        generalize wt0.heap.size = GKa20 at HRa19 ⊢
        clear HT0
        refine ⟨⟨HRa19.cell 4 0 rfl rfl, HRa19.cell 3 0 rfl rfl, HRa19.cell 3 1 rfl rfl, HRa19.cell 3 2 rfl rfl, HRa19.cell 3 4 rfl rfl⟩, ?_⟩
        refine st_norm (a' := ?_) ?_ ?_; rotate_left; (simp only [Act.put, List.setIfInBounds_toArray, List.set_cons_zero, List.set_cons_succ]; rfl)
        refine st_one (by simp only [List.getElem?_toArray, List.getElem?_cons_succ, List.getElem?_cons_zero]; rfl) ?_
        refine Kd.event_run (v := .slice (some ⟨wra20.heap.size, 0, none⟩) 0 0) (w1 := wra20.alloc (.cells #[] 99)) rfl (by go_simp) ?_
        have HRa21 := (HRa19.box (g := wra20.heap.size) (cs := #[]) (t := 99) rfl (blk_new wra20 _) (below_alloc (Below.refl _ _) _)).emptyRow0 (Kd.raw 5)
        generalize hgw : wra20.alloc (.cells #[] 99) = wra22 at HRa21 ⊢
        clear hgw
        generalize wra20.heap.size = GEa22 at HRa21 ⊢
        clear HRa19
        refine ⟨⟨HRa21.cell 5 0 rfl rfl, HRa21.cell 4 0 rfl rfl, HRa21.cell 4 1 rfl rfl, HRa21.cell 4 2 rfl rfl, HRa21.cell 4 4 rfl rfl⟩, ?_⟩
        refine st_norm (a' := ?_) ?_ ?_; rotate_left; (simp only [Act.put, List.setIfInBounds_toArray, List.set_cons_zero, List.set_cons_succ]; rfl)
        refine st_one (by simp only [List.getElem?_toArray, List.getElem?_cons_succ, List.getElem?_cons_zero]; rfl) ?_
        refine appRow (Kd.raw 5) rfl (.tmp 44) (.tmp 48) 67 99 (.agg #[.int .i64 0, .int .i64 0, .int .i64 0, .int .i64 0, .slice none 0 0]) 56 rfl Try.underlying67 inf99 rfl (by decide) (by decide) _ [] (ρ.map RS.enc) Ay ρ.length cy rfl rfl HRa21 (HRa21.poolGet 6 rfl List.mem_cons_self).2.1 (fun _ _ h => h) (by have := HRL.out; simp; omega) ?_
        intro v wra24 HRa23
        rw [List.nil_append] at HRa23
        obtain ⟨A1, c1, rfl⟩ := HRa23.rowShape 0 rfl
        clear HRa21
        refine ⟨⟨HRa23.cell 5 0 rfl rfl, HRa23.cell 4 0 rfl rfl, HRa23.cell 4 1 rfl rfl, HRa23.cell 4 2 rfl rfl, HRa23.cell 4 4 rfl rfl⟩, ?_⟩
        refine st_norm (a' := ?_) ?_ ?_; rotate_left; (simp only [Act.put, List.setIfInBounds_toArray, List.set_cons_zero, List.set_cons_succ]; rfl)
        have K := rawN_of_blk (sz := 5) (HRa23.block 1 rfl).1 (cs := [.int .i64 kd, .int .i64 nd, .int .i64 nc, .int .i64 ct, .slice none 0 0]) rfl (by intro u hu; simp at hu; rcases hu with rfl | rfl | rfl | rfl | rfl <;> rfl)
        refine st_last (by simp only [List.getElem?_toArray, List.getElem?_cons_succ, List.getElem?_cons_zero]; rfl) ?_
        refine appRow (Kd.raw 5) rfl (.tmp 49) (.tmp 59) 67 99 (.agg #[.int .i64 0, .int .i64 0, .int .i64 0, .int .i64 0, .slice none 0 0]) 56 rfl Try.underlying67 inf99 rfl (by decide) (by decide) _ (ρ.map RS.enc) [([.int .i64 kd, .int .i64 nd, .int .i64 nc, .int .i64 ct, .slice none 0 0] : List Value)] (some ⟨GKa20, 0, none⟩) 1 1 rfl rfl HRa23 K (fun _ _ h => h) (by have := HRL.out; rw [List.length_map]; omega) ?_
        intro v wra26 HRa25
        obtain ⟨A3, c3, rfl⟩ := HRa25.rowShape 0 rfl
        clear HRa23 K
        refine st_norm (a' := ?_) ?_ ?_; rotate_left; (simp only [Act.put, List.setIfInBounds_toArray, List.set_cons_zero, List.set_cons_succ]; rfl)
        repeat (refine st_free (v := ?_) (a' := ?_) (by simp only [List.getElem?_toArray, List.getElem?_cons_succ, List.getElem?_cons_zero]; rfl) (by rfl) ?_ ?_ ?_; rotate_left 2; (intro w'; go_simp; with_reducible rfl); (simp only [Act.put, List.setIfInBounds_toArray, List.set_cons_zero, List.set_cons_succ]; rfl))
        have cgst := HRa25.cell 5 0 rfl rfl
        have fgst := HRa25.frozen 5 0 rfl
        refine st_last (by simp only [List.getElem?_toArray, List.getElem?_cons_succ, List.getElem?_cons_zero]; rfl) ?_
        refine store_event (t := 67) (p := 62) (v := .tmp 60) (w1 := wra26.setCell ⟨g, 0, none⟩ (.slice A3 (ρ.map RS.enc ++ [([.int .i64 kd, .int .i64 nd, .int .i64 nc, .int .i64 ct, .slice none 0 0] : List Value)]).length c3)) rfl rfl rfl (by go_simp) ?_
        rintro _ rfl
        have HRa27 := HRa25.setAt 5 0 (.slice A3 (ρ.map RS.enc ++ [([.int .i64 kd, .int .i64 nd, .int .i64 nc, .int .i64 ct, .slice none 0 0] : List Value)]).length c3) rfl
        clear HRa25 cgst fgst
        refine st_norm rfl ?_
        refine st_done ?_
        generalize wra26.setCell _ _ = wra28 at HRa27 ⊢
        have HE := grow_end (s := freshR kd nd nc ct) (es := ρ.map RS.enc ++ [([.int .i64 kd, .int .i64 nd, .int .i64 nc, .int .i64 ct, .slice none 0 0] : List Value)]) rfl (fun w => freshR_ok w kd nd nc ct) ((HRa27.pick 6 rfl).pick 1 rfl)
        have HF : Sat w0 wra28 (blk g6 (.cells #[.int .i64 0, .int .i64 0, .int .i64 0, .slice none 0 0] 24 (0, 0)) :: blk g4 (.cells #[.int .i64 0, .int .i64 0, .int .i64 0, .slice none 0 0] 24 (0, 0)) :: blk g3 (.cells #[.int .i64 kd, .int .i64 nd, .int .i64 nc, .int .i64 ix, .int .i64 ct, .slice A m c] 35 (0, 0)) :: rbx g A3 c3 (ρ ++ [freshR kd nd nc ct]) :: pool (RP A3 c3 (ρ ++ [freshR kd nd nc ct]) :: fs) :: L) := by
          have h := ((((((HE.dropAt 1).pick 0 rfl).pick 4 rfl).pick 4 rfl).pick 4 rfl).pick 4 rfl)
          have hlen : (ρ.map RS.enc ++ [([.int .i64 kd, .int .i64 nd, .int .i64 nc, .int .i64 ct, .slice none 0 0] : List Value)]).length = (ρ ++ [freshR kd nd nc ct]).length := by simp
          rw [hlen] at h
          exact h
        have c5 := HRa27.cell 5 0 rfl rfl
        clear HE
        go_wp2_with fail
        go_meet
        case rel => exact ⟨A3, c3, ρ ++ [freshR kd nd nc ct], ρ.length, freshR kd nd nc ct, by simp, StepR.new hl, by simp, HF⟩
  case rest =>
    obtain ⟨A1, c1, ρ1, j, s, rfl, hst, hl1, HS6⟩ := hcut
    obtain ⟨w6, rfl⟩ : ∃ w6, w6 = wc := ⟨_, rfl⟩
    have HST := Aside0.mk hst
    obtain ⟨hj, hsk, hsd, _⟩ := hst
    have P6 := HS6.poolGet 4 rfl List.mem_cons_self
    obtain ⟨ad, b, o, rfl, ha, hcs⟩ := P6.at_ j hj
    obtain ⟨k0, k1, k2, k3, k4⟩ := hcs _ P6
    have hjl : j < ρ1.length := (List.getElem?_eq_some_iff.1 hj).1
    have hj1 : decide (j < ρ1.length) = true := decide_eq_true hjl
    have hj2 : decide ((j : Int) < 0) = false := decide_eq_false (by omega)
    have hj3 : decide (ρ1.length ≤ j) = false := decide_eq_false (by omega)
    have HJ := Aside0.mk hj
    have HSK := Aside0.mk (And.intro hsk hsd)
    have HCS := Aside0.mk hcs
    have c0 := HS6.cell 3 0 rfl rfl
    have e0 := HS6.cell 2 0 rfl rfl; have e1 := HS6.cell 2 1 rfl rfl; have e2 := HS6.cell 2 2 rfl rfl; have e3 := HS6.cell 2 3 rfl rfl; have e4 := HS6.cell 2 4 rfl rfl
    clear P6 hj hsk hsd hcs HKA ka
    by_cases h9 : nc < s.nc
    · have h9d : decide (nc < s.nc) = true := decide_eq_true h9
      have HAD := Aside0.mk (HST.out.refuse (bs := bs) HOK.out (by unfold s2of; rw [if_neg (by omega), refuse_iff, h9d]; rfl))
      clear h9
      go_wp2_with (first | ((with_reducible refine gate_dst (N := 8) rfl ?_); refine box_event ?hg7 (N := 8) ?hd7 (cs := #[.int .i64 0, .int .i64 0, .int .i64 0, .int .i64 0, .slice none 0 0]) (t := 99) ?hr7 ?_; (case hd7 => rfl); (case hg7 => rfl); (case hr7 => first | (go_simp; done) | (go_simp; rfl)); intro g8 hg w7 hbox hb; have HS7 := HS6.box hg hbox hb; clear HS6 hg hbox hb c0 k0 k1 k2 k3 k4 e0 e1 e2 e3 e4; have d0 := HS7.cell 0 0 rfl rfl; have d1 := HS7.cell 0 1 rfl rfl; have d2 := HS7.cell 0 2 rfl rfl; have d3 := HS7.cell 0 3 rfl rfl; have d4 := HS7.cell 0 4 rfl rfl; have f0 := HS7.frozen 0 0 rfl; have f1 := HS7.frozen 0 1 rfl; have f2 := HS7.frozen 0 2 rfl; have f3 := HS7.frozen 0 3 rfl; have f4 := HS7.frozen 0 4 rfl) | ((with_reducible refine gate_store (t := 99) (p := 8) rfl ?_); refine store_event (t := 99) (p := 8) (v := ?vo9) (w1 := (((((w7.setCell ⟨g8, 0, none⟩ (.int .i64 s.kd)).setCell ⟨g8, 1, none⟩ (.int .i64 s.nd)).setCell ⟨g8, 2, none⟩ (.int .i64 s.nc)).setCell ⟨g8, 3, none⟩ (.int .i64 s.ct)).setCell ⟨g8, 4, none⟩ (.slice s.A s.came.length s.c))) ?hg9 ?ho9 ?hn9 ?hr9 ?_; (case ho9 => rfl); (case hg9 => rfl); (case hn9 => rfl); (case hr9 => first | (go_simp; done) | (go_simp; rfl)); intro w8 hw; have HS8 := (((((HS7.setAt 0 0 (.int .i64 s.kd) rfl).setAt 0 1 (.int .i64 s.nd) rfl).setAt 0 2 (.int .i64 s.nc) rfl).setAt 0 3 (.int .i64 s.ct) rfl).setAt 0 4 (.slice s.A s.came.length s.c) rfl); rw [← hw] at HS8; clear hw HS7 d0 d1 d2 d3 d4 f0 f1 f2 f3 f4; have d0 := HS8.cell 0 0 rfl rfl; have d1 := HS8.cell 0 1 rfl rfl; have d2 := HS8.cell 0 2 rfl rfl; have d3 := HS8.cell 0 3 rfl rfl; have d4 := HS8.cell 0 4 rfl rfl; have e0 := HS8.cell 3 0 rfl rfl; have e1 := HS8.cell 3 1 rfl rfl; have e2 := HS8.cell 3 2 rfl rfl; have e3 := HS8.cell 3 3 rfl rfl; have e4 := HS8.cell 3 4 rfl rfl; have x0 := HS8.cell 1 0 rfl rfl; have x1 := HS8.cell 1 1 rfl rfl; have x2 := HS8.cell 1 2 rfl rfl; have x3 := HS8.cell 1 3 rfl rfl; have y0 := HS8.cell 2 0 rfl rfl; have y1 := HS8.cell 2 1 rfl rfl; have y2 := HS8.cell 2 2 rfl rfl; have y3 := HS8.cell 2 3 rfl rfl; have z0 := HS8.frozen 2 0 rfl; have z1 := HS8.frozen 2 1 rfl; have z2 := HS8.frozen 2 2 rfl; have z3 := HS8.frozen 2 3 rfl) | ((with_reducible refine gate_store (t := 24) (p := 4) rfl ?_); refine store_event (t := 24) (p := 4) (v := ?vo10) (w1 := ((((w8.setCell ⟨g4, 0, none⟩ (.int .i64 0)).setCell ⟨g4, 1, none⟩ (.int .i64 0)).setCell ⟨g4, 2, none⟩ (.int .i64 0)).setCell ⟨g4, 3, none⟩ (.slice none 0 0))) ?hg10 ?ho10 ?hn10 ?hr10 ?_; (case ho10 => rfl); (case hg10 => rfl); (case hn10 => rfl); (case hr10 => first | (go_simp; done) | (go_simp; rfl)); intro w9 hw; have HS9 := ((((HS8.setAt 2 0 (.int .i64 0) rfl).setAt 2 1 (.int .i64 0) rfl).setAt 2 2 (.int .i64 0) rfl).setAt 2 3 (.slice none 0 0) rfl); rw [← hw] at HS9; clear hw HS8 d0 d1 d2 d3 d4 e0 e1 e2 e3 e4 x0 x1 x2 x3 y0 y1 y2 y3 z0 z1 z2 z3))
      refine bodyPost_ret (results_ct rfl _ _ g4 24 #[.int .i64 0, .int .i64 0, .int .i64 0, .slice none 0 0] (0, 0) _ rfl (HS9.block 2 rfl).1 hu24 rfl rfl) rfl ⟨some ad, c1, ρ1, by rw [HAD.out], .inr ⟨by rw [HAD.out], rfl, HS9.tail.tail.tail.tail⟩⟩
    · have h9d : decide (nc < s.nc) = false := decide_eq_false h9
      go_upto_if 86 with (first | ((with_reducible refine gate_dst (N := 8) rfl ?_); refine box_event ?hg7 (N := 8) ?hd7 (cs := #[.int .i64 0, .int .i64 0, .int .i64 0, .int .i64 0, .slice none 0 0]) (t := 99) ?hr7 ?_; (case hd7 => rfl); (case hg7 => rfl); (case hr7 => first | (go_simp; done) | (go_simp; rfl)); intro g8 hg w7 hbox hb; have HS7 := HS6.box hg hbox hb; clear HS6 hg hbox hb c0 k0 k1 k2 k3 k4 e0 e1 e2 e3 e4; have d0 := HS7.cell 0 0 rfl rfl; have d1 := HS7.cell 0 1 rfl rfl; have d2 := HS7.cell 0 2 rfl rfl; have d3 := HS7.cell 0 3 rfl rfl; have d4 := HS7.cell 0 4 rfl rfl; have f0 := HS7.frozen 0 0 rfl; have f1 := HS7.frozen 0 1 rfl; have f2 := HS7.frozen 0 2 rfl; have f3 := HS7.frozen 0 3 rfl; have f4 := HS7.frozen 0 4 rfl) | ((with_reducible refine gate_store (t := 99) (p := 8) rfl ?_); refine store_event (t := 99) (p := 8) (v := ?vo8) (w1 := (((((w7.setCell ⟨g8, 0, none⟩ (.int .i64 s.kd)).setCell ⟨g8, 1, none⟩ (.int .i64 s.nd)).setCell ⟨g8, 2, none⟩ (.int .i64 s.nc)).setCell ⟨g8, 3, none⟩ (.int .i64 s.ct)).setCell ⟨g8, 4, none⟩ (.slice s.A s.came.length s.c))) ?hg8 ?ho8 ?hn8 ?hr8 ?_; (case ho8 => rfl); (case hg8 => rfl); (case hn8 => rfl); (case hr8 => first | (go_simp; done) | (go_simp; rfl)); intro w8 hw; have HS8 := (((((HS7.setAt 0 0 (.int .i64 s.kd) rfl).setAt 0 1 (.int .i64 s.nd) rfl).setAt 0 2 (.int .i64 s.nc) rfl).setAt 0 3 (.int .i64 s.ct) rfl).setAt 0 4 (.slice s.A s.came.length s.c) rfl); rw [← hw] at HS8; clear hw HS7 d0 d1 d2 d3 d4 f0 f1 f2 f3 f4; have d0 := HS8.cell 0 0 rfl rfl; have d1 := HS8.cell 0 1 rfl rfl; have d2 := HS8.cell 0 2 rfl rfl; have d3 := HS8.cell 0 3 rfl rfl; have d4 := HS8.cell 0 4 rfl rfl; have f0 := HS8.frozen 0 0 rfl; have f1 := HS8.frozen 0 1 rfl; have f2 := HS8.frozen 0 2 rfl; have f3 := HS8.frozen 0 3 rfl; have f4 := HS8.frozen 0 4 rfl; have e0 := HS8.cell 3 0 rfl rfl; have e1 := HS8.cell 3 1 rfl rfl; have e2 := HS8.cell 3 2 rfl rfl; have e3 := HS8.cell 3 3 rfl rfl; have e4 := HS8.cell 3 4 rfl rfl))
      go_cut [] (fun wd => ∃ s2 : RS, s2 = s2of s nc ct ∧ Sat w0 wd (blk g8 (.cells #[.int .i64 s2.kd, .int .i64 s2.nd, .int .i64 s2.nc, .int .i64 s2.ct, .slice s2.A s2.came.length s2.c] 99 (0, 0)) :: blk g6 (.cells #[.int .i64 0, .int .i64 0, .int .i64 0, .slice none 0 0] 24 (0, 0)) :: blk g4 (.cells #[.int .i64 0, .int .i64 0, .int .i64 0, .slice none 0 0] 24 (0, 0)) :: blk g3 (.cells #[.int .i64 kd, .int .i64 nd, .int .i64 nc, .int .i64 ix, .int .i64 ct, .slice A m c] 35 (0, 0)) :: rbx g (some ad) c1 ρ1 :: pool ((fun w => s2.ok w) :: RP (some ad) c1 ρ1 :: fs) :: L))
      case first =>
        have HS8n : Sat w0 w8 (blk g8 (.cells #[.int .i64 s.kd, .int .i64 s.nd, .int .i64 s.nc, .int .i64 s.ct, .slice s.A s.came.length s.c] 99 (0, 0)) :: blk g6 (.cells #[.int .i64 0, .int .i64 0, .int .i64 0, .slice none 0 0] 24 (0, 0)) :: blk g4 (.cells #[.int .i64 0, .int .i64 0, .int .i64 0, .slice none 0 0] 24 (0, 0)) :: blk g3 (.cells #[.int .i64 kd, .int .i64 nd, .int .i64 nc, .int .i64 ix, .int .i64 ct, .slice A m c] 35 (0, 0)) :: rbx g (some ad) c1 ρ1 :: pool (RP (some ad) c1 ρ1 :: fs) :: L) := HS8
        clear HS8
        by_cases hgt : s.nc < nc
        · have hgd1 : decide (s.nc < nc) = true := decide_eq_true hgt
          have HGT := Aside0.mk hgt
          go_wp2_with fail
          go_meet
          case rel =>
            refine ⟨freshR kd nd nc ct, by unfold s2of; rw [if_pos (by have := HGT.out; omega), HSK.out.1, HSK.out.2], ?_⟩
            have HX : Sat w0 _ (blk g8 (.cells #[.int .i64 kd, .int .i64 nd, .int .i64 nc, .int .i64 ct, .slice none 0 0] 99 (0, 0)) :: blk g6 (.cells #[.int .i64 0, .int .i64 0, .int .i64 0, .slice none 0 0] 24 (0, 0)) :: blk g4 (.cells #[.int .i64 0, .int .i64 0, .int .i64 0, .slice none 0 0] 24 (0, 0)) :: blk g3 (.cells #[.int .i64 kd, .int .i64 nd, .int .i64 nc, .int .i64 ix, .int .i64 ct, .slice A m c] 35 (0, 0)) :: rbx g (some ad) c1 ρ1 :: pool (RP (some ad) c1 ρ1 :: fs) :: L) := (((((HS8n.setAt 0 0 (.int .i64 kd) rfl).setAt 0 1 (.int .i64 nd) rfl).setAt 0 2 (.int .i64 nc) rfl).setAt 0 3 (.int .i64 ct) rfl).setAt 0 4 (.slice none 0 0) rfl)
            exact HX.okPool (fun w => freshR_ok w _ _ _ _)
        · have hgd1 : decide (s.nc < nc) = false := decide_eq_false hgt
          have HGT := Aside0.mk hgt
          go_wp2_with fail
          go_meet
          case rel =>
            refine ⟨s, by unfold s2of; rw [if_neg (by have := HGT.out; omega)], ?_⟩
            exact HS8n.okPoolOf (List.mem_of_getElem? HJ.out)
      case rest =>
        obtain ⟨s2, hs2, HS9⟩ := hcut
        obtain ⟨w9, rfl⟩ : ∃ w9, w9 = wc := ⟨_, rfl⟩
        have HS2 := Aside0.mk hs2
        have HN2 := Aside0.mk (show s2.kd = kd ∧ s2.nd = nd ∧ s2.nc = nc from by
          rw [hs2]
          unfold s2of
          by_cases hgt : s.nc < nc
          · rw [if_pos hgt]; exact ⟨HSK.out.1, HSK.out.2, rfl⟩
          · rw [if_neg hgt]; exact ⟨HSK.out.1, HSK.out.2, by omega⟩)
        have HW2 := Aside0.mk (show SlotOk (rer1 s2) from by rw [hs2]; exact slot2_ok HST.out HWF.out ho1 ho2)
        clear hs2
        have d0 := HS9.cell 0 0 rfl rfl; have d1 := HS9.cell 0 1 rfl rfl; have d2 := HS9.cell 0 2 rfl rfl; have d3 := HS9.cell 0 3 rfl rfl; have d4 := HS9.cell 0 4 rfl rfl; have e0 := HS9.cell 3 0 rfl rfl; have e1 := HS9.cell 3 1 rfl rfl; have e2 := HS9.cell 3 2 rfl rfl; have e3 := HS9.cell 3 3 rfl rfl; have e4 := HS9.cell 3 4 rfl rfl; have e5 := HS9.cell 3 5 rfl rfl
        by_cases h13 : ct = s2.ct
        · have h13a : (ct == s2.ct) = true := by simpa using h13
          have h13b : (ct != s2.ct) = false := by simpa using h13
          have H13 := Aside0.mk h13
          have hlen2 : s2.came.length ≤ 86 := by
            have h1 := slot_len2 HW2.out
            have h2 : (rer1 s2).2.2.2.length = s2.came.length := by unfold rer1; simp
            rw [h2] at h1
            exact h1
          clear h13
          go_wp2_with fail
          clear d0 e0 d1 e1 d2 e2 d3 e3 d4 e4 e5
          go_loopw [9] (fun v9 wr => ∃ i : Nat, v9 = .int .i64 i ∧ i ≤ s2.came.length ∧ Aside0 (∀ p ∈ s2.came.take i, p.ix ≠ ix) ∧ Sat w0 wr (blk g8 (.cells #[.int .i64 s2.kd, .int .i64 s2.nd, .int .i64 s2.nc, .int .i64 s2.ct, .slice s2.A s2.came.length s2.c] 99 (0, 0)) :: blk g6 (.cells #[.int .i64 0, .int .i64 0, .int .i64 0, .slice none 0 0] 24 (0, 0)) :: blk g4 (.cells #[.int .i64 0, .int .i64 0, .int .i64 0, .slice none 0 0] 24 (0, 0)) :: blk g3 (.cells #[.int .i64 kd, .int .i64 nd, .int .i64 nc, .int .i64 ix, .int .i64 ct, .slice A m c] 35 (0, 0)) :: rbx g (some ad) c1 ρ1 :: pool ((fun w => s2.ok w) :: RP (some ad) c1 ρ1 :: fs) :: L)) (fun v9 _ => s2.came.length - (intOf v9).toNat)
          case atStart => exact ⟨0, rfl, Nat.zero_le _, Aside0.mk (fun p hp => by simp at hp), HS9⟩
          case round =>
            obtain ⟨i, rfl, hi, hnd, HT⟩ := hrel
            clear HS9
            by_cases hin : i < s2.came.length
            · have h1e : decide (i < s2.came.length) = true := decide_eq_true hin
              have h1f : decide ((i : Int) < (s2.came.length : Int)) = true := decide_eq_true (by omega)
              obtain ⟨f, hf⟩ : ∃ f, s2.came[i]? = some f := ⟨_, List.getElem?_eq_getElem hin⟩
              have PT := HT.poolGet 5 rfl List.mem_cons_self
              obtain ⟨ad2, b2, o2, hA2, ha2, hcf⟩ := RS.at_ PT i hf
              have HF := Aside0.mk hf
              have HA2 := Aside0.mk hA2
              have HCF := Aside0.mk hcf
              have d4 := HT.cell 0 4 rfl rfl
              clear hf PT hA2 hcf
              go_wp2_with fail
              refine region (frees [0, 2, 6] (helds [1, 7] (frees [3, 4] (helds [5] (frees [8] .done))))) (fun w' => w'.cell? ⟨g8, 4, none⟩ = some (.slice (some ad2) s2.came.length s2.c) ∧ w'.cell? ⟨b2, o2 + 3, none⟩ = some (.int .i64 f.ix) ∧ w'.cell? ⟨g3, 3, none⟩ = some (.int .i64 ix)) [] (by kernel_rfl) (by kernel_rfl) ?_
              have HT1 := HT.drew
              generalize World.drew _ = wt1 at HT1 ⊢
              clear HT d4
              have k0 : wt1.cell? ⟨g8, 4, none⟩ = some (.slice (some ad2) s2.came.length s2.c) := by
                have h := HT1.cell 0 4 rfl rfl
                rw [HA2.out] at h
                exact h
              have k1 := (HCF.out _ (HT1.poolGet 5 rfl List.mem_cons_self)).1
              have k2 : wt1.cell? ⟨g3, 3, none⟩ = some (.int .i64 ix) := HT1.cell 3 3 rfl rfl
              have hiw : IntKind.i64.wrap (i : Int) = i := Go.IntWalk.i64_in _ (by omega)
              by_cases hfx : f.ix = ix
              · have hfx1 : (f.ix == ix) = true := by simpa using hfx
                have HAD := Aside0.mk (HST.out.refuse (bs := bs) HOK.out (by rw [← HS2.out, refuse_iff, lookP_here (p := rerF f) (List.mem_map_of_mem (List.mem_of_getElem? HF.out)) hfx]; simp))
                clear hfx
                repeat (first | (refine st_free (v := ?_) (a' := ?_) (by simp only [List.getElem?_toArray, List.getElem?_cons_succ, List.getElem?_cons_zero]; rfl) (by rfl) ?_ ?_ ?_; rotate_left 2; (intro w'; go_simp; with_reducible rfl); (simp only [Act.put, List.setIfInBounds_toArray, List.set_cons_zero, List.set_cons_succ]; rfl)) | (refine st_held (v := ?_) (a' := ?_) ⟨k0, k1, k2⟩ (by simp only [List.getElem?_toArray, List.getElem?_cons_succ, List.getElem?_cons_zero]; rfl) (by rfl) ?_ ?_ ?_; rotate_left 2; (rintro w' ⟨z0, z1, z2⟩; go_simp; with_reducible rfl); (simp only [Act.put, List.setIfInBounds_toArray, List.set_cons_zero, List.set_cons_succ]; rfl)))
                refine st_done ?_
                clear k0 k1 k2 hiw
                have x0 := HT1.cell 1 0 rfl rfl; have x1 := HT1.cell 1 1 rfl rfl; have x2 := HT1.cell 1 2 rfl rfl; have x3 := HT1.cell 1 3 rfl rfl; have y0 := HT1.cell 2 0 rfl rfl; have y1 := HT1.cell 2 1 rfl rfl; have y2 := HT1.cell 2 2 rfl rfl; have y3 := HT1.cell 2 3 rfl rfl; have z0 := HT1.frozen 2 0 rfl; have z1 := HT1.frozen 2 1 rfl; have z2 := HT1.frozen 2 2 rfl; have z3 := HT1.frozen 2 3 rfl
                go_wp2_with (first | ((with_reducible refine gate_store (t := 24) (p := 4) rfl ?_); refine store_event (t := 24) (p := 4) (v := ?vo12) (w1 := ((((wt1.setCell ⟨g4, 0, none⟩ (.int .i64 0)).setCell ⟨g4, 1, none⟩ (.int .i64 0)).setCell ⟨g4, 2, none⟩ (.int .i64 0)).setCell ⟨g4, 3, none⟩ (.slice none 0 0))) ?hg12 ?ho12 ?hn12 ?hr12 ?_; (case ho12 => rfl); (case hg12 => rfl); (case hn12 => rfl); (case hr12 => first | (go_simp; done) | (go_simp; rfl)); intro wt2 hw; have HT2 := ((((HT1.setAt 2 0 (.int .i64 0) rfl).setAt 2 1 (.int .i64 0) rfl).setAt 2 2 (.int .i64 0) rfl).setAt 2 3 (.slice none 0 0) rfl); rw [← hw] at HT2; clear hw HT1 x0 x1 x2 x3 y0 y1 y2 y3 z0 z1 z2 z3))
                refine bodyPost_ret (results_ct rfl _ _ g4 24 #[.int .i64 0, .int .i64 0, .int .i64 0, .slice none 0 0] (0, 0) _ rfl (HT2.block 2 rfl).1 hu24 rfl rfl) rfl ⟨some ad, c1, ρ1, by rw [HAD.out], .inr ⟨by rw [HAD.out], rfl, HT2.tail.tail.tail.tail.poolTail⟩⟩
              · have hfx1 : (f.ix == ix) = false := by simpa using hfx
                have HNF := Aside0.mk hfx
                clear hfx
                repeat (first | (refine st_free (v := ?_) (a' := ?_) (by simp only [List.getElem?_toArray, List.getElem?_cons_succ, List.getElem?_cons_zero]; rfl) (by rfl) ?_ ?_ ?_; rotate_left 2; (intro w'; go_simp; with_reducible rfl); (simp only [Act.put, List.setIfInBounds_toArray, List.set_cons_zero, List.set_cons_succ]; rfl)) | (refine st_held (v := ?_) (a' := ?_) ⟨k0, k1, k2⟩ (by simp only [List.getElem?_toArray, List.getElem?_cons_succ, List.getElem?_cons_zero]; rfl) (by rfl) ?_ ?_ ?_; rotate_left 2; (rintro w' ⟨z0, z1, z2⟩; go_simp; with_reducible rfl); (simp only [Act.put, List.setIfInBounds_toArray, List.set_cons_zero, List.set_cons_succ]; rfl)))
                refine st_done ?_
                clear k0 k1 k2 hiw
                go_wp2_with fail
                exact ⟨⟨i + 1, by rw [Int.natCast_add]; rfl, by omega, Aside0.mk (fun p hp => by
                  rw [List.take_add_one, HF.out] at hp
                  rcases List.mem_append.1 hp with hp | hp
                  · exact hnd.out p hp
                  · have : p = f := by simpa using hp
                    rw [this]; exact HNF.out), HT1⟩, by simp [intOf]; omega⟩
            · have h1e : decide (i < s2.came.length) = false := decide_eq_false hin
              have h1f : decide ((i : Int) < (s2.came.length : Int)) = false := decide_eq_false (by omega)
              have HND := Aside0.mk (show lookP ix (s2.came.map rerF) = none from lookP_snoc (fun p hp => by
                obtain ⟨f, hf, rfl⟩ := List.mem_map.1 hp
                exact hnd.out f (by rw [List.take_of_length_le (by omega)]; exact hf)))
              clear hnd hin hi
              have d4 := HT.cell 0 4 rfl rfl
              go_upto_region 21 with (first | ((with_reducible refine gate_dst (N := 119) rfl ?_); refine box_event2 ?hg14 (N := 119) ?hd14 (v := fun g => .slice (some ⟨g, 0, none⟩) 0 0) (cs := #[]) (t := 5) ?hr14 ?_; (case hd14 => rfl); (case hg14 => rfl); (case hr14 => first | (go_simp; done) | (go_simp; rfl)); intro g119 hg wa hbox hb; have HT1' := HT.box hg hbox hb; clear HT hg hbox hb d4; have HT1 := HT1'.emptyRow0 kB; clear HT1'; have e5 := HT1.cell 4 5 rfl rfl) | ((with_reducible refine gate_builtin (b := .append) (xs := #[.tmp 119, .tmp 121]) rfl ?_); refine appRow kB rfl (.tmp 119) (.tmp 121) 22 5 (.int .u8 0) 1 rfl Try.underlying22 inf5 rfl (by decide) (by decide) _ [] bs A m c rfl rfl HT1 (Kd.C_below HR.out HT1.below) (fun _ _ h => h) (by have := HBL.out; have := HR.out.1; simp; omega) ?_; intro vb wb HT2; rw [List.nil_append] at HT2; clear HT1 e5; obtain ⟨A4, c4, rfl⟩ := HT2.rowShape 0 rfl; have e5 := HT2.cell 4 5 rfl rfl; have f5 := HT2.frozen 4 5 rfl) | ((with_reducible refine gate_store (t := 22) (p := 123) rfl ?_); refine store_event (t := 22) (p := 123) (v := ?vo15) (w1 := (wb.setCell ⟨g3, 5, none⟩ (.slice A4 bs.length c4))) ?hg15 ?ho15 ?hn15 ?hr15 ?_; (case ho15 => rfl); (case hg15 => rfl); (case hn15 => rfl); (case hr15 => first | (go_simp; done) | (go_simp; rfl)); intro wc3 hw; have HT3 := (HT2.setAt 4 5 (.slice A4 bs.length c4) rfl); rw [← hw] at HT3; clear hw HT2 e5 f5))
              have HT4 : Sat w0 wc3 (blk g8 (.cells #[.int .i64 s2.kd, .int .i64 s2.nd, .int .i64 s2.nc, .int .i64 s2.ct, .slice s2.A s2.came.length s2.c] 99 (0, 0)) :: blk g6 (.cells #[.int .i64 0, .int .i64 0, .int .i64 0, .slice none 0 0] 24 (0, 0)) :: blk g4 (.cells #[.int .i64 0, .int .i64 0, .int .i64 0, .slice none 0 0] 24 (0, 0)) :: blk g3 (.cells #[.int .i64 kd, .int .i64 nd, .int .i64 nc, .int .i64 ix, .int .i64 ct, .slice A4 bs.length c4] 35 (0, 0)) :: rbx g (some ad) c1 ρ1 :: pool ((fun w => RF.ok w (⟨A4, c4, kd, nd, nc, ix, ct, bs⟩ : RF)) :: (fun w => s2.ok w) :: RP (some ad) c1 ρ1 :: fs) :: L) := by
                have h1 : Sat w0 wc3 (pool ((fun w => RF.ok w (⟨A4, c4, kd, nd, nc, ix, ct, bs⟩ : RF)) :: (fun w => s2.ok w) :: RP (some ad) c1 ρ1 :: fs) :: _) := (((HT3.pick 6 rfl).pick 1 rfl).poolRow).poolMap (fun w' hw g hg => by
                  rcases List.mem_cons.1 hg with rfl | hg
                  · exact (hw _ List.mem_cons_self).2
                  · exact hw g (List.mem_cons_of_mem _ hg))
                exact ((((h1.pick 5 rfl).pick 5 rfl).pick 5 rfl).pick 5 rfl).pick 5 rfl
              clear HT3
              go_cut [] (fun wd => ∃ s3 : RS, s3.kd = s2.kd ∧ s3.nd = s2.nd ∧ s3.nc = s2.nc ∧ s3.ct = s2.ct ∧ s3.came = s2.came ++ [(⟨A4, c4, kd, nd, nc, ix, ct, bs⟩ : RF)] ∧ Sat w0 wd (blk g8 (.cells #[.int .i64 s3.kd, .int .i64 s3.nd, .int .i64 s3.nc, .int .i64 s3.ct, .slice s3.A s3.came.length s3.c] 99 (0, 0)) :: blk g6 (.cells #[.int .i64 0, .int .i64 0, .int .i64 0, .slice none 0 0] 24 (0, 0)) :: blk g4 (.cells #[.int .i64 0, .int .i64 0, .int .i64 0, .slice none 0 0] 24 (0, 0)) :: blk g3 (.cells #[.int .i64 kd, .int .i64 nd, .int .i64 nc, .int .i64 ix, .int .i64 ct, .slice A4 bs.length c4] 35 (0, 0)) :: rbx g (some ad) c1 ρ1 :: pool ((fun w => s3.ok w) :: RP (some ad) c1 ρ1 :: fs) :: L))
              case first =>
                refine region (.free 1 (helds [2, 4] (.two 0 5 (.two 3 5 (.one 5 (.last 6 (frees [7] (.last 8 .done)))) (.one 3 (.last 6 (frees [7] (.last 8 .done))))) (.one 0 (.one 3 (.last 6 (frees [7] (.last 8 .done)))))))) (fun w' => w'.cell? ⟨g8, 4, none⟩ = some (.slice s2.A s2.came.length s2.c) ∧ w'.cell? ⟨g3, 0, none⟩ = some (.int .i64 kd) ∧ w'.cell? ⟨g3, 1, none⟩ = some (.int .i64 nd) ∧ w'.cell? ⟨g3, 2, none⟩ = some (.int .i64 nc) ∧ w'.cell? ⟨g3, 3, none⟩ = some (.int .i64 ix) ∧ w'.cell? ⟨g3, 4, none⟩ = some (.int .i64 ct) ∧ w'.cell? ⟨g3, 5, none⟩ = some (.slice A4 bs.length c4)) [6, 8] (by kernel_rfl) (by kernel_rfl) ?_
                have HB0 := HT4.drew
                generalize World.drew _ = wb0 at HB0 ⊢
                clear HT4
                have k0 := HB0.cell 0 4 rfl rfl
                have k1 := HB0.cell 3 0 rfl rfl; have k2 := HB0.cell 3 1 rfl rfl; have k3 := HB0.cell 3 2 rfl rfl; have k4 := HB0.cell 3 3 rfl rfl; have k5 := HB0.cell 3 4 rfl rfl; have k6 := HB0.cell 3 5 rfl rfl
                repeat (first | (refine st_free (v := ?_) (a' := ?_) (by simp only [List.getElem?_toArray, List.getElem?_cons_succ, List.getElem?_cons_zero]; rfl) (by rfl) ?_ ?_ ?_; rotate_left 2; (intro w'; go_simp; with_reducible rfl); (simp only [Act.put, List.setIfInBounds_toArray, List.set_cons_zero, List.set_cons_succ]; rfl)) | (refine st_held (v := ?_) (a' := ?_) ⟨k0, k1, k2, k3, k4, k5, k6⟩ (by simp only [List.getElem?_toArray, List.getElem?_cons_succ, List.getElem?_cons_zero]; rfl) (by rfl) ?_ ?_ ?_; rotate_left 2; (rintro w' ⟨z0, z1, z2, z3, z4, z5, z6⟩; go_simp; with_reducible rfl); (simp only [Act.put, List.setIfInBounds_toArray, List.set_cons_zero, List.set_cons_succ]; rfl)))
                clear k0 k1 k2 k3 k4 k5 k6
                refine st_two (by simp only [List.getElem?_toArray, List.getElem?_cons_succ, List.getElem?_cons_zero]; rfl) (by simp only [List.getElem?_toArray, List.getElem?_cons_succ, List.getElem?_cons_zero]; rfl) ?_ ?_
                · refine Kd.event_run (v := .slice (some ⟨wb0.heap.size, 0, none⟩) 0 0) (w1 := wb0.alloc (.cells #[] 35)) rfl (by go_simp) ?_
                  have HRb1 := (HB0.box (g := wb0.heap.size) (cs := #[]) (t := 35) rfl (blk_new wb0 _) (below_alloc (Below.refl _ _) _)).emptyRow0 (Kd.raw 6)
                  generalize hgw : wb0.alloc (.cells #[] 35) = wrb2 at HRb1 ⊢
                  clear hgw
                  generalize wb0.heap.size = GEb2 at HRb1 ⊢
                  clear HB0
                  refine ⟨⟨HRb1.cell 1 4 rfl rfl, HRb1.cell 4 0 rfl rfl, HRb1.cell 4 1 rfl rfl, HRb1.cell 4 2 rfl rfl, HRb1.cell 4 3 rfl rfl, HRb1.cell 4 4 rfl rfl, HRb1.cell 4 5 rfl rfl⟩, ?_⟩
                  refine st_norm (a' := ?_) ?_ ?_; rotate_left; (simp only [Act.put, List.setIfInBounds_toArray, List.set_cons_zero, List.set_cons_succ]; rfl)
                  refine st_two (by simp only [List.getElem?_toArray, List.getElem?_cons_succ, List.getElem?_cons_zero]; rfl) (by simp only [List.getElem?_toArray, List.getElem?_cons_succ, List.getElem?_cons_zero]; rfl) ?_ ?_
                  · refine appRow (Kd.raw 6) rfl (.tmp 124) (.tmp 126) 65 35 (.agg #[.int .i64 0, .int .i64 0, .int .i64 0, .int .i64 0, .int .i64 0, .slice none 0 0]) 64 rfl Try.underlying65 inf35 rfl (by decide) (by decide) _ [] (s2.came.map RF.enc) s2.A s2.came.length s2.c rfl rfl HRb1 (HRb1.poolGet 6 rfl (List.mem_cons_of_mem _ List.mem_cons_self)).2.1 (fun _ _ h => h) (by simp; omega) ?_
                    intro v wrb4 HRb3
                    rw [List.nil_append] at HRb3
                    obtain ⟨A1, c1, rfl⟩ := HRb3.rowShape 0 rfl
                    clear HRb1
                    refine ⟨⟨HRb3.cell 1 4 rfl rfl, HRb3.cell 4 0 rfl rfl, HRb3.cell 4 1 rfl rfl, HRb3.cell 4 2 rfl rfl, HRb3.cell 4 3 rfl rfl, HRb3.cell 4 4 rfl rfl, HRb3.cell 4 5 rfl rfl⟩, ?_⟩
                    refine st_norm (a' := ?_) ?_ ?_; rotate_left; (simp only [Act.put, List.setIfInBounds_toArray, List.set_cons_zero, List.set_cons_succ]; rfl)
                    refine st_one (by simp only [List.getElem?_toArray, List.getElem?_cons_succ, List.getElem?_cons_zero]; rfl) ?_
                    refine Kd.event_run (v := .slice (some ⟨wrb4.heap.size, 0, none⟩) 1 1) (w1 := wrb4.alloc (.cells #[.int .i64 kd, .int .i64 nd, .int .i64 nc, .int .i64 ix, .int .i64 ct, .slice A4 bs.length c4] 35)) rfl (by go_simp) ?_
                    have HRb5 := HRb3.box (g := wrb4.heap.size) (cs := #[.int .i64 kd, .int .i64 nd, .int .i64 nc, .int .i64 ix, .int .i64 ct, .slice A4 bs.length c4]) (t := 35) rfl (blk_new wrb4 _) (below_alloc (Below.refl _ _) _)
                    generalize hgw : wrb4.alloc (.cells #[.int .i64 kd, .int .i64 nd, .int .i64 nc, .int .i64 ix, .int .i64 ct, .slice A4 bs.length c4] 35) = wrb6 at HRb5 ⊢
                    clear hgw
                    generalize wrb4.heap.size = GKb6 at HRb5 ⊢
                    clear HRb3
                    refine ⟨⟨HRb5.cell 2 4 rfl rfl, HRb5.cell 5 0 rfl rfl, HRb5.cell 5 1 rfl rfl, HRb5.cell 5 2 rfl rfl, HRb5.cell 5 3 rfl rfl, HRb5.cell 5 4 rfl rfl, HRb5.cell 5 5 rfl rfl⟩, ?_⟩
                    refine st_norm (a' := ?_) ?_ ?_; rotate_left; (simp only [Act.put, List.setIfInBounds_toArray, List.set_cons_zero, List.set_cons_succ]; rfl)
                    have K := rawN_of_blk (sz := 6) (HRb5.block 0 rfl).1 (cs := [.int .i64 kd, .int .i64 nd, .int .i64 nc, .int .i64 ix, .int .i64 ct, .slice A4 bs.length c4]) rfl (by intro u hu; simp at hu; rcases hu with rfl | rfl | rfl | rfl | rfl | rfl <;> rfl)
                    refine st_last (by simp only [List.getElem?_toArray, List.getElem?_cons_succ, List.getElem?_cons_zero]; rfl) ?_
                    refine appRow (Kd.raw 6) rfl (.tmp 127) (.tmp 129) 65 35 (.agg #[.int .i64 0, .int .i64 0, .int .i64 0, .int .i64 0, .int .i64 0, .slice none 0 0]) 64 rfl Try.underlying65 inf35 rfl (by decide) (by decide) _ (s2.came.map RF.enc) [([.int .i64 kd, .int .i64 nd, .int .i64 nc, .int .i64 ix, .int .i64 ct, .slice A4 bs.length c4] : List Value)] (some ⟨GKb6, 0, none⟩) 1 1 rfl rfl (HRb5.pick 1 rfl) K (fun _ _ h => h) (by rw [List.length_map]; omega) ?_
                    intro v wrb8 HRb7
                    obtain ⟨A3, c3, rfl⟩ := HRb7.rowShape 0 rfl
                    clear HRb5 K
                    refine st_norm (a' := ?_) ?_ ?_; rotate_left; (simp only [Act.put, List.setIfInBounds_toArray, List.set_cons_zero, List.set_cons_succ]; rfl)
                    repeat (refine st_free (v := ?_) (a' := ?_) (by simp only [List.getElem?_toArray, List.getElem?_cons_succ, List.getElem?_cons_zero]; rfl) (by rfl) ?_ ?_ ?_; rotate_left 2; (intro w'; go_simp; with_reducible rfl); (simp only [Act.put, List.setIfInBounds_toArray, List.set_cons_zero, List.set_cons_succ]; rfl))
                    have cgst := HRb7.cell 2 4 rfl rfl
                    have fgst := HRb7.frozen 2 4 rfl
                    refine st_last (by simp only [List.getElem?_toArray, List.getElem?_cons_succ, List.getElem?_cons_zero]; rfl) ?_
                    refine store_event (t := 65) (p := 131) (v := .tmp 130) (w1 := wrb8.setCell ⟨g8, 4, none⟩ (.slice A3 (s2.came.map RF.enc ++ [([.int .i64 kd, .int .i64 nd, .int .i64 nc, .int .i64 ix, .int .i64 ct, .slice A4 bs.length c4] : List Value)]).length c3)) rfl rfl rfl (by go_simp) ?_
                    rintro _ rfl
                    have HRb9 := HRb7.setAt 2 4 (.slice A3 (s2.came.map RF.enc ++ [([.int .i64 kd, .int .i64 nd, .int .i64 nc, .int .i64 ix, .int .i64 ct, .slice A4 bs.length c4] : List Value)]).length c3) rfl
                    clear HRb7 cgst fgst
                    refine st_norm rfl ?_
                    refine st_done ?_
                    generalize wrb8.setCell _ _ = wrb10 at HRb9 ⊢
                    have HE := came_end (s2 := s2) (s3 := ⟨A3, c3, s2.kd, s2.nd, s2.nc, s2.ct, s2.came ++ [(⟨A4, c4, kd, nd, nc, ix, ct, bs⟩ : RF)]⟩) (f := (⟨A4, c4, kd, nd, nc, ix, ct, bs⟩ : RF)) (es := s2.came.map RF.enc ++ [([.int .i64 kd, .int .i64 nd, .int .i64 nc, .int .i64 ix, .int .i64 ct, .slice A4 bs.length c4] : List Value)]) rfl ⟨rfl, rfl, rfl⟩ ((HRb9.pick 7 rfl).pick 1 rfl)
                    (try go_wp2_with fail)
                    go_meet
                    case rel =>
                      refine ⟨⟨A3, c3, s2.kd, s2.nd, s2.nc, s2.ct, s2.came ++ [(⟨A4, c4, kd, nd, nc, ix, ct, bs⟩ : RF)]⟩, rfl, rfl, rfl, rfl, rfl, ?_⟩
                      have h := (((((((HE.dropAt 1).pick 0 rfl).pick 5 rfl).pick 5 rfl).pick 5 rfl).pick 5 rfl).pick 5 rfl)
                      have hlen : (s2.came.map RF.enc ++ [([.int .i64 kd, .int .i64 nd, .int .i64 nc, .int .i64 ix, .int .i64 ct, .slice A4 bs.length c4] : List Value)]).length = (s2.came ++ [(⟨A4, c4, kd, nd, nc, ix, ct, bs⟩ : RF)]).length := by simp
                      rw [hlen] at h
                      exact h
                  · refine Kd.event_run (v := .slice (some ⟨wrb2.heap.size, 0, none⟩) 1 1) (w1 := wrb2.alloc (.cells #[.int .i64 kd, .int .i64 nd, .int .i64 nc, .int .i64 ix, .int .i64 ct, .slice A4 bs.length c4] 35)) rfl (by go_simp) ?_
                    have HRb11 := HRb1.box (g := wrb2.heap.size) (cs := #[.int .i64 kd, .int .i64 nd, .int .i64 nc, .int .i64 ix, .int .i64 ct, .slice A4 bs.length c4]) (t := 35) rfl (blk_new wrb2 _) (below_alloc (Below.refl _ _) _)
                    generalize hgw : wrb2.alloc (.cells #[.int .i64 kd, .int .i64 nd, .int .i64 nc, .int .i64 ix, .int .i64 ct, .slice A4 bs.length c4] 35) = wrb12 at HRb11 ⊢
                    clear hgw
                    generalize wrb2.heap.size = GKb12 at HRb11 ⊢
                    clear HRb1
                    refine ⟨⟨HRb11.cell 2 4 rfl rfl, HRb11.cell 5 0 rfl rfl, HRb11.cell 5 1 rfl rfl, HRb11.cell 5 2 rfl rfl, HRb11.cell 5 3 rfl rfl, HRb11.cell 5 4 rfl rfl, HRb11.cell 5 5 rfl rfl⟩, ?_⟩
                    refine st_norm (a' := ?_) ?_ ?_; rotate_left; (simp only [Act.put, List.setIfInBounds_toArray, List.set_cons_zero, List.set_cons_succ]; rfl)
                    refine st_one (by simp only [List.getElem?_toArray, List.getElem?_cons_succ, List.getElem?_cons_zero]; rfl) ?_
                    refine appRow (Kd.raw 6) rfl (.tmp 124) (.tmp 126) 65 35 (.agg #[.int .i64 0, .int .i64 0, .int .i64 0, .int .i64 0, .int .i64 0, .slice none 0 0]) 64 rfl Try.underlying65 inf35 rfl (by decide) (by decide) _ [] (s2.came.map RF.enc) s2.A s2.came.length s2.c rfl rfl (HRb11.pick 1 rfl) (HRb11.poolGet 7 rfl (List.mem_cons_of_mem _ List.mem_cons_self)).2.1 (fun _ _ h => h) (by simp; omega) ?_
                    intro v wrb14 HRb13
                    rw [List.nil_append] at HRb13
                    obtain ⟨A1, c1, rfl⟩ := HRb13.rowShape 0 rfl
                    clear HRb11
                    refine ⟨⟨HRb13.cell 2 4 rfl rfl, HRb13.cell 5 0 rfl rfl, HRb13.cell 5 1 rfl rfl, HRb13.cell 5 2 rfl rfl, HRb13.cell 5 3 rfl rfl, HRb13.cell 5 4 rfl rfl, HRb13.cell 5 5 rfl rfl⟩, ?_⟩
                    refine st_norm (a' := ?_) ?_ ?_; rotate_left; (simp only [Act.put, List.setIfInBounds_toArray, List.set_cons_zero, List.set_cons_succ]; rfl)
                    have K := rawN_of_blk (sz := 6) (HRb13.block 1 rfl).1 (cs := [.int .i64 kd, .int .i64 nd, .int .i64 nc, .int .i64 ix, .int .i64 ct, .slice A4 bs.length c4]) rfl (by intro u hu; simp at hu; rcases hu with rfl | rfl | rfl | rfl | rfl | rfl <;> rfl)
                    refine st_last (by simp only [List.getElem?_toArray, List.getElem?_cons_succ, List.getElem?_cons_zero]; rfl) ?_
                    refine appRow (Kd.raw 6) rfl (.tmp 127) (.tmp 129) 65 35 (.agg #[.int .i64 0, .int .i64 0, .int .i64 0, .int .i64 0, .int .i64 0, .slice none 0 0]) 64 rfl Try.underlying65 inf35 rfl (by decide) (by decide) _ (s2.came.map RF.enc) [([.int .i64 kd, .int .i64 nd, .int .i64 nc, .int .i64 ix, .int .i64 ct, .slice A4 bs.length c4] : List Value)] (some ⟨GKb12, 0, none⟩) 1 1 rfl rfl HRb13 K (fun _ _ h => h) (by rw [List.length_map]; omega) ?_
                    intro v wrb16 HRb15
                    obtain ⟨A3, c3, rfl⟩ := HRb15.rowShape 0 rfl
                    clear HRb13 K
                    refine st_norm (a' := ?_) ?_ ?_; rotate_left; (simp only [Act.put, List.setIfInBounds_toArray, List.set_cons_zero, List.set_cons_succ]; rfl)
                    repeat (refine st_free (v := ?_) (a' := ?_) (by simp only [List.getElem?_toArray, List.getElem?_cons_succ, List.getElem?_cons_zero]; rfl) (by rfl) ?_ ?_ ?_; rotate_left 2; (intro w'; go_simp; with_reducible rfl); (simp only [Act.put, List.setIfInBounds_toArray, List.set_cons_zero, List.set_cons_succ]; rfl))
                    have cgst := HRb15.cell 2 4 rfl rfl
                    have fgst := HRb15.frozen 2 4 rfl
                    refine st_last (by simp only [List.getElem?_toArray, List.getElem?_cons_succ, List.getElem?_cons_zero]; rfl) ?_
                    refine store_event (t := 65) (p := 131) (v := .tmp 130) (w1 := wrb16.setCell ⟨g8, 4, none⟩ (.slice A3 (s2.came.map RF.enc ++ [([.int .i64 kd, .int .i64 nd, .int .i64 nc, .int .i64 ix, .int .i64 ct, .slice A4 bs.length c4] : List Value)]).length c3)) rfl rfl rfl (by go_simp) ?_
                    rintro _ rfl
                    have HRb17 := HRb15.setAt 2 4 (.slice A3 (s2.came.map RF.enc ++ [([.int .i64 kd, .int .i64 nd, .int .i64 nc, .int .i64 ix, .int .i64 ct, .slice A4 bs.length c4] : List Value)]).length c3) rfl
                    clear HRb15 cgst fgst
                    refine st_norm rfl ?_
                    refine st_done ?_
                    generalize wrb16.setCell _ _ = wrb18 at HRb17 ⊢
                    have HE := came_end (s2 := s2) (s3 := ⟨A3, c3, s2.kd, s2.nd, s2.nc, s2.ct, s2.came ++ [(⟨A4, c4, kd, nd, nc, ix, ct, bs⟩ : RF)]⟩) (f := (⟨A4, c4, kd, nd, nc, ix, ct, bs⟩ : RF)) (es := s2.came.map RF.enc ++ [([.int .i64 kd, .int .i64 nd, .int .i64 nc, .int .i64 ix, .int .i64 ct, .slice A4 bs.length c4] : List Value)]) rfl ⟨rfl, rfl, rfl⟩ ((HRb17.pick 7 rfl).pick 1 rfl)
                    (try go_wp2_with fail)
                    go_meet
                    case rel =>
                      refine ⟨⟨A3, c3, s2.kd, s2.nd, s2.nc, s2.ct, s2.came ++ [(⟨A4, c4, kd, nd, nc, ix, ct, bs⟩ : RF)]⟩, rfl, rfl, rfl, rfl, rfl, ?_⟩
                      have h := (((((((HE.dropAt 1).pick 0 rfl).pick 5 rfl).pick 5 rfl).pick 5 rfl).pick 5 rfl).pick 5 rfl)
                      have hlen : (s2.came.map RF.enc ++ [([.int .i64 kd, .int .i64 nd, .int .i64 nc, .int .i64 ix, .int .i64 ct, .slice A4 bs.length c4] : List Value)]).length = (s2.came ++ [(⟨A4, c4, kd, nd, nc, ix, ct, bs⟩ : RF)]).length := by simp
                      rw [hlen] at h
                      exact h
                · refine Kd.event_run (v := .slice (some ⟨wb0.heap.size, 0, none⟩) 1 1) (w1 := wb0.alloc (.cells #[.int .i64 kd, .int .i64 nd, .int .i64 nc, .int .i64 ix, .int .i64 ct, .slice A4 bs.length c4] 35)) rfl (by go_simp) ?_
                  have HRb19 := HB0.box (g := wb0.heap.size) (cs := #[.int .i64 kd, .int .i64 nd, .int .i64 nc, .int .i64 ix, .int .i64 ct, .slice A4 bs.length c4]) (t := 35) rfl (blk_new wb0 _) (below_alloc (Below.refl _ _) _)
                  generalize hgw : wb0.alloc (.cells #[.int .i64 kd, .int .i64 nd, .int .i64 nc, .int .i64 ix, .int .i64 ct, .slice A4 bs.length c4] 35) = wrb20 at HRb19 ⊢
                  clear hgw
                  generalize wb0.heap.size = GKb20 at HRb19 ⊢
                  clear HB0
                  refine ⟨⟨HRb19.cell 1 4 rfl rfl, HRb19.cell 4 0 rfl rfl, HRb19.cell 4 1 rfl rfl, HRb19.cell 4 2 rfl rfl, HRb19.cell 4 3 rfl rfl, HRb19.cell 4 4 rfl rfl, HRb19.cell 4 5 rfl rfl⟩, ?_⟩
                  refine st_norm (a' := ?_) ?_ ?_; rotate_left; (simp only [Act.put, List.setIfInBounds_toArray, List.set_cons_zero, List.set_cons_succ]; rfl)
                  refine st_one (by simp only [List.getElem?_toArray, List.getElem?_cons_succ, List.getElem?_cons_zero]; rfl) ?_
                  refine Kd.event_run (v := .slice (some ⟨wrb20.heap.size, 0, none⟩) 0 0) (w1 := wrb20.alloc (.cells #[] 35)) rfl (by go_simp) ?_
                  have HRb21 := (HRb19.box (g := wrb20.heap.size) (cs := #[]) (t := 35) rfl (blk_new wrb20 _) (below_alloc (Below.refl _ _) _)).emptyRow0 (Kd.raw 6)
                  generalize hgw : wrb20.alloc (.cells #[] 35) = wrb22 at HRb21 ⊢
                  clear hgw
                  generalize wrb20.heap.size = GEb22 at HRb21 ⊢
                  clear HRb19
                  refine ⟨⟨HRb21.cell 2 4 rfl rfl, HRb21.cell 5 0 rfl rfl, HRb21.cell 5 1 rfl rfl, HRb21.cell 5 2 rfl rfl, HRb21.cell 5 3 rfl rfl, HRb21.cell 5 4 rfl rfl, HRb21.cell 5 5 rfl rfl⟩, ?_⟩
                  refine st_norm (a' := ?_) ?_ ?_; rotate_left; (simp only [Act.put, List.setIfInBounds_toArray, List.set_cons_zero, List.set_cons_succ]; rfl)
                  refine st_one (by simp only [List.getElem?_toArray, List.getElem?_cons_succ, List.getElem?_cons_zero]; rfl) ?_
                  refine appRow (Kd.raw 6) rfl (.tmp 124) (.tmp 126) 65 35 (.agg #[.int .i64 0, .int .i64 0, .int .i64 0, .int .i64 0, .int .i64 0, .slice none 0 0]) 64 rfl Try.underlying65 inf35 rfl (by decide) (by decide) _ [] (s2.came.map RF.enc) s2.A s2.came.length s2.c rfl rfl HRb21 (HRb21.poolGet 7 rfl (List.mem_cons_of_mem _ List.mem_cons_self)).2.1 (fun _ _ h => h) (by simp; omega) ?_
                  intro v wrb24 HRb23
                  rw [List.nil_append] at HRb23
                  obtain ⟨A1, c1, rfl⟩ := HRb23.rowShape 0 rfl
                  clear HRb21
                  refine ⟨⟨HRb23.cell 2 4 rfl rfl, HRb23.cell 5 0 rfl rfl, HRb23.cell 5 1 rfl rfl, HRb23.cell 5 2 rfl rfl, HRb23.cell 5 3 rfl rfl, HRb23.cell 5 4 rfl rfl, HRb23.cell 5 5 rfl rfl⟩, ?_⟩
                  refine st_norm (a' := ?_) ?_ ?_; rotate_left; (simp only [Act.put, List.setIfInBounds_toArray, List.set_cons_zero, List.set_cons_succ]; rfl)
                  have K := rawN_of_blk (sz := 6) (HRb23.block 1 rfl).1 (cs := [.int .i64 kd, .int .i64 nd, .int .i64 nc, .int .i64 ix, .int .i64 ct, .slice A4 bs.length c4]) rfl (by intro u hu; simp at hu; rcases hu with rfl | rfl | rfl | rfl | rfl | rfl <;> rfl)
                  refine st_last (by simp only [List.getElem?_toArray, List.getElem?_cons_succ, List.getElem?_cons_zero]; rfl) ?_
                  refine appRow (Kd.raw 6) rfl (.tmp 127) (.tmp 129) 65 35 (.agg #[.int .i64 0, .int .i64 0, .int .i64 0, .int .i64 0, .int .i64 0, .slice none 0 0]) 64 rfl Try.underlying65 inf35 rfl (by decide) (by decide) _ (s2.came.map RF.enc) [([.int .i64 kd, .int .i64 nd, .int .i64 nc, .int .i64 ix, .int .i64 ct, .slice A4 bs.length c4] : List Value)] (some ⟨GKb20, 0, none⟩) 1 1 rfl rfl HRb23 K (fun _ _ h => h) (by rw [List.length_map]; omega) ?_
                  intro v wrb26 HRb25
                  obtain ⟨A3, c3, rfl⟩ := HRb25.rowShape 0 rfl
                  clear HRb23 K
                  refine st_norm (a' := ?_) ?_ ?_; rotate_left; (simp only [Act.put, List.setIfInBounds_toArray, List.set_cons_zero, List.set_cons_succ]; rfl)
                  repeat (refine st_free (v := ?_) (a' := ?_) (by simp only [List.getElem?_toArray, List.getElem?_cons_succ, List.getElem?_cons_zero]; rfl) (by rfl) ?_ ?_ ?_; rotate_left 2; (intro w'; go_simp; with_reducible rfl); (simp only [Act.put, List.setIfInBounds_toArray, List.set_cons_zero, List.set_cons_succ]; rfl))
                  have cgst := HRb25.cell 2 4 rfl rfl
                  have fgst := HRb25.frozen 2 4 rfl
                  refine st_last (by simp only [List.getElem?_toArray, List.getElem?_cons_succ, List.getElem?_cons_zero]; rfl) ?_
                  refine store_event (t := 65) (p := 131) (v := .tmp 130) (w1 := wrb26.setCell ⟨g8, 4, none⟩ (.slice A3 (s2.came.map RF.enc ++ [([.int .i64 kd, .int .i64 nd, .int .i64 nc, .int .i64 ix, .int .i64 ct, .slice A4 bs.length c4] : List Value)]).length c3)) rfl rfl rfl (by go_simp) ?_
                  rintro _ rfl
                  have HRb27 := HRb25.setAt 2 4 (.slice A3 (s2.came.map RF.enc ++ [([.int .i64 kd, .int .i64 nd, .int .i64 nc, .int .i64 ix, .int .i64 ct, .slice A4 bs.length c4] : List Value)]).length c3) rfl
                  clear HRb25 cgst fgst
                  refine st_norm rfl ?_
                  refine st_done ?_
                  generalize wrb26.setCell _ _ = wrb28 at HRb27 ⊢
                  have HE := came_end (s2 := s2) (s3 := ⟨A3, c3, s2.kd, s2.nd, s2.nc, s2.ct, s2.came ++ [(⟨A4, c4, kd, nd, nc, ix, ct, bs⟩ : RF)]⟩) (f := (⟨A4, c4, kd, nd, nc, ix, ct, bs⟩ : RF)) (es := s2.came.map RF.enc ++ [([.int .i64 kd, .int .i64 nd, .int .i64 nc, .int .i64 ix, .int .i64 ct, .slice A4 bs.length c4] : List Value)]) rfl ⟨rfl, rfl, rfl⟩ ((HRb27.pick 7 rfl).pick 1 rfl)
                  (try go_wp2_with fail)
                  go_meet
                  case rel =>
                    refine ⟨⟨A3, c3, s2.kd, s2.nd, s2.nc, s2.ct, s2.came ++ [(⟨A4, c4, kd, nd, nc, ix, ct, bs⟩ : RF)]⟩, rfl, rfl, rfl, rfl, rfl, ?_⟩
                    have h := (((((((HE.dropAt 1).pick 0 rfl).pick 5 rfl).pick 5 rfl).pick 5 rfl).pick 5 rfl).pick 5 rfl)
                    have hlen : (s2.came.map RF.enc ++ [([.int .i64 kd, .int .i64 nd, .int .i64 nc, .int .i64 ix, .int .i64 ct, .slice A4 bs.length c4] : List Value)]).length = (s2.came ++ [(⟨A4, c4, kd, nd, nc, ix, ct, bs⟩ : RF)]).length := by simp
                    rw [hlen] at h
                    exact h
              case rest =>
                obtain ⟨s3, h3a, h3b, h3c, h3d, h3e, HU⟩ := hcut
                obtain ⟨wu, rfl⟩ : ∃ wu, wu = wc := ⟨_, rfl⟩
                have H3 := Aside0.mk (And.intro h3a (And.intro h3b (And.intro h3c (And.intro h3d h3e))))
                clear h3a h3b h3c h3d h3e HT4
                go_upto_region 23 with (first | ((with_reducible refine gate_dst (N := 133) rfl ?_); refine box_event2 ?hg16 (N := 133) ?hd16 (v := fun g => .slice (some ⟨g, 0, none⟩) 0 0) (cs := #[]) (t := 99) ?hr16 ?_; (case hd16 => rfl); (case hg16 => rfl); (case hr16 => first | (go_simp; done) | (go_simp; rfl)); intro g133 hg wu1 hbox hb; have HU1' := HU.box hg hbox hb; clear HU hg hbox hb; have HU1 := HU1'.emptyRow0 (Kd.raw 5); clear HU1'; have c0 := HU1.cell 5 0 rfl rfl) | ((with_reducible refine gate_builtin (b := .append) (xs := #[.tmp 133, .tmp 137]) rfl ?_); refine appRow (Kd.raw 5) rfl (.tmp 133) (.tmp 137) 67 99 (.agg #[.int .i64 0, .int .i64 0, .int .i64 0, .int .i64 0, .slice none 0 0]) 56 rfl Try.underlying67 inf99 rfl (by decide) (by decide) _ [] (ρ1.map RS.enc) (some ad) ρ1.length c1 rfl rfl HU1 ((HU1.poolGet 6 rfl (List.mem_cons_of_mem _ List.mem_cons_self)).2.1) (fun _ _ h => h) (by simp; omega) ?_; intro vb wu2 HU2; rw [List.nil_append] at HU2; clear HU1 c0; obtain ⟨A6, c6, rfl⟩ := HU2.rowShape 0 rfl; have c0 := HU2.cell 5 0 rfl rfl; have f0 := HU2.frozen 5 0 rfl) | ((with_reducible refine gate_store (t := 67) (p := 140) rfl ?_); refine store_event (t := 67) (p := 140) (v := ?vo17) (w1 := (wu2.setCell ⟨g, 0, none⟩ (.slice A6 (ρ1.map RS.enc).length c6))) ?hg17 ?ho17 ?hn17 ?hr17 ?_; (case ho17 => rfl); (case hg17 => rfl); (case hn17 => rfl); (case hr17 => first | (go_simp; done) | (go_simp; rfl)); intro wu3 hw; have HU3 := (HU2.setAt 5 0 (.slice A6 (ρ1.map RS.enc).length c6) rfl); rw [← hw] at HU3; clear hw HU2 c0 f0))
                obtain ⟨ok6, hr6⟩ := HU3.rowAt 0 rfl
                obtain ⟨gr, cap6, he6, _, _, _⟩ := Kd.R_form hr6 (by rw [List.length_map]; omega)
                injection he6 with e1 _ e2
                subst e1
                clear hr6 e2
                have HU4 : Sat w0 wu3 (row (Kd.raw 5) 99 (.slice (some ⟨gr, 0, none⟩) ρ1.length c6) (ρ1.map RS.enc) :: blk g8 (.cells #[.int .i64 s3.kd, .int .i64 s3.nd, .int .i64 s3.nc, .int .i64 s3.ct, .slice s3.A s3.came.length s3.c] 99 (0, 0)) :: blk g6 (.cells #[.int .i64 0, .int .i64 0, .int .i64 0, .slice none 0 0] 24 (0, 0)) :: blk g4 (.cells #[.int .i64 0, .int .i64 0, .int .i64 0, .slice none 0 0] 24 (0, 0)) :: blk g3 (.cells #[.int .i64 kd, .int .i64 nd, .int .i64 nc, .int .i64 ix, .int .i64 ct, .slice A4 bs.length c4] 35 (0, 0)) :: blk g (.cells #[.slice (some ⟨gr, 0, none⟩) ρ1.length c6] 69 (0, 0)) :: pool ((fun w => s3.ok w) :: RP (some ad) c1 ρ1 :: fs) :: L) := by
                  have h := HU3
                  rw [List.length_map] at h
                  exact h
                clear HU3
                have ha6 : (⟨gr, 0, none⟩ : Addr).add (j * 5) = ⟨gr, j * 5, none⟩ := by unfold Addr.add; split <;> simp_all
                refine region (frees [0, 1, 2, 4] (helds [3, 5] (frees [6] (.last 7 .done)))) (fun w' => w'.cell? ⟨g, 0, none⟩ = some (.slice (some ⟨gr, 0, none⟩) ρ1.length c6) ∧ w'.cell? ⟨g8, 0, none⟩ = some (.int .i64 s3.kd) ∧ w'.cell? ⟨g8, 1, none⟩ = some (.int .i64 s3.nd) ∧ w'.cell? ⟨g8, 2, none⟩ = some (.int .i64 s3.nc) ∧ w'.cell? ⟨g8, 3, none⟩ = some (.int .i64 s3.ct) ∧ w'.cell? ⟨g8, 4, none⟩ = some (.slice s3.A s3.came.length s3.c)) [7] (by kernel_rfl) (by kernel_rfl) ?_
                have HC0 := HU4.drew
                generalize World.drew _ = wc0 at HC0 ⊢
                clear HU4
                have k0 := HC0.cell 5 0 rfl rfl
                have k1 := HC0.cell 1 0 rfl rfl; have k2 := HC0.cell 1 1 rfl rfl; have k3 := HC0.cell 1 2 rfl rfl; have k4 := HC0.cell 1 3 rfl rfl; have k5 := HC0.cell 1 4 rfl rfl
                have hjw : IntKind.i64.wrap (j : Int) = j := Go.IntWalk.i64_in _ (by omega)
                repeat (first | (refine st_free (v := ?_) (a' := ?_) (by simp only [List.getElem?_toArray, List.getElem?_cons_succ, List.getElem?_cons_zero]; rfl) (by rfl) ?_ ?_ ?_; rotate_left 2; (intro w'; go_simp; with_reducible rfl); (simp only [Act.put, List.setIfInBounds_toArray, List.set_cons_zero, List.set_cons_succ]; rfl)) | (refine st_held (v := ?_) (a' := ?_) ⟨k0, k1, k2, k3, k4, k5⟩ (by simp only [List.getElem?_toArray, List.getElem?_cons_succ, List.getElem?_cons_zero]; rfl) (by rfl) ?_ ?_ ?_; rotate_left 2; (rintro w' ⟨z0, z1, z2, z3, z4, z5⟩; go_simp; with_reducible rfl); (simp only [Act.put, List.setIfInBounds_toArray, List.set_cons_zero, List.set_cons_succ]; rfl)))
                clear k0 k1 k2 k3 k4 k5
                refine st_last (by simp only [List.getElem?_toArray, List.getElem?_cons_succ, List.getElem?_cons_zero]; rfl) ?_
                refine rawStore_ev rfl rfl 99 (.tmp 147) (.tmp 146) rfl j (ρ1.map RS.enc) (.agg #[.int .i64 s3.kd, .int .i64 s3.nd, .int .i64 s3.nc, .int .i64 s3.ct, .slice s3.A s3.came.length s3.c]) [.int .i64 s3.kd, .int .i64 s3.nd, .int .i64 s3.nc, .int .i64 s3.ct, .slice s3.A s3.came.length s3.c] rfl rfl rfl (show (Try.prog.info? 99).map (·.size) = some 5 by kernel_rfl) (by intro q hq; simp at hq; rcases hq with rfl | rfl | rfl | rfl | rfl <;> rfl) rfl (by decide) HC0 hjl ?_
                intro wd1 HD1
                clear HC0 hjw ha6
                have HE1 := lay_end (s3 := s3) rfl rfl ((HD1.pick 6 rfl).pick 1 rfl)
                clear HD1
                obtain ⟨ρ2, hρ2⟩ : ∃ ρ2, ρ2 = ρ1.set j s3 := ⟨_, rfl⟩
                rw [← hρ2] at HE1
                have HV : Sat w0 wd1 (blk g8 (.cells #[.int .i64 s3.kd, .int .i64 s3.nd, .int .i64 s3.nc, .int .i64 s3.ct, .slice s3.A s3.came.length s3.c] 99 (0, 0)) :: blk g6 (.cells #[.int .i64 0, .int .i64 0, .int .i64 0, .slice none 0 0] 24 (0, 0)) :: blk g4 (.cells #[.int .i64 0, .int .i64 0, .int .i64 0, .slice none 0 0] 24 (0, 0)) :: blk g3 (.cells #[.int .i64 kd, .int .i64 nd, .int .i64 nc, .int .i64 ix, .int .i64 ct, .slice A4 bs.length c4] 35 (0, 0)) :: rbx g (some ⟨gr, 0, none⟩) c6 ρ2 :: pool ((fun w => s3.ok w) :: RP (some ⟨gr, 0, none⟩) c6 ρ2 :: fs) :: L) := by
                  have hre : rbx g (some ⟨gr, 0, none⟩) c6 ρ2 = blk g (.cells #[.slice (some ⟨gr, 0, none⟩) ρ1.length c6] 69 (0, 0)) := by
                    unfold rbx
                    rw [hρ2, List.length_set]
                  rw [hre]
                  exact ((((HE1.pick 5 rfl).pick 5 rfl).pick 5 rfl).pick 5 rfl).pick 5 rfl
                clear HE1
                have HAC := Aside0.mk (HST.out.accept (bs := bs) (s2 := s2) (s3 := s3) HOK.out (by
                  rw [← HS2.out, refuse_iff, HN2.out.2.2, HND.out, decide_eq_false (Int.lt_irrefl nc), decide_eq_false (fun h => h H13.out)]; rfl) HS2.out (by
                  unfold rer1 RS.key
                  rw [H3.out.1, H3.out.2.1, H3.out.2.2.1, H3.out.2.2.2.1, H3.out.2.2.2.2, List.map_append]; rfl))
                rw [← hρ2] at HAC
                clear hρ2
                have hct3 : s3.ct = ct := by rw [H3.out.2.2.2.1, ← H13.out]
                have hlen3 : s3.came.length = s2.came.length + 1 := by rw [H3.out.2.2.2.2]; simp
                have HL3 := Aside0.mk hlen3
                have hlen4 : s3.came.length ≤ 87 := by omega
                clear hlen3
                refine st_norm rfl ?_
                refine st_done ?_
                have d3 := HV.cell 0 3 rfl rfl
                have d4 := HV.cell 0 4 rfl rfl
                rw [hct3] at d3
                by_cases h24 : (s3.came.length : Int) < ct
                · have h24d : decide ((s3.came.length : Int) < ct) = true := decide_eq_true h24
                  have HAD := Aside0.mk (show addE (rer ρ) kd nd nc ix ct bs = (rer ρ2, none) from by
                    rw [HAC.out, if_pos (by rw [← H13.out, ← HL3.out]; exact h24)])
                  have x0 := HV.cell 1 0 rfl rfl; have x1 := HV.cell 1 1 rfl rfl; have x2 := HV.cell 1 2 rfl rfl; have x3 := HV.cell 1 3 rfl rfl; have y0 := HV.cell 2 0 rfl rfl; have y1 := HV.cell 2 1 rfl rfl; have y2 := HV.cell 2 2 rfl rfl; have y3 := HV.cell 2 3 rfl rfl; have z0 := HV.frozen 2 0 rfl; have z1 := HV.frozen 2 1 rfl; have z2 := HV.frozen 2 2 rfl; have z3 := HV.frozen 2 3 rfl
                  go_wp2_with (first | ((with_reducible refine gate_store (t := 24) (p := 4) rfl ?_); refine store_event (t := 24) (p := 4) (v := ?vo18) (w1 := ((((wd1.setCell ⟨g4, 0, none⟩ (.int .i64 0)).setCell ⟨g4, 1, none⟩ (.int .i64 0)).setCell ⟨g4, 2, none⟩ (.int .i64 0)).setCell ⟨g4, 3, none⟩ (.slice none 0 0))) ?hg18 ?ho18 ?hn18 ?hr18 ?_; (case ho18 => rfl); (case hg18 => rfl); (case hn18 => rfl); (case hr18 => first | (go_simp; done) | (go_simp; rfl)); intro we2 hw; have HW2 := ((((HV.setAt 2 0 (.int .i64 0) rfl).setAt 2 1 (.int .i64 0) rfl).setAt 2 2 (.int .i64 0) rfl).setAt 2 3 (.slice none 0 0) rfl); rw [← hw] at HW2; clear hw HV d3 d4 x0 x1 x2 x3 y0 y1 y2 y3 z0 z1 z2 z3))
                  refine bodyPost_ret (results_ct rfl _ _ g4 24 #[.int .i64 0, .int .i64 0, .int .i64 0, .slice none 0 0] (0, 0) _ rfl (HW2.block 2 rfl).1 hu24 rfl rfl) rfl ⟨some ⟨gr, 0, none⟩, c6, ρ2, by rw [HAD.out], .inr ⟨by rw [HAD.out], rfl, HW2.tail.tail.tail.tail.poolTail⟩⟩
                · have h24d : decide ((s3.came.length : Int) < ct) = false := decide_eq_false h24
                  have HAD := Aside0.mk (show addE (rer ρ) kd nd nc ix ct bs = (rer ρ2, some (catE ct.toNat (s3.came.map rerF))) from by
                    rw [HAC.out, if_neg (by rw [← H13.out, ← HL3.out]; exact h24), H3.out.2.2.2.2, List.map_append, ← H13.out]; rfl)
                  have HK3 := Aside0.mk (came_keys HW2.out HND.out HBL.out H3.out.2.2.2.2)
                  have e0 := HV.cell 3 0 rfl rfl; have e1 := HV.cell 3 1 rfl rfl; have e2 := HV.cell 3 2 rfl rfl
                  clear h24 HAC
                  go_wp2_with (first | ((with_reducible refine gate_dst (N := 10) rfl ?_); refine box_event ?hg19 (N := 10) ?hd19 (cs := #[.int .i64 0, .int .i64 0, .int .i64 0, .slice none 0 0]) (t := 24) ?hr19 ?_; (case hd19 => rfl); (case hg19 => rfl); (case hr19 => first | (go_simp; done) | (go_simp; rfl)); intro g10 hg we1 hbox hb; have HW1 := HV.box hg hbox hb; clear HV hg hbox hb d3 d4 e0 e1 e2; have d0 := HW1.cell 0 0 rfl rfl; have d1 := HW1.cell 0 1 rfl rfl; have d2 := HW1.cell 0 2 rfl rfl; have d3 := HW1.cell 0 3 rfl rfl; have f0 := HW1.frozen 0 0 rfl; have f1 := HW1.frozen 0 1 rfl; have f2 := HW1.frozen 0 2 rfl; have f3 := HW1.frozen 0 3 rfl) | ((with_reducible refine gate_store (t := 24) (p := 10) rfl ?_); refine store_event (t := 24) (p := 10) (v := ?vo20) (w1 := ((((we1.setCell ⟨g10, 0, none⟩ (.int .i64 kd)).setCell ⟨g10, 1, none⟩ (.int .i64 nd)).setCell ⟨g10, 2, none⟩ (.int .i64 nc)).setCell ⟨g10, 3, none⟩ (.slice none 0 0))) ?hg20 ?ho20 ?hn20 ?hr20 ?_; (case ho20 => rfl); (case hg20 => rfl); (case hn20 => rfl); (case hr20 => first | (go_simp; done) | (go_simp; rfl)); intro we2 hw; have HW2 := ((((HW1.setAt 0 0 (.int .i64 kd) rfl).setAt 0 1 (.int .i64 nd) rfl).setAt 0 2 (.int .i64 nc) rfl).setAt 0 3 (.slice none 0 0) rfl); rw [← hw] at HW2; clear hw HW1 d0 d1 d2 d3 f0 f1 f2 f3))
                  have HX := HW2.nilRow kB 5
                  clear HW2
                  go_loopw [11] (fun v11 wr => ∃ (i : Nat) (vm : Value), v11 = .int .i64 i ∧ (i : Int) ≤ ct ∧ Sat w0 wr (row kB 5 vm (catE i (s3.came.map rerF)) :: blk g10 (.cells #[.int .i64 kd, .int .i64 nd, .int .i64 nc, vm] 24 (0, 0)) :: blk g8 (.cells #[.int .i64 s3.kd, .int .i64 s3.nd, .int .i64 s3.nc, .int .i64 s3.ct, .slice s3.A s3.came.length s3.c] 99 (0, 0)) :: blk g6 (.cells #[.int .i64 0, .int .i64 0, .int .i64 0, .slice none 0 0] 24 (0, 0)) :: blk g4 (.cells #[.int .i64 0, .int .i64 0, .int .i64 0, .slice none 0 0] 24 (0, 0)) :: blk g3 (.cells #[.int .i64 kd, .int .i64 nd, .int .i64 nc, .int .i64 ix, .int .i64 ct, .slice A4 bs.length c4] 35 (0, 0)) :: rbx g (some ⟨gr, 0, none⟩) c6 ρ2 :: pool ((fun w => s3.ok w) :: RP (some ⟨gr, 0, none⟩) c6 ρ2 :: fs) :: L)) (fun v11 _ => ct.toNat - (intOf v11).toNat)
                  case atStart => exact ⟨0, .slice none 0 0, rfl, by omega, HX⟩
                  case round =>
                    obtain ⟨i, vm, rfl, hi, HT⟩ := hrel
                    clear HX
                    obtain ⟨Am, cm, rfl⟩ := HT.rowShape 0 rfl
                    by_cases hin : (i : Int) < ct
                    · have h1d : decide ((i : Int) < ct) = true := decide_eq_true hin
                      have d3 := HT.cell 2 3 rfl rfl
                      have d3 := hct3 ▸ d3
                      go_wp2_with fail
                      clear d3
                      go_loopw [12] (fun v12 wr => ∃ (q : Nat) (vm : Value), v12 = .int .i64 q ∧ q ≤ s3.came.length ∧ Sat w0 wr (row kB 5 vm (catE i (s3.came.map rerF) ++ (((s3.came.map rerF).take q).flatMap fun p => if p.1 = (i : Int) then p.2 else [])) :: blk g10 (.cells #[.int .i64 kd, .int .i64 nd, .int .i64 nc, vm] 24 (0, 0)) :: blk g8 (.cells #[.int .i64 s3.kd, .int .i64 s3.nd, .int .i64 s3.nc, .int .i64 s3.ct, .slice s3.A s3.came.length s3.c] 99 (0, 0)) :: blk g6 (.cells #[.int .i64 0, .int .i64 0, .int .i64 0, .slice none 0 0] 24 (0, 0)) :: blk g4 (.cells #[.int .i64 0, .int .i64 0, .int .i64 0, .slice none 0 0] 24 (0, 0)) :: blk g3 (.cells #[.int .i64 kd, .int .i64 nd, .int .i64 nc, .int .i64 ix, .int .i64 ct, .slice A4 bs.length c4] 35 (0, 0)) :: rbx g (some ⟨gr, 0, none⟩) c6 ρ2 :: pool ((fun w => s3.ok w) :: RP (some ⟨gr, 0, none⟩) c6 ρ2 :: fs) :: L)) (fun v12 _ => s3.came.length - (intOf v12).toNat)
                      case atStart => exact ⟨0, _, rfl, Nat.zero_le _, by rw [List.take_zero, List.flatMap_nil, List.append_nil]; exact HT⟩
                      case round =>
                        obtain ⟨q, vm, rfl, hq, HU⟩ := hrel
                        clear HT
                        obtain ⟨Am2, cm2, rfl⟩ := HU.rowShape 0 rfl
                        by_cases hqn : q < s3.came.length
                        · have h2d : decide (q < s3.came.length) = true := decide_eq_true hqn
                          have h2e : decide ((q : Int) < (s3.came.length : Int)) = true := decide_eq_true (by omega)
                          obtain ⟨f, hf⟩ : ∃ f, s3.came[q]? = some f := ⟨_, List.getElem?_eq_getElem hqn⟩
                          have PT := HU.poolGet 7 rfl List.mem_cons_self
                          obtain ⟨ad3, b3, o3, hA3, ha3, hcf⟩ := RS.at_ PT q hf
                          obtain ⟨acc, hacc⟩ : ∃ acc, acc = catE i (s3.came.map rerF) ++ (((s3.came.map rerF).take q).flatMap fun p => if p.1 = (i : Int) then p.2 else []) := ⟨_, rfl⟩
                          rw [← hacc] at HU
                          have HLA := Aside0.mk (show acc.length ≤ 200 * 1048576 from by rw [hacc]; exact acc_len HK3.out.2 (by omega) (by omega))
                          have HF := Aside0.mk hf
                          have HA3 := Aside0.mk hA3
                          have HCF := Aside0.mk hcf
                          have HACC := Aside0.mk hacc
                          have d4 : wr.cell? ⟨g8, 4, none⟩ = some (.slice (some ad3) s3.came.length s3.c) := by
                            have h := HU.cell 2 4 rfl rfl
                            rw [hA3] at h
                            exact h
                          have k3 := (hcf _ PT).1
                          clear hf PT hA3 hcf hacc
                          by_cases hfx : f.ix = (i : Int)
                          · have hfx1 : (f.ix == (i : Int)) = true := by simpa using hfx
                            have HFX := Aside0.mk hfx
                            clear hfx
                            go_wp2_with fail
                            clear d4 k3
                            refine region (frees [0, 2, 4] (helds [1, 3] (frees [5, 6] (helds [7] (.last 8 (frees [9] (.last 10 .done))))))) (fun w' => w'.cell? ⟨g10, 3, none⟩ = some (.slice Am2 acc.length cm2) ∧ w'.cell? ⟨g8, 4, none⟩ = some (.slice (some ad3) s3.came.length s3.c) ∧ w'.cell? ⟨b3, o3 + 5, none⟩ = some (.slice f.A f.bs.length f.c)) [8, 10] (by kernel_rfl) (by kernel_rfl) ?_
                            have HU1 := HU.drew
                            generalize World.drew _ = wv1 at HU1 ⊢
                            clear HU
                            have k0 := HU1.cell 1 3 rfl rfl
                            have k1 : wv1.cell? ⟨g8, 4, none⟩ = some (.slice (some ad3) s3.came.length s3.c) := by
                              have h := HU1.cell 2 4 rfl rfl
                              rw [HA3.out] at h
                              exact h
                            have k2 := (HCF.out _ (HU1.poolGet 7 rfl List.mem_cons_self)).2
                            have hqw : IntKind.i64.wrap (q : Int) = q := Go.IntWalk.i64_in _ (by omega)
                            repeat (first | (refine st_free (v := ?_) (a' := ?_) (by simp only [List.getElem?_toArray, List.getElem?_cons_succ, List.getElem?_cons_zero]; rfl) (by rfl) ?_ ?_ ?_; rotate_left 2; (intro w'; go_simp; with_reducible rfl); (simp only [Act.put, List.setIfInBounds_toArray, List.set_cons_zero, List.set_cons_succ]; rfl)) | (refine st_held (v := ?_) (a' := ?_) ⟨k0, k1, k2⟩ (by simp only [List.getElem?_toArray, List.getElem?_cons_succ, List.getElem?_cons_zero]; rfl) (by rfl) ?_ ?_ ?_; rotate_left 2; (rintro w' ⟨z0, z1, z2⟩; go_simp; with_reducible rfl); (simp only [Act.put, List.setIfInBounds_toArray, List.set_cons_zero, List.set_cons_succ]; rfl)))
                            clear k0 k1 k2 hqw
                            refine st_last (by simp only [List.getElem?_toArray, List.getElem?_cons_succ, List.getElem?_cons_zero]; rfl) ?_
                            refine appRow kB rfl (.tmp 184) (.tmp 190) 22 5 (.int .u8 0) 1 rfl Try.underlying22 inf5 rfl (by decide) (by decide) _ acc f.bs f.A f.bs.length f.c rfl rfl HU1 ((HU1.poolGet 7 rfl List.mem_cons_self).2.2 f (List.mem_of_getElem? HF.out)).2 (fun _ _ h => h) (by have := HLA.out; have := HK3.out.2 f (List.mem_of_getElem? HF.out); omega) ?_
                            intro vb wv2 HU2
                            obtain ⟨Am3, cm3, rfl⟩ := HU2.rowShape 0 rfl
                            clear HU1
                            refine st_norm (a' := ?_) ?_ ?_; rotate_left; (simp only [Act.put, List.setIfInBounds_toArray, List.set_cons_zero, List.set_cons_succ]; rfl)
                            repeat (refine st_free (v := ?_) (a' := ?_) (by simp only [List.getElem?_toArray, List.getElem?_cons_succ, List.getElem?_cons_zero]; rfl) (by rfl) ?_ ?_ ?_; rotate_left 2; (intro w'; go_simp; with_reducible rfl); (simp only [Act.put, List.setIfInBounds_toArray, List.set_cons_zero, List.set_cons_succ]; rfl))
                            have x3 := HU2.cell 1 3 rfl rfl
                            have y3 := HU2.frozen 1 3 rfl
                            refine st_last (by simp only [List.getElem?_toArray, List.getElem?_cons_succ, List.getElem?_cons_zero]; rfl) ?_
                            refine store_event (t := 22) (p := 192) (v := .tmp 191) (w1 := wv2.setCell ⟨g10, 3, none⟩ (.slice Am3 (acc ++ f.bs).length cm3)) rfl rfl rfl (by go_simp) ?_
                            rintro _ rfl
                            have HU3 := HU2.setAt 1 3 (.slice Am3 (acc ++ f.bs).length cm3) rfl
                            clear HU2 x3 y3
                            refine st_norm rfl ?_
                            refine st_done ?_
                            generalize wv2.setCell _ _ = wv3 at HU3 ⊢
                            go_wp2_with fail
                            exact ⟨⟨q + 1, .slice Am3 (acc ++ f.bs).length cm3, by rw [Int.natCast_add]; rfl, by omega, by
                              rw [pick_yes HF.out HFX.out, ← List.append_assoc, ← HACC.out]
                              exact HU3⟩, by simp [intOf]; omega⟩
                          · have hfx1 : (f.ix == (i : Int)) = false := by simpa using hfx
                            have HFX := Aside0.mk hfx
                            clear hfx
                            go_wp2_with fail
                            exact ⟨⟨q + 1, .slice Am2 acc.length cm2, by rw [Int.natCast_add]; rfl, by omega, by
                              rw [pick_not HF.out HFX.out, ← HACC.out]
                              exact HU⟩, by simp [intOf]; omega⟩
                        · have h2d : decide (q < s3.came.length) = false := decide_eq_false hqn
                          have h2e : decide ((q : Int) < (s3.came.length : Int)) = false := decide_eq_false (by omega)
                          have d4 := HU.cell 2 4 rfl rfl
                          have hall : (((s3.came.map rerF).take q).flatMap fun p => if p.1 = (i : Int) then p.2 else []) = bytesE (i : Int) (s3.came.map rerF) := by
                            rw [List.take_of_length_le (by rw [List.length_map]; omega)]
                            exact pick_bytes _ _ HK3.out.1
                          rw [hall, ← catE_succ] at HU
                          have HALL := Aside0.mk hall
                          clear hall
                          go_wp2_with fail
                          exact ⟨⟨i + 1, _, by rw [Int.natCast_add]; rfl, by omega, HU⟩, by simp [intOf]; omega⟩
                    · have h1d : decide ((i : Int) < ct) = false := decide_eq_false hin
                      obtain ⟨la, hla⟩ : ∃ la, la = (catE i (s3.came.map rerF)).length := ⟨_, rfl⟩
                      rw [← hla] at HT
                      have hic : ct.toNat = i := by omega
                      have HIC := Aside0.mk hic
                      have HLA := Aside0.mk hla
                      have d3 := HT.cell 2 3 rfl rfl
                      have d3 := hct3 ▸ d3
                      clear hla hic
                      have x0 := HT.cell 1 0 rfl rfl; have x1 := HT.cell 1 1 rfl rfl; have x2 := HT.cell 1 2 rfl rfl; have x3 := HT.cell 1 3 rfl rfl; have y0 := HT.cell 4 0 rfl rfl; have y1 := HT.cell 4 1 rfl rfl; have y2 := HT.cell 4 2 rfl rfl; have y3 := HT.cell 4 3 rfl rfl; have z0 := HT.frozen 4 0 rfl; have z1 := HT.frozen 4 1 rfl; have z2 := HT.frozen 4 2 rfl; have z3 := HT.frozen 4 3 rfl
                      go_wp2_with (first | ((with_reducible refine gate_store (t := 24) (p := 4) rfl ?_); refine store_event (t := 24) (p := 4) (v := ?vo21) (w1 := ((((wr.setCell ⟨g4, 0, none⟩ (.int .i64 kd)).setCell ⟨g4, 1, none⟩ (.int .i64 nd)).setCell ⟨g4, 2, none⟩ (.int .i64 nc)).setCell ⟨g4, 3, none⟩ (.slice Am la cm))) ?hg21 ?ho21 ?hn21 ?hr21 ?_; (case ho21 => rfl); (case hg21 => rfl); (case hn21 => rfl); (case hr21 => first | (go_simp; done) | (go_simp; rfl)); intro we9 hw; have HW9 := ((((HT.setAt 4 0 (.int .i64 kd) rfl).setAt 4 1 (.int .i64 nd) rfl).setAt 4 2 (.int .i64 nc) rfl).setAt 4 3 (.slice Am la cm) rfl); rw [← hw] at HW9; clear hw HT d3 x0 x1 x2 x3 y0 y1 y2 y3 z0 z1 z2 z3))
                      refine bodyPost_ret (results_ct rfl _ _ g4 24 #[.int .i64 kd, .int .i64 nd, .int .i64 nc, .slice Am la cm] (0, 0) _ rfl (HW9.block 4 rfl).1 hu24 rfl rfl) rfl ⟨some ⟨gr, 0, none⟩, c6, ρ2, by rw [HAD.out], .inl ⟨catE ct.toNat (s3.came.map rerF), .slice Am la cm, by rw [HAD.out], rfl, ?_⟩⟩
                      rw [HIC.out]
                      exact (((((HW9.dropAt 1).dropAt 1).dropAt 1).dropAt 1).dropAt 1).poolTail2
        · have h13a : (ct == s2.ct) = false := by simpa using h13
          have h13b : (ct != s2.ct) = true := by simpa using h13
          have HAD := Aside0.mk (HST.out.refuse (bs := bs) HOK.out (by rw [← HS2.out, refuse_iff, decide_eq_true (show ct ≠ s2.ct from h13)]; simp))
          clear h13
          have x0 := HS9.cell 1 0 rfl rfl; have x1 := HS9.cell 1 1 rfl rfl; have x2 := HS9.cell 1 2 rfl rfl; have x3 := HS9.cell 1 3 rfl rfl; have y0 := HS9.cell 2 0 rfl rfl; have y1 := HS9.cell 2 1 rfl rfl; have y2 := HS9.cell 2 2 rfl rfl; have y3 := HS9.cell 2 3 rfl rfl; have z0 := HS9.frozen 2 0 rfl; have z1 := HS9.frozen 2 1 rfl; have z2 := HS9.frozen 2 2 rfl; have z3 := HS9.frozen 2 3 rfl
          go_wp2_with (first | ((with_reducible refine gate_store (t := 24) (p := 4) rfl ?_); refine store_event (t := 24) (p := 4) (v := ?vo13) (w1 := ((((w9.setCell ⟨g4, 0, none⟩ (.int .i64 0)).setCell ⟨g4, 1, none⟩ (.int .i64 0)).setCell ⟨g4, 2, none⟩ (.int .i64 0)).setCell ⟨g4, 3, none⟩ (.slice none 0 0))) ?hg13 ?ho13 ?hn13 ?hr13 ?_; (case ho13 => rfl); (case hg13 => rfl); (case hn13 => rfl); (case hr13 => first | (go_simp; done) | (go_simp; rfl)); intro w10 hw; have HS10 := ((((HS9.setAt 2 0 (.int .i64 0) rfl).setAt 2 1 (.int .i64 0) rfl).setAt 2 2 (.int .i64 0) rfl).setAt 2 3 (.slice none 0 0) rfl); rw [← hw] at HS10; clear hw HS9 x0 x1 x2 x3 y0 y1 y2 y3 z0 z1 z2 z3))
          refine bodyPost_ret (results_ct rfl _ _ g4 24 #[.int .i64 0, .int .i64 0, .int .i64 0, .slice none 0 0] (0, 0) _ rfl (HS10.block 2 rfl).1 hu24 rfl rfl) rfl ⟨some ad, c1, ρ1, by rw [HAD.out], .inr ⟨by rw [HAD.out], rfl, HS10.tail.tail.tail.tail.poolTail⟩⟩

end Go.Proofs.Ytaojnbhnogndnaa.SL
