/- Package session's Add. -/
import Derived.Test.YtaojnbhnogndnaaY10
import Derived.Test.YtaojnbhnogndnaaPW16x9
namespace Go.Proofs.Ytaojnbhnogndnaa.SL
open Go.RowKit Go.Proofs.YtaojnbhnogndnaaW.PrintWords Go.Proofs.YtaojnbhnogndnaaW.PrintLast Go.Proofs.YtaojnbhnogndnaaW.PrintMore
attribute [local go_sem] max2_int min2_int max_two min_two
attribute [local go_sem high] Small.cell_set_same
set_option linter.unusedVariables false
set_option linter.unusedSimpArgs false

theorem add_perm {α : Type} (a n p q r s x y : α) (M L : List α) : (a :: n :: p :: q :: r :: s :: x :: y :: (M ++ L)).Perm (n :: x :: a :: y :: (M ++ (p :: q :: r :: s :: L))) := by
  have h1 : (a :: n :: p :: q :: r :: s :: x :: y :: (M ++ L)).Perm ([n, x, a, y] ++ ([p, q, r, s] ++ (M ++ L))) := by
    classical
    exact (perm_pick (l := a :: n :: p :: q :: r :: s :: x :: y :: (M ++ L)) (i := 7) rfl).trans (((perm_pick (l := a :: n :: p :: q :: r :: s :: x :: (M ++ L)) (i := 0) rfl).cons y).trans (((List.Perm.swap a y _)).trans (((perm_pick (l := y :: n :: p :: q :: r :: s :: x :: (M ++ L)) (i := 6) rfl).cons a).trans ((List.Perm.swap x a _).trans (((perm_pick (l := a :: y :: n :: p :: q :: r :: s :: (M ++ L)) (i := 2) rfl).cons x).trans (List.Perm.swap n x _))))))
  refine h1.trans (List.Perm.append_left _ ?_)
  have h2 : ([p, q, r, s] ++ (M ++ L)).Perm (M ++ ([p, q, r, s] ++ L)) := by
    rw [← List.append_assoc, ← List.append_assoc]
    exact List.perm_append_comm.append_right L
  exact h2
theorem add_at {σ σ1 : List GS} {kd nd nc ix ct : Int} {j : Nat} {s1 : GS} {rf : Bool} (bs : List Int) (hok : okArg ix ct = true) (hl : lookS (kd, nd) σ1 = some (j, s1)) (he : er σ1 = step1E (kd, nd) nc ct (er σ)) (hr : refuse (er1 s1) nc ix ct = rf) :
    addE (er σ) kd nd nc ix ct bs = if rf = true then (er σ1, none) else
      ((er σ1).set j (s1.key, s1.nc, s1.ct, s1.came.map erC ++ [(ix, bs)]), if ((s1.came.length + 1 : Nat) : Int) < s1.ct then none else some (catE s1.ct.toNat (s1.came.map erC ++ [(ix, bs)]))) := by
  unfold addE
  rw [if_pos hok, ← he, lookE_er, hl]
  show (if refuse (er1 s1) nc ix ct = true then _ else _) = _
  rw [hr]
  simp only [er1, List.length_map]
theorem accept_at {σ σ1 : List GS} {kd nd nc ix ct : Int} {j : Nat} {s1 : GS} (hok : okArg ix ct = true) (hl : lookS (kd, nd) σ1 = some (j, s1)) (he : er σ1 = step1E (kd, nd) nc ct (er σ)) (hr : refuse (er1 s1) nc ix ct = false) : acceptE (er σ) kd nd nc ix ct = true := by
  unfold acceptE
  rw [hok, ← he, lookE_er, hl]
  show (true && !refuse (er1 s1) nc ix ct) = true
  rw [hr]; rfl
theorem front_perm {α : Type} (x p q r s a b c : α) (M L : List α) : (x :: a :: b :: c :: (M ++ (p :: q :: r :: s :: L))).Perm (x :: p :: q :: r :: s :: a :: b :: c :: (M ++ L)) := by
  refine List.Perm.cons x ?_
  have h : ((a :: b :: c :: M) ++ ([p, q, r, s] ++ L)).Perm ([p, q, r, s] ++ ((a :: b :: c :: M) ++ L)) := by
    rw [← List.append_assoc, ← List.append_assoc]
    exact List.perm_append_comm.append_right L
  exact h
theorem clone49 {w : World} (A : Option Addr) (m c : Nat) (p : List Int) (hr : kB.C w A m p) (hc : m ≤ c) (hl : p.length < 140737488355328) :
    Calls Try.prog 49 #[.slice A m c] w fun e w' => ∃ v, e = .returned v ∧ Sat w w' [row kB 5 v p] := by
  obtain rfl : p.length = m := hr.1
  refine (PW16.slices_Clone_byte_byte.calls A c p p w hr hc (by unfold PW16.slices_Clone_byte_byte.f; rw [if_pos hl])).mono ?_
  rintro e w' ⟨v, he, hR, hb⟩
  exact ⟨v, he, (Sat.start w).newRow hb hR (Nat.le_refl _)⟩
theorem bytesE_len {came : List CE} (h : ∀ e ∈ came, e.2.2.length ≤ 1048576) (i : Int) : (bytesE i (came.map erC)).length ≤ 1048576 := by
  unfold bytesE
  rw [lookP_er]
  cases hc : lookC i came with
  | none => simp
  | some q => exact h q.2 (List.mem_of_getElem? (lookIn_at hc).1)
theorem catE_succ (i : Nat) (came : List (Int × List Int)) : catE (i + 1) came = catE i came ++ bytesE i came := by
  unfold catE
  rw [List.range_succ, List.flatMap_append]; simp
theorem catE_len {came : List CE} (h : ∀ e ∈ came, e.2.2.length ≤ 1048576) : ∀ i : Nat, (catE i (came.map erC)).length ≤ i * 1048576
  | 0 => by simp [catE]
  | i + 1 => by
    rw [catE_succ, List.length_append]
    have h1 := catE_len h i
    have h2 := bytesE_len h i
    omega
theorem four_perm {α : Type} (p q r s : α) (M L : List α) : (M ++ (p :: q :: r :: s :: L)).Perm (p :: q :: r :: s :: (M ++ L)) := by
  have h2 : (M ++ ([p, q, r, s] ++ L)).Perm ([p, q, r, s] ++ (M ++ L)) := by
    rw [← List.append_assoc, ← List.append_assoc]
    exact List.perm_append_comm.append_right L
  exact h2
set_option maxHeartbeats 4000000 in
set_option maxRecDepth 100000 in
theorem sAdd_good {w0 w : World} {L : List Asrt} (g b : Nat) (σ : List GS) (kd nd nc ix ct : Int) (A : Option Addr) (m c : Nat) (bs : List Int) (hok : okArg ix ct = true) (hmc : m ≤ c) (hfr : ∀ w', Sat w0 w' L → kB.C w' A m bs)
    (hacc : acceptE (er σ) kd nd nc ix ct = true → bs.length ≤ 1048576) (hσ : ∀ s ∈ σ, ∀ e ∈ s.came, e.2.2.length ≤ 1048576) (HS : Sat w0 w (inbox g b σ ++ L)) :
    Calls Try.prog 19 #[.pointer (some ⟨g, 0, none⟩), .agg #[.int .i64 kd, .int .i64 nd, .int .i64 nc, .int .i64 ix, .int .i64 ct, .slice A m c]] w (AddPost σ kd nd nc ix ct bs w0 g b L) := by
  have hu24 := Try.underlying24
  have hu35 := Try.underlying35
  have hu86 := Try.underlying86
  have hu89 := Try.underlying89
  have HOK := Aside0.mk hok
  have HFR := Aside0.mk hfr
  have HACC := Aside0.mk hacc
  have HSG := Aside0.mk hσ
  have hj : 1 ≤ ct ∧ ct ≤ 86 ∧ 0 ≤ ix ∧ ix < ct := by
    unfold okArg at hok
    simp only [Bool.and_eq_true, decide_eq_true_eq] at hok
    omega
  obtain ⟨ct1, ct2, ix0, ix1⟩ := hj
  clear hok hfr hacc hσ
  have hk1 : decide (ct < 1) = false := decide_eq_false (by omega)
  have hk2 : decide (86 < ct) = false := decide_eq_false (by omega)
  have hk3 : decide (ix < 0) = false := decide_eq_false (by omega)
  have hk4 : decide (ct ≤ ix) = false := decide_eq_false (by omega)
  -- what the map holds at the kind and the node
  obtain ⟨pn, pc, pm, is, hlk, hcase⟩ : ∃ (pn pc : Int) (pm : Option Nat) (is : Bool), (∀ (w0 w' : World) (σL : List Asrt) (i : Nat), Sat w0 w' σL → σL[i]? = some (mapA encF b (σ.map encS)) → (Instr.lookup 81 (.map (some b)) (.agg #[.int .i64 kd, .int .i64 nd]) true).run Try.prog w' = .ok (.tuple #[.agg #[.int .i64 pn, .int .i64 pc, .map pm], .bool is]) w') ∧
      ((is = false ∧ lookS (kd, nd) σ = none) ∨ (is = true ∧ ∃ j s, lookS (kd, nd) σ = some (j, s) ∧ pn = s.nc ∧ pc = s.ct ∧ pm = some s.c)) := by
    cases hl : lookS (kd, nd) σ with
    | none => exact ⟨0, 0, none, false, fun w0 w' σL i h hi => h.look_none key86 Try.underlying81 zero89 i hi (kd, nd) (by rw [lookS_from, hl]; rfl) true, .inl ⟨rfl, rfl⟩⟩
    | some q => exact ⟨q.2.nc, q.2.ct, some q.2.c, true, fun w0 w' σL i h hi => h.look_some key86 Try.underlying81 i hi (kd, nd) (j := q.1) (v := valS q.2) (by rw [lookS_from, hl]; rfl) true, .inr ⟨rfl, q.1, q.2, rfl, rfl, rfl, rfl⟩⟩
  have HLK := Aside0.mk hlk
  have HCS := Aside0.mk hcase
  clear hlk hcase
  have c0 : w.cell? ⟨g, 0, none⟩ = some (.map (some b)) := HS.cell 0 0 rfl rfl
  go_enter Try.func19, Try.ntmps19
  go_wp2_with (first | ((with_reducible refine gate_dst (N := 3) rfl ?_); refine box_event ?hg4 (N := 3) ?hd4 (cs := #[.int .i64 kd, .int .i64 nd, .int .i64 nc, .int .i64 ix, .int .i64 ct, .slice A m c]) (t := 35) ?hr4 ?_; (case hd4 => rfl); (case hg4 => rfl); (case hr4 => first | (go_simp; done) | (go_simp; rfl)); intro g3 hg w1 hbox hb; have HS1 := HS.box hg hbox hb; clear HS hg hbox hb c0; have d3 := HS1.cell 0 3 rfl rfl; have d4 := HS1.cell 0 4 rfl rfl) | ((with_reducible refine gate_dst (N := 4) rfl ?_); refine box_event ?hg5 (N := 4) ?hd5 (cs := #[.int .i64 0, .int .i64 0, .int .i64 0, .slice none 0 0]) (t := 24) ?hr5 ?_; (case hd5 => rfl); (case hg5 => rfl); (case hr5 => first | (go_simp; done) | (go_simp; rfl)); intro g4 hg w2 hbox hb; have HS2 := HS1.box hg hbox hb; clear HS1 hg hbox hb d3 d4; have d0 := HS2.cell 1 0 rfl rfl; have d1 := HS2.cell 1 1 rfl rfl; have d3 := HS2.cell 1 3 rfl rfl; have d4 := HS2.cell 1 4 rfl rfl) | ((with_reducible refine gate_dst (N := 6) rfl ?_); refine box_event ?hg6 (N := 6) ?hd6 (cs := #[.int .i64 0, .int .i64 0]) (t := 86) ?hr6 ?_; (case hd6 => rfl); (case hg6 => rfl); (case hr6 => first | (go_simp; done) | (go_simp; rfl)); intro g6 hg w3 hbox hb; have HS3 := HS2.box hg hbox hb; clear HS2 hg hbox hb d0 d1 d3 d4; have d0 := HS3.cell 0 0 rfl rfl; have d1 := HS3.cell 0 1 rfl rfl; have f0 := HS3.frozen 0 0 rfl; have f1 := HS3.frozen 0 1 rfl) | ((with_reducible refine gate_store (t := 86) (p := 6) rfl ?_); refine store_event (t := 86) (p := 6) (v := ?vo7) (w1 := ((w3.setCell ⟨g6, 0, none⟩ (.int .i64 kd)).setCell ⟨g6, 1, none⟩ (.int .i64 nd))) ?hg7 ?ho7 ?hn7 ?hr7 ?_; (case ho7 => rfl); (case hg7 => rfl); (case hn7 => rfl); (case hr7 => first | (go_simp; done) | (go_simp; rfl)); intro w4 hw; have HS4 := ((HS3.setAt 0 0 (.int .i64 kd) rfl).setAt 0 1 (.int .i64 nd) rfl); rw [← hw] at HS4; clear hw HS3 d0 d1 f0 f1))
  clear hk1 hk2 hk3 hk4
  refine region (frees [0, 1, 2] (helds [3, 4, 5] (frees [6, 7, 8] (.one 9 (.last 10 (frees [11] .done)))))) (fun w' => w'.cell? ⟨g, 0, none⟩ = some (.map (some b)) ∧ w'.cell? ⟨g6, 0, none⟩ = some (.int .i64 kd) ∧ w'.cell? ⟨g6, 1, none⟩ = some (.int .i64 nd) ∧ (Instr.lookup 81 (.map (some b)) (.agg #[.int .i64 kd, .int .i64 nd]) true).run Try.prog w' = .ok (.tuple #[.agg #[.int .i64 pn, .int .i64 pc, .map pm], .bool is]) w') [10] (by kernel_rfl) (by kernel_rfl) ?_
  have HS5 := HS4.drew
  clear HS4
  generalize w4.drew = w5 at HS5 ⊢
  have c0 : _root_.Go.World.cell? _ ⟨g, 0, none⟩ = some (.map (some b)) := HS5.cell 3 0 rfl rfl
  have i0 := HS5.cell 0 0 rfl rfl
  have i1 := HS5.cell 0 1 rfl rfl
  have lk := HLK.out _ _ _ 4 HS5 rfl
  repeat (first | (refine st_free (v := ?_) (a' := ?_) (by simp only [List.getElem?_toArray, List.getElem?_cons_succ, List.getElem?_cons_zero]; rfl) (by rfl) ?_ ?_ ?_; rotate_left 2; (intro w'; go_simp; with_reducible rfl); (simp only [Act.put, List.setIfInBounds_toArray, List.set_cons_zero, List.set_cons_succ]; rfl)) | (refine st_held (v := ?_) (a' := ?_) ⟨c0, i0, i1, lk⟩ (by simp only [List.getElem?_toArray, List.getElem?_cons_succ, List.getElem?_cons_zero]; rfl) (by rfl) ?_ ?_ ?_; rotate_left 2; (rintro w' ⟨s0, s1, s2, s3⟩; go_simp; with_reducible rfl); (simp only [Act.put, List.setIfInBounds_toArray, List.set_cons_zero, List.set_cons_succ]; rfl)))
  refine st_one (by simp only [List.getElem?_toArray, List.getElem?_cons_succ, List.getElem?_cons_zero]; rfl) ?_
  refine Kd.event_run (v := .pointer (some ⟨w5.heap.size, 0, none⟩)) (w1 := w5.alloc (.cells #[.int .i64 0, .int .i64 0, .map none] 89)) rfl (by go_simp) ?_
  have HS6 := HS5.box (g := w5.heap.size) (cs := #[.int .i64 0, .int .i64 0, .map none]) (t := 89) rfl (blk_new w5 _) (below_alloc (Below.refl _ _) _)
  generalize hgw : w5.alloc (.cells #[.int .i64 0, .int .i64 0, .map none] 89) = w6 at HS6 ⊢
  clear hgw HS5 c0 i0 i1 lk
  generalize w5.heap.size = g7 at HS6 ⊢
  have c0 : _root_.Go.World.cell? _ ⟨g, 0, none⟩ = some (.map (some b)) := HS6.cell 4 0 rfl rfl
  have i0 := HS6.cell 1 0 rfl rfl
  have i1 := HS6.cell 1 1 rfl rfl
  have lk := HLK.out _ _ _ 5 HS6 rfl
  refine ⟨⟨c0, i0, i1, lk⟩, ?_⟩
  refine st_norm (a' := ?_) ?_ ?_; rotate_left; (simp only [Act.put, List.setIfInBounds_toArray, List.set_cons_zero, List.set_cons_succ]; rfl)
  have p0 := HS6.cell 0 0 rfl rfl
  have p1 := HS6.cell 0 1 rfl rfl
  have p2 := HS6.cell 0 2 rfl rfl
  have r0 := HS6.frozen 0 0 rfl
  have r1 := HS6.frozen 0 1 rfl
  have r2 := HS6.frozen 0 2 rfl
  refine st_last (by simp only [List.getElem?_toArray, List.getElem?_cons_succ, List.getElem?_cons_zero]; rfl) ?_
  refine store_event (t := 89) (p := 7) (v := .tmp 46) (w1 := ((w6.setCell ⟨g7, 0, none⟩ (.int .i64 pn)).setCell ⟨g7, 1, none⟩ (.int .i64 pc)).setCell ⟨g7, 2, none⟩ (.map pm)) rfl rfl rfl (by go_simp) ?_
  rintro w7 hw
  have HS7 := ((HS6.setAt 0 0 (.int .i64 pn) rfl).setAt 0 1 (.int .i64 pc) rfl).setAt 0 2 (.map pm) rfl
  rw [← hw] at HS7
  clear hw HS6 c0 i0 i1 lk p0 p1 p2 r0 r1 r2
  refine st_norm rfl ?_
  repeat (refine st_free (v := ?_) (a' := ?_) (by simp only [List.getElem?_toArray, List.getElem?_cons_succ, List.getElem?_cons_zero]; rfl) (by rfl) ?_ ?_ ?_; rotate_left 2; (intro w'; go_simp; with_reducible rfl); (simp only [Act.put, List.setIfInBounds_toArray, List.set_cons_zero, List.set_cons_succ]; rfl))
  refine st_done ?_
  obtain ⟨need, hneed⟩ : ∃ need : Bool, need = (!is || decide (pn < nc)) := ⟨_, rfl⟩
  have HND := Aside0.mk hneed
  go_upto_region 5 with fail
  have p0 := HS7.cell 0 0 rfl rfl
  have d2 := HS7.cell 3 2 rfl rfl
  go_cut [8, 56] (fun v8 v56 wd => v8 = .bool is ∧ v56 = .bool need ∧ wd = w7)
  case first =>
    clear HND HCS
    cases is with
    | false =>
      have HV := Aside0.mk (show need = true from hneed)
      clear hneed
      go_wp2_with fail
      go_meet
      case rel => exact ⟨rfl, by rw [HV.out], rfl⟩
    | true =>
      by_cases hlt : pn < nc
      · have HV := Aside0.mk (show need = true from hneed.trans (by simp [hlt]))
        have hltd : decide (pn < nc) = true := decide_eq_true hlt
        clear hneed hlt
        go_wp2_with fail
        go_meet
        case rel => exact ⟨rfl, by rw [HV.out], rfl⟩
      · have HV := Aside0.mk (show need = false from hneed.trans (by simp [hlt]))
        have hltd : decide (pn < nc) = false := decide_eq_false hlt
        clear hneed hlt
        go_wp2_with fail
        go_meet
        case rel => exact ⟨rfl, by rw [HV.out], rfl⟩
  case rest =>
    obtain ⟨rfl, rfl, rfl⟩ := hcut
    clear hneed p0 d2
    go_upto_if 56 with (fail)
    go_cut [7, 8] (fun v7 v8 wd => ∃ σ1 j s1, lookS (kd, nd) σ1 = some (j, s1) ∧ er σ1 = step1E (kd, nd) nc ct (er σ) ∧ (∀ s ∈ σ1, ∀ e ∈ s.came, e.2.2.length ≤ 1048576) ∧ v7 = .pointer (some ⟨g7, 0, none⟩) ∧
      Sat w0 wd (blk g7 (.cells #[.int .i64 s1.nc, .int .i64 s1.ct, .map (some s1.c)] 89 (0, 0)) :: blk g6 (.cells #[.int .i64 kd, .int .i64 nd] 86 (0, 0)) :: blk g4 (.cells #[.int .i64 0, .int .i64 0, .int .i64 0, .slice none 0 0] 24 (0, 0)) :: blk g3 (.cells #[.int .i64 kd, .int .i64 nd, .int .i64 nc, .int .i64 ix, .int .i64 ct, .slice A m c] 35 (0, 0)) :: (inbox g b σ1 ++ L)))
    case first =>
      obtain ⟨w8, rfl⟩ : ∃ w8, w8 = wc := ⟨_, rfl⟩
      cases need with
      | false =>
        have hno := HND.out
        rcases HCS.out with ⟨his, _⟩ | ⟨his, j, s, hl, h1, h2, h3⟩
        · rw [his] at hno; cases hno
        · subst h1 h2 h3
          have hge : ¬ s.nc < nc := by rw [his] at hno; simpa using hno
          have HL := Aside0.mk hl
          have HE := Aside0.mk (step1_old nc ct hl hge)
          clear hno his hl hge HCS HND
          go_wp2_with fail
          go_meet
          case rel => exact ⟨σ, j, s, HL.out, HE.out, HSG.out, rfl, HS7⟩
      | true =>
        have d2 := HS7.cell 3 2 rfl rfl
        have d4 := HS7.cell 3 4 rfl rfl
        have p0 := HS7.cell 0 0 rfl rfl
        have p1 := HS7.cell 0 1 rfl rfl
        have p2 := HS7.cell 0 2 rfl rfl
        go_wp2_with (first | ((with_reducible refine gate_dst (N := 61) rfl ?_); refine map_event rfl (N := 61) rfl rfl ?_; intro cn hb0 w9 hbox hb; have HS8 := HS7.newMap (enc := I0) hb0 hbox hb; clear HS7 hb0 hbox hb p0 p1 p2 d2 d4; have p0 := HS8.cell 1 0 rfl rfl; have p1 := HS8.cell 1 1 rfl rfl; have p2 := HS8.cell 1 2 rfl rfl; have f0 := HS8.frozen 1 0 rfl; have f1 := HS8.frozen 1 1 rfl; have f2 := HS8.frozen 1 2 rfl) | ((with_reducible refine gate_store (t := 89) (p := 7) rfl ?_); refine store_event (t := 89) (p := 7) (v := ?vo8) (w1 := (((w9.setCell ⟨g7, 0, none⟩ (.int .i64 nc)).setCell ⟨g7, 1, none⟩ (.int .i64 ct)).setCell ⟨g7, 2, none⟩ (.map (some cn)))) ?hg8 ?ho8 ?hn8 ?hr8 ?_; (case ho8 => rfl); (case hg8 => rfl); (case hn8 => rfl); (case hr8 => first | (go_simp; done) | (go_simp; rfl)); intro w10 hw; have HS9 := (((HS8.setAt 1 0 (.int .i64 nc) rfl).setAt 1 1 (.int .i64 ct) rfl).setAt 1 2 (.map (some cn)) rfl); rw [← hw] at HS9; clear hw HS8 p0 p1 p2 f0 f1 f2))
        refine region (frees [0, 1, 2] (helds [3, 4, 5] (.last 6 .done))) (fun w' => w'.cell? ⟨g, 0, none⟩ = some (.map (some b)) ∧ w'.cell? ⟨g6, 0, none⟩ = some (.int .i64 kd) ∧ w'.cell? ⟨g6, 1, none⟩ = some (.int .i64 nd) ∧ w'.cell? ⟨g7, 0, none⟩ = some (.int .i64 nc) ∧ w'.cell? ⟨g7, 1, none⟩ = some (.int .i64 ct) ∧ w'.cell? ⟨g7, 2, none⟩ = some (.map (some cn))) [6] (by kernel_rfl) (by kernel_rfl) ?_
        have HS10 := HS9.drew
        clear HS9
        generalize w10.drew = w11 at HS10 ⊢
        have c0 : _root_.Go.World.cell? _ ⟨g, 0, none⟩ = some (.map (some b)) := HS10.cell 5 0 rfl rfl
        have i0 := HS10.cell 2 0 rfl rfl
        have i1 := HS10.cell 2 1 rfl rfl
        have p0 := HS10.cell 1 0 rfl rfl
        have p1 := HS10.cell 1 1 rfl rfl
        have p2 := HS10.cell 1 2 rfl rfl
        repeat (first | (refine st_free (v := ?_) (a' := ?_) (by simp only [List.getElem?_toArray, List.getElem?_cons_succ, List.getElem?_cons_zero]; rfl) (by rfl) ?_ ?_ ?_; rotate_left 2; (intro w'; go_simp; with_reducible rfl); (simp only [Act.put, List.setIfInBounds_toArray, List.set_cons_zero, List.set_cons_succ]; rfl)) | (refine st_held (v := ?_) (a' := ?_) ⟨c0, i0, i1, p0, p1, p2⟩ (by simp only [List.getElem?_toArray, List.getElem?_cons_succ, List.getElem?_cons_zero]; rfl) (by rfl) ?_ ?_ ?_; rotate_left 2; (rintro w' ⟨s0, s1, s2, s3, s4, s5⟩; go_simp; with_reducible rfl); (simp only [Act.put, List.setIfInBounds_toArray, List.set_cons_zero, List.set_cons_succ]; rfl)))
        refine st_last (by simp only [List.getElem?_toArray, List.getElem?_cons_succ, List.getElem?_cons_zero]; rfl) ?_
        refine upd_event key86 Try.underlying81 rfl rfl (.tmp 66) (.tmp 67) (.tmp 68) rfl (kd, nd) (valS (newS (kd, nd) cn nc ct)) rfl rfl rfl (HS10.pick 6 rfl) ?_
        intro w12 HS11
        clear HS10 c0 i0 i1 p0 p1 p2
        refine st_norm rfl ?_
        refine st_done ?_
        go_wp2_with fail
        go_meet
        case rel =>
          have HS12 : Sat w0 w12 (inner (newS (kd, nd) cn nc ct) :: blk g (.cells #[.map (some b)] 83 (0, 0)) :: mapA encF b (putAt (kd, nd) (valS (newS (kd, nd) cn nc ct)) (σ.map encS)) :: pool [PFs σ] :: (σ.map inner ++ (blk g7 (.cells #[.int .i64 nc, .int .i64 ct, .map (some cn)] 89 (0, 0)) :: blk g6 (.cells #[.int .i64 kd, .int .i64 nd] 86 (0, 0)) :: blk g4 (.cells #[.int .i64 0, .int .i64 0, .int .i64 0, .slice none 0 0] 24 (0, 0)) :: blk g3 (.cells #[.int .i64 kd, .int .i64 nd, .int .i64 nc, .int .i64 ix, .int .i64 ct, .slice A m c] 35 (0, 0)) :: L))) := by
            refine HS11.perm ?_
            exact add_perm _ _ _ _ _ _ _ _ (σ.map inner) L
          have hback : ∀ σ1, Sat w0 w12 (inbox g b σ1 ++ (blk g7 (.cells #[.int .i64 nc, .int .i64 ct, .map (some cn)] 89 (0, 0)) :: blk g6 (.cells #[.int .i64 kd, .int .i64 nd] 86 (0, 0)) :: blk g4 (.cells #[.int .i64 0, .int .i64 0, .int .i64 0, .slice none 0 0] 24 (0, 0)) :: blk g3 (.cells #[.int .i64 kd, .int .i64 nd, .int .i64 nc, .int .i64 ix, .int .i64 ct, .slice A m c] 35 (0, 0)) :: L)) →
              Sat w0 w12 (blk g7 (.cells #[.int .i64 nc, .int .i64 ct, .map (some cn)] 89 (0, 0)) :: blk g6 (.cells #[.int .i64 kd, .int .i64 nd] 86 (0, 0)) :: blk g4 (.cells #[.int .i64 0, .int .i64 0, .int .i64 0, .slice none 0 0] 24 (0, 0)) :: blk g3 (.cells #[.int .i64 kd, .int .i64 nd, .int .i64 nc, .int .i64 ix, .int .i64 ct, .slice A m c] 35 (0, 0)) :: (inbox g b σ1 ++ L)) := fun σ1 h => h.perm (four_perm _ _ _ _ _ L)
          rcases HCS.out with ⟨his, hl⟩ | ⟨his, j, s, hl, h1, h2, h3⟩
          · rw [put_grow (x := (kd, nd)) (newS (kd, nd) cn nc ct) rfl hl] at HS12
            exact ⟨σ ++ [newS (kd, nd) cn nc ct], σ.length, newS (kd, nd) cn nc ct, lookS_grow cn nc ct hl, step1_none cn nc ct hl, (fun s hs e he => by
              rcases List.mem_append.1 hs with hs | hs
              · exact HSG.out s hs e he
              · rw [List.mem_singleton.1 hs] at he; cases he), rfl, hback _ (inbox_grow rfl HS12)⟩
          · have hlt : s.nc < nc := by
              have hno := HND.out
              rw [his, h1] at hno
              simpa using hno
            rw [put_renew (x := (kd, nd)) (newS (kd, nd) cn nc ct) rfl hl] at HS12
            exact ⟨σ.set j (newS (kd, nd) cn nc ct), j, newS (kd, nd) cn nc ct, lookS_renew _ rfl hl, step1_new cn nc ct hl hlt, (fun s' hs e he => by
              rcases List.mem_or_eq_of_mem_set hs with hs | rfl
              · exact HSG.out s' hs e he
              · cases he), rfl, hback _ (inbox_renew (lookIn_at hl).1 rfl HS12)⟩
    case rest =>
      obtain ⟨σ1, j, s1, hl1, he1, hs1, rfl, HS8⟩ := hcut
      obtain ⟨w8, rfl⟩ : ∃ w8, w8 = wc := ⟨_, rfl⟩
      clear HS7 HCS HND HLK HSG
      have HL1 := Aside0.mk hl1
      have HE1 := Aside0.mk he1
      have HS1' := Aside0.mk hs1
      have HJ1 := Aside0.mk (lookIn_at hl1).1
      clear hl1 he1 hs1
      obtain ⟨v, tw, hlk, htw⟩ : ∃ (v : Value) (tw : Bool), (Instr.lookup 87 (.map (some s1.c)) (.int .i64 ix) true).run Try.prog w8 = .ok (.tuple #[v, .bool tw]) w8 ∧ tw = (lookC ix s1.came).isSome := by
        have hat : (blk g7 (.cells #[.int .i64 s1.nc, .int .i64 s1.ct, .map (some s1.c)] 89 (0, 0)) :: blk g6 (.cells #[.int .i64 kd, .int .i64 nd] 86 (0, 0)) :: blk g4 (.cells #[.int .i64 0, .int .i64 0, .int .i64 0, .slice none 0 0] 24 (0, 0)) :: blk g3 (.cells #[.int .i64 kd, .int .i64 nd, .int .i64 nc, .int .i64 ix, .int .i64 ct, .slice A m c] 35 (0, 0)) :: (inbox g b σ1 ++ L))[7 + j]? = some (inner s1) := by
          rw [show 7 + j = 3 + j + 1 + 1 + 1 + 1 from by omega]
          simp only [List.getElem?_cons_succ]
          exact inbox_at HJ1.out
        cases hc : lookC ix s1.came with
        | none => exact ⟨.slice none 0 0, false, HS8.look_none (keyInt Try.underlying3) Try.underlying87 zero22 (7 + j) hat ix (by rw [lookC_from, hc]; rfl) true, rfl⟩
        | some q => exact ⟨valC q.2, true, HS8.look_some (keyInt Try.underlying3) Try.underlying87 (7 + j) hat ix (j := q.1) (v := valC q.2) (by rw [lookC_from, hc]; rfl) true, rfl⟩
      have HTW := Aside0.mk htw
      clear htw
      have d2 := HS8.cell 3 2 rfl rfl
      have d3 := HS8.cell 3 3 rfl rfl
      have d4 := HS8.cell 3 4 rfl rfl
      have p0 := HS8.cell 0 0 rfl rfl
      have p1 := HS8.cell 0 1 rfl rfl
      have p2 := HS8.cell 0 2 rfl rfl
      go_upto_region 9 with fail
      obtain ⟨rf, hrf⟩ : ∃ rf : Bool, rf = (decide (nc < s1.nc) || decide (ct ≠ s1.ct) || tw) := ⟨_, rfl⟩
      have HRF := Aside0.mk hrf
      go_cut [91] (fun v91 wd => v91 = .bool rf ∧ wd = w8)
      case first =>
        clear HRF hlk
        by_cases h1 : nc < s1.nc
        · have HV := Aside0.mk (show rf = true from hrf.trans (by simp [h1]))
          have h1d : decide (nc < s1.nc) = true := decide_eq_true h1
          clear hrf h1
          go_wp2_with fail
          go_meet
          case rel => exact ⟨by rw [HV.out], rfl⟩
        · have h1d : decide (nc < s1.nc) = false := decide_eq_false h1
          by_cases h2 : ct = s1.ct
          · have HV := Aside0.mk (show rf = tw from hrf.trans (by simp [h1, h2]))
            have h2a : (ct == s1.ct) = true := by simpa using h2
            have h2b : (ct != s1.ct) = false := by simpa using h2
            clear hrf h1 h2
            go_wp2_with fail
            go_meet
            case rel => exact ⟨by rw [HV.out], rfl⟩
          · have HV := Aside0.mk (show rf = true from hrf.trans (by simp [h2]))
            have h2a : (ct == s1.ct) = false := by simpa using h2
            have h2b : (ct != s1.ct) = true := by simpa using h2
            clear hrf h1 h2
            go_wp2_with fail
            go_meet
            case rel => exact ⟨by rw [HV.out], rfl⟩
      case rest =>
        obtain ⟨rfl, rfl⟩ := hcut
        obtain ⟨w8, rfl⟩ : ∃ w8, w8 = wc := ⟨_, rfl⟩
        clear hrf hlk d2 d3 d4 p0 p1 p2
        have HREF := Aside0.mk (show refuse (er1 s1) nc ix ct = rf from by rw [HRF.out, HTW.out]; unfold refuse; rw [show lookP ix (er1 s1).2.2.2 = _ from lookP_er ix s1.came]; cases lookC ix s1.came <;> rfl)
        have HAD := Aside0.mk (add_at bs HOK.out HL1.out HE1.out HREF.out)
        cases rf with
        | true =>
          have z0 := HS8.cell 2 0 rfl rfl; have q0 := HS8.frozen 2 0 rfl; have z1 := HS8.cell 2 1 rfl rfl; have q1 := HS8.frozen 2 1 rfl; have z2 := HS8.cell 2 2 rfl rfl; have q2 := HS8.frozen 2 2 rfl; have z3 := HS8.cell 2 3 rfl rfl; have q3 := HS8.frozen 2 3 rfl
          go_wp2_with (first | ((with_reducible refine gate_store (t := 24) (p := 4) rfl ?_); refine store_event (t := 24) (p := 4) (v := ?vo13) (w1 := ((((w8.setCell ⟨g4, 0, none⟩ (.int .i64 0)).setCell ⟨g4, 1, none⟩ (.int .i64 0)).setCell ⟨g4, 2, none⟩ (.int .i64 0)).setCell ⟨g4, 3, none⟩ (.slice none 0 0))) ?hg13 ?ho13 ?hn13 ?hr13 ?_; (case ho13 => rfl); (case hg13 => rfl); (case hn13 => rfl); (case hr13 => first | (go_simp; done) | (go_simp; rfl)); intro w9 hw; have HS9 := ((((HS8.setAt 2 0 (.int .i64 0) rfl).setAt 2 1 (.int .i64 0) rfl).setAt 2 2 (.int .i64 0) rfl).setAt 2 3 (.slice none 0 0) rfl); rw [← hw] at HS9; clear hw HS8 z0 z1 z2 z3 q0 q1 q2 q3))
          refine bodyPost_ret (results_ct rfl _ _ g4 24 #[.int .i64 0, .int .i64 0, .int .i64 0, .slice none 0 0] (0, 0) _ rfl (HS9.block 2 rfl).1 hu24 rfl rfl) rfl ⟨σ1, ?_, .inr ⟨?_, rfl, Sat.dropL (M := [_, _, _, _]) HS9⟩⟩
          · rw [HAD.out]; simp
          · rw [HAD.out]; simp
        | false =>
          have hrf := HRF.out
          have hcount : s1.ct = ct := by
            by_cases h : ct = s1.ct
            · exact h.symm
            · rw [show decide (ct ≠ s1.ct) = true from decide_eq_true h] at hrf; simp at hrf
          have htw : tw = false := by cases tw with
            | false => rfl
            | true => simp at hrf
          have hlc : lookC ix s1.came = none := by
            have := HTW.out
            rw [htw] at this
            cases hc : lookC ix s1.came with
            | none => rfl
            | some q => rw [hc] at this; cases this
          clear hrf htw
          have HLC := Aside0.mk hlc
          have HB := Aside0.mk (HACC.out (accept_at HOK.out HL1.out HE1.out HREF.out))
          have HCT := Aside0.mk hcount
          rw [hcount] at HS8
          clear hlc hcount HACC HREF HRF HTW
          -- the slot's own map to the front
          have HS9 : Sat w0 w8 (inner s1 :: blk g7 (.cells #[.int .i64 s1.nc, .int .i64 ct, .map (some s1.c)] 89 (0, 0)) :: blk g6 (.cells #[.int .i64 kd, .int .i64 nd] 86 (0, 0)) :: blk g4 (.cells #[.int .i64 0, .int .i64 0, .int .i64 0, .slice none 0 0] 24 (0, 0)) :: blk g3 (.cells #[.int .i64 kd, .int .i64 nd, .int .i64 nc, .int .i64 ix, .int .i64 ct, .slice A m c] 35 (0, 0)) :: blk g (.cells #[.map (some b)] 83 (0, 0)) :: mapA encF b (σ1.map encS) :: pool [PFs σ1] :: ((σ1.map inner).eraseIdx j ++ L)) :=
            (inbox_pick HJ1.out (HS8.perm (four_perm _ _ _ _ _ L).symm)).perm (front_perm _ _ _ _ _ _ _ _ _ L)
          clear HS8
          go_upto_region 11 with fail
          refine region (frees [0, 2, 4] (helds [1, 3, 5] (.one 6 (.last 7 .done)))) (fun w' => w'.cell? ⟨g7, 2, none⟩ = some (.map (some s1.c)) ∧ w'.cell? ⟨g3, 3, none⟩ = some (.int .i64 ix) ∧ w'.cell? ⟨g3, 5, none⟩ = some (.slice A m c)) [7] (by kernel_rfl) (by kernel_rfl) ?_
          have HS10 := HS9.drew
          clear HS9
          generalize w8.drew = w9 at HS10 ⊢
          have p2 := HS10.cell 1 2 rfl rfl
          have d3 := HS10.cell 4 3 rfl rfl
          have d5 := HS10.cell 4 5 rfl rfl
          repeat (first | (refine st_free (v := ?_) (a' := ?_) (by simp only [List.getElem?_toArray, List.getElem?_cons_succ, List.getElem?_cons_zero]; rfl) (by rfl) ?_ ?_ ?_; rotate_left 2; (intro w'; go_simp; with_reducible rfl); (simp only [Act.put, List.setIfInBounds_toArray, List.set_cons_zero, List.set_cons_succ]; rfl)) | (refine st_held (v := ?_) (a' := ?_) ⟨p2, d3, d5⟩ (by simp only [List.getElem?_toArray, List.getElem?_cons_succ, List.getElem?_cons_zero]; rfl) (by rfl) ?_ ?_ ?_; rotate_left 2; (rintro w' ⟨s0, s1, s2⟩; go_simp; with_reducible rfl); (simp only [Act.put, List.setIfInBounds_toArray, List.set_cons_zero, List.set_cons_succ]; rfl)))
          refine st_one (by simp only [List.getElem?_toArray, List.getElem?_cons_succ, List.getElem?_cons_zero]; rfl) ?_
          refine goesL_ (some 99) rfl rfl Try.func49 (by kernel_rfl) rfl #[.slice A m c] rfl (by go_simp) ?_
          refine (clone49 A m c bs (HFR.out _ (Sat.dropL (M := _ :: _ :: _ :: _ :: _ :: _ :: _ :: _ :: (σ1.map inner).eraseIdx j) HS10)) hmc (by have := HB.out; omega)).mono ?_
          rintro e w10 ⟨vr, rfl, HH⟩
          have HS11 := HS10.frame HH
          clear HS10 HH p2 d3 d5
          obtain ⟨A2, c2, rfl⟩ := HS11.rowShape 0 rfl
          refine ⟨_, rfl, ?_⟩
          refine ⟨⟨HS11.cell 2 2 rfl rfl, HS11.cell 5 3 rfl rfl, HS11.cell 5 5 rfl rfl⟩, ?_⟩
          refine st_norm (a' := ?_) ?_ ?_; rotate_left; (simp only [Act.put, List.setIfInBounds_toArray, List.set_cons_zero, List.set_cons_succ]; rfl)
          refine st_last (by simp only [List.getElem?_toArray, List.getElem?_cons_succ, List.getElem?_cons_zero]; rfl) ?_
          refine upd_event (keyInt Try.underlying3) Try.underlying87 rfl rfl (.tmp 94) (.tmp 96) (.tmp 99) rfl ix (valC (ix, ((A2, c2), bs))) rfl rfl rfl (HS11.pick 1 rfl) ?_
          intro w11 HS12
          rw [put_piece (ix, ((A2, c2), bs)) rfl HLC.out] at HS12
          clear HS11
          refine st_norm rfl ?_
          refine st_done ?_
          have HS13 : Sat w0 w11 (blk g7 (.cells #[.int .i64 s1.nc, .int .i64 ct, .map (some s1.c)] 89 (0, 0)) :: blk g6 (.cells #[.int .i64 kd, .int .i64 nd] 86 (0, 0)) :: blk g4 (.cells #[.int .i64 0, .int .i64 0, .int .i64 0, .slice none 0 0] 24 (0, 0)) :: blk g3 (.cells #[.int .i64 kd, .int .i64 nd, .int .i64 nc, .int .i64 ix, .int .i64 ct, .slice A m c] 35 (0, 0)) :: (inbox g b (σ1.set j { s1 with came := s1.came ++ [(ix, ((A2, c2), bs))] }) ++ L)) :=
            (inbox_put HJ1.out rfl ((Sat.swap HS12).perm (((front_perm _ _ _ _ _ _ _ _ _ L).symm).cons _))).perm (four_perm _ _ _ _ _ L)
          clear HS12
          obtain ⟨s2, hs2⟩ : ∃ s2 : GS, s2 = { s1 with came := s1.came ++ [(ix, ((A2, c2), bs))] } := ⟨_, rfl⟩
          rw [← hs2] at HS13
          have hc2 : s2.c = s1.c := by rw [hs2]
          have hcame : s2.came = s1.came ++ [(ix, ((A2, c2), bs))] := by rw [hs2]
          have HC2 := Aside0.mk hcame
          have hat2 : (blk g7 (.cells #[.int .i64 s1.nc, .int .i64 ct, .map (some s1.c)] 89 (0, 0)) :: blk g6 (.cells #[.int .i64 kd, .int .i64 nd] 86 (0, 0)) :: blk g4 (.cells #[.int .i64 0, .int .i64 0, .int .i64 0, .slice none 0 0] 24 (0, 0)) :: blk g3 (.cells #[.int .i64 kd, .int .i64 nd, .int .i64 nc, .int .i64 ix, .int .i64 ct, .slice A m c] 35 (0, 0)) :: (inbox g b (σ1.set j s2) ++ L))[7 + j]? = some (inner s2) := by
            rw [show 7 + j = 3 + j + 1 + 1 + 1 + 1 from by omega]
            simp only [List.getElem?_cons_succ]
            exact inbox_at (by rw [List.getElem?_set, if_pos rfl, if_pos (List.getElem?_eq_some_iff.1 HJ1.out).1])
          have HAT2 := Aside0.mk hat2
          have hlen := HS13.mapLen Try.underlying87 (enc := fun x : Int => Value.int .i64 x) (b := s2.c) (l := s2.came.map encC) (7 + j) hat2 3
          rw [List.length_map, hc2] at hlen
          have HER := Aside0.mk (show er (σ1.set j s2) = (er σ1).set j (s1.key, s1.nc, s1.ct, s1.came.map erC ++ [(ix, bs)]) from by rw [hs2]; simp [er, er1, erC, List.map_set])
          have HL2 := Aside0.mk (show s2.came.length = s1.came.length + 1 from by rw [hcame]; simp)
          have HC1 := Aside0.mk hc2
          have p1 := HS13.cell 0 1 rfl rfl
          have p2 := HS13.cell 0 2 rfl rfl
          clear hs2 hc2 hcame hat2
          by_cases hless : (s2.came.length : Int) < ct
          · have hld : decide ((s2.came.length : Int) < ct) = true := decide_eq_true hless
            have z0 := HS13.cell 2 0 rfl rfl; have q0 := HS13.frozen 2 0 rfl; have z1 := HS13.cell 2 1 rfl rfl; have q1 := HS13.frozen 2 1 rfl; have z2 := HS13.cell 2 2 rfl rfl; have q2 := HS13.frozen 2 2 rfl; have z3 := HS13.cell 2 3 rfl rfl; have q3 := HS13.frozen 2 3 rfl
            go_wp2_with (first | ((with_reducible refine gate_store (t := 24) (p := 4) rfl ?_); refine store_event (t := 24) (p := 4) (v := ?vo9) (w1 := ((((w11.setCell ⟨g4, 0, none⟩ (.int .i64 0)).setCell ⟨g4, 1, none⟩ (.int .i64 0)).setCell ⟨g4, 2, none⟩ (.int .i64 0)).setCell ⟨g4, 3, none⟩ (.slice none 0 0))) ?hg9 ?ho9 ?hn9 ?hr9 ?_; (case ho9 => rfl); (case hg9 => rfl); (case hn9 => rfl); (case hr9 => first | (go_simp; done) | (go_simp; rfl)); intro w14 hw; have HS14 := ((((HS13.setAt 2 0 (.int .i64 0) rfl).setAt 2 1 (.int .i64 0) rfl).setAt 2 2 (.int .i64 0) rfl).setAt 2 3 (.slice none 0 0) rfl); rw [← hw] at HS14; clear hw HS13 z0 z1 z2 z3 q0 q1 q2 q3))
            refine bodyPost_ret (results_ct rfl _ _ g4 24 #[.int .i64 0, .int .i64 0, .int .i64 0, .slice none 0 0] (0, 0) _ rfl (HS14.block 2 rfl).1 hu24 rfl rfl) rfl ⟨σ1.set j s2, ?_, .inr ⟨?_, rfl, Sat.dropL (M := [_, _, _, _]) HS14⟩⟩
            · rw [HAD.out, HER.out]; simp
            · rw [HAD.out]
              have := HL2.out
              rw [HCT.out]
              simp only [Bool.false_eq_true, if_false]
              rw [if_pos (by omega)]
          · have hld : decide ((s2.came.length : Int) < ct) = false := decide_eq_false hless
            obtain ⟨n, rfl⟩ : ∃ n : Nat, ct = (n : Int) := ⟨ct.toNat, by omega⟩
            have hn86 : n ≤ 86 := by omega
            have HBB := Aside0.mk (show ∀ e ∈ s2.came, e.2.2.length ≤ 1048576 from fun e he => by
              rw [HC2.out] at he
              rcases List.mem_append.1 he with he | he
              · exact HS1'.out s1 (List.mem_of_getElem? HJ1.out) e he
              · rw [List.mem_singleton.1 he]; exact HB.out)
            have d0 := HS13.cell 3 0 rfl rfl
            have d1 := HS13.cell 3 1 rfl rfl
            have d2 := HS13.cell 3 2 rfl rfl
            go_wp2_with (first | ((with_reducible refine gate_dst (N := 11) rfl ?_); refine box_event ?hg10 (N := 11) ?hd10 (cs := #[.int .i64 0, .int .i64 0, .int .i64 0, .slice none 0 0]) (t := 24) ?hr10 ?_; (case hd10 => rfl); (case hg10 => rfl); (case hr10 => first | (go_simp; done) | (go_simp; rfl)); intro g11 hg w12 hbox hb; have HS14 := HS13.box hg hbox hb; clear HS13 hg hbox hb d0 d1 d2 p1 p2; have z0 := HS14.cell 0 0 rfl rfl; have q0 := HS14.frozen 0 0 rfl; have z1 := HS14.cell 0 1 rfl rfl; have q1 := HS14.frozen 0 1 rfl; have z2 := HS14.cell 0 2 rfl rfl; have q2 := HS14.frozen 0 2 rfl; have z3 := HS14.cell 0 3 rfl rfl; have q3 := HS14.frozen 0 3 rfl) | ((with_reducible refine gate_store (t := 24) (p := 11) rfl ?_); refine store_event (t := 24) (p := 11) (v := ?vo11) (w1 := ((((w12.setCell ⟨g11, 0, none⟩ (.int .i64 kd)).setCell ⟨g11, 1, none⟩ (.int .i64 nd)).setCell ⟨g11, 2, none⟩ (.int .i64 nc)).setCell ⟨g11, 3, none⟩ (.slice none 0 0))) ?hg11 ?ho11 ?hn11 ?hr11 ?_; (case ho11 => rfl); (case hg11 => rfl); (case hn11 => rfl); (case hr11 => first | (go_simp; done) | (go_simp; rfl)); intro w13 hw; have HS15 := ((((HS14.setAt 0 0 (.int .i64 kd) rfl).setAt 0 1 (.int .i64 nd) rfl).setAt 0 2 (.int .i64 nc) rfl).setAt 0 3 (.slice none 0 0) rfl); rw [← hw] at HS15; clear hw HS14 z0 z1 z2 z3 q0 q1 q2 q3; have p1 := HS15.cell 1 1 rfl rfl; have p2 := HS15.cell 1 2 rfl rfl; have d0 := HS15.cell 4 0 rfl rfl; have d1 := HS15.cell 4 1 rfl rfl; have d2 := HS15.cell 4 2 rfl rfl))
            have HLS := Aside0.mk hless
            clear hless hld hlen
            go_loopw [12, 116] (fun v12 v116 wr => ∃ (i : Nat) (acc : List Int) (v : Value), v116 = .int .i64 i ∧ i ≤ n ∧ acc = catE i (s2.came.map erC) ∧ Sat w0 wr (row kB 5 v acc :: blk g11 (.cells #[.int .i64 kd, .int .i64 nd, .int .i64 nc, v] 24 (0, 0)) :: blk g7 (.cells #[.int .i64 s1.nc, .int .i64 n, .map (some s1.c)] 89 (0, 0)) :: blk g6 (.cells #[.int .i64 kd, .int .i64 nd] 86 (0, 0)) :: blk g4 (.cells #[.int .i64 0, .int .i64 0, .int .i64 0, .slice none 0 0] 24 (0, 0)) :: blk g3 (.cells #[.int .i64 kd, .int .i64 nd, .int .i64 nc, .int .i64 ix, .int .i64 n, .slice A m c] 35 (0, 0)) :: (inbox g b (σ1.set j s2) ++ L))) (fun _ i _ => n - (intOf i).toNat)
            case atStart => exact ⟨0, [], .slice none 0 0, rfl, Nat.zero_le _, rfl, HS15.nilRow kB 5⟩
            case round =>
              obtain ⟨i, acc, v2, rfl, hi, hacc, HS16⟩ := hrel
              clear HS15 p1 p2 d0 d1 d2
              obtain ⟨Av, cv, rfl⟩ := HS16.rowShape 0 rfl
              obtain ⟨la, hla⟩ : ∃ la, la = acc.length := ⟨_, rfl⟩
              rw [← hla] at HS16
              have HLA := Aside0.mk hla
              have HAC := Aside0.mk hacc
              clear hla hacc
              by_cases hlt : i < n
              · have hlt2 : decide ((i : Int) < (n : Int)) = true := decide_eq_true (by omega)
                have hlt3 : decide (i < n) = true := decide_eq_true hlt
                obtain ⟨Ai, mi, ci, hlk3, hci3, hbl3⟩ : ∃ (Ai : Option Addr) (mi ci : Nat), (Instr.lookup 87 (.map (some s1.c)) (.int .i64 (i : Int)) false).run Try.prog wr = .ok (.slice Ai mi ci) wr ∧ kB.C wr Ai mi (bytesE i (s2.came.map erC)) ∧ (bytesE i (s2.came.map erC)).length ≤ 1048576 := by
                  have hat3 : (row kB 5 (.slice Av la cv) acc :: blk g11 (.cells #[.int .i64 kd, .int .i64 nd, .int .i64 nc, .slice Av la cv] 24 (0, 0)) :: blk g7 (.cells #[.int .i64 s1.nc, .int .i64 n, .map (some s1.c)] 89 (0, 0)) :: blk g6 (.cells #[.int .i64 kd, .int .i64 nd] 86 (0, 0)) :: blk g4 (.cells #[.int .i64 0, .int .i64 0, .int .i64 0, .slice none 0 0] 24 (0, 0)) :: blk g3 (.cells #[.int .i64 kd, .int .i64 nd, .int .i64 nc, .int .i64 ix, .int .i64 n, .slice A m c] 35 (0, 0)) :: (inbox g b (σ1.set j s2) ++ L))[9 + j]? = some (inner s2) := by
                    have := HAT2.out
                    rw [show 7 + j = 3 + j + 1 + 1 + 1 + 1 from by omega] at this
                    simp only [List.getElem?_cons_succ] at this
                    rw [show 9 + j = 3 + j + 1 + 1 + 1 + 1 + 1 + 1 from by omega]
                    simp only [List.getElem?_cons_succ]
                    exact this
                  have hrd : PFs (σ1.set j s2) wr := HS16.poolGet 8 rfl List.mem_cons_self
                  have hmem : s2 ∈ σ1.set j s2 := List.mem_of_getElem? (i := j) (by rw [List.getElem?_set, if_pos rfl, if_pos (List.getElem?_eq_some_iff.1 HJ1.out).1])
                  unfold bytesE
                  rw [lookP_er, ← HC1.out]
                  cases hc : lookC (i : Int) s2.came with
                  | none => exact ⟨none, 0, 0, HS16.look_none (keyInt Try.underlying3) Try.underlying87 zero22 (9 + j) hat3 (i : Int) (by rw [lookC_from, hc]; rfl) false, ⟨rfl, Nat.zero_le _, fun hh => absurd hh (Nat.lt_irrefl 0)⟩, by simp⟩
                  | some q =>
                    have hq := (lookIn_at hc).1
                    exact ⟨q.2.2.1.1, q.2.2.2.length, q.2.2.1.2, HS16.look_some (keyInt Try.underlying3) Try.underlying87 (9 + j) hat3 (i : Int) (j := q.1) (v := valC q.2) (by rw [lookC_from, hc]; rfl) false, (hrd s2 hmem q.2 (List.mem_of_getElem? hq)).2, HBB.out q.2 (List.mem_of_getElem? hq)⟩
                obtain ⟨bi, hbi⟩ : ∃ bi, bi = bytesE i (s2.came.map erC) := ⟨_, rfl⟩
                rw [← hbi] at hci3 hbl3
                have HBI := Aside0.mk hbi
                have HCI := Aside0.mk hci3
                have HBL := Aside0.mk hbl3
                have HTOT := Aside0.mk (show la + mi ≤ 140737488355328 from by
                  have h1 := HLA.out
                  have h2 := catE_len HBB.out i
                  rw [← HAC.out] at h2
                  have h3 : mi = bi.length := hci3.1.symm
                  omega)
                clear hbi hci3 hbl3
                have e3 := HS16.cell 1 3 rfl rfl
                have f3 := HS16.frozen 1 3 rfl
                have p2 := HS16.cell 2 2 rfl rfl
                go_wp2_with (first | ((with_reducible refine gate_builtin (b := .append) (xs := #[.tmp 120, .tmp 124]) rfl ?_); refine appRow kB rfl (.tmp 120) (.tmp 124) 22 5 (.int .u8 0) 1 rfl Try.underlying22 inf5 rfl (by decide) (by decide) _ acc bi Ai mi ci rfl rfl HS16 HCI.out (fun _ _ h => h) (by have := HTOT.out; have := HLA.out; omega) ?_; intro vn w17 HS17; clear HS16 hlk3 e3 f3 p2; have e3 := HS17.cell 1 3 rfl rfl; have f3 := HS17.frozen 1 3 rfl; obtain ⟨An, cn2, rfl⟩ := HS17.rowShape 0 rfl) | ((with_reducible refine gate_store (t := 22) (p := 126) rfl ?_); refine store_event (t := 22) (p := 126) (v := ?vo) (w1 := (w17.setCell ⟨g11, 3, none⟩ (.slice An (acc ++ bi).length cn2))) ?hga ?hoa ?hna ?hra ?_; (case hoa => rfl); (case hga => rfl); (case hna => rfl); (case hra => first | (go_simp; done) | (go_simp; rfl)); intro w18 hw; have HS18 := HS17.setAt 1 3 (.slice An (acc ++ bi).length cn2) rfl; rw [← hw] at HS18; clear hw HS17 e3 f3))
                exact ⟨⟨i + 1, acc ++ bi, _, by rw [Int.natCast_add]; rfl, by omega, by rw [HAC.out, HBI.out, catE_succ], HS18⟩, by simp [intOf]; omega⟩
              · obtain rfl : i = n := by omega
                have hlt2 : decide ((i : Int) < (i : Int)) = false := decide_eq_false (by omega)
                have e0 := HS16.cell 1 0 rfl rfl
                have e1 := HS16.cell 1 1 rfl rfl
                have e2 := HS16.cell 1 2 rfl rfl
                have e3 := HS16.cell 1 3 rfl rfl
                have z0 := HS16.cell 4 0 rfl rfl; have q0 := HS16.frozen 4 0 rfl; have z1 := HS16.cell 4 1 rfl rfl; have q1 := HS16.frozen 4 1 rfl; have z2 := HS16.cell 4 2 rfl rfl; have q2 := HS16.frozen 4 2 rfl; have z3 := HS16.cell 4 3 rfl rfl; have q3 := HS16.frozen 4 3 rfl
                go_wp2_with (first | ((with_reducible refine gate_store (t := 24) (p := 4) rfl ?_); refine store_event (t := 24) (p := 4) (v := ?vo12) (w1 := ((((wr.setCell ⟨g4, 0, none⟩ (.int .i64 kd)).setCell ⟨g4, 1, none⟩ (.int .i64 nd)).setCell ⟨g4, 2, none⟩ (.int .i64 nc)).setCell ⟨g4, 3, none⟩ (.slice Av la cv))) ?hg12 ?ho12 ?hn12 ?hr12 ?_; (case ho12 => rfl); (case hg12 => rfl); (case hn12 => rfl); (case hr12 => first | (go_simp; done) | (go_simp; rfl)); intro w17 hw; have HS17 := ((((HS16.setAt 4 0 (.int .i64 kd) rfl).setAt 4 1 (.int .i64 nd) rfl).setAt 4 2 (.int .i64 nc) rfl).setAt 4 3 (.slice Av la cv) rfl); rw [← hw] at HS17; clear hw HS16 z0 z1 z2 z3 q0 q1 q2 q3 e0 e1 e2 e3))
                refine bodyPost_ret (results_ct rfl _ _ g4 24 #[.int .i64 kd, .int .i64 nd, .int .i64 nc, .slice Av la cv] (0, 0) _ rfl (HS17.block 4 rfl).1 hu24 rfl rfl) rfl ⟨σ1.set j s2, ?_, .inl ⟨acc, .slice Av la cv, ?_, rfl, ((((HS17.dropAt 1).dropAt 1).dropAt 1).dropAt 1).dropAt 1⟩⟩
                · rw [HAD.out, HER.out]; simp
                · rw [HAD.out, HCT.out]
                  have h1 := HL2.out
                  have h2 := HLS.out
                  simp only [Bool.false_eq_true, if_false]
                  rw [if_neg (by omega), HAC.out, Int.toNat_natCast, HC2.out]
                  simp [erC]

end Go.Proofs.Ytaojnbhnogndnaa.SL
