/- Package session: an inbox in memory; New, Missing. -/
import Derived.Test.YtaojnbhnogndnaaY6
namespace Go.Proofs.Ytaojnbhnogndnaa.SL
open Go.RowKit Go.Proofs.YtaojnbhnogndnaaW.PrintWords Go.Proofs.YtaojnbhnogndnaaW.PrintLast Go.Proofs.YtaojnbhnogndnaaW.PrintMore
attribute [local go_sem] max2_int min2_int max_two min_two
attribute [local go_sem high] Small.cell_set_same
set_option linter.unusedVariables false
set_option linter.unusedSimpArgs false

/-- An element found by its key: its place (counted from i on), itself. -/
def lookIn {α κ : Type} [DecidableEq κ] (key : α → κ) (x : κ) : Nat → List α → Option (Nat × α)
  | _, [] => none
  | i, a :: l => if x = key a then some (i, a) else lookIn key x (i + 1) l
theorem lookIn_from {α κ : Type} [DecidableEq κ] (key : α → κ) (val : α → Value) (x : κ) : ∀ (i : Nat) (l : List α), lookFrom x i (l.map fun a => (key a, val a)) = (lookIn key x i l).map fun q => (q.1, val q.2)
  | _, [] => rfl
  | i, a :: l => by
    simp only [List.map_cons, lookFrom, lookIn]
    split
    · rfl
    · exact lookIn_from key val x (i + 1) l
theorem lookIn_some {α κ : Type} [DecidableEq κ] {key : α → κ} : ∀ {l : List α} {x : κ} {i j : Nat} {a : α}, lookIn key x i l = some (j, a) → ∃ m, j = i + m ∧ l[m]? = some a ∧ key a = x
  | c :: l, x, i, j, a, h => by
    unfold lookIn at h
    split at h
    · rename_i hx
      obtain ⟨rfl, rfl⟩ := Prod.mk.inj (Option.some.inj h)
      exact ⟨0, rfl, rfl, hx.symm⟩
    · obtain ⟨m, h1, h2, h3⟩ := lookIn_some h
      exact ⟨m + 1, by omega, by simpa using h2, h3⟩
theorem lookIn_none {α κ : Type} [DecidableEq κ] {key : α → κ} : ∀ {l : List α} {x : κ} {i : Nat}, lookIn key x i l = none → ∀ a ∈ l, key a ≠ x
  | [], _, _, _ => fun a ha => by cases ha
  | c :: l, x, i, h => by
    unfold lookIn at h
    split at h
    · cases h
    · rename_i hx
      intro a ha
      rcases List.mem_cons.1 ha with rfl | ha
      · exact fun he => hx he.symm
      · exact lookIn_none h a ha

/-! ### An inbox of package session -/
/-- A piece that came: its place, where its bytes lie, they themselves. -/
abbrev CE : Type := Int × ((Option Addr × Nat) × List Int)
/-- What came of a kind and a node: the block of its map beside. -/
structure GS where
  key : Int × Int
  c : Nat
  nc : Int
  ct : Int
  came : List CE
def valS (s : GS) : Value := .agg #[.int .i64 s.nc, .int .i64 s.ct, .map (some s.c)]
def encS (s : GS) : (Int × Int) × Value := (s.key, valS s)
def valC (e : CE) : Value := .slice e.2.1.1 e.2.2.length e.2.1.2
def encC (e : CE) : Int × Value := (e.1, valC e)
def inner (s : GS) : Asrt := mapA (fun x : Int => Value.int .i64 x) s.c (s.came.map encC)
def TellsB (w : World) (e : CE) : Prop := e.2.2.length ≤ e.2.1.2 ∧ kB.C w e.2.1.1 e.2.2.length e.2.2
def PFs (σ : List GS) : World → Prop := fun w => ∀ s ∈ σ, ∀ e ∈ s.came, TellsB w e
def inbox (g b : Nat) (σ : List GS) : List Asrt := blk g (.cells #[.map (some b)] 83 (0, 0)) :: mapA encF b (σ.map encS) :: pool [PFs σ] :: σ.map inner
def lookS (x : Int × Int) (σ : List GS) : Option (Nat × GS) := lookIn GS.key x 0 σ
theorem lookS_from (x : Int × Int) (σ : List GS) : lookFrom x 0 (σ.map encS) = (lookS x σ).map fun q => (q.1, valS q.2) := lookIn_from GS.key valS x 0 σ
def lookC (x : Int) (l : List CE) : Option (Nat × CE) := lookIn Prod.fst x 0 l
theorem lookC_from (x : Int) (l : List CE) : lookFrom x 0 (l.map encC) = (lookC x l).map fun q => (q.1, valC q.2) := lookIn_from Prod.fst valC x 0 l
theorem zero89 (w : World) : (zeroValue 89).run Try.prog w = .ok (.agg #[.int .i64 0, .int .i64 0, .map none]) w := by kernel_rfl
theorem zero22 (w : World) : (zeroValue 22).run Try.prog w = .ok (.slice none 0 0) w := by kernel_rfl
theorem inbox_at {g b : Nat} {σ : List GS} {L : List Asrt} {i : Nat} {s : GS} (h : σ[i]? = some s) : (inbox g b σ ++ L)[3 + i]? = some (inner s) := by
  have hi : i < σ.length := (List.getElem?_eq_some_iff.1 h).1
  unfold inbox
  rw [show 3 + i = i + 1 + 1 + 1 from by omega]
  simp only [List.cons_append, List.getElem?_cons_succ]
  rw [List.getElem?_append_left (by simpa using hi), List.getElem?_map, h]; rfl

/-! ### New (session): function 17 -/
theorem sNew_calls {w0 w : World} {L : List Asrt} (HS : Sat w0 w L) : Calls Try.prog 17 #[] w fun e w' => ∃ g b : Nat, e = .returned (.pointer (some ⟨g, 0, none⟩)) ∧ Sat w0 w' (inbox g b [] ++ L) := by
  have hu83 := Try.underlying83
  replace HS := HS.poolNew
  go_enter Try.func17, Try.ntmps17
  go_wp2_with (first | ((with_reducible refine gate_dst (N := 1) rfl ?_); refine map_event rfl (N := 1) rfl rfl ?_; intro b hb0 w1 hbox hb; have HS1 := HS.newMap (enc := encF) hb0 hbox hb; clear HS hb0 hbox hb) | ((with_reducible refine gate_dst (N := 3) rfl ?_); refine box_event ?hg1 (N := 3) ?hd1 (cs := #[.map (some b)]) (t := 83) ?hr1 ?_; (case hd1 => rfl); (case hg1 => rfl); (case hr1 => first | (go_simp; done) | (go_simp; rfl)); intro g hg w2 hbox hb; have HS2 := HS1.box hg hbox hb; clear HS1 hg hbox hb))
  go_ret
  have HP : Sat w0 w2 (pool [PFs []] :: _) := (HS2.pick 2 rfl).poolMap (fun w' _ f hf => by rw [List.mem_singleton.1 hf]; exact fun s hs => by cases hs)
  exact ⟨g, b, rfl, (HP.swap.pick 2 rfl).swap⟩

/-! ### Missing (session): function 21 -/
def missOf (σ : List GS) (x : Int × Int) : Int := match lookS x σ with | none => -1 | some (_, s) => s.ct - s.came.length
set_option maxRecDepth 100000 in
theorem sMissing_calls {w0 w : World} {L : List Asrt} (g b : Nat) (σ : List GS) (kd nd : Int) (hb : ∀ s ∈ σ, 0 ≤ s.ct ∧ s.ct ≤ 86 ∧ s.came.length ≤ 1000) (HS : Sat w0 w (inbox g b σ ++ L)) :
    Calls Try.prog 21 #[.pointer (some ⟨g, 0, none⟩), .int .i64 kd, .int .i64 nd] w fun e w' => e = .returned (.int .i64 (missOf σ (kd, nd))) ∧ Sat w0 w' (inbox g b σ ++ L) := by
  have hu89 := Try.underlying89
  have c0 : w.cell? ⟨g, 0, none⟩ = some (.map (some b)) := HS.cell 0 0 rfl rfl
  cases hl : lookS (kd, nd) σ with
  | none =>
    have hlk : (Instr.lookup 81 (.map (some b)) (.agg #[.int .i64 kd, .int .i64 nd]) true).run Try.prog w = .ok (.tuple #[.agg #[.int .i64 0, .int .i64 0, .map none], .bool false]) w :=
      HS.look_none key86 Try.underlying81 zero89 1 rfl (kd, nd) (by rw [lookS_from, hl]; rfl) true
    have HM := Aside0.mk (show missOf σ (kd, nd) = -1 from by unfold missOf; rw [hl])
    clear hl hb
    go_enter Try.func21, Try.ntmps21
    go_wp2_with (first | ((with_reducible refine gate_dst (N := 7) rfl ?_); refine box_event ?hg2 (N := 7) ?hd2 (cs := #[.int .i64 0, .int .i64 0, .map none]) (t := 89) ?hr2 ?_; (case hd2 => rfl); (case hg2 => rfl); (case hr2 => first | (go_simp; done) | (go_simp; rfl)); intro g7 hg w1 hbox hb; have HS1 := HS.box hg hbox hb; have hlk' := hlk; clear HS hg hbox hb c0; have d0 := HS1.cell 0 0 rfl rfl; have d1 := HS1.cell 0 1 rfl rfl; have d2 := HS1.cell 0 2 rfl rfl; have f0 := HS1.frozen 0 0 rfl; have f1 := HS1.frozen 0 1 rfl; have f2 := HS1.frozen 0 2 rfl) | ((with_reducible refine gate_store (t := 89) (p := 7) rfl ?_); refine store_event (t := 89) (p := 7) (v := ?vo3) (w1 := (((w1.setCell ⟨g7, 0, none⟩ (.int .i64 0)).setCell ⟨g7, 1, none⟩ (.int .i64 0)).setCell ⟨g7, 2, none⟩ (.map none))) ?hg3 ?ho3 ?hn3 ?hr3 ?_; (case ho3 => rfl); (case hg3 => rfl); (case hn3 => rfl); (case hr3 => first | (go_simp; done) | (go_simp; rfl)); intro w2 hw; have HS2 := (((HS1.setAt 0 0 (.int .i64 0) rfl).setAt 0 1 (.int .i64 0) rfl).setAt 0 2 (.map none) rfl); rw [← hw] at HS2; clear hw HS1 d0 d1 d2 f0 f1 f2))
    go_ret
    exact ⟨by rw [HM.out]; rfl, HS2.tail⟩
  | some q =>
    obtain ⟨j, s⟩ := q
    have hlk : (Instr.lookup 81 (.map (some b)) (.agg #[.int .i64 kd, .int .i64 nd]) true).run Try.prog w = .ok (.tuple #[.agg #[.int .i64 s.nc, .int .i64 s.ct, .map (some s.c)], .bool true]) w :=
      HS.look_some key86 Try.underlying81 1 rfl (kd, nd) (j := j) (v := valS s) (by rw [lookS_from, hl]; rfl) true
    have HM := Aside0.mk (show missOf σ (kd, nd) = s.ct - s.came.length from by unfold missOf; rw [hl])
    obtain ⟨m, hm, hj, _⟩ := lookIn_some hl
    obtain rfl : j = m := by omega
    obtain ⟨h1, h2, h3⟩ := hb s (List.mem_of_getElem? hj)
    have HJ : Aside0 (∀ (a : Asrt), (a :: (inbox g b σ ++ L))[4 + j]? = some (inner s)) := Aside0.mk (fun a => by rw [show 4 + j = 3 + j + 1 from by omega, List.getElem?_cons_succ]; exact inbox_at hj)
    clear hl hb hm hj
    go_enter Try.func21, Try.ntmps21
    go_wp2_with (first | ((with_reducible refine gate_dst (N := 7) rfl ?_); refine box_event ?hg4 (N := 7) ?hd4 (cs := #[.int .i64 0, .int .i64 0, .map none]) (t := 89) ?hr4 ?_; (case hd4 => rfl); (case hg4 => rfl); (case hr4 => first | (go_simp; done) | (go_simp; rfl)); intro g7 hg w1 hbox hb; have HS1 := HS.box hg hbox hb; clear HS hg hbox hb c0; have d0 := HS1.cell 0 0 rfl rfl; have d1 := HS1.cell 0 1 rfl rfl; have d2 := HS1.cell 0 2 rfl rfl; have f0 := HS1.frozen 0 0 rfl; have f1 := HS1.frozen 0 1 rfl; have f2 := HS1.frozen 0 2 rfl) | ((with_reducible refine gate_store (t := 89) (p := 7) rfl ?_); refine store_event (t := 89) (p := 7) (v := ?vo5) (w1 := (((w1.setCell ⟨g7, 0, none⟩ (.int .i64 s.nc)).setCell ⟨g7, 1, none⟩ (.int .i64 s.ct)).setCell ⟨g7, 2, none⟩ (.map (some s.c)))) ?hg5 ?ho5 ?hn5 ?hr5 ?_; (case ho5 => rfl); (case hg5 => rfl); (case hn5 => rfl); (case hr5 => first | (go_simp; done) | (go_simp; rfl)); intro w2 hw; have HS2 := (((HS1.setAt 0 0 (.int .i64 s.nc) rfl).setAt 0 1 (.int .i64 s.ct) rfl).setAt 0 2 (.map (some s.c)) rfl); rw [← hw] at HS2; clear hw HS1 d0 d1 d2 f0 f1 f2; have d1 := HS2.cell 0 1 rfl rfl; have d2 := HS2.cell 0 2 rfl rfl; have hlen := HS2.mapLen Try.underlying87 (enc := fun x : Int => Value.int .i64 x) (b := s.c) (l := s.came.map encC) (4 + j) (HJ.out _) 3; rw [List.length_map] at hlen))
    go_ret
    exact ⟨by rw [HM.out]; rfl, HS2.tail⟩

end Go.Proofs.Ytaojnbhnogndnaa.SL
