/- Words for the law NetPlays: the frames that it sends. -/
import Derived.Test.YtaojnbhnogndnaaX18
namespace Go.Proofs.Ytaojnbhnogndnaa.SL
open Go.RowKit Go.Proofs.YtaojnbhnogndnaaW.PrintWords Go.Proofs.YtaojnbhnogndnaaW.PrintLast Go.Proofs.YtaojnbhnogndnaaW.PrintMore
attribute [local go_sem] max2_int min2_int max_two min_two
attribute [local go_sem high] Small.cell_set_same
set_option linter.unusedVariables false
set_option linter.unusedSimpArgs false

abbrev Uk : Type := (Option Addr × Nat) × List Int
def encU (u : Uk) : List Value := [.slice u.1.1 u.2.length u.1.2]
def rowU (u : Uk) : Asrt := row kB 5 (.slice u.1.1 u.2.length u.1.2) u.2
def dyn (us : List Uk) : List Asrt := us.map rowU
theorem raw1_of_blk {w : World} {g e : Nat} {fr : Nat × Nat} {v : Value} (h : w.heap[g]? = some (.cells #[v] e fr)) (h1 : v.oneCell' = true) : (Kd.raw 1).C w (some ⟨g, 0, none⟩) 1 [[v]] := by
  refine ⟨rfl, by decide, fun _ => ⟨_, rfl, fun j p hj => ?_⟩⟩
  match j, hj with
  | 0, hj =>
    injection hj with hj
    subst hj
    refine ⟨[v], rfl, ⟨rfl, rfl, fun u hu => by rw [List.mem_singleton.1 hu]; exact h1⟩, fun i u hu => ?_⟩
    match i, hu with
    | 0, hu =>
      injection hu with hu
      subst hu
      simp [Addr.add, World.cell?, h]
theorem Sat.reads_mem {w0 w : World} {l : List Asrt} {α : Type} {d : Kd α} {e n c : Nat} {A : Option Addr} {xs : List α} (h : Sat w0 w l) (hm : row d e (.slice A n c) xs ∈ l) : n = xs.length ∧ n ≤ c ∧ d.C w A xs.length xs := by
  obtain ⟨S, hp, _⟩ := h.get hm
  exact Kd.R_reads' hp.1
/-- What 'own' reads as. -/
theorem us_frames {w0 w : World} {l : List Asrt} {e n c : Nat} {A : Option Addr} {us : List Uk} (h : Sat w0 w l) (hr : row (Kd.raw 1) e (.slice A n c) (us.map encU) ∈ l) (hd : ∀ u ∈ us, rowU u ∈ l) : (Kd.slice 5 kB).C w A (us.map (·.2)).length (us.map (·.2)) := by
  obtain ⟨h1, h2, h3⟩ := h.reads_mem hr
  have hl : (us.map encU).length = (us.map (·.2)).length := by simp
  rw [hl] at h3
  refine ⟨rfl, h3.2.1, fun hp => ?_⟩
  obtain ⟨ad, e1, hc⟩ := h3.2.2 hp
  refine ⟨ad, e1, fun j p hj => ?_⟩
  rw [List.getElem?_map] at hj
  obtain ⟨u, hu, rfl⟩ := Option.map_eq_some_iff.1 hj
  obtain ⟨c1, q1, q2, q3⟩ := hc j (encU u) (by rw [List.getElem?_map, hu]; rfl)
  obtain ⟨rfl, _, _⟩ := q2
  obtain ⟨_, q5, q6⟩ := h.reads_mem (hd u (List.mem_of_getElem? hu))
  exact ⟨encU u, rfl, ⟨u.1.1, u.1.2, rfl, q5, q6⟩, q3⟩
theorem dyn_at {base : List Asrt} {us : List Uk} {k : Nat} {u : Uk} (h : us[k]? = some u) : (base ++ dyn us)[base.length + k]? = some (rowU u) := by
  rw [List.getElem?_append_right (by omega)]
  have : base.length + k - base.length = k := by omega
  rw [this]
  unfold dyn
  rw [List.getElem?_map, h]
  rfl
theorem dyn_set {base : List Asrt} {us : List Uk} {k : Nat} {u : Uk} : (base ++ dyn us).set (base.length + k) (rowU u) = base ++ dyn (us.set k u) := by
  rw [List.set_append_right _ _ (by omega)]
  have : base.length + k - base.length = k := by omega
  rw [this]
  unfold dyn
  rw [List.map_set]
theorem dyn_snoc {w0 w : World} {a : Asrt} {base : List Asrt} {us : List Uk} {u : Uk} (h : Sat w0 w (a :: rowU u :: (base ++ dyn us))) : Sat w0 w (a :: (base ++ dyn (us ++ [u]))) := by
  refine h.perm ((List.Perm.cons a ?_))
  have h1 : base ++ dyn (us ++ [u]) = (base ++ dyn us) ++ [rowU u] := by
    unfold dyn
    rw [List.map_append, List.append_assoc]
    rfl
  rw [h1]
  exact (List.perm_append_singleton _ _).symm
theorem raw1_at {w : World} {A : Option Addr} {n k : Nat} {EU : List (List Value)} {v : Value} (hr : (Kd.raw 1).C w A n EU) (h : EU[k]? = some [v]) : ∃ ad, A = some ad ∧ w.cell? (ad.add k) = some v := by
  have hk : k < n := by have := (List.getElem?_eq_some_iff.1 h).1; have := hr.1; omega
  obtain ⟨ad, e1, hc⟩ := hr.2.2 (by omega)
  obtain ⟨c1, _, q2, q3⟩ := hc k _ h
  obtain ⟨rfl, _, _⟩ := q2
  refine ⟨ad, e1, ?_⟩
  have h1 := q3 0 _ rfl
  have h2 : (Kd.raw 1).sz = 1 := rfl
  rw [h2, Nat.mul_one, Nat.add_zero] at h1
  exact h1
theorem dyn_put {w0 w : World} {base : List Asrt} {us : List Uk} {k g : Nat} {u : Uk} (h : Sat w0 w (base ++ dyn us)) (hk : us[k]? = some u) (ha : u.1.1 = some ⟨g, 0, none⟩) (j : Nat) (x : Int) :
    Sat w0 (w.setCell ⟨g, j, none⟩ (.int .u8 x)) (base ++ dyn (us.set k (u.1, u.2.set j x))) := by
  have h1 := h.pick _ (dyn_at (base := base) hk)
  have h2 : Sat w0 w (row kB 5 (.slice (some ⟨g, 0, none⟩) u.2.length u.1.2) u.2 :: (base ++ dyn us).eraseIdx (base.length + k)) := by rw [← ha]; exact h1
  have h3 := (h2.rowPut j x).putBack (base.length + k) (List.getElem?_eq_some_iff.1 (dyn_at (base := base) hk)).1
  have h4 : row kB 5 (.slice (some ⟨g, 0, none⟩) u.2.length u.1.2) (u.2.set j x) = rowU (u.1, u.2.set j x) := by unfold rowU; rw [← ha, List.length_set]
  rw [h4, dyn_set] at h3
  exact h3
theorem enc_set {us : List Uk} {k j : Nat} {u : Uk} (hk : us[k]? = some u) (x : Int) : (us.set k (u.1, u.2.set j x)).map encU = us.map encU := by
  rw [List.map_set]
  have h1 : encU (u.1, u.2.set j x) = encU u := by unfold encU; simp
  rw [h1]
  refine List.ext_getElem? (fun i => ?_)
  rw [List.getElem?_set]
  split
  · rename_i he
    subst he
    split
    · rw [List.getElem?_map, hk]; rfl
    · rename_i h2
      rw [List.getElem?_eq_none (by omega)]
  · rfl

end Go.Proofs.Ytaojnbhnogndnaa.SL
