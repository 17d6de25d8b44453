/- Package session's inbox: what it is behind a frame, as a row and in memory. -/
import Derived.Test.YtaojnbhnogndnaaY8
namespace Go.Proofs.Ytaojnbhnogndnaa.SL
open Go.RowKit Go.Proofs.YtaojnbhnogndnaaW.PrintWords Go.Proofs.YtaojnbhnogndnaaW.PrintLast Go.Proofs.YtaojnbhnogndnaaW.PrintMore
attribute [local go_sem] max2_int min2_int max_two min_two
attribute [local go_sem high] Small.cell_set_same
set_option linter.unusedVariables false
set_option linter.unusedSimpArgs false

/-! ### Inboxes as rows -/
/-- A kind and a node, the nonce, how many pieces, the pieces that came. -/
abbrev ESlot : Type := (Int × Int) × Int × Int × List (Int × List Int)
abbrev ES : Type := List ESlot
def lookE (x : Int × Int) (σ : ES) : Option (Nat × ESlot) := lookIn Prod.fst x 0 σ
def lookP (i : Int) (l : List (Int × List Int)) : Option (Nat × (Int × List Int)) := lookIn Prod.fst i 0 l
def step1E (x : Int × Int) (nc ct : Int) (σ : ES) : ES := match lookE x σ with
  | none => σ ++ [(x, nc, ct, [])]
  | some (j, s) => if s.2.1 < nc then σ.set j (x, nc, ct, []) else σ
def okArg (ix ct : Int) : Bool := decide (1 ≤ ct) && decide (ct ≤ 86) && decide (0 ≤ ix) && decide (ix < ct)
def refuse (s : ESlot) (nc ix ct : Int) : Bool := decide (nc < s.2.1) || decide (ct ≠ s.2.2.1) || (lookP ix s.2.2.2).isSome
def bytesE (i : Int) (came : List (Int × List Int)) : List Int := match lookP i came with | some (_, e) => e.2 | none => []
def catE (n : Nat) (came : List (Int × List Int)) : List Int := (List.range n).flatMap fun (i : Nat) => bytesE i came
def acceptE (σ : ES) (kd nd nc ix ct : Int) : Bool := okArg ix ct && (match lookE (kd, nd) (step1E (kd, nd) nc ct σ) with | none => false | some (_, s) => !refuse s nc ix ct)
def addE (σ : ES) (kd nd nc ix ct : Int) (by_ : List Int) : ES × Option (List Int) :=
  if okArg ix ct = true then
    match lookE (kd, nd) (step1E (kd, nd) nc ct σ) with
    | none => (step1E (kd, nd) nc ct σ, none)
    | some (j, s) => if refuse s nc ix ct = true then (step1E (kd, nd) nc ct σ, none) else
      ((step1E (kd, nd) nc ct σ).set j (s.1, s.2.1, s.2.2.1, s.2.2.2 ++ [(ix, by_)]), if ((s.2.2.2.length + 1 : Nat) : Int) < s.2.2.1 then none else some (catE s.2.2.1.toNat (s.2.2.2 ++ [(ix, by_)])))
  else (σ, none)

/-! ### The same, with where it lies -/
def erC (e : CE) : Int × List Int := (e.1, e.2.2)
def er1 (s : GS) : ESlot := (s.key, s.nc, s.ct, s.came.map erC)
def er (σ : List GS) : ES := σ.map er1
theorem lookIn_map {α β κ : Type} [DecidableEq κ] (f : α → β) (ka : α → κ) (kb : β → κ) (h : ∀ a, kb (f a) = ka a) (x : κ) : ∀ (i : Nat) (l : List α), lookIn kb x i (l.map f) = (lookIn ka x i l).map fun q => (q.1, f q.2)
  | _, [] => rfl
  | i, a :: l => by
    simp only [List.map_cons, lookIn]
    rw [h]
    split
    · rfl
    · exact lookIn_map f ka kb h x (i + 1) l
theorem lookE_er (x : Int × Int) (σ : List GS) : lookE x (er σ) = (lookS x σ).map fun q => (q.1, er1 q.2) := lookIn_map er1 GS.key Prod.fst (fun _ => rfl) x 0 σ
theorem lookP_er (i : Int) (l : List CE) : lookP i (l.map erC) = (lookC i l).map fun q => (q.1, erC q.2) := lookIn_map erC Prod.fst Prod.fst (fun _ => rfl) i 0 l
theorem lookIn_at {α κ : Type} [DecidableEq κ] {key : α → κ} {l : List α} {x : κ} {j : Nat} {a : α} (h : lookIn key x 0 l = some (j, a)) : l[j]? = some a ∧ key a = x := by
  obtain ⟨m, h1, h2, h3⟩ := lookIn_some h
  obtain rfl : j = m := by omega
  exact ⟨h2, h3⟩
theorem lookIn_app {α κ : Type} [DecidableEq κ] {key : α → κ} {x : κ} (n : α) (hn : key n = x) : ∀ {l : List α} {i : Nat}, lookIn key x i l = none → lookIn key x i (l ++ [n]) = some (i + l.length, n)
  | [], i, _ => by simp [lookIn, hn]
  | a :: l, i, h => by
    unfold lookIn at h
    split at h
    · cases h
    · rename_i hx
      simp only [List.cons_append, lookIn]
      rw [if_neg hx, lookIn_app n hn h, List.length_cons]
      congr 2; omega
theorem lookIn_set {α κ : Type} [DecidableEq κ] {key : α → κ} {x : κ} (n : α) (hn : key n = x) : ∀ {l : List α} {i j : Nat} {a : α}, lookIn key x i l = some (i + j, a) → lookIn key x i (l.set j n) = some (i + j, n)
  | a :: l, i, j, b, h => by
    unfold lookIn at h
    split at h
    · rename_i hx
      have : j = 0 := by have := (Prod.mk.inj (Option.some.inj h)).1; omega
      subst this
      simp [lookIn, hn]
    · rename_i hx
      obtain ⟨m, h1, _, _⟩ := lookIn_some h
      obtain ⟨j', rfl⟩ : ∃ j', j = j' + 1 := ⟨j - 1, by omega⟩
      simp only [List.set_cons_succ, lookIn]
      rw [if_neg hx]
      have h2 := lookIn_set n hn (l := l) (i := i + 1) (j := j') (a := b) (by rw [show i + 1 + j' = i + (j' + 1) from by omega]; exact h)
      rw [h2]; congr 2; omega
/-- The slot at a kind and a node behind the first step. -/
def newS (x : Int × Int) (c : Nat) (nc ct : Int) : GS := ⟨x, c, nc, ct, []⟩
theorem lookS_grow {x : Int × Int} {σ : List GS} (c : Nat) (nc ct : Int) (h : lookS x σ = none) : lookS x (σ ++ [newS x c nc ct]) = some (σ.length, newS x c nc ct) := by
  have := lookIn_app (key := GS.key) (x := x) (newS x c nc ct) rfl (l := σ) (i := 0) h
  rw [Nat.zero_add] at this
  exact this
theorem lookS_renew {x : Int × Int} {σ : List GS} {j : Nat} {s : GS} (n : GS) (hn : n.key = x) (h : lookS x σ = some (j, s)) : lookS x (σ.set j n) = some (j, n) := by
  have := lookIn_set (key := GS.key) (x := x) n hn (l := σ) (i := 0) (j := j) (a := s) (by rw [Nat.zero_add]; exact h)
  rw [Nat.zero_add] at this
  exact this
theorem step1_none {x : Int × Int} {σ : List GS} (c : Nat) (nc ct : Int) (h : lookS x σ = none) : er (σ ++ [newS x c nc ct]) = step1E x nc ct (er σ) := by
  unfold step1E
  rw [lookE_er, h]
  simp [er, er1, newS]
theorem step1_new {x : Int × Int} {σ : List GS} {j : Nat} {s : GS} (c : Nat) (nc ct : Int) (h : lookS x σ = some (j, s)) (hn : s.nc < nc) : er (σ.set j (newS x c nc ct)) = step1E x nc ct (er σ) := by
  unfold step1E
  rw [lookE_er, h]
  show _ = if s.nc < nc then _ else _
  rw [if_pos hn]
  simp [er, er1, newS, List.map_set]
theorem step1_old {x : Int × Int} {σ : List GS} {j : Nat} {s : GS} (nc ct : Int) (h : lookS x σ = some (j, s)) (hn : ¬ s.nc < nc) : er σ = step1E x nc ct (er σ) := by
  unfold step1E
  rw [lookE_er, h]
  show _ = if s.nc < nc then _ else _
  rw [if_neg hn]

/-! ### How the assertions go on -/
def I0 : Int → Value := fun x => Value.int .i64 x
theorem put_grow {x : Int × Int} {σ : List GS} (n : GS) (hn : n.key = x) (h : lookS x σ = none) : putAt x (valS n) (σ.map encS) = (σ ++ [n]).map encS := by
  unfold putAt
  rw [lookS_from, h]
  simp [encS, hn]
theorem put_renew {x : Int × Int} {σ : List GS} {j : Nat} {s : GS} (n : GS) (hn : n.key = x) (h : lookS x σ = some (j, s)) : putAt x (valS n) (σ.map encS) = (σ.set j n).map encS := by
  unfold putAt
  rw [lookS_from, h]
  simp [encS, hn, List.map_set]
theorem inbox_grow {w0 w : World} {L : List Asrt} {g b : Nat} {σ : List GS} {n : GS} (hn : n.came = []) (HS : Sat w0 w (inner n :: blk g (.cells #[.map (some b)] 83 (0, 0)) :: mapA encF b ((σ ++ [n]).map encS) :: pool [PFs σ] :: (σ.map inner ++ L))) : Sat w0 w (inbox g b (σ ++ [n]) ++ L) := by
  have h1 : Sat w0 w (pool [PFs (σ ++ [n])] :: _) := (HS.pick 3 rfl).poolMap (fun w' hw f hf => by
    rw [List.mem_singleton.1 hf]
    intro s hs e he
    rcases List.mem_append.1 hs with hs | hs
    · exact hw _ List.mem_cons_self s hs e he
    · rw [List.mem_singleton.1 hs, hn] at he; cases he)
  have h2 : Sat w0 w (inner n :: blk g (.cells #[.map (some b)] 83 (0, 0)) :: mapA encF b ((σ ++ [n]).map encS) :: pool [PFs (σ ++ [n])] :: (σ.map inner ++ L)) := ((h1.pick 3 rfl).pick 3 rfl).pick 3 rfl
  refine h2.perm ?_
  unfold inbox
  have e1 : (σ ++ [n]).map inner = σ.map inner ++ [inner n] := by simp
  rw [e1]
  simp only [List.cons_append, List.append_assoc, List.nil_append]
  refine ((List.Perm.swap _ _ _).trans (List.Perm.cons _ ((List.Perm.swap _ _ _).trans (List.Perm.cons _ ((List.Perm.swap _ _ _).trans (List.Perm.cons _ ?_))))))
  exact (List.perm_middle (l₁ := σ.map inner) (l₂ := L)).symm
theorem inbox_renew {w0 w : World} {L : List Asrt} {g b j : Nat} {σ : List GS} {n s : GS} (hj : σ[j]? = some s) (hn : n.came = []) (HS : Sat w0 w (inner n :: blk g (.cells #[.map (some b)] 83 (0, 0)) :: mapA encF b ((σ.set j n).map encS) :: pool [PFs σ] :: (σ.map inner ++ L))) : Sat w0 w (inbox g b (σ.set j n) ++ L) := by
  have h1 : Sat w0 w (pool [PFs (σ.set j n)] :: _) := (HS.pick 3 rfl).poolMap (fun w' hw f hf => by
    rw [List.mem_singleton.1 hf]
    intro s' hs e he
    rcases List.mem_or_eq_of_mem_set hs with hs | rfl
    · exact hw _ List.mem_cons_self s' hs e he
    · rw [hn] at he; cases he)
  have h2 : Sat w0 w (inner n :: blk g (.cells #[.map (some b)] 83 (0, 0)) :: mapA encF b ((σ.set j n).map encS) :: pool [PFs (σ.set j n)] :: (σ.map inner ++ L)) := ((h1.pick 3 rfl).pick 3 rfl).pick 3 rfl
  have hjl : j < σ.length := (List.getElem?_eq_some_iff.1 hj).1
  have h3 := h2.dropAt (4 + j)
  rw [show 4 + j = j + 1 + 1 + 1 + 1 from by omega] at h3
  simp only [List.eraseIdx_cons_succ] at h3
  rw [List.eraseIdx_append_of_lt_length (by simpa using hjl)] at h3
  refine h3.perm ?_
  unfold inbox
  have e1 : (σ.set j n).map inner = (σ.map inner).set j (inner n) := List.map_set
  rw [e1]
  simp only [List.cons_append]
  refine ((List.Perm.swap _ _ _).trans (List.Perm.cons _ ((List.Perm.swap _ _ _).trans (List.Perm.cons _ ((List.Perm.swap _ _ _).trans (List.Perm.cons _ ?_))))))
  rw [← List.cons_append]
  exact (perm_back (l := σ.map inner) (i := j) (b := inner n) (by simpa using hjl)).append_right L
/-- The slot at j taken to the front. -/
theorem inbox_pick {w0 w : World} {L : List Asrt} {g b j : Nat} {σ : List GS} {s : GS} (hj : σ[j]? = some s) (HS : Sat w0 w (inbox g b σ ++ L)) :
    Sat w0 w (inner s :: blk g (.cells #[.map (some b)] 83 (0, 0)) :: mapA encF b (σ.map encS) :: pool [PFs σ] :: ((σ.map inner).eraseIdx j ++ L)) := by
  have hjl : j < σ.length := (List.getElem?_eq_some_iff.1 hj).1
  have h := HS.pick (3 + j) (inbox_at hj)
  unfold inbox at h
  rw [show 3 + j = j + 1 + 1 + 1 from by omega] at h
  simp only [List.cons_append, List.eraseIdx_cons_succ] at h
  rw [List.eraseIdx_append_of_lt_length (by simpa using hjl)] at h
  exact h
/-- .. and, with one piece more, back. -/
theorem inbox_put {w0 w : World} {L : List Asrt} {g b j : Nat} {σ : List GS} {s : GS} {e : CE} {A : Option Addr} {c : Nat} {bs : List Int} (hj : σ[j]? = some s) (he : e = (e.1, ((A, c), bs)))
    (HS : Sat w0 w (row kB 5 (.slice A bs.length c) bs :: inner { s with came := s.came ++ [e] } :: blk g (.cells #[.map (some b)] 83 (0, 0)) :: mapA encF b (σ.map encS) :: pool [PFs σ] :: ((σ.map inner).eraseIdx j ++ L))) :
    Sat w0 w (inbox g b (σ.set j { s with came := s.came ++ [e] }) ++ L) := by
  have hjl : j < σ.length := (List.getElem?_eq_some_iff.1 hj).1
  have h1 := ((HS.pick 4 rfl).pick 1 rfl).poolRow
  have h2 : Sat w0 w (pool [PFs (σ.set j { s with came := s.came ++ [e] })] :: _) := h1.poolMap (fun w' hw f hf => by
    rw [List.mem_singleton.1 hf]
    have hold : PFs σ w' := hw _ (List.mem_cons_of_mem _ List.mem_cons_self)
    have hnew := hw _ List.mem_cons_self
    intro s' hs e' he'
    rcases List.mem_or_eq_of_mem_set hs with hs | rfl
    · exact hold s' hs e' he'
    · rcases List.mem_append.1 he' with he' | he'
      · exact hold s (List.mem_of_getElem? hj) e' he'
      · rw [List.mem_singleton.1 he', he]
        exact ⟨hnew.2.1, hnew.2.2⟩)
  have h3 : Sat w0 w (inner { s with came := s.came ++ [e] } :: blk g (.cells #[.map (some b)] 83 (0, 0)) :: mapA encF b (σ.map encS) :: pool [PFs (σ.set j { s with came := s.came ++ [e] })] :: ((σ.map inner).eraseIdx j ++ L)) := ((h2.pick 3 rfl).pick 3 rfl).pick 3 rfl
  have hS : (σ.set j { s with came := s.came ++ [e] }).map encS = σ.map encS := by
    rw [List.map_set]
    have h4 : (σ.map encS)[j]? = some (encS s) := by rw [List.getElem?_map, hj]; rfl
    have h5 : encS { s with came := s.came ++ [e] } = encS s := rfl
    rw [h5]
    apply List.ext_getElem?
    intro i
    rw [List.getElem?_set]
    split
    · rename_i hij; subst hij; rw [if_pos (by simpa using hjl), h4]
    · rfl
  refine h3.perm ?_
  unfold inbox
  have e1 : (σ.set j { s with came := s.came ++ [e] }).map inner = (σ.map inner).set j (inner { s with came := s.came ++ [e] }) := List.map_set
  rw [hS, e1]
  simp only [List.cons_append]
  refine ((List.Perm.swap _ _ _).trans (List.Perm.cons _ ((List.Perm.swap _ _ _).trans (List.Perm.cons _ ((List.Perm.swap _ _ _).trans (List.Perm.cons _ ?_))))))
  rw [← List.cons_append]
  exact (perm_back (l := σ.map inner) (i := j) (b := inner { s with came := s.came ++ [e] }) (by simpa using hjl)).append_right L
theorem put_piece {i : Int} {came : List CE} (e : CE) (he : e.1 = i) (h : lookC i came = none) : putAt i (valC e) (came.map encC) = (came ++ [e]).map encC := by
  unfold putAt
  rw [lookC_from, h]
  simp [encC, he]
theorem Sat.dropL {w0 w : World} {L : List Asrt} : ∀ {M : List Asrt}, Sat w0 w (M ++ L) → Sat w0 w L
  | [], h => h
  | _ :: M, h => Sat.dropL (M := M) h.tail
section
variable {κ : Type} [DecidableEq κ] {enc : κ → Value} {P : Program} {ops : Array Oper} {Q : Exit → Act → World → Prop} {rest : List Oper} {o : Oper} {a : Act}
theorem upd_event {k t e : TypeId} {w0 W : World} {L : List Asrt} {b : Nat} {l : List (κ × Value)} (K : KeyEnc P k enc) (ht : P.underlying t = some (.map k e)) (hgd : o.guard = none) (hN : o.dst = none) (m x y : Operand) (ho : o.op = .mapUpdate t m x y)
    (key : κ) (v : Value) (hm : a.eval m = .map (some b)) (hx : a.eval x = enc key) (hy : a.eval y = v) (HS : Sat w0 W (mapA enc b l :: L))
    (h : ∀ w1, Sat w0 w1 (mapA enc b (putAt key v l) :: L) → wpList P ops Q rest a w1) : wpList P ops Q (o :: rest) a W := by
  obtain ⟨w1, hrun, HS1⟩ := HS.update K ht key v
  have hr : (execOp a.eval o).run P W = .ok .skip w1 := by simp [execOp, ho, hm, hx, hy, hrun, Result.andThen]
  refine wpList_plain hgd fun K hK => ?_
  unfold Oper.wp
  rw [hr]
  show K (a.put o.dst undef) w1
  rw [hN]
  exact hK _ _ (h w1 HS1)
end

end Go.Proofs.Ytaojnbhnogndnaa.SL
