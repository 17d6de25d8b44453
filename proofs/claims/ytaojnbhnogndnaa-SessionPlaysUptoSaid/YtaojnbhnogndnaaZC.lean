/- The walk of SessionPlays: both Adds by what they tell, the law's own function, its arguments opened. -/
import Derived.Test.YtaojnbhnogndnaaZA
import Derived.Test.YtaojnbhnogndnaaZB
import Derived.Test.YtaojnbhnogndnaaRows
import Derived.Test.YtaojnbhnogndnaaXO
/- Both Adds by what they tell; rows of slots that are the same by their keys; the frames that come in. -/
namespace Go.Proofs.Ytaojnbhnogndnaa.SL
open Go.RowKit Go.Proofs.YtaojnbhnogndnaaW.PrintWords Go.Proofs.YtaojnbhnogndnaaW.PrintLast Go.Proofs.YtaojnbhnogndnaaW.PrintMore
attribute [local go_sem] max2_int min2_int max_two min_two
attribute [local go_sem high] Small.cell_set_same
set_option linter.unusedVariables false
set_option linter.unusedSimpArgs false

/-! ### Same (majordomoref17) of two that are: function 20 -/
set_option maxHeartbeats 1000000 in
set_option maxRecDepth 100000 in
theorem same17e {w : World} (k1 n1 t1 : Int) (A1 : Option Addr) (ca : Nat) (xs : List Int) (A2 : Option Addr) (cb : Nat) (l1 l2 : Nat) (hr1 : kB.C w A1 l1 xs) (hr2 : kB.C w A2 l2 xs) :
    Calls Try.prog 20 #[.agg #[.int .i64 k1, .int .i64 n1, .int .i64 t1, .slice A1 l1 ca], .agg #[.int .i64 k1, .int .i64 n1, .int .i64 t1, .slice A2 l2 cb]] w fun e w' => e = .returned (.bool true) ∧ Sat w w' [] := by
  have hu24 := Try.underlying24
  have HS := Sat.start w
  have HR1 := Aside0.mk hr1
  have HR2 := Aside0.mk hr2
  clear hr1 hr2
  have h1a : (k1 == k1) = true := by simp
  have h2a : (n1 == n1) = true := by simp
  have h3a : (t1 == t1) = true := by simp
  have h4a : ((strOfNums xs).toList == (strOfNums xs).toList) = true := by simp
  go_enter Try.func20, Try.ntmps20
  go_wp2_with (first | ((with_reducible refine gate_dst (N := 2) rfl ?_); refine box_event ?hg1 (N := 2) ?hd1 (cs := #[.int .i64 k1, .int .i64 n1, .int .i64 t1, .slice A1 l1 ca]) (t := 24) ?hr1 ?_; (case hd1 => rfl); (case hg1 => rfl); (case hr1 => first | (go_simp; done) | (go_simp; rfl)); intro g2 hg w1 hbox hb; have HS1 := HS.box hg hbox hb; clear HS hg hbox hb) | ((with_reducible refine gate_dst (N := 3) rfl ?_); refine box_event ?hg2 (N := 3) ?hd2 (cs := #[.int .i64 k1, .int .i64 n1, .int .i64 t1, .slice A2 l2 cb]) (t := 24) ?hr2 ?_; (case hd2 => rfl); (case hg2 => rfl); (case hr2 => first | (go_simp; done) | (go_simp; rfl)); intro g3 hg w2 hbox hb; have HS2 := HS1.box hg hbox hb; clear HS1 hg hbox hb; have d0 := HS2.cell 0 0 rfl rfl; have d1 := HS2.cell 0 1 rfl rfl; have d2 := HS2.cell 0 2 rfl rfl; have d3 := HS2.cell 0 3 rfl rfl; have f0 := HS2.frozen 0 0 rfl; have f1 := HS2.frozen 0 1 rfl; have f2 := HS2.frozen 0 2 rfl; have f3 := HS2.frozen 0 3 rfl; have e0 := HS2.cell 1 0 rfl rfl; have e1 := HS2.cell 1 1 rfl rfl; have e2 := HS2.cell 1 2 rfl rfl; have e3 := HS2.cell 1 3 rfl rfl; have h0 := HS2.frozen 1 0 rfl; have h1 := HS2.frozen 1 1 rfl; have h2 := HS2.frozen 1 2 rfl; have h3 := HS2.frozen 1 3 rfl; have s1 := Kd.C_string (P := Try.prog) (src := 22) (dst := 9) (c := ca) Try.underlying22 Try.underlying5 Try.underlying9 (Kd.C_below HR1.out HS2.below); have s2 := Kd.C_string (P := Try.prog) (src := 22) (dst := 9) (c := cb) Try.underlying22 Try.underlying5 Try.underlying9 (Kd.C_below HR2.out HS2.below)))
  go_ret
  exact ⟨rfl, HS2.tail.tail⟩
/-! ### Both Adds, by what they tell -/
def msgOf (kd nd nc : Int) (o : Option (List Int)) : Int × Int × Int × List Int × Bool := match o with | none => (0, 0, 0, [], false) | some ms => (kd, nd, nc, ms, true)
theorem sAddU {w0 w : World} {L : List Asrt} (g b : Nat) (σ : List GS) (kd nd nc ix ct : Int) (A : Option Addr) (m c : Nat) (bs : List Int) (mk mn mc : Int) (ms : List Int) (t : Bool) (hM : msgOf kd nd nc (addE (er σ) kd nd nc ix ct bs).2 = (mk, mn, mc, ms, t)) (hw : WfE (er σ)) (hmc : m ≤ c) (hfr : ∀ w', Sat w0 w' L → kB.C w' A m bs) (hbl : bs.length ≤ 1048576) (HS : Sat w0 w (inbox g b σ ++ L)) :
    Calls Try.prog 19 #[.pointer (some ⟨g, 0, none⟩), .agg #[.int .i64 kd, .int .i64 nd, .int .i64 nc, .int .i64 ix, .int .i64 ct, .slice A m c]] w fun e w' => ∃ Am cm σ', e = .returned (.tuple #[.agg #[.int .i64 mk, .int .i64 mn, .int .i64 mc, .slice Am ms.length cm], .bool t]) ∧ er σ' = (addE (er σ) kd nd nc ix ct bs).1 ∧ Sat w0 w' (row kB 5 (.slice Am ms.length cm) ms :: (inbox g b σ' ++ L)) := by
  cases ho : (addE (er σ) kd nd nc ix ct bs).2 with
  | none =>
    rw [ho] at hM
    simp only [msgOf, Prod.mk.injEq] at hM
    obtain ⟨rfl, rfl, rfl, rfl, rfl⟩ := hM
    refine (sAdd_no (L := L) g b σ (er σ) _ rfl kd nd nc ix ct A m c bs (Prod.ext rfl ho) hw hmc hfr (add_short hbl) HS).mono ?_
    rintro e w' ⟨rfl, σ', hσ, HS'⟩
    exact ⟨none, 0, σ', rfl, hσ, HS'.nilRow kB 5⟩
  | some x =>
    rw [ho] at hM
    simp only [msgOf, Prod.mk.injEq] at hM
    obtain ⟨rfl, rfl, rfl, rfl, rfl⟩ := hM
    refine (sAdd_yes (L := L) g b σ (er σ) _ rfl kd nd nc ix ct A m c bs x (Prod.ext rfl ho) hw hmc hfr (add_short hbl) HS).mono ?_
    rintro e w' ⟨v, rfl, σ', hσ, HS'⟩
    obtain ⟨Am, cm, rfl⟩ := HS'.rowShape 0 rfl
    exact ⟨Am, cm, σ', rfl, hσ, HS'⟩
theorem rAddU {w0 w : World} {L : List Asrt} {fs : List (World → Prop)} (g : Nat) (Ay : Option Addr) (cy : Nat) (ρ : List RS) (kd nd nc ix ct : Int) (A : Option Addr) (m c : Nat) (bs : List Int) (mk mn mc : Int) (ms : List Int) (t : Bool) (hM : msgOf kd nd nc (addE (rer ρ) kd nd nc ix ct bs).2 = (mk, mn, mc, ms, t)) (hr : kB.C w0 A m bs) (hmc : m ≤ c) (hbl : bs.length ≤ 1048576) (hwf : WfE (rer ρ)) (hrl : ρ.length ≤ 1000000) (HS : Sat w0 w (rbx g Ay cy ρ :: pool (RP Ay cy ρ :: fs) :: L)) :
    Calls Try.prog 38 #[.pointer (some ⟨g, 0, none⟩), .agg #[.int .i64 kd, .int .i64 nd, .int .i64 nc, .int .i64 ix, .int .i64 ct, .slice A m c]] w fun e w' => ∃ Am cm A' c' ρ', e = .returned (.tuple #[.agg #[.int .i64 mk, .int .i64 mn, .int .i64 mc, .slice Am ms.length cm], .bool t]) ∧ rer ρ' = (addE (rer ρ) kd nd nc ix ct bs).1 ∧ Sat w0 w' (row kB 5 (.slice Am ms.length cm) ms :: rbx g A' c' ρ' :: pool (RP A' c' ρ' :: fs) :: L) := by
  have key : Calls Try.prog 38 #[.pointer (some ⟨g, 0, none⟩), .agg #[.int .i64 kd, .int .i64 nd, .int .i64 nc, .int .i64 ix, .int .i64 ct, .slice A m c]] w (AddPostR ρ kd nd nc ix ct bs w0 g fs L) := by
    cases hok : okArg ix ct with
    | false => exact rAdd_bad g Ay cy ρ kd nd nc ix ct A m c bs hok HS
    | true => exact rAdd_good g Ay cy ρ kd nd nc ix ct A m c bs hok hr hmc hbl hwf hrl HS
  refine key.mono ?_
  rintro e w' ⟨A', c', ρ', hρ, h⟩
  rcases h with ⟨x, v, ho, rfl, HS'⟩ | ⟨ho, rfl, HS'⟩
  · rw [ho] at hM
    simp only [msgOf, Prod.mk.injEq] at hM
    obtain ⟨rfl, rfl, rfl, rfl, rfl⟩ := hM
    obtain ⟨Am, cm, rfl⟩ := HS'.rowShape 0 rfl
    exact ⟨Am, cm, A', c', ρ', rfl, hρ, HS'⟩
  · rw [ho] at hM
    simp only [msgOf, Prod.mk.injEq] at hM
    obtain ⟨rfl, rfl, rfl, rfl, rfl⟩ := hM
    exact ⟨none, 0, A', c', ρ', rfl, hρ, HS'.nilRow kB 5⟩
/-! ### Two rows of slots that are the same by their keys -/
def SameK (x y : ES) : Prop := ∀ k, getE x k = getE y k
theorem SameK.add {x y : ES} (h : SameK x y) (kd nd nc ix ct : Int) (bs : List Int) : SameK (addE x kd nd nc ix ct bs).1 (addE y kd nd nc ix ct bs).1 ∧ (addE x kd nd nc ix ct bs).2 = (addE y kd nd nc ix ct bs).2 := by
  obtain ⟨x1, x2, x3⟩ := add_get x kd nd nc ix ct bs
  obtain ⟨y1, y2, y3⟩ := add_get y kd nd nc ix ct bs
  refine ⟨fun k => ?_, by rw [x2, y2, h]⟩
  by_cases hk : k = (kd, nd)
  · rw [hk, x1, y1, h]
  · rw [x3 k hk, y3 k hk, h]
theorem addE_shape (x : ES) (kd nd nc ix ct : Int) (bs : List Int) : ((addE x kd nd nc ix ct bs).1.map Prod.fst = x.map Prod.fst) ∨ (lookE (kd, nd) x = none ∧ (addE x kd nd nc ix ct bs).1.map Prod.fst = x.map Prod.fst ++ [(kd, nd)]) := by
  have hset : ∀ (l : ES) (j : Nat) (s s' : ESlot), l[j]? = some s → s'.1 = s.1 → (l.set j s').map Prod.fst = l.map Prod.fst := by
    intro l j s s' hj hs
    rw [List.map_set, hs]
    exact set_self (by rw [List.getElem?_map, hj]; rfl)
  have hstep : (step1E (kd, nd) nc ct x).map Prod.fst = x.map Prod.fst ∨ (lookE (kd, nd) x = none ∧ (step1E (kd, nd) nc ct x).map Prod.fst = x.map Prod.fst ++ [(kd, nd)]) := by
    unfold step1E
    cases hl : lookE (kd, nd) x with
    | none => exact .inr ⟨rfl, by simp⟩
    | some q =>
      obtain ⟨j, s⟩ := q
      obtain ⟨hj, hk⟩ := lookIn_at hl
      left
      show (if s.2.1 < nc then _ else _ : ES).map Prod.fst = _
      split
      · exact hset x j s _ hj hk.symm
      · rfl
  unfold addE
  split
  · cases hl : lookE (kd, nd) (step1E (kd, nd) nc ct x) with
    | none => exact hstep
    | some q =>
      obtain ⟨j, s⟩ := q
      obtain ⟨hj, hk⟩ := lookIn_at hl
      show (_ : ES × Option (List Int)).1.map Prod.fst = _ ∨ _
      by_cases hr : refuse s nc ix ct = true
      · simp only [if_pos hr]; exact hstep
      · simp only [if_neg hr]
        rw [hset _ j s (s.1, s.2.1, s.2.2.1, s.2.2.2 ++ [(ix, bs)]) hj rfl]
        exact hstep
  · exact .inl rfl
theorem addE_keys {x : ES} (h : (x.map Prod.fst).Nodup) (kd nd nc ix ct : Int) (bs : List Int) : ((addE x kd nd nc ix ct bs).1.map Prod.fst).Nodup := by
  rcases addE_shape x kd nd nc ix ct bs with he | ⟨hl, he⟩
  · rw [he]; exact h
  · rw [he]
    refine List.nodup_append.2 ⟨h, by simp, fun a ha b hb => ?_⟩
    rw [List.mem_singleton.1 hb]
    obtain ⟨s, hs, rfl⟩ := List.mem_map.1 ha
    exact lookIn_none hl s hs
theorem addE_len (x : ES) (kd nd nc ix ct : Int) (bs : List Int) : (addE x kd nd nc ix ct bs).1.length ≤ x.length + 1 := by
  rcases addE_shape x kd nd nc ix ct bs with he | ⟨_, he⟩
  · have := congrArg List.length he
    simp only [List.length_map] at this
    omega
  · have := congrArg List.length he
    simp at this
    omega
theorem getE_mem {x : ES} (h : (x.map Prod.fst).Nodup) (k : Int × Int) (v : KS) : getE x k = some v ↔ (k, v) ∈ x := by
  unfold getE
  constructor
  · intro he
    cases hl : lookE k x with
    | none => rw [hl] at he; cases he
    | some q =>
      obtain ⟨j, s⟩ := q
      obtain ⟨hj, hk⟩ := lookIn_at hl
      rw [hl] at he
      have hv : s.2 = v := Option.some.inj he
      have : s = (k, v) := Prod.ext hk hv
      rw [← this]
      exact List.mem_of_getElem? hj
  · intro hm
    cases hl : lookE k x with
    | none => exact absurd rfl (lookIn_none hl _ hm)
    | some q =>
      obtain ⟨j, s⟩ := q
      obtain ⟨hj, hk⟩ := lookIn_at hl
      have hs : s = (k, v) := by
        obtain ⟨i, hi, hie⟩ := List.getElem_of_mem hm
        obtain ⟨hjl, hje⟩ := List.getElem?_eq_some_iff.1 hj
        have hjl' : j < (x.map Prod.fst).length := by rw [List.length_map]; exact hjl
        have hi' : i < (x.map Prod.fst).length := by rw [List.length_map]; exact hi
        have he : (x.map Prod.fst)[j] = (x.map Prod.fst)[i] := by
          rw [List.getElem_map, List.getElem_map, hje, hie, hk]
        have := (List.getElem_inj h).1 he
        subst this
        rw [← hje, hie]
      rw [hs]; rfl
theorem getE_perm {x y : ES} (hp : x.Perm y) (h : (x.map Prod.fst).Nodup) : SameK x y := by
  have h2 : (y.map Prod.fst).Nodup := (hp.map Prod.fst).nodup_iff.1 h
  intro k
  cases h1 : getE x k with
  | some v => exact ((getE_mem h2 k v).2 (hp.mem_iff.1 ((getE_mem h k v).1 h1))).symm
  | none =>
    cases h3 : getE y k with
    | none => rfl
    | some v =>
      have := (getE_mem h k v).2 (hp.mem_iff.2 ((getE_mem h2 k v).1 h3))
      rw [h1] at this; cases this
theorem strip_er {σ τ : List GS} (hp : (τ.map GS.strip).Perm (σ.map GS.strip)) : (er τ).Perm (er σ) := by
  have h : ∀ l : List GS, er l = (l.map GS.strip).map (fun q => (q.1, q.2.1, q.2.2.1, q.2.2.2.map erC)) := fun l => by unfold er; rw [List.map_map]; rfl
  rw [h, h]
  exact hp.map _
theorem er_keys (σ : List GS) : (er σ).map Prod.fst = σ.map GS.key := by unfold er; rw [List.map_map]; rfl
theorem rer_len (ρ : List RS) : (rer ρ).length = ρ.length := by unfold rer; simp
theorem WfE.perm {x y : ES} (h : WfE y) (hp : x.Perm y) : WfE x := fun s hs => h s (hp.mem_iff.1 hs)
/-! ### The frames that come in -/
def kFrI : Kd (Int × Int × Int × Int × Int × List Int) := Kd.pair (Kd.int .i64) (Kd.pair (Kd.int .i64) (Kd.pair (Kd.int .i64) (Kd.pair (Kd.int .i64) (Kd.pair (Kd.int .i64) (Kd.slice 5 kB)))))
theorem fr_at {w : World} {A : Option Addr} {n : Nat} {l : List (Int × Int × Int × Int × Int × List Int)} (hr : kFrI.C w A n l) (i : Nat) {x : Int × Int × Int × Int × Int × List Int} (hx : l[i]? = some x) :
    ∃ ad b o B c, A = some ad ∧ ad.add (i * 6) = ⟨b, o, none⟩ ∧ w.cell? ⟨b, o, none⟩ = some (.int .i64 x.1) ∧ w.cell? ⟨b, o + 1, none⟩ = some (.int .i64 x.2.1) ∧ w.cell? ⟨b, o + 2, none⟩ = some (.int .i64 x.2.2.1) ∧ w.cell? ⟨b, o + 3, none⟩ = some (.int .i64 x.2.2.2.1) ∧ w.cell? ⟨b, o + 4, none⟩ = some (.int .i64 x.2.2.2.2.1) ∧ w.cell? ⟨b, o + 5, none⟩ = some (.slice B x.2.2.2.2.2.length c) ∧
      x.2.2.2.2.2.length ≤ c ∧ kB.C w B x.2.2.2.2.2.length x.2.2.2.2.2 := by
  have hi : i < l.length := (List.getElem?_eq_some_iff.1 hx).1
  have hln : l.length = n := hr.1
  obtain ⟨ad, c, e, _, hK, hc⟩ := Kd.C_get hr (0, 0, 0, 0, 0, []) (i : Int) (by omega) (by omega)
  simp only [Int.toNat_natCast] at hK hc
  have hg : l.getD i (0, 0, 0, 0, 0, []) = x := by rw [List.getD_eq_getElem?_getD, hx]; rfl
  rw [hg] at hK
  obtain ⟨_, _, rfl, rfl, _, _, rfl, rfl, _, _, rfl, rfl, _, _, rfl, rfl, _, _, rfl, rfl, ⟨B, cb, rfl, h1, h2⟩⟩ := hK
  have h0 : ad.add (i * 6) = ⟨(ad.add (i * 6)).block, (ad.add (i * 6)).off, none⟩ := spotless (hc 0 _ rfl)
  refine ⟨ad, (ad.add (i * 6)).block, (ad.add (i * 6)).off, B, cb, e, h0, ?_, ?_, ?_, ?_, ?_, ?_, h1, h2⟩
  · rw [← h0]; exact hc 0 _ rfl
  · rw [← addr_at h0]; exact hc 1 _ rfl
  · rw [← addr_at h0]; exact hc 2 _ rfl
  · rw [← addr_at h0]; exact hc 3 _ rfl
  · rw [← addr_at h0]; exact hc 4 _ rfl
  · rw [← addr_at h0]; exact hc 5 _ rfl

end Go.Proofs.Ytaojnbhnogndnaa.SL
/- The law SessionPlays. -/
namespace Go.Proofs.Ytaojnbhnogndnaa.SL
open Go.RowKit Go.Proofs.YtaojnbhnogndnaaW.PrintWords Go.Proofs.YtaojnbhnogndnaaW.PrintLast Go.Proofs.YtaojnbhnogndnaaW.PrintMore
attribute [local go_sem] max2_int min2_int max_two min_two
attribute [local go_sem high] Small.cell_set_same
set_option linter.unusedVariables false
set_option linter.unusedSimpArgs false
theorem intX_at {w : World} {k : IntKind} {A : Option Addr} {n : Nat} {xs : List Int} (hr : (Kd.int k).C w A n xs) (i : Nat) (hi : i < n) : ∃ ad, A = some ad ∧ w.cell? (ad.add i) = some (.int k (xs.getD i 0)) := by
  obtain ⟨ad, c, e, _, hK, hc⟩ := Kd.C_get hr 0 (i : Int) (by omega) (by omega)
  simp only [Int.toNat_natCast] at hK hc
  have hK' : c = [.int k (xs.getD i 0)] := hK
  subst hK'
  refine ⟨ad, e, ?_⟩
  have := hc 0 _ rfl
  have h1 : (Kd.int k).sz = 1 := rfl
  rw [h1, Nat.mul_one, Nat.add_zero] at this
  exact this

section
variable {w0 w w' : World} {a : Asrt} {L l : List Asrt}
/-- A number of a row of one's own is written. -/
theorem Sat.rowPutX {k : IntKind} {e n c g : Nat} {xs : List Int} (h : Sat w0 w (row (Kd.int k) e (.slice (some ⟨g, 0, none⟩) n c) xs :: L)) (i : Nat) (x : Int) : Sat w0 (w.setCell ⟨g, i, none⟩ (.int k x)) (row (Kd.int k) e (.slice (some ⟨g, 0, none⟩) n c) (xs.set i x) :: L) := by
  obtain rfl := (h.readsRow 0 rfl).1
  refine h.write (fun S hP _ => ⟨S, fun k hk => .inl hk, (Touch.set w g i _).mono (fun k _ hk => hP.1.1 k (by rw [hk]; simp [Value.ownBlock])), ?_, fun k hk => ?_⟩)
  · have := (Kd.R_put hP.1 (i : Int) x).1
    rw [Int.toNat_natCast] at this
    exact this
  · have := hP.2 k hk
    simpa [World.setCell] using this
theorem Sat.rowCellX {k : IntKind} {e n c : Nat} {A : Option Addr} {xs : List Int} (h : Sat w0 w l) (p : Nat) (hp : l[p]? = some (row (Kd.int k) e (.slice A n c) xs)) (i : Nat) (hi : i < n) : ∃ g, A = some ⟨g, 0, none⟩ ∧ w.cell? ⟨g, i, none⟩ = some (.int k (xs.getD i 0)) ∧ w.frozen? ⟨g, i, none⟩ = false := by
  obtain ⟨ok, hr⟩ := h.rowAt p hp
  obtain ⟨rfl, _, hC⟩ := Kd.R_reads' hr
  obtain ⟨g, cap, he, _, _, _⟩ := Kd.R_form hr (by omega)
  injection he with e1 _ e2
  subst e1
  have h2 := (Kd.R_cell (0 : Int) hr (i : Int) (by omega) (by omega)).2
  obtain ⟨ad, e3, h1⟩ := intX_at hC i hi
  injection e3 with e3
  subst e3
  have h5 : (⟨g, 0, none⟩ : Addr).add i = ⟨g, i, none⟩ := by unfold Addr.add; split <;> simp_all
  rw [h5] at h1
  exact ⟨g, rfl, h1, by simpa using h2⟩
end


section
variable {P : Program} {ops : Array Oper} {Q : Exit → Act → World → Prop} {rest : List Oper} {o : Oper} {a : Act}
theorem range_ev2 {k t e : TypeId} {w0 W : World} {L : List Asrt} {b : Nat} {es : Array MapEntry} {clock : Nat} (ht : P.underlying t = some (.map k e)) (hgd : o.guard = none) {N : Tmp} (hd : o.dst = some N) (m : Operand) (ho : o.op = .range t m) (hm : a.eval m = .map (some b))
    (hb : W.heap[b]? = some (.map es clock)) (HS : Sat w0 W L) (h : ∀ r w1, w1.heap[b]? = some (.map es clock) → Sat w0 w1 (blk r (.mapIter (some b) clock #[] clock) :: L) → wpList P ops Q rest (a.put o.dst (.pointer (some ⟨r, 0, none⟩))) w1) : wpList P ops Q (o :: rest) a W := by
  have hbl : b < W.heap.size := (Array.getElem?_eq_some_iff.1 hb).1
  have hbe : Below W.heap.size W (W.alloc (.mapIter (some b) clock #[] clock)) := below_alloc (Below.refl _ _) _
  refine Kd.event_run hgd (v := .pointer (some ⟨W.heap.size, 0, none⟩)) (w1 := W.alloc (.mapIter (some b) clock #[] clock)) ?_ (h _ _ ((hbe.block b hbl).trans hb) (HS.newBlk rfl (blk_new W _) hbe))
  simp [execOp, ho, hm, run_range_map W t k e b es clock ht hb, Result.andThen]
end
/-! ### Clone (session) of an inbox to which nothing came: function 36 -/
set_option maxHeartbeats 4000000 in
set_option maxRecDepth 100000 in
theorem sClone_nil {w0 w : World} {L : List Asrt} (g b : Nat) (HS : Sat w0 w (inbox g b [] ++ L)) :
    Calls Try.prog 36 #[.pointer (some ⟨g, 0, none⟩)] w fun e w' => ∃ (g' b' : Nat), e = .returned (.pointer (some ⟨g', 0, none⟩)) ∧ Sat w0 w' (pool [ZF g' b' []] :: (inbox g b [] ++ L)) := by
  have hu83 := Try.underlying83
  have hu86 := Try.underlying86
  have hu89 := Try.underlying89
  go_enter Try.func36, Try.ntmps36
  go_wp2_with (first | (go_at_call 17; refine (sNew_calls HS).mono ?_; rintro e w1 ⟨g', b', rfl, HS1'⟩; have HS1 : Sat w0 w1 (inbox g' b' [] ++ (inbox g b [] ++ L)) := HS1'; obtain ⟨es, clock, hbb, hes⟩ := HS1.mapAt 4 rfl; have HES := Aside0.mk hes; have HBB := Aside0.mk hbb; clear HS HS1' hes hbb; have c0 := HS1.cell 3 0 rfl rfl) | ((with_reducible refine gate_dst (N := 11) rfl ?_); refine range_ev2 Try.underlying81 rfl (N := 11) rfl (.tmp 10) rfl rfl HBB.out HS1 ?_; intro r w2 hb2 HS2; have HB2 := Aside0.mk hb2; clear HS1 c0 hb2))
  simp only [Act.put, List.setIfInBounds_toArray, List.set_cons_zero, List.set_cons_succ]
  have HNE := Aside0.mk (show es.toList = [] from by have := congrArg List.length HES.out.1; exact List.length_eq_zero_iff.1 (by simpa using this))
  clear HBB
  go_loopw [12] (fun _ wr => wr.heap[b]? = some (.map es clock) ∧ Sat w0 wr (blk r (.mapIter (some b) clock #[] clock) :: (inbox g' b' [] ++ (inbox g b [] ++ L)))) (fun _ _ => 0)
  case atStart => exact ⟨HB2.out, HS2⟩
  case round =>
    obtain ⟨hb, HT⟩ := hrel
    clear HS2
    have HB := Aside0.mk hb
    clear hb
    go_wp2_with (first | ((with_reducible refine gate_dst (N := 12) rfl ?_); refine next_ev rfl (N := 12) rfl (.tmp 11) rfl rfl HB.out HES.out.2.1 (Nat.le_refl _) HT ?_ (fun e he => by unfold leftOf at he; rw [Array.toList_filter, HNE.out] at he; cases he); intro _))
    go_ret
    refine ⟨g', b', rfl, ?_⟩
    obtain ⟨es3, clock3, hm3, HP⟩ := inbox_pool HT.tail
    exact (HP.dropAt 1).poolMap (fun w' hw f hf => by
      rw [List.mem_singleton.1 hf]
      exact (hw _ List.mem_cons_self).toZF hm3)

end Go.Proofs.Ytaojnbhnogndnaa.SL
/- The law SessionPlays. -/
namespace Go.Proofs.Ytaojnbhnogndnaa.SL
open Go.RowKit Go.Proofs.YtaojnbhnogndnaaW.PrintWords Go.Proofs.YtaojnbhnogndnaaW.PrintLast Go.Proofs.YtaojnbhnogndnaaW.PrintMore
attribute [local go_sem] max2_int min2_int max_two min_two
attribute [local go_sem high] Small.cell_set_same
set_option linter.unusedVariables false
set_option linter.unusedSimpArgs false

abbrev FrI : Type := Int × Int × Int × Int × Int × List Int
def SPInv (i : Nat) (σ σz : List GS) (ρ ρw : List RS) : Prop :=
  WfE (er σ) ∧ WfE (er σz) ∧ WfE (rer ρ) ∧ WfE (rer ρw) ∧ (σ.map GS.key).Nodup ∧ SameK (er σ) (rer ρ) ∧ SameK (er σz) (rer ρw) ∧ ρ.length ≤ i ∧ ρw.length ≤ i
def SPRel (w : World) (i : Nat) (v6 v7 v8 v9 : Value) (wr : World) : Prop :=
  ∃ (gx bx gy : Nat) (Ay : Option Addr) (cy gz bz gw : Nat) (Aw : Option Addr) (cw : Nat) (σ σz : List GS) (ρ ρw : List RS),
    v6 = .pointer (some ⟨gx, 0, none⟩) ∧ v7 = .pointer (some ⟨gy, 0, none⟩) ∧ v8 = .pointer (some ⟨gz, 0, none⟩) ∧ v9 = .pointer (some ⟨gw, 0, none⟩) ∧ SPInv i σ σz ρ ρw ∧ Sat w wr ([pool [ZF gz bz σz], rbx gy Ay cy ρ, pool [RP Ay cy ρ, RP Aw cw ρw], rbx gw Aw cw ρw] ++ inbox gx bx σ)
theorem SPInv.start : SPInv 0 [] [] [] [] :=
  ⟨fun s hs => absurd hs List.not_mem_nil, fun s hs => absurd hs List.not_mem_nil, fun s hs => absurd hs List.not_mem_nil, fun s hs => absurd hs List.not_mem_nil, List.nodup_nil, fun k => rfl, fun k => rfl, Nat.le_refl _, Nat.le_refl _⟩
theorem wf_miss {ρ : List RS} (h : WfE (rer ρ)) : ∀ s ∈ ρ, 0 ≤ s.ct ∧ s.ct ≤ 86 ∧ s.came.length ≤ 1000 := fun s hs => by
  have h1 := h _ (List.mem_map_of_mem hs)
  have h2 := slot_len2 h1
  have h3 : (rer1 s).2.2.2.length = s.came.length := by unfold rer1; simp
  rw [h3] at h2
  have h4 : 1 ≤ s.ct := h1.1
  have h5 : s.ct ≤ 86 := h1.2.1
  exact ⟨by omega, h5, by omega⟩
theorem wf_missG {σ : List GS} (h : WfE (er σ)) : ∀ s ∈ σ, 0 ≤ s.ct ∧ s.ct ≤ 86 ∧ s.came.length ≤ 1000 := fun s hs => by
  have h1 := h _ (List.mem_map_of_mem hs)
  have h2 := slot_len2 h1
  have h3 : (er1 s).2.2.2.length = s.came.length := by unfold er1; simp
  rw [h3] at h2
  have h4 : 1 ≤ s.ct := h1.1
  have h5 : s.ct ≤ 86 := h1.2.1
  exact ⟨by omega, h5, by omega⟩

theorem swapF {f g : World → Prop} : ∀ w', (∀ h ∈ [f, g], h w') → ∀ h ∈ [g, f], h w' := fun w' hw h hh => by
  rcases List.mem_cons.1 hh with rfl | hh
  · exact hw _ (List.mem_cons_of_mem _ List.mem_cons_self)
  · rw [List.mem_singleton.1 hh]; exact hw _ List.mem_cons_self

/-! ### SessionPlays: function 10 -/
set_option maxHeartbeats 32000000 in
set_option maxRecDepth 100000 in
theorem SessionPlays_calls {w : World} (A : Option Addr) (c : Nat) (l : List FrI) (A2 : Option Addr) (c2 : Nat) (os : List Int) (hr : kFrI.C w A l.length l) (hc0 : l.length ≤ c) (hb : ∀ x ∈ l, x.2.2.2.2.2.length ≤ 1048576) (hr2 : (Kd.int .i64).C w A2 os.length os) :
    Calls Try.prog 10 #[.slice A l.length c, .slice A2 os.length c2] w fun e w' => e = .returned (.bool true) ∧ Below w.heap.size w w' := by
  have hu24 := Try.underlying24
  have hu35 := Try.underlying35
  have hu69 := Try.underlying69
  have HS := Sat.start w
  have HR := Aside0.mk hr
  have HR2 := Aside0.mk hr2
  have HB := Aside0.mk hb
  have hll : l.length ≤ 9223372036854775807 := hr.2.1
  have hlo : os.length ≤ 9223372036854775807 := hr2.2.1
  obtain ⟨ln, hln⟩ : ∃ ln, ln = l.length := ⟨_, rfl⟩
  obtain ⟨lo, hlo2⟩ : ∃ lo, lo = os.length := ⟨_, rfl⟩
  rw [← hln] at HR hll hc0 ⊢
  rw [← hlo2] at HR2 hlo ⊢
  have HLN := Aside0.mk hln
  have HLO := Aside0.mk hlo2
  clear hr hr2 hb hln hlo2
  go_enter Try.func10, Try.ntmps10
  go_wp2_with (first | (go_at_call 15; refine (shown17_calls HS).mono ?_; rintro e w1 ⟨rfl, HS1⟩; clear HS) | (go_at_call 17; refine (sNew_calls HS1).mono ?_; rintro e w2 ⟨gx, bx, rfl, HS2⟩; clear HS1) | ((with_reducible refine gate_dst (N := 22) rfl ?_); refine box_event ?hg7 (N := 22) ?hd7 (cs := #[.slice none 0 0]) (t := 69) ?hr7 ?_; (case hd7 => rfl); (case hg7 => rfl); (case hr7 => first | (go_simp; done) | (go_simp; rfl)); intro gy hg w3 hbox hb; have HS3 := HS2.box hg hbox hb; clear HS2 hg hbox hb) | (go_at_call 36; refine (sClone_nil (L := rbx gy none 0 [] :: []) gx bx (((HS3.pick 3 rfl).pick 3 rfl).pick 3 rfl)).mono ?_; rintro e w4 ⟨gz, bz, rfl, HS4'⟩; have HS4 : Sat w w4 (rbx gy none 0 [] :: pool [ZF gz bz []] :: inbox gx bx []) := HS4'.pick 4 rfl; clear HS3 HS4') | (go_at_call 37; refine (rxClone_calls gy none 0 [] HS4).mono ?_; rintro e w5 ⟨gw, rfl, HS5⟩; clear HS4))
  go_loopw [6, 7, 8, 9, 10] (fun v6 v7 v8 v9 v10 wr => ∃ i : Nat, v10 = .int .i64 i ∧ i ≤ 200 ∧ SPRel w i v6 v7 v8 v9 wr) (fun _ _ _ _ v10 _ => 200 - (intOf v10).toNat)
  case atStart =>
    refine ⟨0, rfl, by decide, gx, bx, gy, none, 0, gz, bz, gw, none, 0, [], [], [], [], rfl, rfl, rfl, rfl, SPInv.start, ?_⟩
    have h := HS5.poolNew
    have h2 : Sat w w5 (pool [RP none 0 [], RP none 0 []] :: rbx gw none 0 [] :: rbx gy none 0 [] :: pool [ZF gz bz []] :: inbox gx bx []) := h.poolMap (fun w' _ f hf => by
      rcases List.mem_cons.1 hf with rfl | hf
      · exact RP.nil w'
      · rw [List.mem_singleton.1 hf]; exact RP.nil w')
    exact ((h2.pick 1 rfl).pick 1 rfl |>.pick 2 rfl |>.pick 3 rfl)
  case round =>
    obtain ⟨i, rfl, hi, gx, bx, gy, Ay, cy, gz, bz, gw, Aw, cw, σ, σz, ρ, ρw, rfl, rfl, rfl, rfl, hinv, HT⟩ := hrel
    clear HS5
    have HINV := Aside0.mk hinv
    have hρ1 : ρ.length ≤ 200 := by have := hinv.2.2.2.2.2.2.2.1; omega
    clear hinv
    by_cases hin : i < ln ∧ i < 200
    · obtain ⟨h1, h2⟩ := hin
      have h1d : decide ((i : Int) < (ln : Int)) = true := decide_eq_true (by omega)
      have h1e : decide (i < ln) = true := decide_eq_true h1
      have h2d : decide ((i : Int) < 200) = true := decide_eq_true (by omega)
      have h2e : decide (i < 200) = true := decide_eq_true h2
      obtain ⟨x, hx⟩ : ∃ x, l[i]? = some x := ⟨_, List.getElem?_eq_getElem (by rw [← HLN.out]; exact h1)⟩
      have hbx := HB.out x (List.mem_of_getElem? hx)
      obtain ⟨kd, nd, nc, ix, ct, bs⟩ := x
      obtain ⟨ad, b, o, B, cB, rfl, ha, q0, q1, q2, q3, q4, q5, hbc, hbr⟩ := fr_at HR.out i hx
      have HQ := Aside0.mk (show ∀ w', Below w.heap.size w w' → w'.cell? ⟨b, o, none⟩ = some (.int .i64 kd) ∧ w'.cell? ⟨b, o + 1, none⟩ = some (.int .i64 nd) ∧ w'.cell? ⟨b, o + 2, none⟩ = some (.int .i64 nc) ∧ w'.cell? ⟨b, o + 3, none⟩ = some (.int .i64 ix) ∧ w'.cell? ⟨b, o + 4, none⟩ = some (.int .i64 ct) ∧ w'.cell? ⟨b, o + 5, none⟩ = some (.slice B bs.length cB) from
        fun w' h => ⟨(h.cell (World.block_lt_of_cell? _ _ q0)).trans q0, (h.cell (World.block_lt_of_cell? _ _ q1)).trans q1, (h.cell (World.block_lt_of_cell? _ _ q2)).trans q2, (h.cell (World.block_lt_of_cell? _ _ q3)).trans q3, (h.cell (World.block_lt_of_cell? _ _ q4)).trans q4, (h.cell (World.block_lt_of_cell? _ _ q5)).trans q5⟩)
      have HBR := Aside0.mk hbr
      have hbl : bs.length ≤ 1048576 := hbx
      obtain ⟨⟨mk, mn, mc, ms, t⟩, hM⟩ : ∃ M, M = msgOf kd nd nc (addE (er σ) kd nd nc ix ct bs).2 := ⟨_, rfl⟩
      have HM := Aside0.mk hM.symm
      have HMR := Aside0.mk (show msgOf kd nd nc (addE (rer ρ) kd nd nc ix ct bs).2 = (mk, mn, mc, ms, t) from by rw [← (HINV.out.2.2.2.2.2.1.add kd nd nc ix ct bs).2]; exact hM.symm)
      clear hx hbx q0 q1 q2 q3 q4 q5 hbr hM
      obtain ⟨k0, k1, k2, k3, k4, k5⟩ := HQ.out wr HT.below
      obtain ⟨w9, rfl⟩ : ∃ w9, w9 = wr := ⟨_, rfl⟩
      go_wp2_with (first | ((with_reducible refine gate_dst (N := 11) rfl ?_); refine box_event ?hg8 (N := 11) ?hd8 (cs := #[.int .i64 0, .int .i64 0, .int .i64 0, .int .i64 0, .int .i64 0, .slice none 0 0]) (t := 35) ?hr8 ?_; (case hd8 => rfl); (case hg8 => rfl); (case hr8 => first | (go_simp; done) | (go_simp; rfl)); intro g11 hg w10 hbox hb; have HT1 := HT.box hg hbox hb; clear HT hg hbox hb k0 k1 k2 k3 k4 k5; have d0 := HT1.cell 0 0 rfl rfl; have d1 := HT1.cell 0 1 rfl rfl; have d2 := HT1.cell 0 2 rfl rfl; have d3 := HT1.cell 0 3 rfl rfl; have d4 := HT1.cell 0 4 rfl rfl; have d5 := HT1.cell 0 5 rfl rfl; have f0 := HT1.frozen 0 0 rfl; have f1 := HT1.frozen 0 1 rfl; have f2 := HT1.frozen 0 2 rfl; have f3 := HT1.frozen 0 3 rfl; have f4 := HT1.frozen 0 4 rfl; have f5 := HT1.frozen 0 5 rfl) | ((with_reducible refine gate_store (t := 35) (p := 11) rfl ?_); refine store_event (t := 35) (p := 11) (v := ?vo9) (w1 := ((((((w10.setCell ⟨g11, 0, none⟩ (.int .i64 kd)).setCell ⟨g11, 1, none⟩ (.int .i64 nd)).setCell ⟨g11, 2, none⟩ (.int .i64 nc)).setCell ⟨g11, 3, none⟩ (.int .i64 ix)).setCell ⟨g11, 4, none⟩ (.int .i64 ct)).setCell ⟨g11, 5, none⟩ (.slice B bs.length cB))) ?hg9 ?ho9 ?hn9 ?hr9 ?_; (case ho9 => rfl); (case hg9 => rfl); (case hn9 => rfl); (case hr9 => first | (go_simp; done) | (go_simp; rfl)); intro w11 hw; have HT2 := ((((((HT1.setAt 0 0 (.int .i64 kd) rfl).setAt 0 1 (.int .i64 nd) rfl).setAt 0 2 (.int .i64 nc) rfl).setAt 0 3 (.int .i64 ix) rfl).setAt 0 4 (.int .i64 ct) rfl).setAt 0 5 (.slice B bs.length cB) rfl); rw [← hw] at HT2; clear hw HT1 d0 d1 d2 d3 d4 d5 f0 f1 f2 f3 f4 f5) | ((with_reducible refine gate_dst (N := 49) rfl ?_); refine box_event2 ?hg10 (N := 49) ?hd10 (v := fun g => .slice (some ⟨g, 0, none⟩) 0 0) (cs := #[]) (t := 5) ?hr10 ?_; (case hd10 => rfl); (case hg10 => rfl); (case hr10 => first | (go_simp; done) | (go_simp; rfl)); intro g49 hg w12 hbox hb; have HT3' := HT2.box hg hbox hb; clear HT2 hg hbox hb; have HT3 := HT3'.emptyRow0 kB; clear HT3'; obtain ⟨k0, k1, k2, k3, k4, k5⟩ := HQ.out w12 HT3.below) | ((with_reducible refine gate_builtin (b := .append) (xs := #[.tmp 49, .tmp 54]) rfl ?_); refine appRow kB rfl (.tmp 49) (.tmp 54) 22 5 (.int .u8 0) 1 rfl Try.underlying22 inf5 rfl (by decide) (by decide) _ [] bs B bs.length cB rfl rfl HT3 (Kd.C_below HBR.out HT3.below) (fun _ _ h => h) (by simp; omega) ?_; intro vb w13 HT4; rw [List.nil_append] at HT4; clear HT3 k0 k1 k2 k3 k4 k5; obtain ⟨A1, c1, rfl⟩ := HT4.rowShape 0 rfl; have d5 := HT4.cell 1 5 rfl rfl; have f5 := HT4.frozen 1 5 rfl) | ((with_reducible refine gate_store (t := 22) (p := 56) rfl ?_); refine store_event (t := 22) (p := 56) (v := ?vo11) (w1 := (w13.setCell ⟨g11, 5, none⟩ (.slice A1 bs.length c1))) ?hg11 ?ho11 ?hn11 ?hr11 ?_; (case ho11 => rfl); (case hg11 => rfl); (case hn11 => rfl); (case hr11 => first | (go_simp; done) | (go_simp; rfl)); intro w14 hw; have HT5' := (HT4.setAt 1 5 (.slice A1 bs.length c1) rfl); rw [← hw] at HT5'; clear hw HT4 d5 f5; have HT5 : Sat w w14 ([row kB 5 (.slice A1 bs.length c1) bs, blk g11 (.cells #[.int .i64 kd, .int .i64 nd, .int .i64 nc, .int .i64 ix, .int .i64 ct, .slice A1 bs.length c1] 35 (0, 0)), pool [ZF gz bz σz], rbx gy Ay cy ρ, pool [RP Ay cy ρ, RP Aw cw ρw], rbx gw Aw cw ρw] ++ inbox gx bx σ) := HT5'; clear HT5'; have d0 := HT5.cell 1 0 rfl rfl; have d1 := HT5.cell 1 1 rfl rfl; have d2 := HT5.cell 1 2 rfl rfl; have d3 := HT5.cell 1 3 rfl rfl; have d4 := HT5.cell 1 4 rfl rfl; have d5 := HT5.cell 1 5 rfl rfl) | (have hgd := HT5; clear hgd; go_at_call 19; refine (sAddU (L := row kB 5 (.slice A1 bs.length c1) bs :: blk g11 (.cells #[.int .i64 kd, .int .i64 nd, .int .i64 nc, .int .i64 ix, .int .i64 ct, .slice A1 bs.length c1] 35 (0, 0)) :: pool [ZF gz bz σz] :: rbx gy Ay cy ρ :: pool [RP Ay cy ρ, RP Aw cw ρw] :: rbx gw Aw cw ρw :: []) gx bx σ kd nd nc ix ct A1 bs.length c1 bs mk mn mc ms t HM.out HINV.out.1 (HT5.readsRow 0 rfl).2.1 (fun w' h => (h.readsRow 0 rfl).2.2) hbl (HT5.perm List.perm_append_comm)).mono ?_; rintro e w15 ⟨Am, cm, σ', rfl, hσ, HT6'⟩; have HT6 : Sat w w15 ([row kB 5 (.slice Am ms.length cm) ms, row kB 5 (.slice A1 bs.length c1) bs, blk g11 (.cells #[.int .i64 kd, .int .i64 nd, .int .i64 nc, .int .i64 ix, .int .i64 ct, .slice A1 bs.length c1] 35 (0, 0)), pool [ZF gz bz σz], rbx gy Ay cy ρ, pool [RP Ay cy ρ, RP Aw cw ρw], rbx gw Aw cw ρw] ++ inbox gx bx σ') := HT6'.perm (List.Perm.cons _ List.perm_append_comm); have HSG := Aside0.mk hσ; clear HT5 HT6' hσ d0 d1 d2 d3 d4 d5) | ((with_reducible refine gate_dst (N := 12) rfl ?_); refine box_event ?hg12 (N := 12) ?hd12 (cs := #[.int .i64 0, .int .i64 0, .int .i64 0, .slice none 0 0]) (t := 24) ?hr12 ?_; (case hd12 => rfl); (case hg12 => rfl); (case hr12 => first | (go_simp; done) | (go_simp; rfl)); intro g12 hg w16 hbox hb; have HT7 := HT6.box hg hbox hb; clear HT6 hg hbox hb; have d0 := HT7.cell 0 0 rfl rfl; have d1 := HT7.cell 0 1 rfl rfl; have d2 := HT7.cell 0 2 rfl rfl; have d3 := HT7.cell 0 3 rfl rfl; have f0 := HT7.frozen 0 0 rfl; have f1 := HT7.frozen 0 1 rfl; have f2 := HT7.frozen 0 2 rfl; have f3 := HT7.frozen 0 3 rfl) | ((with_reducible refine gate_store (t := 24) (p := 12) rfl ?_); refine store_event (t := 24) (p := 12) (v := ?vo13) (w1 := ((((w16.setCell ⟨g12, 0, none⟩ (.int .i64 mk)).setCell ⟨g12, 1, none⟩ (.int .i64 mn)).setCell ⟨g12, 2, none⟩ (.int .i64 mc)).setCell ⟨g12, 3, none⟩ (.slice Am ms.length cm))) ?hg13 ?ho13 ?hn13 ?hr13 ?_; (case ho13 => rfl); (case hg13 => rfl); (case hn13 => rfl); (case hr13 => first | (go_simp; done) | (go_simp; rfl)); intro w17 hw; have HT8' := ((((HT7.setAt 0 0 (.int .i64 mk) rfl).setAt 0 1 (.int .i64 mn) rfl).setAt 0 2 (.int .i64 mc) rfl).setAt 0 3 (.slice Am ms.length cm) rfl); rw [← hw] at HT8'; clear hw HT7 d0 d1 d2 d3 f0 f1 f2 f3; have HT8 : Sat w w17 ([blk g12 (.cells #[.int .i64 mk, .int .i64 mn, .int .i64 mc, .slice Am ms.length cm] 24 (0, 0)), row kB 5 (.slice Am ms.length cm) ms, row kB 5 (.slice A1 bs.length c1) bs, blk g11 (.cells #[.int .i64 kd, .int .i64 nd, .int .i64 nc, .int .i64 ix, .int .i64 ct, .slice A1 bs.length c1] 35 (0, 0)), pool [ZF gz bz σz], rbx gy Ay cy ρ, pool [RP Ay cy ρ, RP Aw cw ρw], rbx gw Aw cw ρw] ++ inbox gx bx σ') := HT8'; clear HT8'))
      have HL0 : Sat w w17 ([row kB 5 (.slice A1 bs.length c1) bs, blk g12 (.cells #[.int .i64 mk, .int .i64 mn, .int .i64 mc, .slice Am ms.length cm] 24 (0, 0)), row kB 5 (.slice Am ms.length cm) ms, blk g11 (.cells #[.int .i64 kd, .int .i64 nd, .int .i64 nc, .int .i64 ix, .int .i64 ct, .slice A1 bs.length c1] 35 (0, 0)), pool [ZF gz bz σz], rbx gy Ay cy ρ, pool [RP Ay cy ρ, RP Aw cw ρw], rbx gw Aw cw ρw] ++ inbox gx bx σ') := HT8.pick 2 rfl
      clear HT8
      go_loopw [14] (fun v14 wr => ∃ (k : Nat) (ys : List Int), v14 = .int .i64 k ∧ k ≤ bs.length ∧ ys.length = bs.length ∧ Sat w wr ([row kB 5 (.slice A1 bs.length c1) ys, blk g12 (.cells #[.int .i64 mk, .int .i64 mn, .int .i64 mc, .slice Am ms.length cm] 24 (0, 0)), row kB 5 (.slice Am ms.length cm) ms, blk g11 (.cells #[.int .i64 kd, .int .i64 nd, .int .i64 nc, .int .i64 ix, .int .i64 ct, .slice A1 bs.length c1] 35 (0, 0)), pool [ZF gz bz σz], rbx gy Ay cy ρ, pool [RP Ay cy ρ, RP Aw cw ρw], rbx gw Aw cw ρw] ++ inbox gx bx σ')) (fun v14 _ => bs.length - (intOf v14).toNat)
      case atStart => exact ⟨0, bs, rfl, Nat.zero_le _, rfl, HL0⟩
      case round =>
        obtain ⟨k, ys, rfl, hk, hy, HU⟩ := hrel
        clear HL0
        have e5 := HU.cell 3 5 rfl rfl
        by_cases hkn : k < bs.length
        · have h3d : decide ((k : Int) < (bs.length : Int)) = true := decide_eq_true (by omega)
          have h3e : decide (k < bs.length) = true := decide_eq_true hkn
          obtain ⟨ga, hA1, kc, kf⟩ := HU.rowCellX 0 rfl k hkn
          subst hA1
          as_aux_lemma =>
            go_wp2_with (first | ((with_reducible refine gate_store (t := 5) (p := 73) rfl ?_); refine store_event (t := 5) (p := 73) (v := ?vo73) (w1 := (wr.setCell ⟨ga, k, none⟩ (.int .u8 99))) ?hga73 ?hoa73 ?hna73 ?hra73 ?_; (case hoa73 => rfl); (case hga73 => rfl); (case hna73 => rfl); (case hra73 => first | (go_simp; done) | (go_simp; rfl)); intro wt hw; have HU2 := HU.rowPutX k 99; rw [← hw] at HU2; clear hw HU kc kf))
            exact ⟨⟨k + 1, ys.set k 99, by rw [Int.natCast_add]; rfl, by omega, by rw [List.length_set]; exact hy, HU2⟩, by simp [intOf]; omega⟩
        · have h3d : decide ((k : Int) < (bs.length : Int)) = false := decide_eq_false (by omega)
          have h3e : decide (k < bs.length) = false := decide_eq_false hkn
          obtain ⟨k0, k1, k2, k3, k4, k5⟩ := HQ.out wr HU.below
          obtain ⟨w18, rfl⟩ : ∃ w18, w18 = wr := ⟨_, rfl⟩
          go_wp2_with (first | (have hgd := HU; clear hgd; go_at_call 38; refine (rAddU (fs := [RP Aw cw ρw]) gy Ay cy ρ kd nd nc ix ct B bs.length cB bs mk mn mc ms t HMR.out HBR.out hbc hbl HINV.out.2.2.1 (by omega) ((HU.pick 6 rfl).pick 6 rfl)).mono ?_; rintro e w19 ⟨Ac, cc, Ay', cy', ρ', rfl, hρ, HV1⟩; have HV : Sat w w19 ([row kB 5 (.slice Ac ms.length cc) ms, rbx gy Ay' cy' ρ', pool [RP Ay' cy' ρ', RP Aw cw ρw], row kB 5 (.slice A1 bs.length c1) ys, blk g12 (.cells #[.int .i64 mk, .int .i64 mn, .int .i64 mc, .slice Am ms.length cm] 24 (0, 0)), row kB 5 (.slice Am ms.length cm) ms, blk g11 (.cells #[.int .i64 kd, .int .i64 nd, .int .i64 nc, .int .i64 ix, .int .i64 ct, .slice A1 bs.length c1] 35 (0, 0)), pool [ZF gz bz σz], rbx gw Aw cw ρw] ++ inbox gx bx σ') := HV1; have HRG := Aside0.mk hρ; clear HU HV1 hρ e5 k0 k1 k2 k3 k4 k5) | ((with_reducible refine gate_dst (N := 15) rfl ?_); refine box_event ?hg14 (N := 15) ?hd14 (cs := #[.int .i64 0, .int .i64 0, .int .i64 0, .slice none 0 0]) (t := 24) ?hr14 ?_; (case hd14 => rfl); (case hg14 => rfl); (case hr14 => first | (go_simp; done) | (go_simp; rfl)); intro g15 hg w20 hbox hb; have HV2 := HV.box hg hbox hb; clear HV hg hbox hb; have d0 := HV2.cell 0 0 rfl rfl; have d1 := HV2.cell 0 1 rfl rfl; have d2 := HV2.cell 0 2 rfl rfl; have d3 := HV2.cell 0 3 rfl rfl; have f0 := HV2.frozen 0 0 rfl; have f1 := HV2.frozen 0 1 rfl; have f2 := HV2.frozen 0 2 rfl; have f3 := HV2.frozen 0 3 rfl) | ((with_reducible refine gate_store (t := 24) (p := 15) rfl ?_); refine store_event (t := 24) (p := 15) (v := ?vo15) (w1 := ((((w20.setCell ⟨g15, 0, none⟩ (.int .i64 mk)).setCell ⟨g15, 1, none⟩ (.int .i64 mn)).setCell ⟨g15, 2, none⟩ (.int .i64 mc)).setCell ⟨g15, 3, none⟩ (.slice Ac ms.length cc))) ?hg15 ?ho15 ?hn15 ?hr15 ?_; (case ho15 => rfl); (case hg15 => rfl); (case hn15 => rfl); (case hr15 => first | (go_simp; done) | (go_simp; rfl)); intro w21 hw; have HV3' := ((((HV2.setAt 0 0 (.int .i64 mk) rfl).setAt 0 1 (.int .i64 mn) rfl).setAt 0 2 (.int .i64 mc) rfl).setAt 0 3 (.slice Ac ms.length cc) rfl); rw [← hw] at HV3'; clear hw HV2 d0 d1 d2 d3 f0 f1 f2 f3; have HV3 : Sat w w21 ([blk g15 (.cells #[.int .i64 mk, .int .i64 mn, .int .i64 mc, .slice Ac ms.length cc] 24 (0, 0)), row kB 5 (.slice Ac ms.length cc) ms, rbx gy Ay' cy' ρ', pool [RP Ay' cy' ρ', RP Aw cw ρw], row kB 5 (.slice A1 bs.length c1) ys, blk g12 (.cells #[.int .i64 mk, .int .i64 mn, .int .i64 mc, .slice Am ms.length cm] 24 (0, 0)), row kB 5 (.slice Am ms.length cm) ms, blk g11 (.cells #[.int .i64 kd, .int .i64 nd, .int .i64 nc, .int .i64 ix, .int .i64 ct, .slice A1 bs.length c1] 35 (0, 0)), pool [ZF gz bz σz], rbx gw Aw cw ρw] ++ inbox gx bx σ') := HV3'; clear HV3'; have d0 := HV3.cell 0 0 rfl rfl; have d1 := HV3.cell 0 1 rfl rfl; have d2 := HV3.cell 0 2 rfl rfl; have d3 := HV3.cell 0 3 rfl rfl; have e0 := HV3.cell 5 0 rfl rfl; have e1 := HV3.cell 5 1 rfl rfl; have e2 := HV3.cell 5 2 rfl rfl; have e3 := HV3.cell 5 3 rfl rfl) | (have hgd := HV3; clear hgd; go_at_call 20; refine (same17e mk mn mc Am cm ms Ac cc ms.length ms.length (HV3.readsRow 6 rfl).2.2 (HV3.readsRow 1 rfl).2.2).mono ?_; rintro e w22 ⟨rfl, HH⟩; have HV4 : Sat w w22 ([blk g15 (.cells #[.int .i64 mk, .int .i64 mn, .int .i64 mc, .slice Ac ms.length cc] 24 (0, 0)), row kB 5 (.slice Ac ms.length cc) ms, rbx gy Ay' cy' ρ', pool [RP Ay' cy' ρ', RP Aw cw ρw], row kB 5 (.slice A1 bs.length c1) ys, blk g12 (.cells #[.int .i64 mk, .int .i64 mn, .int .i64 mc, .slice Am ms.length cm] 24 (0, 0)), row kB 5 (.slice Am ms.length cm) ms, blk g11 (.cells #[.int .i64 kd, .int .i64 nd, .int .i64 nc, .int .i64 ix, .int .i64 ct, .slice A1 bs.length c1] 35 (0, 0)), pool [ZF gz bz σz], rbx gw Aw cw ρw] ++ inbox gx bx σ') := HV3.frame HH; clear HV3 HH d0 d1 d2 d3 e0 e1 e2 e3))
          have HW0 : Sat w w22 ([row kB 5 (.slice Am ms.length cm) ms, blk g15 (.cells #[.int .i64 mk, .int .i64 mn, .int .i64 mc, .slice Ac ms.length cc] 24 (0, 0)), row kB 5 (.slice Ac ms.length cc) ms, rbx gy Ay' cy' ρ', pool [RP Ay' cy' ρ', RP Aw cw ρw], row kB 5 (.slice A1 bs.length c1) ys, blk g12 (.cells #[.int .i64 mk, .int .i64 mn, .int .i64 mc, .slice Am ms.length cm] 24 (0, 0)), blk g11 (.cells #[.int .i64 kd, .int .i64 nd, .int .i64 nc, .int .i64 ix, .int .i64 ct, .slice A1 bs.length c1] 35 (0, 0)), pool [ZF gz bz σz], rbx gw Aw cw ρw] ++ inbox gx bx σ') := (HV4.pick 6 rfl)
          clear HV4
          go_loopw [18] (fun v18 wr => ∃ (k : Nat) (zs : List Int), v18 = .int .i64 k ∧ k ≤ ms.length ∧ zs.length = ms.length ∧ Sat w wr ([row kB 5 (.slice Am ms.length cm) zs, blk g15 (.cells #[.int .i64 mk, .int .i64 mn, .int .i64 mc, .slice Ac ms.length cc] 24 (0, 0)), row kB 5 (.slice Ac ms.length cc) ms, rbx gy Ay' cy' ρ', pool [RP Ay' cy' ρ', RP Aw cw ρw], row kB 5 (.slice A1 bs.length c1) ys, blk g12 (.cells #[.int .i64 mk, .int .i64 mn, .int .i64 mc, .slice Am ms.length cm] 24 (0, 0)), blk g11 (.cells #[.int .i64 kd, .int .i64 nd, .int .i64 nc, .int .i64 ix, .int .i64 ct, .slice A1 bs.length c1] 35 (0, 0)), pool [ZF gz bz σz], rbx gw Aw cw ρw] ++ inbox gx bx σ')) (fun v18 _ => ms.length - (intOf v18).toNat)
          case atStart => exact ⟨0, ms, rfl, Nat.zero_le _, rfl, HW0⟩
          case round =>
            clear hkn hk hy
            obtain ⟨k, zs, rfl, hk, hz, HU⟩ := hrel
            clear HW0
            have e3 := HU.cell 6 3 rfl rfl
            have hml : ms.length ≤ 9223372036854775807 := by have h := (HU.readsRow 0 rfl).2.2.2.1; omega
            by_cases hkn : k < ms.length
            · have h4d : decide ((k : Int) < (ms.length : Int)) = true := decide_eq_true (by omega)
              have h4e : decide (k < ms.length) = true := decide_eq_true hkn
              obtain ⟨ga, hA1, kc, kf⟩ := HU.rowCellX 0 rfl k hkn
              subst hA1
              as_aux_lemma =>
                go_wp2_with (first | ((with_reducible refine gate_store (t := 5) (p := 96) rfl ?_); refine store_event (t := 5) (p := 96) (v := ?vo96) (w1 := (wr.setCell ⟨ga, k, none⟩ (.int .u8 98))) ?hga96 ?hoa96 ?hna96 ?hra96 ?_; (case hoa96 => rfl); (case hga96 => rfl); (case hna96 => rfl); (case hra96 => first | (go_simp; done) | (go_simp; rfl)); intro wt hw; have HU2 := HU.rowPutX k 98; rw [← hw] at HU2; clear hw HU kc kf))
                exact ⟨⟨k + 1, zs.set k 98, by rw [Int.natCast_add]; rfl, by omega, by rw [List.length_set]; exact hz, HU2⟩, by simp [intOf]; omega⟩
            · have h4d : decide ((k : Int) < (ms.length : Int)) = false := decide_eq_false (by omega)
              have h4e : decide (k < ms.length) = false := decide_eq_false hkn
              as_aux_lemma =>
                have HX0 : Sat w wr ([blk g11 (.cells #[.int .i64 kd, .int .i64 nd, .int .i64 nc, .int .i64 ix, .int .i64 ct, .slice A1 bs.length c1] 35 (0, 0)), pool [ZF gz bz σz], rbx gy Ay' cy' ρ', pool [RP Ay' cy' ρ', RP Aw cw ρw], rbx gw Aw cw ρw] ++ inbox gx bx σ') := ((((((((((HU.dropAt 0).dropAt 0).dropAt 0).dropAt 2).dropAt 2).pick 4 rfl).pick 2 rfl).pick 2 rfl).pick 4 rfl).pick 4 rfl)
                clear HU hz hk hkn
                have HI2 := Aside0.mk (show SPInv (i + 1) σ' σz ρ' ρw from by
                  obtain ⟨i1, i2, i3, i4, i5, i6, i7, i8, i9⟩ := HINV.out
                  refine ⟨by rw [HSG.out]; exact add_wf i1 _ _ _ _ _ (fun _ => hbl), i2, by rw [HRG.out]; exact add_wf i3 _ _ _ _ _ (fun _ => hbl), i4, ?_, by rw [HSG.out, HRG.out]; exact (i6.add _ _ _ _ _ _).1, i7, ?_, by omega⟩
                  · rw [← er_keys, HSG.out]
                    exact addE_keys (by rw [er_keys]; exact i5) _ _ _ _ _ _
                  · have h := addE_len (rer ρ) kd nd nc ix ct bs
                    rw [← HRG.out, rer_len, rer_len] at h
                    omega)
                obtain ⟨mx, hmx⟩ : ∃ mx, mx = missK (getE (er σ') (kd, nd)) := ⟨_, rfl⟩
                obtain ⟨mz, hmz⟩ : ∃ mz, mz = missK (getE (er σz) (kd, nd)) := ⟨_, rfl⟩
                have HMX := Aside0.mk hmx.symm
                have HMY := Aside0.mk (show missK (getE (rer ρ') (kd, nd)) = mx from by rw [hmx, HI2.out.2.2.2.2.2.1])
                have HMZ := Aside0.mk (show missOf σz (kd, nd) = mz from by rw [hmz, miss_get])
                have HMW := Aside0.mk (show missK (getE (rer ρw) (kd, nd)) = mz from by rw [hmz, HI2.out.2.2.2.2.2.2.1])
                have htt : (t != t) = false := by cases t <;> rfl
                have hx1 : (mx != mx) = false := by simp
                have hz1 : (mz != mz) = false := by simp
                clear hmx hmz
                go_wp2_with fail
                clear e3
                refine region (frees [0, 1, 2, 3, 4, 5, 6, 7, 8, 9, 11] (helds [10, 12] (frees [14, 15, 17] (helds [16, 18] (.one 13 (.one 19 (frees [20, 21, 22, 23, 24, 26] (helds [25, 27] (frees [29, 30, 32] (helds [31, 33] (.one 28 (.one 34 (frees [35, 36] .done))))))))))))) (fun w' => w'.cell? ⟨g11, 0, none⟩ = some (.int .i64 kd) ∧ w'.cell? ⟨g11, 1, none⟩ = some (.int .i64 nd)) [] (by kernel_rfl) (by kernel_rfl) ?_
                have HX1 := HX0.drew
                generalize World.drew _ = wt1 at HX1 ⊢
                clear HX0
                have e0 := HX1.cell 0 0 rfl rfl
                have e1 := HX1.cell 0 1 rfl rfl
                repeat (first | (refine st_free (v := ?_) (a' := ?_) (by simp only [List.getElem?_toArray, List.getElem?_cons_succ, List.getElem?_cons_zero]; rfl) (by rfl) ?_ ?_ ?_; rotate_left 2; (intro w'; go_simp; with_reducible rfl); (simp only [Act.put, List.setIfInBounds_toArray, List.set_cons_zero, List.set_cons_succ]; rfl)) | (refine st_held (v := ?_) (a' := ?_) ⟨e0, e1⟩ (by simp only [List.getElem?_toArray, List.getElem?_cons_succ, List.getElem?_cons_zero]; rfl) (by rfl) ?_ ?_ ?_; rotate_left 2; (rintro w' ⟨z0, z1⟩; go_simp; with_reducible rfl); (simp only [Act.put, List.setIfInBounds_toArray, List.set_cons_zero, List.set_cons_succ]; rfl)))
                clear e0 e1
                refine st_one (by simp only [List.getElem?_toArray, List.getElem?_cons_succ, List.getElem?_cons_zero]; rfl) ?_
                refine goesG (some 110) rfl (by rfl) Try.func21 (by kernel_rfl) rfl #[.pointer (some ⟨gx, 0, none⟩), .int .i64 kd, .int .i64 nd] rfl (by go_simp) ?_
                refine (sMiss gx bx σ' kd nd HI2.out.1 (HX1.perm List.perm_append_comm)).mono ?_
                rintro e wt2 ⟨he, HX2'⟩
                rw [HMX.out] at he
                subst he
                have HX2 : Sat w wt2 ([blk g11 (.cells #[.int .i64 kd, .int .i64 nd, .int .i64 nc, .int .i64 ix, .int .i64 ct, .slice A1 bs.length c1] 35 (0, 0)), pool [ZF gz bz σz], rbx gy Ay' cy' ρ', pool [RP Ay' cy' ρ', RP Aw cw ρw], rbx gw Aw cw ρw] ++ inbox gx bx σ') := HX2'.perm List.perm_append_comm
                clear HX1 HX2'
                refine ⟨_, rfl, ?_⟩
                have e0 := HX2.cell 0 0 rfl rfl
                have e1 := HX2.cell 0 1 rfl rfl
                refine ⟨⟨e0, e1⟩, ?_⟩
                refine st_norm (a' := ?_) ?_ ?_; rotate_left; (simp only [Act.put, List.setIfInBounds_toArray, List.set_cons_zero, List.set_cons_succ]; rfl)
                repeat (first | (refine st_free (v := ?_) (a' := ?_) (by simp only [List.getElem?_toArray, List.getElem?_cons_succ, List.getElem?_cons_zero]; rfl) (by rfl) ?_ ?_ ?_; rotate_left 2; (intro w'; go_simp; with_reducible rfl); (simp only [Act.put, List.setIfInBounds_toArray, List.set_cons_zero, List.set_cons_succ]; rfl)) | (refine st_held (v := ?_) (a' := ?_) ⟨e0, e1⟩ (by simp only [List.getElem?_toArray, List.getElem?_cons_succ, List.getElem?_cons_zero]; rfl) (by rfl) ?_ ?_ ?_; rotate_left 2; (rintro w' ⟨z0, z1⟩; go_simp; with_reducible rfl); (simp only [Act.put, List.setIfInBounds_toArray, List.set_cons_zero, List.set_cons_succ]; rfl)))
                clear e0 e1
                refine st_one (by simp only [List.getElem?_toArray, List.getElem?_cons_succ, List.getElem?_cons_zero]; rfl) ?_
                refine goesG (some 116) rfl (by rfl) Try.func39 (by kernel_rfl) rfl #[.pointer (some ⟨gy, 0, none⟩), .int .i64 kd, .int .i64 nd] rfl (by go_simp) ?_
                refine (rxMiss_calls (fs := [RP Aw cw ρw]) gy Ay' cy' ρ' kd nd (wf_miss HI2.out.2.2.1) ((HX2.pick 3 rfl).pick 3 rfl)).mono ?_
                rintro e wt3 ⟨he, HX3'⟩
                rw [HMY.out] at he
                subst he
                have HX3 : Sat w wt3 ([blk g11 (.cells #[.int .i64 kd, .int .i64 nd, .int .i64 nc, .int .i64 ix, .int .i64 ct, .slice A1 bs.length c1] 35 (0, 0)), pool [ZF gz bz σz], rbx gy Ay' cy' ρ', pool [RP Ay' cy' ρ', RP Aw cw ρw], rbx gw Aw cw ρw] ++ inbox gx bx σ') := (((((HX3'.pick 4 rfl).pick 2 rfl).pick 2 rfl).pick 4 rfl).pick 4 rfl)
                clear HX2 HX3'
                refine ⟨_, rfl, ?_⟩
                have e0 := HX3.cell 0 0 rfl rfl
                have e1 := HX3.cell 0 1 rfl rfl
                refine ⟨⟨e0, e1⟩, ?_⟩
                refine st_norm (a' := ?_) ?_ ?_; rotate_left; (simp only [Act.put, List.setIfInBounds_toArray, List.set_cons_zero, List.set_cons_succ]; rfl)
                repeat (first | (refine st_free (v := ?_) (a' := ?_) (by simp only [List.getElem?_toArray, List.getElem?_cons_succ, List.getElem?_cons_zero]; rfl) (by rfl) ?_ ?_ ?_; rotate_left 2; (intro w'; go_simp; with_reducible rfl); (simp only [Act.put, List.setIfInBounds_toArray, List.set_cons_zero, List.set_cons_succ]; rfl)) | (refine st_held (v := ?_) (a' := ?_) ⟨e0, e1⟩ (by simp only [List.getElem?_toArray, List.getElem?_cons_succ, List.getElem?_cons_zero]; rfl) (by rfl) ?_ ?_ ?_; rotate_left 2; (rintro w' ⟨z0, z1⟩; go_simp; with_reducible rfl); (simp only [Act.put, List.setIfInBounds_toArray, List.set_cons_zero, List.set_cons_succ]; rfl)))
                clear e0 e1
                refine st_one (by simp only [List.getElem?_toArray, List.getElem?_cons_succ, List.getElem?_cons_zero]; rfl) ?_
                refine goesG (some 125) rfl (by rfl) Try.func21 (by kernel_rfl) rfl #[.pointer (some ⟨gz, 0, none⟩), .int .i64 kd, .int .i64 nd] rfl (by go_simp) ?_
                refine (sMissZ gz bz σz kd nd (wf_missG HI2.out.2.1) (HX3.poolGet 1 rfl List.mem_cons_self)).mono ?_
                rintro e wt4 ⟨he, HX4'⟩
                rw [HMZ.out] at he
                subst he
                have HX4 : Sat w wt4 ([blk g11 (.cells #[.int .i64 kd, .int .i64 nd, .int .i64 nc, .int .i64 ix, .int .i64 ct, .slice A1 bs.length c1] 35 (0, 0)), pool [ZF gz bz σz], rbx gy Ay' cy' ρ', pool [RP Ay' cy' ρ', RP Aw cw ρw], rbx gw Aw cw ρw] ++ inbox gx bx σ') := HX3.frame HX4'
                clear HX3 HX4'
                refine ⟨_, rfl, ?_⟩
                have e0 := HX4.cell 0 0 rfl rfl
                have e1 := HX4.cell 0 1 rfl rfl
                refine ⟨⟨e0, e1⟩, ?_⟩
                refine st_norm (a' := ?_) ?_ ?_; rotate_left; (simp only [Act.put, List.setIfInBounds_toArray, List.set_cons_zero, List.set_cons_succ]; rfl)
                repeat (first | (refine st_free (v := ?_) (a' := ?_) (by simp only [List.getElem?_toArray, List.getElem?_cons_succ, List.getElem?_cons_zero]; rfl) (by rfl) ?_ ?_ ?_; rotate_left 2; (intro w'; go_simp; with_reducible rfl); (simp only [Act.put, List.setIfInBounds_toArray, List.set_cons_zero, List.set_cons_succ]; rfl)) | (refine st_held (v := ?_) (a' := ?_) ⟨e0, e1⟩ (by simp only [List.getElem?_toArray, List.getElem?_cons_succ, List.getElem?_cons_zero]; rfl) (by rfl) ?_ ?_ ?_; rotate_left 2; (rintro w' ⟨z0, z1⟩; go_simp; with_reducible rfl); (simp only [Act.put, List.setIfInBounds_toArray, List.set_cons_zero, List.set_cons_succ]; rfl)))
                clear e0 e1
                refine st_one (by simp only [List.getElem?_toArray, List.getElem?_cons_succ, List.getElem?_cons_zero]; rfl) ?_
                refine goesG (some 131) rfl (by rfl) Try.func39 (by kernel_rfl) rfl #[.pointer (some ⟨gw, 0, none⟩), .int .i64 kd, .int .i64 nd] rfl (by go_simp) ?_
                refine (rxMiss_calls (fs := [RP Ay' cy' ρ']) gw Aw cw ρw kd nd (wf_miss HI2.out.2.2.2.1) ((((HX4.pick 4 rfl).pick 4 rfl).poolMap (fs := [RP Ay' cy' ρ', RP Aw cw ρw]) (gs := [RP Aw cw ρw, RP Ay' cy' ρ']) swapF).swap)).mono ?_
                rintro e wt5 ⟨he, HX5'⟩
                rw [HMW.out] at he
                subst he
                have HX5 : Sat w wt5 ([blk g11 (.cells #[.int .i64 kd, .int .i64 nd, .int .i64 nc, .int .i64 ix, .int .i64 ct, .slice A1 bs.length c1] 35 (0, 0)), pool [ZF gz bz σz], rbx gy Ay' cy' ρ', pool [RP Ay' cy' ρ', RP Aw cw ρw], rbx gw Aw cw ρw] ++ inbox gx bx σ') := (((((((((((HX5'.pick 0 rfl).pick 4 rfl).pick 4 rfl).pick 4 rfl).pick 4 rfl).poolMap (fs := [RP Aw cw ρw, RP Ay' cy' ρ']) (gs := [RP Ay' cy' ρ', RP Aw cw ρw]) swapF).pick 4 rfl).pick 1 rfl).pick 4 rfl).pick 4 rfl).pick 4 rfl)
                clear HX4 HX5'
                refine ⟨_, rfl, ?_⟩
                have e0 := HX5.cell 0 0 rfl rfl
                have e1 := HX5.cell 0 1 rfl rfl
                refine ⟨⟨e0, e1⟩, ?_⟩
                refine st_norm (a' := ?_) ?_ ?_; rotate_left; (simp only [Act.put, List.setIfInBounds_toArray, List.set_cons_zero, List.set_cons_succ]; rfl)
                repeat (first | (refine st_free (v := ?_) (a' := ?_) (by simp only [List.getElem?_toArray, List.getElem?_cons_succ, List.getElem?_cons_zero]; rfl) (by rfl) ?_ ?_ ?_; rotate_left 2; (intro w'; go_simp; with_reducible rfl); (simp only [Act.put, List.setIfInBounds_toArray, List.set_cons_zero, List.set_cons_succ]; rfl)) | (refine st_held (v := ?_) (a' := ?_) ⟨e0, e1⟩ (by simp only [List.getElem?_toArray, List.getElem?_cons_succ, List.getElem?_cons_zero]; rfl) (by rfl) ?_ ?_ ?_; rotate_left 2; (rintro w' ⟨z0, z1⟩; go_simp; with_reducible rfl); (simp only [Act.put, List.setIfInBounds_toArray, List.set_cons_zero, List.set_cons_succ]; rfl)))
                clear e0 e1
                refine st_done ?_
                clear htt hx1 hz1
                by_cases hto : i < lo
                · have h5d : decide ((i : Int) < (lo : Int)) = true := decide_eq_true (by omega)
                  have h5e : decide (i < lo) = true := decide_eq_true hto
                  obtain ⟨bo, oo, rfl, hoc⟩ := int_row HR2.out (show 0 < lo by omega)
                  have hoci := hoc i hto
                  obtain ⟨z, hz⟩ : ∃ z, z = os.getD i 0 := ⟨_, rfl⟩
                  rw [← hz] at hoci
                  have HOC := Aside0.mk (show ∀ w', Below w.heap.size w w' → w'.cell? ⟨bo, oo + i, none⟩ = some (.int .i64 z) from fun w' h => (h.cell (World.block_lt_of_cell? _ _ hoci)).trans hoci)
                  have q5 := HOC.out _ HX5.below
                  clear hoc hoci hz
                  by_cases hz1 : z = 1
                  · have hz1a : (z == 1) = true := by simpa using hz1
                    have hz2a : (z == 2) = false := by rw [hz1]; rfl
                    clear hz1
                    as_aux_lemma =>
                      go_wp2_with (first | (have hgd := HX5; clear hgd; go_at_call 40; refine (sReset_calls gx bx σ' (HX5.perm List.perm_append_comm)).mono ?_; rintro e wz1 ⟨⟨v, rfl⟩, HX6'⟩; have HX6 : Sat w wz1 ([blk g11 (.cells #[.int .i64 kd, .int .i64 nd, .int .i64 nc, .int .i64 ix, .int .i64 ct, .slice A1 bs.length c1] 35 (0, 0)), pool [ZF gz bz σz], rbx gy Ay' cy' ρ', pool [RP Ay' cy' ρ', RP Aw cw ρw], rbx gw Aw cw ρw] ++ inbox gx bx []) := HX6'.perm List.perm_append_comm; clear HX5 HX6' q5) | ((with_reducible refine gate_dst (N := 148) rfl ?_); refine box_event ?hg16 (N := 148) ?hd16 (cs := #[.slice none 0 0]) (t := 69) ?hr16 ?_; (case hd16 => rfl); (case hg16 => rfl); (case hr16 => first | (go_simp; done) | (go_simp; rfl)); intro gy2 hg wz2 hbox hb; have HX7 := HX6.box hg hbox hb; clear HX6 hg hbox hb; have q5 := HOC.out wz2 HX7.below))
                      refine ⟨⟨i + 1, by rw [Int.natCast_add]; rfl, by omega, gx, bx, gy2, none, 0, gz, bz, gw, Aw, cw, [], σz, [], ρw, rfl, rfl, rfl, rfl, ?_, ?_⟩, by simp [intOf]; omega⟩
                      · obtain ⟨i1, i2, i3, i4, i5, i6, i7, i8, i9⟩ := HI2.out
                        exact ⟨fun s hs => absurd hs List.not_mem_nil, i2, fun s hs => absurd hs List.not_mem_nil, i4, List.nodup_nil, fun k => rfl, i7, Nat.zero_le _, i9⟩
                      · have hp : Sat w _ (pool [RP none 0 [], RP Aw cw ρw] :: _) := ((HX7.pick 4 rfl)).poolMap (fun w' hw f hf => by
                          rcases List.mem_cons.1 hf with rfl | hf
                          · exact RP.nil w'
                          · rw [List.mem_singleton.1 hf]; exact hw _ (List.mem_cons_of_mem _ List.mem_cons_self))
                        exact ((((((hp.dropAt 2).dropAt 3).pick 3 rfl).pick 1 rfl).pick 2 rfl).pick 3 rfl)
                  · have hz1a : (z == 1) = false := by simpa using hz1
                    clear hz1
                    by_cases hz2 : z = 2
                    · have hz2a : (z == 2) = true := by simpa using hz2
                      clear hz2
                      as_aux_lemma =>
                        go_wp2_with (first | (have hgd := HX5; clear hgd; go_at_call 36; refine (sClone_calls gx bx σ' HI2.out.2.2.2.2.1 (HX5.perm List.perm_append_comm)).mono ?_; rintro e wz1 ⟨gx2, bx2, τ, rfl, hpm, HX6'⟩; have HX6 : Sat w wz1 ([pool [ZF gx bx σ'], blk g11 (.cells #[.int .i64 kd, .int .i64 nd, .int .i64 nc, .int .i64 ix, .int .i64 ct, .slice A1 bs.length c1] 35 (0, 0)), pool [ZF gz bz σz], rbx gy Ay' cy' ρ', pool [RP Ay' cy' ρ', RP Aw cw ρw], rbx gw Aw cw ρw] ++ inbox gx2 bx2 τ) := HX6'.perm (List.Perm.cons _ List.perm_append_comm); have HPM := Aside0.mk hpm; clear HX5 HX6' q5 hpm) | (have hgd := HX6; clear hgd; go_at_call 37; refine (rxClone_calls gy Ay' cy' ρ' (HX6.pick 3 rfl)).mono ?_; rintro e wz2 ⟨gw2, rfl, HX7⟩; clear HX6))
                        refine ⟨⟨i + 1, by rw [Int.natCast_add]; rfl, by omega, gx2, bx2, gy, Ay', cy', gx, bx, gw2, Ay', cy', τ, σ', ρ', ρ', rfl, rfl, rfl, rfl, ?_, ?_⟩, by simp [intOf]; omega⟩
                        · obtain ⟨i1, i2, i3, i4, i5, i6, i7, i8, i9⟩ := HI2.out
                          have hpe := strip_er HPM.out
                          have hkn : ((er τ).map Prod.fst).Nodup := (hpe.map Prod.fst).nodup_iff.2 (by rw [er_keys]; exact i5)
                          exact ⟨i1.perm hpe, i1, i3, i3, by rw [← er_keys]; exact hkn, fun k => (getE_perm hpe hkn k).trans (i6 k), i6, i8, i8⟩
                        · have hp : Sat w _ (pool [RP Ay' cy' ρ', RP Ay' cy' ρ'] :: _) := ((HX7.pick 5 rfl)).poolMap (fun w' hw f hf => by
                            rcases List.mem_cons.1 hf with rfl | hf
                            · exact hw _ List.mem_cons_self
                            · rw [List.mem_singleton.1 hf]; exact hw _ List.mem_cons_self)
                          exact (((((((hp.dropAt 4).dropAt 4).dropAt 4).pick 1 rfl).pick 1 rfl).pick 2 rfl).pick 3 rfl)
                    · have hz2a : (z == 2) = false := by simpa using hz2
                      clear hz2
                      as_aux_lemma =>
                        go_wp2_with fail
                        exact ⟨⟨i + 1, by rw [Int.natCast_add]; rfl, by omega, gx, bx, gy, Ay', cy', gz, bz, gw, Aw, cw, σ', σz, ρ', ρw, rfl, rfl, rfl, rfl, HI2.out, HX5.tail⟩, by simp [intOf]; omega⟩
                · have h5d : decide ((i : Int) < (lo : Int)) = false := decide_eq_false (by omega)
                  have h5e : decide (i < lo) = false := decide_eq_false hto
                  as_aux_lemma =>
                    go_wp2_with fail
                    exact ⟨⟨i + 1, by rw [Int.natCast_add]; rfl, by omega, gx, bx, gy, Ay', cy', gz, bz, gw, Aw, cw, σ', σz, ρ', ρw, rfl, rfl, rfl, rfl, HI2.out, HX5.tail⟩, by simp [intOf]; omega⟩
    · have hend : (decide ((i : Int) < (ln : Int)) = false ∧ decide (i < ln) = false) ∨ (decide ((i : Int) < (ln : Int)) = true ∧ decide (i < ln) = true ∧ decide ((i : Int) < 200) = false ∧ decide (i < 200) = false) := by
        by_cases h1 : i < ln
        · exact .inr ⟨decide_eq_true (by omega), decide_eq_true h1, decide_eq_false (by omega), decide_eq_false (by omega)⟩
        · exact .inl ⟨decide_eq_false (by omega), decide_eq_false h1⟩
      clear hin
      rcases hend with ⟨h1, h2⟩ | ⟨h1, h2, h3, h4⟩
      all_goals
        go_wp2
        go_ret
        exact ⟨rfl, HT.below⟩

end Go.Proofs.Ytaojnbhnogndnaa.SL
/- Input rows opened where what they hold is of bounded bulk: what a reading of numbers, of a slice and of a frame tells. -/
namespace Go.Proofs.Ytaojnbhnogndnaa.SL
open Go.RowKit Go.Proofs.YtaojnbhnogndnaaW.PrintWords Go.Proofs.YtaojnbhnogndnaaW.PrintLast Go.Proofs.YtaojnbhnogndnaaW.PrintMore
set_option linter.unusedVariables false
section
variable {H : Type} {enc : TypeId × Value → H} {P : Program} {base : Nat} {held : Bool} {W : World} {N : Nat}
theorem bulk_one (d : DataW H) : 1 ≤ Rows.uptoBulk d := by
  cases d with
  | lit l => cases l <;> simp [Rows.uptoBulk]
  | nil => simp [Rows.uptoBulk]
  | ptr d => simp [Rows.uptoBulk]
  | slice elems spare => simp [Rows.uptoBulk]
  | agg parts => simp [Rows.uptoBulk]
  | iface t d => simp [Rows.uptoBulk]
  | map entries => simp [Rows.uptoBulk]
  | held h => simp [Rows.uptoBulk]
theorem bulk_part {d : DataW H} {l : List (DataW H)} (h : d ∈ l) : Rows.uptoBulk d ≤ Rows.uptoBulkAll l := by
  induction l with
  | nil => cases h
  | cons x r ih =>
    simp only [Rows.uptoBulkAll]
    rcases List.mem_cons.1 h with e | e
    · subst e; omega
    · have := ih e; omega
theorem bulk_len (l : List (DataW H)) : l.length ≤ Rows.uptoBulkAll l := by
  induction l with
  | nil => simp [Rows.uptoBulkAll]
  | cons x r ih => have := bulk_one x; simp only [Rows.uptoBulkAll, List.length_cons]; omega
/-- Cells that read at the type t, of bulk at most N, are an element of the kind d, and B holds of it. -/
def OpensK (enc : TypeId × Value → H) (P : Program) (base : Nat) (held : Bool) (W : World) (N : Nat) (t : TypeId) {α : Type} (d : Kd α) (B : α → Prop) : Prop :=
  ∀ (fuel : Nat) (cs : List Value) (x : DataW H × List MemPlace), DataW.trod enc P W base (fun _ => true) held fuel t cs = some x → Rows.uptoBulk x.1 ≤ N → ∃ a, d.K W a cs ∧ B a
theorem OpensK.int {t : TypeId} {k : IntKind} (ht : P.underlying t = some (.int k)) : OpensK enc P base held W N t (Kd.int k) (fun _ => True) := by
  intro fuel cs x h _
  obtain ⟨n, rfl, _, hw⟩ := DataW.trod_int ht h
  exact ⟨n, rfl, trivial⟩
theorem OpensK.slice {α : Type} {d : Kd α} {B : α → Prop} {t e : TypeId} (ht : P.underlying t = some (.slice e)) (hc : P.cellsOf e = d.sz) (h : OpensK enc P base held W N e d B) :
    OpensK enc P base held W N t (Kd.slice e d) (fun xs => xs.length ≤ N ∧ ∀ a ∈ xs, B a) := by
  classical
  intro fuel cs x hx hw
  rcases Go.Deep.open_slice ht hx with ⟨rfl, rfl⟩ | ⟨a, len, cap, m, n, D, Pl, rfl, hb, hl, hm, hmm, rfl, hel⟩
  · exact ⟨[], ⟨none, 0, rfl, Nat.le_refl _, rfl, Nat.zero_le _, fun hh => absurd hh (Nat.lt_irrefl 0)⟩, Nat.zero_le _, fun a ha => by simp at ha⟩
  · have hlm : len ≤ m := by rw [hmm]; split <;> omega
    simp only [Rows.uptoBulk] at hw
    have each : ∀ i, i < len → ∃ a' : α, (∃ c, c.length = d.sz ∧ d.K W a' c ∧ ∀ j u, c[j]? = some u → W.cell? (a.add (i * d.sz + j)) = some u) ∧ B a' := by
      intro i hi
      obtain ⟨cs', h1, h2⟩ := hel i (by omega)
      obtain ⟨a', hK, hB⟩ := h n cs' _ h2 (by
        have hp := bulk_part (H := H) (List.mem_map.2 ⟨i, List.mem_range.2 hi, rfl⟩ : D i ∈ (List.range len).map D)
        show Rows.uptoBulk (D i) ≤ N
        omega)
      obtain ⟨_, hlen, hcell⟩ := World.cells?_some h1
      refine ⟨a', ⟨cs', hlen.trans hc, hK, fun j u hu => ?_⟩, hB⟩
      have hj : j < cs'.length := (List.getElem?_eq_some_iff.1 hu).1
      have h3 := hcell j (by omega)
      rw [Go.Deep.add_add, hc] at h3
      rw [h3, hu]
    obtain ⟨L, hmap⟩ : ∃ L, L = (List.finRange len).map (fun i => Classical.choose (each i.1 i.2)) := ⟨_, rfl⟩
    have hlen : L.length = len := by rw [hmap]; simp
    refine ⟨L, ⟨some a, cap, ?_, ?_, ?_⟩, ?_, ?_⟩
    · rw [hlen]
    · rw [hlen]; exact hl
    · rw [hlen]
      refine ⟨hlen, Nat.le_trans hl hm, fun _ => ⟨a, rfl, fun j p hj => ?_⟩⟩
      have hjl : j < len := by have := (List.getElem?_eq_some_iff.1 hj).1; omega
      rw [hmap, List.getElem?_map, List.getElem?_eq_getElem (by simpa using hjl)] at hj
      simp only [Option.map_some, Option.some.injEq, List.getElem_finRange] at hj
      subst hj
      exact (Classical.choose_spec (each j hjl)).1
    · rw [hlen]
      have := bulk_len ((List.range len).map D)
      simp only [List.length_map, List.length_range] at this
      omega
    · intro y hy
      rw [hmap] at hy
      obtain ⟨i, _, rfl⟩ := List.mem_map.1 hy
      exact (Classical.choose_spec (each i.1 i.2)).2
theorem OpensK.six {f0 f1 f2 f3 f4 f5 : Field} {t : TypeId} {B : List Int → Prop} (ht : P.underlying t = some (.struct #[f0, f1, f2, f3, f4, f5])) (h0 : f0.offset = 0) (h1 : f1.offset = 1) (h2 : f2.offset = 2) (h3 : f3.offset = 3) (h4 : f4.offset = 4) (h5 : f5.offset = 5)
    (c0 : P.cellsOf f0.type = 1) (c1 : P.cellsOf f1.type = 1) (c2 : P.cellsOf f2.type = 1) (c3 : P.cellsOf f3.type = 1) (c4 : P.cellsOf f4.type = 1) (c5 : P.cellsOf f5.type = 1) (ct : P.cellsOf t = 6)
    (a0 : OpensK enc P base held W N f0.type (Kd.int .i64) (fun _ => True)) (a1 : OpensK enc P base held W N f1.type (Kd.int .i64) (fun _ => True)) (a2 : OpensK enc P base held W N f2.type (Kd.int .i64) (fun _ => True)) (a3 : OpensK enc P base held W N f3.type (Kd.int .i64) (fun _ => True)) (a4 : OpensK enc P base held W N f4.type (Kd.int .i64) (fun _ => True)) (a5 : OpensK enc P base held W N f5.type (Kd.slice 5 kB) B) :
    OpensK enc P base held W N t kFrI (fun x => B x.2.2.2.2.2) := by
  intro fuel cs x hx hw
  obtain ⟨xs, n, _, rfl, hl, hlen, hf⟩ := DataW.trod_struct ht hx
  match xs, hlen with
  | [y0, y1, y2, y3, y4, y5], _ =>
    have t0 := hf 0 f0 rfl
    have t1 := hf 1 f1 rfl
    have t2 := hf 2 f2 rfl
    have t3 := hf 3 f3 rfl
    have t4 := hf 4 f4 rfl
    have t5 := hf 5 f5 rfl
    simp only [List.getElem?_cons_zero, List.getElem?_cons_succ] at t0 t1 t2 t3 t4 t5
    simp only [Rows.uptoBulk, List.map_cons, List.map_nil, Rows.uptoBulkAll] at hw
    rw [h0, c0, List.drop_zero] at t0
    rw [h1, c1] at t1
    rw [h2, c2] at t2
    rw [h3, c3] at t3
    rw [h4, c4] at t4
    rw [h5, c5] at t5
    obtain ⟨p0, k0, _⟩ := a0 n _ _ t0 (by omega)
    obtain ⟨p1, k1, _⟩ := a1 n _ _ t1 (by omega)
    obtain ⟨p2, k2, _⟩ := a2 n _ _ t2 (by omega)
    obtain ⟨p3, k3, _⟩ := a3 n _ _ t3 (by omega)
    obtain ⟨p4, k4, _⟩ := a4 n _ _ t4 (by omega)
    obtain ⟨p5, k5, hB⟩ := a5 n _ _ t5 (by omega)
    refine ⟨(p0, p1, p2, p3, p4, p5), ⟨_, _, ?_, k0, _, _, rfl, k1, _, _, rfl, k2, _, _, rfl, k3, _, _, rfl, k4, k5⟩, hB⟩
    rw [ct] at hl
    match cs, hl with
    | [v0, v1, v2, v3, v4, v5], _ => rfl
/-- An argument that is a slice, opened. -/
theorem OpensK.arg {α : Type} {d : Kd α} {B : List α → Prop} {t e : TypeId} {A : Option Addr} {n c : Nat} {x : DataW H} {p : List MemPlace} (ho : OpensK enc P base held W N t (Kd.slice e d) B) (h : DataW.Trod enc P W base (fun _ => true) held t (.slice A n c) x p) (hw : Rows.uptoBulk x ≤ N) :
    ∃ xs, n = xs.length ∧ xs.length ≤ c ∧ d.C W A xs.length xs ∧ B xs := by
  obtain ⟨fuel, hf⟩ := h
  obtain ⟨xs, ⟨A', c', hcs, hl, hC⟩, hB⟩ := ho fuel _ _ hf hw
  simp only [Value.cells, List.cons.injEq, and_true] at hcs
  injection hcs with e1 e2 e3
  subst e1; subst e2; subst e3
  exact ⟨xs, rfl, hl, hC, hB⟩
end
end Go.Proofs.Ytaojnbhnogndnaa.SL
