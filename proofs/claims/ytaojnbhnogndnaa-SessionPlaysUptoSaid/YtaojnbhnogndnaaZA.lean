/- The inbox of package session and the document's, as they lie in memory: contracts of Reset, Clone, Missing, at, and of an Add whose argument is none. -/
import Derived.Test.YtaojnbhnogndnaaY17
import Derived.Maps.RangeRun
import Derived.Laws.Externs
/- The document's inbox (majordomoref17) as it lies in memory: rows of cells that are read, what each element tells; words for facts that hold by blocks alone. -/
namespace Go.Proofs.Ytaojnbhnogndnaa.SL
open Go.RowKit Go.Proofs.YtaojnbhnogndnaaW.PrintWords Go.Proofs.YtaojnbhnogndnaaW.PrintLast Go.Proofs.YtaojnbhnogndnaaW.PrintMore
attribute [local go_sem] max2_int min2_int max_two min_two
attribute [local go_sem high] Small.cell_set_same
set_option linter.unusedVariables false
set_option linter.unusedSimpArgs false

/-! ### Rows of bare cells -/
theorem addr_at {a : Addr} {b o : Nat} {i : Nat} (h : a.add i = ⟨b, o, none⟩) (j : Nat) : a.add (i + j) = ⟨b, o + j, none⟩ := by
  rw [← Go.Deep.add_add, h]
  unfold Addr.add
  split <;> simp_all
/-- An element of a row of bare cells that is read: where it lies, its cells. -/
theorem rawN_at {w : World} {A : Option Addr} {n sz : Nat} {es : List (List Value)} (hr : (Kd.raw sz).C w A n es) (i : Nat) (hi : i < n) (hs : 0 < sz) :
    ∃ ad b o, A = some ad ∧ ad.add (i * sz) = ⟨b, o, none⟩ ∧ (es.getD i []).length = sz ∧ ∀ j v, (es.getD i [])[j]? = some v → w.cell? ⟨b, o + j, none⟩ = some v := by
  obtain ⟨ad, c, e, _, hK, hc⟩ := Kd.C_get hr ([] : List Value) (i : Int) (by omega) (by omega)
  simp only [Int.toNat_natCast] at hK hc
  obtain ⟨rfl, hl, _⟩ := hK
  have hsz : (Kd.raw sz).sz = sz := rfl
  rw [hsz] at hc
  obtain ⟨v0, hv0⟩ : ∃ v, (es.getD i [])[0]? = some v := ⟨_, List.getElem?_eq_getElem (by omega)⟩
  have c0 := hc 0 _ hv0
  rw [Nat.add_zero] at c0
  have h0 : ad.add (i * sz) = ⟨(ad.add (i * sz)).block, (ad.add (i * sz)).off, none⟩ := spotless c0
  refine ⟨ad, (ad.add (i * sz)).block, (ad.add (i * sz)).off, e, h0, hl, fun j v hv => ?_⟩
  have := hc j v hv
  rw [addr_at h0 j] at this
  exact this
/-- .. the same element in another world: it lies there too. -/
theorem rawN_cells {w : World} {ad : Addr} {n b o i sz : Nat} {es : List (List Value)} (ha : ad.add (i * sz) = ⟨b, o, none⟩) (hi : i < n) (hs : 0 < sz) (hr : (Kd.raw sz).C w (some ad) n es) :
    ∀ j v, (es.getD i [])[j]? = some v → w.cell? ⟨b, o + j, none⟩ = some v := by
  obtain ⟨ad', b', o', e, h0, _, h1⟩ := rawN_at hr i hi hs
  injection e with e
  subst e
  rw [ha] at h0
  injection h0 with e1 e2
  subst e1; subst e2
  exact h1
theorem rawN_of_blk {w : World} {g e sz : Nat} {fr : Nat × Nat} {cs : List Value} (h : w.heap[g]? = some (.cells cs.toArray e fr)) (hl : cs.length = sz) (h1 : ∀ u ∈ cs, u.oneCell' = true) : (Kd.raw sz).C w (some ⟨g, 0, none⟩) 1 [cs] := by
  refine ⟨rfl, by decide, fun _ => ⟨_, rfl, fun j p hj => ?_⟩⟩
  match j, hj with
  | 0, hj =>
    injection hj with hj
    subst hj
    refine ⟨cs, hl, ⟨rfl, hl, h1⟩, fun i u hu => ?_⟩
    rw [Nat.zero_mul, Nat.zero_add]
    have h5 : (⟨g, 0, none⟩ : Addr).add i = ⟨g, i, none⟩ := by unfold Addr.add; split <;> simp_all
    rw [h5]
    simp [World.cell?, h, hu]
theorem getD_map_nil {α : Type} (f : α → List Value) (l : List α) (i : Nat) (x : α) (h : l[i]? = some x) : (l.map f).getD i [] = f x := by
  rw [List.getD_eq_getElem?_getD, List.getElem?_map, h]; rfl

/-! ### Facts by blocks alone -/
section
variable {w0 w : World} {l L : List Asrt} {a : Asrt}
/-- What an assertion says, as facts that hold by its blocks alone. -/
theorem Sat.toPool {fs : List (World → Prop)} (h : Sat w0 w (a :: L)) (hf : ∀ S, a.P w S → ∀ f ∈ fs, ∀ w', (∀ k, S k → w'.heap[k]? = w.heap[k]?) → f w') : Sat w0 w (pool fs :: L) :=
  h.write (fun S hP _ => ⟨S, fun k hk => .inl hk, Touch.refl _ _, fun k hk => a.bd hP k hk, hf S hP⟩)
/-- Two pools as one. -/
theorem Sat.poolJoin {fs gs : List (World → Prop)} (h : Sat w0 w (pool fs :: pool gs :: L)) : Sat w0 w (pool (fs ++ gs) :: L) := by
  refine h.join.write (fun S hP _ => ⟨S, fun k hk => .inl hk, Touch.refl _ _, ?_, ?_⟩)
  · obtain ⟨S1, S2, h1, h2, _, hs⟩ := hP
    intro k hk
    rcases (hs k).1 hk with hk | hk
    · exact h1.1 k hk
    · exact h2.1 k hk
  · obtain ⟨S1, S2, h1, h2, _, hs⟩ := hP
    intro f hf w2 hw
    rcases List.mem_append.1 hf with hf | hf
    · exact h1.2 f hf w2 (fun k hk => hw k ((hs k).2 (.inl hk)))
    · exact h2.2 f hf w2 (fun k hk => hw k ((hs k).2 (.inr hk)))
theorem Sat.poolAt (h : Sat w0 w l) (i : Nat) {fs : List (World → Prop)} (hi : l[i]? = some (pool fs)) : ∀ f ∈ fs, f w := fun f hf => h.poolGet i hi hf
end

/-! ### The document's inbox -/
/-- A frame and where its bytes lie. -/
structure RF where
  A : Option Addr
  c : Nat
  kd : Int
  nd : Int
  nc : Int
  ix : Int
  ct : Int
  bs : List Int
def RF.enc (f : RF) : List Value := [.int .i64 f.kd, .int .i64 f.nd, .int .i64 f.nc, .int .i64 f.ix, .int .i64 f.ct, .slice f.A f.bs.length f.c]
def RF.ok (w : World) (f : RF) : Prop := f.bs.length ≤ f.c ∧ kB.C w f.A f.bs.length f.bs
/-- A slot and where its frames lie. -/
structure RS where
  A : Option Addr
  c : Nat
  kd : Int
  nd : Int
  nc : Int
  ct : Int
  came : List RF
def RS.enc (s : RS) : List Value := [.int .i64 s.kd, .int .i64 s.nd, .int .i64 s.nc, .int .i64 s.ct, .slice s.A s.came.length s.c]
def RS.ok (w : World) (s : RS) : Prop := s.came.length ≤ s.c ∧ (Kd.raw 6).C w s.A s.came.length (s.came.map RF.enc) ∧ ∀ f ∈ s.came, f.ok w
def RS.key (s : RS) : Int × Int := (s.kd, s.nd)
def RP (A : Option Addr) (c : Nat) (ρ : List RS) : World → Prop := fun w => ρ.length ≤ c ∧ (Kd.raw 5).C w A ρ.length (ρ.map RS.enc) ∧ ∀ s ∈ ρ, s.ok w
def rbx (g : Nat) (A : Option Addr) (c : Nat) (ρ : List RS) : Asrt := blk g (.cells #[.slice A ρ.length c] 69 (0, 0))
def rerF (f : RF) : Int × List Int := (f.ix, f.bs)
def rer1 (s : RS) : ESlot := (s.key, s.nc, s.ct, s.came.map rerF)
def rer (ρ : List RS) : ES := ρ.map rer1
def lookR (x : Int × Int) (ρ : List RS) : Option (Nat × RS) := lookIn RS.key x 0 ρ
theorem lookE_rer (x : Int × Int) (ρ : List RS) : lookE x (rer ρ) = (lookR x ρ).map fun q => (q.1, rer1 q.2) := lookIn_map rer1 RS.key Prod.fst (fun _ => rfl) x 0 ρ
/-- The place of a kind and a node; -1: none. -/
def atR (x : Int × Int) (ρ : List RS) : Int := match lookR x ρ with | none => -1 | some (j, _) => j
theorem RP.nil (w : World) : RP none 0 [] w := ⟨Nat.le_refl _, ⟨rfl, Nat.zero_le _, fun h => absurd h (Nat.lt_irrefl 0)⟩, fun s hs => absurd hs List.not_mem_nil⟩
/-- The cells of slot i. -/
theorem RP.at_ {w : World} {A : Option Addr} {c : Nat} {ρ : List RS} (h : RP A c ρ w) (i : Nat) {s : RS} (hs : ρ[i]? = some s) :
    ∃ ad b o, A = some ad ∧ ad.add (i * 5) = ⟨b, o, none⟩ ∧ ∀ w', RP A c ρ w' → w'.cell? ⟨b, o, none⟩ = some (.int .i64 s.kd) ∧ w'.cell? ⟨b, o + 1, none⟩ = some (.int .i64 s.nd) ∧ w'.cell? ⟨b, o + 2, none⟩ = some (.int .i64 s.nc) ∧ w'.cell? ⟨b, o + 3, none⟩ = some (.int .i64 s.ct) ∧ w'.cell? ⟨b, o + 4, none⟩ = some (.slice s.A s.came.length s.c) := by
  have hi : i < ρ.length := (List.getElem?_eq_some_iff.1 hs).1
  obtain ⟨ad, b, o, rfl, ha, _, _⟩ := rawN_at h.2.1 i hi (by decide)
  refine ⟨ad, b, o, rfl, ha, fun w' h' => ?_⟩
  have hc := rawN_cells ha hi (by decide) h'.2.1
  rw [getD_map_nil RS.enc ρ i s hs] at hc
  exact ⟨hc 0 _ rfl, hc 1 _ rfl, hc 2 _ rfl, hc 3 _ rfl, hc 4 _ rfl⟩
/-- The cells of frame j of a slot. -/
theorem RS.at_ {w : World} {s : RS} (h : s.ok w) (j : Nat) {f : RF} (hf : s.came[j]? = some f) :
    ∃ ad b o, s.A = some ad ∧ ad.add (j * 6) = ⟨b, o, none⟩ ∧ ∀ w', s.ok w' → w'.cell? ⟨b, o + 3, none⟩ = some (.int .i64 f.ix) ∧ w'.cell? ⟨b, o + 5, none⟩ = some (.slice f.A f.bs.length f.c) := by
  have hi : j < s.came.length := (List.getElem?_eq_some_iff.1 hf).1
  obtain ⟨ad, b, o, e, ha, _, _⟩ := rawN_at h.2.1 j hi (by decide)
  refine ⟨ad, b, o, e, ha, fun w' h' => ?_⟩
  have h2 := h'.2.1
  rw [e] at h2
  have hc := rawN_cells ha hi (by decide) h2
  rw [getD_map_nil RF.enc s.came j f hf] at hc
  exact ⟨hc 3 _ rfl, hc 5 _ rfl⟩
end Go.Proofs.Ytaojnbhnogndnaa.SL
/- Contracts of the document's inbox (majordomoref17): at, Missing, Clone. -/
namespace Go.Proofs.Ytaojnbhnogndnaa.SL
open Go.RowKit Go.Proofs.YtaojnbhnogndnaaW.PrintWords Go.Proofs.YtaojnbhnogndnaaW.PrintLast Go.Proofs.YtaojnbhnogndnaaW.PrintMore
attribute [local go_sem] max2_int min2_int max_two min_two
attribute [local go_sem high] Small.cell_set_same
set_option linter.unusedVariables false
set_option linter.unusedSimpArgs false

theorem look_drop {x : Int × Int} {ρ : List RS} {i : Nat} {s : RS} (h : lookR x ρ = lookIn RS.key x i (ρ.drop i)) (hs : ρ[i]? = some s) :
    lookR x ρ = if x = s.key then some (i, s) else lookIn RS.key x (i + 1) (ρ.drop (i + 1)) := by
  have hi : i < ρ.length := (List.getElem?_eq_some_iff.1 hs).1
  rw [h, List.drop_eq_getElem_cons hi]
  have : ρ[i] = s := (List.getElem?_eq_some_iff.1 hs).2
  rw [this]; rfl
/-! ### at (majordomoref17): function 53 -/
set_option maxHeartbeats 2000000 in
set_option maxRecDepth 100000 in
theorem rAt_calls {w : World} (g : Nat) (A : Option Addr) (c : Nat) (ρ : List RS) (kd nd : Int) (hc0 : w.cell? ⟨g, 0, none⟩ = some (.slice A ρ.length c)) (hP : RP A c ρ w) :
    Calls Try.prog 53 #[.pointer (some ⟨g, 0, none⟩), .int .i64 kd, .int .i64 nd] w fun e w' => e = .returned (.int .i64 (atR (kd, nd) ρ)) ∧ w' = w := by
  have hu69 := Try.underlying69
  have hu99 := Try.underlying99
  obtain ⟨n, hn⟩ : ∃ n, n = ρ.length := ⟨_, rfl⟩
  have hnc : n ≤ c := by have := hP.1; omega
  have hn2 : n ≤ 9223372036854775807 := by have := hP.2.1.2.1; omega
  rw [← hn] at hc0
  have HP := Aside0.mk hP
  have HN := Aside0.mk hn
  clear hP hn
  go_enter Try.func53, Try.ntmps53
  go_wp2
  go_loop [7] (fun v7 => ∃ i : Nat, v7 = .int .i64 i ∧ i ≤ n ∧ Aside0 (lookR (kd, nd) ρ = lookIn RS.key (kd, nd) i (ρ.drop i))) (fun v7 => n - (intOf v7).toNat)
  case atStart => exact ⟨0, rfl, Nat.zero_le _, Aside0.mk (by rw [List.drop_zero]; rfl)⟩
  case round =>
    obtain ⟨i, rfl, hi, hlk⟩ := hrel
    by_cases hin : i < n
    · have h1d : decide ((i : Int) < (n : Int)) = true := decide_eq_true (by omega)
      have h1e : decide (i < n) = true := decide_eq_true hin
      obtain ⟨s, hs⟩ : ∃ s, ρ[i]? = some s := ⟨_, List.getElem?_eq_getElem (by rw [← HN.out]; exact hin)⟩
      obtain ⟨ad, b, o, rfl, ha, hcs⟩ := HP.out.at_ i hs
      obtain ⟨k0, k1, _, _, _⟩ := hcs _ HP.out
      have HLK := Aside0.mk (look_drop hlk.out hs)
      clear hcs hs hlk
      by_cases hk : s.kd = kd
      · have hk1 : (s.kd == kd) = true := by simpa using hk
        by_cases hd : s.nd = nd
        · have hd1 : (s.nd == nd) = true := by simpa using hd
          have HR := Aside0.mk (show atR (kd, nd) ρ = i from by unfold atR; rw [HLK.out, if_pos (show (kd, nd) = s.key from by unfold RS.key; rw [hk, hd])])
          clear hk hd
          go_wp2
          go_ret
          exact ⟨by rw [HR.out]; rfl, rfl⟩
        · have hd1 : (s.nd == nd) = false := by simpa using hd
          have HR := Aside0.mk (show lookR (kd, nd) ρ = lookIn RS.key (kd, nd) (i + 1) (ρ.drop (i + 1)) from by rw [HLK.out, if_neg (show ¬ (kd, nd) = s.key from fun e => hd (Prod.mk.inj e).2.symm)])
          clear hk hd
          go_wp2
          go_round
          case rel => exact ⟨i + 1, by rw [Int.natCast_add]; rfl, by omega, HR⟩
          case measure => simp [intOf]; omega
      · have hk1 : (s.kd == kd) = false := by simpa using hk
        have HR := Aside0.mk (show lookR (kd, nd) ρ = lookIn RS.key (kd, nd) (i + 1) (ρ.drop (i + 1)) from by rw [HLK.out, if_neg (show ¬ (kd, nd) = s.key from fun e => hk (Prod.mk.inj e).1.symm)])
        clear hk
        go_wp2
        go_round
        case rel => exact ⟨i + 1, by rw [Int.natCast_add]; rfl, by omega, HR⟩
        case measure => simp [intOf]; omega
    · have h1d : decide ((i : Int) < (n : Int)) = false := decide_eq_false (by omega)
      have h1e : decide (i < n) = false := decide_eq_false hin
      have HR := Aside0.mk (show atR (kd, nd) ρ = -1 from by unfold atR; rw [hlk.out, List.drop_of_length_le (by rw [← HN.out]; omega)]; rfl)
      clear hlk
      go_wp2
      go_ret
      exact ⟨by rw [HR.out]; rfl, rfl⟩
/-! ### Clone (majordomoref17): function 37 -/
theorem rxClone_calls {w0 w : World} {L : List Asrt} (g : Nat) (A : Option Addr) (c : Nat) (ρ : List RS) (HS : Sat w0 w (rbx g A c ρ :: L)) :
    Calls Try.prog 37 #[.pointer (some ⟨g, 0, none⟩)] w fun e w' => ∃ g' : Nat, e = .returned (.pointer (some ⟨g', 0, none⟩)) ∧ Sat w0 w' (rbx g' A c ρ :: rbx g A c ρ :: L) := by
  have hu69 := Try.underlying69
  have c0 : w.cell? ⟨g, 0, none⟩ = some (.slice A ρ.length c) := HS.cell 0 0 rfl rfl
  go_enter Try.func37, Try.ntmps37
  go_wp2_with (first | ((with_reducible refine gate_dst (N := 8) rfl ?_); refine box_event ?hg1 (N := 8) ?hd1 (cs := #[.slice A ρ.length c]) (t := 69) ?hr1 ?_; (case hd1 => rfl); (case hg1 => rfl); (case hr1 => first | (go_simp; done) | (go_simp; rfl)); intro g' hg w1 hbox hb; have HS1 := HS.box hg hbox hb; clear HS hg hbox hb c0))
  go_ret
  exact ⟨g', rfl, HS1⟩
/-! ### Missing (majordomoref17): function 39 -/
set_option maxHeartbeats 2000000 in
set_option maxRecDepth 100000 in
theorem rxMiss_calls {w0 w : World} {L : List Asrt} {fs : List (World → Prop)} (g : Nat) (A : Option Addr) (c : Nat) (ρ : List RS) (kd nd : Int) (hb : ∀ s ∈ ρ, 0 ≤ s.ct ∧ s.ct ≤ 86 ∧ s.came.length ≤ 1000) (HS : Sat w0 w (rbx g A c ρ :: pool (RP A c ρ :: fs) :: L)) :
    Calls Try.prog 39 #[.pointer (some ⟨g, 0, none⟩), .int .i64 kd, .int .i64 nd] w fun e w' => e = .returned (.int .i64 (missK (getE (rer ρ) (kd, nd)))) ∧ Sat w0 w' (rbx g A c ρ :: pool (RP A c ρ :: fs) :: L) := by
  have hu69 := Try.underlying69
  have hu99 := Try.underlying99
  have P0 := HS.poolGet 1 rfl List.mem_cons_self
  have c0 : w.cell? ⟨g, 0, none⟩ = some (.slice A ρ.length c) := HS.cell 0 0 rfl rfl
  have HAT := Aside0.mk (rAt_calls g A c ρ kd nd c0 P0)
  cases hl : lookR (kd, nd) ρ with
  | none =>
    have HM := Aside0.mk (show missK (getE (rer ρ) (kd, nd)) = -1 from by unfold getE; rw [lookE_rer, hl]; rfl)
    have HA := Aside0.mk (show atR (kd, nd) ρ = -1 from by unfold atR; rw [hl])
    clear hl hb P0 c0
    go_enter Try.func39, Try.ntmps39
    go_wp2_with (first | (go_at_call 53; refine HAT.out.mono ?_; rintro e w1 ⟨he, rfl⟩; rw [HA.out] at he; subst he))
    go_ret
    exact ⟨by rw [HM.out]; rfl, HS⟩
  | some q =>
    obtain ⟨i, s⟩ := q
    obtain ⟨hi, hk⟩ := lookIn_at hl
    obtain ⟨ad, b, o, rfl, ha, hcs⟩ := P0.at_ i hi
    have HM := Aside0.mk (show missK (getE (rer ρ) (kd, nd)) = s.ct - s.came.length from by unfold getE; rw [lookE_rer, hl]; unfold missK rer1; simp)
    have HA := Aside0.mk (show atR (kd, nd) ρ = i from by unfold atR; rw [hl])
    obtain ⟨hb1, hb2, hb3⟩ := hb s (List.mem_of_getElem? hi)
    have hil : i < ρ.length := (List.getElem?_eq_some_iff.1 hi).1
    obtain ⟨n, hn⟩ : ∃ n, n = ρ.length := ⟨_, rfl⟩
    rw [← hn] at c0 hil
    have hnc : n ≤ c := by have := P0.1; omega
    have hn2 : n ≤ 9223372036854775807 := by have := P0.2.1.2.1; omega
    have hd1 : decide ((i : Int) < 0) = false := decide_eq_false (by omega)
    have hd2 : decide (i < n) = true := decide_eq_true hil
    obtain ⟨m, hm⟩ : ∃ m, m = s.came.length := ⟨_, rfl⟩
    have HN := Aside0.mk hn
    have HMM := Aside0.mk hm
    obtain ⟨ct, hct⟩ : ∃ ct, ct = s.ct := ⟨_, rfl⟩
    have HCT := Aside0.mk hct
    have hkk : ∀ w', RP (some ad) c ρ w' → w'.cell? ⟨b, o + 3, none⟩ = some (.int .i64 ct) ∧ w'.cell? ⟨b, o + 4, none⟩ = some (.slice s.A m s.c) := fun w' h => by
      obtain ⟨_, _, _, h3, h4⟩ := hcs w' h
      rw [← hct] at h3
      rw [← hm] at h4
      exact ⟨h3, h4⟩
    rw [← hct] at hb1 hb2
    rw [← hm] at hb3
    clear hl hb P0 hi hk hcs hn hm hct
    go_enter Try.func39, Try.ntmps39
    go_wp2_with (first | (go_at_call 53; refine HAT.out.mono ?_; rintro e w1 ⟨he, rfl⟩; rw [HA.out] at he; subst he))
    refine region (frees [0, 1, 2, 4, 8, 9, 10, 12] (helds [3, 11] (frees [5, 6, 13, 14] (helds [7, 15] (frees [16, 17, 18] .done))))) (fun w' => w'.cell? ⟨g, 0, none⟩ = some (.slice (some ad) n c) ∧ w'.cell? ⟨b, o + 3, none⟩ = some (.int .i64 ct) ∧ w'.cell? ⟨b, o + 4, none⟩ = some (.slice s.A m s.c)) [] (by kernel_rfl) (by kernel_rfl) ?_
    have HS1 := HS.drew
    generalize World.drew _ = w2 at HS1 ⊢
    obtain ⟨k1, k2⟩ := hkk _ (HS1.poolGet 1 rfl List.mem_cons_self)
    have k0 : w2.cell? ⟨g, 0, none⟩ = some (.slice (some ad) n c) := by rw [HN.out]; exact HS1.cell 0 0 rfl rfl
    have hiw : IntKind.i64.wrap (i : Int) = i := Go.IntWalk.i64_in _ (by omega)
    have hsw : IntKind.i64.wrap (ct - (m : Int)) = ct - (m : Int) := Go.IntWalk.i64_in _ (by omega)
    clear HS hkk HAT c0
    repeat (first | (refine st_free (v := ?_) (a' := ?_) (by simp only [List.getElem?_toArray, List.getElem?_cons_succ, List.getElem?_cons_zero]; rfl) (by rfl) ?_ ?_ ?_; rotate_left 2; (intro w'; go_simp; with_reducible rfl); (simp only [Act.put, List.setIfInBounds_toArray, List.set_cons_zero, List.set_cons_succ]; rfl)) | (refine st_held (v := ?_) (a' := ?_) ⟨k0, k1, k2⟩ (by simp only [List.getElem?_toArray, List.getElem?_cons_succ, List.getElem?_cons_zero]; rfl) (by rfl) ?_ ?_ ?_; rotate_left 2; (rintro w' ⟨s0, s1, s2⟩; go_simp; with_reducible rfl); (simp only [Act.put, List.setIfInBounds_toArray, List.set_cons_zero, List.set_cons_succ]; rfl)))
    refine st_done ?_
    go_wp2
    go_ret
    exact ⟨by rw [HM.out, ← HCT.out, ← HMM.out]; rfl, HS1⟩
end Go.Proofs.Ytaojnbhnogndnaa.SL
/- Package session's Reset, maps.Clone, and words for the range over a map. -/
namespace Go.Proofs.Ytaojnbhnogndnaa.SL
open Go.RowKit Go.Proofs.YtaojnbhnogndnaaW.PrintWords Go.Proofs.YtaojnbhnogndnaaW.PrintLast Go.Proofs.YtaojnbhnogndnaaW.PrintMore
open Go.ChangeMaps (setBlock)
attribute [local go_sem] max2_int min2_int max_two min_two
attribute [local go_sem high] Small.cell_set_same
set_option linter.unusedVariables false
set_option linter.unusedSimpArgs false

section
variable {κ : Type} {enc : κ → Value} {P : Program} {k t e : TypeId} {w0 w : World} {L : List Asrt} {b : Nat} {l : List (κ × Value)}
/-- A map at block b that reads so: entries and clock of it named. -/
def MapIs (enc : κ → Value) (es : Array MapEntry) (clock : Nat) (l : List (κ × Value)) : Prop :=
  es.toList.map (fun e => (e.key, e.val)) = l.map (fun p => (enc p.1, p.2)) ∧ (∀ e ∈ es.toList, e.born < clock) ∧ (es.toList.map (·.born)).Nodup
def mapP (enc : κ → Value) (b : Nat) (l : List (κ × Value)) : World → Prop := fun w => ∃ es clock, w.heap[b]? = some (.map es clock) ∧ MapIs enc es clock l
theorem Sat.mapPool (h : Sat w0 w (mapA enc b l :: L)) : Sat w0 w (pool [mapP enc b l] :: L) :=
  h.toPool (fun S hP f hf w' hw => by
    rw [List.mem_singleton.1 hf]
    obtain ⟨⟨es, clock, h1, h2⟩, h3⟩ := hP
    exact ⟨es, clock, (hw b ((h3 b).2 rfl)).trans h1, h2⟩)
/-- .. its entries and clock told. -/
theorem Sat.mapPoolE {es : Array MapEntry} {clock : Nat} (h : Sat w0 w (mapA enc b l :: L)) (hb : w.heap[b]? = some (.map es clock)) : Sat w0 w (pool [fun w => w.heap[b]? = some (.map es clock)] :: L) :=
  h.toPool (fun S hP f hf w' hw => by
    rw [List.mem_singleton.1 hf]
    exact (hw b ((hP.2 b).2 rfl)).trans hb)
theorem Sat.blkPool {g : Nat} {o : Obj} (h : Sat w0 w (blk g o :: L)) : Sat w0 w (pool [fun w => w.heap[g]? = some o] :: L) :=
  h.toPool (fun S hP f hf w' hw => by
    rw [List.mem_singleton.1 hf]
    exact (hw g ((hP.2 g).2 rfl)).trans hP.1)
theorem mapLenP (ht : P.underlying t = some (.map k e)) (h : mapP enc b l w) (ty : TypeId) : (Builtin.len_ #[t] ty #[.map (some b)]).run P w = .ok (.int .i64 l.length) w := by
  obtain ⟨es, clock, hb, he, _⟩ := h
  have hl : es.size = l.length := by
    have := congrArg List.length he
    simpa using this
  simp [Builtin.len_, run_underlying ht, MapKept.run_getObj_map hb, Result.andThen, goInt, hl]
/-- A block of any kind, new. -/
theorem Sat.newBlk {g : Nat} {o : Obj} {w' : World} (h : Sat w0 w L) (hg : g = w.heap.size) (hbox : w'.heap[g]? = some o) (hb : Below w.heap.size w w') : Sat w0 w' (blk g o :: L) :=
  h.new hb (T := fun k => k = g) (fun k hk => by omega) ⟨hbox, fun _ => Iff.rfl⟩
/-- .. written whole. -/
theorem Sat.setBlk {g : Nat} {o : Obj} (h : Sat w0 w (blk g o :: L)) (o' : Obj) : Sat w0 (setBlock w g o') (blk g o' :: L) := by
  have hlt := (Array.getElem?_eq_some_iff.1 (h.block 0 rfl).1).1
  refine h.write (fun S hP _ => ⟨S, fun k hk => .inl hk, ⟨rfl, rfl, rfl, by simp [setBlock], fun j hj hS => ?_⟩, ?_, hP.2⟩)
  · have hne : g ≠ j := fun e => hS ((hP.2 j).2 e.symm)
    show (w.heap.setIfInBounds g o')[j]? = _
    rw [Array.getElem?_setIfInBounds, if_neg hne]
  · show (w.heap.setIfInBounds g o')[g]? = _
    rw [Array.getElem?_setIfInBounds, if_pos rfl, if_pos hlt]
end
section
variable {κ : Type} {enc : κ → Value} {P : Program} {ops : Array Oper} {Q : Exit → Act → World → Prop} {rest : List Oper} {o : Oper} {a : Act}
/-- clear(m). -/
theorem clear_ev {k t e : TypeId} {w0 W : World} {L : List Asrt} {b : Nat} {l : List (κ × Value)} (ht : P.underlying t = some (.map k e)) (hgd : o.guard = none) (m : Operand) (ho : o.op = .call { callee := .builtin .clear, args := #[m], argTypes := #[t] }) (hm : a.eval m = .map (some b))
    (HS : Sat w0 W (mapA enc b l :: L)) (h : ∀ w1, Sat w0 w1 (mapA enc b [] :: L) → wpList P ops Q rest (a.put o.dst (.tuple #[])) w1) : wpList P ops Q (o :: rest) a W := by
  obtain ⟨es, clock, hb, _⟩ := HS.mapAt 0 rfl
  have hbl : b < W.heap.size := (Array.getElem?_eq_some_iff.1 hb).1
  have hr : (Builtin.clear_ #[t] o.type #[.map (some b)]).run P W = .ok (.tuple #[]) (setBlock W b (.map #[] clock)) := by
    simp [Builtin.clear_, run_underlying ht, MapKept.run_getObj_map hb, MapKept.run_setObj_map _ hb, Result.andThen, setBlock]
  refine Kd.event_run hgd (v := .tuple #[]) (w1 := setBlock W b (.map #[] clock)) ?_ (h _ (HS.write fun S hP _ => ⟨S, fun k hk => .inl hk, ⟨rfl, rfl, rfl, by simp [setBlock], fun j hj hS => ?_⟩, ⟨#[], clock, ?_, rfl, (fun e he => by simp at he), List.nodup_nil⟩, hP.2⟩))
  · simp [execOp, ho, hm, resolve, Deferred.ofValue, hr, Result.andThen, invoke, builtin]
  · have hne : b ≠ j := fun e => hS ((hP.2 j).2 e.symm)
    show (W.heap.setIfInBounds b _)[j]? = _
    rw [Array.getElem?_setIfInBounds, if_neg hne]
  · show (W.heap.setIfInBounds b _)[b]? = _
    rw [Array.getElem?_setIfInBounds, if_pos rfl, if_pos hbl]
/-- 'range m': a new iterator. -/
theorem range_ev {k t e : TypeId} {w0 W : World} {L : List Asrt} {b : Nat} {es : Array MapEntry} {clock : Nat} (ht : P.underlying t = some (.map k e)) (hgd : o.guard = none) {N : Tmp} (hd : o.dst = some N) (m : Operand) (ho : o.op = .range t m) (hm : a.eval m = .map (some b))
    (hb : W.heap[b]? = some (.map es clock)) (HS : Sat w0 W L) (h : ∀ r w1, Sat w0 w1 (blk r (.mapIter (some b) clock #[] clock) :: L) → wpList P ops Q rest (a.put o.dst (.pointer (some ⟨r, 0, none⟩))) w1) : wpList P ops Q (o :: rest) a W := by
  refine Kd.event_run hgd (v := .pointer (some ⟨W.heap.size, 0, none⟩)) (w1 := W.alloc (.mapIter (some b) clock #[] clock)) ?_ (h _ _ (HS.newBlk rfl (blk_new W _) (below_alloc (Below.refl _ _) _)))
  simp [execOp, ho, hm, run_range_map W t k e b es clock ht hb, Result.andThen]
/-- The next entry, or none. -/
theorem next_ev {w0 W : World} {L : List Asrt} {b r c0 : Nat} {seen : Array Nat} {es : Array MapEntry} {clock : Nat} (hgd : o.guard = none) {N : Tmp} (hd : o.dst = some N) (x : Operand) (ho : o.op = .next x false) (hx : a.eval x = .pointer (some ⟨r, 0, none⟩))
    (hb : W.heap[b]? = some (.map es clock)) (hold : ∀ e ∈ es.toList, e.born < clock) (hsc : clock ≤ c0) (HS : Sat w0 W (blk r (.mapIter (some b) clock seen c0) :: L))
    (h0 : (leftOf es seen).size = 0 → wpList P ops Q rest (a.put o.dst (.tuple #[.bool false])) W)
    (h1 : ∀ e ∈ (leftOf es seen).toList, ∀ w1, Sat w0 w1 (blk r (.mapIter (some b) clock (seen.push e.born) clock) :: L) → wpList P ops Q rest (a.put o.dst (.tuple #[.bool true, e.key, e.val])) w1) : wpList P ops Q (o :: rest) a W := by
  rcases run_next_at (P := P) W o.type r b clock c0 seen es clock (HS.block 0 rfl).1 hb hold hsc with ⟨hz, hr⟩ | ⟨e, he, w1, hw, hr⟩
  · refine Kd.event_run hgd (v := .tuple #[.bool false]) (w1 := W) ?_ (h0 hz)
    simp [execOp, ho, hx, hr, Result.andThen]
  · refine Kd.event_run hgd (v := .tuple #[.bool true, e.key, e.val]) (w1 := setBlock w1 r (.mapIter (some b) clock (seen.push e.born) clock)) ?_ (h1 e he _ ?_)
    · simp [execOp, ho, hx, hr, Result.andThen]
    · rcases hw with rfl | rfl
      · exact HS.setBlk _
      · exact HS.drew.setBlk _
end

theorem Sat.dropMid {w0 w : World} {M N L : List Asrt} (h : Sat w0 w (M ++ (N ++ L))) : Sat w0 w (M ++ L) := by
  have h1 : Sat w0 w (N ++ (M ++ L)) := h.perm (by
    rw [← List.append_assoc, ← List.append_assoc]
    exact List.perm_append_comm.append_right L)
  exact h1.dropL
/-! ### Reset (session): function 40 -/
theorem sReset_calls {w0 w : World} {L : List Asrt} (g b : Nat) (σ : List GS) (HS : Sat w0 w (inbox g b σ ++ L)) :
    Calls Try.prog 40 #[.pointer (some ⟨g, 0, none⟩)] w fun e w' => (∃ v, e = .returned v) ∧ Sat w0 w' (inbox g b [] ++ L) := by
  have hu83 := Try.underlying83
  have c0 : w.cell? ⟨g, 0, none⟩ = some (.map (some b)) := HS.cell 0 0 rfl rfl
  have HS1 : Sat w0 w (mapA encF b (σ.map encS) :: blk g (.cells #[.map (some b)] 83 (0, 0)) :: pool [PFs σ] :: (σ.map inner ++ L)) := HS.swap
  go_enter Try.func40, Try.ntmps40
  go_wp2_with (first | ((with_reducible refine gate_builtin (b := .clear) (xs := #[.tmp 5]) rfl ?_); refine clear_ev Try.underlying81 rfl (.tmp 5) rfl rfl HS1 ?_; intro w1 HS2; clear HS HS1 c0))
  have HS3 : Sat w0 w1 (pool [PFs []] :: mapA encF b [] :: blk g (.cells #[.map (some b)] 83 (0, 0)) :: (σ.map inner ++ L)) := (HS2.pick 2 rfl).poolMap (fun w' _ f hf => by rw [List.mem_singleton.1 hf]; exact fun s hs => by cases hs)
  have HS4 : Sat w0 w1 (inbox g b [] ++ (σ.map inner ++ L)) := (HS3.swap.pick 2 rfl).swap.swap
  go_end0
  exact ⟨⟨_, rfl⟩, HS4.dropMid⟩

/-! ### maps.Clone: function 52 -/
theorem eql_map_nil {P : Program} (w : World) (t k e : TypeId) (p : Option Nat) (h : P.underlying t = some (.map k e)) : (binOp .eql t (.map p) (.map none)).run P w = .ok (.bool p.isNone) w := by
  have h0 : ∀ d, (Op.equalIn (d + 1) t (.map p) (.map none)).run P w = .ok p.isNone w := fun d => by cases p <;> simp [Op.equalIn, run_underlying h]
  have h1 := h0 9999
  simp only [binOp]
  simp [show Op.equal t (.map p) (.map none) = Op.equalIn (9999 + 1) t (.map p) (.map none) from rfl, h1]
theorem assert_map {P : Program} (w : World) (t xT k e : TypeId) (v : Value) (h : P.underlying t = some (.map k e)) : (Instr.typeAssert (.iface t v) xT t false).run P w = .ok v w := by
  simp [Instr.typeAssert, run_underlying h, go_sem, Result.andThen]
theorem maps_clone_run {P : Program} (w : World) {r : Nat} {es : Array MapEntry} {clock : Nat} (t : TypeId) (hb : w.heap[r]? = some (.map es clock)) :
    (Extern.MapsClone.clone #[.iface t (.map (some r))]).run P w = .ok (.iface t (.map (some w.heap.size))) (w.alloc (.map es clock)) := by
  change Sem.run P (getObj r >>= _) w = _
  rw [Sem.run_bind, MapKept.run_getObj_map hb]
  rfl
set_option maxHeartbeats 2000000 in
set_option maxRecDepth 100000 in
theorem clone52 {w : World} (b : Nat) (es : Array MapEntry) (clock : Nat) (hb : w.heap[b]? = some (.map es clock)) :
    Calls Try.prog 52 #[.map (some b)] w fun e w' => e = .returned (.map (some w.heap.size)) ∧ w' = w.alloc (.map es clock) := by
  have hu87 := Try.underlying87
  have hu20 := Try.underlying20
  have hq := fun w => eql_map_nil (P := Try.prog) w 87 _ _ (some b) Try.underlying87
  go_enter Try.func52, Try.ntmps52
  go_wp2
  rw [run_callFunc_extern Try.func56 (by kernel_rfl) (by kernel_rfl) (by kernel_rfl) (e := Extern.MapsClone.clone) (by kernel_rfl), maps_clone_run w 87 hb]
  simp only [Result.andThen]
  rw [Oper.upon_value]
  go_wp2
  rw [assert_map _ 87 20 _ _ _ Try.underlying87]
  simp only [Result.andThen]
  rw [Oper.upon_value]
  go_wp2
  go_ret
  exact ⟨rfl, rfl⟩
end Go.Proofs.Ytaojnbhnogndnaa.SL
/- Package session's Clone; Missing of an inbox that is only asked. -/
namespace Go.Proofs.Ytaojnbhnogndnaa.SL
open Go.RowKit Go.Proofs.YtaojnbhnogndnaaW.PrintWords Go.Proofs.YtaojnbhnogndnaaW.PrintLast Go.Proofs.YtaojnbhnogndnaaW.PrintMore
attribute [local go_sem] max2_int min2_int max_two min_two
attribute [local go_sem high] Small.cell_set_same
set_option linter.unusedVariables false
set_option linter.unusedSimpArgs false
open Go.ChangeMaps (setBlock)

/-! ### An inbox that is only asked -/
theorem mapP.below {κ : Type} {enc : κ → Value} {b : Nat} {l : List (κ × Value)} {w w' : World} (h : mapP enc b l w) (hb : Below w.heap.size w w') : mapP enc b l w' := by
  obtain ⟨es, clock, h1, h2⟩ := h
  exact ⟨es, clock, (hb.block b (Array.getElem?_eq_some_iff.1 h1).1).trans h1, h2⟩
theorem lookM_some {κ : Type} [DecidableEq κ] {enc : κ → Value} {P : Program} {k t e : TypeId} {b : Nat} {l : List (κ × Value)} {w : World} (K : KeyEnc P k enc) (ht : P.underlying t = some (.map k e)) (h : mapP enc b l w) (x : κ) {j : Nat} {v : Value} (hl : lookFrom x 0 l = some (j, v)) (c : Bool) :
    (Instr.lookup t (.map (some b)) (enc x) c).run P w = .ok (if c then .tuple #[v, .bool true] else v) w := by
  obtain ⟨es, clock, hb, he, _⟩ := h
  have h1 := K.find w x es.toList l he
  rw [hl] at h1
  simp [Instr.lookup, run_underlying ht, MapKept.run_getObj_map hb, K.check w _ x, h1, Result.andThen]
theorem lookM_none {κ : Type} [DecidableEq κ] {enc : κ → Value} {P : Program} {k t e : TypeId} {z : Value} {b : Nat} {l : List (κ × Value)} {w : World} (K : KeyEnc P k enc) (ht : P.underlying t = some (.map k e)) (hz : ∀ w, (zeroValue e).run P w = .ok z w) (h : mapP enc b l w) (x : κ) (hl : lookFrom x 0 l = none) (c : Bool) :
    (Instr.lookup t (.map (some b)) (enc x) c).run P w = .ok (if c then .tuple #[z, .bool false] else z) w := by
  obtain ⟨es, clock, hb, he, _⟩ := h
  have h1 := K.find w x es.toList l he
  rw [hl] at h1
  simp [Instr.lookup, run_underlying ht, MapKept.run_getObj_map hb, K.check w _ x, h1, hz w, Result.andThen]
abbrev I64 : Int → Value := fun x => Value.int .i64 x
/-- An inbox that nothing is added to, as facts that hold by its blocks alone. -/
def ZF (g b : Nat) (σ : List GS) : World → Prop := fun w => w.heap[g]? = some (.cells #[.map (some b)] 83 (0, 0)) ∧ mapP encF b (σ.map encS) w ∧ ∀ s ∈ σ, mapP I64 s.c (s.came.map encC) w
def ZFe (g b : Nat) (es : Array MapEntry) (clock : Nat) (σ : List GS) : World → Prop := fun w => w.heap[g]? = some (.cells #[.map (some b)] 83 (0, 0)) ∧ w.heap[b]? = some (.map es clock) ∧ ∀ s ∈ σ, mapP I64 s.c (s.came.map encC) w
theorem ZFe.cell {g b : Nat} {es : Array MapEntry} {clock : Nat} {σ : List GS} {w : World} (h : ZFe g b es clock σ w) : w.cell? ⟨g, 0, none⟩ = some (.map (some b)) := (blk_cell h.1 0).trans rfl
theorem ZF.cell {g b : Nat} {σ : List GS} {w : World} (h : ZF g b σ w) : w.cell? ⟨g, 0, none⟩ = some (.map (some b)) := (blk_cell h.1 0).trans rfl
theorem inner_pool {w0 w : World} : ∀ (σ : List GS) {fs : List (World → Prop)} {L : List Asrt}, Sat w0 w (pool fs :: (σ.map inner ++ L)) → Sat w0 w (pool (σ.map (fun s => mapP I64 s.c (s.came.map encC)) ++ fs) :: L)
  | [], _, _, h => h
  | s :: σ, fs, L, h => by
    have h1 : Sat w0 w (inner s :: pool fs :: (σ.map inner ++ L)) := h.swap
    have h2 : Sat w0 w (pool [mapP I64 s.c (s.came.map encC)] :: pool fs :: (σ.map inner ++ L)) := h1.mapPool
    have h3 := inner_pool σ (h2.poolJoin)
    refine h3.poolMap (fun w' hw f hf => ?_)
    rcases List.mem_append.1 hf with hf | hf
    · obtain ⟨s', hs', rfl⟩ := List.mem_map.1 hf
      rcases List.mem_cons.1 hs' with rfl | hs'
      · exact hw _ (List.mem_append_right _ List.mem_cons_self)
      · exact hw _ (List.mem_append_left _ (List.mem_map_of_mem hs'))
    · exact hw _ (List.mem_append_right _ (List.mem_cons_of_mem _ hf))
theorem inbox_pool {w0 w : World} {L : List Asrt} {g b : Nat} {σ : List GS} (HS : Sat w0 w (inbox g b σ ++ L)) :
    ∃ es clock, MapIs encF es clock (σ.map encS) ∧ Sat w0 w (pool [ZFe g b es clock σ] :: pool [PFs σ] :: L) := by
  obtain ⟨es, clock, hb, hm⟩ := HS.mapAt 1 rfl
  refine ⟨es, clock, hm, ?_⟩
  have h1 : Sat w0 w (pool [fun w => w.heap[g]? = some (.cells #[.map (some b)] 83 (0, 0))] :: mapA encF b (σ.map encS) :: pool [PFs σ] :: (σ.map inner ++ L)) := HS.blkPool
  have h2 := (h1.swap.mapPoolE hb).poolJoin
  have h3 := h2.swap.pick 1 rfl
  have h4 : Sat w0 w (pool _ :: (σ.map inner ++ (pool [PFs σ] :: L))) := h3.perm (List.Perm.cons _ (List.perm_middle.symm))
  exact (inner_pool σ h4).poolMap (fun w' hw f hf => by
    rw [List.mem_singleton.1 hf]
    refine ⟨hw _ (List.mem_append_right _ (List.mem_cons_of_mem _ List.mem_cons_self)), hw _ (List.mem_append_right _ List.mem_cons_self), fun s hs => hw _ (List.mem_append_left _ (List.mem_map_of_mem hs))⟩)
theorem ZFe.toZF {g b : Nat} {es : Array MapEntry} {clock : Nat} {σ : List GS} {w : World} (hm : MapIs encF es clock (σ.map encS)) (h : ZFe g b es clock σ w) : ZF g b σ w := ⟨h.1, ⟨es, clock, h.2.1, hm⟩, h.2.2⟩
/-! ### Missing (session) of an inbox that is only asked: function 21 -/
set_option maxRecDepth 100000 in
theorem sMissZ {w : World} (g b : Nat) (σ : List GS) (kd nd : Int) (hb : ∀ s ∈ σ, 0 ≤ s.ct ∧ s.ct ≤ 86 ∧ s.came.length ≤ 1000) (hZ : ZF g b σ w) :
    Calls Try.prog 21 #[.pointer (some ⟨g, 0, none⟩), .int .i64 kd, .int .i64 nd] w fun e w' => e = .returned (.int .i64 (missOf σ (kd, nd))) ∧ Sat w w' [] := by
  have hu89 := Try.underlying89
  have HS := Sat.start w
  have c0 : w.cell? ⟨g, 0, none⟩ = some (.map (some b)) := hZ.cell
  cases hl : lookS (kd, nd) σ with
  | none =>
    have hlk : (Instr.lookup 81 (.map (some b)) (.agg #[.int .i64 kd, .int .i64 nd]) true).run Try.prog w = .ok (.tuple #[.agg #[.int .i64 0, .int .i64 0, .map none], .bool false]) w :=
      lookM_none key86 Try.underlying81 zero89 hZ.2.1 (kd, nd) (by rw [lookS_from, hl]; rfl) true
    have HM := Aside0.mk (show missOf σ (kd, nd) = -1 from by unfold missOf; rw [hl])
    clear hl hb hZ
    go_enter Try.func21, Try.ntmps21
    go_wp2_with (first | ((with_reducible refine gate_dst (N := 7) rfl ?_); refine box_event ?hg1 (N := 7) ?hd1 (cs := #[.int .i64 0, .int .i64 0, .map none]) (t := 89) ?hr1 ?_; (case hd1 => rfl); (case hg1 => rfl); (case hr1 => first | (go_simp; done) | (go_simp; rfl)); intro g7 hg w1 hbox hb; have HS1 := HS.box hg hbox hb; have hlk' := hlk; clear HS hg hbox hb c0; have d0 := HS1.cell 0 0 rfl rfl; have d1 := HS1.cell 0 1 rfl rfl; have d2 := HS1.cell 0 2 rfl rfl; have f0 := HS1.frozen 0 0 rfl; have f1 := HS1.frozen 0 1 rfl; have f2 := HS1.frozen 0 2 rfl) | ((with_reducible refine gate_store (t := 89) (p := 7) rfl ?_); refine store_event (t := 89) (p := 7) (v := ?vo2) (w1 := (((w1.setCell ⟨g7, 0, none⟩ (.int .i64 0)).setCell ⟨g7, 1, none⟩ (.int .i64 0)).setCell ⟨g7, 2, none⟩ (.map none))) ?hg2 ?ho2 ?hn2 ?hr2 ?_; (case ho2 => rfl); (case hg2 => rfl); (case hn2 => rfl); (case hr2 => first | (go_simp; done) | (go_simp; rfl)); intro w2 hw; have HS2 := (((HS1.setAt 0 0 (.int .i64 0) rfl).setAt 0 1 (.int .i64 0) rfl).setAt 0 2 (.map none) rfl); rw [← hw] at HS2; clear hw HS1 d0 d1 d2 f0 f1 f2))
    go_ret
    exact ⟨by rw [HM.out]; rfl, HS2.tail⟩
  | some q =>
    obtain ⟨j, s⟩ := q
    have hlk : (Instr.lookup 81 (.map (some b)) (.agg #[.int .i64 kd, .int .i64 nd]) true).run Try.prog w = .ok (.tuple #[.agg #[.int .i64 s.nc, .int .i64 s.ct, .map (some s.c)], .bool true]) w :=
      lookM_some key86 Try.underlying81 hZ.2.1 (kd, nd) (j := j) (v := valS s) (by rw [lookS_from, hl]; rfl) true
    have HM := Aside0.mk (show missOf σ (kd, nd) = s.ct - s.came.length from by unfold missOf; rw [hl])
    obtain ⟨m, hm, hj, _⟩ := lookIn_some hl
    obtain rfl : j = m := by omega
    obtain ⟨h1, h2, h3⟩ := hb s (List.mem_of_getElem? hj)
    have HMP := Aside0.mk (hZ.2.2 s (List.mem_of_getElem? hj))
    clear hl hb hm hj hZ
    go_enter Try.func21, Try.ntmps21
    go_wp2_with (first | ((with_reducible refine gate_dst (N := 7) rfl ?_); refine box_event ?hg3 (N := 7) ?hd3 (cs := #[.int .i64 0, .int .i64 0, .map none]) (t := 89) ?hr3 ?_; (case hd3 => rfl); (case hg3 => rfl); (case hr3 => first | (go_simp; done) | (go_simp; rfl)); intro g7 hg w1 hbox hb; have HS1 := HS.box hg hbox hb; clear HS hg hbox hb c0; have d0 := HS1.cell 0 0 rfl rfl; have d1 := HS1.cell 0 1 rfl rfl; have d2 := HS1.cell 0 2 rfl rfl; have f0 := HS1.frozen 0 0 rfl; have f1 := HS1.frozen 0 1 rfl; have f2 := HS1.frozen 0 2 rfl) | ((with_reducible refine gate_store (t := 89) (p := 7) rfl ?_); refine store_event (t := 89) (p := 7) (v := ?vo4) (w1 := (((w1.setCell ⟨g7, 0, none⟩ (.int .i64 s.nc)).setCell ⟨g7, 1, none⟩ (.int .i64 s.ct)).setCell ⟨g7, 2, none⟩ (.map (some s.c)))) ?hg4 ?ho4 ?hn4 ?hr4 ?_; (case ho4 => rfl); (case hg4 => rfl); (case hn4 => rfl); (case hr4 => first | (go_simp; done) | (go_simp; rfl)); intro w2 hw; have HS2 := (((HS1.setAt 0 0 (.int .i64 s.nc) rfl).setAt 0 1 (.int .i64 s.ct) rfl).setAt 0 2 (.map (some s.c)) rfl); rw [← hw] at HS2; clear hw HS1 d0 d1 d2 f0 f1 f2; have d1 := HS2.cell 0 1 rfl rfl; have d2 := HS2.cell 0 2 rfl rfl; have hlen := mapLenP Try.underlying87 (HMP.out.below HS2.below) 3; rw [List.length_map] at hlen))
    go_ret
    exact ⟨by rw [HM.out]; rfl, HS2.tail⟩

/-! ### Clone (session): function 36 -/
/-- A slot but for where its map lies. -/
def GS.strip (s : GS) : (Int × Int) × Int × Int × List CE := (s.key, s.nc, s.ct, s.came)
def bornAt (es : Array MapEntry) (i : Nat) : Nat := (es.toList.map (·.born)).getD i 0
theorem left_at {es : Array MapEntry} {clock : Nat} {σ : List GS} {seen : Array Nat} {I : List Nat} {e : MapEntry} (hm : MapIs encF es clock (σ.map encS)) (hs : seen.toList = I.map (bornAt es)) (he : e ∈ (leftOf es seen).toList) :
    ∃ i s, σ[i]? = some s ∧ es.toList[i]? = some e ∧ e.key = .agg #[.int .i64 s.key.1, .int .i64 s.key.2] ∧ e.val = .agg #[.int .i64 s.nc, .int .i64 s.ct, .map (some s.c)] ∧ i ∉ I ∧ e.born = bornAt es i ∧ e ∈ es.toList := by
  unfold leftOf at he
  simp only [Array.toList_filter, List.mem_filter] at he
  obtain ⟨he1, he2⟩ := he
  obtain ⟨i, hi, hie⟩ := List.getElem_of_mem he1
  have h1 := congrArg (fun q => q[i]?) hm.1
  have hei : es.toList[i]? = some e := by rw [List.getElem?_eq_getElem hi, hie]
  simp only [List.getElem?_map, hei, Option.map_some] at h1
  cases hs2 : σ[i]? with
  | none => rw [hs2] at h1; simp at h1
  | some s =>
    rw [hs2] at h1
    simp only [Option.map_some, Option.some.injEq, Prod.mk.injEq] at h1
    have hb : e.born = bornAt es i := by
      unfold bornAt
      rw [List.getD_eq_getElem?_getD, List.getElem?_map, hei]; rfl
    refine ⟨i, s, hs2, hei, h1.1, h1.2, fun hI => ?_, hb, he1⟩
    have : e.born ∈ seen.toList := by rw [hs, hb]; exact List.mem_map_of_mem hI
    simp at he2
    exact he2 (by simpa using this)
theorem left_none {es : Array MapEntry} {clock : Nat} {σ : List GS} {seen : Array Nat} {I : List Nat} (hm : MapIs encF es clock (σ.map encS)) (hs : seen.toList = I.map (bornAt es)) (hI : I.Nodup) (hlt : ∀ i ∈ I, i < σ.length) (h0 : (leftOf es seen).size = 0) : I.Perm (List.range σ.length) := by
  have hlen : es.toList.length = σ.length := by have := congrArg List.length hm.1; simpa using this
  refine (List.perm_ext_iff_of_nodup hI List.nodup_range).2 (fun i => ⟨fun h => List.mem_range.2 (hlt i h), fun h => ?_⟩)
  have hi : i < es.toList.length := by rw [hlen]; exact List.mem_range.1 h
  have hne : es.toList[i] ∉ (leftOf es seen).toList := by
    have : (leftOf es seen).toList = [] := by
      have h1 : (leftOf es seen).toList.length = 0 := by simpa using h0
      exact List.length_eq_zero_iff.1 h1
    rw [this]; exact List.not_mem_nil
  unfold leftOf at hne
  simp only [Array.toList_filter, List.mem_filter] at hne
  have h2 : es.toList[i].born ∈ seen.toList := by
    apply Classical.byContradiction
    intro hc
    exact hne ⟨List.getElem_mem hi, by simp; intro h; exact hc (by simpa using h)⟩
  rw [hs] at h2
  obtain ⟨i', hi', hbe⟩ := List.mem_map.1 h2
  have hi'l : i' < es.toList.length := by rw [hlen]; exact hlt i' hi'
  have h3 : (es.toList.map (·.born))[i']'(by simpa using hi'l) = (es.toList.map (·.born))[i]'(by simpa using hi) := by
    unfold bornAt at hbe
    rw [List.getD_eq_getElem?_getD, List.getElem?_eq_getElem (by simpa using hi'l)] at hbe
    simpa using hbe
  have h4 := (List.getElem_inj hm.2.2).1 h3
  rw [← h4]; exact hi'
theorem nodup_len : ∀ (n : Nat) (l : List Nat), l.Nodup → (∀ i ∈ l, i < n) → l.length ≤ n
  | 0, [], _, _ => Nat.le_refl _
  | 0, x :: l, _, h => absurd (h x List.mem_cons_self) (Nat.not_lt_zero _)
  | n + 1, l, hn, h => by
    have h1 := nodup_len n (l.erase n) (hn.erase n) (fun i hi => by
      have h2 := (hn.mem_erase_iff).1 hi
      have h3 := h i h2.2
      have h4 := h2.1
      omega)
    have h5 := List.length_erase (a := n) (l := l)
    split at h5 <;> omega
def CloneRel (w0 : World) (g' b' r b : Nat) (es : Array MapEntry) (clock g : Nat) (σ : List GS) (L : List Asrt) (wr : World) : Prop :=
  ∃ (seen : Array Nat) (c0 : Nat) (τ : List GS) (I : List Nat), clock ≤ c0 ∧ I.Nodup ∧ (∀ i ∈ I, i < σ.length) ∧ seen.toList = I.map (bornAt es) ∧ τ.map (fun t => some t.strip) = I.map (fun i => (σ[i]?).map GS.strip) ∧
    Sat w0 wr (blk r (.mapIter (some b) clock seen c0) :: blk g' (.cells #[.map (some b')] 83 (0, 0)) :: mapA encF b' (τ.map encS) :: pool [ZFe g b es clock σ] :: pool [PFs σ] :: (τ.map inner ++ L))
theorem Sat.newMapIs {κ : Type} {enc : κ → Value} {w0 w : World} {L : List Asrt} {es : Array MapEntry} {clock : Nat} {l : List (κ × Value)} (h : Sat w0 w L) (hm : MapIs enc es clock l) : Sat w0 (w.alloc (.map es clock)) (mapA enc w.heap.size l :: L) :=
  h.new (below_alloc (Below.refl _ _) _) (T := fun k => k = w.heap.size) (fun k hk => by omega) ⟨⟨es, clock, blk_new w _, hm⟩, fun _ => Iff.rfl⟩
theorem iter_size {w0 w : World} {l : List Asrt} {r b clock c0 : Nat} {seen : Array Nat} (h : Sat w0 w (blk r (.mapIter (some b) clock seen c0) :: l)) : w.iterSeen r = seen := by
  unfold World.iterSeen
  rw [(h.block 0 rfl).1]
theorem new_key {σ τ : List GS} {I : List Nat} {i : Nat} {s : GS} (hn : (σ.map GS.key).Nodup) (ht : τ.map (fun t => some t.strip) = I.map (fun i => (σ[i]?).map GS.strip)) (hi : σ[i]? = some s) (hI : i ∉ I) : lookS s.key τ = none := by
  cases hl : lookS s.key τ with
  | none => rfl
  | some q =>
    exfalso
    obtain ⟨j, t⟩ := q
    obtain ⟨hj, hk⟩ := lookIn_at hl
    have h1 := congrArg (fun q => q[j]?) ht
    simp only [List.getElem?_map, hj, Option.map_some] at h1
    cases hIj : I[j]? with
    | none => rw [hIj] at h1; simp at h1
    | some i' =>
      rw [hIj] at h1
      simp only [Option.map_some, Option.some.injEq] at h1
      cases hs' : σ[i']? with
      | none => rw [hs'] at h1; simp at h1
      | some s' =>
        rw [hs'] at h1
        simp only [Option.map_some, Option.some.injEq] at h1
        have hk2 : t.key = s'.key := congrArg Prod.fst h1
        have h3 : (σ.map GS.key)[i']? = (σ.map GS.key)[i]? := by
          rw [List.getElem?_map, List.getElem?_map, hs', hi]
          simp [← hk2, hk]
        have hil : i < (σ.map GS.key).length := by rw [List.length_map]; exact (List.getElem?_eq_some_iff.1 hi).1
        have hil' : i' < (σ.map GS.key).length := by rw [List.length_map]; exact (List.getElem?_eq_some_iff.1 hs').1
        rw [List.getElem?_eq_getElem hil, List.getElem?_eq_getElem hil'] at h3
        have h4 := (List.getElem_inj hn).1 (Option.some.inj h3)
        rw [h4] at hIj
        exact hI (List.mem_of_getElem? hIj)
theorem clone_step {w0 w : World} {g' b' r b : Nat} {es : Array MapEntry} {clock g : Nat} {σ : List GS} {L : List Asrt} {seen : Array Nat} {τ : List GS} {I : List Nat} {i : Nat} {s t : GS} {bn : Nat}
    (hI : I.Nodup) (hlt : ∀ i ∈ I, i < σ.length) (hs : seen.toList = I.map (bornAt es)) (ht : τ.map (fun t => some t.strip) = I.map (fun i => (σ[i]?).map GS.strip)) (hi : σ[i]? = some s) (hnI : i ∉ I) (hb : bn = bornAt es i) (hst : t.strip = s.strip)
    (HS : Sat w0 w (mapA encF b' ((τ ++ [t]).map encS) :: inner t :: blk r (.mapIter (some b) clock (seen.push bn) clock) :: blk g' (.cells #[.map (some b')] 83 (0, 0)) :: pool [ZFe g b es clock σ] :: pool [PFs σ] :: (τ.map inner ++ L))) : CloneRel w0 g' b' r b es clock g σ L w := by
  refine ⟨seen.push bn, clock, τ ++ [t], I ++ [i], Nat.le_refl _, ?_, ?_, ?_, ?_, ?_⟩
  · exact List.nodup_append.2 ⟨hI, by simp, fun a ha b' hb' => by rw [List.mem_singleton.1 hb']; exact fun e => hnI (e ▸ ha)⟩
  · intro k hk
    rcases List.mem_append.1 hk with hk | hk
    · exact hlt k hk
    · rw [List.mem_singleton.1 hk]; exact (List.getElem?_eq_some_iff.1 hi).1
  · rw [Array.toList_push, hs, hb]; simp
  · rw [List.map_append, ht, List.map_append, List.map_cons, List.map_cons, List.map_nil, List.map_nil, hi, hst]; rfl
  · have h1 := ((HS.pick 3 rfl).pick 3 rfl)
    have h2 : Sat w0 w (blk r (.mapIter (some b) clock (seen.push bn) clock) :: blk g' (.cells #[.map (some b')] 83 (0, 0)) :: mapA encF b' ((τ ++ [t]).map encS) :: inner t :: pool [ZFe g b es clock σ] :: pool [PFs σ] :: (τ.map inner ++ L)) := h1
    refine h2.perm (List.Perm.cons _ (List.Perm.cons _ (List.Perm.cons _ ?_)))
    rw [List.map_append, List.append_assoc]
    refine (List.Perm.swap _ _ _).trans (List.Perm.cons _ ((List.Perm.swap _ _ _).trans (List.Perm.cons _ ?_)))
    exact List.perm_middle.symm
theorem clone_end {σ τ : List GS} {I : List Nat} (hp : I.Perm (List.range σ.length)) (ht : τ.map (fun t => some t.strip) = I.map (fun i => (σ[i]?).map GS.strip)) : (τ.map GS.strip).Perm (σ.map GS.strip) := by
  have h1 : (τ.map (fun t => some t.strip)).Perm ((List.range σ.length).map (fun i => (σ[i]?).map GS.strip)) := by rw [ht]; exact hp.map _
  have h2 : (List.range σ.length).map (fun i => (σ[i]?).map GS.strip) = σ.map (fun s => some s.strip) := by
    apply List.ext_getElem?
    intro i
    rw [List.getElem?_map, List.getElem?_map]
    by_cases hi : i < σ.length
    · rw [List.getElem?_range hi, List.getElem?_eq_getElem hi]; simp [List.getElem?_eq_getElem hi]
    · rw [List.getElem?_eq_none (by simpa using hi), List.getElem?_eq_none (by omega)]; rfl
  rw [h2] at h1
  have h3 := h1.filterMap id
  simpa [List.filterMap_map, Function.comp_def] using h3
set_option maxHeartbeats 8000000 in
set_option maxRecDepth 100000 in
theorem sClone_calls {w0 w : World} {L : List Asrt} (g b : Nat) (σ : List GS) (hn : (σ.map GS.key).Nodup) (HS : Sat w0 w (inbox g b σ ++ L)) :
    Calls Try.prog 36 #[.pointer (some ⟨g, 0, none⟩)] w fun e w' => ∃ (g' b' : Nat) (τ : List GS), e = .returned (.pointer (some ⟨g', 0, none⟩)) ∧ (τ.map GS.strip).Perm (σ.map GS.strip) ∧ Sat w0 w' (pool [ZF g b σ] :: (inbox g' b' τ ++ L)) := by
  have hu83 := Try.underlying83
  have hu86 := Try.underlying86
  have hu89 := Try.underlying89
  obtain ⟨es, clock, hes, HS0⟩ := inbox_pool HS
  have HES := Aside0.mk hes
  have HNK := Aside0.mk hn
  have HESL := Aside0.mk (show es.toList.length = σ.length from by have := congrArg List.length hes.1; simpa using this)
  clear HS hes hn
  go_enter Try.func36, Try.ntmps36
  go_wp2_with (first | (go_at_call 17; refine (sNew_calls HS0).mono ?_; rintro e w1 ⟨g', b', rfl, HS1'⟩; have HS1 : Sat w0 w1 (blk g' (.cells #[.map (some b')] 83 (0, 0)) :: mapA encF b' ([].map encS) :: pool [ZFe g b es clock σ] :: pool [PFs σ] :: L) := (HS1'.dropAt 2); clear HS0 HS1'; have c0 := (HS1.poolGet 2 rfl List.mem_cons_self).cell) | ((with_reducible refine gate_dst (N := 11) rfl ?_); refine range_ev Try.underlying81 rfl (N := 11) rfl (.tmp 10) rfl rfl (HS1.poolGet 2 rfl List.mem_cons_self).2.1 HS1 ?_; intro r w2 HS2; clear HS1 c0))
  simp only [Act.put, List.setIfInBounds_toArray, List.set_cons_zero, List.set_cons_succ]
  go_loopw [12] (fun _ wr => CloneRel w0 g' b' r b es clock g σ L wr) (fun _ wr => es.size - (wr.iterSeen r).size)
  case atStart => exact ⟨#[], clock, [], [], Nat.le_refl _, List.nodup_nil, fun i hi => absurd hi List.not_mem_nil, rfl, rfl, HS2⟩
  case round =>
    obtain ⟨seen, c0, τ, I, hsc, hI, hlt, hseen, ht, HT⟩ := hrel
    clear HS2
    have HIN := Aside0.mk hI
    have HLT := Aside0.mk hlt
    have HSEEN := Aside0.mk hseen
    have HTT := Aside0.mk ht
    have HIT := Aside0.mk (iter_size HT)
    clear hI hlt hseen ht
    by_cases hl : (leftOf es seen).size = 0
    · have HPM := Aside0.mk (left_none HES.out HSEEN.out HIN.out HLT.out hl)
      have HL := Aside0.mk (show ∀ e, e ∉ (leftOf es seen).toList from fun e he => by
        have h1 : (leftOf es seen).toList.length = 0 := by simpa using hl
        rw [List.length_eq_zero_iff.1 h1] at he
        cases he)
      clear hl
      go_wp2_with (first | ((with_reducible refine gate_dst (N := 12) rfl ?_); refine next_ev rfl (N := 12) rfl (.tmp 11) rfl rfl (HT.poolGet 3 rfl List.mem_cons_self).2.1 HES.out.2.1 hsc HT ?_ (fun e he => absurd he (HL.out e)); intro _))
      go_ret
      refine ⟨g', b', τ, rfl, clone_end HPM.out HTT.out, ?_⟩
      have H1 : Sat w0 _ (pool [ZF g b σ] :: _) := (HT.pick 3 rfl).poolMap (fun w' hw f hf => by
        rw [List.mem_singleton.1 hf]
        exact (hw _ List.mem_cons_self).toZF HES.out)
      have H2 : Sat w0 _ (pool [PFs τ] :: _) := (H1.pick 4 rfl).poolMap (fun w' hw f hf => by
        rw [List.mem_singleton.1 hf]
        have h1 := hw _ List.mem_cons_self
        intro t ht e he
        have h2 : t.strip ∈ σ.map GS.strip := (clone_end HPM.out HTT.out).mem_iff.1 (List.mem_map_of_mem ht)
        obtain ⟨s, hs, hst⟩ := List.mem_map.1 h2
        have h3 : s.came = t.came := congrArg (fun q => q.2.2.2) hst
        exact h1 s hs e (by rw [h3]; exact he))
      -- pool PFs τ, pool ZF, blk r, blk g', mapA, inner.. L
      have H3 := (H2.dropAt 2)
      exact H3.perm ((List.Perm.swap _ _ _).trans (List.Perm.cons _ ((List.Perm.swap _ _ _).trans (List.Perm.cons _ (List.Perm.swap _ _ _)))))
    · have HL := Aside0.mk hl
      clear hl
      go_wp2_with (first | ((with_reducible refine gate_dst (N := 12) rfl ?_); refine next_ev rfl (N := 12) rfl (.tmp 11) rfl rfl (HT.poolGet 3 rfl List.mem_cons_self).2.1 HES.out.2.1 hsc HT (fun hz => absurd hz HL.out) ?_; intro e he w3 HT2; obtain ⟨i, s, hsi, hei, hek, hev, hnI, heb, hem⟩ := left_at HES.out HSEEN.out he; have hent := run_entry_at (P := Try.prog) w3 r b clock seen es clock e (HT2.block 0 rfl).1 (HT2.poolGet 3 rfl List.mem_cons_self).2.1 hem HES.out.2.2; rw [hek, hev] at hent ⊢; have HI := Aside0.mk hsi; have HEB := Aside0.mk heb; have HNI := Aside0.mk hnI; have HEL := Aside0.mk (show i < es.toList.length from (List.getElem?_eq_some_iff.1 hei).1); clear hei hek hev hem he hsi heb hnI HT) | ((with_reducible refine gate_dst (N := 4) rfl ?_); refine box_event ?hg5 (N := 4) ?hd5 (cs := #[.int .i64 0, .int .i64 0]) (t := 86) ?hr5 ?_; (case hd5 => rfl); (case hg5 => rfl); (case hr5 => first | (go_simp; done) | (go_simp; rfl)); intro g4 hg w4 hbox hb; have HT3 := HT2.box hg hbox hb; clear HT2 hg hbox hb hent; have a0 := HT3.cell 0 0 rfl rfl; have a1 := HT3.cell 0 1 rfl rfl; have p0 := HT3.frozen 0 0 rfl; have p1 := HT3.frozen 0 1 rfl) | ((with_reducible refine gate_dst (N := 5) rfl ?_); refine box_event ?hg6 (N := 5) ?hd6 (cs := #[.int .i64 0, .int .i64 0, .map none]) (t := 89) ?hr6 ?_; (case hd6 => rfl); (case hg6 => rfl); (case hr6 => first | (go_simp; done) | (go_simp; rfl)); intro g5 hg w5 hbox hb; have HT4 := HT3.box hg hbox hb; clear HT3 hg hbox hb a0 a1 p0 p1; have a0 := HT4.cell 1 0 rfl rfl; have a1 := HT4.cell 1 1 rfl rfl; have p0 := HT4.frozen 1 0 rfl; have p1 := HT4.frozen 1 1 rfl; have d0 := HT4.cell 0 0 rfl rfl; have d1 := HT4.cell 0 1 rfl rfl; have d2 := HT4.cell 0 2 rfl rfl; have f0 := HT4.frozen 0 0 rfl; have f1 := HT4.frozen 0 1 rfl; have f2 := HT4.frozen 0 2 rfl) | ((with_reducible refine gate_store (t := 86) (p := 4) rfl ?_); refine store_event (t := 86) (p := 4) (v := ?vo7) (w1 := ((w5.setCell ⟨g4, 0, none⟩ (.int .i64 s.key.1)).setCell ⟨g4, 1, none⟩ (.int .i64 s.key.2))) ?hg7 ?ho7 ?hn7 ?hr7 ?_; (case ho7 => rfl); (case hg7 => rfl); (case hn7 => rfl); (case hr7 => first | (go_simp; done) | (go_simp; rfl)); intro w6 hw; have HT5 := ((HT4.setAt 1 0 (.int .i64 s.key.1) rfl).setAt 1 1 (.int .i64 s.key.2) rfl); rw [← hw] at HT5; clear hw HT4 a0 a1 p0 p1 d0 d1 d2 f0 f1 f2; have d0 := HT5.cell 0 0 rfl rfl; have d1 := HT5.cell 0 1 rfl rfl; have d2 := HT5.cell 0 2 rfl rfl; have f0 := HT5.frozen 0 0 rfl; have f1 := HT5.frozen 0 1 rfl; have f2 := HT5.frozen 0 2 rfl) | ((with_reducible refine gate_store (t := 89) (p := 5) rfl ?_); refine store_event (t := 89) (p := 5) (v := ?vo8) (w1 := (((w6.setCell ⟨g5, 0, none⟩ (.int .i64 s.nc)).setCell ⟨g5, 1, none⟩ (.int .i64 s.ct)).setCell ⟨g5, 2, none⟩ (.map (some s.c)))) ?hg8 ?ho8 ?hn8 ?hr8 ?_; (case ho8 => rfl); (case hg8 => rfl); (case hn8 => rfl); (case hr8 => first | (go_simp; done) | (go_simp; rfl)); intro w7 hw; have HT6 := (((HT5.setAt 0 0 (.int .i64 s.nc) rfl).setAt 0 1 (.int .i64 s.ct) rfl).setAt 0 2 (.map (some s.c)) rfl); rw [← hw] at HT6; clear hw HT5 d0 d1 d2 f0 f1 f2; have d0 := HT6.cell 0 0 rfl rfl; have d1 := HT6.cell 0 1 rfl rfl; have d2 := HT6.cell 0 2 rfl rfl; have f0 := HT6.frozen 0 0 rfl; have f1 := HT6.frozen 0 1 rfl; have f2 := HT6.frozen 0 2 rfl; obtain ⟨es2, clock2, hb2, hm2⟩ := (HT6.poolGet 5 rfl List.mem_cons_self).2.2 s (List.mem_of_getElem? HI.out); have HM2 := Aside0.mk hm2; have HB2 := Aside0.mk hb2; clear hm2 hb2) | (go_at_call 52; refine (clone52 s.c es2 clock2 HB2.out).mono ?_; rintro e' w8 ⟨rfl, hw8⟩; have HT7 := HT6.newMapIs HM2.out; rw [← hw8] at HT7; generalize w7.heap.size = c' at HT7 ⊢; clear HT6 HB2 HM2 hw8 d0 d1 d2 f0 f1 f2; have d0 := HT7.cell 1 0 rfl rfl; have d1 := HT7.cell 1 1 rfl rfl; have d2 := HT7.cell 1 2 rfl rfl; have f0 := HT7.frozen 1 0 rfl; have f1 := HT7.frozen 1 1 rfl; have f2 := HT7.frozen 1 2 rfl) | ((with_reducible refine gate_store (t := 87) (p := 20) rfl ?_); refine store_event (t := 87) (p := 20) (v := ?vo9) (w1 := (w8.setCell ⟨g5, 2, none⟩ (.map (some c')))) ?hg9 ?ho9 ?hn9 ?hr9 ?_; (case ho9 => rfl); (case hg9 => rfl); (case hn9 => rfl); (case hr9 => first | (go_simp; done) | (go_simp; rfl)); intro w9 hw; have HT8 := (HT7.setAt 1 2 (.map (some c')) rfl); rw [← hw] at HT8; clear hw HT7 d0 d1 d2 f0 f1 f2))
      refine region (frees [0, 1, 2] (helds [3, 4, 5] (.last 6 .done))) (fun w' => w'.cell? ⟨g', 0, none⟩ = some (.map (some b')) ∧ w'.cell? ⟨g4, 0, none⟩ = some (.int .i64 s.key.1) ∧ w'.cell? ⟨g4, 1, none⟩ = some (.int .i64 s.key.2) ∧ w'.cell? ⟨g5, 0, none⟩ = some (.int .i64 s.nc) ∧ w'.cell? ⟨g5, 1, none⟩ = some (.int .i64 s.ct) ∧ w'.cell? ⟨g5, 2, none⟩ = some (.map (some c'))) [6] (by kernel_rfl) (by kernel_rfl) ?_
      have HT9 := HT8.drew
      generalize World.drew _ = w10 at HT9 ⊢
      clear HT8
      have k0 := HT9.cell 4 0 rfl rfl
      have k1 := HT9.cell 2 0 rfl rfl
      have k2 := HT9.cell 2 1 rfl rfl
      have k3 := HT9.cell 1 0 rfl rfl
      have k4 := HT9.cell 1 1 rfl rfl
      have k5 := HT9.cell 1 2 rfl rfl
      repeat (first | (refine st_free (v := ?_) (a' := ?_) (by simp only [List.getElem?_toArray, List.getElem?_cons_succ, List.getElem?_cons_zero]; rfl) (by rfl) ?_ ?_ ?_; rotate_left 2; (intro w'; go_simp; with_reducible rfl); (simp only [Act.put, List.setIfInBounds_toArray, List.set_cons_zero, List.set_cons_succ]; rfl)) | (refine st_held (v := ?_) (a' := ?_) ⟨k0, k1, k2, k3, k4, k5⟩ (by simp only [List.getElem?_toArray, List.getElem?_cons_succ, List.getElem?_cons_zero]; rfl) (by rfl) ?_ ?_ ?_; rotate_left 2; (rintro w' ⟨z0, z1, z2, z3, z4, z5⟩; go_simp; with_reducible rfl); (simp only [Act.put, List.setIfInBounds_toArray, List.set_cons_zero, List.set_cons_succ]; rfl)))
      clear k0 k1 k2 k3 k4 k5
      refine st_last (by simp only [List.getElem?_toArray, List.getElem?_cons_succ, List.getElem?_cons_zero]; rfl) ?_
      refine upd_event key86 Try.underlying81 rfl rfl (.tmp 24) (.tmp 25) (.tmp 26) rfl s.key (valS ⟨s.key, c', s.nc, s.ct, s.came⟩) rfl rfl rfl (HT9.pick 5 rfl) ?_
      intro w11 HU
      rw [put_grow ⟨s.key, c', s.nc, s.ct, s.came⟩ rfl (show lookS s.key τ = none from new_key (s := s) HNK.out HTT.out HI.out HNI.out)] at HU
      have HV : Sat w0 w11 (mapA encF b' ((τ ++ [(⟨s.key, c', s.nc, s.ct, s.came⟩ : GS)]).map encS) :: inner ⟨s.key, c', s.nc, s.ct, s.came⟩ :: blk r (.mapIter (some b) clock (seen.push e.born) clock) :: blk g' (.cells #[.map (some b')] 83 (0, 0)) :: pool [ZFe g b es clock σ] :: pool [PFs σ] :: (τ.map inner ++ L)) := (HU.dropAt 2).dropAt 2
      clear HT9 HU
      refine st_norm rfl ?_
      refine st_done ?_
      have HC := Aside0.mk (clone_step (s := s) (t := ⟨s.key, c', s.nc, s.ct, s.came⟩) HIN.out HLT.out HSEEN.out HTT.out HI.out HNI.out HEB.out rfl HV)
      have hm1 : (w11.iterSeen r).size = I.length + 1 := by
        have h1 : w11.iterSeen r = seen.push e.born := iter_size (HV.pick 2 rfl)
        have h2 := congrArg List.length HSEEN.out
        rw [h1, Array.size_push]
        simpa using h2
      have hm2 : (wr.iterSeen r).size = I.length := by
        have h2 := congrArg List.length HSEEN.out
        rw [HIT.out]
        simpa using h2
      have hm3 : I.length + 1 ≤ es.size := by
        have h1 := nodup_len es.size (I ++ [i]) (List.nodup_append.2 ⟨HIN.out, by simp, fun a ha b' hb' => by rw [List.mem_singleton.1 hb']; exact fun e => HNI.out (e ▸ ha)⟩) (fun k hk => by
          have hn1 : es.size = σ.length := by have := HESL.out; simpa using this
          rw [hn1]
          rcases List.mem_append.1 hk with hk | hk
          · exact HLT.out k hk
          · rw [List.mem_singleton.1 hk]; exact (List.getElem?_eq_some_iff.1 HI.out).1)
        simpa using h1
      go_wp2
      exact ⟨HC.out, by omega⟩

end Go.Proofs.Ytaojnbhnogndnaa.SL
/- The document's Add (majordomoref17), as rows: what a slot is behind each step. -/
namespace Go.Proofs.Ytaojnbhnogndnaa.SL
open Go.RowKit Go.Proofs.YtaojnbhnogndnaaW.PrintWords Go.Proofs.YtaojnbhnogndnaaW.PrintLast Go.Proofs.YtaojnbhnogndnaaW.PrintMore
set_option linter.unusedVariables false
set_option linter.unusedSimpArgs false

def freshR (kd nd nc ct : Int) : RS := ⟨none, 0, kd, nd, nc, ct, []⟩
/-- The slot behind the second step: a greater nonce begins anew. -/
def s2of (s : RS) (nc ct : Int) : RS := if s.nc < nc then freshR s.kd s.nd nc ct else s
def StepR (ρ ρ1 : List RS) (kd nd nc ct : Int) (j : Nat) (s : RS) : Prop :=
  ρ1[j]? = some s ∧ s.kd = kd ∧ s.nd = nd ∧ ((lookR (kd, nd) ρ = some (j, s) ∧ ρ1 = ρ) ∨ (lookR (kd, nd) ρ = none ∧ s = freshR kd nd nc ct ∧ ρ1 = ρ ++ [s]))
theorem StepR.old {ρ : List RS} {kd nd nc ct : Int} {j : Nat} {s : RS} (h : lookR (kd, nd) ρ = some (j, s)) : StepR ρ ρ kd nd nc ct j s := by
  obtain ⟨hj, hk⟩ := lookIn_at h
  exact ⟨hj, (Prod.mk.inj hk).1, (Prod.mk.inj hk).2, .inl ⟨h, rfl⟩⟩
theorem StepR.new {ρ : List RS} {kd nd nc ct : Int} (h : lookR (kd, nd) ρ = none) : StepR ρ (ρ ++ [freshR kd nd nc ct]) kd nd nc ct ρ.length (freshR kd nd nc ct) :=
  ⟨by simp, rfl, rfl, .inr ⟨h, rfl, rfl⟩⟩
theorem set_self {α : Type} {l : List α} {j : Nat} {a : α} (h : l[j]? = some a) : l.set j a = l := by
  apply List.ext_getElem?
  intro i
  rw [List.getElem?_set]
  by_cases hij : j = i
  · subst hij; rw [if_pos rfl, h, if_pos (List.getElem?_eq_some_iff.1 h).1]
  · rw [if_neg hij]
theorem StepR.step {ρ ρ1 : List RS} {kd nd nc ct : Int} {j : Nat} {s : RS} (h : StepR ρ ρ1 kd nd nc ct j s) :
    step1E (kd, nd) nc ct (rer ρ) = rer (ρ1.set j (s2of s nc ct)) ∧ lookE (kd, nd) (step1E (kd, nd) nc ct (rer ρ)) = some (j, rer1 (s2of s nc ct)) := by
  obtain ⟨hj, hk, hd, h⟩ := h
  rcases h with ⟨hl, rfl⟩ | ⟨hl, hs, hρ⟩
  · have hle : lookE (kd, nd) (rer ρ1) = some (j, rer1 s) := by rw [lookE_rer, hl]; rfl
    have hst : step1E (kd, nd) nc ct (rer ρ1) = if s.nc < nc then (rer ρ1).set j ((kd, nd), nc, ct, []) else rer ρ1 := by
      unfold step1E
      rw [hle]; rfl
    rw [hst]
    unfold s2of
    by_cases hn : s.nc < nc
    · rw [if_pos hn, if_pos hn]
      have he : rer1 (freshR s.kd s.nd nc ct) = ((kd, nd), nc, ct, []) := by rw [hk, hd]; rfl
      refine ⟨by unfold rer; rw [List.map_set, he], ?_⟩
      rw [he]
      have := lookIn_set (key := Prod.fst) (x := (kd, nd)) (((kd, nd), nc, ct, []) : ESlot) rfl (l := rer ρ1) (i := 0) (j := j) (a := rer1 s) (by rw [Nat.zero_add]; exact hle)
      rw [Nat.zero_add] at this
      exact this
    · rw [if_neg hn, if_neg hn]
      exact ⟨by rw [set_self hj], hle⟩
  · have hle : lookE (kd, nd) (rer ρ) = none := by rw [lookE_rer, hl]; rfl
    have hs2 : s2of s nc ct = s := by
      unfold s2of
      rw [if_neg (by rw [hs]; exact Int.lt_irrefl nc)]
    have hst : step1E (kd, nd) nc ct (rer ρ) = rer ρ ++ [((kd, nd), nc, ct, [])] := by
      unfold step1E
      rw [hle]
    have hr : rer ρ1 = rer ρ ++ [((kd, nd), nc, ct, [])] := by rw [hρ, hs]; unfold rer; rw [List.map_append]; rfl
    rw [hst, hs2, set_self hj]
    refine ⟨hr.symm, ?_⟩
    have hjl : j = ρ.length := by
      have h1 := (List.getElem?_eq_some_iff.1 hj).1
      rw [hρ] at hj h1
      rcases Nat.lt_or_ge j ρ.length with h2 | h2
      · exfalso
        rw [List.getElem?_append_left h2] at hj
        exact lookIn_none hl s (List.mem_of_getElem? hj) (by unfold RS.key; rw [hk, hd])
      · simp at h1; omega
    have := lookIn_app (key := Prod.fst) (x := (kd, nd)) (((kd, nd), nc, ct, []) : ESlot) rfl (l := rer ρ) (i := 0) hle
    rw [Nat.zero_add] at this
    rw [hs, hjl]
    have hlen : (rer ρ).length = ρ.length := by unfold rer; simp
    rw [hlen] at this
    exact this
theorem s2of_refuse {s : RS} {nc ix ct : Int} (h : refuse (rer1 (s2of s nc ct)) nc ix ct = true) : s2of s nc ct = s := by
  unfold s2of at h ⊢
  by_cases hn : s.nc < nc
  · rw [if_pos hn] at h
    exfalso
    unfold refuse rer1 freshR at h
    simp [lookP, lookIn] at h
  · rw [if_neg hn]
theorem StepR.refuse {ρ ρ1 : List RS} {kd nd nc ix ct : Int} {j : Nat} {s : RS} {bs : List Int} (h : StepR ρ ρ1 kd nd nc ct j s) (hok : okArg ix ct = true) (hr : SL.refuse (rer1 (s2of s nc ct)) nc ix ct = true) : addE (rer ρ) kd nd nc ix ct bs = (rer ρ1, none) := by
  obtain ⟨h1, h2⟩ := h.step
  rw [addE_at hok h2, if_pos hr, h1, s2of_refuse hr, set_self h.1]
theorem StepR.accept {ρ ρ1 : List RS} {kd nd nc ix ct : Int} {j : Nat} {s : RS} {bs : List Int} (h : StepR ρ ρ1 kd nd nc ct j s) (hok : okArg ix ct = true) (hr : SL.refuse (rer1 (s2of s nc ct)) nc ix ct = false) {s2 s3 : RS} (hs2 : s2 = s2of s nc ct) (h3 : rer1 s3 = ((s2.kd, s2.nd), s2.nc, s2.ct, s2.came.map rerF ++ [(ix, bs)])) :
    addE (rer ρ) kd nd nc ix ct bs = (rer (ρ1.set j s3), if ((s2.came.length + 1 : Nat) : Int) < s2.ct then none else some (catE s2.ct.toNat (s2.came.map rerF ++ [(ix, bs)]))) := by
  subst hs2
  obtain ⟨h1, h2⟩ := h.step
  rw [addE_at hok h2, if_neg (by rw [hr]; exact Bool.false_ne_true), h1]
  have e1 : (rer (ρ1.set j (s2of s nc ct))).set j (rer1 s3) = rer (ρ1.set j s3) := by
    unfold rer
    rw [List.map_set, List.map_set, List.set_set]
  rw [← e1, h3]
  have e2 : (rer1 (s2of s nc ct)).2.2.2.length = (s2of s nc ct).came.length := by unfold rer1; simp
  rw [e2]
  rfl
/-- The pieces with one number, one behind the other. -/
theorem pick_bytes (i : Int) : ∀ (cm : List (Int × List Int)), (cm.map Prod.fst).Nodup → (cm.flatMap fun p => if p.1 = i then p.2 else []) = bytesE i cm
  | [], _ => rfl
  | p :: cm, hn => by
    have hn' := List.nodup_cons.1 hn
    rw [List.flatMap_cons]
    unfold bytesE lookP lookIn
    by_cases h : i = p.1
    · rw [if_pos h.symm, if_pos h]
      have hz : (cm.flatMap fun q => if q.1 = i then q.2 else []) = [] := by
        rw [List.flatMap_eq_nil_iff]
        intro q hq
        have hne : q.1 ≠ i := fun e => hn'.1 (by rw [← h, ← e]; exact List.mem_map_of_mem hq)
        rw [if_neg hne]
      rw [hz, List.append_nil]
    · rw [if_neg (fun e => h e.symm), if_neg h, List.nil_append, pick_bytes i cm hn'.2]
      unfold bytesE lookP
      have hs : ∀ (l : List (Int × List Int)) (a b : Nat), (lookIn Prod.fst i a l).map Prod.snd = (lookIn Prod.fst i b l).map Prod.snd := by
        intro l
        induction l with
        | nil => intro a b; rfl
        | cons q l ih =>
          intro a b
          unfold lookIn
          split
          · rfl
          · exact ih _ _
      have h2 := hs cm 0 (0 + 1)
      cases h3 : lookIn Prod.fst i 0 cm <;> cases h4 : lookIn Prod.fst i (0 + 1) cm <;> rw [h3, h4] at h2 <;> simp at h2
      rename_i q1 q2
      obtain ⟨a1, b1⟩ := q1
      obtain ⟨a2, b2⟩ := q2
      have h5 : b1 = b2 := h2
      subst h5
      rfl
theorem lookP_snoc {i : Int} {l : List (Int × List Int)} (h : ∀ p ∈ l, p.1 ≠ i) : lookP i l = none := by
  cases hl : lookP i l with
  | none => rfl
  | some q =>
    obtain ⟨j, p⟩ := q
    obtain ⟨hj, hk⟩ := lookIn_at hl
    exact absurd hk (h p (List.mem_of_getElem? hj))
theorem lookP_here {i : Int} {l : List (Int × List Int)} {p : Int × List Int} (hp : p ∈ l) (h : p.1 = i) : (lookP i l).isSome = true := by
  cases hl : lookP i l with
  | some q => rfl
  | none => exact absurd h (lookIn_none hl p hp)
end Go.Proofs.Ytaojnbhnogndnaa.SL
/- The document's Add (majordomoref17): an argument that is none. -/
namespace Go.Proofs.Ytaojnbhnogndnaa.SL
open Go.RowKit Go.Proofs.YtaojnbhnogndnaaW.PrintWords Go.Proofs.YtaojnbhnogndnaaW.PrintLast Go.Proofs.YtaojnbhnogndnaaW.PrintMore
attribute [local go_sem] max2_int min2_int max_two min_two
attribute [local go_sem high] Small.cell_set_same
set_option linter.unusedVariables false
set_option linter.unusedSimpArgs false

def AddPostR (ρ : List RS) (kd nd nc ix ct : Int) (bs : List Int) (w0 : World) (g : Nat) (fs : List (World → Prop)) (L : List Asrt) (e : Ending) (w : World) : Prop :=
  ∃ (A' : Option Addr) (c' : Nat) (ρ' : List RS), rer ρ' = (addE (rer ρ) kd nd nc ix ct bs).1 ∧
    ((∃ ms v, (addE (rer ρ) kd nd nc ix ct bs).2 = some ms ∧ e = .returned (.tuple #[.agg #[.int .i64 kd, .int .i64 nd, .int .i64 nc, v], .bool true]) ∧ Sat w0 w (row kB 5 v ms :: rbx g A' c' ρ' :: pool (RP A' c' ρ' :: fs) :: L)) ∨
      ((addE (rer ρ) kd nd nc ix ct bs).2 = none ∧ e = zeroMsg ∧ Sat w0 w (rbx g A' c' ρ' :: pool (RP A' c' ρ' :: fs) :: L)))
/-! ### Add (majordomoref17): function 38, an argument that is none -/
set_option maxHeartbeats 4000000 in
set_option maxRecDepth 100000 in
theorem rAdd_bad {w0 w : World} {L : List Asrt} {fs : List (World → Prop)} (g : Nat) (Ay : Option Addr) (cy : Nat) (ρ : List RS) (kd nd nc ix ct : Int) (A : Option Addr) (m c : Nat) (bs : List Int) (hbad : okArg ix ct = false) (HS : Sat w0 w (rbx g Ay cy ρ :: pool (RP Ay cy ρ :: fs) :: L)) :
    Calls Try.prog 38 #[.pointer (some ⟨g, 0, none⟩), .agg #[.int .i64 kd, .int .i64 nd, .int .i64 nc, .int .i64 ix, .int .i64 ct, .slice A m c]] w (AddPostR ρ kd nd nc ix ct bs w0 g fs L) := by
  have hu24 := Try.underlying24
  have hu35 := Try.underlying35
  have HA := Aside0.mk (show addE (rer ρ) kd nd nc ix ct bs = (rer ρ, none) from by unfold addE; rw [if_neg (by rw [hbad]; exact Bool.false_ne_true)])
  have hor : ct < 1 ∨ 86 < ct ∨ ix < 0 ∨ ct ≤ ix := by
    unfold okArg at hbad
    simp only [Bool.and_eq_false_iff, decide_eq_false_iff_not] at hbad
    omega
  clear hbad
  by_cases c0 : ct < 1
  · have h1d : decide (ct < 1) = true := decide_eq_true (by omega)
    clear hor c0
    go_enter Try.func38, Try.ntmps38
    go_wp2_with (first | ((with_reducible refine gate_dst (N := 3) rfl ?_); refine box_event ?hg1 (N := 3) ?hd1 (cs := #[.int .i64 kd, .int .i64 nd, .int .i64 nc, .int .i64 ix, .int .i64 ct, .slice A m c]) (t := 35) ?hr1 ?_; (case hd1 => rfl); (case hg1 => rfl); (case hr1 => first | (go_simp; done) | (go_simp; rfl)); intro g3 hg w1 hbox hb; have HS1 := HS.box hg hbox hb; clear HS hg hbox hb) | ((with_reducible refine gate_dst (N := 4) rfl ?_); refine box_event ?hg2 (N := 4) ?hd2 (cs := #[.int .i64 0, .int .i64 0, .int .i64 0, .slice none 0 0]) (t := 24) ?hr2 ?_; (case hd2 => rfl); (case hg2 => rfl); (case hr2 => first | (go_simp; done) | (go_simp; rfl)); intro g4 hg w2 hbox hb; have HS2 := HS1.box hg hbox hb; clear HS1 hg hbox hb) | ((with_reducible refine gate_dst (N := 6) rfl ?_); refine box_event ?hg3 (N := 6) ?hd3 (cs := #[.int .i64 0, .int .i64 0, .int .i64 0, .slice none 0 0]) (t := 24) ?hr3 ?_; (case hd3 => rfl); (case hg3 => rfl); (case hr3 => first | (go_simp; done) | (go_simp; rfl)); intro g6 hg w3 hbox hb; have HS3 := HS2.box hg hbox hb; clear HS2 hg hbox hb; have d0 := HS3.cell 0 0 rfl rfl; have d1 := HS3.cell 0 1 rfl rfl; have d2 := HS3.cell 0 2 rfl rfl; have d3 := HS3.cell 0 3 rfl rfl; have f0 := HS3.frozen 0 0 rfl; have f1 := HS3.frozen 0 1 rfl; have f2 := HS3.frozen 0 2 rfl; have f3 := HS3.frozen 0 3 rfl) | ((with_reducible refine gate_store (t := 24) (p := 6) rfl ?_); refine store_event (t := 24) (p := 6) (v := ?vo4) (w1 := ((((w3.setCell ⟨g6, 0, none⟩ (.int .i64 0)).setCell ⟨g6, 1, none⟩ (.int .i64 0)).setCell ⟨g6, 2, none⟩ (.int .i64 0)).setCell ⟨g6, 3, none⟩ (.slice none 0 0))) ?hg4 ?ho4 ?hn4 ?hr4 ?_; (case ho4 => rfl); (case hg4 => rfl); (case hn4 => rfl); (case hr4 => first | (go_simp; done) | (go_simp; rfl)); intro w4 hw; have HS4 := ((((HS3.setAt 0 0 (.int .i64 0) rfl).setAt 0 1 (.int .i64 0) rfl).setAt 0 2 (.int .i64 0) rfl).setAt 0 3 (.slice none 0 0) rfl); rw [← hw] at HS4; clear hw HS3 d0 d1 d2 d3 f0 f1 f2 f3; have d3 := HS4.cell 2 3 rfl rfl; have d4 := HS4.cell 2 4 rfl rfl; have x0 := HS4.cell 0 0 rfl rfl; have x1 := HS4.cell 0 1 rfl rfl; have x2 := HS4.cell 0 2 rfl rfl; have x3 := HS4.cell 0 3 rfl rfl; have y0 := HS4.cell 1 0 rfl rfl; have y1 := HS4.cell 1 1 rfl rfl; have y2 := HS4.cell 1 2 rfl rfl; have y3 := HS4.cell 1 3 rfl rfl; have z0 := HS4.frozen 1 0 rfl; have z1 := HS4.frozen 1 1 rfl; have z2 := HS4.frozen 1 2 rfl; have z3 := HS4.frozen 1 3 rfl) | ((with_reducible refine gate_store (t := 24) (p := 4) rfl ?_); refine store_event (t := 24) (p := 4) (v := ?vo5) (w1 := ((((w4.setCell ⟨g4, 0, none⟩ (.int .i64 0)).setCell ⟨g4, 1, none⟩ (.int .i64 0)).setCell ⟨g4, 2, none⟩ (.int .i64 0)).setCell ⟨g4, 3, none⟩ (.slice none 0 0))) ?hg5 ?ho5 ?hn5 ?hr5 ?_; (case ho5 => rfl); (case hg5 => rfl); (case hn5 => rfl); (case hr5 => first | (go_simp; done) | (go_simp; rfl)); intro w5 hw; have HS5 := ((((HS4.setAt 1 0 (.int .i64 0) rfl).setAt 1 1 (.int .i64 0) rfl).setAt 1 2 (.int .i64 0) rfl).setAt 1 3 (.slice none 0 0) rfl); rw [← hw] at HS5; clear hw HS4 d3 d4 x0 x1 x2 x3 y0 y1 y2 y3 z0 z1 z2 z3))
    refine bodyPost_ret (results_ct rfl _ _ g4 24 #[.int .i64 0, .int .i64 0, .int .i64 0, .slice none 0 0] (0, 0) _ rfl (HS5.block 1 rfl).1 hu24 rfl rfl) rfl ⟨Ay, cy, ρ, by rw [HA.out], .inr ⟨by rw [HA.out], rfl, HS5.tail.tail.tail⟩⟩
  · by_cases c1 : 86 < ct
    · have h1d : decide (ct < 1) = false := decide_eq_false (by omega)
      have h2d : decide (86 < ct) = true := decide_eq_true (by omega)
      clear hor c0 c1
      go_enter Try.func38, Try.ntmps38
      go_wp2_with (first | ((with_reducible refine gate_dst (N := 3) rfl ?_); refine box_event ?hg1 (N := 3) ?hd1 (cs := #[.int .i64 kd, .int .i64 nd, .int .i64 nc, .int .i64 ix, .int .i64 ct, .slice A m c]) (t := 35) ?hr1 ?_; (case hd1 => rfl); (case hg1 => rfl); (case hr1 => first | (go_simp; done) | (go_simp; rfl)); intro g3 hg w1 hbox hb; have HS1 := HS.box hg hbox hb; clear HS hg hbox hb) | ((with_reducible refine gate_dst (N := 4) rfl ?_); refine box_event ?hg2 (N := 4) ?hd2 (cs := #[.int .i64 0, .int .i64 0, .int .i64 0, .slice none 0 0]) (t := 24) ?hr2 ?_; (case hd2 => rfl); (case hg2 => rfl); (case hr2 => first | (go_simp; done) | (go_simp; rfl)); intro g4 hg w2 hbox hb; have HS2 := HS1.box hg hbox hb; clear HS1 hg hbox hb) | ((with_reducible refine gate_dst (N := 6) rfl ?_); refine box_event ?hg3 (N := 6) ?hd3 (cs := #[.int .i64 0, .int .i64 0, .int .i64 0, .slice none 0 0]) (t := 24) ?hr3 ?_; (case hd3 => rfl); (case hg3 => rfl); (case hr3 => first | (go_simp; done) | (go_simp; rfl)); intro g6 hg w3 hbox hb; have HS3 := HS2.box hg hbox hb; clear HS2 hg hbox hb; have d0 := HS3.cell 0 0 rfl rfl; have d1 := HS3.cell 0 1 rfl rfl; have d2 := HS3.cell 0 2 rfl rfl; have d3 := HS3.cell 0 3 rfl rfl; have f0 := HS3.frozen 0 0 rfl; have f1 := HS3.frozen 0 1 rfl; have f2 := HS3.frozen 0 2 rfl; have f3 := HS3.frozen 0 3 rfl) | ((with_reducible refine gate_store (t := 24) (p := 6) rfl ?_); refine store_event (t := 24) (p := 6) (v := ?vo4) (w1 := ((((w3.setCell ⟨g6, 0, none⟩ (.int .i64 0)).setCell ⟨g6, 1, none⟩ (.int .i64 0)).setCell ⟨g6, 2, none⟩ (.int .i64 0)).setCell ⟨g6, 3, none⟩ (.slice none 0 0))) ?hg4 ?ho4 ?hn4 ?hr4 ?_; (case ho4 => rfl); (case hg4 => rfl); (case hn4 => rfl); (case hr4 => first | (go_simp; done) | (go_simp; rfl)); intro w4 hw; have HS4 := ((((HS3.setAt 0 0 (.int .i64 0) rfl).setAt 0 1 (.int .i64 0) rfl).setAt 0 2 (.int .i64 0) rfl).setAt 0 3 (.slice none 0 0) rfl); rw [← hw] at HS4; clear hw HS3 d0 d1 d2 d3 f0 f1 f2 f3; have d3 := HS4.cell 2 3 rfl rfl; have d4 := HS4.cell 2 4 rfl rfl; have x0 := HS4.cell 0 0 rfl rfl; have x1 := HS4.cell 0 1 rfl rfl; have x2 := HS4.cell 0 2 rfl rfl; have x3 := HS4.cell 0 3 rfl rfl; have y0 := HS4.cell 1 0 rfl rfl; have y1 := HS4.cell 1 1 rfl rfl; have y2 := HS4.cell 1 2 rfl rfl; have y3 := HS4.cell 1 3 rfl rfl; have z0 := HS4.frozen 1 0 rfl; have z1 := HS4.frozen 1 1 rfl; have z2 := HS4.frozen 1 2 rfl; have z3 := HS4.frozen 1 3 rfl) | ((with_reducible refine gate_store (t := 24) (p := 4) rfl ?_); refine store_event (t := 24) (p := 4) (v := ?vo5) (w1 := ((((w4.setCell ⟨g4, 0, none⟩ (.int .i64 0)).setCell ⟨g4, 1, none⟩ (.int .i64 0)).setCell ⟨g4, 2, none⟩ (.int .i64 0)).setCell ⟨g4, 3, none⟩ (.slice none 0 0))) ?hg5 ?ho5 ?hn5 ?hr5 ?_; (case ho5 => rfl); (case hg5 => rfl); (case hn5 => rfl); (case hr5 => first | (go_simp; done) | (go_simp; rfl)); intro w5 hw; have HS5 := ((((HS4.setAt 1 0 (.int .i64 0) rfl).setAt 1 1 (.int .i64 0) rfl).setAt 1 2 (.int .i64 0) rfl).setAt 1 3 (.slice none 0 0) rfl); rw [← hw] at HS5; clear hw HS4 d3 d4 x0 x1 x2 x3 y0 y1 y2 y3 z0 z1 z2 z3))
      refine bodyPost_ret (results_ct rfl _ _ g4 24 #[.int .i64 0, .int .i64 0, .int .i64 0, .slice none 0 0] (0, 0) _ rfl (HS5.block 1 rfl).1 hu24 rfl rfl) rfl ⟨Ay, cy, ρ, by rw [HA.out], .inr ⟨by rw [HA.out], rfl, HS5.tail.tail.tail⟩⟩
    · by_cases c2 : ix < 0
      · have h1d : decide (ct < 1) = false := decide_eq_false (by omega)
        have h2d : decide (86 < ct) = false := decide_eq_false (by omega)
        have h3d : decide (ix < 0) = true := decide_eq_true (by omega)
        clear hor c0 c1 c2
        go_enter Try.func38, Try.ntmps38
        go_wp2_with (first | ((with_reducible refine gate_dst (N := 3) rfl ?_); refine box_event ?hg1 (N := 3) ?hd1 (cs := #[.int .i64 kd, .int .i64 nd, .int .i64 nc, .int .i64 ix, .int .i64 ct, .slice A m c]) (t := 35) ?hr1 ?_; (case hd1 => rfl); (case hg1 => rfl); (case hr1 => first | (go_simp; done) | (go_simp; rfl)); intro g3 hg w1 hbox hb; have HS1 := HS.box hg hbox hb; clear HS hg hbox hb) | ((with_reducible refine gate_dst (N := 4) rfl ?_); refine box_event ?hg2 (N := 4) ?hd2 (cs := #[.int .i64 0, .int .i64 0, .int .i64 0, .slice none 0 0]) (t := 24) ?hr2 ?_; (case hd2 => rfl); (case hg2 => rfl); (case hr2 => first | (go_simp; done) | (go_simp; rfl)); intro g4 hg w2 hbox hb; have HS2 := HS1.box hg hbox hb; clear HS1 hg hbox hb) | ((with_reducible refine gate_dst (N := 6) rfl ?_); refine box_event ?hg3 (N := 6) ?hd3 (cs := #[.int .i64 0, .int .i64 0, .int .i64 0, .slice none 0 0]) (t := 24) ?hr3 ?_; (case hd3 => rfl); (case hg3 => rfl); (case hr3 => first | (go_simp; done) | (go_simp; rfl)); intro g6 hg w3 hbox hb; have HS3 := HS2.box hg hbox hb; clear HS2 hg hbox hb; have d0 := HS3.cell 0 0 rfl rfl; have d1 := HS3.cell 0 1 rfl rfl; have d2 := HS3.cell 0 2 rfl rfl; have d3 := HS3.cell 0 3 rfl rfl; have f0 := HS3.frozen 0 0 rfl; have f1 := HS3.frozen 0 1 rfl; have f2 := HS3.frozen 0 2 rfl; have f3 := HS3.frozen 0 3 rfl) | ((with_reducible refine gate_store (t := 24) (p := 6) rfl ?_); refine store_event (t := 24) (p := 6) (v := ?vo4) (w1 := ((((w3.setCell ⟨g6, 0, none⟩ (.int .i64 0)).setCell ⟨g6, 1, none⟩ (.int .i64 0)).setCell ⟨g6, 2, none⟩ (.int .i64 0)).setCell ⟨g6, 3, none⟩ (.slice none 0 0))) ?hg4 ?ho4 ?hn4 ?hr4 ?_; (case ho4 => rfl); (case hg4 => rfl); (case hn4 => rfl); (case hr4 => first | (go_simp; done) | (go_simp; rfl)); intro w4 hw; have HS4 := ((((HS3.setAt 0 0 (.int .i64 0) rfl).setAt 0 1 (.int .i64 0) rfl).setAt 0 2 (.int .i64 0) rfl).setAt 0 3 (.slice none 0 0) rfl); rw [← hw] at HS4; clear hw HS3 d0 d1 d2 d3 f0 f1 f2 f3; have d3 := HS4.cell 2 3 rfl rfl; have d4 := HS4.cell 2 4 rfl rfl; have x0 := HS4.cell 0 0 rfl rfl; have x1 := HS4.cell 0 1 rfl rfl; have x2 := HS4.cell 0 2 rfl rfl; have x3 := HS4.cell 0 3 rfl rfl; have y0 := HS4.cell 1 0 rfl rfl; have y1 := HS4.cell 1 1 rfl rfl; have y2 := HS4.cell 1 2 rfl rfl; have y3 := HS4.cell 1 3 rfl rfl; have z0 := HS4.frozen 1 0 rfl; have z1 := HS4.frozen 1 1 rfl; have z2 := HS4.frozen 1 2 rfl; have z3 := HS4.frozen 1 3 rfl) | ((with_reducible refine gate_store (t := 24) (p := 4) rfl ?_); refine store_event (t := 24) (p := 4) (v := ?vo5) (w1 := ((((w4.setCell ⟨g4, 0, none⟩ (.int .i64 0)).setCell ⟨g4, 1, none⟩ (.int .i64 0)).setCell ⟨g4, 2, none⟩ (.int .i64 0)).setCell ⟨g4, 3, none⟩ (.slice none 0 0))) ?hg5 ?ho5 ?hn5 ?hr5 ?_; (case ho5 => rfl); (case hg5 => rfl); (case hn5 => rfl); (case hr5 => first | (go_simp; done) | (go_simp; rfl)); intro w5 hw; have HS5 := ((((HS4.setAt 1 0 (.int .i64 0) rfl).setAt 1 1 (.int .i64 0) rfl).setAt 1 2 (.int .i64 0) rfl).setAt 1 3 (.slice none 0 0) rfl); rw [← hw] at HS5; clear hw HS4 d3 d4 x0 x1 x2 x3 y0 y1 y2 y3 z0 z1 z2 z3))
        refine bodyPost_ret (results_ct rfl _ _ g4 24 #[.int .i64 0, .int .i64 0, .int .i64 0, .slice none 0 0] (0, 0) _ rfl (HS5.block 1 rfl).1 hu24 rfl rfl) rfl ⟨Ay, cy, ρ, by rw [HA.out], .inr ⟨by rw [HA.out], rfl, HS5.tail.tail.tail⟩⟩
      · have h1d : decide (ct < 1) = false := decide_eq_false (by omega)
        have h2d : decide (86 < ct) = false := decide_eq_false (by omega)
        have h3d : decide (ix < 0) = false := decide_eq_false (by omega)
        have h4d : decide (ct ≤ ix) = true := decide_eq_true (by omega)
        clear hor c0 c1 c2
        go_enter Try.func38, Try.ntmps38
        go_wp2_with (first | ((with_reducible refine gate_dst (N := 3) rfl ?_); refine box_event ?hg1 (N := 3) ?hd1 (cs := #[.int .i64 kd, .int .i64 nd, .int .i64 nc, .int .i64 ix, .int .i64 ct, .slice A m c]) (t := 35) ?hr1 ?_; (case hd1 => rfl); (case hg1 => rfl); (case hr1 => first | (go_simp; done) | (go_simp; rfl)); intro g3 hg w1 hbox hb; have HS1 := HS.box hg hbox hb; clear HS hg hbox hb) | ((with_reducible refine gate_dst (N := 4) rfl ?_); refine box_event ?hg2 (N := 4) ?hd2 (cs := #[.int .i64 0, .int .i64 0, .int .i64 0, .slice none 0 0]) (t := 24) ?hr2 ?_; (case hd2 => rfl); (case hg2 => rfl); (case hr2 => first | (go_simp; done) | (go_simp; rfl)); intro g4 hg w2 hbox hb; have HS2 := HS1.box hg hbox hb; clear HS1 hg hbox hb) | ((with_reducible refine gate_dst (N := 6) rfl ?_); refine box_event ?hg3 (N := 6) ?hd3 (cs := #[.int .i64 0, .int .i64 0, .int .i64 0, .slice none 0 0]) (t := 24) ?hr3 ?_; (case hd3 => rfl); (case hg3 => rfl); (case hr3 => first | (go_simp; done) | (go_simp; rfl)); intro g6 hg w3 hbox hb; have HS3 := HS2.box hg hbox hb; clear HS2 hg hbox hb; have d0 := HS3.cell 0 0 rfl rfl; have d1 := HS3.cell 0 1 rfl rfl; have d2 := HS3.cell 0 2 rfl rfl; have d3 := HS3.cell 0 3 rfl rfl; have f0 := HS3.frozen 0 0 rfl; have f1 := HS3.frozen 0 1 rfl; have f2 := HS3.frozen 0 2 rfl; have f3 := HS3.frozen 0 3 rfl) | ((with_reducible refine gate_store (t := 24) (p := 6) rfl ?_); refine store_event (t := 24) (p := 6) (v := ?vo4) (w1 := ((((w3.setCell ⟨g6, 0, none⟩ (.int .i64 0)).setCell ⟨g6, 1, none⟩ (.int .i64 0)).setCell ⟨g6, 2, none⟩ (.int .i64 0)).setCell ⟨g6, 3, none⟩ (.slice none 0 0))) ?hg4 ?ho4 ?hn4 ?hr4 ?_; (case ho4 => rfl); (case hg4 => rfl); (case hn4 => rfl); (case hr4 => first | (go_simp; done) | (go_simp; rfl)); intro w4 hw; have HS4 := ((((HS3.setAt 0 0 (.int .i64 0) rfl).setAt 0 1 (.int .i64 0) rfl).setAt 0 2 (.int .i64 0) rfl).setAt 0 3 (.slice none 0 0) rfl); rw [← hw] at HS4; clear hw HS3 d0 d1 d2 d3 f0 f1 f2 f3; have d3 := HS4.cell 2 3 rfl rfl; have d4 := HS4.cell 2 4 rfl rfl; have x0 := HS4.cell 0 0 rfl rfl; have x1 := HS4.cell 0 1 rfl rfl; have x2 := HS4.cell 0 2 rfl rfl; have x3 := HS4.cell 0 3 rfl rfl; have y0 := HS4.cell 1 0 rfl rfl; have y1 := HS4.cell 1 1 rfl rfl; have y2 := HS4.cell 1 2 rfl rfl; have y3 := HS4.cell 1 3 rfl rfl; have z0 := HS4.frozen 1 0 rfl; have z1 := HS4.frozen 1 1 rfl; have z2 := HS4.frozen 1 2 rfl; have z3 := HS4.frozen 1 3 rfl) | ((with_reducible refine gate_store (t := 24) (p := 4) rfl ?_); refine store_event (t := 24) (p := 4) (v := ?vo5) (w1 := ((((w4.setCell ⟨g4, 0, none⟩ (.int .i64 0)).setCell ⟨g4, 1, none⟩ (.int .i64 0)).setCell ⟨g4, 2, none⟩ (.int .i64 0)).setCell ⟨g4, 3, none⟩ (.slice none 0 0))) ?hg5 ?ho5 ?hn5 ?hr5 ?_; (case ho5 => rfl); (case hg5 => rfl); (case hn5 => rfl); (case hr5 => first | (go_simp; done) | (go_simp; rfl)); intro w5 hw; have HS5 := ((((HS4.setAt 1 0 (.int .i64 0) rfl).setAt 1 1 (.int .i64 0) rfl).setAt 1 2 (.int .i64 0) rfl).setAt 1 3 (.slice none 0 0) rfl); rw [← hw] at HS5; clear hw HS4 d3 d4 x0 x1 x2 x3 y0 y1 y2 y3 z0 z1 z2 z3))
        refine bodyPost_ret (results_ct rfl _ _ g4 24 #[.int .i64 0, .int .i64 0, .int .i64 0, .slice none 0 0] (0, 0) _ rfl (HS5.block 1 rfl).1 hu24 rfl rfl) rfl ⟨Ay, cy, ρ, by rw [HA.out], .inr ⟨by rw [HA.out], rfl, HS5.tail.tail.tail⟩⟩

end Go.Proofs.Ytaojnbhnogndnaa.SL
