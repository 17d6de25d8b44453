/- Contracts of the document's net (majordomoref18): Clone, Deliver that fails. -/
import Derived.Test.YtaojnbhnogndnaaX13
namespace Go.Proofs.Ytaojnbhnogndnaa.SL
open Go.RowKit Go.Proofs.YtaojnbhnogndnaaW.PrintWords Go.Proofs.YtaojnbhnogndnaaW.PrintLast Go.Proofs.YtaojnbhnogndnaaW.PrintMore
attribute [local go_sem] max2_int min2_int max_two min_two
attribute [local go_sem high] Small.cell_set_same
set_option linter.unusedVariables false
set_option linter.unusedSimpArgs false

/-- A packet and where its bytes lie: their address, how many there is room for. -/
abbrev Zk : Type := (Option Addr × Nat) × (Int × List Int)
def encZ (z : Zk) : List Value := [.int .i64 z.2.1, .slice z.1.1 z.2.2.length z.1.2]
/-- The bytes of a packet read so. -/
def Tells (w : World) (z : Zk) : Prop := z.2.2.length ≤ z.1.2 ∧ kB.C w z.1.1 z.2.2.length z.2.2
/-- A row of packets reads so. -/
def PF (A : Option Addr) (c : Nat) (zs : List Zk) : World → Prop := fun w => zs.length ≤ c ∧ (Kd.raw 2).C w A zs.length (zs.map encZ) ∧ ∀ z ∈ zs, Tells w z
theorem raw_at {w : World} {A : Option Addr} {n : Nat} {zs : List Zk} (hr : (Kd.raw 2).C w A n (zs.map encZ)) (i : Nat) (hi : i < n) (z0 : Zk) :
    ∃ ad b o, A = some ad ∧ ad.add (i * 2) = ⟨b, o, none⟩ ∧ w.cell? ⟨b, o, none⟩ = some (.int .i64 (zs.getD i z0).2.1) ∧ w.cell? ⟨b, o + 1, none⟩ = some (.slice (zs.getD i z0).1.1 (zs.getD i z0).2.2.length (zs.getD i z0).1.2) := by
  obtain ⟨ad, c, e, _, hK, hc⟩ := Kd.C_get hr (encZ z0) (i : Int) (by omega) (by omega)
  simp only [Int.toNat_natCast] at hK hc
  have hg : (zs.map encZ).getD i (encZ z0) = encZ (zs.getD i z0) := by
    simp only [List.getD_eq_getElem?_getD, List.getElem?_map]
    cases zs[i]? <;> rfl
  rw [hg] at hK
  obtain ⟨rfl, _, _⟩ := hK
  have c0 := hc 0 _ rfl
  have c1 := hc 1 _ rfl
  have h0 : ad.add (i * 2) = ⟨(ad.add (i * 2)).block, (ad.add (i * 2)).off, none⟩ := spot_none c0
  refine ⟨ad, (ad.add (i * 2)).block, (ad.add (i * 2)).off, e, h0, ?_, ?_⟩
  · rw [← h0]; exact c0
  · rw [← add_at h0]; exact c1
/-- The reference's bag at block g. -/
def rbk (g : Nat) (A : Option Addr) (c : Nat) (zs : List Zk) : Asrt := blk g (.cells #[.slice A zs.length c] 63 (0, 0))
def ys1 (zs : List Zk) (i : Nat) : List (List Value) := (zs.take i).map encZ
def ys2 (zs : List Zk) (i : Nat) : List (List Value) := (zs.drop (i + 1)).map encZ
def erz (zs : List Zk) (i : Nat) : List (List Value) := (zs.eraseIdx i).map encZ

/-! ### Clone (majordomoref18): function 31 -/
theorem rClone_calls {w0 w : World} {L : List Asrt} (g : Nat) (A : Option Addr) (c : Nat) (zs : List Zk) (HS : Sat w0 w (rbk g A c zs :: L)) :
    Calls Try.prog 31 #[.pointer (some ⟨g, 0, none⟩)] w fun e w' => ∃ g' : Nat, e = .returned (.pointer (some ⟨g', 0, none⟩)) ∧ Sat w0 w' (rbk g' A c zs :: rbk g A c zs :: L) := by
  have hu63 := Try.underlying63
  have c0 : w.cell? ⟨g, 0, none⟩ = some (.slice A zs.length c) := HS.cell 0 0 rfl rfl
  go_enter Try.func31, Try.ntmps31
  go_wp2_with (first | ((with_reducible refine gate_dst (N := 8) rfl ?_); refine box_event ?hg1 (N := 8) ?hd1 (cs := #[.slice A zs.length c]) (t := 63) ?hr1 ?_; (case hd1 => rfl); (case hg1 => rfl); (case hr1 => first | (go_simp; done) | (go_simp; rfl)); intro g' hg w1 hbox hb; have HS1 := HS.box hg hbox hb; clear HS hg hbox hb c0))
  go_ret
  exact ⟨g', rfl, HS1⟩

/-! ### Deliver (majordomoref18): function 33 -/
set_option maxRecDepth 100000 in
theorem rDeliver_no {w0 w : World} {L : List Asrt} (g : Nat) (A : Option Addr) (c : Nat) (zs : List Zk) (i : Int) (hi : i < 0 ∨ (zs.length : Int) ≤ i) (HS : Sat w0 w (rbk g A c zs :: L)) :
    Calls Try.prog 33 #[.pointer (some ⟨g, 0, none⟩), .int .i64 i] w fun e w' => e = .returned (.tuple #[.agg #[.int .i64 0, .slice none 0 0], .int .i64 1]) ∧ Sat w0 w' (rbk g A c zs :: L) := by
  have hu52 := Try.underlying52
  by_cases h0 : i < 0
  · have hd : decide (i < 0) = true := decide_eq_true h0
    go_enter Try.func33, Try.ntmps33
    go_wp2_with (first | ((with_reducible refine gate_dst (N := 4) rfl ?_); refine box_event ?hg6 (N := 4) ?hd6 (cs := #[.int .i64 0, .slice none 0 0]) (t := 52) ?hr6 ?_; (case hd6 => rfl); (case hg6 => rfl); (case hr6 => first | (go_simp; done) | (go_simp; rfl)); intro g4 hg w1 hbox hb; have HS1 := HS.box hg hbox hb; clear HS hg hbox hb; have d0 := HS1.cell 0 0 rfl rfl; have d1 := HS1.cell 0 1 rfl rfl; have f0 := HS1.frozen 0 0 rfl; have f1 := HS1.frozen 0 1 rfl) | ((with_reducible refine gate_store (t := 52) (p := 4) rfl ?_); refine store_event (t := 52) (p := 4) (v := ?vo7) (w1 := ((w1.setCell ⟨g4, 0, none⟩ (.int .i64 0)).setCell ⟨g4, 1, none⟩ (.slice none 0 0))) ?hg7 ?ho7 ?hn7 ?hr7 ?_; (case ho7 => rfl); (case hg7 => rfl); (case hn7 => rfl); (case hr7 => first | (go_simp; done) | (go_simp; rfl)); intro w2 hw; have HS2 := ((HS1.setAt 0 0 (.int .i64 0) rfl).setAt 0 1 (.slice none 0 0) rfl); rw [← hw] at HS2; clear hw HS1 d0 d1 f0 f1))
    refine bodyPost_ret (results_ct rfl _ _ g4 52 #[.int .i64 0, .slice none 0 0] (0, 0) _ rfl (HS2.block 0 rfl).1 hu52 rfl rfl) rfl ⟨rfl, HS2.tail⟩
  · have hd : decide (i < 0) = false := decide_eq_false h0
    have hd2 : decide ((zs.length : Int) ≤ i) = true := decide_eq_true (by omega)
    have c0 : w.cell? ⟨g, 0, none⟩ = some (.slice A zs.length c) := HS.cell 0 0 rfl rfl
    go_enter Try.func33, Try.ntmps33
    go_wp2_with (first | ((with_reducible refine gate_dst (N := 4) rfl ?_); refine box_event ?hg8 (N := 4) ?hd8 (cs := #[.int .i64 0, .slice none 0 0]) (t := 52) ?hr8 ?_; (case hd8 => rfl); (case hg8 => rfl); (case hr8 => first | (go_simp; done) | (go_simp; rfl)); intro g4 hg w1 hbox hb; have HS1 := HS.box hg hbox hb; clear HS hg hbox hb c0; have d0 := HS1.cell 0 0 rfl rfl; have d1 := HS1.cell 0 1 rfl rfl; have f0 := HS1.frozen 0 0 rfl; have f1 := HS1.frozen 0 1 rfl; have c0 : w1.cell? ⟨g, 0, none⟩ = some (.slice A zs.length c) := HS1.cell 1 0 rfl rfl) | ((with_reducible refine gate_store (t := 52) (p := 4) rfl ?_); refine store_event (t := 52) (p := 4) (v := ?vo9) (w1 := ((w1.setCell ⟨g4, 0, none⟩ (.int .i64 0)).setCell ⟨g4, 1, none⟩ (.slice none 0 0))) ?hg9 ?ho9 ?hn9 ?hr9 ?_; (case ho9 => rfl); (case hg9 => rfl); (case hn9 => rfl); (case hr9 => first | (go_simp; done) | (go_simp; rfl)); intro w2 hw; have HS2 := ((HS1.setAt 0 0 (.int .i64 0) rfl).setAt 0 1 (.slice none 0 0) rfl); rw [← hw] at HS2; clear hw HS1 d0 d1 f0 f1))
    refine bodyPost_ret (results_ct rfl _ _ g4 52 #[.int .i64 0, .slice none 0 0] (0, 0) _ rfl (HS2.block 0 rfl).1 hu52 rfl rfl) rfl ⟨rfl, HS2.tail⟩

end Go.Proofs.Ytaojnbhnogndnaa.SL
