/- The law WireUnlike. -/
import Derived.Test.YtaojnbhnogndnaaY22
namespace Go.Proofs.Ytaojnbhnogndnaa.SL
open Go.RowKit Go.Proofs.YtaojnbhnogndnaaW.PrintWords Go.Proofs.YtaojnbhnogndnaaW.PrintLast Go.Proofs.YtaojnbhnogndnaaW.PrintMore
attribute [local go_sem] max2_int min2_int max_two min_two
attribute [local go_sem high] Small.cell_set_same
set_option linter.unusedVariables false
set_option linter.unusedSimpArgs false

/-- Two frames that are the same are of messages that are alike at that place. -/
theorem frame_like {kda nda nca kdb ndb ncb : Int} {xsa xsb : List Int} {i k : Nat} (ha : PW16.cutE kda nda nca xsa = 0) (hb : PW16.cutE kdb ndb ncb xsb = 0) (hi : i < PW16.cutN xsa.length) (hk : k < PW16.cutN xsb.length) (h : PW16.frameOf kda nda nca xsa i = PW16.frameOf kdb ndb ncb xsb k) :
    kda = kdb ∧ nda = ndb ∧ nca = ncb ∧ i = k ∧ PW16.cutN xsa.length = PW16.cutN xsb.length ∧ PW16.piece xsb k = PW16.piece xsa i := by
  obtain ⟨hh1, hl1, _⟩ := cutE_zero ha
  obtain ⟨hh2, hl2, _⟩ := cutE_zero hb
  obtain ⟨_, a1, a2, a3, a4, a5, a6, _⟩ := frameOf_reads kda nda nca xsa hh1 hl1 i hi
  obtain ⟨_, b1, b2, b3, b4, b5, b6, _⟩ := frameOf_reads kdb ndb ncb xsb hh2 hl2 k hk
  rw [h] at a1 a2 a3 a4 a5 a6
  refine ⟨a1.symm.trans b1, a2.symm.trans b2, a3.symm.trans b3, ?_, ?_, b6.symm.trans a6⟩
  · have := b4.symm.trans a4; omega
  · have := b5.symm.trans a5; omega
theorem piece_cut (xs : List Int) (i m : Nat) (hm : m = min xs.length (i * 48 + 48)) : (xs.take m).drop (i * 48) = PW16.piece xs i := by
  subst hm; exact PW16.piece_eq xs i
/-! ### WireUnlike: function 14 -/
set_option maxHeartbeats 8000000 in
set_option maxRecDepth 100000 in
theorem WireUnlike_nn {w : World} (kda nda nca : Int) (Ma : Option Addr) (ca : Nat) (xsa : List Int) (kdb ndb ncb : Int) (Mb : Option Addr) (cb : Nat) (xsb : List Int) (tt : Int) (eca : Int) (heca : PW16.cutE kda nda nca xsa = eca) (hz0a : eca ≠ 0) (ecb : Int) (hecb : PW16.cutE kdb ndb ncb xsb = ecb) (hz0b : ecb ≠ 0)  (hra : kB.C w Ma xsa.length xsa) (hca0 : xsa.length ≤ ca) (hxa : ∀ x ∈ xsa, 0 ≤ x ∧ x < 256) (hrb : kB.C w Mb xsb.length xsb) (hcb0 : xsb.length ≤ cb) (hxb : ∀ x ∈ xsb, 0 ≤ x ∧ x < 256) (ht : -9223372036854775808 ≤ tt ∧ tt ≤ 9223372036854775807) :
    Calls Try.prog 14 #[.agg #[.int .i64 kda, .int .i64 nda, .int .i64 nca, .slice Ma xsa.length ca], .agg #[.int .i64 kdb, .int .i64 ndb, .int .i64 ncb, .slice Mb xsb.length cb], .int .i64 tt] w fun e w' => e = .returned (.bool true) ∧ Below w.heap.size w w' := by
  have hu24 := Try.underlying24
  have hu35 := Try.underlying35
  have HS := Sat.start w
  have HRa := Aside0.mk hra
  have HXa := Aside0.mk hxa
  clear hra hxa
  obtain ⟨lena, hlena⟩ : ∃ len, len = xsa.length := ⟨_, rfl⟩
  rw [← hlena] at HRa ⊢
  have hca : lena ≤ ca := by omega
  have HLENa := Aside0.mk hlena
  clear hca0
  have HRb := Aside0.mk hrb
  have HXb := Aside0.mk hxb
  clear hrb hxb
  obtain ⟨lenb, hlenb⟩ : ∃ len, len = xsb.length := ⟨_, rfl⟩
  rw [← hlenb] at HRb ⊢
  have hcb : lenb ≤ cb := by omega
  have HLENb := Aside0.mk hlenb
  clear hcb0
  clear hlena hlenb
  have HECa := Aside0.mk heca
  have hz1a : (eca == 0) = false := by simpa using hz0a
  have hz2a : (eca != 0) = true := by simpa using hz0a
  have HECb := Aside0.mk hecb
  have hz1b : (ecb == 0) = false := by simpa using hz0b
  have hz2b : (ecb != 0) = true := by simpa using hz0b
  clear heca hecb
  go_enter Try.func14, Try.ntmps14
  go_wp2_with (first | ((with_reducible refine gate_dst (N := 3) rfl ?_); refine box_event ?hg1 (N := 3) ?hd1 (cs := #[.int .i64 kda, .int .i64 nda, .int .i64 nca, .slice Ma lena ca]) (t := 24) ?hr1 ?_; (case hd1 => rfl); (case hg1 => rfl); (case hr1 => first | (go_simp; done) | (go_simp; rfl)); intro g3 hg w1 hbox hb; have HS1 := HS.box hg hbox hb; clear HS hg hbox hb) | ((with_reducible refine gate_dst (N := 4) rfl ?_); refine box_event ?hg2 (N := 4) ?hd2 (cs := #[.int .i64 kdb, .int .i64 ndb, .int .i64 ncb, .slice Mb lenb cb]) (t := 24) ?hr2 ?_; (case hd2 => rfl); (case hg2 => rfl); (case hr2 => first | (go_simp; done) | (go_simp; rfl)); intro g4 hg w2 hbox hb; have HS2 := HS1.box hg hbox hb; clear HS1 hg hbox hb) | (go_at_call 41; refine shown16_calls.mono ?_; rintro e w3 ⟨rfl, HH⟩; have HS3 := HS2.frame HH; clear HS2 HH; have m0 := HS3.cell 1 0 rfl rfl; have m1 := HS3.cell 1 1 rfl rfl; have m2 := HS3.cell 1 2 rfl rfl; have m3 := HS3.cell 1 3 rfl rfl) | (have hgd := HS3; clear hgd; go_at_call 42; refine (cut42_no kda nda nca Ma lena ca xsa eca HECa.out hz0a (Kd.C_below HRa.out HS3.below) hca).mono ?_; rintro e w4 ⟨Afa, cfa, rfl, HH⟩; have HS4 := HS3.frame HH; clear HS3 HH; clear m0 m1 m2 m3; have q0 := HS4.cell 0 0 rfl rfl; have q1 := HS4.cell 0 1 rfl rfl; have q2 := HS4.cell 0 2 rfl rfl; have q3 := HS4.cell 0 3 rfl rfl) | (have hgd := HS4; clear hgd; go_at_call 42; refine (cut42_no kdb ndb ncb Mb lenb cb xsb ecb HECb.out hz0b (Kd.C_below HRb.out HS4.below) hcb).mono ?_; rintro e w5 ⟨Afb, cfb, rfl, HH⟩; have HS5 := HS4.frame HH; clear HS4 HH; clear q0 q1 q2 q3))
  go_ret
  exact ⟨rfl, HS5.below⟩
set_option maxHeartbeats 8000000 in
set_option maxRecDepth 100000 in
theorem WireUnlike_ny {w : World} (kda nda nca : Int) (Ma : Option Addr) (ca : Nat) (xsa : List Int) (kdb ndb ncb : Int) (Mb : Option Addr) (cb : Nat) (xsb : List Int) (tt : Int) (eca : Int) (heca : PW16.cutE kda nda nca xsa = eca) (hz0a : eca ≠ 0) (hecb : PW16.cutE kdb ndb ncb xsb = 0)  (hra : kB.C w Ma xsa.length xsa) (hca0 : xsa.length ≤ ca) (hxa : ∀ x ∈ xsa, 0 ≤ x ∧ x < 256) (hrb : kB.C w Mb xsb.length xsb) (hcb0 : xsb.length ≤ cb) (hxb : ∀ x ∈ xsb, 0 ≤ x ∧ x < 256) (ht : -9223372036854775808 ≤ tt ∧ tt ≤ 9223372036854775807) :
    Calls Try.prog 14 #[.agg #[.int .i64 kda, .int .i64 nda, .int .i64 nca, .slice Ma xsa.length ca], .agg #[.int .i64 kdb, .int .i64 ndb, .int .i64 ncb, .slice Mb xsb.length cb], .int .i64 tt] w fun e w' => e = .returned (.bool true) ∧ Below w.heap.size w w' := by
  have hu24 := Try.underlying24
  have hu35 := Try.underlying35
  have HS := Sat.start w
  have HRa := Aside0.mk hra
  have HXa := Aside0.mk hxa
  clear hra hxa
  obtain ⟨lena, hlena⟩ : ∃ len, len = xsa.length := ⟨_, rfl⟩
  rw [← hlena] at HRa ⊢
  have hca : lena ≤ ca := by omega
  have HLENa := Aside0.mk hlena
  clear hca0
  have HRb := Aside0.mk hrb
  have HXb := Aside0.mk hxb
  clear hrb hxb
  obtain ⟨lenb, hlenb⟩ : ∃ len, len = xsb.length := ⟨_, rfl⟩
  rw [← hlenb] at HRb ⊢
  have hcb : lenb ≤ cb := by omega
  have HLENb := Aside0.mk hlenb
  clear hcb0
  clear hlena hlenb
  have HECa := Aside0.mk heca
  have hz1a : (eca == 0) = false := by simpa using hz0a
  have hz2a : (eca != 0) = true := by simpa using hz0a
  have HCEb := Aside0.mk hecb
  obtain ⟨nb, hnb⟩ : ∃ n, n = PW16.cutN xsb.length := ⟨_, rfl⟩
  have HNb := Aside0.mk hnb
  clear hnb
  clear heca hecb
  go_enter Try.func14, Try.ntmps14
  go_wp2_with (first | ((with_reducible refine gate_dst (N := 3) rfl ?_); refine box_event ?hg3 (N := 3) ?hd3 (cs := #[.int .i64 kda, .int .i64 nda, .int .i64 nca, .slice Ma lena ca]) (t := 24) ?hr3 ?_; (case hd3 => rfl); (case hg3 => rfl); (case hr3 => first | (go_simp; done) | (go_simp; rfl)); intro g3 hg w1 hbox hb; have HS1 := HS.box hg hbox hb; clear HS hg hbox hb) | ((with_reducible refine gate_dst (N := 4) rfl ?_); refine box_event ?hg4 (N := 4) ?hd4 (cs := #[.int .i64 kdb, .int .i64 ndb, .int .i64 ncb, .slice Mb lenb cb]) (t := 24) ?hr4 ?_; (case hd4 => rfl); (case hg4 => rfl); (case hr4 => first | (go_simp; done) | (go_simp; rfl)); intro g4 hg w2 hbox hb; have HS2 := HS1.box hg hbox hb; clear HS1 hg hbox hb) | (go_at_call 41; refine shown16_calls.mono ?_; rintro e w3 ⟨rfl, HH⟩; have HS3 := HS2.frame HH; clear HS2 HH; have m0 := HS3.cell 1 0 rfl rfl; have m1 := HS3.cell 1 1 rfl rfl; have m2 := HS3.cell 1 2 rfl rfl; have m3 := HS3.cell 1 3 rfl rfl) | (have hgd := HS3; clear hgd; go_at_call 42; refine (cut42_no kda nda nca Ma lena ca xsa eca HECa.out hz0a (Kd.C_below HRa.out HS3.below) hca).mono ?_; rintro e w4 ⟨Afa, cfa, rfl, HH⟩; have HS4 := HS3.frame HH; clear HS3 HH; clear m0 m1 m2 m3; have q0 := HS4.cell 0 0 rfl rfl; have q1 := HS4.cell 0 1 rfl rfl; have q2 := HS4.cell 0 2 rfl rfl; have q3 := HS4.cell 0 3 rfl rfl) | (have hgd := HS4; clear hgd; go_at_call 42; refine (cut42_ok kdb ndb ncb Mb lenb cb xsb nb HCEb.out HNb.out (Kd.C_below HRb.out HS4.below) hcb).mono ?_; rintro e w5 ⟨bb, ob, cfb, rfl, HH⟩; have HS5 := HS4.frame HH; clear HS4 HH; clear q0 q1 q2 q3))
  go_ret
  exact ⟨rfl, HS5.below⟩
set_option maxHeartbeats 8000000 in
set_option maxRecDepth 100000 in
theorem WireUnlike_yn {w : World} (kda nda nca : Int) (Ma : Option Addr) (ca : Nat) (xsa : List Int) (kdb ndb ncb : Int) (Mb : Option Addr) (cb : Nat) (xsb : List Int) (tt : Int) (heca : PW16.cutE kda nda nca xsa = 0) (ecb : Int) (hecb : PW16.cutE kdb ndb ncb xsb = ecb) (hz0b : ecb ≠ 0)  (hra : kB.C w Ma xsa.length xsa) (hca0 : xsa.length ≤ ca) (hxa : ∀ x ∈ xsa, 0 ≤ x ∧ x < 256) (hrb : kB.C w Mb xsb.length xsb) (hcb0 : xsb.length ≤ cb) (hxb : ∀ x ∈ xsb, 0 ≤ x ∧ x < 256) (ht : -9223372036854775808 ≤ tt ∧ tt ≤ 9223372036854775807) :
    Calls Try.prog 14 #[.agg #[.int .i64 kda, .int .i64 nda, .int .i64 nca, .slice Ma xsa.length ca], .agg #[.int .i64 kdb, .int .i64 ndb, .int .i64 ncb, .slice Mb xsb.length cb], .int .i64 tt] w fun e w' => e = .returned (.bool true) ∧ Below w.heap.size w w' := by
  have hu24 := Try.underlying24
  have hu35 := Try.underlying35
  have HS := Sat.start w
  have HRa := Aside0.mk hra
  have HXa := Aside0.mk hxa
  clear hra hxa
  obtain ⟨lena, hlena⟩ : ∃ len, len = xsa.length := ⟨_, rfl⟩
  rw [← hlena] at HRa ⊢
  have hca : lena ≤ ca := by omega
  have HLENa := Aside0.mk hlena
  clear hca0
  have HRb := Aside0.mk hrb
  have HXb := Aside0.mk hxb
  clear hrb hxb
  obtain ⟨lenb, hlenb⟩ : ∃ len, len = xsb.length := ⟨_, rfl⟩
  rw [← hlenb] at HRb ⊢
  have hcb : lenb ≤ cb := by omega
  have HLENb := Aside0.mk hlenb
  clear hcb0
  clear hlena hlenb
  have HCEa := Aside0.mk heca
  obtain ⟨na, hna⟩ : ∃ n, n = PW16.cutN xsa.length := ⟨_, rfl⟩
  have HNa := Aside0.mk hna
  clear hna
  have HECb := Aside0.mk hecb
  have hz1b : (ecb == 0) = false := by simpa using hz0b
  have hz2b : (ecb != 0) = true := by simpa using hz0b
  clear heca hecb
  go_enter Try.func14, Try.ntmps14
  go_wp2_with (first | ((with_reducible refine gate_dst (N := 3) rfl ?_); refine box_event ?hg5 (N := 3) ?hd5 (cs := #[.int .i64 kda, .int .i64 nda, .int .i64 nca, .slice Ma lena ca]) (t := 24) ?hr5 ?_; (case hd5 => rfl); (case hg5 => rfl); (case hr5 => first | (go_simp; done) | (go_simp; rfl)); intro g3 hg w1 hbox hb; have HS1 := HS.box hg hbox hb; clear HS hg hbox hb) | ((with_reducible refine gate_dst (N := 4) rfl ?_); refine box_event ?hg6 (N := 4) ?hd6 (cs := #[.int .i64 kdb, .int .i64 ndb, .int .i64 ncb, .slice Mb lenb cb]) (t := 24) ?hr6 ?_; (case hd6 => rfl); (case hg6 => rfl); (case hr6 => first | (go_simp; done) | (go_simp; rfl)); intro g4 hg w2 hbox hb; have HS2 := HS1.box hg hbox hb; clear HS1 hg hbox hb) | (go_at_call 41; refine shown16_calls.mono ?_; rintro e w3 ⟨rfl, HH⟩; have HS3 := HS2.frame HH; clear HS2 HH; have m0 := HS3.cell 1 0 rfl rfl; have m1 := HS3.cell 1 1 rfl rfl; have m2 := HS3.cell 1 2 rfl rfl; have m3 := HS3.cell 1 3 rfl rfl) | (have hgd := HS3; clear hgd; go_at_call 42; refine (cut42_ok kda nda nca Ma lena ca xsa na HCEa.out HNa.out (Kd.C_below HRa.out HS3.below) hca).mono ?_; rintro e w4 ⟨ba, oa, cfa, rfl, HH⟩; have HS4 := HS3.frame HH; clear HS3 HH; clear m0 m1 m2 m3; have q0 := HS4.cell 1 0 rfl rfl; have q1 := HS4.cell 1 1 rfl rfl; have q2 := HS4.cell 1 2 rfl rfl; have q3 := HS4.cell 1 3 rfl rfl) | (have hgd := HS4; clear hgd; go_at_call 42; refine (cut42_no kdb ndb ncb Mb lenb cb xsb ecb HECb.out hz0b (Kd.C_below HRb.out HS4.below) hcb).mono ?_; rintro e w5 ⟨Afb, cfb, rfl, HH⟩; have HS5 := HS4.frame HH; clear HS4 HH; clear q0 q1 q2 q3))
  go_ret
  exact ⟨rfl, HS5.below⟩
set_option maxHeartbeats 16000000 in
set_option maxRecDepth 100000 in
theorem WireUnlike_yy {w : World} (kda nda nca : Int) (Ma : Option Addr) (ca : Nat) (xsa : List Int) (kdb ndb ncb : Int) (Mb : Option Addr) (cb : Nat) (xsb : List Int) (tt : Int) (heca : PW16.cutE kda nda nca xsa = 0) (hecb : PW16.cutE kdb ndb ncb xsb = 0) (hra : kB.C w Ma xsa.length xsa) (hca0 : xsa.length ≤ ca) (hxa : ∀ x ∈ xsa, 0 ≤ x ∧ x < 256) (hrb : kB.C w Mb xsb.length xsb) (hcb0 : xsb.length ≤ cb) (hxb : ∀ x ∈ xsb, 0 ≤ x ∧ x < 256) (ht : -9223372036854775808 ≤ tt ∧ tt ≤ 9223372036854775807) :
    Calls Try.prog 14 #[.agg #[.int .i64 kda, .int .i64 nda, .int .i64 nca, .slice Ma xsa.length ca], .agg #[.int .i64 kdb, .int .i64 ndb, .int .i64 ncb, .slice Mb xsb.length cb], .int .i64 tt] w fun e w' => e = .returned (.bool true) ∧ Below w.heap.size w w' := by
  obtain ⟨hha, hla, _⟩ := cutE_zero heca
  obtain ⟨hhb, hlb, _⟩ := cutE_zero hecb
  have hu24 := Try.underlying24
  have hu35 := Try.underlying35
  have HS := Sat.start w
  have HRa := Aside0.mk hra
  have HXa := Aside0.mk hxa
  clear hra hxa
  obtain ⟨lena, hlena⟩ : ∃ len, len = xsa.length := ⟨_, rfl⟩
  rw [← hlena] at HRa ⊢
  have hca : lena ≤ ca := by omega
  have HLENa := Aside0.mk hlena
  clear hca0
  have HRb := Aside0.mk hrb
  have HXb := Aside0.mk hxb
  clear hrb hxb
  obtain ⟨lenb, hlenb⟩ : ∃ len, len = xsb.length := ⟨_, rfl⟩
  rw [← hlenb] at HRb ⊢
  have hcb : lenb ≤ cb := by omega
  have HLENb := Aside0.mk hlenb
  clear hcb0
  rw [← hlena] at hla
  rw [← hlenb] at hlb
  have HCEa := Aside0.mk heca
  obtain ⟨na, hna⟩ : ∃ n, n = PW16.cutN xsa.length := ⟨_, rfl⟩
  have HNa := Aside0.mk hna
  clear hna
  have HCEb := Aside0.mk hecb
  obtain ⟨nb, hnb⟩ : ∃ n, n = PW16.cutN xsb.length := ⟨_, rfl⟩
  have HNb := Aside0.mk hnb
  clear hnb
  have hna1 : 1 ≤ na := by rw [HNa.out]; exact PW16.cutN_pos _
  have hna2 : na ≤ 86 := by rw [HNa.out]; exact PW16.cutN_le (by rw [← hlena]; exact hla)
  have hnb1 : 1 ≤ nb := by rw [HNb.out]; exact PW16.cutN_pos _
  have hnb2 : nb ≤ 86 := by rw [HNb.out]; exact PW16.cutN_le (by rw [← hlenb]; exact hlb)
  have HCBa := Aside0.mk (show (PW16.cutB kda nda nca xsa).length = na from by rw [HNa.out]; exact cutB_len _ _ _ _)
  have HCBb := Aside0.mk (show (PW16.cutB kdb ndb ncb xsb).length = nb from by rw [HNb.out]; exact cutB_len _ _ _ _)
  have hn3 : ((na : Int) == 0) = false := by simp; omega
  clear heca hecb hha hhb hlena hlenb
  obtain ⟨ht0, ht1⟩ := ht
  go_enter Try.func14, Try.ntmps14
  go_upto_if 39 with (first | ((with_reducible refine gate_dst (N := 3) rfl ?_); refine box_event ?hg7 (N := 3) ?hd7 (cs := #[.int .i64 kda, .int .i64 nda, .int .i64 nca, .slice Ma lena ca]) (t := 24) ?hr7 ?_; (case hd7 => rfl); (case hg7 => rfl); (case hr7 => first | (go_simp; done) | (go_simp; rfl)); intro g3 hg w1 hbox hb; have HS1 := HS.box hg hbox hb; clear HS hg hbox hb) | ((with_reducible refine gate_dst (N := 4) rfl ?_); refine box_event ?hg8 (N := 4) ?hd8 (cs := #[.int .i64 kdb, .int .i64 ndb, .int .i64 ncb, .slice Mb lenb cb]) (t := 24) ?hr8 ?_; (case hd8 => rfl); (case hg8 => rfl); (case hr8 => first | (go_simp; done) | (go_simp; rfl)); intro g4 hg w2 hbox hb; have HS2 := HS1.box hg hbox hb; clear HS1 hg hbox hb) | (go_at_call 41; refine shown16_calls.mono ?_; rintro e w3 ⟨rfl, HH⟩; have HS3 := HS2.frame HH; clear HS2 HH; have m0 := HS3.cell 1 0 rfl rfl; have m1 := HS3.cell 1 1 rfl rfl; have m2 := HS3.cell 1 2 rfl rfl; have m3 := HS3.cell 1 3 rfl rfl) | (have hgd := HS3; clear hgd; go_at_call 42; refine (cut42_ok kda nda nca Ma lena ca xsa na HCEa.out HNa.out (Kd.C_below HRa.out HS3.below) hca).mono ?_; rintro e w4 ⟨ba, oa, cfa, rfl, HH⟩; have HS4 := HS3.frame HH; clear HS3 HH; clear m0 m1 m2 m3; have q0 := HS4.cell 1 0 rfl rfl; have q1 := HS4.cell 1 1 rfl rfl; have q2 := HS4.cell 1 2 rfl rfl; have q3 := HS4.cell 1 3 rfl rfl) | (have hgd := HS4; clear hgd; go_at_call 42; refine (cut42_ok kdb ndb ncb Mb lenb cb xsb nb HCEb.out HNb.out (Kd.C_below HRb.out HS4.below) hcb).mono ?_; rintro e w5 ⟨bb, ob, cfb, rfl, HH⟩; have HS5 := HS4.frame HH; clear HS4 HH; clear q0 q1 q2 q3))
  go_cut [2] (fun v1 wd => ∃ t : Nat, v1 = .int .i64 t ∧ t ≤ 9223372036854775807 ∧ wd = w5)
  case first =>
    by_cases hneg : tt < 0
    · have hzd : decide (tt < 0) = true := decide_eq_true hneg
      go_wp2_with fail
      go_meet
      case rel => exact ⟨(-(tt + 1)).toNat, by rw [Int.toNat_of_nonneg (by omega)], by omega, rfl⟩
    · have hzd : decide (tt < 0) = false := decide_eq_false hneg
      go_wp2_with fail
      go_meet
      case rel => exact ⟨tt.toNat, by rw [Int.toNat_of_nonneg (by omega)], by omega, rfl⟩
  case rest =>
    obtain ⟨t, rfl, ht2, rfl⟩ := hcut
    obtain ⟨w6, rfl⟩ : ∃ w6, w6 = wc := ⟨_, rfl⟩
    clear ht0 ht1
    obtain ⟨ii, hkk⟩ : ∃ ii, ii = t % na := ⟨_, rfl⟩
    have hin : ii < na := by rw [hkk]; exact Nat.mod_lt _ (by omega)
    have hk1 : (t : Int).tmod (na : Int) = (ii : Int) := by rw [hkk]; rfl
    have hk2 : (t : Int) % (na : Int) = (ii : Int) := by rw [hkk]; rfl
    have hk3 : decide ((ii : Int) < 0) = false := decide_eq_false (by omega)
    have hn4 : ((na : Int) = 0) = False := eq_false (by omega)
    clear hkk
    go_wp2_with fail
    clear hk1 hk2 hk3 hn3 hn4 ht2
    go_loopw [12] (fun v12 wr => ∃ k : Nat, v12 = .int .i64 k ∧ k ≤ nb ∧ Sat w wr (rows kF 22 (.slice (some ⟨bb, ob, none⟩) nb cfb) (PW16.cutB kdb ndb ncb xsb) :: rows kF 22 (.slice (some ⟨ba, oa, none⟩) na cfa) (PW16.cutB kda nda nca xsa) :: blk g4 (.cells #[.int .i64 kdb, .int .i64 ndb, .int .i64 ncb, .slice Mb lenb cb] 24 (0, 0)) :: blk g3 (.cells #[.int .i64 kda, .int .i64 nda, .int .i64 nca, .slice Ma lena ca] 24 (0, 0)) :: [])) (fun v12 _ => nb - (intOf v12).toNat)
    case atStart => exact ⟨0, rfl, by omega, HS5⟩
    case round =>
      obtain ⟨k, rfl, hk, HT⟩ := hrel
      clear HS5
      by_cases hkn : k < nb
      · have h1d : decide ((k : Int) < (nb : Int)) = true := decide_eq_true (by omega)
        have h1e : decide (k < nb) = true := decide_eq_true hkn
        have h3e : decide ((nb : Int) ≤ (k : Int)) = false := decide_eq_false (by omega)
        have h4e : decide ((na : Int) ≤ (ii : Int)) = false := decide_eq_false (by omega)
        obtain ⟨fa, hfa⟩ : ∃ fa, fa = PW16.frameOf kda nda nca xsa ii := ⟨_, rfl⟩
        obtain ⟨la, hla'⟩ : ∃ la, la = fa.length := ⟨_, rfl⟩
        obtain ⟨fb, hfb⟩ : ∃ fb, fb = PW16.frameOf kdb ndb ncb xsb k := ⟨_, rfl⟩
        obtain ⟨lb, hlb'⟩ : ∃ lb, lb = fb.length := ⟨_, rfl⟩
        have HFA := Aside0.mk hfa
        have HFB := Aside0.mk hfb
        have HLA := Aside0.mk hla'
        have HLB := Aside0.mk hlb'
        have HFXA := Aside0.mk (show ∀ x ∈ fa, 0 ≤ x ∧ x < 256 from by rw [hfa]; exact frameOf_in _ _ _ HXa.out _)
        have HFXB := Aside0.mk (show ∀ x ∈ fb, 0 ≤ x ∧ x < 256 from by rw [hfb]; exact frameOf_in _ _ _ HXb.out _)
        clear hfa hfb hla' hlb'
        go_wp2_with fail
        have HT1 := HT.drew
        obtain ⟨ba', oa', hbe, hrows⟩ := rows_row (HT1.readsRows 1 rfl).2.2 (show 0 < (PW16.cutB kda nda nca xsa).length by rw [HCBa.out]; omega)
        injection hbe with hbe
        injection hbe with hb1 hb2
        subst hb1 hb2
        obtain ⟨Ai, ka2, ka, hca2, hck2⟩ := hrows ii (by rw [HCBa.out]; exact hin)
        rw [cutB_at kda nda nca xsa ii (by rw [← HNa.out]; exact hin), ← HFA.out, ← HLA.out] at ka hca2 hck2
        have HCa2 := Aside0.mk (by have h := hck2; rw [HLA.out] at h; exact h)
        clear hrows hck2 hca2
        obtain ⟨bb', ob', hbe, hrows⟩ := rows_row (HT1.readsRows 0 rfl).2.2 (show 0 < (PW16.cutB kdb ndb ncb xsb).length by rw [HCBb.out]; omega)
        injection hbe with hbe
        injection hbe with hb1 hb2
        subst hb1 hb2
        obtain ⟨Bk, kb2, kb, hcb2, hck2⟩ := hrows k (by rw [HCBb.out]; exact hkn)
        rw [cutB_at kdb ndb ncb xsb k (by rw [← HNb.out]; exact hkn), ← HFB.out, ← HLB.out] at kb hcb2 hck2
        have HCb2 := Aside0.mk (by have h := hck2; rw [HLB.out] at h; exact h)
        clear hrows hck2 hcb2
        have sa := Kd.C_string (P := Try.prog) (src := 22) (dst := 9) (c := ka2) Try.underlying22 Try.underlying5 Try.underlying9 HCa2.out
        have sb := Kd.C_string (P := Try.prog) (src := 22) (dst := 9) (c := kb2) Try.underlying22 Try.underlying5 Try.underlying9 HCb2.out
        rw [← HLA.out] at sa
        rw [← HLB.out] at sb
        clear HCa2 HCb2
        refine region (frees [0, 1, 2] (helds [3, 4] (frees [5, 6, 7] (helds [8, 9] (frees [10] .done))))) (fun w' => w'.cell? ⟨ba, oa + ii, none⟩ = some (.slice Ai la ka2) ∧ w'.cell? ⟨bb, ob + k, none⟩ = some (.slice Bk lb kb2) ∧ (convert 22 9 (.slice Ai la ka2)).run Try.prog w' = .ok (.string (strOfNums fa)) w' ∧ (convert 22 9 (.slice Bk lb kb2)).run Try.prog w' = .ok (.string (strOfNums fb)) w') [] (by kernel_rfl) (by kernel_rfl) ?_
        generalize wr.drew = w7 at HT1 ka kb sa sb ⊢
        clear HT
        by_cases hfe : fa = fb
        · have HFE := Aside0.mk hfe
          have hs1 : ((strOfNums fa).toList != (strOfNums fb).toList) = false := by rw [hfe]; simp
          have hs2 : ((strOfNums fa).toList == (strOfNums fb).toList) = true := by rw [hfe]; simp
          clear hfe
          repeat (first | (refine st_free (v := ?_) (a' := ?_) (by simp only [List.getElem?_toArray, List.getElem?_cons_succ, List.getElem?_cons_zero]; rfl) (by rfl) ?_ ?_ ?_; rotate_left 2; (intro w'; go_simp; with_reducible rfl); (simp only [Act.put, List.setIfInBounds_toArray, List.set_cons_zero, List.set_cons_succ]; rfl)) | (refine st_held (v := ?_) (a' := ?_) ⟨ka, kb, sa, sb⟩ (by simp only [List.getElem?_toArray, List.getElem?_cons_succ, List.getElem?_cons_zero]; rfl) (by rfl) ?_ ?_ ?_; rotate_left 2; (rintro w' ⟨z0, z1, z2, z3⟩; go_simp; with_reducible rfl); (simp only [Act.put, List.setIfInBounds_toArray, List.set_cons_zero, List.set_cons_succ]; rfl)))
          refine st_done ?_
          clear hs1 hs2 sa sb ka kb h3e h4e
          obtain ⟨e1, e2, e3, e4, e5, e6⟩ := frame_like HCEa.out HCEb.out (by rw [← HNa.out]; exact hin) (by rw [← HNb.out]; exact hkn) (by rw [← HFA.out, ← HFB.out]; exact HFE.out)
          rw [← HNa.out, ← HNb.out] at e5
          subst e1 e2 e3 e4 e5
          clear HFE HFA HFB HFXA HFXB
          obtain ⟨av, hav⟩ : ∃ av, av = ii * 48 := ⟨_, rfl⟩
          have hla2 : av ≤ lena := by
            have h := hin
            rw [HNa.out, ← HLENa.out] at h
            unfold PW16.cutN at h
            omega
          have hlb2 : av ≤ lenb := by
            have h := hin
            rw [HNb.out, ← HLENb.out] at h
            unfold PW16.cutN at h
            omega
          obtain ⟨ma, hma⟩ : ∃ ma, ma = min lena (av + 48) := ⟨_, rfl⟩
          obtain ⟨mb, hmb⟩ : ∃ mb, mb = min lenb (av + 48) := ⟨_, rfl⟩
          obtain ⟨Pa, hsa, hra2⟩ := cut_lh kB (P := Try.prog) 22 5 Try.underlying22 (i := _) rfl rfl Ma lena ca av ma (by omega) (by omega) hca
          obtain ⟨Pb, hsb, hrb2⟩ := cut_lh kB (P := Try.prog) 22 5 Try.underlying22 (i := _) rfl rfl Mb lenb cb av mb (by omega) (by omega) hcb
          have hsa1 := fun W : World => hsa W (av : Int) (ma : Int) rfl rfl
          have hsb1 := fun W : World => hsb W (av : Int) (mb : Int) rfl rfl
          obtain ⟨pc, hpc⟩ : ∃ pc, pc = PW16.piece xsa ii := ⟨_, rfl⟩
          have pa : kB.C w7 Pa (ma - av) pc := by
            have h := hra2 w7 xsa (Kd.C_below HRa.out HT1.below)
            rw [show (xsa.take ma).drop av = pc from by rw [hpc, hav]; exact piece_cut xsa ii ma (by rw [hma, hav, HLENa.out])] at h
            exact h
          have pb : kB.C w7 Pb (mb - av) pc := by
            have h := hrb2 w7 xsb (Kd.C_below HRb.out HT1.below)
            rw [show (xsb.take mb).drop av = pc from by rw [hpc, ← e6, hav]; exact piece_cut xsb ii mb (by rw [hmb, hav, HLENb.out])] at h
            exact h
          have sa := Kd.C_string (P := Try.prog) (src := 22) (dst := 9) (c := ca - av) Try.underlying22 Try.underlying5 Try.underlying9 (show kB.C w7 Pa pc.length pc from by rw [show pc.length = ma - av from pa.1]; exact pa)
          have sb := Kd.C_string (P := Try.prog) (src := 22) (dst := 9) (c := cb - av) Try.underlying22 Try.underlying5 Try.underlying9 (show kB.C w7 Pb pc.length pc from by rw [show pc.length = mb - av from pb.1]; exact pb)
          rw [show pc.length = ma - av from pa.1] at sa
          rw [show pc.length = mb - av from pb.1] at sb
          have hav1 : (ii : Int) * 48 = (av : Int) := by omega
          have hav2 : av ≤ 4096 := by omega
          have hmin1 : (if (av : Int) + 48 < (lena : Int) then (av : Int) + 48 else (lena : Int)) = (ma : Int) := by split <;> omega
          have hmin2 : (if (av : Int) + 48 < (lenb : Int) then (av : Int) + 48 else (lenb : Int)) = (mb : Int) := by split <;> omega
          have hg1 : decide ((lenb : Int) < (av : Int)) = false := decide_eq_false (by omega)
          have hg2 : decide (lenb < av) = false := decide_eq_false (by omega)
          clear hav hma hmb hsa hsb hra2 hrb2 hpc pa pb e6 hla2 hlb2
          have m0 := HT1.cell 3 0 rfl rfl; have m1 := HT1.cell 3 1 rfl rfl; have m2 := HT1.cell 3 2 rfl rfl; have m3 := HT1.cell 3 3 rfl rfl; have q0 := HT1.cell 2 0 rfl rfl; have q1 := HT1.cell 2 1 rfl rfl; have q2 := HT1.cell 2 2 rfl rfl; have q3 := HT1.cell 2 3 rfl rfl
          go_wp2_with fail
          exact ⟨⟨ii + 1, by rw [Int.natCast_add]; rfl, by omega, HT1⟩, by simp [intOf]; omega⟩
        · have hs0 : ((strOfNums fa).toList == (strOfNums fb).toList) = false := by rw [str_beq HFXA.out HFXB.out]; exact decide_eq_false hfe
          have hs1 : ((strOfNums fa).toList != (strOfNums fb).toList) = true := by unfold bne; rw [hs0]; rfl
          clear hfe
          repeat (first | (refine st_free (v := ?_) (a' := ?_) (by simp only [List.getElem?_toArray, List.getElem?_cons_succ, List.getElem?_cons_zero]; rfl) (by rfl) ?_ ?_ ?_; rotate_left 2; (intro w'; go_simp; with_reducible rfl); (simp only [Act.put, List.setIfInBounds_toArray, List.set_cons_zero, List.set_cons_succ]; rfl)) | (refine st_held (v := ?_) (a' := ?_) ⟨ka, kb, sa, sb⟩ (by simp only [List.getElem?_toArray, List.getElem?_cons_succ, List.getElem?_cons_zero]; rfl) (by rfl) ?_ ?_ ?_; rotate_left 2; (rintro w' ⟨z0, z1, z2, z3⟩; go_simp; with_reducible rfl); (simp only [Act.put, List.setIfInBounds_toArray, List.set_cons_zero, List.set_cons_succ]; rfl)))
          refine st_done ?_
          go_wp2_with fail
          exact ⟨⟨k + 1, by rw [Int.natCast_add]; rfl, by omega, HT1⟩, by simp [intOf]; omega⟩
      · have h1d : decide ((k : Int) < (nb : Int)) = false := decide_eq_false (by omega)
        have h1e : decide (k < nb) = false := decide_eq_false hkn
        go_wp2
        go_ret
        exact ⟨rfl, HT.below⟩
theorem WireUnlike_calls {w : World} (kda nda nca : Int) (Ma : Option Addr) (ca : Nat) (xsa : List Int) (kdb ndb ncb : Int) (Mb : Option Addr) (cb : Nat) (xsb : List Int) (tt : Int)  (hra : kB.C w Ma xsa.length xsa) (hca0 : xsa.length ≤ ca) (hxa : ∀ x ∈ xsa, 0 ≤ x ∧ x < 256) (hrb : kB.C w Mb xsb.length xsb) (hcb0 : xsb.length ≤ cb) (hxb : ∀ x ∈ xsb, 0 ≤ x ∧ x < 256) (ht : -9223372036854775808 ≤ tt ∧ tt ≤ 9223372036854775807) :
    Calls Try.prog 14 #[.agg #[.int .i64 kda, .int .i64 nda, .int .i64 nca, .slice Ma xsa.length ca], .agg #[.int .i64 kdb, .int .i64 ndb, .int .i64 ncb, .slice Mb xsb.length cb], .int .i64 tt] w fun e w' => e = .returned (.bool true) ∧ Below w.heap.size w w' := by
  by_cases ha : PW16.cutE kda nda nca xsa = 0
  · by_cases hb : PW16.cutE kdb ndb ncb xsb = 0
    · exact WireUnlike_yy kda nda nca Ma ca xsa kdb ndb ncb Mb cb xsb tt ha hb hra hca0 hxa hrb hcb0 hxb ht
    · exact WireUnlike_yn kda nda nca Ma ca xsa kdb ndb ncb Mb cb xsb tt ha _ rfl hb hra hca0 hxa hrb hcb0 hxb ht
  · by_cases hb : PW16.cutE kdb ndb ncb xsb = 0
    · exact WireUnlike_ny kda nda nca Ma ca xsa kdb ndb ncb Mb cb xsb tt _ rfl ha hb hra hca0 hxa hrb hcb0 hxb ht
    · exact WireUnlike_nn kda nda nca Ma ca xsa kdb ndb ncb Mb cb xsb tt _ rfl ha _ rfl hb hra hca0 hxa hrb hcb0 hxb ht

end Go.Proofs.Ytaojnbhnogndnaa.SL
