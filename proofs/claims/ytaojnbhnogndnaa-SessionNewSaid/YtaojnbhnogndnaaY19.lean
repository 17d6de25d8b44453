/- The law SessionNew. -/
import Derived.Test.YtaojnbhnogndnaaY17
namespace Go.Proofs.Ytaojnbhnogndnaa.SL
open Go.RowKit Go.Proofs.YtaojnbhnogndnaaW.PrintWords Go.Proofs.YtaojnbhnogndnaaW.PrintLast Go.Proofs.YtaojnbhnogndnaaW.PrintMore
attribute [local go_sem] max2_int min2_int max_two min_two
attribute [local go_sem high] Small.cell_set_same
set_option linter.unusedVariables false
set_option linter.unusedSimpArgs false

theorem pos_rem (z : Int) (n : Nat) (hz : 0 ≤ z) (hn : 0 < n) : ∃ kk : Nat, z % (n : Int) = kk ∧ kk < n := by
  have h1 := Int.emod_nonneg z (show (n : Int) ≠ 0 by omega)
  have h2 := Int.emod_lt_of_pos z (show (0 : Int) < n by omega)
  exact ⟨(z % (n : Int)).toNat, by omega, by omega⟩
theorem getD_int {p : Int → Prop} {l : List Int} (h : ∀ x ∈ l, p x) (i : Nat) (hi : i < l.length) : p (l.getD i 0) := by
  rw [List.getD_eq_getElem?_getD, List.getElem?_eq_getElem hi]
  exact h _ (List.getElem_mem _)

/-! ### SessionNew: function 4 -/
set_option maxHeartbeats 100000000 in
set_option maxRecDepth 100000 in
theorem SessionNew_calls {w : World} (Aa : Option Addr) (ca : Nat) (xsa : List Int) (Ab : Option Addr) (cb : Nat) (xsb : List Int) (A2 : Option Addr) (c2 : Nat) (os : List Int)
    (hra : kB.C w Aa xsa.length xsa) (hca0 : xsa.length ≤ ca) (hxa : ∀ x ∈ xsa, 0 ≤ x ∧ x < 256) (hrb : kB.C w Ab xsb.length xsb) (hcb0 : xsb.length ≤ cb) (hxb : ∀ x ∈ xsb, 0 ≤ x ∧ x < 256)
    (hr2 : (Kd.int .i64).C w A2 os.length os) (ho : ∀ x ∈ os, -9223372036854775808 ≤ x ∧ x ≤ 9223372036854775807) (hol : os.length ≤ 140737488355328) :
    Calls Try.prog 4 #[.slice Aa xsa.length ca, .slice Ab xsb.length cb, .slice A2 os.length c2] w fun e w' => e = .returned (.bool true) ∧ Below w.heap.size w w' := by
  have hu24 := Try.underlying24
  have hu35 := Try.underlying35
  have HS := Sat.start w
  have HRa := Aside0.mk hra
  have HXa := Aside0.mk hxa
  obtain ⟨lena, hlena⟩ : ∃ len, len = xsa.length := ⟨_, rfl⟩
  rw [← hlena] at HRa ⊢
  have hca : lena ≤ ca := by omega
  obtain ⟨eca, heca⟩ : ∃ ec, ec = PW16.cutE 2 1 5 xsa := ⟨_, rfl⟩
  clear hra hxa hlena hca0
  have HRb := Aside0.mk hrb
  have HXb := Aside0.mk hxb
  obtain ⟨lenb, hlenb⟩ : ∃ len, len = xsb.length := ⟨_, rfl⟩
  rw [← hlenb] at HRb ⊢
  have hcb : lenb ≤ cb := by omega
  obtain ⟨ecb, hecb⟩ : ∃ ec, ec = PW16.cutE 2 1 6 xsb := ⟨_, rfl⟩
  clear hrb hxb hlenb hcb0
  have HR2 := Aside0.mk hr2
  have HO := Aside0.mk ho
  obtain ⟨lo, hlo⟩ : ∃ lo, lo = os.length := ⟨_, rfl⟩
  rw [← hlo] at HR2 ⊢
  have hlo2 : lo ≤ 140737488355328 := by omega
  have HLO := Aside0.mk hlo
  clear hr2 ho hlo hol
  by_cases hza : eca = 0
  · by_cases hzb : ecb = 0
    · obtain ⟨hha, hla, hcla⟩ := cutE_zero (heca.symm.trans hza)
      have HHda := Aside0.mk hha
      have HLa := Aside0.mk hla
      obtain ⟨na, hna⟩ : ∃ n, n = PW16.cutN xsa.length := ⟨_, rfl⟩
      have hna1 : 1 ≤ na := by rw [hna]; exact PW16.cutN_pos _
      have hna2 : na ≤ 86 := by rw [hna]; exact PW16.cutN_le hla
      have HNa := Aside0.mk hna
      have HCEa := Aside0.mk (show PW16.cutE 2 1 5 xsa = 0 from heca.symm.trans hza)
      have HCBa := Aside0.mk (show (PW16.cutB 2 1 5 xsa).length = na from by rw [hna]; exact cutB_len _ _ _ _)
      clear heca hza hha hla hna hcla
      obtain ⟨hhb, hlb, hclb⟩ := cutE_zero (hecb.symm.trans hzb)
      have HHdb := Aside0.mk hhb
      have HLb := Aside0.mk hlb
      obtain ⟨nb, hnb⟩ : ∃ n, n = PW16.cutN xsb.length := ⟨_, rfl⟩
      have hnb1 : 1 ≤ nb := by rw [hnb]; exact PW16.cutN_pos _
      have hnb2 : nb ≤ 86 := by rw [hnb]; exact PW16.cutN_le hlb
      have HNb := Aside0.mk hnb
      have HCEb := Aside0.mk (show PW16.cutE 2 1 6 xsb = 0 from hecb.symm.trans hzb)
      have HCBb := Aside0.mk (show (PW16.cutB 2 1 6 xsb).length = nb from by rw [hnb]; exact cutB_len _ _ _ _)
      clear hecb hzb hhb hlb hnb hclb
      go_enter Try.func4, Try.ntmps4
      go_wp2_with (first | (go_at_call 15; refine (shown17_calls HS).mono ?_; rintro e w3 ⟨rfl, HS3⟩; clear HS) | (go_at_call 17; refine (sNew_calls HS3).mono ?_; rintro e w4 ⟨g, b, rfl, HS4⟩; clear HS3) | (have hgd := HS4; clear hgd; go_at_call 16; refine (cut16_ok 2 1 5 Aa lena ca xsa na HCEa.out HNa.out (Kd.C_below HRa.out HS4.below) hca).mono ?_; rintro e w5 ⟨bfa, ofsa, cfa, rfl, HH⟩; have HS5 := HS4.frame HH; clear HS4 HH) | (have hgd := HS5; clear hgd; go_at_call 16; refine (cut16_ok 2 1 6 Ab lenb cb xsb nb HCEb.out HNb.out (Kd.C_below HRb.out HS5.below) hcb).mono ?_; rintro e w6 ⟨bfb, ofsb, cfb, rfl, HH⟩; have HS6 := HS5.frame HH; clear HS5 HH))
      go_loopw [13] (fun v13 wr => ∃ i : Nat, v13 = .int .i64 i ∧ i ≤ 90 ∧ ∃ σ : List GS, NonceIs 5 (getE (er σ) (2, 1)) ∧ WfE (er σ) ∧ Sat w wr ([rows kF 22 (.slice (some ⟨bfa, ofsa, none⟩) na cfa) (PW16.cutB 2 1 5 xsa), rows kF 22 (.slice (some ⟨bfb, ofsb, none⟩) nb cfb) (PW16.cutB 2 1 6 xsb)] ++ inbox g b σ)) (fun v13 _ => 90 - (intOf v13).toNat)
      case atStart => exact ⟨0, rfl, Nat.zero_le _, [], .inl rfl, (fun s hs => absurd hs (List.not_mem_nil)), HS6.perm (List.Perm.swap _ _ _)⟩
      case round =>
        obtain ⟨i, rfl, hi, σ, hni, hwf, HS7⟩ := hrel
        clear HS6
        have HNI := Aside0.mk hni
        have HWF := Aside0.mk hwf
        clear hni hwf
        by_cases hin : i < lo ∧ i < 90
        · obtain ⟨h1, h2⟩ := hin
          have h1d : decide ((i : Int) < (lo : Int)) = true := decide_eq_true (by omega)
          have h1e : decide (i < lo) = true := decide_eq_true h1
          have h2d : decide ((i : Int) < 90) = true := decide_eq_true (by omega)
          have h2e : decide (i < 90) = true := decide_eq_true h2
          obtain ⟨bo, oo, rfl, hoc⟩ := int_row (Kd.C_below HR2.out HS7.below) (show 0 < lo by omega)
          have koi := hoc i h1
          have hzb := getD_int (p := fun x => -9223372036854775808 ≤ x ∧ x ≤ 9223372036854775807) HO.out i (by rw [← HLO.out]; exact h1)
          obtain ⟨z, hz⟩ : ∃ z, z = os.getD i 0 := ⟨_, rfl⟩
          rw [← hz] at koi hzb
          obtain ⟨hz0, hz1⟩ := hzb
          clear hoc hz
          go_upto_if 74 with (fail)
          go_cut [14] (fun v14 wd => ∃ kz : Int, v14 = .int .i64 kz ∧ 0 ≤ kz ∧ kz ≤ 9223372036854775807 ∧ wd = wr)
          case first =>
            by_cases hneg : z < 0
            · have hzd : decide (z < 0) = true := decide_eq_true hneg
              go_wp2_with fail
              go_meet
              case rel => exact ⟨_, rfl, by omega, by omega, rfl⟩
            · have hzd : decide (z < 0) = false := decide_eq_false hneg
              go_wp2_with fail
              go_meet
              case rel => exact ⟨_, rfl, by omega, by omega, rfl⟩
          case rest =>
            obtain ⟨kz, rfl, hkz, hkz2, rfl⟩ := hcut
            obtain ⟨w7, rfl⟩ : ∃ w7, w7 = wc := ⟨_, rfl⟩
            obtain ⟨kk, hkm, hkk⟩ := pos_rem kz na hkz (by omega)
            have hk4 : decide (kk < na) = true := decide_eq_true hkk
            have hk5 : (kk : Int) < (na : Int) := by omega
            clear koi
            have HPL := Aside0.mk (show (PW16.piece xsa kk).length ≤ 1048576 from by rw [PW16.piece_len]; omega)
            obtain ⟨bq, oq, hbe, hrows⟩ := rows_row (HS7.readsRows 0 rfl).2.2 (show 0 < (PW16.cutB 2 1 5 xsa).length by rw [HCBa.out]; omega)
            injection hbe with hbe
            injection hbe with hb1 hb2
            subst hb1 hb2
            obtain ⟨Aka, cka, kfa, hcla, hck2⟩ := hrows kk (by rw [HCBa.out]; exact hkk)
            rw [cutB_at 2 1 5 xsa kk (by rw [← HNa.out]; exact hkk)] at kfa hcla hck2
            obtain ⟨lka, hlk⟩ : ∃ lk, lk = (PW16.frameOf 2 1 5 xsa kk).length := ⟨_, rfl⟩
            rw [← hlk] at kfa hcla hck2
            have HCKa := Aside0.mk hck2
            clear hrows hlk hck2
            have HRC1a := Aside0.mk (show ∀ (w0 w' : World) (Ar : Option Addr) (cr : Nat) (l : List Asrt), Sat w0 w' (row kB 5 (.slice Ar (PW16.piece xsa kk).length cr) (PW16.piece xsa kk) :: l) → (PW16.piece xsa kk).length ≤ cr from fun _ _ _ _ _ h => (h.readsRow 0 rfl).2.1)
            have KBa := Aside0.mk (Below.refl w7.heap.size w7)
            go_wp2_with (first | (have hgd := HS7; clear hgd; go_at_call 18; refine (readFrame 2 1 5 xsa kk Aka lka cka HCKa.out hcla HHda.out HLa.out HXa.out (by rw [← HNa.out]; exact hkk)).mono ?_; rintro e wp1 ⟨vr, rfl, HH⟩; have HSp2 : Sat w wp1 ([row kB 5 vr (PW16.piece xsa kk), rows kF 22 (.slice (some ⟨bfa, ofsa, none⟩) na cfa) (PW16.cutB 2 1 5 xsa), rows kF 22 (.slice (some ⟨bfb, ofsb, none⟩) nb cfb) (PW16.cutB 2 1 6 xsb)] ++ inbox g b σ) := HS7.frame HH; rw [← HNa.out]; clear HS7 HH; obtain ⟨Ara, cra, rfl⟩ := HSp2.rowShape 0 rfl; have HRCa := Aside0.mk (HRC1a.out _ _ _ _ _ HSp2)) | ((with_reducible refine gate_dst (N := 15) rfl ?_); refine box_event ?hg51 (N := 15) ?hd51 (cs := #[.int .i64 0, .int .i64 0, .int .i64 0, .int .i64 0, .int .i64 0, .slice none 0 0]) (t := 35) ?hr51 ?_; (case hd51 => rfl); (case hg51 => rfl); (case hr51 => first | (go_simp; done) | (go_simp; rfl)); intro g15 hg wp4 hbox hb; have HSp3 := HSp2.box hg hbox hb; clear HSp2 hg hbox hb; have d0 := HSp3.cell 0 0 rfl rfl; have f0 := HSp3.frozen 0 0 rfl; have d1 := HSp3.cell 0 1 rfl rfl; have f1 := HSp3.frozen 0 1 rfl; have d2 := HSp3.cell 0 2 rfl rfl; have f2 := HSp3.frozen 0 2 rfl; have d3 := HSp3.cell 0 3 rfl rfl; have f3 := HSp3.frozen 0 3 rfl; have d4 := HSp3.cell 0 4 rfl rfl; have f4 := HSp3.frozen 0 4 rfl; have d5 := HSp3.cell 0 5 rfl rfl; have f5 := HSp3.frozen 0 5 rfl) | ((with_reducible refine gate_store (t := 35) (p := 15) rfl ?_); refine store_event (t := 35) (p := 15) (v := ?vo52) (w1 := ((((((wp4.setCell ⟨g15, 0, none⟩ (.int .i64 2)).setCell ⟨g15, 1, none⟩ (.int .i64 1)).setCell ⟨g15, 2, none⟩ (.int .i64 5)).setCell ⟨g15, 3, none⟩ (.int .i64 kk)).setCell ⟨g15, 4, none⟩ (.int .i64 na)).setCell ⟨g15, 5, none⟩ (.slice Ara (PW16.piece xsa kk).length cra))) ?hg52 ?ho52 ?hn52 ?hr52 ?_; (case ho52 => rfl); (case hg52 => rfl); (case hn52 => rfl); (case hr52 => first | (go_simp; done) | (go_simp; rfl)); intro wp6 hw; have HSp5 := ((((((HSp3.setAt 0 0 (.int .i64 2) rfl).setAt 0 1 (.int .i64 1) rfl).setAt 0 2 (.int .i64 5) rfl).setAt 0 3 (.int .i64 kk) rfl).setAt 0 4 (.int .i64 na) rfl).setAt 0 5 (.slice Ara (PW16.piece xsa kk).length cra) rfl); rw [← hw] at HSp5; clear hw HSp3 d0 f0 d1 f1 d2 f2 d3 f3 d4 f4 d5 f5; have e0 := HSp5.cell 0 0 rfl rfl; have e1 := HSp5.cell 0 1 rfl rfl; have e2 := HSp5.cell 0 2 rfl rfl; have e3 := HSp5.cell 0 3 rfl rfl; have e4 := HSp5.cell 0 4 rfl rfl; have e5 := HSp5.cell 0 5 rfl rfl; have HSp7 : Sat w wp6 ([blk g15 (.cells #[.int .i64 2, .int .i64 1, .int .i64 5, .int .i64 kk, .int .i64 na, .slice Ara (PW16.piece xsa kk).length cra] 35 (0, 0)), row kB 5 (.slice Ara (PW16.piece xsa kk).length cra) (PW16.piece xsa kk), rows kF 22 (.slice (some ⟨bfa, ofsa, none⟩) na cfa) (PW16.cutB 2 1 5 xsa), rows kF 22 (.slice (some ⟨bfb, ofsb, none⟩) nb cfb) (PW16.cutB 2 1 6 xsb)] ++ inbox g b σ) := HSp5; clear HSp5) | (have hgd := HSp7; clear hgd; go_at_call 19; refine (sAdd_any (L := blk g15 (.cells #[.int .i64 2, .int .i64 1, .int .i64 5, .int .i64 kk, .int .i64 na, .slice Ara (PW16.piece xsa kk).length cra] 35 (0, 0)) :: row kB 5 (.slice Ara (PW16.piece xsa kk).length cra) (PW16.piece xsa kk) :: rows kF 22 (.slice (some ⟨bfa, ofsa, none⟩) na cfa) (PW16.cutB 2 1 5 xsa) :: rows kF 22 (.slice (some ⟨bfb, ofsb, none⟩) nb cfb) (PW16.cutB 2 1 6 xsb) :: []) g b σ 2 1 5 kk na Ara (PW16.piece xsa kk).length cra (PW16.piece xsa kk) HWF.out HRCa.out (fun w' h => (h.readsRow 1 rfl).2.2) (add_short HPL.out) (HSp7.perm List.perm_append_comm)).mono ?_; rintro e wp8 ⟨va, rfl, σ2, E2, HSp9'⟩; have HSp9 := HSp9'.perm List.perm_append_comm; clear HSp7 HSp9' e0 e1 e2 e3 e4 e5))
            exact ⟨⟨i + 1, by rw [Int.natCast_add]; rfl, by omega, σ2, by rw [E2, (add_get (er σ) 2 1 5 kk na (PW16.piece xsa kk)).1]; exact HNI.out.add _ _ _, by rw [E2]; exact add_wf HWF.out _ _ _ _ _ (fun _ => HPL.out), HSp9.tail.tail⟩, by simp [intOf]; omega⟩
        · have hend : (decide ((i : Int) < (lo : Int)) = false ∧ decide (i < lo) = false) ∨ (decide ((i : Int) < (lo : Int)) = true ∧ decide (i < lo) = true ∧ decide ((i : Int) < 90) = false ∧ decide (i < 90) = false) := by
            by_cases h1 : i < lo
            · exact .inr ⟨decide_eq_true (by omega), decide_eq_true h1, decide_eq_false (by omega), decide_eq_false (by omega)⟩
            · exact .inl ⟨decide_eq_false (by omega), decide_eq_false h1⟩
          clear hin
          rcases hend with ⟨h1, h2⟩ | ⟨h1, h2, h3, h4⟩
          all_goals
            go_wp2
            go_loopw [17] (fun v17 wr => ∃ i : Nat, v17 = .int .i64 i ∧ i ≤ nb ∧ ∃ σ : List GS, FirstOk xsb 6 nb i (getE (er σ) (2, 1)) ∧ WfE (er σ) ∧ Sat w wr ([rows kF 22 (.slice (some ⟨bfa, ofsa, none⟩) na cfa) (PW16.cutB 2 1 5 xsa), rows kF 22 (.slice (some ⟨bfb, ofsb, none⟩) nb cfb) (PW16.cutB 2 1 6 xsb)] ++ inbox g b σ)) (fun v17 _ => nb - (intOf v17).toNat)
            case atStart => exact ⟨0, rfl, Nat.zero_le _, σ, (by
              rcases HNI.out with h | ⟨s, h, h5⟩
              · rw [h]; exact FirstOk.none_ _ _ _
              · rw [h]; exact FirstOk.lower _ _ _ (by rw [h5]; decide)), HWF.out, HS7⟩
            case round =>
              rename_i σ0 _
              obtain ⟨i, rfl, hi, σ, hf, hwf, HS9⟩ := hrel
              clear HS7 HNI HWF
              have HF := Aside0.mk hf
              have HWF := Aside0.mk hwf
              clear hf hwf
              by_cases hlt : i < nb
              · have hltd : decide ((i : Int) < (nb : Int)) = true := decide_eq_true (by omega)
                have hlte : decide (i < nb) = true := decide_eq_true hlt
                have hlti : (i : Int) < (nb : Int) := by omega
                obtain ⟨w9, rfl⟩ : ∃ w9, w9 = wr := ⟨_, rfl⟩
                obtain ⟨kk, hkm, hkk⟩ := pos_rem (i : Int) na (by omega) (by omega)
                have hk4 : decide (kk < na) = true := decide_eq_true hkk
                have hk5 : (kk : Int) < (na : Int) := by omega
                by_cases hful : i + 1 < nb
                · have HP := Aside0.mk (HF.out.step hlt hnb2 HNb.out)
                  have HAG := Aside0.mk (add_get (er σ) 2 1 6 i nb (PW16.piece xsb i))
                  have HPL := Aside0.mk (show (PW16.piece xsb i).length ≤ 1048576 from by rw [PW16.piece_len]; omega)
                  have HPK := Aside0.mk (show (PW16.piece xsa kk).length ≤ 1048576 from by rw [PW16.piece_len]; omega)
                  have HWF2 := Aside0.mk (add_wf HWF.out 2 1 6 i nb (bs := PW16.piece xsb i) (fun _ => HPL.out))
                  have hle1 : ((i : Int) == (nb : Int) - 1) = false := by simp; omega
                  have HY := Aside0.mk (show (addE (er σ) 2 1 6 i nb (PW16.piece xsb i)).2 = none from by rw [HAG.out.2.1, HP.out.1]; exact if_pos hful)
                  obtain ⟨bq, oq, hbe, hrows⟩ := rows_row (HS9.readsRows 1 rfl).2.2 (show 0 < (PW16.cutB 2 1 6 xsb).length by rw [HCBb.out]; omega)
                  injection hbe with hbe
                  injection hbe with hb1 hb2
                  subst hb1 hb2
                  obtain ⟨Akb, ckb, kfb, hclb, hck2⟩ := hrows i (by rw [HCBb.out]; exact hlt)
                  rw [cutB_at 2 1 6 xsb i (by rw [← HNb.out]; exact hlt)] at kfb hclb hck2
                  obtain ⟨lkb, hlk⟩ : ∃ lk, lk = (PW16.frameOf 2 1 6 xsb i).length := ⟨_, rfl⟩
                  rw [← hlk] at kfb hclb hck2
                  have HCKb := Aside0.mk hck2
                  clear hrows hlk hck2
                  have HRC1b := Aside0.mk (show ∀ (w0 w' : World) (Ar : Option Addr) (cr : Nat) (l : List Asrt), Sat w0 w' (row kB 5 (.slice Ar (PW16.piece xsb i).length cr) (PW16.piece xsb i) :: l) → (PW16.piece xsb i).length ≤ cr from fun _ _ _ _ _ h => (h.readsRow 0 rfl).2.1)
                  have HRC1a := Aside0.mk (show ∀ (w0 w' : World) (Ar : Option Addr) (cr : Nat) (l : List Asrt), Sat w0 w' (row kB 5 (.slice Ar (PW16.piece xsa kk).length cr) (PW16.piece xsa kk) :: l) → (PW16.piece xsa kk).length ≤ cr from fun _ _ _ _ _ h => (h.readsRow 0 rfl).2.1)
                  have HG6 := Aside0.mk (show ∃ s : KS, getE (addE (er σ) 2 1 6 i nb (PW16.piece xsb i)).1 (2, 1) = some s ∧ s.1 = 6 from by rw [HAG.out.1]; exact HP.out.2.some_ (Nat.succ_pos _))
                  go_wp2_with (first | (have hgd := HS9; clear hgd; go_at_call 18; refine (readFrame 2 1 6 xsb i Akb lkb ckb HCKb.out hclb HHdb.out HLb.out HXb.out (by rw [← HNb.out]; exact hlt)).mono ?_; rintro e wq1 ⟨vr, rfl, HH⟩; have HSq2 : Sat w wq1 ([row kB 5 vr (PW16.piece xsb i), rows kF 22 (.slice (some ⟨bfa, ofsa, none⟩) na cfa) (PW16.cutB 2 1 5 xsa), rows kF 22 (.slice (some ⟨bfb, ofsb, none⟩) nb cfb) (PW16.cutB 2 1 6 xsb)] ++ inbox g b σ) := HS9.frame HH; rw [← HNb.out]; clear HS9 HH; obtain ⟨Arb, crb, rfl⟩ := HSq2.rowShape 0 rfl; have HRCb := Aside0.mk (HRC1b.out _ _ _ _ _ HSq2)) | ((with_reducible refine gate_dst (N := 18) rfl ?_); refine box_event ?hg35 (N := 18) ?hd35 (cs := #[.int .i64 0, .int .i64 0, .int .i64 0, .int .i64 0, .int .i64 0, .slice none 0 0]) (t := 35) ?hr35 ?_; (case hd35 => rfl); (case hg35 => rfl); (case hr35 => first | (go_simp; done) | (go_simp; rfl)); intro g15 hg wq4 hbox hb; have HSq3 := HSq2.box hg hbox hb; clear HSq2 hg hbox hb; have d0 := HSq3.cell 0 0 rfl rfl; have f0 := HSq3.frozen 0 0 rfl; have d1 := HSq3.cell 0 1 rfl rfl; have f1 := HSq3.frozen 0 1 rfl; have d2 := HSq3.cell 0 2 rfl rfl; have f2 := HSq3.frozen 0 2 rfl; have d3 := HSq3.cell 0 3 rfl rfl; have f3 := HSq3.frozen 0 3 rfl; have d4 := HSq3.cell 0 4 rfl rfl; have f4 := HSq3.frozen 0 4 rfl; have d5 := HSq3.cell 0 5 rfl rfl; have f5 := HSq3.frozen 0 5 rfl) | ((with_reducible refine gate_store (t := 35) (p := 18) rfl ?_); refine store_event (t := 35) (p := 18) (v := ?vo36) (w1 := ((((((wq4.setCell ⟨g15, 0, none⟩ (.int .i64 2)).setCell ⟨g15, 1, none⟩ (.int .i64 1)).setCell ⟨g15, 2, none⟩ (.int .i64 6)).setCell ⟨g15, 3, none⟩ (.int .i64 i)).setCell ⟨g15, 4, none⟩ (.int .i64 nb)).setCell ⟨g15, 5, none⟩ (.slice Arb (PW16.piece xsb i).length crb))) ?hg36 ?ho36 ?hn36 ?hr36 ?_; (case ho36 => rfl); (case hg36 => rfl); (case hn36 => rfl); (case hr36 => first | (go_simp; done) | (go_simp; rfl)); intro wq6 hw; have HSq5 := ((((((HSq3.setAt 0 0 (.int .i64 2) rfl).setAt 0 1 (.int .i64 1) rfl).setAt 0 2 (.int .i64 6) rfl).setAt 0 3 (.int .i64 i) rfl).setAt 0 4 (.int .i64 nb) rfl).setAt 0 5 (.slice Arb (PW16.piece xsb i).length crb) rfl); rw [← hw] at HSq5; clear hw HSq3 d0 f0 d1 f1 d2 f2 d3 f3 d4 f4 d5 f5; have e0 := HSq5.cell 0 0 rfl rfl; have e1 := HSq5.cell 0 1 rfl rfl; have e2 := HSq5.cell 0 2 rfl rfl; have e3 := HSq5.cell 0 3 rfl rfl; have e4 := HSq5.cell 0 4 rfl rfl; have e5 := HSq5.cell 0 5 rfl rfl; have HSq7 : Sat w wq6 ([blk g15 (.cells #[.int .i64 2, .int .i64 1, .int .i64 6, .int .i64 i, .int .i64 nb, .slice Arb (PW16.piece xsb i).length crb] 35 (0, 0)), row kB 5 (.slice Arb (PW16.piece xsb i).length crb) (PW16.piece xsb i), rows kF 22 (.slice (some ⟨bfa, ofsa, none⟩) na cfa) (PW16.cutB 2 1 5 xsa), rows kF 22 (.slice (some ⟨bfb, ofsb, none⟩) nb cfb) (PW16.cutB 2 1 6 xsb)] ++ inbox g b σ) := HSq5; clear HSq5) | (have hgd := HSq7; clear hgd; go_at_call 19; refine (sAdd_no (L := blk g15 (.cells #[.int .i64 2, .int .i64 1, .int .i64 6, .int .i64 i, .int .i64 nb, .slice Arb (PW16.piece xsb i).length crb] 35 (0, 0)) :: row kB 5 (.slice Arb (PW16.piece xsb i).length crb) (PW16.piece xsb i) :: rows kF 22 (.slice (some ⟨bfa, ofsa, none⟩) na cfa) (PW16.cutB 2 1 5 xsa) :: rows kF 22 (.slice (some ⟨bfb, ofsb, none⟩) nb cfb) (PW16.cutB 2 1 6 xsb) :: []) g b σ (er σ) _ rfl 2 1 6 i nb Arb (PW16.piece xsb i).length crb (PW16.piece xsb i) (Prod.ext rfl HY.out) HWF.out (HRCb.out) (fun w' h => (h.readsRow 1 rfl).2.2) (add_short HPL.out) (HSq7.perm List.perm_append_comm)).mono ?_; rintro e wq8 ⟨rfl, σq10, Eq11, HSq9'⟩; have HSq9 := HSq9'.perm List.perm_append_comm; clear HSq7 HSq9'; clear e0 e1 e2 e3 e4 e5) | ((with_reducible refine gate_dst (N := 20) rfl ?_); refine box_event ?hg37 (N := 20) ?hd37 (cs := #[.int .i64 0, .int .i64 0, .int .i64 0, .slice none 0 0]) (t := 24) ?hr37 ?_; (case hd37 => rfl); (case hg37 => rfl); (case hr37 => first | (go_simp; done) | (go_simp; rfl)); intro g20 hg wq13 hbox hb; have HSq12 := HSq9.box hg hbox hb; clear HSq9 hg hbox hb; have d0 := HSq12.cell 0 0 rfl rfl; have f0 := HSq12.frozen 0 0 rfl; have d1 := HSq12.cell 0 1 rfl rfl; have f1 := HSq12.frozen 0 1 rfl; have d2 := HSq12.cell 0 2 rfl rfl; have f2 := HSq12.frozen 0 2 rfl; have d3 := HSq12.cell 0 3 rfl rfl; have f3 := HSq12.frozen 0 3 rfl) | ((with_reducible refine gate_store (t := 24) (p := 20) rfl ?_); refine store_event (t := 24) (p := 20) (v := ?vo38) (w1 := ((((wq13.setCell ⟨g20, 0, none⟩ (.int .i64 0)).setCell ⟨g20, 1, none⟩ (.int .i64 0)).setCell ⟨g20, 2, none⟩ (.int .i64 0)).setCell ⟨g20, 3, none⟩ (.slice none 0 0))) ?hg38 ?ho38 ?hn38 ?hr38 ?_; (case ho38 => rfl); (case hg38 => rfl); (case hn38 => rfl); (case hr38 => first | (go_simp; done) | (go_simp; rfl)); intro wq15 hw; have HSq14 := ((((HSq12.setAt 0 0 (.int .i64 0) rfl).setAt 0 1 (.int .i64 0) rfl).setAt 0 2 (.int .i64 0) rfl).setAt 0 3 (.slice none 0 0) rfl); rw [← hw] at HSq14; clear hw HSq12 d0 f0 d1 f1 d2 f2 d3 f3; have e0 := HSq14.cell 0 0 rfl rfl; have e1 := HSq14.cell 0 1 rfl rfl; have e2 := HSq14.cell 0 2 rfl rfl; have e3 := HSq14.cell 0 3 rfl rfl; have HSq16 : Sat w wq15 ([blk g20 (.cells #[.int .i64 0, .int .i64 0, .int .i64 0, .slice none 0 0] 24 (0, 0)), blk g15 (.cells #[.int .i64 2, .int .i64 1, .int .i64 6, .int .i64 i, .int .i64 nb, .slice Arb (PW16.piece xsb i).length crb] 35 (0, 0)), row kB 5 (.slice Arb (PW16.piece xsb i).length crb) (PW16.piece xsb i), rows kF 22 (.slice (some ⟨bfa, ofsa, none⟩) na cfa) (PW16.cutB 2 1 5 xsa), rows kF 22 (.slice (some ⟨bfb, ofsb, none⟩) nb cfb) (PW16.cutB 2 1 6 xsb)] ++ inbox g b σq10) := HSq14; clear HSq14; obtain ⟨bq, oq, hbe, hrows⟩ := rows_row (HSq16.readsRows 3 rfl).2.2 (show 0 < (PW16.cutB 2 1 5 xsa).length by rw [HCBa.out]; omega); injection hbe with hbe; injection hbe with hb1 hb2; subst hb1 hb2; obtain ⟨Aka, cka, kfa, hcla, hck2⟩ := hrows kk (by rw [HCBa.out]; exact hkk); rw [cutB_at 2 1 5 xsa kk (by rw [← HNa.out]; exact hkk)] at kfa hcla hck2; obtain ⟨lka, hlk⟩ : ∃ lk, lk = (PW16.frameOf 2 1 5 xsa kk).length := ⟨_, rfl⟩; rw [← hlk] at kfa hcla hck2; have HCKa := Aside0.mk hck2; clear hrows hlk hck2) | (have hgd := HSq16; clear hgd; go_at_call 18; refine (readFrame 2 1 5 xsa kk Aka lka cka HCKa.out hcla HHda.out HLa.out HXa.out (by rw [← HNa.out]; exact hkk)).mono ?_; rintro e wq17 ⟨vr, rfl, HH⟩; have HSq18 : Sat w wq17 ([row kB 5 vr (PW16.piece xsa kk), blk g20 (.cells #[.int .i64 0, .int .i64 0, .int .i64 0, .slice none 0 0] 24 (0, 0)), blk g15 (.cells #[.int .i64 2, .int .i64 1, .int .i64 6, .int .i64 i, .int .i64 nb, .slice Arb (PW16.piece xsb i).length crb] 35 (0, 0)), row kB 5 (.slice Arb (PW16.piece xsb i).length crb) (PW16.piece xsb i), rows kF 22 (.slice (some ⟨bfa, ofsa, none⟩) na cfa) (PW16.cutB 2 1 5 xsa), rows kF 22 (.slice (some ⟨bfb, ofsb, none⟩) nb cfb) (PW16.cutB 2 1 6 xsb)] ++ inbox g b σq10) := HSq16.frame HH; rw [← HNa.out]; clear HSq16 HH e0 e1 e2 e3 kfa; obtain ⟨Ara, cra, rfl⟩ := HSq18.rowShape 0 rfl; have HRCa := Aside0.mk (HRC1a.out _ _ _ _ _ HSq18)) | ((with_reducible refine gate_dst (N := 22) rfl ?_); refine box_event ?hg39 (N := 22) ?hd39 (cs := #[.int .i64 0, .int .i64 0, .int .i64 0, .int .i64 0, .int .i64 0, .slice none 0 0]) (t := 35) ?hr39 ?_; (case hd39 => rfl); (case hg39 => rfl); (case hr39 => first | (go_simp; done) | (go_simp; rfl)); intro g22 hg wq20 hbox hb; have HSq19 := HSq18.box hg hbox hb; clear HSq18 hg hbox hb; have d0 := HSq19.cell 0 0 rfl rfl; have f0 := HSq19.frozen 0 0 rfl; have d1 := HSq19.cell 0 1 rfl rfl; have f1 := HSq19.frozen 0 1 rfl; have d2 := HSq19.cell 0 2 rfl rfl; have f2 := HSq19.frozen 0 2 rfl; have d3 := HSq19.cell 0 3 rfl rfl; have f3 := HSq19.frozen 0 3 rfl; have d4 := HSq19.cell 0 4 rfl rfl; have f4 := HSq19.frozen 0 4 rfl; have d5 := HSq19.cell 0 5 rfl rfl; have f5 := HSq19.frozen 0 5 rfl) | ((with_reducible refine gate_store (t := 35) (p := 22) rfl ?_); refine store_event (t := 35) (p := 22) (v := ?vo40) (w1 := ((((((wq20.setCell ⟨g22, 0, none⟩ (.int .i64 2)).setCell ⟨g22, 1, none⟩ (.int .i64 1)).setCell ⟨g22, 2, none⟩ (.int .i64 5)).setCell ⟨g22, 3, none⟩ (.int .i64 kk)).setCell ⟨g22, 4, none⟩ (.int .i64 na)).setCell ⟨g22, 5, none⟩ (.slice Ara (PW16.piece xsa kk).length cra))) ?hg40 ?ho40 ?hn40 ?hr40 ?_; (case ho40 => rfl); (case hg40 => rfl); (case hn40 => rfl); (case hr40 => first | (go_simp; done) | (go_simp; rfl)); intro wq22 hw; have HSq21 := ((((((HSq19.setAt 0 0 (.int .i64 2) rfl).setAt 0 1 (.int .i64 1) rfl).setAt 0 2 (.int .i64 5) rfl).setAt 0 3 (.int .i64 kk) rfl).setAt 0 4 (.int .i64 na) rfl).setAt 0 5 (.slice Ara (PW16.piece xsa kk).length cra) rfl); rw [← hw] at HSq21; clear hw HSq19 d0 f0 d1 f1 d2 f2 d3 f3 d4 f4 d5 f5; have e0 := HSq21.cell 0 0 rfl rfl; have e1 := HSq21.cell 0 1 rfl rfl; have e2 := HSq21.cell 0 2 rfl rfl; have e3 := HSq21.cell 0 3 rfl rfl; have e4 := HSq21.cell 0 4 rfl rfl; have e5 := HSq21.cell 0 5 rfl rfl; have HSq23 : Sat w wq22 ([blk g22 (.cells #[.int .i64 2, .int .i64 1, .int .i64 5, .int .i64 kk, .int .i64 na, .slice Ara (PW16.piece xsa kk).length cra] 35 (0, 0)), row kB 5 (.slice Ara (PW16.piece xsa kk).length cra) (PW16.piece xsa kk), blk g20 (.cells #[.int .i64 0, .int .i64 0, .int .i64 0, .slice none 0 0] 24 (0, 0)), blk g15 (.cells #[.int .i64 2, .int .i64 1, .int .i64 6, .int .i64 i, .int .i64 nb, .slice Arb (PW16.piece xsb i).length crb] 35 (0, 0)), row kB 5 (.slice Arb (PW16.piece xsb i).length crb) (PW16.piece xsb i), rows kF 22 (.slice (some ⟨bfa, ofsa, none⟩) na cfa) (PW16.cutB 2 1 5 xsa), rows kF 22 (.slice (some ⟨bfb, ofsb, none⟩) nb cfb) (PW16.cutB 2 1 6 xsb)] ++ inbox g b σq10) := HSq21; clear HSq21) | (have hgd := HSq23; clear hgd; go_at_call 19; refine (sAdd_no (L := blk g22 (.cells #[.int .i64 2, .int .i64 1, .int .i64 5, .int .i64 kk, .int .i64 na, .slice Ara (PW16.piece xsa kk).length cra] 35 (0, 0)) :: row kB 5 (.slice Ara (PW16.piece xsa kk).length cra) (PW16.piece xsa kk) :: blk g20 (.cells #[.int .i64 0, .int .i64 0, .int .i64 0, .slice none 0 0] 24 (0, 0)) :: blk g15 (.cells #[.int .i64 2, .int .i64 1, .int .i64 6, .int .i64 i, .int .i64 nb, .slice Arb (PW16.piece xsb i).length crb] 35 (0, 0)) :: row kB 5 (.slice Arb (PW16.piece xsb i).length crb) (PW16.piece xsb i) :: rows kF 22 (.slice (some ⟨bfa, ofsa, none⟩) na cfa) (PW16.cutB 2 1 5 xsa) :: rows kF 22 (.slice (some ⟨bfb, ofsb, none⟩) nb cfb) (PW16.cutB 2 1 6 xsb) :: []) g b σq10 (er σq10) _ rfl 2 1 5 kk na Ara (PW16.piece xsa kk).length cra (PW16.piece xsa kk) (Prod.ext rfl (by obtain ⟨s, hs, hs6⟩ := HG6.out; rw [(add_get (er σq10) 2 1 5 kk na (PW16.piece xsa kk)).2.1, Eq11, hs, (add_lower hs6 (show (5 : Int) < 6 by decide) _).1])) (by rw [Eq11]; exact HWF2.out) (HRCa.out) (fun w' h => (h.readsRow 1 rfl).2.2) (add_short HPK.out) (HSq23.perm List.perm_append_comm)).mono ?_; rintro e wq24 ⟨rfl, σq26, Eq27, HSq25'⟩; have HSq25 := HSq25'.perm List.perm_append_comm; clear HSq23 HSq25'; clear e0 e1 e2 e3 e4 e5) | ((with_reducible refine gate_dst (N := 24) rfl ?_); refine box_event ?hg41 (N := 24) ?hd41 (cs := #[.int .i64 0, .int .i64 0, .int .i64 0, .slice none 0 0]) (t := 24) ?hr41 ?_; (case hd41 => rfl); (case hg41 => rfl); (case hr41 => first | (go_simp; done) | (go_simp; rfl)); intro g24 hg wq29 hbox hb; have HSq28 := HSq25.box hg hbox hb; clear HSq25 hg hbox hb; have d0 := HSq28.cell 0 0 rfl rfl; have f0 := HSq28.frozen 0 0 rfl; have d1 := HSq28.cell 0 1 rfl rfl; have f1 := HSq28.frozen 0 1 rfl; have d2 := HSq28.cell 0 2 rfl rfl; have f2 := HSq28.frozen 0 2 rfl; have d3 := HSq28.cell 0 3 rfl rfl; have f3 := HSq28.frozen 0 3 rfl) | ((with_reducible refine gate_store (t := 24) (p := 24) rfl ?_); refine store_event (t := 24) (p := 24) (v := ?vo42) (w1 := ((((wq29.setCell ⟨g24, 0, none⟩ (.int .i64 0)).setCell ⟨g24, 1, none⟩ (.int .i64 0)).setCell ⟨g24, 2, none⟩ (.int .i64 0)).setCell ⟨g24, 3, none⟩ (.slice none 0 0))) ?hg42 ?ho42 ?hn42 ?hr42 ?_; (case ho42 => rfl); (case hg42 => rfl); (case hn42 => rfl); (case hr42 => first | (go_simp; done) | (go_simp; rfl)); intro wq31 hw; have HSq30 := ((((HSq28.setAt 0 0 (.int .i64 0) rfl).setAt 0 1 (.int .i64 0) rfl).setAt 0 2 (.int .i64 0) rfl).setAt 0 3 (.slice none 0 0) rfl); rw [← hw] at HSq30; clear hw HSq28 d0 f0 d1 f1 d2 f2 d3 f3))
                  exact ⟨⟨i + 1, by rw [Int.natCast_add]; rfl, by omega, σq26, by obtain ⟨s, hs, hs6⟩ := HG6.out; rw [Eq27, (add_get (er σq10) 2 1 5 kk na (PW16.piece xsa kk)).1, Eq11, hs, (add_lower hs6 (show (5 : Int) < 6 by decide) _).1, ← hs, HAG.out.1]; exact HP.out.2, by rw [Eq27]; exact add_wf (by rw [Eq11]; exact HWF2.out) _ _ _ _ _ (fun _ => HPK.out), HSq30.tail.tail.tail.tail.tail.tail⟩, by simp [intOf]; omega⟩
                · have HP := Aside0.mk (HF.out.step hlt hnb2 HNb.out)
                  have HAG := Aside0.mk (add_get (er σ) 2 1 6 i nb (PW16.piece xsb i))
                  have HPL := Aside0.mk (show (PW16.piece xsb i).length ≤ 1048576 from by rw [PW16.piece_len]; omega)
                  have HPK := Aside0.mk (show (PW16.piece xsa kk).length ≤ 1048576 from by rw [PW16.piece_len]; omega)
                  have HWF2 := Aside0.mk (add_wf HWF.out 2 1 6 i nb (bs := PW16.piece xsb i) (fun _ => HPL.out))
                  have hle1 : ((i : Int) == (nb : Int) - 1) = true := by simp; omega
                  have HY := Aside0.mk (show (addE (er σ) 2 1 6 i nb (PW16.piece xsb i)).2 = some xsb from by rw [HAG.out.2.1, HP.out.1]; exact if_neg hful)
                  have hstr : ((strOfNums xsb).toList != (strOfNums xsb).toList) = false := by simp
                  have hstr2 : ((strOfNums xsb).toList == (strOfNums xsb).toList) = true := by simp
                  obtain ⟨bq, oq, hbe, hrows⟩ := rows_row (HS9.readsRows 1 rfl).2.2 (show 0 < (PW16.cutB 2 1 6 xsb).length by rw [HCBb.out]; omega)
                  injection hbe with hbe
                  injection hbe with hb1 hb2
                  subst hb1 hb2
                  obtain ⟨Akb, ckb, kfb, hclb, hck2⟩ := hrows i (by rw [HCBb.out]; exact hlt)
                  rw [cutB_at 2 1 6 xsb i (by rw [← HNb.out]; exact hlt)] at kfb hclb hck2
                  obtain ⟨lkb, hlk⟩ : ∃ lk, lk = (PW16.frameOf 2 1 6 xsb i).length := ⟨_, rfl⟩
                  rw [← hlk] at kfb hclb hck2
                  have HCKb := Aside0.mk hck2
                  clear hrows hlk hck2
                  have HRC1b := Aside0.mk (show ∀ (w0 w' : World) (Ar : Option Addr) (cr : Nat) (l : List Asrt), Sat w0 w' (row kB 5 (.slice Ar (PW16.piece xsb i).length cr) (PW16.piece xsb i) :: l) → (PW16.piece xsb i).length ≤ cr from fun _ _ _ _ _ h => (h.readsRow 0 rfl).2.1)
                  have HRC1a := Aside0.mk (show ∀ (w0 w' : World) (Ar : Option Addr) (cr : Nat) (l : List Asrt), Sat w0 w' (row kB 5 (.slice Ar (PW16.piece xsa kk).length cr) (PW16.piece xsa kk) :: l) → (PW16.piece xsa kk).length ≤ cr from fun _ _ _ _ _ h => (h.readsRow 0 rfl).2.1)
                  have HG6 := Aside0.mk (show ∃ s : KS, getE (addE (er σ) 2 1 6 i nb (PW16.piece xsb i)).1 (2, 1) = some s ∧ s.1 = 6 from by rw [HAG.out.1]; exact HP.out.2.some_ (Nat.succ_pos _))
                  go_wp2_with (first | (have hgd := HS9; clear hgd; go_at_call 18; refine (readFrame 2 1 6 xsb i Akb lkb ckb HCKb.out hclb HHdb.out HLb.out HXb.out (by rw [← HNb.out]; exact hlt)).mono ?_; rintro e wq1 ⟨vr, rfl, HH⟩; have HSq2 : Sat w wq1 ([row kB 5 vr (PW16.piece xsb i), rows kF 22 (.slice (some ⟨bfa, ofsa, none⟩) na cfa) (PW16.cutB 2 1 5 xsa), rows kF 22 (.slice (some ⟨bfb, ofsb, none⟩) nb cfb) (PW16.cutB 2 1 6 xsb)] ++ inbox g b σ) := HS9.frame HH; rw [← HNb.out]; clear HS9 HH; obtain ⟨Arb, crb, rfl⟩ := HSq2.rowShape 0 rfl; have HRCb := Aside0.mk (HRC1b.out _ _ _ _ _ HSq2)) | ((with_reducible refine gate_dst (N := 18) rfl ?_); refine box_event ?hg43 (N := 18) ?hd43 (cs := #[.int .i64 0, .int .i64 0, .int .i64 0, .int .i64 0, .int .i64 0, .slice none 0 0]) (t := 35) ?hr43 ?_; (case hd43 => rfl); (case hg43 => rfl); (case hr43 => first | (go_simp; done) | (go_simp; rfl)); intro g15 hg wq4 hbox hb; have HSq3 := HSq2.box hg hbox hb; clear HSq2 hg hbox hb; have d0 := HSq3.cell 0 0 rfl rfl; have f0 := HSq3.frozen 0 0 rfl; have d1 := HSq3.cell 0 1 rfl rfl; have f1 := HSq3.frozen 0 1 rfl; have d2 := HSq3.cell 0 2 rfl rfl; have f2 := HSq3.frozen 0 2 rfl; have d3 := HSq3.cell 0 3 rfl rfl; have f3 := HSq3.frozen 0 3 rfl; have d4 := HSq3.cell 0 4 rfl rfl; have f4 := HSq3.frozen 0 4 rfl; have d5 := HSq3.cell 0 5 rfl rfl; have f5 := HSq3.frozen 0 5 rfl) | ((with_reducible refine gate_store (t := 35) (p := 18) rfl ?_); refine store_event (t := 35) (p := 18) (v := ?vo44) (w1 := ((((((wq4.setCell ⟨g15, 0, none⟩ (.int .i64 2)).setCell ⟨g15, 1, none⟩ (.int .i64 1)).setCell ⟨g15, 2, none⟩ (.int .i64 6)).setCell ⟨g15, 3, none⟩ (.int .i64 i)).setCell ⟨g15, 4, none⟩ (.int .i64 nb)).setCell ⟨g15, 5, none⟩ (.slice Arb (PW16.piece xsb i).length crb))) ?hg44 ?ho44 ?hn44 ?hr44 ?_; (case ho44 => rfl); (case hg44 => rfl); (case hn44 => rfl); (case hr44 => first | (go_simp; done) | (go_simp; rfl)); intro wq6 hw; have HSq5 := ((((((HSq3.setAt 0 0 (.int .i64 2) rfl).setAt 0 1 (.int .i64 1) rfl).setAt 0 2 (.int .i64 6) rfl).setAt 0 3 (.int .i64 i) rfl).setAt 0 4 (.int .i64 nb) rfl).setAt 0 5 (.slice Arb (PW16.piece xsb i).length crb) rfl); rw [← hw] at HSq5; clear hw HSq3 d0 f0 d1 f1 d2 f2 d3 f3 d4 f4 d5 f5; have e0 := HSq5.cell 0 0 rfl rfl; have e1 := HSq5.cell 0 1 rfl rfl; have e2 := HSq5.cell 0 2 rfl rfl; have e3 := HSq5.cell 0 3 rfl rfl; have e4 := HSq5.cell 0 4 rfl rfl; have e5 := HSq5.cell 0 5 rfl rfl; have HSq7 : Sat w wq6 ([blk g15 (.cells #[.int .i64 2, .int .i64 1, .int .i64 6, .int .i64 i, .int .i64 nb, .slice Arb (PW16.piece xsb i).length crb] 35 (0, 0)), row kB 5 (.slice Arb (PW16.piece xsb i).length crb) (PW16.piece xsb i), rows kF 22 (.slice (some ⟨bfa, ofsa, none⟩) na cfa) (PW16.cutB 2 1 5 xsa), rows kF 22 (.slice (some ⟨bfb, ofsb, none⟩) nb cfb) (PW16.cutB 2 1 6 xsb)] ++ inbox g b σ) := HSq5; clear HSq5) | (have hgd := HSq7; clear hgd; go_at_call 19; refine (sAdd_yes (L := blk g15 (.cells #[.int .i64 2, .int .i64 1, .int .i64 6, .int .i64 i, .int .i64 nb, .slice Arb (PW16.piece xsb i).length crb] 35 (0, 0)) :: row kB 5 (.slice Arb (PW16.piece xsb i).length crb) (PW16.piece xsb i) :: rows kF 22 (.slice (some ⟨bfa, ofsa, none⟩) na cfa) (PW16.cutB 2 1 5 xsa) :: rows kF 22 (.slice (some ⟨bfb, ofsb, none⟩) nb cfb) (PW16.cutB 2 1 6 xsb) :: []) g b σ (er σ) _ rfl 2 1 6 i nb Arb (PW16.piece xsb i).length crb (PW16.piece xsb i) xsb (Prod.ext rfl HY.out) HWF.out (HRCb.out) (fun w' h => (h.readsRow 1 rfl).2.2) (add_short HPL.out) (HSq7.perm List.perm_append_comm)).mono ?_; rintro e wq8 ⟨vm, rfl, σq10, Eq11, HSq9'⟩; obtain ⟨Am, cm, rfl⟩ := HSq9'.rowShape 0 rfl; have HSq9 := HSq9'.perm (List.Perm.cons _ List.perm_append_comm); clear HSq7 HSq9'; clear e0 e1 e2 e3 e4 e5) | ((with_reducible refine gate_dst (N := 20) rfl ?_); refine box_event ?hg45 (N := 20) ?hd45 (cs := #[.int .i64 0, .int .i64 0, .int .i64 0, .slice none 0 0]) (t := 24) ?hr45 ?_; (case hd45 => rfl); (case hg45 => rfl); (case hr45 => first | (go_simp; done) | (go_simp; rfl)); intro g20 hg wq13 hbox hb; have HSq12 := HSq9.box hg hbox hb; clear HSq9 hg hbox hb; have d0 := HSq12.cell 0 0 rfl rfl; have f0 := HSq12.frozen 0 0 rfl; have d1 := HSq12.cell 0 1 rfl rfl; have f1 := HSq12.frozen 0 1 rfl; have d2 := HSq12.cell 0 2 rfl rfl; have f2 := HSq12.frozen 0 2 rfl; have d3 := HSq12.cell 0 3 rfl rfl; have f3 := HSq12.frozen 0 3 rfl) | ((with_reducible refine gate_store (t := 24) (p := 20) rfl ?_); refine store_event (t := 24) (p := 20) (v := ?vo46) (w1 := ((((wq13.setCell ⟨g20, 0, none⟩ (.int .i64 2)).setCell ⟨g20, 1, none⟩ (.int .i64 1)).setCell ⟨g20, 2, none⟩ (.int .i64 6)).setCell ⟨g20, 3, none⟩ (.slice Am (xsb).length cm))) ?hg46 ?ho46 ?hn46 ?hr46 ?_; (case ho46 => rfl); (case hg46 => rfl); (case hn46 => rfl); (case hr46 => first | (go_simp; done) | (go_simp; rfl)); intro wq15 hw; have HSq14 := ((((HSq12.setAt 0 0 (.int .i64 2) rfl).setAt 0 1 (.int .i64 1) rfl).setAt 0 2 (.int .i64 6) rfl).setAt 0 3 (.slice Am (xsb).length cm) rfl); rw [← hw] at HSq14; clear hw HSq12 d0 f0 d1 f1 d2 f2 d3 f3; have e0 := HSq14.cell 0 0 rfl rfl; have e1 := HSq14.cell 0 1 rfl rfl; have e2 := HSq14.cell 0 2 rfl rfl; have e3 := HSq14.cell 0 3 rfl rfl; have sa := Kd.C_string (P := Try.prog) (src := 22) (dst := 9) (c := cm) Try.underlying22 Try.underlying5 Try.underlying9 (HSq14.readsRow 1 rfl).2.2; have sb := Kd.C_string (P := Try.prog) (src := 22) (dst := 9) (c := cb) Try.underlying22 Try.underlying5 Try.underlying9 (Kd.C_below HRb.out HSq14.below); have HSq16 : Sat w wq15 ([blk g20 (.cells #[.int .i64 2, .int .i64 1, .int .i64 6, .slice Am (xsb).length cm] 24 (0, 0)), row kB 5 (.slice Am (xsb).length cm) xsb, blk g15 (.cells #[.int .i64 2, .int .i64 1, .int .i64 6, .int .i64 i, .int .i64 nb, .slice Arb (PW16.piece xsb i).length crb] 35 (0, 0)), row kB 5 (.slice Arb (PW16.piece xsb i).length crb) (PW16.piece xsb i), rows kF 22 (.slice (some ⟨bfa, ofsa, none⟩) na cfa) (PW16.cutB 2 1 5 xsa), rows kF 22 (.slice (some ⟨bfb, ofsb, none⟩) nb cfb) (PW16.cutB 2 1 6 xsb)] ++ inbox g b σq10) := HSq14; clear HSq14; obtain ⟨bq, oq, hbe, hrows⟩ := rows_row (HSq16.readsRows 4 rfl).2.2 (show 0 < (PW16.cutB 2 1 5 xsa).length by rw [HCBa.out]; omega); injection hbe with hbe; injection hbe with hb1 hb2; subst hb1 hb2; obtain ⟨Aka, cka, kfa, hcla, hck2⟩ := hrows kk (by rw [HCBa.out]; exact hkk); rw [cutB_at 2 1 5 xsa kk (by rw [← HNa.out]; exact hkk)] at kfa hcla hck2; obtain ⟨lka, hlk⟩ : ∃ lk, lk = (PW16.frameOf 2 1 5 xsa kk).length := ⟨_, rfl⟩; rw [← hlk] at kfa hcla hck2; have HCKa := Aside0.mk hck2; clear hrows hlk hck2) | (have hgd := HSq16; clear hgd; go_at_call 18; refine (readFrame 2 1 5 xsa kk Aka lka cka HCKa.out hcla HHda.out HLa.out HXa.out (by rw [← HNa.out]; exact hkk)).mono ?_; rintro e wq17 ⟨vr, rfl, HH⟩; have HSq18 : Sat w wq17 ([row kB 5 vr (PW16.piece xsa kk), blk g20 (.cells #[.int .i64 2, .int .i64 1, .int .i64 6, .slice Am (xsb).length cm] 24 (0, 0)), row kB 5 (.slice Am (xsb).length cm) xsb, blk g15 (.cells #[.int .i64 2, .int .i64 1, .int .i64 6, .int .i64 i, .int .i64 nb, .slice Arb (PW16.piece xsb i).length crb] 35 (0, 0)), row kB 5 (.slice Arb (PW16.piece xsb i).length crb) (PW16.piece xsb i), rows kF 22 (.slice (some ⟨bfa, ofsa, none⟩) na cfa) (PW16.cutB 2 1 5 xsa), rows kF 22 (.slice (some ⟨bfb, ofsb, none⟩) nb cfb) (PW16.cutB 2 1 6 xsb)] ++ inbox g b σq10) := HSq16.frame HH; rw [← HNa.out]; clear HSq16 HH e0 e1 e2 e3 sa sb kfa; obtain ⟨Ara, cra, rfl⟩ := HSq18.rowShape 0 rfl; have HRCa := Aside0.mk (HRC1a.out _ _ _ _ _ HSq18)) | ((with_reducible refine gate_dst (N := 22) rfl ?_); refine box_event ?hg47 (N := 22) ?hd47 (cs := #[.int .i64 0, .int .i64 0, .int .i64 0, .int .i64 0, .int .i64 0, .slice none 0 0]) (t := 35) ?hr47 ?_; (case hd47 => rfl); (case hg47 => rfl); (case hr47 => first | (go_simp; done) | (go_simp; rfl)); intro g22 hg wq20 hbox hb; have HSq19 := HSq18.box hg hbox hb; clear HSq18 hg hbox hb; have d0 := HSq19.cell 0 0 rfl rfl; have f0 := HSq19.frozen 0 0 rfl; have d1 := HSq19.cell 0 1 rfl rfl; have f1 := HSq19.frozen 0 1 rfl; have d2 := HSq19.cell 0 2 rfl rfl; have f2 := HSq19.frozen 0 2 rfl; have d3 := HSq19.cell 0 3 rfl rfl; have f3 := HSq19.frozen 0 3 rfl; have d4 := HSq19.cell 0 4 rfl rfl; have f4 := HSq19.frozen 0 4 rfl; have d5 := HSq19.cell 0 5 rfl rfl; have f5 := HSq19.frozen 0 5 rfl) | ((with_reducible refine gate_store (t := 35) (p := 22) rfl ?_); refine store_event (t := 35) (p := 22) (v := ?vo48) (w1 := ((((((wq20.setCell ⟨g22, 0, none⟩ (.int .i64 2)).setCell ⟨g22, 1, none⟩ (.int .i64 1)).setCell ⟨g22, 2, none⟩ (.int .i64 5)).setCell ⟨g22, 3, none⟩ (.int .i64 kk)).setCell ⟨g22, 4, none⟩ (.int .i64 na)).setCell ⟨g22, 5, none⟩ (.slice Ara (PW16.piece xsa kk).length cra))) ?hg48 ?ho48 ?hn48 ?hr48 ?_; (case ho48 => rfl); (case hg48 => rfl); (case hn48 => rfl); (case hr48 => first | (go_simp; done) | (go_simp; rfl)); intro wq22 hw; have HSq21 := ((((((HSq19.setAt 0 0 (.int .i64 2) rfl).setAt 0 1 (.int .i64 1) rfl).setAt 0 2 (.int .i64 5) rfl).setAt 0 3 (.int .i64 kk) rfl).setAt 0 4 (.int .i64 na) rfl).setAt 0 5 (.slice Ara (PW16.piece xsa kk).length cra) rfl); rw [← hw] at HSq21; clear hw HSq19 d0 f0 d1 f1 d2 f2 d3 f3 d4 f4 d5 f5; have e0 := HSq21.cell 0 0 rfl rfl; have e1 := HSq21.cell 0 1 rfl rfl; have e2 := HSq21.cell 0 2 rfl rfl; have e3 := HSq21.cell 0 3 rfl rfl; have e4 := HSq21.cell 0 4 rfl rfl; have e5 := HSq21.cell 0 5 rfl rfl; have HSq23 : Sat w wq22 ([blk g22 (.cells #[.int .i64 2, .int .i64 1, .int .i64 5, .int .i64 kk, .int .i64 na, .slice Ara (PW16.piece xsa kk).length cra] 35 (0, 0)), row kB 5 (.slice Ara (PW16.piece xsa kk).length cra) (PW16.piece xsa kk), blk g20 (.cells #[.int .i64 2, .int .i64 1, .int .i64 6, .slice Am (xsb).length cm] 24 (0, 0)), row kB 5 (.slice Am (xsb).length cm) xsb, blk g15 (.cells #[.int .i64 2, .int .i64 1, .int .i64 6, .int .i64 i, .int .i64 nb, .slice Arb (PW16.piece xsb i).length crb] 35 (0, 0)), row kB 5 (.slice Arb (PW16.piece xsb i).length crb) (PW16.piece xsb i), rows kF 22 (.slice (some ⟨bfa, ofsa, none⟩) na cfa) (PW16.cutB 2 1 5 xsa), rows kF 22 (.slice (some ⟨bfb, ofsb, none⟩) nb cfb) (PW16.cutB 2 1 6 xsb)] ++ inbox g b σq10) := HSq21; clear HSq21) | (have hgd := HSq23; clear hgd; go_at_call 19; refine (sAdd_no (L := blk g22 (.cells #[.int .i64 2, .int .i64 1, .int .i64 5, .int .i64 kk, .int .i64 na, .slice Ara (PW16.piece xsa kk).length cra] 35 (0, 0)) :: row kB 5 (.slice Ara (PW16.piece xsa kk).length cra) (PW16.piece xsa kk) :: blk g20 (.cells #[.int .i64 2, .int .i64 1, .int .i64 6, .slice Am (xsb).length cm] 24 (0, 0)) :: row kB 5 (.slice Am (xsb).length cm) xsb :: blk g15 (.cells #[.int .i64 2, .int .i64 1, .int .i64 6, .int .i64 i, .int .i64 nb, .slice Arb (PW16.piece xsb i).length crb] 35 (0, 0)) :: row kB 5 (.slice Arb (PW16.piece xsb i).length crb) (PW16.piece xsb i) :: rows kF 22 (.slice (some ⟨bfa, ofsa, none⟩) na cfa) (PW16.cutB 2 1 5 xsa) :: rows kF 22 (.slice (some ⟨bfb, ofsb, none⟩) nb cfb) (PW16.cutB 2 1 6 xsb) :: []) g b σq10 (er σq10) _ rfl 2 1 5 kk na Ara (PW16.piece xsa kk).length cra (PW16.piece xsa kk) (Prod.ext rfl (by obtain ⟨s, hs, hs6⟩ := HG6.out; rw [(add_get (er σq10) 2 1 5 kk na (PW16.piece xsa kk)).2.1, Eq11, hs, (add_lower hs6 (show (5 : Int) < 6 by decide) _).1])) (by rw [Eq11]; exact HWF2.out) (HRCa.out) (fun w' h => (h.readsRow 1 rfl).2.2) (add_short HPK.out) (HSq23.perm List.perm_append_comm)).mono ?_; rintro e wq24 ⟨rfl, σq26, Eq27, HSq25'⟩; have HSq25 := HSq25'.perm List.perm_append_comm; clear HSq23 HSq25'; clear e0 e1 e2 e3 e4 e5) | ((with_reducible refine gate_dst (N := 24) rfl ?_); refine box_event ?hg49 (N := 24) ?hd49 (cs := #[.int .i64 0, .int .i64 0, .int .i64 0, .slice none 0 0]) (t := 24) ?hr49 ?_; (case hd49 => rfl); (case hg49 => rfl); (case hr49 => first | (go_simp; done) | (go_simp; rfl)); intro g24 hg wq29 hbox hb; have HSq28 := HSq25.box hg hbox hb; clear HSq25 hg hbox hb; have d0 := HSq28.cell 0 0 rfl rfl; have f0 := HSq28.frozen 0 0 rfl; have d1 := HSq28.cell 0 1 rfl rfl; have f1 := HSq28.frozen 0 1 rfl; have d2 := HSq28.cell 0 2 rfl rfl; have f2 := HSq28.frozen 0 2 rfl; have d3 := HSq28.cell 0 3 rfl rfl; have f3 := HSq28.frozen 0 3 rfl) | ((with_reducible refine gate_store (t := 24) (p := 24) rfl ?_); refine store_event (t := 24) (p := 24) (v := ?vo50) (w1 := ((((wq29.setCell ⟨g24, 0, none⟩ (.int .i64 0)).setCell ⟨g24, 1, none⟩ (.int .i64 0)).setCell ⟨g24, 2, none⟩ (.int .i64 0)).setCell ⟨g24, 3, none⟩ (.slice none 0 0))) ?hg50 ?ho50 ?hn50 ?hr50 ?_; (case ho50 => rfl); (case hg50 => rfl); (case hn50 => rfl); (case hr50 => first | (go_simp; done) | (go_simp; rfl)); intro wq31 hw; have HSq30 := ((((HSq28.setAt 0 0 (.int .i64 0) rfl).setAt 0 1 (.int .i64 0) rfl).setAt 0 2 (.int .i64 0) rfl).setAt 0 3 (.slice none 0 0) rfl); rw [← hw] at HSq30; clear hw HSq28 d0 f0 d1 f1 d2 f2 d3 f3))
                  exact ⟨⟨i + 1, by rw [Int.natCast_add]; rfl, by omega, σq26, by obtain ⟨s, hs, hs6⟩ := HG6.out; rw [Eq27, (add_get (er σq10) 2 1 5 kk na (PW16.piece xsa kk)).1, Eq11, hs, (add_lower hs6 (show (5 : Int) < 6 by decide) _).1, ← hs, HAG.out.1]; exact HP.out.2, by rw [Eq27]; exact add_wf (by rw [Eq11]; exact HWF2.out) _ _ _ _ _ (fun _ => HPK.out), HSq30.tail.tail.tail.tail.tail.tail.tail⟩, by simp [intOf]; omega⟩
              · have hltd : decide ((i : Int) < (nb : Int)) = false := decide_eq_false (by omega)
                have hlte : decide (i < nb) = false := decide_eq_false hlt
                have hm : missK (getE (er σ) (2, 1)) = 0 := HF.out.miss (by omega) (by omega)
                have HM := Aside0.mk hm
                clear hm
                go_wp2_with (go_at_call 21; refine (sMiss g b σ 2 1 HWF.out (HS9.perm List.perm_append_comm)).mono ?_; rintro e w10 ⟨he, HS10⟩; rw [HM.out] at he; subst he; clear HS9)
                go_ret
                exact ⟨rfl, HS10.below⟩
    · have HCEa := Aside0.mk (show PW16.cutE 2 1 5 xsa = 0 from heca.symm.trans hza)
      have HCEb := Aside0.mk hecb.symm
      have hz1 : (ecb == 0) = false := by simpa using hzb
      have hz2 : (ecb != 0) = true := by simpa using hzb
      obtain ⟨na, hna⟩ : ∃ n, n = PW16.cutN xsa.length := ⟨_, rfl⟩
      have HNa := Aside0.mk hna
      clear heca hza hecb hzb hna
      go_enter Try.func4, Try.ntmps4
      go_wp2_with (first | (go_at_call 15; refine (shown17_calls HS).mono ?_; rintro e w3 ⟨rfl, HS3⟩; clear HS) | (go_at_call 17; refine (sNew_calls HS3).mono ?_; rintro e w4 ⟨g, b, rfl, HS4⟩; clear HS3) | (have hgd := HS4; clear hgd; go_at_call 16; refine (cut16_ok 2 1 5 Aa lena ca xsa na HCEa.out HNa.out (Kd.C_below HRa.out HS4.below) hca).mono ?_; rintro e w5 ⟨bfa, ofsa, cfa, rfl, HH⟩; have HS5 := HS4.frame HH; clear HS4 HH) | (have hgd := HS5; clear hgd; go_at_call 16; refine (cut16_no 2 1 6 Ab lenb cb xsb ecb HCEb.out (Kd.C_below HRb.out HS5.below) hcb).mono ?_; rintro e w6 ⟨vfb, rfl, HH⟩; have HS6 := HS5.frame HH; clear HS5 HH))
      go_ret
      exact ⟨rfl, HS6.below⟩
  · have HCEa := Aside0.mk heca.symm
    have hz1 : (eca == 0) = false := by simpa using hza
    have hz2 : (eca != 0) = true := by simpa using hza
    clear heca hza
    by_cases hzb : ecb = 0
    · have HCEb := Aside0.mk (show PW16.cutE 2 1 6 xsb = 0 from hecb.symm.trans hzb)
      obtain ⟨nb, hnb⟩ : ∃ n, n = PW16.cutN xsb.length := ⟨_, rfl⟩
      have HNb := Aside0.mk hnb
      clear hecb hzb hnb
      go_enter Try.func4, Try.ntmps4
      go_wp2_with (first | (go_at_call 15; refine (shown17_calls HS).mono ?_; rintro e w3 ⟨rfl, HS3⟩; clear HS) | (go_at_call 17; refine (sNew_calls HS3).mono ?_; rintro e w4 ⟨g, b, rfl, HS4⟩; clear HS3) | (have hgd := HS4; clear hgd; go_at_call 16; refine (cut16_no 2 1 5 Aa lena ca xsa eca HCEa.out (Kd.C_below HRa.out HS4.below) hca).mono ?_; rintro e w5 ⟨vfa, rfl, HH⟩; have HS5 := HS4.frame HH; clear HS4 HH) | (have hgd := HS5; clear hgd; go_at_call 16; refine (cut16_ok 2 1 6 Ab lenb cb xsb nb HCEb.out HNb.out (Kd.C_below HRb.out HS5.below) hcb).mono ?_; rintro e w6 ⟨bfb, ofsb, cfb, rfl, HH⟩; have HS6 := HS5.frame HH; clear HS5 HH))
      go_ret
      exact ⟨rfl, HS6.below⟩
    · have HCEb := Aside0.mk hecb.symm
      clear hecb hzb
      go_enter Try.func4, Try.ntmps4
      go_wp2_with (first | (go_at_call 15; refine (shown17_calls HS).mono ?_; rintro e w3 ⟨rfl, HS3⟩; clear HS) | (go_at_call 17; refine (sNew_calls HS3).mono ?_; rintro e w4 ⟨g, b, rfl, HS4⟩; clear HS3) | (have hgd := HS4; clear hgd; go_at_call 16; refine (cut16_no 2 1 5 Aa lena ca xsa eca HCEa.out (Kd.C_below HRa.out HS4.below) hca).mono ?_; rintro e w5 ⟨vfa, rfl, HH⟩; have HS5 := HS4.frame HH; clear HS4 HH) | (have hgd := HS5; clear hgd; go_at_call 16; refine (cut16_no 2 1 6 Ab lenb cb xsb ecb HCEb.out (Kd.C_below HRb.out HS5.below) hcb).mono ?_; rintro e w6 ⟨vfb, rfl, HH⟩; have HS6 := HS5.frame HH; clear HS5 HH))
      go_ret
      exact ⟨rfl, HS6.below⟩

end Go.Proofs.Ytaojnbhnogndnaa.SL
