/- The law NetPlays: a call of Deliver. -/
import Derived.Test.YtaojnbhnogndnaaX18
namespace Go.Proofs.Ytaojnbhnogndnaa.SL
open Go.RowKit Go.Proofs.YtaojnbhnogndnaaW.PrintWords Go.Proofs.YtaojnbhnogndnaaW.PrintLast Go.Proofs.YtaojnbhnogndnaaW.PrintMore
attribute [local go_sem] max2_int min2_int max_two min_two
attribute [local go_sem high] Small.cell_set_same
set_option linter.unusedVariables false
set_option linter.unusedSimpArgs false

set_option maxHeartbeats 16000000 in
set_option maxRecDepth 100000 in
theorem NP_deliver (A : Option Addr) (c : Nat) (l : List (Int × Int × List (List Int))) (w wr : World) (HR : Aside0 (kOp.C w A l.length l)) (HB : Aside0 (∀ o ∈ l, (Lit.int .i64 o.1).wf = true ∧ o.2.2.length * 24 ≤ 140737488355328 ∧ ∀ x ∈ o.2.2, x.length ≤ 140737488355328)) (hc : l.length ≤ c)
    (i gx gy gz gw : Nat) (ys : List Zk) (qs : List (Int × List Int)) (Ay : Option Addr) (cy : Nat) (Aw : Option Addr) (cw : Nat) (hyl : ys.length ≤ 256) (hyb : ∀ z ∈ ys, z.2.2.length ≤ 140737488355328) (HS : Sat w wr (NPL gx gy gz gw ys qs Ay cy Aw cw)) (hlt : i < l.length) (hlt3 : i < 150) (hk : kindOf (l.getD i (0, 0, [])).1 = 2)
    (c1 c3 c20 c21 c22 c23 c24 c25 c26 c27 c28 c29 c30 c31 c32 c33 c34 c35 c36 c37 c210 c211 c212 c213 c214 c215 c216 c217 c218 c219 c220 c221 c222 c223 c224 c225 c226 c227 c228 c229 c230 c231 c232 c233 c234 c235 c236 c237 c238 c239 c240 c241 c242 c243 c244 c245 c246 c247 c248 c249 u2 u9 u10 u11 u12 u13 u14 u15 u16 u17 u18 u19 u38 u39 u40 u41 u42 u43 u44 u45 u46 u47 u48 u49 u50 u51 u52 u53 u54 u55 u56 u57 u58 u59 u60 u61 u62 u63 u64 u65 u66 u67 u68 u69 u70 u71 u72 u73 u74 u75 u76 u77 u78 u79 u80 u81 u82 u83 u84 u85 u86 u87 u88 u89 u90 u91 u92 u93 u94 u95 u96 u97 u98 u99 u100 u101 u102 u103 u104 u105 u106 u107 u108 u109 u110 u111 u112 u113 u114 u115 u116 u117 u118 u119 u120 u121 u122 u123 u124 u125 u126 u127 u128 u129 u130 u131 u132 u133 u134 u135 u136 u137 u138 u139 u140 u141 u142 u143 u144 u145 u146 u147 u148 u149 u150 u151 u152 u153 u154 u155 u156 u157 u158 u159 u160 u161 u162 u163 u164 u165 u166 u167 u168 u169 u170 u171 u172 u173 u174 u175 u176 u177 u178 u179 u180 u181 u182 u183 u184 u185 u186 u187 u188 u189 u190 u191 u192 u193 u194 u195 u196 u197 u198 u199 u200 u201 u202 u203 u204 u205 u206 u207 u208 u209 : Value) (K K0 : Act → World → Prop) (Post : Ending → World → Prop)
    (hK : ∀ (u2 u9 u10 u11 u12 u13 u14 u15 u16 u17 u18 u19 u38 u39 u40 u41 u42 u43 u44 u45 u46 u47 u48 u49 u50 u51 u52 u53 u54 u55 u56 u57 u58 u59 u60 u61 u62 u63 u64 u65 u66 u67 u68 u69 u70 u71 u72 u73 u74 u75 u76 u77 u78 u79 u80 u81 u82 u83 u84 u85 u86 u87 u88 u89 u90 u91 u92 u93 u94 u95 u96 u97 u98 u99 u100 u101 u102 u103 u104 u105 u106 u107 u108 u109 u110 u111 u112 u113 u114 u115 u116 u117 u118 u119 u120 u121 u122 u123 u124 u125 u126 u127 u128 u129 u130 u131 u132 u133 u134 u135 u136 u137 u138 u139 u140 u141 u142 u143 u144 u145 u146 u147 u148 u149 u150 u151 u152 u153 u154 u155 u156 u157 u158 u159 u160 u161 u162 u163 u164 u165 u166 u167 u168 u169 u170 u171 u172 u173 u174 u175 u176 u177 u178 u179 u180 u181 u182 u183 u184 u185 u186 u187 u188 u189 u190 u191 u192 u193 u194 u195 u196 u197 u198 u199 u200 u201 u202 u203 u204 u205 u206 u207 u208 u209 v4 v5 v6 v7 v8 : Value) (w2 : World), NPRelI w l.length (i + 1) v4 v5 v6 v7 v8 w2 → K ⟨#[.slice A l.length c, c1, u2, c3, v4, v5, v6, v7, v8, u9, u10, u11, u12, u13, u14, u15, u16, u17, u18, u19, c20, c21, c22, c23, c24, c25, c26, c27, c28, c29, c30, c31, c32, c33, c34, c35, c36, c37, u38, u39, u40, u41, u42, u43, u44, u45, u46, u47, u48, u49, u50, u51, u52, u53, u54, u55, u56, u57, u58, u59, u60, u61, u62, u63, u64, u65, u66, u67, u68, u69, u70, u71, u72, u73, u74, u75, u76, u77, u78, u79, u80, u81, u82, u83, u84, u85, u86, u87, u88, u89, u90, u91, u92, u93, u94, u95, u96, u97, u98, u99, u100, u101, u102, u103, u104, u105, u106, u107, u108, u109, u110, u111, u112, u113, u114, u115, u116, u117, u118, u119, u120, u121, u122, u123, u124, u125, u126, u127, u128, u129, u130, u131, u132, u133, u134, u135, u136, u137, u138, u139, u140, u141, u142, u143, u144, u145, u146, u147, u148, u149, u150, u151, u152, u153, u154, u155, u156, u157, u158, u159, u160, u161, u162, u163, u164, u165, u166, u167, u168, u169, u170, u171, u172, u173, u174, u175, u176, u177, u178, u179, u180, u181, u182, u183, u184, u185, u186, u187, u188, u189, u190, u191, u192, u193, u194, u195, u196, u197, u198, u199, u200, u201, u202, u203, u204, u205, u206, u207, u208, u209, c210, c211, c212, c213, c214, c215, c216, c217, c218, c219, c220, c221, c222, c223, c224, c225, c226, c227, c228, c229, c230, c231, c232, c233, c234, c235, c236, c237, c238, c239, c240, c241, c242, c243, c244, c245, c246, c247, c248, c249], []⟩ w2) :
    Code.wp Try.prog npBody (Exit.then K (Exit.inBlock 0 (Exit.then K0 (bodyPost Try.prog Try.f9 Post)))) ⟨#[.slice A l.length c, c1, u2, c3, .pointer (some ⟨gx, 0, none⟩), .pointer (some ⟨gy, 0, none⟩), .pointer (some ⟨gz, 0, none⟩), .pointer (some ⟨gw, 0, none⟩), .int .i64 (i : Int), u9, u10, u11, u12, u13, u14, u15, u16, u17, u18, u19, c20, c21, c22, c23, c24, c25, c26, c27, c28, c29, c30, c31, c32, c33, c34, c35, c36, c37, u38, u39, u40, u41, u42, u43, u44, u45, u46, u47, u48, u49, u50, u51, u52, u53, u54, u55, u56, u57, u58, u59, u60, u61, u62, u63, u64, u65, u66, u67, u68, u69, u70, u71, u72, u73, u74, u75, u76, u77, u78, u79, u80, u81, u82, u83, u84, u85, u86, u87, u88, u89, u90, u91, u92, u93, u94, u95, u96, u97, u98, u99, u100, u101, u102, u103, u104, u105, u106, u107, u108, u109, u110, u111, u112, u113, u114, u115, u116, u117, u118, u119, u120, u121, u122, u123, u124, u125, u126, u127, u128, u129, u130, u131, u132, u133, u134, u135, u136, u137, u138, u139, u140, u141, u142, u143, u144, u145, u146, u147, u148, u149, u150, u151, u152, u153, u154, u155, u156, u157, u158, u159, u160, u161, u162, u163, u164, u165, u166, u167, u168, u169, u170, u171, u172, u173, u174, u175, u176, u177, u178, u179, u180, u181, u182, u183, u184, u185, u186, u187, u188, u189, u190, u191, u192, u193, u194, u195, u196, u197, u198, u199, u200, u201, u202, u203, u204, u205, u206, u207, u208, u209, c210, c211, c212, c213, c214, c215, c216, c217, c218, c219, c220, c221, c222, c223, c224, c225, c226, c227, c228, c229, c230, c231, c232, c233, c234, c235, c236, c237, c238, c239, c240, c241, c242, c243, c244, c245, c246, c247, c248, c249], []⟩ wr := by
  have HKK := Aside0.mk hK
  clear hK
  conv => arg 2; whnf
  have hu52 := Try.underlying52
  have hu48 := Try.underlying48
  unfold NPL at HS
  have HYB0 := Aside0.mk hyb
  have HYL2 := Aside0.mk hyl
  have HYL := Aside0.mk (show (ys.map (·.2)).length ≤ 256 by rw [List.length_map]; exact hyl)
  have HYB := Aside0.mk (show ∀ x ∈ ys.map (·.2), x.2.length ≤ 140737488355328 from fun x hx => by obtain ⟨z, hz, rfl⟩ := List.mem_map.1 hx; exact hyb z hz)
  have hd1 : decide ((i : Int) < (l.length : Int)) = true := decide_eq_true (by omega)
  have hd2 : decide ((i : Int) < 150) = true := decide_eq_true (by omega)
  have hd3 : decide (i < l.length) = true := decide_eq_true hlt
  obtain ⟨ad, b, o, B, cb, rfl, ha, k0, k1, k2, hcb, hrb⟩ := op_at HR.out i hlt
  have hx1 := HB.out (l.getD i (0, 0, [])) (by rw [List.getD_eq_getElem?_getD, List.getElem?_eq_getElem hlt]; exact List.getElem_mem _)
  obtain ⟨x, hx⟩ : ∃ x, x = l.getD i (0, 0, []) := ⟨_, rfl⟩
  rw [← hx] at k0 k1 k2 hcb hrb hx1 hk
  obtain ⟨z0, z1, fs⟩ := x
  clear hx hyb
  have k0 := (HS.below.cell (World.block_lt_of_cell? _ _ k0)).trans k0
  have k1 := (HS.below.cell (World.block_lt_of_cell? _ _ k1)).trans k1
  have k2 := (HS.below.cell (World.block_lt_of_cell? _ _ k2)).trans k2
  have HRB := Aside0.mk hrb
  clear hrb
  (try dsimp only at k0); (try dsimp only at k1); (try dsimp only at k2); (try dsimp only at hcb); (try dsimp only at hx1); (try dsimp only at hk)
  have HK := Aside0.mk hx1.1
  have hfl : fs.length ≤ 140737488355328 := by have := hx1.2.1; omega
  have HFL24 := Aside0.mk hx1.2.1
  have HFB := Aside0.mk hx1.2.2
  clear hx1
  have z00 : Zk := ((none, 0), (0, []))
  have hcz : (0 ≤ z1 ∧ z1 < ys.length) ∨ (z1 < 0 ∨ (ys.length : Int) ≤ z1) := by omega
  rcases hcz with hz | hz
  · obtain ⟨k, rfl⟩ : ∃ k : Nat, z1 = k := ⟨z1.toNat, by omega⟩
    have hkp : k < ys.length := by omega
    have HKP := Aside0.mk hkp
    have HKM := Aside0.mk (show k < (ys.map (·.2)).length by rw [List.length_map]; exact hkp)
    have HER := Aside0.mk (mapErase ys k)
    have HBK := Aside0.mk (show (ys.getD k z00).2.2.length ≤ 140737488355328 from HYB0.out _ (by rw [List.getD_eq_getElem?_getD, List.getElem?_eq_getElem hkp]; exact List.getElem_mem _))
    have hgd := mapGetD ys k z00 hkp
    obtain ⟨x, hx⟩ : ∃ x, x = ys.getD k z00 := ⟨_, rfl⟩
    rw [← hx] at hgd
    have HGD := Aside0.mk hgd
    have HX := Aside0.mk hx
    clear hkp hz hgd hx
    go_wp2_with (first | ((with_reducible refine gate_dst (N := 9) rfl ?_); refine box_event ?hg13 (N := 9) ?hd13 (cs := #[.int .i64 0, .int .i64 0, .slice none 0 0]) (t := 48) ?hr13 ?_; (case hd13 => rfl); (case hg13 => rfl); (case hr13 => first | (go_simp; done) | (go_simp; rfl)); intro g9 hg wa hbox hb; have HS1 := HS.box hg hbox hb; clear HS hg hbox hb; have d0 := HS1.cell 0 0 rfl rfl; have d1 := HS1.cell 0 1 rfl rfl; have d2 := HS1.cell 0 2 rfl rfl; have f0 := HS1.frozen 0 0 rfl; have f1 := HS1.frozen 0 1 rfl; have f2 := HS1.frozen 0 2 rfl) | ((with_reducible refine gate_store (t := 48) (p := 9) rfl ?_); refine store_event (t := 48) (p := 9) (v := ?vo14) (w1 := (((wa.setCell ⟨g9, 0, none⟩ (.int .i64 z0)).setCell ⟨g9, 1, none⟩ (.int .i64 (k : Int))).setCell ⟨g9, 2, none⟩ (.slice B fs.length cb))) ?hg14 ?ho14 ?hn14 ?hr14 ?_; (case ho14 => rfl); (case hg14 => rfl); (case hn14 => rfl); (case hr14 => first | (go_simp; done) | (go_simp; rfl)); intro wb hw; have HS2 := (((HS1.setAt 0 0 (.int .i64 z0) rfl).setAt 0 1 (.int .i64 (k : Int)) rfl).setAt 0 2 (.slice B fs.length cb) rfl); rw [← hw] at HS2; clear hw HS1 d0 d1 d2 f0 f1 f2 k0 k1 k2; have e0 := HS2.cell 0 0 rfl rfl; have e1 := HS2.cell 0 1 rfl rfl; have e2 := HS2.cell 0 2 rfl rfl) | (go_at_call 24; refine (kind_calls z0 _ HK.out).mono ?_; rintro e wk ⟨he, rfl⟩; rw [hk] at he; subst he) | ((with_reducible refine gate_dst (N := 17) rfl ?_); refine box_event ?hg15 (N := 17) ?hd15 (cs := #[.int .i64 0, .slice none 0 0]) (t := 52) ?hr15 ?_; (case hd15 => rfl); (case hg15 => rfl); (case hr15 => first | (go_simp; done) | (go_simp; rfl)); intro g17 hg wc hbox hb; have HS3 := HS2.box hg hbox hb; clear HS2 hg hbox hb e0 e1 e2; have e0 := HS3.cell 1 0 rfl rfl; have e1 := HS3.cell 1 1 rfl rfl; have e2 := HS3.cell 1 2 rfl rfl) | ((with_reducible refine gate_dst (N := 18) rfl ?_); refine box_event ?hg16 (N := 18) ?hd16 (cs := #[.int .i64 0, .slice none 0 0]) (t := 52) ?hr16 ?_; (case hd16 => rfl); (case hg16 => rfl); (case hr16 => first | (go_simp; done) | (go_simp; rfl)); intro g18 hg wd hbox hb; have HS4 := HS3.box hg hbox hb; clear HS3 hg hbox hb e0 e1 e2; have e0 := HS4.cell 2 0 rfl rfl; have e1 := HS4.cell 2 1 rfl rfl; have e2 := HS4.cell 2 2 rfl rfl) | (go_at_call 26; refine (Deliver_yes gx (ys.map (·.2)) k HKM.out HYL.out (HS4.pick 3 rfl)).mono ?_; rintro e we ⟨v, he, HS5⟩; rw [HGD.out] at he HS5; rw [HER.out] at HS5; obtain ⟨A1, c1, rfl⟩ := HS5.rowShape 0 rfl; subst he; clear HS4 e0 e1 e2; have e0 := HS5.cell 4 0 rfl rfl; have e1 := HS5.cell 4 1 rfl rfl; have e2 := HS5.cell 4 2 rfl rfl; have d0 := HS5.cell 3 0 rfl rfl; have d1 := HS5.cell 3 1 rfl rfl; have f0 := HS5.frozen 3 0 rfl; have f1 := HS5.frozen 3 1 rfl) | ((with_reducible refine gate_store (t := 52) (p := 17) rfl ?_); refine store_event (t := 52) (p := 17) (v := ?vo17) (w1 := ((we.setCell ⟨g17, 0, none⟩ (.int .i64 x.2.1)).setCell ⟨g17, 1, none⟩ (.slice A1 x.2.2.length c1))) ?hg17 ?ho17 ?hn17 ?hr17 ?_; (case ho17 => rfl); (case hg17 => rfl); (case hn17 => rfl); (case hr17 => first | (go_simp; done) | (go_simp; rfl)); intro wf hw; have HS6 := ((HS5.setAt 3 0 (.int .i64 x.2.1) rfl).setAt 3 1 (.slice A1 x.2.2.length c1) rfl); rw [← hw] at HS6; clear hw HS5 d0 d1 f0 f1 e0 e1 e2; have e0 := HS6.cell 4 0 rfl rfl; have e1 := HS6.cell 4 1 rfl rfl; have e2 := HS6.cell 4 2 rfl rfl) | (go_at_call 33; refine (rDeliver_yes (fs := []) (L := [row kB 5 (.slice A1 x.2.2.length c1) x.2.2, bag gx ((ys.eraseIdx k).map (·.2)), blk g18 (.cells #[.int .i64 0, .slice none 0 0] 52 (0, 0)), blk g17 (.cells #[.int .i64 x.2.1, .slice A1 x.2.2.length c1] 52 (0, 0)), blk g9 (.cells #[.int .i64 z0, .int .i64 (k : Int), .slice B fs.length cb] 48 (0, 0)), bag gz qs, blk gw (.cells #[.slice Aw qs.length cw] 63 (0, 0))]) gy Ay cy ys k z00 HKP.out HYL2.out HBK.out (HS6.sel [6, 8, 0, 1, 2, 3, 4, 5, 7] _ (by decide) rfl)).mono ?_; rintro e wg ⟨v2, A', c', he, HS7⟩; rw [← HX.out] at he HS7; obtain ⟨A2, c2, rfl⟩ := HS7.rowShape 0 rfl; subst he; clear HS6 e0 e1 e2; have e0 := HS7.cell 7 0 rfl rfl; have e1 := HS7.cell 7 1 rfl rfl; have e2 := HS7.cell 7 2 rfl rfl; have d0 := HS7.cell 5 0 rfl rfl; have d1 := HS7.cell 5 1 rfl rfl; have f0 := HS7.frozen 5 0 rfl; have f1 := HS7.frozen 5 1 rfl) | ((with_reducible refine gate_store (t := 52) (p := 18) rfl ?_); refine store_event (t := 52) (p := 18) (v := ?vo18) (w1 := ((wg.setCell ⟨g18, 0, none⟩ (.int .i64 x.2.1)).setCell ⟨g18, 1, none⟩ (.slice A2 x.2.2.length c2))) ?hg18 ?ho18 ?hn18 ?hr18 ?_; (case ho18 => rfl); (case hg18 => rfl); (case hn18 => rfl); (case hr18 => first | (go_simp; done) | (go_simp; rfl)); intro wh hw; have HS8 := ((HS7.setAt 5 0 (.int .i64 x.2.1) rfl).setAt 5 1 (.slice A2 x.2.2.length c2) rfl); rw [← hw] at HS8; clear hw HS7 d0 d1 f0 f1 e0 e1 e2; have d0 := HS8.cell 6 0 rfl rfl; have d1 := HS8.cell 6 1 rfl rfl; have e0 := HS8.cell 5 0 rfl rfl; have e1 := HS8.cell 5 1 rfl rfl; have e2 := d0; have f0 := d0; have f1 := d0; have s1 := Kd.C_string (P := Try.prog) (src := 22) (dst := 9) (c := c1) Try.underlying22 Try.underlying5 Try.underlying9 (HS8.readsRow 3 rfl).2.2; have s2 := Kd.C_string (P := Try.prog) (src := 22) (dst := 9) (c := c2) Try.underlying22 Try.underlying5 Try.underlying9 (HS8.readsRow 0 rfl).2.2))
    clear d0 d1 e0 e1 e2 s1 s2 f0 f1
    go_loopw [19] (fun v19 wr => ∃ (j : Nat) (bs : List Int), v19 = .int .i64 j ∧ j ≤ x.2.2.length ∧ Sat w wr [row kB 5 (.slice A1 x.2.2.length c1) bs, blk g17 (.cells #[.int .i64 x.2.1, .slice A1 x.2.2.length c1] 52 (0, 0)), bag gx ((ys.eraseIdx k).map (·.2)), bag gz qs, blk gy (.cells #[.slice A' (ys.eraseIdx k).length c'] 63 (0, 0)), blk gw (.cells #[.slice Aw qs.length cw] 63 (0, 0)), pool [PF A' c' (ys.eraseIdx k)]]) (fun j _ => x.2.2.length - (intOf j).toNat)
    case atStart => exact ⟨0, x.2.2, rfl, Nat.zero_le _, (poolDrop (HS8.pick 2 rfl)).sel [3, 6, 4, 8, 2, 9, 0] _ (by decide) rfl⟩
    case round =>
      clear HS8
      obtain ⟨j, bs, rfl, hj, HS⟩ := hrel
      have d0 := HS.cell 1 0 rfl rfl
      have d1 := HS.cell 1 1 rfl rfl
      by_cases hjl : j < x.2.2.length
      · have hjd : decide ((j : Int) < (x.2.2.length : Int)) = true := decide_eq_true (by omega)
        have hjd2 : decide (j < x.2.2.length) = true := decide_eq_true hjl
        have hx47 : x.2.2.length ≤ 140737488355328 := by have := HBK.out; rw [← HX.out] at this; exact this
        obtain ⟨h, rfl, m0, m1⟩ := HS.rowCell 0 rfl j hjl
        go_wp2_with (first | ((with_reducible refine gate_store (t := 5) (p := 150) rfl ?_); refine store_event (t := 5) (p := 150) (v := ?voW) (w1 := wr.setCell ⟨h, j, none⟩ (.int .u8 98)) ?hgW ?hoW ?hnW ?hrW ?_; (case hoW => rfl); (case hgW => rfl); (case hnW => rfl); (case hrW => first | (go_simp; done) | (go_simp; rfl)); rintro _ rfl; have HSW := HS.rowPut j 98; clear HS d0 d1 m0 m1; generalize wr.setCell _ _ = wr2 at HSW ⊢))
        exact ⟨⟨j + 1, bs.set j 98, by rw [Int.natCast_add]; rfl, by omega, HSW⟩, by simp [intOf]; omega⟩
      · obtain rfl : j = x.2.2.length := by omega
        have hjd : decide ((x.2.2.length : Int) < (x.2.2.length : Int)) = false := decide_eq_false (by omega)
        go_wp2
        have HT : Sat w wr [bag gx ((ys.eraseIdx k).map (·.2)), bag gz qs, blk gy (.cells #[.slice A' (ys.eraseIdx k).length c'] 63 (0, 0)), blk gw (.cells #[.slice Aw qs.length cw] 63 (0, 0)), pool [PF A' c' (ys.eraseIdx k)]] := HS.tail.tail
        clear HS d0 d1
        refine region (frees [0, 1, 2, 3, 4, 5, 6, 7, 8, 9, 10, 11, 12, 14, 15, 16] (.held 17 (.free 18 (.one 13 (frees [19, 20, 21, 22, 24, 25, 26] (.held 27 (.free 28 (.one 23 (frees [29, 30] .done))))))))) (fun w' => w'.cell? ⟨gy, 0, none⟩ = some (.slice A' (ys.eraseIdx k).length c') ∧ w'.cell? ⟨gw, 0, none⟩ = some (.slice Aw qs.length cw)) [] (by kernel_rfl) (by kernel_rfl) ?_
        have HT1 := (HT).drew
        generalize World.drew _ = wt1 at HT1 ⊢
        have e0 : wt1.cell? ⟨gy, 0, none⟩ = some (.slice A' (ys.eraseIdx k).length c') := HT1.cell 2 0 rfl rfl
        have e1 : wt1.cell? ⟨gw, 0, none⟩ = some (.slice Aw qs.length cw) := HT1.cell 3 0 rfl rfl
        repeat (first | (refine st_free (v := ?_) (a' := ?_) (by simp only [List.getElem?_toArray, List.getElem?_cons_succ, List.getElem?_cons_zero]; rfl) (by rfl) ?_ ?_ ?_; rotate_left 2; (intro w'; go_simp; with_reducible rfl); (simp only [Act.put, List.setIfInBounds_toArray, List.set_cons_zero, List.set_cons_succ]; rfl)) | (refine st_held (v := ?_) (a' := ?_) ⟨e0, e1⟩ (by simp only [List.getElem?_toArray, List.getElem?_cons_succ, List.getElem?_cons_zero]; rfl) (by rfl) ?_ ?_ ?_; rotate_left 2; (rintro w' ⟨s0, s1⟩; go_simp; with_reducible rfl); (simp only [Act.put, List.setIfInBounds_toArray, List.set_cons_zero, List.set_cons_succ]; rfl)))
        clear e0 e1
        refine st_one (by simp only [List.getElem?_toArray, List.getElem?_cons_succ, List.getElem?_cons_zero]; rfl) ?_
        refine goesW (some 192) rfl (by rfl) Try.func29 (by kernel_rfl) rfl #[.pointer (some ⟨gx, 0, none⟩)] rfl (by go_simp) ?_
        refine (Len_calls gx ((ys.eraseIdx k).map (·.2)) HT1).mono ?_
        rintro e wt2 ⟨rfl, HT2⟩
        refine ⟨_, rfl, ?_⟩
        have e0 : wt2.cell? ⟨gy, 0, none⟩ = some (.slice A' (ys.eraseIdx k).length c') := HT2.cell 2 0 rfl rfl
        have e1 : wt2.cell? ⟨gw, 0, none⟩ = some (.slice Aw qs.length cw) := HT2.cell 3 0 rfl rfl
        refine ⟨⟨e0, e1⟩, ?_⟩
        refine st_norm (a' := ?_) ?_ ?_; rotate_left; (simp only [Act.put, List.setIfInBounds_toArray, List.set_cons_zero, List.set_cons_succ]; rfl)
        repeat (first | (refine st_free (v := ?_) (a' := ?_) (by simp only [List.getElem?_toArray, List.getElem?_cons_succ, List.getElem?_cons_zero]; rfl) (by rfl) ?_ ?_ ?_; rotate_left 2; (intro w'; go_simp; with_reducible rfl); (simp only [Act.put, List.setIfInBounds_toArray, List.set_cons_zero, List.set_cons_succ]; rfl)) | (refine st_held (v := ?_) (a' := ?_) ⟨e0, e1⟩ (by simp only [List.getElem?_toArray, List.getElem?_cons_succ, List.getElem?_cons_zero]; rfl) (by rfl) ?_ ?_ ?_; rotate_left 2; (rintro w' ⟨s0, s1⟩; go_simp; with_reducible rfl); (simp only [Act.put, List.setIfInBounds_toArray, List.set_cons_zero, List.set_cons_succ]; rfl)))
        clear e0 e1 HT1
        refine st_one (by simp only [List.getElem?_toArray, List.getElem?_cons_succ, List.getElem?_cons_zero]; rfl) ?_
        refine goesW (some 202) rfl (by rfl) Try.func29 (by kernel_rfl) rfl #[.pointer (some ⟨gz, 0, none⟩)] rfl (by go_simp) ?_
        refine (Len_calls gz qs (HT2.pick 1 rfl)).mono ?_
        rintro e wt3 ⟨rfl, HT3'⟩
        have HT3 := HT3'.swap
        clear HT2 HT3'
        refine ⟨_, rfl, ?_⟩
        have e0 : wt3.cell? ⟨gy, 0, none⟩ = some (.slice A' (ys.eraseIdx k).length c') := HT3.cell 2 0 rfl rfl
        have e1 : wt3.cell? ⟨gw, 0, none⟩ = some (.slice Aw qs.length cw) := HT3.cell 3 0 rfl rfl
        refine ⟨⟨e0, e1⟩, ?_⟩
        refine st_norm (a' := ?_) ?_ ?_; rotate_left; (simp only [Act.put, List.setIfInBounds_toArray, List.set_cons_zero, List.set_cons_succ]; rfl)
        repeat (first | (refine st_free (v := ?_) (a' := ?_) (by simp only [List.getElem?_toArray, List.getElem?_cons_succ, List.getElem?_cons_zero]; rfl) (by rfl) ?_ ?_ ?_; rotate_left 2; (intro w'; go_simp; with_reducible rfl); (simp only [Act.put, List.setIfInBounds_toArray, List.set_cons_zero, List.set_cons_succ]; rfl)) | (refine st_held (v := ?_) (a' := ?_) ⟨e0, e1⟩ (by simp only [List.getElem?_toArray, List.getElem?_cons_succ, List.getElem?_cons_zero]; rfl) (by rfl) ?_ ?_ ?_; rotate_left 2; (rintro w' ⟨s0, s1⟩; go_simp; with_reducible rfl); (simp only [Act.put, List.setIfInBounds_toArray, List.set_cons_zero, List.set_cons_succ]; rfl)))
        refine st_done ?_
        clear e0 e1
        go_wp2
        exact HKK.out _ _ _ _ _ _ _ _ _ _ _ _ _ _ _ _ _ _ _ _ _ _ _ _ _ _ _ _ _ _ _ _ _ _ _ _ _ _ _ _ _ _ _ _ _ _ _ _ _ _ _ _ _ _ _ _ _ _ _ _ _ _ _ _ _ _ _ _ _ _ _ _ _ _ _ _ _ _ _ _ _ _ _ _ _ _ _ _ _ _ _ _ _ _ _ _ _ _ _ _ _ _ _ _ _ _ _ _ _ _ _ _ _ _ _ _ _ _ _ _ _ _ _ _ _ _ _ _ _ _ _ _ _ _ _ _ _ _ _ _ _ _ _ _ _ _ _ _ _ _ _ _ _ _ _ _ _ _ _ _ _ _ _ _ _ _ _ _ _ _ _ _ _ _ _ _ _ _ _ _ _ _ _ _ _ _ _ _ _ _ ⟨gx, gy, gz, gw, ys.eraseIdx k, qs, A', c', Aw, cw, rfl, rfl, rfl, rfl, by rw [Int.natCast_add]; rfl, by omega, by omega, by have := List.length_eraseIdx_le ys k; omega, fun z hz => HYB0.out z (List.mem_of_mem_eraseIdx hz), HT3⟩
  · have HZ := Aside0.mk hz
    have HZM := Aside0.mk (show z1 < 0 ∨ ((ys.map (·.2)).length : Int) ≤ z1 by rw [List.length_map]; exact hz)
    clear hz
    go_wp2_with (first | ((with_reducible refine gate_dst (N := 9) rfl ?_); refine box_event ?hg19 (N := 9) ?hd19 (cs := #[.int .i64 0, .int .i64 0, .slice none 0 0]) (t := 48) ?hr19 ?_; (case hd19 => rfl); (case hg19 => rfl); (case hr19 => first | (go_simp; done) | (go_simp; rfl)); intro g9 hg wa hbox hb; have HS1 := HS.box hg hbox hb; clear HS hg hbox hb; have d0 := HS1.cell 0 0 rfl rfl; have d1 := HS1.cell 0 1 rfl rfl; have d2 := HS1.cell 0 2 rfl rfl; have f0 := HS1.frozen 0 0 rfl; have f1 := HS1.frozen 0 1 rfl; have f2 := HS1.frozen 0 2 rfl) | ((with_reducible refine gate_store (t := 48) (p := 9) rfl ?_); refine store_event (t := 48) (p := 9) (v := ?vo20) (w1 := (((wa.setCell ⟨g9, 0, none⟩ (.int .i64 z0)).setCell ⟨g9, 1, none⟩ (.int .i64 z1)).setCell ⟨g9, 2, none⟩ (.slice B fs.length cb))) ?hg20 ?ho20 ?hn20 ?hr20 ?_; (case ho20 => rfl); (case hg20 => rfl); (case hn20 => rfl); (case hr20 => first | (go_simp; done) | (go_simp; rfl)); intro wb hw; have HS2 := (((HS1.setAt 0 0 (.int .i64 z0) rfl).setAt 0 1 (.int .i64 z1) rfl).setAt 0 2 (.slice B fs.length cb) rfl); rw [← hw] at HS2; clear hw HS1 d0 d1 d2 f0 f1 f2 k0 k1 k2; have e0 := HS2.cell 0 0 rfl rfl; have e1 := HS2.cell 0 1 rfl rfl; have e2 := HS2.cell 0 2 rfl rfl) | (go_at_call 24; refine (kind_calls z0 _ HK.out).mono ?_; rintro e wk ⟨he, rfl⟩; rw [hk] at he; subst he) | ((with_reducible refine gate_dst (N := 17) rfl ?_); refine box_event ?hg21 (N := 17) ?hd21 (cs := #[.int .i64 0, .slice none 0 0]) (t := 52) ?hr21 ?_; (case hd21 => rfl); (case hg21 => rfl); (case hr21 => first | (go_simp; done) | (go_simp; rfl)); intro g17 hg wc hbox hb; have HS3 := HS2.box hg hbox hb; clear HS2 hg hbox hb e0 e1 e2; have e0 := HS3.cell 1 0 rfl rfl; have e1 := HS3.cell 1 1 rfl rfl; have e2 := HS3.cell 1 2 rfl rfl) | ((with_reducible refine gate_dst (N := 18) rfl ?_); refine box_event ?hg22 (N := 18) ?hd22 (cs := #[.int .i64 0, .slice none 0 0]) (t := 52) ?hr22 ?_; (case hd22 => rfl); (case hg22 => rfl); (case hr22 => first | (go_simp; done) | (go_simp; rfl)); intro g18 hg wd hbox hb; have HS4 := HS3.box hg hbox hb; clear HS3 hg hbox hb e0 e1 e2; have e0 := HS4.cell 2 0 rfl rfl; have e1 := HS4.cell 2 1 rfl rfl; have e2 := HS4.cell 2 2 rfl rfl) | (go_at_call 26; refine (Deliver_no gx (ys.map (·.2)) z1 HZM.out (HS4.pick 3 rfl)).mono ?_; rintro e we ⟨rfl, HS5⟩; clear HS4 e0 e1 e2; have e0 := HS5.cell 3 0 rfl rfl; have e1 := HS5.cell 3 1 rfl rfl; have e2 := HS5.cell 3 2 rfl rfl; have d0 := HS5.cell 2 0 rfl rfl; have d1 := HS5.cell 2 1 rfl rfl; have f0 := HS5.frozen 2 0 rfl; have f1 := HS5.frozen 2 1 rfl) | ((with_reducible refine gate_store (t := 52) (p := 17) rfl ?_); refine store_event (t := 52) (p := 17) (v := ?vo23) (w1 := ((we.setCell ⟨g17, 0, none⟩ (.int .i64 0)).setCell ⟨g17, 1, none⟩ (.slice none 0 0))) ?hg23 ?ho23 ?hn23 ?hr23 ?_; (case ho23 => rfl); (case hg23 => rfl); (case hn23 => rfl); (case hr23 => first | (go_simp; done) | (go_simp; rfl)); intro wf hw; have HS6 := ((HS5.setAt 2 0 (.int .i64 0) rfl).setAt 2 1 (.slice none 0 0) rfl); rw [← hw] at HS6; clear hw HS5 d0 d1 f0 f1 e0 e1 e2; have e0 := HS6.cell 3 0 rfl rfl; have e1 := HS6.cell 3 1 rfl rfl; have e2 := HS6.cell 3 2 rfl rfl) | (go_at_call 33; refine (rDeliver_no (L := [pool [PF Ay cy ys], bag gx (ys.map (·.2)), blk g18 (.cells #[.int .i64 0, .slice none 0 0] 52 (0, 0)), blk g9 (.cells #[.int .i64 z0, .int .i64 z1, .slice B fs.length cb] 48 (0, 0)), bag gz qs, blk g17 (.cells #[.int .i64 0, .slice none 0 0] 52 (0, 0)), blk gw (.cells #[.slice Aw qs.length cw] 63 (0, 0))]) gy Ay cy ys z1 HZ.out (HS6.sel [5, 7, 0, 1, 3, 4, 2, 6] _ (by decide) rfl)).mono ?_; rintro e wg ⟨rfl, HS7⟩; clear HS6 e0 e1 e2; have d0 := HS7.cell 3 0 rfl rfl; have d1 := HS7.cell 3 1 rfl rfl; have f0 := HS7.frozen 3 0 rfl; have f1 := HS7.frozen 3 1 rfl) | ((with_reducible refine gate_store (t := 52) (p := 18) rfl ?_); refine store_event (t := 52) (p := 18) (v := ?vo24) (w1 := ((wg.setCell ⟨g18, 0, none⟩ (.int .i64 0)).setCell ⟨g18, 1, none⟩ (.slice none 0 0))) ?hg24 ?ho24 ?hn24 ?hr24 ?_; (case ho24 => rfl); (case hg24 => rfl); (case hn24 => rfl); (case hr24 => first | (go_simp; done) | (go_simp; rfl)); intro wh hw; have HS8 := ((HS7.setAt 3 0 (.int .i64 0) rfl).setAt 3 1 (.slice none 0 0) rfl); rw [← hw] at HS8; clear hw HS7 d0 d1 f0 f1; have d0 := HS8.cell 6 0 rfl rfl; have d1 := HS8.cell 6 1 rfl rfl; have e0 := HS8.cell 3 0 rfl rfl; have e1 := HS8.cell 3 1 rfl rfl; have e2 := d0; have f0 := d0; have f1 := d0; have s1 := Kd.C_string (P := Try.prog) (src := 22) (dst := 9) (c := 0) (w := wh) Try.underlying22 Try.underlying5 Try.underlying9 (Kd.C_nil (Kd.int .u8) wh); simp only [List.length_nil] at s1))
    clear d0 d1 e0 e1 e2 s1 f0 f1
    go_loopw [19] (fun v19 wr => v19 = .int .i64 0 ∧ Sat w wr [blk g17 (.cells #[.int .i64 0, .slice none 0 0] 52 (0, 0)), bag gx (ys.map (·.2)), bag gz qs, blk gy (.cells #[.slice Ay ys.length cy] 63 (0, 0)), blk gw (.cells #[.slice Aw qs.length cw] 63 (0, 0)), pool [PF Ay cy ys]]) (fun _ _ => 0)
    case atStart => exact ⟨rfl, HS8.sel [6, 2, 5, 0, 7, 1] _ (by decide) rfl⟩
    case round =>
      clear HS8
      obtain ⟨rfl, HS⟩ := hrel
      have d0 := HS.cell 0 0 rfl rfl
      have d1 := HS.cell 0 1 rfl rfl
      go_wp2
      have HT := HS.tail
      clear HS d0 d1
      refine region (frees [0, 1, 2, 3, 4, 5, 6, 7, 8, 9, 10, 11, 12, 14, 15, 16] (.held 17 (.free 18 (.one 13 (frees [19, 20, 21, 22, 24, 25, 26] (.held 27 (.free 28 (.one 23 (frees [29, 30] .done))))))))) (fun w' => w'.cell? ⟨gy, 0, none⟩ = some (.slice Ay ys.length cy) ∧ w'.cell? ⟨gw, 0, none⟩ = some (.slice Aw qs.length cw)) [] (by kernel_rfl) (by kernel_rfl) ?_
      have HT1 := (HT).drew
      generalize World.drew _ = wt1 at HT1 ⊢
      have e0 : wt1.cell? ⟨gy, 0, none⟩ = some (.slice Ay ys.length cy) := HT1.cell 2 0 rfl rfl
      have e1 : wt1.cell? ⟨gw, 0, none⟩ = some (.slice Aw qs.length cw) := HT1.cell 3 0 rfl rfl
      repeat (first | (refine st_free (v := ?_) (a' := ?_) (by simp only [List.getElem?_toArray, List.getElem?_cons_succ, List.getElem?_cons_zero]; rfl) (by rfl) ?_ ?_ ?_; rotate_left 2; (intro w'; go_simp; with_reducible rfl); (simp only [Act.put, List.setIfInBounds_toArray, List.set_cons_zero, List.set_cons_succ]; rfl)) | (refine st_held (v := ?_) (a' := ?_) ⟨e0, e1⟩ (by simp only [List.getElem?_toArray, List.getElem?_cons_succ, List.getElem?_cons_zero]; rfl) (by rfl) ?_ ?_ ?_; rotate_left 2; (rintro w' ⟨s0, s1⟩; go_simp; with_reducible rfl); (simp only [Act.put, List.setIfInBounds_toArray, List.set_cons_zero, List.set_cons_succ]; rfl)))
      clear e0 e1
      refine st_one (by simp only [List.getElem?_toArray, List.getElem?_cons_succ, List.getElem?_cons_zero]; rfl) ?_
      refine goesW (some 192) rfl (by rfl) Try.func29 (by kernel_rfl) rfl #[.pointer (some ⟨gx, 0, none⟩)] rfl (by go_simp) ?_
      refine (Len_calls gx (ys.map (·.2)) HT1).mono ?_
      rintro e wt2 ⟨rfl, HT2⟩
      refine ⟨_, rfl, ?_⟩
      have e0 : wt2.cell? ⟨gy, 0, none⟩ = some (.slice Ay ys.length cy) := HT2.cell 2 0 rfl rfl
      have e1 : wt2.cell? ⟨gw, 0, none⟩ = some (.slice Aw qs.length cw) := HT2.cell 3 0 rfl rfl
      refine ⟨⟨e0, e1⟩, ?_⟩
      refine st_norm (a' := ?_) ?_ ?_; rotate_left; (simp only [Act.put, List.setIfInBounds_toArray, List.set_cons_zero, List.set_cons_succ]; rfl)
      repeat (first | (refine st_free (v := ?_) (a' := ?_) (by simp only [List.getElem?_toArray, List.getElem?_cons_succ, List.getElem?_cons_zero]; rfl) (by rfl) ?_ ?_ ?_; rotate_left 2; (intro w'; go_simp; with_reducible rfl); (simp only [Act.put, List.setIfInBounds_toArray, List.set_cons_zero, List.set_cons_succ]; rfl)) | (refine st_held (v := ?_) (a' := ?_) ⟨e0, e1⟩ (by simp only [List.getElem?_toArray, List.getElem?_cons_succ, List.getElem?_cons_zero]; rfl) (by rfl) ?_ ?_ ?_; rotate_left 2; (rintro w' ⟨s0, s1⟩; go_simp; with_reducible rfl); (simp only [Act.put, List.setIfInBounds_toArray, List.set_cons_zero, List.set_cons_succ]; rfl)))
      clear e0 e1 HT1
      refine st_one (by simp only [List.getElem?_toArray, List.getElem?_cons_succ, List.getElem?_cons_zero]; rfl) ?_
      refine goesW (some 202) rfl (by rfl) Try.func29 (by kernel_rfl) rfl #[.pointer (some ⟨gz, 0, none⟩)] rfl (by go_simp) ?_
      refine (Len_calls gz qs (HT2.pick 1 rfl)).mono ?_
      rintro e wt3 ⟨rfl, HT3'⟩
      have HT3 := HT3'.swap
      clear HT2 HT3'
      refine ⟨_, rfl, ?_⟩
      have e0 : wt3.cell? ⟨gy, 0, none⟩ = some (.slice Ay ys.length cy) := HT3.cell 2 0 rfl rfl
      have e1 : wt3.cell? ⟨gw, 0, none⟩ = some (.slice Aw qs.length cw) := HT3.cell 3 0 rfl rfl
      refine ⟨⟨e0, e1⟩, ?_⟩
      refine st_norm (a' := ?_) ?_ ?_; rotate_left; (simp only [Act.put, List.setIfInBounds_toArray, List.set_cons_zero, List.set_cons_succ]; rfl)
      repeat (first | (refine st_free (v := ?_) (a' := ?_) (by simp only [List.getElem?_toArray, List.getElem?_cons_succ, List.getElem?_cons_zero]; rfl) (by rfl) ?_ ?_ ?_; rotate_left 2; (intro w'; go_simp; with_reducible rfl); (simp only [Act.put, List.setIfInBounds_toArray, List.set_cons_zero, List.set_cons_succ]; rfl)) | (refine st_held (v := ?_) (a' := ?_) ⟨e0, e1⟩ (by simp only [List.getElem?_toArray, List.getElem?_cons_succ, List.getElem?_cons_zero]; rfl) (by rfl) ?_ ?_ ?_; rotate_left 2; (rintro w' ⟨s0, s1⟩; go_simp; with_reducible rfl); (simp only [Act.put, List.setIfInBounds_toArray, List.set_cons_zero, List.set_cons_succ]; rfl)))
      refine st_done ?_
      clear e0 e1
      go_wp2
      exact HKK.out _ _ _ _ _ _ _ _ _ _ _ _ _ _ _ _ _ _ _ _ _ _ _ _ _ _ _ _ _ _ _ _ _ _ _ _ _ _ _ _ _ _ _ _ _ _ _ _ _ _ _ _ _ _ _ _ _ _ _ _ _ _ _ _ _ _ _ _ _ _ _ _ _ _ _ _ _ _ _ _ _ _ _ _ _ _ _ _ _ _ _ _ _ _ _ _ _ _ _ _ _ _ _ _ _ _ _ _ _ _ _ _ _ _ _ _ _ _ _ _ _ _ _ _ _ _ _ _ _ _ _ _ _ _ _ _ _ _ _ _ _ _ _ _ _ _ _ _ _ _ _ _ _ _ _ _ _ _ _ _ _ _ _ _ _ _ _ _ _ _ _ _ _ _ _ _ _ _ _ _ _ _ _ _ _ _ _ _ _ _ ⟨gx, gy, gz, gw, ys, qs, Ay, cy, Aw, cw, rfl, rfl, rfl, rfl, by rw [Int.natCast_add]; rfl, by omega, by omega, HYL2.out, HYB0.out, HT3⟩

end Go.Proofs.Ytaojnbhnogndnaa.SL
