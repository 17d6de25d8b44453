/- The law NetPlays: a call of Send of the second kind. -/
import Derived.Test.YtaojnbhnogndnaaX20w
namespace Go.Proofs.Ytaojnbhnogndnaa.SL
open Go.RowKit Go.Proofs.YtaojnbhnogndnaaW.PrintWords Go.Proofs.YtaojnbhnogndnaaW.PrintLast Go.Proofs.YtaojnbhnogndnaaW.PrintMore
attribute [local go_sem] max2_int min2_int max_two min_two
attribute [local go_sem high] Small.cell_set_same
set_option linter.unusedVariables false
set_option linter.unusedSimpArgs false

set_option maxHeartbeats 16000000 in
set_option maxRecDepth 100000 in
theorem NP_send1 (A : Option Addr) (c : Nat) (l : List (Int × Int × List (List Int))) (w wr : World) (HR : Aside0 (kOp.C w A l.length l)) (HB : Aside0 (∀ o ∈ l, (Lit.int .i64 o.1).wf = true ∧ o.2.2.length * 24 ≤ 140737488355328 ∧ ∀ x ∈ o.2.2, x.length ≤ 140737488355328)) (hc : l.length ≤ c)
    (i gx gy gz gw : Nat) (ys : List Zk) (qs : List (Int × List Int)) (Ay : Option Addr) (cy : Nat) (Aw : Option Addr) (cw : Nat) (hyl : ys.length ≤ 256) (hyb : ∀ z ∈ ys, z.2.2.length ≤ 140737488355328) (HS : Sat w wr (NPL gx gy gz gw ys qs Ay cy Aw cw)) (hlt : i < l.length) (hlt3 : i < 150) (hk : kindOf (l.getD i (0, 0, [])).1 = 1)
    (c1 c3 c20 c21 c22 c23 c24 c25 c26 c27 c28 c29 c30 c31 c32 c33 c34 c35 c36 c37 c210 c211 c212 c213 c214 c215 c216 c217 c218 c219 c220 c221 c222 c223 c224 c225 c226 c227 c228 c229 c230 c231 c232 c233 c234 c235 c236 c237 c238 c239 c240 c241 c242 c243 c244 c245 c246 c247 c248 c249 u2 u9 u10 u11 u12 u13 u14 u15 u16 u17 u18 u19 u38 u39 u40 u41 u42 u43 u44 u45 u46 u47 u48 u49 u50 u51 u52 u53 u54 u55 u56 u57 u58 u59 u60 u61 u62 u63 u64 u65 u66 u67 u68 u69 u70 u71 u72 u73 u74 u75 u76 u77 u78 u79 u80 u81 u82 u83 u84 u85 u86 u87 u88 u89 u90 u91 u92 u93 u94 u95 u96 u97 u98 u99 u100 u101 u102 u103 u104 u105 u106 u107 u108 u109 u110 u111 u112 u113 u114 u115 u116 u117 u118 u119 u120 u121 u122 u123 u124 u125 u126 u127 u128 u129 u130 u131 u132 u133 u134 u135 u136 u137 u138 u139 u140 u141 u142 u143 u144 u145 u146 u147 u148 u149 u150 u151 u152 u153 u154 u155 u156 u157 u158 u159 u160 u161 u162 u163 u164 u165 u166 u167 u168 u169 u170 u171 u172 u173 u174 u175 u176 u177 u178 u179 u180 u181 u182 u183 u184 u185 u186 u187 u188 u189 u190 u191 u192 u193 u194 u195 u196 u197 u198 u199 u200 u201 u202 u203 u204 u205 u206 u207 u208 u209 : Value) (K K0 : Act → World → Prop) (Post : Ending → World → Prop)
    (hK : ∀ (u2 u9 u10 u11 u12 u13 u14 u15 u16 u17 u18 u19 u38 u39 u40 u41 u42 u43 u44 u45 u46 u47 u48 u49 u50 u51 u52 u53 u54 u55 u56 u57 u58 u59 u60 u61 u62 u63 u64 u65 u66 u67 u68 u69 u70 u71 u72 u73 u74 u75 u76 u77 u78 u79 u80 u81 u82 u83 u84 u85 u86 u87 u88 u89 u90 u91 u92 u93 u94 u95 u96 u97 u98 u99 u100 u101 u102 u103 u104 u105 u106 u107 u108 u109 u110 u111 u112 u113 u114 u115 u116 u117 u118 u119 u120 u121 u122 u123 u124 u125 u126 u127 u128 u129 u130 u131 u132 u133 u134 u135 u136 u137 u138 u139 u140 u141 u142 u143 u144 u145 u146 u147 u148 u149 u150 u151 u152 u153 u154 u155 u156 u157 u158 u159 u160 u161 u162 u163 u164 u165 u166 u167 u168 u169 u170 u171 u172 u173 u174 u175 u176 u177 u178 u179 u180 u181 u182 u183 u184 u185 u186 u187 u188 u189 u190 u191 u192 u193 u194 u195 u196 u197 u198 u199 u200 u201 u202 u203 u204 u205 u206 u207 u208 u209 v4 v5 v6 v7 v8 : Value) (w2 : World), NPRelI w l.length (i + 1) v4 v5 v6 v7 v8 w2 → K ⟨#[.slice A l.length c, c1, u2, c3, v4, v5, v6, v7, v8, u9, u10, u11, u12, u13, u14, u15, u16, u17, u18, u19, c20, c21, c22, c23, c24, c25, c26, c27, c28, c29, c30, c31, c32, c33, c34, c35, c36, c37, u38, u39, u40, u41, u42, u43, u44, u45, u46, u47, u48, u49, u50, u51, u52, u53, u54, u55, u56, u57, u58, u59, u60, u61, u62, u63, u64, u65, u66, u67, u68, u69, u70, u71, u72, u73, u74, u75, u76, u77, u78, u79, u80, u81, u82, u83, u84, u85, u86, u87, u88, u89, u90, u91, u92, u93, u94, u95, u96, u97, u98, u99, u100, u101, u102, u103, u104, u105, u106, u107, u108, u109, u110, u111, u112, u113, u114, u115, u116, u117, u118, u119, u120, u121, u122, u123, u124, u125, u126, u127, u128, u129, u130, u131, u132, u133, u134, u135, u136, u137, u138, u139, u140, u141, u142, u143, u144, u145, u146, u147, u148, u149, u150, u151, u152, u153, u154, u155, u156, u157, u158, u159, u160, u161, u162, u163, u164, u165, u166, u167, u168, u169, u170, u171, u172, u173, u174, u175, u176, u177, u178, u179, u180, u181, u182, u183, u184, u185, u186, u187, u188, u189, u190, u191, u192, u193, u194, u195, u196, u197, u198, u199, u200, u201, u202, u203, u204, u205, u206, u207, u208, u209, c210, c211, c212, c213, c214, c215, c216, c217, c218, c219, c220, c221, c222, c223, c224, c225, c226, c227, c228, c229, c230, c231, c232, c233, c234, c235, c236, c237, c238, c239, c240, c241, c242, c243, c244, c245, c246, c247, c248, c249], []⟩ w2) :
    Code.wp Try.prog npBody (Exit.then K (Exit.inBlock 0 (Exit.then K0 (bodyPost Try.prog Try.f9 Post)))) ⟨#[.slice A l.length c, c1, u2, c3, .pointer (some ⟨gx, 0, none⟩), .pointer (some ⟨gy, 0, none⟩), .pointer (some ⟨gz, 0, none⟩), .pointer (some ⟨gw, 0, none⟩), .int .i64 (i : Int), u9, u10, u11, u12, u13, u14, u15, u16, u17, u18, u19, c20, c21, c22, c23, c24, c25, c26, c27, c28, c29, c30, c31, c32, c33, c34, c35, c36, c37, u38, u39, u40, u41, u42, u43, u44, u45, u46, u47, u48, u49, u50, u51, u52, u53, u54, u55, u56, u57, u58, u59, u60, u61, u62, u63, u64, u65, u66, u67, u68, u69, u70, u71, u72, u73, u74, u75, u76, u77, u78, u79, u80, u81, u82, u83, u84, u85, u86, u87, u88, u89, u90, u91, u92, u93, u94, u95, u96, u97, u98, u99, u100, u101, u102, u103, u104, u105, u106, u107, u108, u109, u110, u111, u112, u113, u114, u115, u116, u117, u118, u119, u120, u121, u122, u123, u124, u125, u126, u127, u128, u129, u130, u131, u132, u133, u134, u135, u136, u137, u138, u139, u140, u141, u142, u143, u144, u145, u146, u147, u148, u149, u150, u151, u152, u153, u154, u155, u156, u157, u158, u159, u160, u161, u162, u163, u164, u165, u166, u167, u168, u169, u170, u171, u172, u173, u174, u175, u176, u177, u178, u179, u180, u181, u182, u183, u184, u185, u186, u187, u188, u189, u190, u191, u192, u193, u194, u195, u196, u197, u198, u199, u200, u201, u202, u203, u204, u205, u206, u207, u208, u209, c210, c211, c212, c213, c214, c215, c216, c217, c218, c219, c220, c221, c222, c223, c224, c225, c226, c227, c228, c229, c230, c231, c232, c233, c234, c235, c236, c237, c238, c239, c240, c241, c242, c243, c244, c245, c246, c247, c248, c249], []⟩ wr := by
  have HKK := Aside0.mk hK
  clear hK
  conv => arg 2; whnf
  have hu52 := Try.underlying52
  have hu48 := Try.underlying48
  unfold NPL at HS
  have HYB0 := Aside0.mk hyb
  have HYL2 := Aside0.mk hyl
  have HYL := Aside0.mk (show (ys.map (·.2)).length ≤ 256 by rw [List.length_map]; exact hyl)
  have HYB := Aside0.mk (show ∀ x ∈ ys.map (·.2), x.2.length ≤ 140737488355328 from fun x hx => by obtain ⟨z, hz, rfl⟩ := List.mem_map.1 hx; exact hyb z hz)
  have hd1 : decide ((i : Int) < (l.length : Int)) = true := decide_eq_true (by omega)
  have hd2 : decide ((i : Int) < 150) = true := decide_eq_true (by omega)
  have hd3 : decide (i < l.length) = true := decide_eq_true hlt
  obtain ⟨ad, b, o, B, cb, rfl, ha, k0, k1, k2, hcb, hrb⟩ := op_at HR.out i hlt
  have hx1 := HB.out (l.getD i (0, 0, [])) (by rw [List.getD_eq_getElem?_getD, List.getElem?_eq_getElem hlt]; exact List.getElem_mem _)
  obtain ⟨x, hx⟩ : ∃ x, x = l.getD i (0, 0, []) := ⟨_, rfl⟩
  rw [← hx] at k0 k1 k2 hcb hrb hx1 hk
  obtain ⟨z0, z1, fs⟩ := x
  clear hx hyb
  have k0 := (HS.below.cell (World.block_lt_of_cell? _ _ k0)).trans k0
  have k1 := (HS.below.cell (World.block_lt_of_cell? _ _ k1)).trans k1
  have k2 := (HS.below.cell (World.block_lt_of_cell? _ _ k2)).trans k2
  have HRB := Aside0.mk hrb
  clear hrb
  (try dsimp only at k0); (try dsimp only at k1); (try dsimp only at k2); (try dsimp only at hcb); (try dsimp only at hx1); (try dsimp only at hk)
  have HK := Aside0.mk hx1.1
  have hfl : fs.length ≤ 140737488355328 := by have := hx1.2.1; omega
  have HFL24 := Aside0.mk hx1.2.1
  have HFB := Aside0.mk hx1.2.2
  clear hx1
  have z00 : Zk := ((none, 0), (0, []))
  have hcz : (0 ≤ z1 ∧ z1 < ys.length) ∨ (z1 < 0 ∨ (ys.length : Int) ≤ z1) := by omega
  go_wp2_with (first | ((with_reducible refine gate_dst (N := 9) rfl ?_); refine box_event ?hg29 (N := 9) ?hd29 (cs := #[.int .i64 0, .int .i64 0, .slice none 0 0]) (t := 48) ?hr29 ?_; (case hd29 => rfl); (case hg29 => rfl); (case hr29 => first | (go_simp; done) | (go_simp; rfl)); intro g9 hg wa hbox hb; have HS1 := HS.box hg hbox hb; clear HS hg hbox hb; have d0 := HS1.cell 0 0 rfl rfl; have d1 := HS1.cell 0 1 rfl rfl; have d2 := HS1.cell 0 2 rfl rfl; have f0 := HS1.frozen 0 0 rfl; have f1 := HS1.frozen 0 1 rfl; have f2 := HS1.frozen 0 2 rfl) | ((with_reducible refine gate_store (t := 48) (p := 9) rfl ?_); refine store_event (t := 48) (p := 9) (v := ?vo30) (w1 := (((wa.setCell ⟨g9, 0, none⟩ (.int .i64 z0)).setCell ⟨g9, 1, none⟩ (.int .i64 z1)).setCell ⟨g9, 2, none⟩ (.slice B fs.length cb))) ?hg30 ?ho30 ?hn30 ?hr30 ?_; (case ho30 => rfl); (case hg30 => rfl); (case hn30 => rfl); (case hr30 => first | (go_simp; done) | (go_simp; rfl)); intro wb hw; have HS2 := (((HS1.setAt 0 0 (.int .i64 z0) rfl).setAt 0 1 (.int .i64 z1) rfl).setAt 0 2 (.slice B fs.length cb) rfl); rw [← hw] at HS2; clear hw HS1 d0 d1 d2 f0 f1 f2 k0 k1 k2; have e0 := HS2.cell 0 0 rfl rfl; have e1 := HS2.cell 0 1 rfl rfl; have e2 := HS2.cell 0 2 rfl rfl) | (go_at_call 24; refine (kind_calls z0 _ HK.out).mono ?_; rintro e wk ⟨he, rfl⟩; rw [hk] at he; subst he) | ((with_reducible refine gate_dst (N := 58) rfl ?_); refine box_event2 ?hg31 (N := 58) ?hd31 (v := fun g => .slice (some ⟨g, 0, none⟩) 0 0) (cs := #[]) (t := 22) ?hr31 ?_; (case hd31 => rfl); (case hg31 => rfl); (case hr31 => first | (go_simp; done) | (go_simp; rfl)); intro g12 hg wc hbox hb; have HS3 := HS2.box hg hbox hb; clear HS2 hg hbox hb))
  go_loopw [12, 13] (fun v12 v13 wr => ∃ (k : Nat) (us : List Uk), v13 = .int .i64 k ∧ k ≤ fs.length ∧ us.map (·.2) = fs.take k ∧ Sat w wr (row (Kd.raw 1) 22 v12 (us.map encU) :: ([blk g9 (.cells #[.int .i64 z0, .int .i64 z1, .slice B fs.length cb] 48 (0, 0)), bag gx (ys.map (·.2)), bag gz qs, rbk gy Ay cy ys, blk gw (.cells #[.slice Aw qs.length cw] 63 (0, 0)), pool [PF Ay cy ys]] ++ dyn us))) (fun _ k _ => fs.length - (intOf k).toNat)
  case atStart => exact ⟨0, [], rfl, Nat.zero_le _, by simp, HS3.emptyRow (Kd.raw 1)⟩
  case round =>
    clear HS3 e0 e1 e2
    obtain ⟨k, us, rfl, hkk, hus, HS⟩ := hrel
    obtain ⟨A12, c12, rfl⟩ := HS.rowShape 0 rfl
    obtain ⟨q, hq⟩ : ∃ q, q = (us.map encU).length := ⟨_, rfl⟩
    rw [← hq] at HS ⊢
    have hql : q = k := by
      have h1 := congrArg List.length hus
      rw [List.length_map, List.length_take] at h1
      rw [hq, List.length_map]
      omega
    have HUS := Aside0.mk hus
    have HQ := Aside0.mk hq
    clear hus hq
    have e0 := HS.cell 1 0 rfl rfl
    have e1 := HS.cell 1 1 rfl rfl
    have e2 := HS.cell 1 2 rfl rfl
    by_cases hlk : k < fs.length
    · have hl1 : decide ((k : Int) < (fs.length : Int)) = true := decide_eq_true (by omega)
      have hl2 : decide (k < fs.length) = true := decide_eq_true hlk
      obtain ⟨adf, Bx, cx, rfl, m0, hcx, hrx⟩ := fr_at HRB.out k hlk
      have hx1 := HFB.out (fs.getD k []) (by rw [List.getD_eq_getElem?_getD, List.getElem?_eq_getElem hlk]; exact List.getElem_mem _)
      have hx2 := takeSnoc (fun x : List Int => x) (xs := fs) [] hlk
      obtain ⟨x, hx⟩ : ∃ x, x = fs.getD k [] := ⟨_, rfl⟩
      rw [← hx] at m0 hcx hrx hx1 hx2
      have m1 := (HS.below.cell (World.block_lt_of_cell? _ _ m0)).trans m0
      have HX := Aside0.mk hx1
      have HX2 := Aside0.mk hx2
      have HRX := Aside0.mk hrx
      have HQ24 := Aside0.mk (show ((us.map encU).length + 1) * 24 ≤ 140737488355328 by rw [← HQ.out, hql]; have := HFL24.out; omega)
      clear hx1 hx2 hrx hcx hx hql
      go_wp2_with (first | ((with_reducible refine gate_dst (N := 67) rfl ?_); refine box_event2 ?hg32 (N := 67) ?hd32 (v := fun g => .slice (some ⟨g, 0, none⟩) 0 0) (cs := #[]) (t := 5) ?hr32 ?_; (case hd32 => rfl); (case hg32 => rfl); (case hr32 => first | (go_simp; done) | (go_simp; rfl)); intro g67 hg w3 hbox hb; have HS4 := HS.box hg hbox hb; clear HS hg hbox hb e0 e1 e2 m1; have e0 := HS4.cell 2 0 rfl rfl; have e1 := HS4.cell 2 1 rfl rfl; have e2 := HS4.cell 2 2 rfl rfl; have m1 := (HS4.below.cell (World.block_lt_of_cell? _ _ m0)).trans m0) | ((with_reducible refine gate_builtin (b := .append) (xs := #[.tmp 67, .tmp 72]) rfl ?_); refine appRow kB rfl (.tmp 67) (.tmp 72) 22 5 (.int .u8 0) 1 rfl Try.underlying22 inf5 rfl (by decide) (by decide) _ [] x Bx x.length cx rfl rfl (HS4.emptyRow kB) (Kd.C_below HRX.out HS4.below) (fun _ _ h => h) (by have := HX.out; simp; omega) ?_; intro v w4 HS5; rw [List.nil_append] at HS5; clear HS4 e0 e1 e2 m1; obtain ⟨D, cd, rfl⟩ := HS5.rowShape 0 rfl) | ((with_reducible refine gate_dst (N := 74) rfl ?_); refine box_event2 ?hg33 (N := 74) ?hd33 (v := fun g => .slice (some ⟨g, 0, none⟩) 1 1) (cs := #[.slice D x.length cd]) (t := 22) ?hr33 ?_; (case hd33 => rfl); (case hg33 => rfl); (case hr33 => first | (go_simp; done) | (go_simp; rfl)); intro g74 hg w5 hbox hb; have HS6 := HS5.box hg hbox hb; clear HS5 hg hbox hb) | ((with_reducible refine gate_builtin (b := .append) (xs := #[.tmp 66, .tmp 74]) rfl ?_); refine appRow (Kd.raw 1) rfl (.tmp 66) (.tmp 74) 27 22 (.slice none 0 0) 24 rfl Try.underlying27 inf22 rfl (by decide) (by decide) _ (us.map encU) [[.slice D x.length cd]] (some ⟨g74, 0, none⟩) 1 1 rfl rfl (HS6.pick 2 rfl) (raw1_of_blk (HS6.block 0 rfl).1 rfl) (fun _ _ h => h) HQ24.out ?_; intro v w6 HS7; clear HS6; obtain ⟨A13, c13, rfl⟩ := HS7.rowShape 0 rfl; generalize (List.map encU us ++ [[Value.slice D x.length cd]]).length = q2 at HS7 ⊢))
      have HS8 : Sat w w6 (row (Kd.raw 1) 22 (.slice A13 q2 c13) ((us.map encU) ++ [[.slice D x.length cd]]) :: rowU ((D, cd), x) :: ([blk g9 (.cells #[.int .i64 z0, .int .i64 z1, .slice (some adf) fs.length cb] 48 (0, 0)), bag gx (ys.map (·.2)), bag gz qs, rbk gy Ay cy ys, blk gw (.cells #[.slice Aw qs.length cw] 63 (0, 0)), pool [PF Ay cy ys]] ++ dyn us)) := HS7.dropAt 1
      refine ⟨⟨k + 1, us ++ [((D, cd), x)], by rw [Int.natCast_add]; rfl, by omega, ?_, ?_⟩, by simp [intOf]; omega⟩
      · have h1 := HX2.out
        simp only [List.map_id'] at h1
        rw [List.map_append, HUS.out, h1]
        rfl
      · have h2 := dyn_snoc HS8
        rw [List.map_append]
        exact h2
    · have hkf : k = fs.length := by omega
      have hus2 : us.map (·.2) = fs := by rw [HUS.out, hkf, List.take_length]
      have hqf : q = fs.length := by omega
      subst hkf
      rw [hqf] at HS ⊢
      have hl1 : decide ((fs.length : Int) < (fs.length : Int)) = false := decide_eq_false (by omega)
      have hl2 : decide (fs.length < fs.length) = false := decide_eq_false (by omega)
      have hc12 : fs.length ≤ c12 := (HS.reads_mem List.mem_cons_self).2.1
      have HUS2 := Aside0.mk hus2
      have HC12 := Aside0.mk hc12
      obtain ⟨lo, hlo⟩ : ∃ lo : Nat, lo = fs.length - min fs.length (256 - ys.length) := ⟨_, rfl⟩
      have HLO := Aside0.mk hlo
      obtain ⟨EU, heu⟩ : ∃ EU, EU = us.map encU := ⟨_, rfl⟩
      have HEU := Aside0.mk heu
      have heu' := heu
      clear hus2 hqf hql HUS HQ hlo hc12 heu
      have HEL := Aside0.mk (show EU.length = fs.length by have h1 := congrArg List.length HUS2.out; rw [List.length_map] at h1; rw [heu', List.length_map]; exact h1)
      have HUB := Aside0.mk (show ∀ (k : Nat) (A : Option Addr) (n c : Nat), EU[k]? = some [.slice A n c] → n ≤ 140737488355328 from fun k A n c h => by
        rw [heu', List.getElem?_map] at h
        obtain ⟨u, hu, h1⟩ := Option.map_eq_some_iff.1 h
        simp only [encU, List.cons.injEq, Value.slice.injEq, and_true] at h1
        rw [← h1.2.1]
        exact HFB.out u.2 (by rw [← HUS2.out]; exact List.mem_map_of_mem (List.mem_of_getElem? hu)))
      clear heu'
      go_wp2_with (first | (go_at_call 25; refine (Send_calls (L := row (Kd.raw 1) 22 (.slice A12 fs.length c12) (us.map encU) :: blk g9 (.cells #[.int .i64 z0, .int .i64 z1, .slice B fs.length cb] 48 (0, 0)) :: bag gz qs :: rbk gy Ay cy ys :: blk gw (.cells #[.slice Aw qs.length cw] 63 (0, 0)) :: pool [PF Ay cy ys] :: dyn us) gx (ys.map (·.2)) z1 A12 c12 fs HYL.out HC12.out HFB.out (fun w' h => by have h1 := us_frames h List.mem_cons_self (fun u hu => List.mem_cons_of_mem _ (List.mem_cons_of_mem _ (List.mem_cons_of_mem _ (List.mem_cons_of_mem _ (List.mem_cons_of_mem _ (List.mem_cons_of_mem _ (List.mem_map_of_mem hu))))))); rw [HUS2.out] at h1; exact h1) (HS.pick 2 rfl)).mono ?_; rintro e wd ⟨he, HS9⟩; rw [List.length_map, ← HLO.out] at he; rw [List.length_map] at HS9; subst he; clear HS e0 e1 e2; have e0 := HS9.cell 2 0 rfl rfl; have e1 := HS9.cell 2 1 rfl rfl; have e2 := HS9.cell 2 2 rfl rfl))
      obtain ⟨ps', hps⟩ : ∃ ps', ps' = ys.map (·.2) ++ (fs.take (256 - ys.length)).map fun f => (z1, f) := ⟨_, rfl⟩
      have HNP := Aside0.mk hps
      rw [← hps, ← HEU.out] at HS9
      clear hps
      go_loopw [15] (fun v15 wr => ∃ (k : Nat) (us : List Uk), v15 = .int .i64 k ∧ k ≤ fs.length ∧ us.map encU = EU ∧ Sat w wr ([bag gx ps', row (Kd.raw 1) 22 (.slice A12 fs.length c12) EU, blk g9 (.cells #[.int .i64 z0, .int .i64 z1, .slice B fs.length cb] 48 (0, 0)), bag gz qs, rbk gy Ay cy ys, blk gw (.cells #[.slice Aw qs.length cw] 63 (0, 0)), pool [PF Ay cy ys]] ++ dyn us)) (fun k _ => fs.length - (intOf k).toNat)
      case atStart => exact ⟨0, us, rfl, Nat.zero_le _, HEU.out.symm, HS9⟩
      case round =>
        clear HS9 e0 e1 e2 HEU HUS2 us
        obtain ⟨k, us, rfl, hkk, hus, HS⟩ := hrel
        by_cases hlk : k < fs.length
        · have hl3 : decide ((k : Int) < (fs.length : Int)) = true := decide_eq_true (by omega)
          have hl4 : decide (k < fs.length) = true := decide_eq_true hlk
          obtain ⟨u, hu⟩ : ∃ u, us[k]? = some u := ⟨_, List.getElem?_eq_getElem (by have h1 := congrArg List.length hus; rw [List.length_map, HEL.out] at h1; omega)⟩
          have heu : EU[k]? = some (encU u) := by rw [← hus, List.getElem?_map, hu]; rfl
          obtain ⟨⟨Au, cu⟩, bu⟩ := u
          obtain ⟨ul, hul⟩ : ∃ ul, ul = bu.length := ⟨_, rfl⟩
          have heu2 : EU[k]? = some [.slice Au ul cu] := by rw [hul]; exact heu
          have HEK := Aside0.mk heu2
          have hulb : ul ≤ 140737488355328 := HUB.out k _ _ _ heu2
          have HUS := Aside0.mk hus
          clear heu heu2 hu hul hus
          go_wp2
          go_loopw [16] (fun v16 wr => ∃ (j : Nat) (us : List Uk), v16 = .int .i64 j ∧ j ≤ ul ∧ us.map encU = EU ∧ Sat w wr ([bag gx ps', row (Kd.raw 1) 22 (.slice A12 fs.length c12) EU, blk g9 (.cells #[.int .i64 z0, .int .i64 z1, .slice B fs.length cb] 48 (0, 0)), bag gz qs, rbk gy Ay cy ys, blk gw (.cells #[.slice Aw qs.length cw] 63 (0, 0)), pool [PF Ay cy ys]] ++ dyn us)) (fun j _ => ul - (intOf j).toNat)
          case atStart => exact ⟨0, us, rfl, Nat.zero_le _, HUS.out, HS⟩
          case round =>
            clear HS HUS us
            obtain ⟨j, us, rfl, hj, hus, HS⟩ := hrel
            obtain ⟨u, hu⟩ : ∃ u, us[k]? = some u := ⟨_, List.getElem?_eq_getElem (by have h1 := congrArg List.length hus; rw [List.length_map, HEL.out] at h1; omega)⟩
            have heq : encU u = [.slice Au ul cu] := by
              have h1 := HEK.out
              rw [← hus, List.getElem?_map, hu] at h1
              exact Option.some.inj h1
            have hru := (HS.readsRow 1 rfl).2.2
            obtain ⟨aw, rfl, m0⟩ := raw1_at hru HEK.out
            have HUS := Aside0.mk hus
            clear hus hru
            by_cases hjl : j < ul
            · have hj1 : decide ((j : Int) < (ul : Int)) = true := decide_eq_true (by omega)
              have hj2 : decide (j < ul) = true := decide_eq_true hjl
              simp only [encU, List.cons.injEq, Value.slice.injEq, and_true] at heq
              obtain ⟨q1, q2, q3⟩ := heq
              obtain ⟨h, ha, m1, m2⟩ := HS.rowCell _ (dyn_at hu) j (by omega)
              rw [q1] at ha
              subst ha
              have HU := Aside0.mk hu
              have HQ1 := Aside0.mk q1
              clear hu q1 q2 q3
              go_wp2_with (first | ((with_reducible refine gate_store (t := 5) (p := 101) rfl ?_); refine store_event (t := 5) (p := 101) (v := ?voW) (w1 := wr.setCell ⟨h, j, none⟩ (.int .u8 99)) ?hgW ?hoW ?hnW ?hrW ?_; (case hoW => rfl); (case hgW => rfl); (case hnW => rfl); (case hrW => first | (go_simp; done) | (go_simp; rfl)); rintro _ rfl; have HSW := dyn_put HS HU.out HQ1.out j 99; clear HS m0 m1 m2; generalize wr.setCell _ _ = wr2 at HSW ⊢))
              exact ⟨⟨j + 1, us.set k (u.1, u.2.set j 99), by rw [Int.natCast_add]; rfl, by omega, by rw [enc_set HU.out]; exact HUS.out, HSW⟩, by simp [intOf]; omega⟩
            · obtain rfl : j = ul := by omega
              have hj1 : decide ((j : Int) < (j : Int)) = false := decide_eq_false (by omega)
              have hj2 : decide (j < j) = false := decide_eq_false (by omega)
              clear heq hu
              go_wp2
              exact ⟨⟨k + 1, us, by rw [Int.natCast_add]; rfl, by omega, HUS.out, HS⟩, by simp [intOf]; omega⟩
        · obtain rfl : k = fs.length := by omega
          have hl3 : decide ((fs.length : Int) < (fs.length : Int)) = false := decide_eq_false (by omega)
          have hl4 : decide (fs.length < fs.length) = false := decide_eq_false (by omega)
          clear hus
          have e0 := HS.cell 2 0 rfl rfl
          have e1 := HS.cell 2 1 rfl rfl
          have e2 := HS.cell 2 2 rfl rfl
          go_wp2_with (first | (go_at_call 32; refine (rSend_calls (fs := []) (L := [bag gx ps', bag gz qs, blk gw (.cells #[.slice Aw qs.length cw] 63 (0, 0))]) gy Ay cy ys z1 B cb fs HYL2.out hcb HFB.out hfl (fun w' h => Kd.C_below HRB.out h.below) (HS.sel [4, 6, 0, 3, 5] _ (by decide) rfl)).mono ?_; rintro e we ⟨he, A', c', ns, hns, HS10⟩; rw [← HLO.out] at he; subst he; have HNS := Aside0.mk hns; clear HS e0 e1 e2 hns))
          have hmp : ps' = (ys ++ ns).map (·.2) := by rw [HNP.out, List.map_append, HNS.out]
          have HT : Sat w we [bag gx ((ys ++ ns).map (·.2)), bag gz qs, blk gy (.cells #[.slice A' (ys ++ ns).length c'] 63 (0, 0)), blk gw (.cells #[.slice Aw qs.length cw] 63 (0, 0)), pool [PF A' c' (ys ++ ns)]] := by
            rw [← hmp]
            exact (poolDrop HS10.swap).sel [2, 3, 1, 4, 0] _ (by decide) rfl
          have hnl : ns.length = min (256 - ys.length) fs.length := by
            have h1 := congrArg List.length HNS.out
            rw [List.length_map, List.length_map, List.length_take] at h1
            exact h1
          have hy' : (ys ++ ns).length ≤ 256 := by rw [List.length_append]; have := HYL2.out; omega
          have HNB := Aside0.mk (show ∀ z ∈ ys ++ ns, z.2.2.length ≤ 140737488355328 from fun z hz => by
            rcases List.mem_append.1 hz with hz | hz
            · exact HYB0.out z hz
            · have h1 : z.2 ∈ ns.map (·.2) := List.mem_map_of_mem hz
              rw [HNS.out] at h1
              obtain ⟨f, hf, h2⟩ := List.mem_map.1 h1
              rw [← h2]
              exact HFB.out f (List.mem_of_mem_take hf))
          clear HS10 hnl hmp HNP HNS
          generalize ys ++ ns = ys' at HT HNB hy' ⊢
          refine region (frees [0, 1, 2, 3, 4, 5, 6, 7, 8, 9, 10, 11, 12, 14, 15, 16] (.held 17 (.free 18 (.one 13 (frees [19, 20, 21, 22, 24, 25, 26] (.held 27 (.free 28 (.one 23 (frees [29, 30] .done))))))))) (fun w' => w'.cell? ⟨gy, 0, none⟩ = some (.slice A' ys'.length c') ∧ w'.cell? ⟨gw, 0, none⟩ = some (.slice Aw qs.length cw)) [] (by kernel_rfl) (by kernel_rfl) ?_
          have HT1 := (HT).drew
          generalize World.drew _ = wt1 at HT1 ⊢
          have e0 : wt1.cell? ⟨gy, 0, none⟩ = some (.slice A' ys'.length c') := HT1.cell 2 0 rfl rfl
          have e1 : wt1.cell? ⟨gw, 0, none⟩ = some (.slice Aw qs.length cw) := HT1.cell 3 0 rfl rfl
          repeat (first | (refine st_free (v := ?_) (a' := ?_) (by simp only [List.getElem?_toArray, List.getElem?_cons_succ, List.getElem?_cons_zero]; rfl) (by rfl) ?_ ?_ ?_; rotate_left 2; (intro w'; go_simp; with_reducible rfl); (simp only [Act.put, List.setIfInBounds_toArray, List.set_cons_zero, List.set_cons_succ]; rfl)) | (refine st_held (v := ?_) (a' := ?_) ⟨e0, e1⟩ (by simp only [List.getElem?_toArray, List.getElem?_cons_succ, List.getElem?_cons_zero]; rfl) (by rfl) ?_ ?_ ?_; rotate_left 2; (rintro w' ⟨s0, s1⟩; go_simp; with_reducible rfl); (simp only [Act.put, List.setIfInBounds_toArray, List.set_cons_zero, List.set_cons_succ]; rfl)))
          clear e0 e1
          refine st_one (by simp only [List.getElem?_toArray, List.getElem?_cons_succ, List.getElem?_cons_zero]; rfl) ?_
          refine goesW (some 192) rfl (by rfl) Try.func29 (by kernel_rfl) rfl #[.pointer (some ⟨gx, 0, none⟩)] rfl (by go_simp) ?_
          refine (Len_calls gx (ys'.map (·.2)) HT1).mono ?_
          rintro e wt2 ⟨rfl, HT2⟩
          refine ⟨_, rfl, ?_⟩
          have e0 : wt2.cell? ⟨gy, 0, none⟩ = some (.slice A' ys'.length c') := HT2.cell 2 0 rfl rfl
          have e1 : wt2.cell? ⟨gw, 0, none⟩ = some (.slice Aw qs.length cw) := HT2.cell 3 0 rfl rfl
          refine ⟨⟨e0, e1⟩, ?_⟩
          refine st_norm (a' := ?_) ?_ ?_; rotate_left; (simp only [Act.put, List.setIfInBounds_toArray, List.set_cons_zero, List.set_cons_succ]; rfl)
          repeat (first | (refine st_free (v := ?_) (a' := ?_) (by simp only [List.getElem?_toArray, List.getElem?_cons_succ, List.getElem?_cons_zero]; rfl) (by rfl) ?_ ?_ ?_; rotate_left 2; (intro w'; go_simp; with_reducible rfl); (simp only [Act.put, List.setIfInBounds_toArray, List.set_cons_zero, List.set_cons_succ]; rfl)) | (refine st_held (v := ?_) (a' := ?_) ⟨e0, e1⟩ (by simp only [List.getElem?_toArray, List.getElem?_cons_succ, List.getElem?_cons_zero]; rfl) (by rfl) ?_ ?_ ?_; rotate_left 2; (rintro w' ⟨s0, s1⟩; go_simp; with_reducible rfl); (simp only [Act.put, List.setIfInBounds_toArray, List.set_cons_zero, List.set_cons_succ]; rfl)))
          clear e0 e1 HT1
          refine st_one (by simp only [List.getElem?_toArray, List.getElem?_cons_succ, List.getElem?_cons_zero]; rfl) ?_
          refine goesW (some 202) rfl (by rfl) Try.func29 (by kernel_rfl) rfl #[.pointer (some ⟨gz, 0, none⟩)] rfl (by go_simp) ?_
          refine (Len_calls gz qs (HT2.pick 1 rfl)).mono ?_
          rintro e wt3 ⟨rfl, HT3'⟩
          have HT3 := HT3'.swap
          clear HT2 HT3'
          refine ⟨_, rfl, ?_⟩
          have e0 : wt3.cell? ⟨gy, 0, none⟩ = some (.slice A' ys'.length c') := HT3.cell 2 0 rfl rfl
          have e1 : wt3.cell? ⟨gw, 0, none⟩ = some (.slice Aw qs.length cw) := HT3.cell 3 0 rfl rfl
          refine ⟨⟨e0, e1⟩, ?_⟩
          refine st_norm (a' := ?_) ?_ ?_; rotate_left; (simp only [Act.put, List.setIfInBounds_toArray, List.set_cons_zero, List.set_cons_succ]; rfl)
          repeat (first | (refine st_free (v := ?_) (a' := ?_) (by simp only [List.getElem?_toArray, List.getElem?_cons_succ, List.getElem?_cons_zero]; rfl) (by rfl) ?_ ?_ ?_; rotate_left 2; (intro w'; go_simp; with_reducible rfl); (simp only [Act.put, List.setIfInBounds_toArray, List.set_cons_zero, List.set_cons_succ]; rfl)) | (refine st_held (v := ?_) (a' := ?_) ⟨e0, e1⟩ (by simp only [List.getElem?_toArray, List.getElem?_cons_succ, List.getElem?_cons_zero]; rfl) (by rfl) ?_ ?_ ?_; rotate_left 2; (rintro w' ⟨s0, s1⟩; go_simp; with_reducible rfl); (simp only [Act.put, List.setIfInBounds_toArray, List.set_cons_zero, List.set_cons_succ]; rfl)))
          refine st_done ?_
          clear e0 e1
          go_wp2
          exact HKK.out _ _ _ _ _ _ _ _ _ _ _ _ _ _ _ _ _ _ _ _ _ _ _ _ _ _ _ _ _ _ _ _ _ _ _ _ _ _ _ _ _ _ _ _ _ _ _ _ _ _ _ _ _ _ _ _ _ _ _ _ _ _ _ _ _ _ _ _ _ _ _ _ _ _ _ _ _ _ _ _ _ _ _ _ _ _ _ _ _ _ _ _ _ _ _ _ _ _ _ _ _ _ _ _ _ _ _ _ _ _ _ _ _ _ _ _ _ _ _ _ _ _ _ _ _ _ _ _ _ _ _ _ _ _ _ _ _ _ _ _ _ _ _ _ _ _ _ _ _ _ _ _ _ _ _ _ _ _ _ _ _ _ _ _ _ _ _ _ _ _ _ _ _ _ _ _ _ _ _ _ _ _ _ _ _ _ _ _ _ _ ⟨gx, gy, gz, gw, ys', qs, A', c', Aw, cw, rfl, rfl, rfl, rfl, by rw [Int.natCast_add]; rfl, by omega, by omega, hy', HNB.out, HT3⟩

end Go.Proofs.Ytaojnbhnogndnaa.SL
