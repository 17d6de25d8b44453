/- The law NetPlays: words; its calls of a clone, by one declaration for each kind of call. -/
import Derived.Test.YtaojnbhnogndnaaX17
import Derived.Test.YtaojnbhnogndnaaX1s
namespace Go.Proofs.Ytaojnbhnogndnaa.SL
open Go.RowKit Go.Proofs.YtaojnbhnogndnaaW.PrintWords Go.Proofs.YtaojnbhnogndnaaW.PrintLast Go.Proofs.YtaojnbhnogndnaaW.PrintMore
attribute [local go_sem] max2_int min2_int max_two min_two
attribute [local go_sem high] Small.cell_set_same
set_option linter.unusedVariables false
set_option linter.unusedSimpArgs false

section
variable {P : Program} {ops : Array Oper} {Q : Exit → Act → World → Prop}
theorem goesW {rest : List Oper} {oi : Oper} {a : Act} {w : World} (N : Option Tmp) (hd : oi.dst = N) (hw : Region.wanted oi (yielded ops a.tmps) = true) {f : FuncId} {fn : Func} {os : Array Operand} {ts : Array TypeId} (hf : P.funcs[f]? = some fn) (hname : (fn.name == "runtime.NumGoroutine") = false) (hb : fn.body.isSome = true) (args : Array Value)
    (hop : oi.op = .call { callee := .value (.func f), args := os, argTypes := ts }) (hargs : os.map a.eval = args)
    (h : Calls P f args w fun e w' => ∃ v, e = .returned v ∧ wpList P ops Q rest (a.put N v) w') : wpList P ops Q (oi :: rest) a w := by
  refine wpList_step fun K hK => ?_
  rw [if_pos hw]
  have he := enters_ hf hname hb args w
  have hrun : (execOp a.eval oi).run P w = .ok (.enter f args) w := by
    unfold execOp
    simp [hop, resolve, Deferred.ofValue, invoke, Act.eval, hargs, he]
  unfold Oper.wp
  rw [hrun, Oper.upon_enter]
  refine h.mono fun e w'' hh => ?_
  obtain ⟨v, rfl, hk⟩ := hh
  subst hd
  exact hK _ _ hk
end
/-- What holds between two calls of NetPlays. -/
def NPL (gx gy gz gw : Nat) (ys : List Zk) (qs : List (Int × List Int)) (Ay : Option Addr) (cy : Nat) (Aw : Option Addr) (cw : Nat) : List Asrt :=
  [bag gx (ys.map (·.2)), bag gz qs, rbk gy Ay cy ys, blk gw (.cells #[.slice Aw qs.length cw] 63 (0, 0)), pool [PF Ay cy ys]]
def NPRelI (w : World) (len i : Nat) (v4 v5 v6 v7 v8 : Value) (wr : World) : Prop :=
  ∃ (gx gy gz gw : Nat) (ys : List Zk) (qs : List (Int × List Int)) (Ay : Option Addr) (cy : Nat) (Aw : Option Addr) (cw : Nat),
    v4 = .pointer (some ⟨gx, 0, none⟩) ∧ v5 = .pointer (some ⟨gy, 0, none⟩) ∧ v6 = .pointer (some ⟨gz, 0, none⟩) ∧ v7 = .pointer (some ⟨gw, 0, none⟩) ∧ v8 = .int .i64 i ∧ i ≤ 150 ∧ i ≤ len ∧ ys.length ≤ 256 ∧ (∀ z ∈ ys, z.2.2.length ≤ 140737488355328) ∧ Sat w wr (NPL gx gy gz gw ys qs Ay cy Aw cw)
theorem poolDrop {w0 w : World} {L : List Asrt} {f g : World → Prop} (h : Sat w0 w (pool [f, g] :: L)) : Sat w0 w (pool [f] :: L) :=
  h.poolMap (fun w' hw f' hf => by rw [List.mem_singleton.1 hf]; exact hw f List.mem_cons_self)
theorem mapErase (ys : List Zk) (k : Nat) : (ys.map (·.2)).eraseIdx k = (ys.eraseIdx k).map (·.2) := by
  rw [List.eraseIdx_eq_take_drop_succ, List.eraseIdx_eq_take_drop_succ, List.map_append, List.map_take, List.map_drop]
theorem mapGetD (ys : List Zk) (k : Nat) (z0 : Zk) (hk : k < ys.length) : (ys.map (·.2)).getD k (0, []) = (ys.getD k z0).2 := by
  simp only [List.getD_eq_getElem?_getD, List.getElem?_map, List.getElem?_eq_getElem hk]
  rfl


/-- The body of the first loop in a code. -/
def firstLoop : Code → Option Code
  | .loop c => some c
  | .seq a b => match firstLoop a with
    | some c => some c
    | none => firstLoop b
  | .block _ c => firstLoop c
  | .scope c => firstLoop c
  | .cond _ a b => match firstLoop a with
    | some c => some c
    | none => firstLoop b
  | _ => none
noncomputable def npBody : Code := ((Try.f9.body.bind firstLoop).getD .skip)

set_option maxHeartbeats 16000000 in
set_option maxRecDepth 100000 in
theorem NP_clone (A : Option Addr) (c : Nat) (l : List (Int × Int × List (List Int))) (w wr : World) (HR : Aside0 (kOp.C w A l.length l)) (HB : Aside0 (∀ o ∈ l, (Lit.int .i64 o.1).wf = true ∧ o.2.2.length * 24 ≤ 140737488355328 ∧ ∀ x ∈ o.2.2, x.length ≤ 140737488355328)) (hc : l.length ≤ c)
    (i gx gy gz gw : Nat) (ys : List Zk) (qs : List (Int × List Int)) (Ay : Option Addr) (cy : Nat) (Aw : Option Addr) (cw : Nat) (hyl : ys.length ≤ 256) (hyb : ∀ z ∈ ys, z.2.2.length ≤ 140737488355328) (HS : Sat w wr (NPL gx gy gz gw ys qs Ay cy Aw cw)) (hlt : i < l.length) (hlt3 : i < 150) (hk : kindOf (l.getD i (0, 0, [])).1 = 5)
    (c1 c3 c20 c21 c22 c23 c24 c25 c26 c27 c28 c29 c30 c31 c32 c33 c34 c35 c36 c37 c210 c211 c212 c213 c214 c215 c216 c217 c218 c219 c220 c221 c222 c223 c224 c225 c226 c227 c228 c229 c230 c231 c232 c233 c234 c235 c236 c237 c238 c239 c240 c241 c242 c243 c244 c245 c246 c247 c248 c249 u2 u9 u10 u11 u12 u13 u14 u15 u16 u17 u18 u19 u38 u39 u40 u41 u42 u43 u44 u45 u46 u47 u48 u49 u50 u51 u52 u53 u54 u55 u56 u57 u58 u59 u60 u61 u62 u63 u64 u65 u66 u67 u68 u69 u70 u71 u72 u73 u74 u75 u76 u77 u78 u79 u80 u81 u82 u83 u84 u85 u86 u87 u88 u89 u90 u91 u92 u93 u94 u95 u96 u97 u98 u99 u100 u101 u102 u103 u104 u105 u106 u107 u108 u109 u110 u111 u112 u113 u114 u115 u116 u117 u118 u119 u120 u121 u122 u123 u124 u125 u126 u127 u128 u129 u130 u131 u132 u133 u134 u135 u136 u137 u138 u139 u140 u141 u142 u143 u144 u145 u146 u147 u148 u149 u150 u151 u152 u153 u154 u155 u156 u157 u158 u159 u160 u161 u162 u163 u164 u165 u166 u167 u168 u169 u170 u171 u172 u173 u174 u175 u176 u177 u178 u179 u180 u181 u182 u183 u184 u185 u186 u187 u188 u189 u190 u191 u192 u193 u194 u195 u196 u197 u198 u199 u200 u201 u202 u203 u204 u205 u206 u207 u208 u209 : Value) (K K0 : Act → World → Prop) (Post : Ending → World → Prop)
    (hK : ∀ (u2 u9 u10 u11 u12 u13 u14 u15 u16 u17 u18 u19 u38 u39 u40 u41 u42 u43 u44 u45 u46 u47 u48 u49 u50 u51 u52 u53 u54 u55 u56 u57 u58 u59 u60 u61 u62 u63 u64 u65 u66 u67 u68 u69 u70 u71 u72 u73 u74 u75 u76 u77 u78 u79 u80 u81 u82 u83 u84 u85 u86 u87 u88 u89 u90 u91 u92 u93 u94 u95 u96 u97 u98 u99 u100 u101 u102 u103 u104 u105 u106 u107 u108 u109 u110 u111 u112 u113 u114 u115 u116 u117 u118 u119 u120 u121 u122 u123 u124 u125 u126 u127 u128 u129 u130 u131 u132 u133 u134 u135 u136 u137 u138 u139 u140 u141 u142 u143 u144 u145 u146 u147 u148 u149 u150 u151 u152 u153 u154 u155 u156 u157 u158 u159 u160 u161 u162 u163 u164 u165 u166 u167 u168 u169 u170 u171 u172 u173 u174 u175 u176 u177 u178 u179 u180 u181 u182 u183 u184 u185 u186 u187 u188 u189 u190 u191 u192 u193 u194 u195 u196 u197 u198 u199 u200 u201 u202 u203 u204 u205 u206 u207 u208 u209 v4 v5 v6 v7 v8 : Value) (w2 : World), NPRelI w l.length (i + 1) v4 v5 v6 v7 v8 w2 → K ⟨#[.slice A l.length c, c1, u2, c3, v4, v5, v6, v7, v8, u9, u10, u11, u12, u13, u14, u15, u16, u17, u18, u19, c20, c21, c22, c23, c24, c25, c26, c27, c28, c29, c30, c31, c32, c33, c34, c35, c36, c37, u38, u39, u40, u41, u42, u43, u44, u45, u46, u47, u48, u49, u50, u51, u52, u53, u54, u55, u56, u57, u58, u59, u60, u61, u62, u63, u64, u65, u66, u67, u68, u69, u70, u71, u72, u73, u74, u75, u76, u77, u78, u79, u80, u81, u82, u83, u84, u85, u86, u87, u88, u89, u90, u91, u92, u93, u94, u95, u96, u97, u98, u99, u100, u101, u102, u103, u104, u105, u106, u107, u108, u109, u110, u111, u112, u113, u114, u115, u116, u117, u118, u119, u120, u121, u122, u123, u124, u125, u126, u127, u128, u129, u130, u131, u132, u133, u134, u135, u136, u137, u138, u139, u140, u141, u142, u143, u144, u145, u146, u147, u148, u149, u150, u151, u152, u153, u154, u155, u156, u157, u158, u159, u160, u161, u162, u163, u164, u165, u166, u167, u168, u169, u170, u171, u172, u173, u174, u175, u176, u177, u178, u179, u180, u181, u182, u183, u184, u185, u186, u187, u188, u189, u190, u191, u192, u193, u194, u195, u196, u197, u198, u199, u200, u201, u202, u203, u204, u205, u206, u207, u208, u209, c210, c211, c212, c213, c214, c215, c216, c217, c218, c219, c220, c221, c222, c223, c224, c225, c226, c227, c228, c229, c230, c231, c232, c233, c234, c235, c236, c237, c238, c239, c240, c241, c242, c243, c244, c245, c246, c247, c248, c249], []⟩ w2) :
    Code.wp Try.prog npBody (Exit.then K (Exit.inBlock 0 (Exit.then K0 (bodyPost Try.prog Try.f9 Post)))) ⟨#[.slice A l.length c, c1, u2, c3, .pointer (some ⟨gx, 0, none⟩), .pointer (some ⟨gy, 0, none⟩), .pointer (some ⟨gz, 0, none⟩), .pointer (some ⟨gw, 0, none⟩), .int .i64 (i : Int), u9, u10, u11, u12, u13, u14, u15, u16, u17, u18, u19, c20, c21, c22, c23, c24, c25, c26, c27, c28, c29, c30, c31, c32, c33, c34, c35, c36, c37, u38, u39, u40, u41, u42, u43, u44, u45, u46, u47, u48, u49, u50, u51, u52, u53, u54, u55, u56, u57, u58, u59, u60, u61, u62, u63, u64, u65, u66, u67, u68, u69, u70, u71, u72, u73, u74, u75, u76, u77, u78, u79, u80, u81, u82, u83, u84, u85, u86, u87, u88, u89, u90, u91, u92, u93, u94, u95, u96, u97, u98, u99, u100, u101, u102, u103, u104, u105, u106, u107, u108, u109, u110, u111, u112, u113, u114, u115, u116, u117, u118, u119, u120, u121, u122, u123, u124, u125, u126, u127, u128, u129, u130, u131, u132, u133, u134, u135, u136, u137, u138, u139, u140, u141, u142, u143, u144, u145, u146, u147, u148, u149, u150, u151, u152, u153, u154, u155, u156, u157, u158, u159, u160, u161, u162, u163, u164, u165, u166, u167, u168, u169, u170, u171, u172, u173, u174, u175, u176, u177, u178, u179, u180, u181, u182, u183, u184, u185, u186, u187, u188, u189, u190, u191, u192, u193, u194, u195, u196, u197, u198, u199, u200, u201, u202, u203, u204, u205, u206, u207, u208, u209, c210, c211, c212, c213, c214, c215, c216, c217, c218, c219, c220, c221, c222, c223, c224, c225, c226, c227, c228, c229, c230, c231, c232, c233, c234, c235, c236, c237, c238, c239, c240, c241, c242, c243, c244, c245, c246, c247, c248, c249], []⟩ wr := by
  have HKK := Aside0.mk hK
  clear hK
  conv => arg 2; whnf
  have hu52 := Try.underlying52
  have hu48 := Try.underlying48
  unfold NPL at HS
  have HYB0 := Aside0.mk hyb
  have HYL2 := Aside0.mk hyl
  have HYL := Aside0.mk (show (ys.map (·.2)).length ≤ 256 by rw [List.length_map]; exact hyl)
  have HYB := Aside0.mk (show ∀ x ∈ ys.map (·.2), x.2.length ≤ 140737488355328 from fun x hx => by obtain ⟨z, hz, rfl⟩ := List.mem_map.1 hx; exact hyb z hz)
  have hd1 : decide ((i : Int) < (l.length : Int)) = true := decide_eq_true (by omega)
  have hd2 : decide ((i : Int) < 150) = true := decide_eq_true (by omega)
  have hd3 : decide (i < l.length) = true := decide_eq_true hlt
  obtain ⟨ad, b, o, B, cb, rfl, ha, k0, k1, k2, hcb, hrb⟩ := op_at HR.out i hlt
  have hx1 := HB.out (l.getD i (0, 0, [])) (by rw [List.getD_eq_getElem?_getD, List.getElem?_eq_getElem hlt]; exact List.getElem_mem _)
  obtain ⟨x, hx⟩ : ∃ x, x = l.getD i (0, 0, []) := ⟨_, rfl⟩
  rw [← hx] at k0 k1 k2 hcb hrb hx1 hk
  obtain ⟨z0, z1, fs⟩ := x
  clear hx hyb
  have k0 := (HS.below.cell (World.block_lt_of_cell? _ _ k0)).trans k0
  have k1 := (HS.below.cell (World.block_lt_of_cell? _ _ k1)).trans k1
  have k2 := (HS.below.cell (World.block_lt_of_cell? _ _ k2)).trans k2
  have HRB := Aside0.mk hrb
  clear hrb
  (try dsimp only at k0); (try dsimp only at k1); (try dsimp only at k2); (try dsimp only at hcb); (try dsimp only at hx1); (try dsimp only at hk)
  have HK := Aside0.mk hx1.1
  have hfl : fs.length ≤ 140737488355328 := by have := hx1.2.1; omega
  have HFL24 := Aside0.mk hx1.2.1
  have HFB := Aside0.mk hx1.2.2
  clear hx1
  have z00 : Zk := ((none, 0), (0, []))
  have hcz : (0 ≤ z1 ∧ z1 < ys.length) ∨ (z1 < 0 ∨ (ys.length : Int) ≤ z1) := by omega
  go_wp2_with (first | ((with_reducible refine gate_dst (N := 9) rfl ?_); refine box_event ?hg1 (N := 9) ?hd1 (cs := #[.int .i64 0, .int .i64 0, .slice none 0 0]) (t := 48) ?hr1 ?_; (case hd1 => rfl); (case hg1 => rfl); (case hr1 => first | (go_simp; done) | (go_simp; rfl)); intro g9 hg wa hbox hb; have HS1 := HS.box hg hbox hb; clear HS hg hbox hb; have d0 := HS1.cell 0 0 rfl rfl; have d1 := HS1.cell 0 1 rfl rfl; have d2 := HS1.cell 0 2 rfl rfl; have f0 := HS1.frozen 0 0 rfl; have f1 := HS1.frozen 0 1 rfl; have f2 := HS1.frozen 0 2 rfl) | ((with_reducible refine gate_store (t := 48) (p := 9) rfl ?_); refine store_event (t := 48) (p := 9) (v := ?vo2) (w1 := (((wa.setCell ⟨g9, 0, none⟩ (.int .i64 z0)).setCell ⟨g9, 1, none⟩ (.int .i64 z1)).setCell ⟨g9, 2, none⟩ (.slice B fs.length cb))) ?hg2 ?ho2 ?hn2 ?hr2 ?_; (case ho2 => rfl); (case hg2 => rfl); (case hn2 => rfl); (case hr2 => first | (go_simp; done) | (go_simp; rfl)); intro wb hw; have HS2 := (((HS1.setAt 0 0 (.int .i64 z0) rfl).setAt 0 1 (.int .i64 z1) rfl).setAt 0 2 (.slice B fs.length cb) rfl); rw [← hw] at HS2; clear hw HS1 d0 d1 d2 f0 f1 f2 k0 k1 k2; have e0 := HS2.cell 0 0 rfl rfl; have e1 := HS2.cell 0 1 rfl rfl; have e2 := HS2.cell 0 2 rfl rfl) | (go_at_call 24; refine (kind_calls z0 _ HK.out).mono ?_; rintro e wk ⟨he, rfl⟩; rw [hk] at he; subst he) | (go_at_call 30; refine (Clone_calls gx (ys.map (·.2)) HYL.out HYB.out (HS2.pick 1 rfl)).mono ?_; rintro e wc ⟨g', rfl, HS3⟩; clear HS2 e0 e1 e2) | (go_at_call 31; refine (rClone_calls gy Ay cy ys (HS3.pick 4 rfl)).mono ?_; rintro e wd ⟨gy', rfl, HS4⟩; clear HS3))
  have HT : Sat w wd [bag g' (ys.map (·.2)), bag gx (ys.map (·.2)), blk gy' (.cells #[.slice Ay ys.length cy] 63 (0, 0)), blk gy (.cells #[.slice Ay ys.length cy] 63 (0, 0)), pool [PF Ay cy ys]] := HS4.sel [2, 3, 0, 1, 7] _ (by decide) rfl
  clear HS4
  refine region (frees [0, 1, 2, 3, 4, 5, 6, 7, 8, 9, 10, 11, 12, 14, 15, 16] (.held 17 (.free 18 (.one 13 (frees [19, 20, 21, 22, 24, 25, 26] (.held 27 (.free 28 (.one 23 (frees [29, 30] .done))))))))) (fun w' => w'.cell? ⟨gy', 0, none⟩ = some (.slice Ay ys.length cy) ∧ w'.cell? ⟨gy, 0, none⟩ = some (.slice Ay ys.length cy)) [] (by kernel_rfl) (by kernel_rfl) ?_
  have HT1 := (HT).drew
  generalize World.drew _ = wt1 at HT1 ⊢
  have e0 : wt1.cell? ⟨gy', 0, none⟩ = some (.slice Ay ys.length cy) := HT1.cell 2 0 rfl rfl
  have e1 : wt1.cell? ⟨gy, 0, none⟩ = some (.slice Ay ys.length cy) := HT1.cell 3 0 rfl rfl
  repeat (first | (refine st_free (v := ?_) (a' := ?_) (by simp only [List.getElem?_toArray, List.getElem?_cons_succ, List.getElem?_cons_zero]; rfl) (by rfl) ?_ ?_ ?_; rotate_left 2; (intro w'; go_simp; with_reducible rfl); (simp only [Act.put, List.setIfInBounds_toArray, List.set_cons_zero, List.set_cons_succ]; rfl)) | (refine st_held (v := ?_) (a' := ?_) ⟨e0, e1⟩ (by simp only [List.getElem?_toArray, List.getElem?_cons_succ, List.getElem?_cons_zero]; rfl) (by rfl) ?_ ?_ ?_; rotate_left 2; (rintro w' ⟨s0, s1⟩; go_simp; with_reducible rfl); (simp only [Act.put, List.setIfInBounds_toArray, List.set_cons_zero, List.set_cons_succ]; rfl)))
  clear e0 e1
  refine st_one (by simp only [List.getElem?_toArray, List.getElem?_cons_succ, List.getElem?_cons_zero]; rfl) ?_
  refine goesW (some 192) rfl (by rfl) Try.func29 (by kernel_rfl) rfl #[.pointer (some ⟨g', 0, none⟩)] rfl (by go_simp) ?_
  refine (Len_calls g' (ys.map (·.2)) HT1).mono ?_
  rintro e wt2 ⟨rfl, HT2⟩
  refine ⟨_, rfl, ?_⟩
  have e0 : wt2.cell? ⟨gy', 0, none⟩ = some (.slice Ay ys.length cy) := HT2.cell 2 0 rfl rfl
  have e1 : wt2.cell? ⟨gy, 0, none⟩ = some (.slice Ay ys.length cy) := HT2.cell 3 0 rfl rfl
  refine ⟨⟨e0, e1⟩, ?_⟩
  refine st_norm (a' := ?_) ?_ ?_; rotate_left; (simp only [Act.put, List.setIfInBounds_toArray, List.set_cons_zero, List.set_cons_succ]; rfl)
  repeat (first | (refine st_free (v := ?_) (a' := ?_) (by simp only [List.getElem?_toArray, List.getElem?_cons_succ, List.getElem?_cons_zero]; rfl) (by rfl) ?_ ?_ ?_; rotate_left 2; (intro w'; go_simp; with_reducible rfl); (simp only [Act.put, List.setIfInBounds_toArray, List.set_cons_zero, List.set_cons_succ]; rfl)) | (refine st_held (v := ?_) (a' := ?_) ⟨e0, e1⟩ (by simp only [List.getElem?_toArray, List.getElem?_cons_succ, List.getElem?_cons_zero]; rfl) (by rfl) ?_ ?_ ?_; rotate_left 2; (rintro w' ⟨s0, s1⟩; go_simp; with_reducible rfl); (simp only [Act.put, List.setIfInBounds_toArray, List.set_cons_zero, List.set_cons_succ]; rfl)))
  clear e0 e1 HT1
  refine st_one (by simp only [List.getElem?_toArray, List.getElem?_cons_succ, List.getElem?_cons_zero]; rfl) ?_
  refine goesW (some 202) rfl (by rfl) Try.func29 (by kernel_rfl) rfl #[.pointer (some ⟨gx, 0, none⟩)] rfl (by go_simp) ?_
  refine (Len_calls gx (ys.map (·.2)) (HT2.pick 1 rfl)).mono ?_
  rintro e wt3 ⟨rfl, HT3'⟩
  have HT3 := HT3'.swap
  clear HT2 HT3'
  refine ⟨_, rfl, ?_⟩
  have e0 : wt3.cell? ⟨gy', 0, none⟩ = some (.slice Ay ys.length cy) := HT3.cell 2 0 rfl rfl
  have e1 : wt3.cell? ⟨gy, 0, none⟩ = some (.slice Ay ys.length cy) := HT3.cell 3 0 rfl rfl
  refine ⟨⟨e0, e1⟩, ?_⟩
  refine st_norm (a' := ?_) ?_ ?_; rotate_left; (simp only [Act.put, List.setIfInBounds_toArray, List.set_cons_zero, List.set_cons_succ]; rfl)
  repeat (first | (refine st_free (v := ?_) (a' := ?_) (by simp only [List.getElem?_toArray, List.getElem?_cons_succ, List.getElem?_cons_zero]; rfl) (by rfl) ?_ ?_ ?_; rotate_left 2; (intro w'; go_simp; with_reducible rfl); (simp only [Act.put, List.setIfInBounds_toArray, List.set_cons_zero, List.set_cons_succ]; rfl)) | (refine st_held (v := ?_) (a' := ?_) ⟨e0, e1⟩ (by simp only [List.getElem?_toArray, List.getElem?_cons_succ, List.getElem?_cons_zero]; rfl) (by rfl) ?_ ?_ ?_; rotate_left 2; (rintro w' ⟨s0, s1⟩; go_simp; with_reducible rfl); (simp only [Act.put, List.setIfInBounds_toArray, List.set_cons_zero, List.set_cons_succ]; rfl)))
  refine st_done ?_
  clear e0 e1
  go_wp2
  exact HKK.out _ _ _ _ _ _ _ _ _ _ _ _ _ _ _ _ _ _ _ _ _ _ _ _ _ _ _ _ _ _ _ _ _ _ _ _ _ _ _ _ _ _ _ _ _ _ _ _ _ _ _ _ _ _ _ _ _ _ _ _ _ _ _ _ _ _ _ _ _ _ _ _ _ _ _ _ _ _ _ _ _ _ _ _ _ _ _ _ _ _ _ _ _ _ _ _ _ _ _ _ _ _ _ _ _ _ _ _ _ _ _ _ _ _ _ _ _ _ _ _ _ _ _ _ _ _ _ _ _ _ _ _ _ _ _ _ _ _ _ _ _ _ _ _ _ _ _ _ _ _ _ _ _ _ _ _ _ _ _ _ _ _ _ _ _ _ _ _ _ _ _ _ _ _ _ _ _ _ _ _ _ _ _ _ _ _ _ _ _ _ ⟨g', gy', gx, gy, ys, ys.map (·.2), Ay, cy, Ay, cy, rfl, rfl, rfl, rfl, by rw [Int.natCast_add]; rfl, by omega, by omega, HYL2.out, HYB0.out, by unfold NPL; rw [List.length_map]; exact HT3⟩

end Go.Proofs.Ytaojnbhnogndnaa.SL
