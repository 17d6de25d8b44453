/- SessionNew: a greater nonce forgets what came of a lower one, its own frames alone make its message: true for every input. No conditions. -/
import Derived.Test.YtaojnbhnogndnaaRows
import Derived.Test.YtaojnbhnogndnaaY19
import Derived.Test.YtaojnbhnogndnaaY16
import Derived.WalkKit
import Derived.ProofKit
import Derived.OpenShut
import Derived.ShutString
import Derived.ChangeOld
import Derived.Below
import Derived.SizedLaws
import Derived.Test.YtaojnbhnogndnaaXO
namespace Go.Proofs.Ytaojnbhnogndnaa.sessionNew
open Go.ChangeShapes Go.WideShapes Go.ChangeAt Go.RowKit Go.Proofs.YtaojnbhnogndnaaW.PrintWords
open Go.ChangeMaps (open_string shut_string)
set_option linter.unusedVariables false
theorem own : ownKnob Try.prog.godebug = none := by kernel_rfl
theorem laidOut : laidOutB Try.prog = true := by kernel_rfl
theorem by5 : Try.prog.bytesOf 5 = 1 := by kernel_rfl
theorem le5 {n : Nat} (h : n * Try.prog.bytesOf 5 ≤ reachBytes) : n ≤ 140737488355328 := by rw [by5] at h; unfold reachBytes at h; omega
theorem by3 : Try.prog.bytesOf 3 = 8 := by kernel_rfl
theorem le3 {n : Nat} (h : n * Try.prog.bytesOf 3 ≤ reachBytes) : n ≤ 140737488355328 := by rw [by3] at h; unfold reachBytes at h; omega
theorem le5s {n : Nat} (h : n * Try.prog.bytesOf 5 ≤ reachBytes) : n < 140737488355328 := by rw [by5] at h; unfold reachBytes at h; omega
theorem by22 : Try.prog.bytesOf 22 = 24 := by kernel_rfl
theorem le22 {n : Nat} (h : n * Try.prog.bytesOf 22 ≤ reachBytes) : n ≤ 140737488355328 := by rw [by22] at h; unfold reachBytes at h; omega
theorem le22m {n : Nat} (h : n * Try.prog.bytesOf 22 ≤ reachBytes) : n * 24 ≤ 140737488355328 := by rw [by22] at h; unfold reachBytes at h; omega

set_option maxRecDepth 100000 in
theorem lifted (os : Os) (started : os.Started) (H : Type) (enc : TypeId × Value → H) :
    ReturnsInHanded {} Try.checked os 4 .any (Rows.sessionNewSpec.pre6 enc Try.prog Try.f4 Rows.sessionNewRow.domain false) (Rows.sessionNewSpec.post enc Try.prog Try.f4 false true false false) := by
  refine returnsInHanded_of_change_sized (C := Try.checked) own started (by kernel_rfl) Try.func4
    (ChangeSpec.witness6 (enc := enc) (C := Try.checked) false ⟨#[], #[.slice none 0 0, .slice none 0 0, .slice none 0 0], []⟩ 8 (by kernel_rfl) (by kernel_rfl) (by kernel_rfl) (by kernel_rfl)) ?_
  intro W base args ds gs before hval0 hW hcnd hsz0 _
  have hsz : (DataW.weightsEach Try.prog (Try.f4.params.toList ++ Rows.sessionNewSpec.plain.varTypes Try.prog) (ds ++ gs)).all (· ≤ reachBytes) = true := hsz0
  have hval : ∀ (j : Nat) t v, Try.f4.params[j]? = some t → args[j]? = some v → Value.okWide Try.prog W .any base t v := hval0
  have hW' := hW
  obtain ⟨p, q, hA0, hV, rfl, hfz, hnd⟩ := hW
  have hA : DataW.TrodAll enc Try.prog W 0 (fun _ => true) true Try.f4.params.toList args.toList ds p := hA0
  rw [Try.params4] at hA hval hsz
  obtain ⟨v0, vs0, d0, ds0, p0, q0, hargs0, rfl, rfl, h0, r0⟩ := trodAll_cons hA
  obtain ⟨v1, vs1, d1, ds1, p1, q1, hargs1, rfl, rfl, h1, r1⟩ := trodAll_cons r0
  obtain ⟨v2, vs2, d2, ds2, p2, q2, hargs2, rfl, rfl, h2, r2⟩ := trodAll_cons r1
  obtain ⟨rfl, rfl, rfl⟩ := trodAll_nil r2
  subst hargs2
  subst hargs1
  obtain rfl : args = #[v0, v1, v2] := by cases args; simp_all
  obtain ⟨rfl, rfl⟩ := trodVars_none hV
  obtain ⟨a0, len0, cap0, rfl⟩ := okWide_slice Try.underlying22 (hval 0 22 v0 rfl rfl)
  obtain ⟨xs0, e0, hc0, hr0, hz0, hB0⟩ := (SL.Opens.slice Try.underlying22 (by kernel_rfl) (SL.Opens.int Try.underlying5)).arg h0 (SL.weights_of hsz (j := 0) (t := 22) rfl rfl)
  subst e0
  obtain ⟨a1, len1, cap1, rfl⟩ := okWide_slice Try.underlying22 (hval 1 22 v1 rfl rfl)
  obtain ⟨xs1, e1, hc1, hr1, hz1, hB1⟩ := (SL.Opens.slice Try.underlying22 (by kernel_rfl) (SL.Opens.int Try.underlying5)).arg h1 (SL.weights_of hsz (j := 1) (t := 22) rfl rfl)
  subst e1
  obtain ⟨a2, len2, cap2, rfl⟩ := okWide_slice Try.underlying25 (hval 2 25 v2 rfl rfl)
  obtain ⟨xs2, e2, hc2, hr2, hz2, hB2⟩ := (SL.Opens.slice Try.underlying25 (by kernel_rfl) (SL.Opens.int Try.underlying3)).arg h2 (SL.weights_of hsz (j := 2) (t := 25) rfl rfl)
  subst e2
  have k0 := h0
  have lt0 : ∀ x ∈ p0, x.block < W.heap.size := by obtain ⟨m, hm⟩ := k0; exact DataW.trod_lt m _ _ _ hm
  have k1 := h1
  have lt1 : ∀ x ∈ p1, x.block < W.heap.size := by obtain ⟨m, hm⟩ := k1; exact DataW.trod_lt m _ _ _ hm
  have k2 := h2
  have lt2 : ∀ x ∈ p2, x.block < W.heap.size := by obtain ⟨m, hm⟩ := k2; exact DataW.trod_lt m _ _ _ hm
  clear hA0 hval0 hsz0 hsz
  refine (SL.SessionNew_calls a0 cap0 xs0 a1 cap1 xs1 a2 cap2 xs2 hr0 hc0 (fun x hx => SL.wf8 (hB0 x hx)) hr1 hc1 (fun x hx => SL.wf8 (hB1 x hx)) hr2 (fun x hx => SL.wf64 (hB2 x hx)) (le3 hz2)).mono fun e W' ⟨he, bel⟩ => ?_
  subst he
  exact ⟨_, rfl, _, _, _, [], _, [], hW', trodAll_mk1 (shut_bool Try.underlying4 _), (trodAll_cons_mk (Below.trod laidOut (by kernel_rfl) (of_decide_eq_true (by kernel_rfl)) k0 bel lt0) (trodAll_cons_mk (Below.trod laidOut (by kernel_rfl) (of_decide_eq_true (by kernel_rfl)) k1 bel lt1) (trodAll_cons_mk (Below.trod laidOut (by kernel_rfl) (of_decide_eq_true (by kernel_rfl)) k2 bel lt2) trodAll_mk0))), rfl, bel.frame _, fun h => by cases h⟩
theorem over : Rows.sessionNewRow.holds Try.pinned (OpenSpec.ofChange Rows.sessionNewSpec) :=
  OpenClaim.holds_of_wide 4 Try.f4 rfl rfl rfl rfl rfl rfl rfl ⟨rfl, rfl, rfl, rfl, rfl⟩ rfl rfl rfl rfl rfl (by kernel_rfl) Try.func4 (by kernel_rfl)
    (of_decide_eq_true (by kernel_rfl)) (by unfold Func.isWrapper; first | (rw [if_pos (by decide +kernel)]; kernel_rfl) | (rw [if_neg (by decide +kernel)]; exact ⟨rfl, rfl⟩))
    (fun os started H enc _ => lifted os started H enc)
theorem proved : Rows.SessionNewSaid := over
#print axioms proved
end Go.Proofs.Ytaojnbhnogndnaa.sessionNew
namespace Go.Proofs.Ytaojnbhnogndnaa
/-- The statement, under a short name, for the claim. -/
theorem sessionNew_holds : Rows.SessionNewSaid := sessionNew.proved
end Go.Proofs.Ytaojnbhnogndnaa
