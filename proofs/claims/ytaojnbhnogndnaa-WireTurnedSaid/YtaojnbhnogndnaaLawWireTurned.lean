/- WireTurned: a frame in which bits are turned that lie within 32 side by side, but for those of the byte that tells how many bytes the piece has, is none: true for every input. No conditions. -/
import Derived.Test.YtaojnbhnogndnaaRows
import Derived.Test.YtaojnbhnogndnaaY27
import Derived.Test.YtaojnbhnogndnaaY16
import Derived.Test.YtaojnbhnogndnaaY25
import Derived.WalkKit
import Derived.ProofKit
import Derived.OpenShut
import Derived.ShutString
import Derived.ChangeOld
import Derived.Below
import Derived.SizedLaws
import Derived.Test.YtaojnbhnogndnaaXO
namespace Go.Proofs.Ytaojnbhnogndnaa.wireTurned
open Go.ChangeShapes Go.WideShapes Go.ChangeAt Go.RowKit Go.Proofs.YtaojnbhnogndnaaW.PrintWords
open Go.ChangeMaps (open_string shut_string)
set_option linter.unusedVariables false
theorem own : ownKnob Try.prog.godebug = none := by kernel_rfl
theorem laidOut : laidOutB Try.prog = true := by kernel_rfl
theorem by5 : Try.prog.bytesOf 5 = 1 := by kernel_rfl
theorem le5 {n : Nat} (h : n * Try.prog.bytesOf 5 ≤ reachBytes) : n ≤ 140737488355328 := by rw [by5] at h; unfold reachBytes at h; omega
theorem by3 : Try.prog.bytesOf 3 = 8 := by kernel_rfl
theorem le3 {n : Nat} (h : n * Try.prog.bytesOf 3 ≤ reachBytes) : n ≤ 140737488355328 := by rw [by3] at h; unfold reachBytes at h; omega
theorem le5s {n : Nat} (h : n * Try.prog.bytesOf 5 ≤ reachBytes) : n < 140737488355328 := by rw [by5] at h; unfold reachBytes at h; omega
theorem by22 : Try.prog.bytesOf 22 = 24 := by kernel_rfl
theorem le22 {n : Nat} (h : n * Try.prog.bytesOf 22 ≤ reachBytes) : n ≤ 140737488355328 := by rw [by22] at h; unfold reachBytes at h; omega
theorem le22m {n : Nat} (h : n * Try.prog.bytesOf 22 ≤ reachBytes) : n * 24 ≤ 140737488355328 := by rw [by22] at h; unfold reachBytes at h; omega

set_option maxRecDepth 100000 in
theorem lifted (os : Os) (started : os.Started) (H : Type) (enc : TypeId × Value → H) :
    ReturnsInHanded {} Try.checked os 13 .any (Rows.wireTurnedSpec.pre6 enc Try.prog Try.f13 Rows.wireTurnedRow.domain false) (Rows.wireTurnedSpec.post enc Try.prog Try.f13 false true false false) := by
  refine returnsInHanded_of_change_sized (C := Try.checked) own started (by kernel_rfl) Try.func13
    (ChangeSpec.witness6 (enc := enc) (C := Try.checked) false ⟨#[], #[.agg #[.int .i64 0, .int .i64 0, .int .i64 0, .slice none 0 0], .int .i64 0, .int .u32 0], []⟩ 8 (by kernel_rfl) (by kernel_rfl) (by kernel_rfl) (by kernel_rfl)) ?_
  intro W base args ds gs before hval0 hW hcnd hsz0 _
  have hsz : (DataW.weightsEach Try.prog (Try.f13.params.toList ++ Rows.wireTurnedSpec.plain.varTypes Try.prog) (ds ++ gs)).all (· ≤ reachBytes) = true := hsz0
  have hval : ∀ (j : Nat) t v, Try.f13.params[j]? = some t → args[j]? = some v → Value.okWide Try.prog W .any base t v := hval0
  have hW' := hW
  obtain ⟨p, q, hA0, hV, rfl, hfz, hnd⟩ := hW
  have hA : DataW.TrodAll enc Try.prog W 0 (fun _ => true) true Try.f13.params.toList args.toList ds p := hA0
  rw [Try.params13] at hA hval hsz
  obtain ⟨v0, vs0, d0, ds0, p0, q0, hargs0, rfl, rfl, h0, r0⟩ := trodAll_cons hA
  obtain ⟨v1, vs1, d1, ds1, p1, q1, hargs1, rfl, rfl, h1, r1⟩ := trodAll_cons r0
  obtain ⟨v2, vs2, d2, ds2, p2, q2, hargs2, rfl, rfl, h2, r2⟩ := trodAll_cons r1
  obtain ⟨rfl, rfl, rfl⟩ := trodAll_nil r2
  subst hargs2
  subst hargs1
  obtain rfl : args = #[v0, v1, v2] := by cases args; simp_all
  obtain ⟨rfl, rfl⟩ := trodVars_none hV
  obtain ⟨c0, rfl, _⟩ := okWide_struct Try.underlying24 (hval 0 24 v0 rfl rfl)
  obtain ⟨⟨kd0, nd0, nc0, xs0⟩, hK0, wk0, wn0, wc0, wl0, wx0⟩ := SL.Opens.agg4 (d := SL.kMsg) (SL.Opens.quad Try.underlying24 rfl rfl rfl rfl (by kernel_rfl) (by kernel_rfl) (by kernel_rfl) (by kernel_rfl) (by kernel_rfl) (SL.Opens.int Try.underlying3) (SL.Opens.int Try.underlying3) (SL.Opens.int Try.underlying3) (SL.Opens.slice Try.underlying22 (by kernel_rfl) (SL.Opens.int Try.underlying5))) h0 (SL.weights_of hsz (j := 0) (t := 24) rfl rfl)
  obtain ⟨a0, cap0, hcl0, hc0, hr0⟩ := SL.kMsg_K hK0
  obtain rfl : c0 = #[.int .i64 kd0, .int .i64 nd0, .int .i64 nc0, .slice a0 xs0.length cap0] := Array.toList_inj.1 hcl0
  obtain ⟨x1, rfl, _, _, hw1⟩ := open_int Try.underlying3 (hval 1 3 v1 rfl rfl) h1
  obtain ⟨x2, rfl, _, _, hw2⟩ := open_int Try.underlying74 (hval 2 74 v2 rfl rfl) h2
  have k0 := h0
  have lt0 : ∀ x ∈ p0, x.block < W.heap.size := by obtain ⟨m, hm⟩ := k0; exact DataW.trod_lt m _ _ _ hm
  have k1 := h1
  have lt1 : ∀ x ∈ p1, x.block < W.heap.size := by obtain ⟨m, hm⟩ := k1; exact DataW.trod_lt m _ _ _ hm
  have k2 := h2
  have lt2 : ∀ x ∈ p2, x.block < W.heap.size := by obtain ⟨m, hm⟩ := k2; exact DataW.trod_lt m _ _ _ hm
  clear hA0 hval0 hsz0 hsz
  refine (SL.WireTurned_calls kd0 nd0 nc0 a0 cap0 xs0 x1 x2 hr0 hc0 (fun x hx => SL.wf8 (wx0 x hx)) (SL.wf64 hw1) (SL.wfu32 hw2)).mono fun e W' ⟨he, bel⟩ => ?_
  subst he
  exact ⟨_, rfl, _, _, _, [], _, [], hW', trodAll_mk1 (shut_bool Try.underlying4 _), (trodAll_cons_mk (Below.trod laidOut (by kernel_rfl) (of_decide_eq_true (by kernel_rfl)) k0 bel lt0) (trodAll_cons_mk (Below.trod laidOut (by kernel_rfl) (of_decide_eq_true (by kernel_rfl)) k1 bel lt1) (trodAll_cons_mk (Below.trod laidOut (by kernel_rfl) (of_decide_eq_true (by kernel_rfl)) k2 bel lt2) trodAll_mk0))), rfl, bel.frame _, fun h => by cases h⟩
theorem over : Rows.wireTurnedRow.holds Try.pinned (OpenSpec.ofChange Rows.wireTurnedSpec) :=
  OpenClaim.holds_of_wide 13 Try.f13 rfl rfl rfl rfl rfl rfl rfl ⟨rfl, rfl, rfl, rfl, rfl⟩ rfl rfl rfl rfl rfl (by kernel_rfl) Try.func13 (by kernel_rfl)
    (of_decide_eq_true (by kernel_rfl)) (by unfold Func.isWrapper; first | (rw [if_pos (by decide +kernel)]; kernel_rfl) | (rw [if_neg (by decide +kernel)]; exact ⟨rfl, rfl⟩))
    (fun os started H enc _ => lifted os started H enc)
theorem proved : Rows.WireTurnedSaid := over
#print axioms proved
end Go.Proofs.Ytaojnbhnogndnaa.wireTurned
namespace Go.Proofs.Ytaojnbhnogndnaa
/-- The statement, under a short name, for the claim. -/
theorem wireTurned_holds : Rows.WireTurnedSaid := wireTurned.proved
end Go.Proofs.Ytaojnbhnogndnaa
