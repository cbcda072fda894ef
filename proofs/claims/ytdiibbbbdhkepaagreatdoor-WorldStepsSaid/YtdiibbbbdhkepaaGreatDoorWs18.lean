/- The law WorldSteps answers true for every input, and leaves its arguments as they were. Conditions: none. -/
import Derived.Test.YtdiibbbbdhkepaaGreatDoorWs17
import Derived.Test.YtdiibbbbdhkepaaGreatDoorRows
import Derived.WalkKit
import Derived.ProofKit
import Derived.OpenShut
import Derived.ChangeOld
import Derived.Below
import Derived.KernelRfl
set_option linter.unusedSectionVars false
set_option linter.unusedVariables false
set_option linter.unusedSimpArgs false
namespace Go.Proofs.YtdiibbbbdhkepaaGreatDoor.worldSteps
open Go.ChangeShapes Go.WideShapes Go.ChangeAt Go.RowKit Go.AV Go.AV.Stp
set_option linter.unusedVariables false
theorem own : ownKnob Tryz.prog.godebug = none := by kernel_rfl
theorem laidOut : laidOutB Tryz.prog = true := by kernel_rfl
theorem stypes : STypes Tryz.prog 28 25 3 9 26 where
  t := ⟨_, Tryz.underlying28, ⟨_, rfl, rfl, rfl⟩, ⟨_, rfl, rfl, rfl⟩, ⟨_, rfl, rfl, rfl⟩, ⟨_, rfl, rfl, rfl⟩, ⟨_, rfl, rfl, rfl⟩, rfl⟩
  k := Tryz.underlying25
  i := Tryz.underlying3
  s := Tryz.underlying9
  l := Tryz.underlying26
  cT := by kernel_rfl
  cK := by kernel_rfl
  cI := by kernel_rfl
  cS := by kernel_rfl
  cL := by kernel_rfl
set_option maxRecDepth 100000 in
theorem lifted (os : Os) (started : os.Started) (H : Type) (enc : TypeId × Value → H) :
    ReturnsInLeavingWide {} Tryz.checked os 3 .any (Rows.worldStepsSpec.pre6 enc Tryz.prog Tryz.f3 Rows.worldStepsRow.domain false) (Rows.worldStepsSpec.post enc Tryz.prog Tryz.f3 false true false false) := by
  refine returnsInLeaving_of_change (C := Tryz.checked) own started Tryz.func3
    (ChangeSpec.witness6 (enc := enc) (C := Tryz.checked) false ⟨#[], #[.slice none 0 0, .int .i64 0], []⟩ 8 (by kernel_rfl) (by kernel_rfl) (by kernel_rfl) (by kernel_rfl)) ?_
  intro W base args ds gs before hval0 hW hcnd _
  have hval : ∀ (j : Nat) t v, Tryz.f3.params[j]? = some t → args[j]? = some v → Value.okWide Tryz.prog W .any base t v := hval0
  have hW' := hW
  obtain ⟨p, q, hA0, hV, rfl, hfz, hnd⟩ := hW
  have hA : DataW.TrodAll enc Tryz.prog W 0 (fun _ => true) true Tryz.f3.params.toList args.toList ds p := hA0
  rw [Tryz.params3] at hA hval
  obtain ⟨v0, vs0, d0, ds0, p0, q0, hargs, rfl, rfl, h0, r0⟩ := trodAll_cons hA
  obtain ⟨v1, vs1, d1, ds1, p1, q1, rfl, rfl, rfl, h1, r1⟩ := trodAll_cons r0
  obtain ⟨rfl, rfl, rfl⟩ := trodAll_nil r1
  obtain rfl : args = #[v0, v1] := by cases args; simp_all
  obtain ⟨rfl, rfl⟩ := trodVars_none hV
  have lt0 : ∀ x ∈ p0, x.block < W.heap.size := by obtain ⟨m, hm⟩ := h0; exact DataW.trod_lt m _ _ _ hm
  obtain ⟨a0, m0, b0, e0⟩ := arg_steps (W := W) stypes Tryz.underlying22 (hval 0 22 v0 rfl rfl) h0
  have lt1 : ∀ x ∈ p1, x.block < W.heap.size := by obtain ⟨m, hm⟩ := h1; exact DataW.trod_lt m _ _ _ hm
  obtain ⟨a1, b1, e1⟩ := arg_int (W := W) Tryz.underlying3 (hval 1 3 v1 rfl rfl) h1
  refine law_leaves (P := Tryz.prog) (fn := Tryz.f3) (tr := 4) (args := #[v0, v1]) (by kernel_rfl) Tryz.func3 (by rfl) (by rfl) ?_ (fun _ => worldSteps_walk a0 a1 m0 b0 Hd.head_ok) fun W' bel => ?_
  · intro i hi
    match i, hi with
    | 0, _ => exact e0
    | 1, _ => exact e1
    | _ + 2, hi => exact absurd hi (by simp)
  · exact ⟨_, _, _, [], _, [], hW', trodAll_mk1 (shut_bool Tryz.underlying4 _), (trodAll_cons_mk (Below.trod laidOut (by kernel_rfl) (of_decide_eq_true (by kernel_rfl)) h0 bel lt0) (trodAll_cons_mk (Below.trod laidOut (by kernel_rfl) (of_decide_eq_true (by kernel_rfl)) h1 bel lt1) trodAll_mk0)), rfl, bel.frame _, fun h => by cases h⟩
theorem and_tt {a b : Bool} (h : a = true) (k : b = true) : (a && b) = true := by rw [h, k]; rfl
theorem closed : joinedFacts Tryz.prog 3 Tryz.f3 Rows.worldStepsSpec Rows.worldStepsRow = true := by
  unfold joinedFacts
  exact (and_tt (and_tt (and_tt (and_tt (and_tt (and_tt (and_tt (and_tt (and_tt (and_tt (and_tt (and_tt (and_tt (and_tt (and_tt (and_tt (and_tt (and_tt (and_tt (and_tt (and_tt (and_tt (and_tt (and_tt (and_tt (and_tt (and_tt (and_tt (and_tt (and_tt (and_tt k0 k1) k2) k3) k4) k5) k6) k7) k8) k9) k10) k11) k12) k13) k14) k15) k16) k17) k18) k19) k20) k21) k22) k23) k24) k25) k26) k27) (by kernel_rfl)) k29) k30) k31)
theorem over : Rows.worldStepsRow.holds Tryz.pinned (OpenSpec.ofChange Rows.worldStepsSpec) :=
  OpenClaim.holds_of_wide_leaving 3 Tryz.f3 rfl rfl rfl rfl rfl rfl rfl ⟨rfl, rfl, rfl, rfl, rfl⟩ rfl rfl rfl rfl rfl (by kernel_rfl) Tryz.func3 closed
    (of_decide_eq_true (by kernel_rfl)) (by unfold Func.isWrapper; first | (rw [if_pos (by decide +kernel)]; kernel_rfl) | (rw [if_neg (by decide +kernel)]; exact ⟨rfl, rfl⟩))
    (fun os started H enc _ => lifted os started H enc)
end Go.Proofs.YtdiibbbbdhkepaaGreatDoor.worldSteps
namespace Go.Proofs.YtdiibbbbdhkepaaGreatDoor
theorem worldSteps_holds : Rows.WorldStepsSaid := worldSteps.over
#print axioms worldSteps_holds
end Go.Proofs.YtdiibbbbdhkepaaGreatDoor
