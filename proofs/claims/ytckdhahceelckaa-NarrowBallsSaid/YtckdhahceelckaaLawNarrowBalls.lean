/- For every two points, two radii (all raw numbers) the Go function tumblerlaw09.NarrowBalls returns true: two balls are told apart by their distance but for 2 grains and a 2^16th of it, never by more. No condition. -/
import Derived.Test.YtckdhahceelckaaRows
import Derived.Test.YtckdhahceelckaaXG4
import Derived.Test.YtckdhahceelckaaXL1
import Derived.WalkKit
import Derived.ProofKit
import Derived.OpenShut
import Derived.ChangeOld
import Derived.Below
import Derived.SizedLaws
import Derived.Carry
namespace Go.Proofs.Ytckdhahceelckaa.narrowBalls
open Go.ChangeShapes Go.WideShapes Go.ChangeAt Go.RowKit Go.Proofs.Ytckdhahceelckaa.G
set_option linter.unusedVariables false
theorem right_in (p : P3) : in3 4194304 (rightP p 8388608) := by
  have h1 := pickF_bd p.x 8388608 (by decide)
  have h2 := pickF_bd p.y 8388608 (by decide)
  have h3 := pickF_bd p.z 8388608 (by decide)
  unfold rightP in3
  simp only
  omega
theorem walk (px py pz qx qy qz r s : Int) (w : World) (hp : ∀ c ∈ [px, py, pz, qx, qy, qz, r, s], -9223372036854775808 ≤ c ∧ c ≤ 9223372036854775807) :
    Calls Try.prog 4 #[.agg #[.int .i64 px, .int .i64 py, .int .i64 pz], .agg #[.int .i64 qx, .int .i64 qy, .int .i64 qz], .int .i64 r, .int .i64 s] w fun e w' => e = .returned (.bool true) ∧ Below w.heap.size w w' := by
  have hr := pickF_bd r 16384 (by decide)
  have hs := pickF_bd s 16384 (by decide)
  have h := balls_true (rightP ⟨px, py, pz⟩ 8388608) (rightP ⟨qx, qy, qz⟩ 8388608) (1 + pickF r 16384) (1 + pickF s 16384) (right_in _) (right_in _) (by omega) (by omega)
  have := balls_calls px py pz qx qy qz r s w hp
  rwa [h] at this
theorem own : ownKnob Try.prog.godebug = none := by kernel_rfl
set_option maxRecDepth 100000 in
theorem lifted (os : Os) (started : os.Started) (H : Type) (enc : TypeId × Value → H) :
    ReturnsInHanded {} Try.checked os 4 .any (Rows.narrowBallsSpec.pre6 enc Try.prog Try.f4 Rows.narrowBallsRow.domain false) (Rows.narrowBallsSpec.post enc Try.prog Try.f4 false true false false) := by
  refine returnsInHanded_of_change_sized (C := Try.checked) own started (by kernel_rfl) Try.func4
    (ChangeSpec.witness6 (enc := enc) (C := Try.checked) false ⟨#[], #[.agg #[.int .i64 0, .int .i64 0, .int .i64 0], .agg #[.int .i64 0, .int .i64 0, .int .i64 0], .int .i64 0, .int .i64 0], []⟩ 8 (by kernel_rfl) (by kernel_rfl) (by kernel_rfl) (by kernel_rfl)) ?_
  intro W base args ds gs before hval0 hW hcnd hsz0 _
  have hval : ∀ (j : Nat) t v, Try.f4.params[j]? = some t → args[j]? = some v → Value.okWide Try.prog W .any base t v := hval0
  have hW' := hW
  obtain ⟨p, q, hA0, hV, rfl, hfz, hnd⟩ := hW
  have hA : DataW.TrodAll enc Try.prog W 0 (fun _ => true) true Try.f4.params.toList args.toList ds p := hA0
  rw [Try.params4] at hA hval
  obtain ⟨v0, vs0, d0, ds0, p0, q0, hargs, rfl, rfl, h0, r0⟩ := trodAll_cons hA
  obtain ⟨v1, vs1, d1, ds1, p1, q1, rfl, rfl, rfl, h1, r1⟩ := trodAll_cons r0
  obtain ⟨v2, vs2, d2, ds2, p2, q2, rfl, rfl, rfl, h2, r2⟩ := trodAll_cons r1
  obtain ⟨v3, vs3, d3, ds3, p3, q3, rfl, rfl, rfl, h3, r3⟩ := trodAll_cons r2
  obtain ⟨rfl, rfl, rfl⟩ := trodAll_nil r3
  obtain rfl : args = #[v0, v1, v2, v3] := by cases args; simp_all
  obtain ⟨rfl, rfl⟩ := trodVars_none hV
  obtain ⟨a0, a1, a2, rfl, w0, w1, w2⟩ := open_point (hval 0 23 v0 rfl rfl) h0
  obtain ⟨b0, b1, b2, rfl, w3, w4, w5⟩ := open_point (hval 1 23 v1 rfl rfl) h1
  obtain ⟨c0, rfl, w6⟩ := open_num (hval 2 3 v2 rfl rfl) h2
  obtain ⟨c1, rfl, w7⟩ := open_num (hval 3 3 v3 rfl rfl) h3
  have l0 : ∀ x ∈ p0, x.block < W.heap.size := by obtain ⟨m, hm⟩ := h0; exact DataW.trod_lt m _ _ _ hm
  have l1 : ∀ x ∈ p1, x.block < W.heap.size := by obtain ⟨m, hm⟩ := h1; exact DataW.trod_lt m _ _ _ hm
  have l2 : ∀ x ∈ p2, x.block < W.heap.size := by obtain ⟨m, hm⟩ := h2; exact DataW.trod_lt m _ _ _ hm
  have l3 : ∀ x ∈ p3, x.block < W.heap.size := by obtain ⟨m, hm⟩ := h3; exact DataW.trod_lt m _ _ _ hm
  clear hA0 hval0 hsz0
  refine (walk a0 a1 a2 b0 b1 b2 c0 c1 W (by intro c hc; simp at hc; rcases hc with rfl | rfl | rfl | rfl | rfl | rfl | rfl | rfl <;> assumption)).mono fun e W' ⟨he, bel⟩ => ?_
  subst he
  exact ⟨_, rfl, _, _, _, [], _, [], hW', trodAll_mk1 (shut_bool Try.underlying4 _), (trodAll_cons_mk (Below.trod laidOut (by kernel_rfl) (of_decide_eq_true (by kernel_rfl)) h0 bel l0) (trodAll_cons_mk (Below.trod laidOut (by kernel_rfl) (of_decide_eq_true (by kernel_rfl)) h1 bel l1) (trodAll_cons_mk (Below.trod laidOut (by kernel_rfl) (of_decide_eq_true (by kernel_rfl)) h2 bel l2) (trodAll_cons_mk (Below.trod laidOut (by kernel_rfl) (of_decide_eq_true (by kernel_rfl)) h3 bel l3) trodAll_mk0)))), rfl, bel.frame _, fun h => by cases h⟩
theorem over : Rows.narrowBallsRow.holds Try.pinned (OpenSpec.ofChange Rows.narrowBallsSpec) :=
  OpenClaim.holds_of_wide 4 Try.f4 rfl rfl rfl rfl rfl rfl rfl ⟨rfl, rfl, rfl, rfl, rfl⟩ rfl rfl rfl rfl rfl (by kernel_rfl) Try.func4 (by kernel_rfl)
    (of_decide_eq_true (by kernel_rfl)) (by unfold Func.isWrapper; first | (rw [if_pos (by decide +kernel)]; kernel_rfl) | (rw [if_neg (by decide +kernel)]; exact ⟨rfl, rfl⟩))
    (fun os started H enc _ => lifted os started H enc)
theorem proved : Rows.NarrowBallsSaid := over
end Go.Proofs.Ytckdhahceelckaa.narrowBalls
namespace Go.Proofs.Ytckdhahceelckaa
/-- The row, under a short name, for the claim. -/
theorem narrowBalls_holds : Rows.NarrowBallsSaid := narrowBalls.proved
#print axioms narrowBalls_holds
end Go.Proofs.Ytckdhahceelckaa
