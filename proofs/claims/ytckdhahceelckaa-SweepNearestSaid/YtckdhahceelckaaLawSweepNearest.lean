/- For every four raw shapes at raw poses and every number the Go function tumblerlaw11.SweepNearest returns true: the nearest one is no further than any other one, and a ball that goes nowhere goes all of its way, if it was apart. No condition. -/
import Derived.Test.YtckdhahceelckaaRows
import Derived.Test.YtckdhahceelckaaKSUN1
import Derived.WalkKit
import Derived.ProofKit
import Derived.OpenShut
import Derived.ChangeOld
import Derived.Below
import Derived.SizedLaws
import Derived.Carry
namespace Go.Proofs.Ytckdhahceelckaa.sweepNearest
open Go.ChangeShapes Go.WideShapes Go.ChangeAt Go.RowKit Go.Proofs.Ytckdhahceelckaa.G
set_option linter.unusedVariables false
theorem own : ownKnob Try.prog.godebug = none := by kernel_rfl
set_option maxRecDepth 100000 in
set_option maxHeartbeats 4000000 in
theorem lifted (os : Os) (started : os.Started) (H : Type) (enc : TypeId × Value → H) :
    ReturnsInHanded {} Try.checked os 14 .any (Rows.sweepNearestSpec.pre6 enc Try.prog Try.f14 Rows.sweepNearestRow.domain false) (Rows.sweepNearestSpec.post enc Try.prog Try.f14 false true false false) := by
  refine returnsInHanded_of_change_sized (C := Try.checked) own started (by kernel_rfl) Try.func14
    (ChangeSpec.witness6 (enc := enc) (C := Try.checked) false ⟨#[], #[.agg #[.int .i64 0, .int .i64 0, .int .i64 0, .int .i64 0, .int .i64 0, .slice none 0 0, .int .i64 0, .int .i64 0, .int .i64 0, .int .i64 0, .int .i64 0, .slice none 0 0, .int .i64 0, .int .i64 0, .int .i64 0, .int .i64 0, .int .i64 0, .int .i64 0, .int .i64 0, .int .i64 0, .int .i64 0, .int .i64 0, .int .i64 0, .int .i64 0, .int .i64 0, .int .i64 0, .int .i64 0, .int .i64 0, .int .i64 0, .int .i64 0], .agg #[.int .i64 0, .int .i64 0, .int .i64 0, .int .i64 0, .int .i64 0, .slice none 0 0, .int .i64 0, .int .i64 0, .int .i64 0, .int .i64 0, .int .i64 0, .slice none 0 0, .int .i64 0, .int .i64 0, .int .i64 0, .int .i64 0, .int .i64 0, .int .i64 0, .int .i64 0, .int .i64 0, .int .i64 0, .int .i64 0, .int .i64 0, .int .i64 0, .int .i64 0, .int .i64 0, .int .i64 0, .int .i64 0, .int .i64 0, .int .i64 0], .int .i64 0], []⟩ 8 (by kernel_rfl) (by kernel_rfl) (by kernel_rfl) (by kernel_rfl)) ?_
  intro W base args ds gs before hval0 hW hcnd hsz0 _
  have hval : ∀ (j : Nat) t v, Try.f14.params[j]? = some t → args[j]? = some v → Value.okWide Try.prog W .any base t v := hval0
  have hW' := hW
  obtain ⟨p, q, hA0, hV, rfl, hfz, hnd⟩ := hW
  have hA : DataW.TrodAll enc Try.prog W 0 (fun _ => true) true Try.f14.params.toList args.toList ds p := hA0
  rw [Try.params14] at hA hval
  obtain ⟨v0, vs0, d0, ds0, p0, q0, hargs, rfl, rfl, h0, r0⟩ := trodAll_cons hA
  obtain ⟨v1, vs1, d1, ds1, p1, q1, rfl, rfl, rfl, h1, r1⟩ := trodAll_cons r0
  obtain ⟨v2, vs2, d2, ds2, p2, q2, rfl, rfl, rfl, h2, r2⟩ := trodAll_cons r1
  obtain ⟨rfl, rfl, rfl⟩ := trodAll_nil r2
  obtain rfl : args = #[v0, v1, v2] := by cases args; simp_all
  obtain ⟨rfl, rfl⟩ := trodVars_none hV
  have hwt0 : ∀ k ∈ d0.weights Try.prog 33, k ≤ reachBytes := fun k hk => by
    have hz := List.all_eq_true.1 hsz0 k (DataW.weights_mem_each (j := 0) (t := 33) (d := d0) (by show (Try.f14.params.toList ++ _)[0]? = _; rw [Try.params14]; rfl) rfl k hk)
    simpa using hz
  obtain ⟨ka0, ra0, ha0, la0, Aa0, ca0, kb0, rb0, hb0, lb0, Ab0, cb0, pa0, pb0, ne0, wy0, rfl, RA0, OA0, RB0, OB0, IP0, IQ0, IN0, IW0⟩ := open_two (hval 0 33 v0 rfl rfl) h0 hwt0
  have hwt1 : ∀ k ∈ d1.weights Try.prog 33, k ≤ reachBytes := fun k hk => by
    have hz := List.all_eq_true.1 hsz0 k (DataW.weights_mem_each (j := 1) (t := 33) (d := d1) (by show (Try.f14.params.toList ++ _)[1]? = _; rw [Try.params14]; rfl) rfl k hk)
    simpa using hz
  obtain ⟨ka1, ra1, ha1, la1, Aa1, ca1, kb1, rb1, hb1, lb1, Ab1, cb1, pa1, pb1, ne1, wy1, rfl, RA1, OA1, RB1, OB1, IP1, IQ1, IN1, IW1⟩ := open_two (hval 1 33 v1 rfl rfl) h1 hwt1
  obtain ⟨n2, rfl, in2⟩ := open_num (hval 2 3 v2 rfl rfl) h2
  have l0 : ∀ x ∈ p0, x.block < W.heap.size := by obtain ⟨m, hm⟩ := h0; exact DataW.trod_lt m _ _ _ hm
  have l1 : ∀ x ∈ p1, x.block < W.heap.size := by obtain ⟨m, hm⟩ := h1; exact DataW.trod_lt m _ _ _ hm
  have l2 : ∀ x ∈ p2, x.block < W.heap.size := by obtain ⟨m, hm⟩ := h2; exact DataW.trod_lt m _ _ _ hm
  clear hA0 hval0 hsz0
  refine (nearest_law ka0 ra0 ha0 la0 Aa0 ca0 kb0 rb0 hb0 lb0 Ab0 cb0 pa0 pb0 ne0 wy0 ka1 ra1 ha1 la1 Aa1 ca1 kb1 rb1 hb1 lb1 Ab1 cb1 pa1 pb1 ne1 wy1 n2 W RA0 OA0 RB0 OB0 IP0 IQ0 IN0 IW0 RA1 OA1 RB1 OB1 IP1 IQ1 IN1 IW1 in2).mono fun e W' ⟨he, bel⟩ => ?_
  subst he
  exact ⟨_, rfl, _, _, _, [], _, [], hW', trodAll_mk1 (shut_bool Try.underlying4 _), (trodAll_cons_mk (Below.trod laidOut (by kernel_rfl) (of_decide_eq_true (by kernel_rfl)) h0 bel l0) (trodAll_cons_mk (Below.trod laidOut (by kernel_rfl) (of_decide_eq_true (by kernel_rfl)) h1 bel l1) (trodAll_cons_mk (Below.trod laidOut (by kernel_rfl) (of_decide_eq_true (by kernel_rfl)) h2 bel l2) trodAll_mk0))), rfl, bel.frame _, fun h => by cases h⟩
theorem over : Rows.sweepNearestRow.holds Try.pinned (OpenSpec.ofChange Rows.sweepNearestSpec) :=
  OpenClaim.holds_of_wide 14 Try.f14 rfl rfl rfl rfl rfl rfl rfl ⟨rfl, rfl, rfl, rfl, rfl⟩ rfl rfl rfl rfl rfl (by kernel_rfl) Try.func14 (by kernel_rfl)
    (of_decide_eq_true (by kernel_rfl)) (by unfold Func.isWrapper; first | (rw [if_pos (by decide +kernel)]; kernel_rfl) | (rw [if_neg (by decide +kernel)]; exact ⟨rfl, rfl⟩))
    (fun os started H enc _ => lifted os started H enc)
theorem proved : Rows.SweepNearestSaid := over
end Go.Proofs.Ytckdhahceelckaa.sweepNearest
namespace Go.Proofs.Ytckdhahceelckaa
/-- The row, under a short name, for the claim. -/
theorem sweepNearest_holds : Rows.SweepNearestSaid := sweepNearest.proved
#print axioms sweepNearest_holds
end Go.Proofs.Ytckdhahceelckaa
