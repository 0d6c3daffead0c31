/- For every raw shot the Go function tumblerlaw18.CcdHolds returns true: whatever stood apart from the ball stands apart from where it comes to, but for 4 grains. No condition. -/
import Derived.Test.YtckdhahceelckaaGreatRows
import Derived.Test.YtckdhahceelckaaGreatKQ58
import Derived.Test.YtckdhahceelckaaGreatKQ73
import Derived.WalkKit
import Derived.ProofKit
import Derived.OpenShut
import Derived.ChangeOld
import Derived.Below
import Derived.SizedLaws
import Derived.Carry
namespace Go.Proofs.YtckdhahceelckaaGreat.ccdHolds
open Go.ChangeShapes Go.WideShapes Go.ChangeAt Go.RowKit Go.Proofs.YtckdhahceelckaaGreat.G
set_option linter.unusedVariables false
theorem own : ownKnob Tryz.prog.godebug = none := by kernel_rfl
set_option maxRecDepth 100000 in
set_option maxHeartbeats 4000000 in
theorem lifted (os : Os) (started : os.Started) (H : Type) (enc : TypeId × Value → H) :
    ReturnsInHanded {} Tryz.checked os 5 .any (Rows.ccdHoldsSpec.pre6 enc Tryz.prog Tryz.f5 Rows.ccdHoldsRow.domain false) (Rows.ccdHoldsSpec.post enc Tryz.prog Tryz.f5 false true false false) := by
  refine returnsInHanded_of_change_sized (C := Tryz.checked) own started (by kernel_rfl) Tryz.func5
    (ChangeSpec.witness6 (enc := enc) (C := Tryz.checked) false ⟨#[], #[.agg #[.int .i64 0, .int .i64 0, .int .i64 0, .int .i64 0, .int .i64 0, .int .i64 0, .int .i64 0, .slice none 0 0, .slice none 0 0]], []⟩ 8 (by kernel_rfl) (by kernel_rfl) (by kernel_rfl) (by kernel_rfl)) ?_
  intro W base args ds gs before hval0 hW hcnd hsz0 _
  have hval : ∀ (j : Nat) t v, Tryz.f5.params[j]? = some t → args[j]? = some v → Value.okWide Tryz.prog W .any base t v := hval0
  have hW' := hW
  obtain ⟨p, q, hA0, hV, rfl, hfz, hnd⟩ := hW
  have hA : DataW.TrodAll enc Tryz.prog W 0 (fun _ => true) true Tryz.f5.params.toList args.toList ds p := hA0
  rw [Tryz.params5] at hA hval
  obtain ⟨v0, vs0, d0, ds0, p0, q0, hargs, rfl, rfl, h0, r0⟩ := trodAll_cons hA
  obtain ⟨rfl, rfl, rfl⟩ := trodAll_nil r0
  obtain rfl : args = #[v0] := by cases args; simp_all
  obtain ⟨rfl, rfl⟩ := trodVars_none hV
  have hwt0 : ∀ k ∈ d0.weights Tryz.prog 47, k ≤ reachBytes := fun k hk => by
    have hz := List.all_eq_true.1 hsz0 k (DataW.weights_mem_each (j := 0) (t := 47) (d := d0) (by show (Tryz.f5.params.toList ++ _)[0]? = _; rw [Tryz.params5]; rfl) rfl k hk)
    simpa using hz
  obtain ⟨f0, y0, z0, A0, u0, c0, B0, w0, e0, ls0, lq0, rfl, IF0, IY0, IR0, RS0, LS0, RQ0, LQ0, NS0, NQ0⟩ := open_shot (hval 0 47 v0 rfl rfl) h0 hwt0
  have l0 : ∀ x ∈ p0, x.block < W.heap.size := by obtain ⟨m, hm⟩ := h0; exact DataW.trod_lt m _ _ _ hm
  clear hA0 hval0 hsz0
  refine (ccdHolds_calls f0 y0 z0 A0 u0 c0 B0 w0 e0 ls0 lq0 IF0 IY0 IR0 RS0 LS0 RQ0 LQ0 NS0 NQ0).mono fun e W' ⟨he, bel⟩ => ?_
  subst he
  exact ⟨_, rfl, _, _, _, [], _, [], hW', trodAll_mk1 (shut_bool Tryz.underlying4 _), (trodAll_cons_mk (Below.trod laidOut (by kernel_rfl) (of_decide_eq_true (by kernel_rfl)) h0 bel l0) trodAll_mk0), rfl, bel.frame _, fun h => by cases h⟩
theorem over : Rows.ccdHoldsRow.holds Tryz.pinned (OpenSpec.ofChange Rows.ccdHoldsSpec) :=
  OpenClaim.holds_of_wide 5 Tryz.f5 rfl rfl rfl rfl rfl rfl rfl ⟨rfl, rfl, rfl, rfl, rfl⟩ rfl rfl rfl rfl rfl (by kernel_rfl) Tryz.func5 (by kernel_rfl)
    (of_decide_eq_true (by kernel_rfl)) (by unfold Func.isWrapper; first | (rw [if_pos (by decide +kernel)]; kernel_rfl) | (rw [if_neg (by decide +kernel)]; exact ⟨rfl, rfl⟩))
    (fun os started H enc _ => lifted os started H enc)
theorem proved : Rows.CcdHoldsSaid := over
end Go.Proofs.YtckdhahceelckaaGreat.ccdHolds
namespace Go.Proofs.YtckdhahceelckaaGreat
/-- The row, under a short name, for the claim. -/
theorem ccdHolds_holds : Rows.CcdHoldsSaid := ccdHolds.proved
#print axioms ccdHolds_holds
end Go.Proofs.YtckdhahceelckaaGreat
