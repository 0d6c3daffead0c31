import Derived.Test.YtckdhahceelckaaXN2
import Derived.Outline
import Derived.Lib.AppendZeros
import Derived.WalkSpells
namespace Go.Proofs.Ytckdhahceelckaa.G
open Go.RowKit Go.Proofs.YtckdhahceelckaaW.PrintWords Go.Proofs.YtckdhahceelckaaW.PrintLast Go.Proofs.YtckdhahceelckaaW.PrintMore
attribute [local go_sem] max2_mx min2_mn max_two min_two max_three min_three max_four min_four
attribute [local go_sem high] eqA23
set_option linter.unusedVariables false
set_option linter.unusedSimpArgs false

def OwnP (w : World) (base : Nat) (v : Value) (l : List P3) : Prop := w.ownsRow base 23 3 v l.length (l.flatMap fun p => [.int .i64 p.x, .int .i64 p.y, .int .i64 p.z])
def GrowPost (w : World) (e : Ending) (w' : World) : Prop := ∃ v, e = .returned v ∧ OwnP w' w.heap.size v [] ∧ Below w.heap.size w w'
set_option maxHeartbeats 1000000 in
set_option maxRecDepth 100000 in
theorem grow_calls (n : Nat) (w : World) (hn : n ≤ 100000) :
    Calls Try.prog 165 #[.slice none 0 0, .int .i64 n] w (GrowPost w) := by
  obtain ⟨i0, hi0, hz0, hsz0, hby0⟩ := info_parts info23
  by_cases h0 : n = 0
  · subst h0
    go_enter Try.func165, Try.ntmps165
    go_wp2
    go_ret
    exact ⟨_, rfl, World.ownsRow_nil _ _ _ _, Below.refl _ _⟩
  · have hap := fun W => Go.Lib.run_append_nil_zeros (P := Try.prog) W 24 3 24 23 i0 (.agg #[(.int .i64 0), (.int .i64 0), (.int .i64 0)]) .i64 .i64 Try.underlying24 Try.underlying3 hi0 hz0 n (by omega) (by rw [hsz0]; omega) (by omega) (by rw [hby0]; omega)
    have hpos : (0 : Int) < (n : Int) := by omega
    have hcap : ∀ W : World, n ≤ grownCap W n 0 23 := fun W => grownCap_ge W n 0 23
    have hcap2 : ∀ W : World, grownCap W n 0 23 ≤ maxLen := fun W => grownCap_le_maxLen W n 0 23 (by unfold maxLen; omega)
    have HAP := Lib.hid hap
    have HC := Lib.hid hcap
    have HC2 := Lib.hid hcap2
    clear hap hcap hcap2
    go_enter Try.func165, Try.ntmps165
    go_wp2_with (at_builtin; refine Go.Lib.wpList_append_run _ rfl _ _ _ _ rfl _ _ rfl rfl _ _ (HAP.out _) ?_)
    go_ret
    refine ⟨.slice (some ⟨w.heap.size, 0, none⟩) 0 (grownCap w n 0 23), rfl, ?_, ((Below.refl _ w).alloc (Nat.le_refl _) _).drew⟩
    exact World.ownsRow_made w _ _ (Nat.le_refl _) (HC2.out w) (by simp [size_zeroCells]; have := HC.out w; omega)
end Go.Proofs.Ytckdhahceelckaa.G
