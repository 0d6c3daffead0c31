import Derived.Test.YtckdhahceelckaaXN6
import Derived.Outline
namespace Go.Proofs.Ytckdhahceelckaa.G
open Go.RowKit Go.Proofs.YtckdhahceelckaaW.PrintWords Go.Proofs.YtckdhahceelckaaW.PrintLast Go.Proofs.YtckdhahceelckaaW.PrintMore
attribute [local go_sem] max2_mx min2_mn max_two min_two max_three min_three max_four min_four
attribute [local go_sem high] eqA23
set_option linter.unusedVariables false
set_option linter.unusedSimpArgs false

/-- a gap of s along a direction of those sizes -/
def gapV (s up down ra rb : Int) : Int := if 0 ≤ s then s / up - ra - rb else -((-s + down - 1) / down) - ra - rb
set_option maxHeartbeats 1000000 in
theorem gap1_calls (s up down ra rb : Int) (bu ba bb bd : Nat) (w : World) (h1 : w.cell? ⟨bu, 0, none⟩ = some (.int .i64 up)) (h2 : w.cell? ⟨ba, 3, none⟩ = some (.int .i64 ra)) (h3 : w.cell? ⟨bb, 3, none⟩ = some (.int .i64 rb)) (h4 : w.cell? ⟨bd, 0, none⟩ = some (.int .i64 down))
    (hs1 : -1125899906842624 ≤ s) (hs2 : s ≤ 1125899906842624) (hu1 : 1 ≤ up) (hu2 : up ≤ 1073741824) (hd1 : 1 ≤ down) (hd2 : down ≤ 1073741824) (ha1 : 0 ≤ ra) (ha2 : ra ≤ 131072) (hb1 : 0 ≤ rb) (hb2 : rb ≤ 131072) :
    Calls Try.prog 118 #[.int .i64 s, .pointer (some ⟨bu, 0, none⟩), .pointer (some ⟨ba, 0, none⟩), .pointer (some ⟨bb, 0, none⟩), .pointer (some ⟨bd, 0, none⟩)] w fun e w' => e = .returned (.int .i64 (gapV s up down ra rb)) ∧ Below w.heap.size w w' := by
  have e1 : (up == 0) = false := by simp; omega
  have e2 : (down == 0) = false := by simp; omega
  by_cases hs : 0 ≤ s
  · have hv : gapV s up down ra rb = s / up - ra - rb := if_pos hs
    rw [hv]
    clear hv
    have q1 : 0 ≤ s / up := Int.ediv_nonneg hs (by omega)
    have q2 : s / up ≤ s := Int.ediv_le_self _ hs
    have t1 : IntKind.i64.wrap (s.tdiv up) = s / up := by rw [Int.tdiv_eq_ediv_of_nonneg hs]; exact iw_id _ (by omega) (by omega)
    have t2 : IntKind.i64.wrap (s / up - ra) = s / up - ra := iw_id _ (by omega) (by omega)
    have t3 : IntKind.i64.wrap (s / up - ra - rb) = s / up - ra - rb := iw_id _ (by omega) (by omega)
    go_enter Try.func118, Try.ntmps118
    go_wp2
    go_quiet (fail)
    go_wp2
    go_ret
    exact ⟨rfl, pw_below_drewN (Below.refl _ w) _⟩
  · have hv : gapV s up down ra rb = -((-s + down - 1) / down) - ra - rb := if_neg hs
    rw [hv]
    clear hv
    have q0 : 0 ≤ -s + down - 1 := by omega
    have q1 : 0 ≤ (-s + down - 1) / down := Int.ediv_nonneg q0 (by omega)
    have q2 : (-s + down - 1) / down ≤ -s + down - 1 := Int.ediv_le_self _ q0
    have t0 : IntKind.i64.wrap (-s) = -s := iw_id _ (by omega) (by omega)
    have t0' : IntKind.i64.wrap (-s + down) = -s + down := iw_id _ (by omega) (by omega)
    have t0'' : IntKind.i64.wrap (-s + down - 1) = -s + down - 1 := iw_id _ (by omega) (by omega)
    have t1 : IntKind.i64.wrap ((-s + down - 1).tdiv down) = (-s + down - 1) / down := by rw [Int.tdiv_eq_ediv_of_nonneg q0]; exact iw_id _ (by omega) (by omega)
    have t1' : IntKind.i64.wrap (-((-s + down - 1) / down)) = -((-s + down - 1) / down) := iw_id _ (by omega) (by omega)
    have t2 : IntKind.i64.wrap (-((-s + down - 1) / down) - ra) = -((-s + down - 1) / down) - ra := iw_id _ (by omega) (by omega)
    have t3 : IntKind.i64.wrap (-((-s + down - 1) / down) - ra - rb) = -((-s + down - 1) / down) - ra - rb := iw_id _ (by omega) (by omega)
    have hs' : decide (0 ≤ s) = false := by simpa using hs
    have hs3 : s < 0 := by omega
    clear hs
    go_enter Try.func118, Try.ntmps118
    go_wp2
    go_quiet (fail)
    go_wp2
    go_ret
    exact ⟨rfl, pw_below_drewN (Below.refl _ w) _⟩
end Go.Proofs.Ytckdhahceelckaa.G
