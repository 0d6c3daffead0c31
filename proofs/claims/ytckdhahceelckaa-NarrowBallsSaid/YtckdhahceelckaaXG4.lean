import Derived.Test.YtckdhahceelckaaXG3
namespace Go.Proofs.Ytckdhahceelckaa.G
open Go.RowKit
set_option linter.unusedVariables false
set_option linter.unusedSimpArgs false

theorem minus3_eq (p q : P3) (hp : in3 1073741824 p) (hq : in3 1073741824 q) : minus3 p q = ⟨p.x - q.x, p.y - q.y, p.z - q.z⟩ := by
  unfold in3 at hp hq
  unfold minus3
  rw [w64_id _ (by omega) (by omega), w64_id _ (by omega) (by omega), w64_id _ (by omega) (by omega)]
theorem rawC_balls (p q : P3) : rawC [p] [] [] [q] [] [] = [short3 (minus3 q p)] := by
  unfold rawC edgeW pointW roundW
  rw [if_neg (by simp [YtckdhahceelckaaW.PrintWords.mn])]; rfl
theorem ballsV_true (gap ra rb far g : Int) (hgap : gap = g - ra - rb) (hr : 1 ≤ ra ∧ ra ≤ 65536) (hs : 1 ≤ rb ∧ rb ≤ 65536) (h0 : 0 ≤ g) (h1 : g * g ≤ far) (h2 : far ≤ (g + 2 + g / 65536) * (g + 2 + g / 65536)) (hf : far ≤ 1125899906842624) : ballsV gap ra rb far = true := by
  have hg : g ≤ 33554432 := by
    rcases Int.lt_or_le 33554432 g with h | h
    · have := Int.mul_le_mul (show (33554433 : Int) ≤ g by omega) (show (33554433 : Int) ≤ g by omega) (by omega) (by omega)
      omega
    · exact h
  have hU : 0 ≤ g + 2 + g / 65536 ∧ g + 2 + g / 65536 ≤ 33555000 := by omega
  have hUU : (g + 2 + g / 65536) * (g + 2 + g / 65536) ≤ 33555000 * 33555000 := Int.mul_le_mul hU.2 hU.2 hU.1 (by omega)
  have hUn := sq_nonneg (g + 2 + g / 65536)
  have hgn := sq_nonneg g
  unfold ballsV
  have e1 : wrap64 (wrap64 (gap + ra) + rb) = g := by rw [w64_id (gap + ra) (by omega) (by omega), w64_id _ (by omega) (by omega)]; omega
  rw [e1]
  simp only
  rw [w64_id (g * g) (by omega) (by omega), if_neg (by omega), if_neg (by omega), w64_id (g + 2) (by omega) (by omega), w64_id (g + 2 + g / 65536) (by omega) (by omega), w64_id _ (by omega) (by omega)]
  simpa using h2
theorem balls_true (p q : P3) (ra rb : Int) (hp : in3 4194304 p) (hq : in3 4194304 q) (hr : 1 ≤ ra ∧ ra ≤ 65536) (hs : 1 ≤ rb ∧ rb ≤ 65536) : ballsOk p q ra rb = true := by
  obtain ⟨d, hd⟩ : ∃ d, minus3 q p = d := ⟨_, rfl⟩
  have hd' : d = ⟨q.x - p.x, q.y - p.y, q.z - p.z⟩ := by rw [← hd]; exact minus3_eq q p (in3_le (by decide) hq) (in3_le (by decide) hp)
  have hin : in3 8388608 d := by rw [hd']; unfold in3 at *; simp only; omega
  have hfar : dot3 d d = dotI d d := dot3_eq d d 8388608 8388608 hin hin (by decide)
  have hD : dotI d d ≤ 1125899906842624 := by
    unfold in3 at hin
    have h1 := sq_le (a := d.x) (n := 8388608) (by omega) (by omega)
    have h2 := sq_le (a := d.y) (n := 8388608) (by omega) (by omega)
    have h3 := sq_le (a := d.z) (n := 8388608) (by omega) (by omega)
    unfold dotI; omega
  unfold ballsOk apartF
  rw [rawC_balls, hd, hfar]
  simp only [List.headD_cons, List.tail_cons, apF, List.foldl_cons, List.foldl_nil, apStep]
  by_cases h0 : d = ⟨0, 0, 0⟩
  · have hl : long3 (short3 d) = ⟨0, 0, 0⟩ := by
      rw [h0, short3_zero]; unfold long3; rw [short3_zero, dbl3, dif_pos (.inr rfl)]
    rw [if_pos hl]
    refine ballsV_true _ _ _ _ 0 (by simp only; omega) hr hs (by decide) ?_ ?_ hD
    · exact dotI_nn d
    · rw [h0]; decide +kernel
  · obtain ⟨a1, a2, a3, a4⟩ := way_near d (in3_le (by decide) hin) h0
    rw [if_neg a1]
    obtain ⟨w, hw⟩ : ∃ w, long3 (short3 d) = w := ⟨_, rfl⟩
    have hwi : in3 1048576 w := by rw [← hw]; exact long3_in _
    rw [hw] at a1 a2 a3 a4 ⊢
    have hg := ball_bound w d (dotI w d / ce3 w) a2 a3 a4 rfl
    have hwp := dot3_eq w p 1048576 4194304 hwi hp (by decide)
    have hwq := dot3_eq w q 1048576 4194304 hwi hq (by decide)
    have hdd : dotI w q - dotI w p = dotI w d := by rw [hd']; unfold dotI; simp only; grind
    have hgp : gapsF w p [] ra q [] rb = (dotI w d / ce3 w - ra - rb, -((dotI w d + fl3 w - 1) / fl3 w) - ra - rb) := by
      unfold gapsF reachF
      simp only [List.foldl_nil]
      rw [hwp, hwq, hdd]
      have e : dotI w p - dotI w q = -dotI w d := by omega
      rw [e]
      unfold gapV
      rw [if_pos (by omega), if_neg (by omega)]
      simp
    rw [hgp]
    simp only
    have hce := ce3_facts w
    have hfl : 1 ≤ fl3 w := by
      rcases Int.lt_or_le (fl3 w) 1 with h | h
      · have h5 : (fl3 w + 1) * (fl3 w + 1) ≤ 1 * 1 := Int.mul_le_mul (by omega) (by omega) (by omega) (by omega)
        have h6 : ce3 w * ce3 w ≤ (fl3 w + 1) * (fl3 w + 1) := Int.mul_le_mul hce.2.2.1 hce.2.2.1 (by omega) (by omega)
        omega
      · exact h
    have hneg : 0 ≤ (dotI w d + fl3 w - 1) / fl3 w := Int.ediv_nonneg (by omega) (by omega)
    rw [if_pos (Or.inl trivial)]
    simp only
    rw [if_neg (by omega)]
    exact ballsV_true _ _ _ _ _ rfl hr hs hg.1 hg.2.1 hg.2.2 hD
end Go.Proofs.Ytckdhahceelckaa.G
