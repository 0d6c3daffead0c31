import Derived.Test.YtckdhahceelckaaXG2
import Derived.Test.YtckdhahceelckaaXN21
namespace Go.Proofs.Ytckdhahceelckaa.G
open Go.RowKit
set_option linter.unusedVariables false
set_option linter.unusedSimpArgs false

theorem short3_eq (p : P3) (h : in3 4398046511104 p) (h0 : p ≠ ⟨0, 0, 0⟩) : short3 p = bare3 (halve3 (bare3 p)) := by
  unfold short3
  rw [if_neg]
  rw [(far3_iff _ _ (by decide) (by decide)).2 h]
  simp [h0]
theorem short3_zero : short3 ⟨0, 0, 0⟩ = ⟨0, 0, 0⟩ := by unfold short3; rw [if_pos (.inr rfl)]
theorem short3_ne (p : P3) (h : in3 4398046511104 p) (h0 : p ≠ ⟨0, 0, 0⟩) : short3 p ≠ ⟨0, 0, 0⟩ := by
  rw [short3_eq p h h0]
  exact bare3_ne _ 0 (halve3_ne _ (bare3_ne _ 0 h0))
theorem in3_le {n m : Int} (h : n ≤ m) {p : P3} (hp : in3 n p) : in3 m p := by unfold in3 at *; omega
theorem long3_short (p : P3) (h : in3 1048576 p) (h0 : p ≠ ⟨0, 0, 0⟩) : Par (long3 p) p ∧ long3 p ≠ ⟨0, 0, 0⟩ ∧ 274877906944 < dotI (long3 p) (long3 p) := by
  have hs : short3 p = bare3 (bare3 p) := by
    rw [short3_eq p (in3_le (by decide) h) h0, halve3_id _ (bare3_in _ _ h)]
  have hb := bare3_ne p 0 h0
  unfold long3
  rw [hs]
  have hb2 := bare3_ne (bare3 p) 0 hb
  refine ⟨(dbl3_par _).trans ((bare3_par _ hb).trans (bare3_par _ h0)), dbl3_ne _ hb2, ?_⟩
  have hf := dbl3_far _ hb2
  have hn : ¬ in3 524288 (dbl3 (bare3 (bare3 p))) := fun hi => by rw [(far3_iff _ _ (by decide) (by decide)).2 hi] at hf; cases hf
  have := dotI_far (dbl3 (bare3 (bare3 p))) 524288 (by decide) (by unfold in3 at hn; omega)
  omega
theorem way_near (d : P3) (h : in3 4398046511104 d) (h0 : d ≠ ⟨0, 0, 0⟩) : long3 (short3 d) ≠ ⟨0, 0, 0⟩ ∧ 274877906944 < dotI (long3 (short3 d)) (long3 (short3 d)) ∧
    274877906944 * crI (long3 (short3 d)) d ≤ 3 * (dotI (long3 (short3 d)) (long3 (short3 d)) * dotI d d) ∧ 0 < dotI (long3 (short3 d)) d := by
  have hb := bare3_ne d 0 h0
  have hh := halve3_ne _ hb
  obtain ⟨p1, p2, p3⟩ := long3_short (short3 d) (short3_in d) (short3_ne d h h0)
  obtain ⟨n, hn, x1, x2, y1, y2, z1, z2, hl⟩ := halve3_near (bare3 d)
  obtain ⟨q1, q2⟩ := near_cross (halve3 (bare3 d)) (bare3 d) n hn x1 x2 y1 y2 z1 z2 hb hl
  have hp : Par (long3 (short3 d)) (halve3 (bare3 d)) := by
    have := p1
    rw [short3_eq d h h0] at this ⊢
    exact this.trans (bare3_par _ hh)
  obtain ⟨e1, e2, e3⟩ := bare3_eq d
  have hg := gcd3_pos d h0
  obtain ⟨r1, r2⟩ := par_cross hp (gcd3 d) (by omega) (bare3 d) d e1 e2 e3 q1 q2
  exact ⟨p2, p3, r1, r2⟩

theorem ce3_facts (w : P3) : dotI w w ≤ ce3 w * ce3 w ∧ fl3 w * fl3 w ≤ dotI w w ∧ ce3 w ≤ fl3 w + 1 ∧ 0 ≤ fl3 w ∧ fl3 w ≤ ce3 w := by
  have hn := dotI_nn w
  obtain ⟨h1, h2⟩ := isq_spec (dotI w w).toNat
  have e : ((dotI w w).toNat : Int) = dotI w w := Int.toNat_of_nonneg hn
  have hf : fl3 w = (isq (dotI w w).toNat : Int) := rfl
  have g1 : fl3 w * fl3 w ≤ dotI w w := by rw [hf, ← e]; exact_mod_cast h1
  have g2 : dotI w w < (fl3 w + 1) * (fl3 w + 1) := by rw [hf, ← e]; exact_mod_cast h2
  have g3 : 0 ≤ fl3 w := by rw [hf]; omega
  unfold ce3
  split
  · exact ⟨by omega, g1, by omega, g3, by omega⟩
  · exact ⟨by omega, g1, by omega, g3, by omega⟩
/-- the heart of NarrowBalls -/
theorem ball_bound (w d : P3) (g : Int) (hW : 274877906944 < dotI w w) (hX : 274877906944 * crI w d ≤ 3 * (dotI w w * dotI d d)) (hP : 0 < dotI w d) (hg : g = dotI w d / ce3 w) :
    0 ≤ g ∧ g * g ≤ dotI d d ∧ dotI d d ≤ (g + 2 + g / 65536) * (g + 2 + g / 65536) := by
  obtain ⟨c1, c2, c3, c4, c5⟩ := ce3_facts w
  have hlag := lagI w d
  have hXn := crI_nonneg w d
  generalize dotI w w = W at *
  generalize crI w d = X at *
  generalize dotI w d = P at *
  generalize hD : dotI d d = D at *
  have hDn : 0 ≤ D := by rw [← hD]; exact dotI_nn d
  clear hD
  generalize ce3 w = c at *
  generalize fl3 w = f at *
  have hf : 524288 ≤ f := by
    rcases Int.lt_or_le f 524288 with h | h
    · have h5 : (f + 1) * (f + 1) ≤ 524288 * 524288 := Int.mul_le_mul (by omega) (by omega) (by omega) (by omega)
      have h6 : c * c ≤ (f + 1) * (f + 1) := Int.mul_le_mul c3 c3 (by omega) (by omega)
      omega
    · exact h
  have hc : 0 < c := by omega
  have g0 : 0 ≤ g := by rw [hg]; exact Int.ediv_nonneg (by omega) (by omega)
  have g1 : g * c ≤ P := by rw [hg]; exact Int.ediv_mul_le P (by omega)
  have g2 : P < (g + 1) * c := by rw [hg]; exact Int.lt_ediv_add_one_mul_self P hc
  clear hg
  have hPP : P * P ≤ W * D := by omega
  refine ⟨g0, ?_, ?_⟩
  · have h1 : (g * c) * (g * c) ≤ P * P := Int.mul_le_mul g1 g1 (Int.mul_nonneg g0 (by omega)) (by omega)
    have h2 : W * D ≤ (c * c) * D := Int.mul_le_mul_of_nonneg_right c1 hDn
    have h3 : (g * c) * (g * c) = (c * c) * (g * g) := by grind
    exact Int.le_of_mul_le_mul_left (a := c * c) (by omega) (Int.mul_pos hc hc)
  · -- c² is little more than W
    have h1 : f * 524288 ≤ f * f := Int.mul_le_mul_of_nonneg_left hf c4
    have h2 : c * c ≤ (f + 1) * (f + 1) := Int.mul_le_mul c3 c3 (by omega) (by omega)
    have h3 : (f + 1) * (f + 1) = f * f + 2 * f + 1 := by grind
    have hcc : 274877906944 * (c * c) ≤ 274878955521 * W := by omega
    -- P² is less than (g+1)² c²
    have h4 : P * P ≤ ((g + 1) * c) * ((g + 1) * c) := Int.mul_le_mul (by omega) (by omega) (by omega) (by omega)
    have h5 : ((g + 1) * c) * ((g + 1) * c) = (g + 1) * (g + 1) * (c * c) := by grind
    have hG : 0 ≤ (g + 1) * (g + 1) := sq_nonneg _
    have h6 : (g + 1) * (g + 1) * (274877906944 * (c * c)) ≤ (g + 1) * (g + 1) * (274878955521 * W) := Int.mul_le_mul_of_nonneg_left hcc hG
    have h7 : (g + 1) * (g + 1) * (274877906944 * (c * c)) = 274877906944 * ((g + 1) * (g + 1) * (c * c)) := by grind
    have h8 : 274877906944 * (W * D) ≤ 274877906944 * ((g + 1) * (g + 1) * (c * c)) + 3 * (W * D) := by omega
    have h9 : W * (274877906941 * D) ≤ W * (274878955521 * ((g + 1) * (g + 1))) := by
      have i1 : W * (274877906941 * D) = 274877906941 * (W * D) := by grind
      have i2 : W * (274878955521 * ((g + 1) * (g + 1))) = (g + 1) * (g + 1) * (274878955521 * W) := by grind
      omega
    have h10 : 274877906941 * D ≤ 274878955521 * ((g + 1) * (g + 1)) := Int.le_of_mul_le_mul_left h9 (by omega)
    have hU : (g + 1) * 65537 ≤ (g + 2 + g / 65536) * 65536 := by omega
    generalize g + 2 + g / 65536 = U at hU ⊢
    have h11 : ((g + 1) * 65537) * ((g + 1) * 65537) ≤ (U * 65536) * (U * 65536) := Int.mul_le_mul hU hU (by omega) (by omega)
    have h12 : ((g + 1) * 65537) * ((g + 1) * 65537) = 4295098369 * ((g + 1) * (g + 1)) := by grind
    have h13 : (U * 65536) * (U * 65536) = 4294967296 * (U * U) := by grind
    have hUU := sq_nonneg U
    omega
end Go.Proofs.Ytckdhahceelckaa.G
