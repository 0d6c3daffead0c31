import Derived.Test.YtckdhahceelckaaXN17
namespace Go.Proofs.Ytckdhahceelckaa.G
open Go.RowKit
set_option linter.unusedVariables false
set_option linter.unusedSimpArgs false

/-! ### Plain laws of directions -/
theorem lagrange (a b c x y z : Int) : (a*a+b*b+c*c)*(x*x+y*y+z*z) = (a*x+b*y+c*z)*(a*x+b*y+c*z) + ((b*z-c*y)*(b*z-c*y) + (c*x-a*z)*(c*x-a*z) + (a*y-b*x)*(a*y-b*x)) := by grind
theorem sq_le {a n : Int} (h1 : -n ≤ a) (h2 : a ≤ n) : a * a ≤ n * n := by
  have h3 : 0 ≤ (n - a) * (n + a) := Int.mul_nonneg (by omega) (by omega)
  grind
/-- one points where the other points -/
def Par (u v : P3) : Prop := ∃ a b : Int, 0 < a ∧ 0 < b ∧ a * u.x = b * v.x ∧ a * u.y = b * v.y ∧ a * u.z = b * v.z
theorem Par.refl (u : P3) : Par u u := ⟨1, 1, by decide, by decide, rfl, rfl, rfl⟩
theorem Par.trans {u v t : P3} (h : Par u v) (k : Par v t) : Par u t := by
  obtain ⟨a, b, ha, hb, x1, y1, z1⟩ := h
  obtain ⟨c, e, hc, he, x2, y2, z2⟩ := k
  exact ⟨a * c, b * e, Int.mul_pos ha hc, Int.mul_pos hb he, by grind, by grind, by grind⟩
theorem gcd3_dvd (p : P3) : gcd3 p ∣ p.x ∧ gcd3 p ∣ p.y ∧ gcd3 p ∣ p.z :=
  ⟨Int.dvd_trans (by unfold gcd3; exact Int.gcd_dvd_left ..) (Int.gcd_dvd_left ..), Int.dvd_trans (by unfold gcd3; exact Int.gcd_dvd_left ..) (Int.gcd_dvd_right ..), by unfold gcd3; exact Int.gcd_dvd_right ..⟩
theorem bare3_eq (p : P3) : p.x = gcd3 p * (bare3 p).x ∧ p.y = gcd3 p * (bare3 p).y ∧ p.z = gcd3 p * (bare3 p).z := by
  obtain ⟨h1, h2, h3⟩ := gcd3_dvd p
  exact ⟨(Int.mul_tdiv_cancel' h1).symm, (Int.mul_tdiv_cancel' h2).symm, (Int.mul_tdiv_cancel' h3).symm⟩
theorem bare3_par (p : P3) (h : p ≠ ⟨0, 0, 0⟩) : Par (bare3 p) p := by
  obtain ⟨h1, h2, h3⟩ := bare3_eq p
  have hg := gcd3_pos p h
  exact ⟨gcd3 p, 1, by omega, by decide, by omega, by omega, by omega⟩
theorem two3_par (p : P3) : Par (two3 p) p := ⟨1, 2, by decide, by decide, by simp [two3], by simp [two3], by simp [two3]⟩
theorem dbl3_par (p : P3) : Par (dbl3 p) p := by
  induction p using dbl3.induct with
  | case1 p h' => rw [dbl3, dif_pos h']; exact Par.refl _
  | case2 p h' ih => rw [dbl3, dif_neg h']; exact ih.trans (two3_par p)
theorem dbl3_far (p : P3) (h : p ≠ ⟨0, 0, 0⟩) : far3 524288 (dbl3 p) = true := by
  induction p using dbl3.induct with
  | case1 p h' => rw [dbl3, dif_pos h']; exact h'.resolve_right h
  | case2 p h' ih => rw [dbl3, dif_neg h']; exact ih (two3_ne p h)
theorem halve3_id (p : P3) (h : in3 1048576 p) : halve3 p = p := by rw [halve3, dif_neg]; rw [(far3_iff _ _ (by decide) (by decide)).2 h]; decide
theorem bare3_in (p : P3) (n : Int) (h : in3 n p) : in3 n (bare3 p) := div3_in _ _ _ h
/-- halved to shortness: what is lost is less than the step, and the step is small beside the whole -/
theorem halve3_near (p : P3) : ∃ n : Int, 1 ≤ n ∧ -(n - 1) ≤ p.x - n * (halve3 p).x ∧ p.x - n * (halve3 p).x ≤ n - 1 ∧ -(n - 1) ≤ p.y - n * (halve3 p).y ∧ p.y - n * (halve3 p).y ≤ n - 1 ∧ -(n - 1) ≤ p.z - n * (halve3 p).z ∧ p.z - n * (halve3 p).z ≤ n - 1 ∧
    (n = 1 ∨ 524288 * n < p.x ∨ p.x < -(524288 * n) ∨ 524288 * n < p.y ∨ p.y < -(524288 * n) ∨ 524288 * n < p.z ∨ p.z < -(524288 * n)) := by
  induction p using halve3.induct with
  | case2 p h => rw [halve3, dif_neg h]; exact ⟨1, by decide, by omega, by omega, by omega, by omega, by omega, by omega, .inl rfl⟩
  | case1 p h ih =>
    rw [halve3, dif_pos h]
    obtain ⟨n, hn, x1, x2, y1, y2, z1, z2, hl⟩ := ih
    generalize halve3 (div3 2 p) = u at x1 x2 y1 y2 z1 z2 ⊢
    have hfar : ¬ in3 1048576 p := fun hi => by rw [(far3_iff _ _ (by decide) (by decide)).2 hi] at h; cases h
    unfold in3 at hfar
    unfold div3 at x1 x2 y1 y2 z1 z2 hl
    simp only at x1 x2 y1 y2 z1 z2 hl
    have ex : ∀ a : Int, (0 ≤ a → 2 * a.tdiv 2 ≤ a ∧ a ≤ 2 * a.tdiv 2 + 1) ∧ (a ≤ 0 → a ≤ 2 * a.tdiv 2 ∧ 2 * a.tdiv 2 - 1 ≤ a) := fun a => by
      constructor
      · intro ha; rw [Int.tdiv_eq_ediv_of_nonneg ha]; omega
      · intro ha
        have : a.tdiv 2 = -((-a) / 2) := by
          have := Int.neg_tdiv a 2
          rw [Int.tdiv_eq_ediv_of_nonneg (by omega)] at this
          omega
        rw [this]; omega
    have e1 := ex p.x
    have e2 := ex p.y
    have e3 := ex p.z
    generalize p.x.tdiv 2 = tx at e1 x1 x2 hl
    generalize p.y.tdiv 2 = ty at e2 y1 y2 hl
    generalize p.z.tdiv 2 = tz at e3 z1 z2 hl
    have m1 : 2 * n * u.x = 2 * (n * u.x) := by grind
    have m2 : 2 * n * u.y = 2 * (n * u.y) := by grind
    have m3 : 2 * n * u.z = 2 * (n * u.z) := by grind
    refine ⟨2 * n, by omega, ?_⟩
    rw [m1, m2, m3]
    generalize n * u.x = nx at *
    generalize n * u.y = ny at *
    generalize n * u.z = nz at *
    omega
end Go.Proofs.Ytckdhahceelckaa.G
