import Derived.Test.YtckdhahceelckaaXG1
namespace Go.Proofs.Ytckdhahceelckaa.G
open Go.RowKit
set_option linter.unusedVariables false
set_option linter.unusedSimpArgs false

/-- the square of the cross product's length -/
def crI (u v : P3) : Int := (u.y * v.z - u.z * v.y) * (u.y * v.z - u.z * v.y) + (u.z * v.x - u.x * v.z) * (u.z * v.x - u.x * v.z) + (u.x * v.y - u.y * v.x) * (u.x * v.y - u.y * v.x)
theorem lagI (u v : P3) : dotI u u * dotI v v = dotI u v * dotI u v + crI u v := by
  unfold dotI crI; exact lagrange _ _ _ _ _ _
theorem crI_nonneg (u v : P3) : 0 ≤ crI u v := by
  unfold crI
  have h1 := sq_nonneg (u.y * v.z - u.z * v.y)
  have h2 := sq_nonneg (u.z * v.x - u.x * v.z)
  have h3 := sq_nonneg (u.x * v.y - u.y * v.x)
  omega
theorem dotI_nn (u : P3) : 0 ≤ dotI u u := by
  unfold dotI
  have h1 := sq_nonneg u.x
  have h2 := sq_nonneg u.y
  have h3 := sq_nonneg u.z
  omega
theorem dotI_far (u : P3) (m : Int) (hm : 0 ≤ m) (h : m < u.x ∨ u.x < -m ∨ m < u.y ∨ u.y < -m ∨ m < u.z ∨ u.z < -m) : m * m < dotI u u := by
  unfold dotI
  have h1 := sq_nonneg u.x
  have h2 := sq_nonneg u.y
  have h3 := sq_nonneg u.z
  have key : ∀ a : Int, (m < a ∨ a < -m) → m * m < a * a := fun a ha => by
    rcases ha with ha | ha
    · exact Int.lt_of_le_of_lt (Int.mul_le_mul_of_nonneg_left (Int.le_of_lt ha) hm) (Int.mul_lt_mul_of_pos_right ha (by omega))
    · have hb : m < -a := by omega
      have := Int.lt_of_le_of_lt (Int.mul_le_mul_of_nonneg_left (Int.le_of_lt hb) hm) (Int.mul_lt_mul_of_pos_right hb (by omega))
      have e : -a * -a = a * a := by grind
      omega
  rcases h with h | h | h | h | h | h
  · have := key u.x (.inl h); omega
  · have := key u.x (.inr h); omega
  · have := key u.y (.inl h); omega
  · have := key u.y (.inr h); omega
  · have := key u.z (.inl h); omega
  · have := key u.z (.inr h); omega
theorem dotI_pos (u : P3) (h : u ≠ ⟨0, 0, 0⟩) : 0 < dotI u u := by
  have : 0 < u.x ∨ u.x < -0 ∨ 0 < u.y ∨ u.y < -0 ∨ 0 < u.z ∨ u.z < -0 := by
    cases u; simp at h ⊢; omega
  have := dotI_far u 0 (by decide) this
  omega

/-- what a point of plain coordinates and one a little beside it make -/
theorem near_cross (h b : P3) (n : Int) (hn : 1 ≤ n) (x1 : -(n - 1) ≤ b.x - n * h.x) (x2 : b.x - n * h.x ≤ n - 1) (y1 : -(n - 1) ≤ b.y - n * h.y) (y2 : b.y - n * h.y ≤ n - 1) (z1 : -(n - 1) ≤ b.z - n * h.z) (z2 : b.z - n * h.z ≤ n - 1)
    (hb : b ≠ ⟨0, 0, 0⟩) (hl : n = 1 ∨ 524288 * n < b.x ∨ b.x < -(524288 * n) ∨ 524288 * n < b.y ∨ b.y < -(524288 * n) ∨ 524288 * n < b.z ∨ b.z < -(524288 * n)) :
    274877906944 * crI h b ≤ 3 * (dotI h h * dotI b b) ∧ 0 < dotI h b := by
  obtain ⟨r, hr⟩ : ∃ r : P3, r = ⟨b.x - n * h.x, b.y - n * h.y, b.z - n * h.z⟩ := ⟨_, rfl⟩
  have hx := sq_le x1 x2
  have hy := sq_le y1 y2
  have hz := sq_le z1 z2
  have hR : dotI r r ≤ 3 * ((n - 1) * (n - 1)) := by rw [hr]; unfold dotI; simp only; omega
  have hRn := dotI_nn r
  have hcr : crI h b = crI h r := by rw [hr]; unfold crI; simp only; grind
  have hB : 274877906944 * dotI r r ≤ 3 * dotI b b ∧ dotI r r < dotI b b := by
    have hbp := dotI_pos b hb
    rcases hl with hl | hl
    · subst hl
      have : dotI r r = 0 := by omega
      omega
    · have h1 := dotI_far b (524288 * n) (by omega) hl
      have h2 : 524288 * n * (524288 * n) = 274877906944 * (n * n) := by grind
      have h3 : (n - 1) * (n - 1) ≤ n * n := sq_le (by omega) (by omega)
      omega
  have hH := dotI_nn h
  have hlag := lagI h r
  have hsq := sq_nonneg (dotI h r)
  constructor
  · rw [hcr]
    have h1 : crI h r ≤ dotI h h * dotI r r := by omega
    have h2 : dotI h h * (274877906944 * dotI r r) ≤ dotI h h * (3 * dotI b b) := Int.mul_le_mul_of_nonneg_left hB.1 hH
    have h3 : dotI h h * (274877906944 * dotI r r) = 274877906944 * (dotI h h * dotI r r) := by grind
    have h4 : dotI h h * (3 * dotI b b) = 3 * (dotI h h * dotI b b) := by grind
    omega
  · have e : 2 * (n * dotI h b) = n * n * dotI h h + dotI b b - dotI r r := by rw [hr]; unfold dotI; simp only; grind
    have h1 : 0 ≤ n * n * dotI h h := Int.mul_nonneg (sq_nonneg n) hH
    have h2 : 0 < n * dotI h b := by omega
    rcases Int.lt_or_le 0 (dotI h b) with h3 | h3
    · exact h3
    · have := Int.mul_nonpos_of_nonneg_of_nonpos (a := n) (by omega) h3
      omega
theorem par_cross {w h : P3} (hp : Par w h) (g : Int) (hg : 0 < g) (b d : P3) (e1 : d.x = g * b.x) (e2 : d.y = g * b.y) (e3 : d.z = g * b.z) (hc : 274877906944 * crI h b ≤ 3 * (dotI h h * dotI b b)) (hd : 0 < dotI h b) :
    274877906944 * crI w d ≤ 3 * (dotI w w * dotI d d) ∧ 0 < dotI w d := by
  obtain ⟨a, e, ha, he, x1, y1, z1⟩ := hp
  have A2 : 0 < a * a := Int.mul_pos ha ha
  have i1 : a * a * crI w d = e * e * (g * g) * crI h b := by
    have : a * a * crI w d = ((a * w.y) * d.z - (a * w.z) * d.y) * ((a * w.y) * d.z - (a * w.z) * d.y) + ((a * w.z) * d.x - (a * w.x) * d.z) * ((a * w.z) * d.x - (a * w.x) * d.z) + ((a * w.x) * d.y - (a * w.y) * d.x) * ((a * w.x) * d.y - (a * w.y) * d.x) := by unfold crI; grind
    rw [this, x1, y1, z1, e1, e2, e3]; unfold crI; grind
  have i2 : a * a * dotI w w = e * e * dotI h h := by
    have : a * a * dotI w w = (a * w.x) * (a * w.x) + (a * w.y) * (a * w.y) + (a * w.z) * (a * w.z) := by unfold dotI; grind
    rw [this, x1, y1, z1]; unfold dotI; grind
  have i3 : dotI d d = g * g * dotI b b := by unfold dotI; rw [e1, e2, e3]; grind
  have i4 : a * dotI w d = e * g * dotI h b := by
    have : a * dotI w d = (a * w.x) * d.x + (a * w.y) * d.y + (a * w.z) * d.z := by unfold dotI; grind
    rw [this, x1, y1, z1, e1, e2, e3]; unfold dotI; grind
  constructor
  · have k : 0 ≤ e * e * (g * g) := Int.mul_nonneg (sq_nonneg e) (sq_nonneg g)
    have h1 := Int.mul_le_mul_of_nonneg_left hc k
    have h2 : e * e * (g * g) * (274877906944 * crI h b) = a * a * (274877906944 * crI w d) := by
      have : e * e * (g * g) * (274877906944 * crI h b) = 274877906944 * (e * e * (g * g) * crI h b) := by grind
      rw [this, ← i1]; grind
    have h3 : e * e * (g * g) * (3 * (dotI h h * dotI b b)) = a * a * (3 * (dotI w w * dotI d d)) := by
      have : e * e * (g * g) * (3 * (dotI h h * dotI b b)) = 3 * ((e * e * dotI h h) * (g * g * dotI b b)) := by grind
      rw [this, ← i2, ← i3]; grind
    rw [h2, h3] at h1
    exact Int.le_of_mul_le_mul_left h1 A2
  · have h1 : 0 < a * dotI w d := by rw [i4]; exact Int.mul_pos (Int.mul_pos he hg) hd
    rcases Int.lt_or_le 0 (dotI w d) with h3 | h3
    · exact h3
    · have := Int.mul_nonpos_of_nonneg_of_nonpos (a := a) (by omega) h3
      omega
end Go.Proofs.Ytckdhahceelckaa.G
