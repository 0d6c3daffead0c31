import Derived.Test.YtckdhahceelckaaXN5
import Derived.Outline
namespace Go.Proofs.Ytckdhahceelckaa.G
open Go.RowKit Go.Proofs.YtckdhahceelckaaW.PrintWords Go.Proofs.YtckdhahceelckaaW.PrintLast Go.Proofs.YtckdhahceelckaaW.PrintMore
attribute [local go_sem] max2_mx min2_mn max_two min_two max_three min_three max_four min_four
attribute [local go_sem high] eqA23
set_option linter.unusedVariables false
set_option linter.unusedSimpArgs false

def two3 (p : P3) : P3 := ⟨2 * p.x, 2 * p.y, 2 * p.z⟩
theorem two3_lt (p : P3) (h : ¬ (far3 524288 p = true ∨ p = ⟨0, 0, 0⟩)) : 2000000 - size3 (two3 p) < 2000000 - size3 p := by
  have h1 : far3 524288 p = false := by simpa using fun e => h (.inl e)
  have hi := (far3_iff _ _ (by decide) (by decide)).1 h1
  have h2 : p ≠ ⟨0, 0, 0⟩ := fun e => h (.inr e)
  have h3 : p.x ≠ 0 ∨ p.y ≠ 0 ∨ p.z ≠ 0 := by
    cases p; simp at h2 ⊢; omega
  unfold in3 at hi
  unfold size3 two3
  simp only
  omega
/-- doubled, as long as no part's size is above 2^19 -/
def dbl3 (p : P3) : P3 := if h : far3 524288 p = true ∨ p = ⟨0, 0, 0⟩ then p else dbl3 (two3 p)
termination_by 2000000 - size3 p
decreasing_by exact two3_lt p h
/-- made long; noughts: it is none -/
def long3 (p : P3) : P3 := dbl3 (short3 p)
theorem two3_ne (p : P3) (h : p ≠ ⟨0, 0, 0⟩) : two3 p ≠ ⟨0, 0, 0⟩ := by
  cases p; simp [two3] at h ⊢; omega
theorem halve3_in (p : P3) : in3 1048576 (halve3 p) := by
  induction p using halve3.induct with
  | case1 p h ih => rw [halve3, dif_pos h]; exact ih
  | case2 p h =>
    rw [halve3, dif_neg h]
    exact (far3_iff _ _ (by decide) (by decide)).1 (by simpa using h)
theorem short3_in (p : P3) : in3 1048576 (short3 p) := by
  unfold short3
  split
  · unfold in3; simp
  · exact div3_in _ _ _ (halve3_in _)
theorem halve3_ne (p : P3) (h : p ≠ ⟨0, 0, 0⟩) : halve3 p ≠ ⟨0, 0, 0⟩ := by
  induction p using halve3.induct with
  | case1 p h' ih => rw [halve3, dif_pos h']; exact ih (div2_ne p h')
  | case2 p h' => rw [halve3, dif_neg h']; exact h

theorem dbl3_ne (p : P3) (h : p ≠ ⟨0, 0, 0⟩) : dbl3 p ≠ ⟨0, 0, 0⟩ := by
  induction p using dbl3.induct with
  | case1 p h' => rw [dbl3, dif_pos h']; exact h
  | case2 p h' ih => rw [dbl3, dif_neg h']; exact ih (two3_ne p h)

set_option maxHeartbeats 2000000 in
theorem lengthen_calls (x y z : Int) (b : Bool) (w : World) (hb0 : decide (long3 ⟨x, y, z⟩ ≠ ⟨0, 0, 0⟩) = b) :
    Calls Try.prog 59 #[.agg #[.int .i64 x, .int .i64 y, .int .i64 z]] w fun e w' => e = .returned (.tuple #[.agg #[.int .i64 (long3 ⟨x, y, z⟩).x, .int .i64 (long3 ⟨x, y, z⟩).y, .int .i64 (long3 ⟨x, y, z⟩).z], .bool b]) ∧ Below w.heap.size w w' := by
  have B1 := ((C3.new w (.int .i64 x) (.int .i64 y) (.int .i64 z) 23).alloc (.cells #[.int .i64 0, .int .i64 0, .int .i64 0] 23))
  have B2 := (C3.new (w.alloc (.cells #[.int .i64 x, .int .i64 y, .int .i64 z] 23)) (.int .i64 0) (.int .i64 0) (.int .i64 0) 23)
  simp only [World.size_alloc] at B2
  have B1 := Lib.hid B1
  have B2 := Lib.hid B2
  obtain ⟨p, hp⟩ : ∃ p, short3 ⟨x, y, z⟩ = p := ⟨_, rfl⟩
  have hin : in3 1048576 p := by rw [← hp]; exact short3_in _
  unfold long3 at hb0 ⊢
  rw [hp] at hb0 ⊢
  have HP := Lib.hid hp
  clear hp
  obtain ⟨px, py, pz⟩ := p
  by_cases hz : (⟨px, py, pz⟩ : P3) = ⟨0, 0, 0⟩
  · have h1 : dbl3 ⟨px, py, pz⟩ = ⟨0, 0, 0⟩ := by rw [dbl3, dif_pos (.inr hz)]; exact hz
    rw [h1] at hb0 ⊢
    obtain rfl : false = b := by simpa using hb0
    clear hb0 h1
    have he := eqP_yes hz
    simp only [P3.mk.injEq] at hz
    obtain ⟨rfl, rfl, rfl⟩ := hz
    go_enter Try.func59, Try.ntmps59
    go_wp2_with (go_at_call 77; refine (short_calls _ _ _ _).mono ?_; rintro e w1 ⟨rfl, hb1⟩; rw [HP.out]; obtain ⟨c10, c11, c12, f10, f11, f12⟩ := B1.out.below hb1; have D2 := Lib.hid (B2.out.below hb1); obtain ⟨c20, c21, c22, f20, f21, f22⟩ := D2.out)
    have hB : Below w.heap.size w w1 := (((Below.refl _ w).alloc (Nat.le_refl _) _).alloc (by simp) _).trans (hb1.mono (by simp; omega))
    exact bodyPost_ret (v := .tuple #[.agg #[.int .i64 0, .int .i64 0, .int .i64 0], .bool false]) (by simp [results, Try.results59, go_sem, c20, c21, c22]) rfl ⟨rfl, below_set3 (below_set3 hB (Nat.le_refl _) _ _ _) (by omega) _ _ _⟩
  · obtain ⟨D, hD⟩ : ∃ D, dbl3 ⟨px, py, pz⟩ = D := ⟨_, rfl⟩
    have hDn : D ≠ ⟨0, 0, 0⟩ := by
      rw [← hD]
      exact dbl3_ne _ hz
    rw [hD] at hb0 ⊢
    obtain rfl : true = b := by rw [← hb0]; simpa using hDn
    have HD := Lib.hid hD
    have HZ := Lib.hid hz
    have HI := Lib.hid hin
    have he := eqP_no hz
    clear hb0 hD hz hDn hin
    go_enter Try.func59, Try.ntmps59
    go_wp2_with (go_at_call 77; refine (short_calls _ _ _ _).mono ?_; rintro e w1 ⟨rfl, hb1⟩; rw [HP.out]; have D1 := Lib.hid (B1.out.below hb1); obtain ⟨c10, c11, c12, f10, f11, f12⟩ := D1.out; have D2 := Lib.hid (B2.out.below hb1))
    have hB : Below w.heap.size w w1 := (((Below.refl _ w).alloc (Nat.le_refl _) _).alloc (by simp) _).trans (hb1.mono (by simp; omega))
    have hB := below_set3 hB (Nat.le_refl w.heap.size) (.int .i64 px) (.int .i64 py) (.int .i64 pz)
    have B2 := D2.out.other (g' := w.heap.size) (by omega) (.int .i64 px) (.int .i64 py) (.int .i64 pz)
    have B1 := D1.out.set (.int .i64 px) (.int .i64 py) (.int .i64 pz)
    unfold set3 at B1 B2 hB
    generalize ((w1.setCell { block := w.heap.size, off := 0 } (Value.int IntKind.i64 px)).setCell { block := w.heap.size, off := 1 } (Value.int IntKind.i64 py)).setCell { block := w.heap.size, off := 2 } (Value.int IntKind.i64 pz) = w3 at B1 B2 hB ⊢
    clear he hb1 c10 c11 c12 f10 f11 f12 D1 D2
    go_loopg [] (2000000 - size3 ⟨px, py, pz⟩) (fun kq wr => ∃ r : P3, Hid (kq = 2000000 - size3 r) ∧ Hid (dbl3 r = D) ∧ Hid (in3 1048576 r) ∧ Hid (r ≠ ⟨0, 0, 0⟩) ∧ Hid (C3 wr w.heap.size (.int .i64 r.x) (.int .i64 r.y) (.int .i64 r.z)) ∧ Hid (C3 wr (w.heap.size + 1) (.int .i64 0) (.int .i64 0) (.int .i64 0)) ∧ Hid (Below w.heap.size w wr))
    case atStart => exact ⟨⟨px, py, pz⟩, rfl, HD.out, HI.out, HZ.out, B1, B2, hB⟩
    case round =>
      obtain ⟨r, h1, h2, h3, h4, h5, h6, h7⟩ := hrel
      obtain ⟨hx1, hx2, hy1, hy2, hz1, hz2⟩ := h3.out
      obtain ⟨rx, ry, rz⟩ := r
      dsimp only at h5 hx1 hx2 hy1 hy2 hz1 hz2
      obtain ⟨c10, c11, c12, f10, f11, f12⟩ := id h5.out
      cases hf : far3 524288 ⟨rx, ry, rz⟩ with
      | false =>
        have hne : ¬ (far3 524288 ⟨rx, ry, rz⟩ = true ∨ (⟨rx, ry, rz⟩ : P3) = ⟨0, 0, 0⟩) := by rw [hf]; simpa using h4.out
        have e1 : dbl3 ⟨rx, ry, rz⟩ = dbl3 (two3 ⟨rx, ry, rz⟩) := by rw [dbl3, dif_neg hne]
        have e2 : Hid (2000000 - size3 (two3 ⟨rx, ry, rz⟩) < gk) := by rw [h1.out]; exact two3_lt _ hne
        have e4 := Lib.hid (two3_ne _ h4.out)
        have hi5 := (far3_iff _ _ (by decide) (by decide)).1 hf
        have e3 : Hid (in3 1048576 (two3 ⟨rx, ry, rz⟩)) := by unfold in3 two3 at *; simp only at *; show _ ∧ _; omega
        have E1 : Hid (dbl3 (two3 ⟨rx, ry, rz⟩) = D) := e1.symm.trans h2.out
        clear e1 hne hi5
        go_wp2
        go_region_held3 (fun w' => w'.cell? ⟨w.heap.size, 0, none⟩ = some (.int .i64 rx) ∧ w'.cell? ⟨w.heap.size, 1, none⟩ = some (.int .i64 ry) ∧ w'.cell? ⟨w.heap.size, 2, none⟩ = some (.int .i64 rz))
          (first | exact ⟨d10, d11, d12⟩ | (go_keep; done) | exact ⟨c10, c11, c12⟩)
          (first
            | (go_at_call 65; refine (beyondF_calls _ _).mono ?_; rintro e w4 ⟨rfl, rfl⟩; have C1 := Lib.hid ((h5.out.drew).alloc (.cells #[.int .i64 524288] 3)); have C2 := Lib.hid ((h6.out.drew).alloc (.cells #[.int .i64 524288] 3)); obtain ⟨d10, d11, d12, g10, g11, g12⟩ := id C1.out)
            | (go_at_call 121; refine (beyond1_calls _ _ _ 524288 _ _ (by simp) (by decide) (by decide)).mono ?_; rintro e w5 ⟨rfl, hb5⟩; rw [hf]; have D1 := Lib.hid (C1.out.below hb5); have D2 := Lib.hid (C2.out.below hb5); obtain ⟨d10, d11, d12, g10, g11, g12⟩ := id D1.out))
        go_wp2
        go_roundg (2000000 - size3 (two3 ⟨rx, ry, rz⟩))
        case measure => exact e2.out
        case rel => exact ⟨two3 ⟨rx, ry, rz⟩, rfl, E1, e3, e4, D1.out.set _ _ _, D2.out.other (by omega) _ _ _, below_set3 (((h7.out.drew).alloc h7.out.size _).trans (hb5.mono (by have := h7.out.size; simp; omega))) (Nat.le_refl _) _ _ _⟩
      | true =>
        have e1 : dbl3 ⟨rx, ry, rz⟩ = ⟨rx, ry, rz⟩ := by rw [dbl3, dif_pos (.inl hf)]
        obtain rfl : D = ⟨rx, ry, rz⟩ := h2.out.symm.trans e1
        clear e1
        go_wp2
        go_region_held3 (fun w' => w'.cell? ⟨w.heap.size, 0, none⟩ = some (.int .i64 rx) ∧ w'.cell? ⟨w.heap.size, 1, none⟩ = some (.int .i64 ry) ∧ w'.cell? ⟨w.heap.size, 2, none⟩ = some (.int .i64 rz))
          (first | exact ⟨d10, d11, d12⟩ | (go_keep; done) | exact ⟨c10, c11, c12⟩)
          (first
            | (go_at_call 65; refine (beyondF_calls _ _).mono ?_; rintro e w4 ⟨rfl, rfl⟩; have C1 := Lib.hid ((h5.out.drew).alloc (.cells #[.int .i64 524288] 3)); have C2 := Lib.hid ((h6.out.drew).alloc (.cells #[.int .i64 524288] 3)); obtain ⟨d10, d11, d12, g10, g11, g12⟩ := id C1.out)
            | (go_at_call 121; refine (beyond1_calls _ _ _ 524288 _ _ (by simp) (by decide) (by decide)).mono ?_; rintro e w5 ⟨rfl, hb5⟩; rw [hf]; have D1 := Lib.hid (C1.out.below hb5); have D2 := Lib.hid (C2.out.below hb5); obtain ⟨d10, d11, d12, g10, g11, g12⟩ := id D1.out))
        obtain ⟨d20, d21, d22, g20, g21, g22⟩ := id D2.out
        go_wp2
        exact bodyPost_ret (v := .tuple #[.agg #[.int .i64 rx, .int .i64 ry, .int .i64 rz], .bool true]) (by simp [results, Try.results59, go_sem, d20, d21, d22]) rfl ⟨rfl, below_set3 (((h7.out.drew).alloc h7.out.size _).trans (hb5.mono (by have := h7.out.size; simp; omega))) (by omega) _ _ _⟩
end Go.Proofs.Ytckdhahceelckaa.G
