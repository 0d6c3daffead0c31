import Derived.Test.YtckdhahceelckaaXN2
import Derived.Outline
namespace Go.Proofs.Ytckdhahceelckaa.G
open Go.RowKit Go.Proofs.YtckdhahceelckaaW.PrintWords Go.Proofs.YtckdhahceelckaaW.PrintLast Go.Proofs.YtckdhahceelckaaW.PrintMore
attribute [local go_sem] max2_mx min2_mn max_two min_two max_three min_three max_four min_four
attribute [local go_sem high] eqA23
set_option linter.unusedVariables false
set_option linter.unusedSimpArgs false

theorem mx_facts (a b : Int) : a ≤ mx a b ∧ b ≤ mx a b ∧ (mx a b = a ∨ mx a b = b) := by unfold mx; split <;> omega
theorem mn_facts (a b : Int) : mn a b ≤ a ∧ mn a b ≤ b ∧ (mn a b = a ∨ mn a b = b) := by unfold mn; split <;> omega
theorem far3_iff (n : Int) (p : P3) (hn : 0 ≤ n) (hn2 : n ≤ 9223372036854775807) : far3 n p = false ↔ in3 n p := by
  have hw : wrap64 (-n) = -n := w64_id _ (by omega) (by omega)
  unfold far3 in3
  rw [hw]
  obtain ⟨a1, a2, a3⟩ := mx_facts p.x p.y
  obtain ⟨b1, b2, b3⟩ := mx_facts (mx p.x p.y) p.z
  obtain ⟨c1, c2, c3⟩ := mn_facts p.x p.y
  obtain ⟨d1, d2, d3⟩ := mn_facts (mn p.x p.y) p.z
  simp only [Bool.or_eq_false_iff, decide_eq_false_iff_not]
  omega
def size3 (p : P3) : Nat := p.x.natAbs + p.y.natAbs + p.z.natAbs
theorem tdiv2_abs (x : Int) : (x.tdiv 2).natAbs = x.natAbs / 2 := by rw [Int.natAbs_tdiv]; rfl
theorem div3_in (n B : Int) (p : P3) (h : in3 B p) : in3 B (div3 n p) := by
  obtain ⟨h1, h2, h3, h4, h5, h6⟩ := h
  have a := tdiv_le p.x n B.natAbs (by omega)
  have b := tdiv_le p.y n B.natAbs (by omega)
  have c := tdiv_le p.z n B.natAbs (by omega)
  unfold in3 div3
  simp only
  omega
theorem div2_lt (p : P3) (h : far3 1048576 p = true) : size3 (div3 2 p) < size3 p := by
  have h' : ¬ in3 1048576 p := fun hi => by rw [(far3_iff _ _ (by omega) (by omega)).2 hi] at h; cases h
  have a := tdiv2_abs p.x
  have b := tdiv2_abs p.y
  have c := tdiv2_abs p.z
  unfold in3 at h'
  unfold size3 div3
  simp only
  omega
def halve3 (p : P3) : P3 := if h : far3 1048576 p = true then halve3 (div3 2 p) else p
termination_by size3 p
decreasing_by exact div2_lt p h
theorem div2_ne (p : P3) (h : far3 1048576 p = true) : div3 2 p ≠ ⟨0, 0, 0⟩ := by
  have h' : ¬ in3 1048576 p := fun hi => by rw [(far3_iff _ _ (by omega) (by omega)).2 hi] at h; cases h
  have a := tdiv2_abs p.x
  have b := tdiv2_abs p.y
  have c := tdiv2_abs p.z
  intro e
  unfold div3 at e
  simp only [P3.mk.injEq] at e
  unfold in3 at h'
  obtain ⟨e1, e2, e3⟩ := e
  rw [e1] at a; rw [e2] at b; rw [e3] at c
  simp at a b c
  omega
def short3 (p : P3) : P3 := if far3 4398046511104 p = true ∨ p = ⟨0, 0, 0⟩ then ⟨0, 0, 0⟩ else bare3 (halve3 (bare3 p))
theorem bare3_ne (p : P3) (B : Nat) (h : p ≠ ⟨0, 0, 0⟩) : bare3 p ≠ ⟨0, 0, 0⟩ := by
  have hg := gcd3_pos p h
  have d1 : gcd3 p ∣ p.x := Int.dvd_trans (by unfold gcd3; exact Int.gcd_dvd_left ..) (Int.gcd_dvd_left ..)
  have d2 : gcd3 p ∣ p.y := Int.dvd_trans (by unfold gcd3; exact Int.gcd_dvd_left ..) (Int.gcd_dvd_right ..)
  have d3 : gcd3 p ∣ p.z := by unfold gcd3; exact Int.gcd_dvd_right ..
  intro e
  unfold bare3 div3 at e
  simp only [P3.mk.injEq] at e
  obtain ⟨e1, e2, e3⟩ := e
  apply h
  have x0 := Int.tdiv_mul_cancel d1
  have y0 := Int.tdiv_mul_cancel d2
  have z0 := Int.tdiv_mul_cancel d3
  rw [e1] at x0; rw [e2] at y0; rw [e3] at z0
  cases p; simp at x0 y0 z0 ⊢; omega

set_option maxHeartbeats 2000000 in
theorem short_calls (x y z : Int) (w : World) :
    Calls Try.prog 77 #[.agg #[.int .i64 x, .int .i64 y, .int .i64 z]] w fun e w' => e = .returned (.agg #[.int .i64 (short3 ⟨x, y, z⟩).x, .int .i64 (short3 ⟨x, y, z⟩).y, .int .i64 (short3 ⟨x, y, z⟩).z]) ∧ Below w.heap.size w w' := by
  have B1 := ((C3.new w (.int .i64 x) (.int .i64 y) (.int .i64 z) 23).alloc (.cells #[.int .i64 0, .int .i64 0, .int .i64 0] 23))
  have B2 := (C3.new (w.alloc (.cells #[.int .i64 x, .int .i64 y, .int .i64 z] 23)) (.int .i64 0) (.int .i64 0) (.int .i64 0) 23)
  simp only [World.size_alloc] at B2
  by_cases hf : far3 4398046511104 ⟨x, y, z⟩ = true
  · have hs : short3 ⟨x, y, z⟩ = ⟨0, 0, 0⟩ := by unfold short3; rw [if_pos (.inl hf)]
    rw [hs]
    clear hs
    go_enter Try.func77, Try.ntmps77
    go_wp2_with (go_at_call 123; refine (beyond_calls _ _ _ _ _ (by decide) (by decide)).mono ?_; rintro e w1 ⟨rfl, hb1⟩; rw [hf]; have B2 := B2.below hb1; obtain ⟨c20, c21, c22, f20, f21, f22⟩ := id B2)
    exact bodyPost_ret (v := .agg #[.int .i64 0, .int .i64 0, .int .i64 0]) (by simp [results, Try.results77, go_sem, c20, c21, c22]) rfl ⟨rfl, (((((Below.refl _ w).alloc (Nat.le_refl _) _).alloc (by simp) _).trans (hb1.mono (by simp; omega))).setCell (by simp) _).setCell (by simp) _ |>.setCell (by simp) _⟩
  · have hf' : far3 4398046511104 ⟨x, y, z⟩ = false := by simpa using hf
    obtain ⟨hx1, hx2, hy1, hy2, hz1, hz2⟩ := (far3_iff _ _ (by decide) (by decide)).1 hf'
    simp only at hx1 hx2 hy1 hy2 hz1 hz2
    by_cases hp : (⟨x, y, z⟩ : P3) = ⟨0, 0, 0⟩
    · have hs : short3 ⟨x, y, z⟩ = ⟨0, 0, 0⟩ := by unfold short3; rw [if_pos (.inr hp)]
      rw [hs]
      clear hs
      simp only [P3.mk.injEq] at hp
      obtain ⟨rfl, rfl, rfl⟩ := hp
      have he0 : eqP 0 0 0 0 0 0 = true := by decide
      go_enter Try.func77, Try.ntmps77
      go_wp2_with (go_at_call 123; refine (beyond_calls _ _ _ _ _ (by decide) (by decide)).mono ?_; rintro e w1 ⟨rfl, hb1⟩; rw [hf']; have B1 := B1.below hb1; obtain ⟨c10, c11, c12, f10, f11, f12⟩ := id B1; have B2 := B2.below hb1; obtain ⟨c20, c21, c22, f20, f21, f22⟩ := id B2)
      exact bodyPost_ret (v := .agg #[.int .i64 0, .int .i64 0, .int .i64 0]) (by simp [results, Try.results77, go_sem, c20, c21, c22]) rfl ⟨rfl, (((((Below.refl _ w).alloc (Nat.le_refl _) _).alloc (by simp) _).trans (hb1.mono (by simp; omega))).setCell (by simp) _).setCell (by simp) _ |>.setCell (by simp) _⟩
    · have hs : short3 ⟨x, y, z⟩ = bare3 (halve3 (bare3 ⟨x, y, z⟩)) := by unfold short3; rw [if_neg (by simp [hf', hp])]
      rw [hs]
      clear hs
      go_enter Try.func77, Try.ntmps77
      have HP := Lib.hid hp
      have he0 := eqP_no hp
      clear hp hf
      go_wp2_with (first
        | (go_at_call 123; refine (beyond_calls _ _ _ _ _ (by decide) (by decide)).mono ?_; rintro e w1 ⟨rfl, hb1⟩; rw [hf']; have B1 := B1.below hb1; obtain ⟨c10, c11, c12, f10, f11, f12⟩ := id B1; have B2 := B2.below hb1)
        | (go_at_call 124; refine (bare_calls _ _ _ _ HP.out ?_ ?_ ?_ ?_ ?_ ?_).mono ?_; omega; omega; omega; omega; omega; omega; rintro e w2 ⟨rfl, hb2⟩; have B1 := B1.below hb2; obtain ⟨c10, c11, c12, f10, f11, f12⟩ := id B1; have B2 := B2.below hb2))
      have hB : Below w.heap.size w w2 := (((Below.refl _ w).alloc (Nat.le_refl _) _).alloc (by simp) _).trans ((hb1.mono (by simp; omega)).trans (hb2.mono (by have := hb1.size; simp at this; omega)))
      have hB := below_set3 hB (Nat.le_refl w.heap.size) (.int .i64 (bare3 ⟨x, y, z⟩).x) (.int .i64 (bare3 ⟨x, y, z⟩).y) (.int .i64 (bare3 ⟨x, y, z⟩).z)
      have B2 := B2.other (g' := w.heap.size) (by omega) (.int .i64 (bare3 ⟨x, y, z⟩).x) (.int .i64 (bare3 ⟨x, y, z⟩).y) (.int .i64 (bare3 ⟨x, y, z⟩).z)
      have B1 := B1.set (.int .i64 (bare3 ⟨x, y, z⟩).x) (.int .i64 (bare3 ⟨x, y, z⟩).y) (.int .i64 (bare3 ⟨x, y, z⟩).z)
      have hin := div3_in (gcd3 ⟨x, y, z⟩) 4398046511104 ⟨x, y, z⟩ ⟨hx1, hx2, hy1, hy2, hz1, hz2⟩
      have hne := bare3_ne _ 0 HP.out
      change in3 4398046511104 (bare3 ⟨x, y, z⟩) at hin
      unfold set3 at B1 B2 hB
      obtain ⟨q, hq⟩ : ∃ q, bare3 ⟨x, y, z⟩ = q := ⟨_, rfl⟩
      rw [hq] at B1 B2 hB hin hne ⊢
      generalize ((w2.setCell { block := w.heap.size, off := 0 } (Value.int IntKind.i64 q.x)).setCell { block := w.heap.size, off := 1 } (Value.int IntKind.i64 q.y)).setCell { block := w.heap.size, off := 2 } (Value.int IntKind.i64 q.z) = w3 at B1 B2 hB ⊢
      have HQ := Lib.hid hq
      clear hq he0 HP hb1 hb2 c10 c11 c12 f10 f11 f12
      go_loopg [] (size3 q) (fun kq wr => ∃ r : P3, Hid (kq = size3 r) ∧ Hid (halve3 r = halve3 q) ∧ Hid (in3 4398046511104 r) ∧ Hid (r ≠ ⟨0, 0, 0⟩) ∧ Hid (C3 wr w.heap.size (.int .i64 r.x) (.int .i64 r.y) (.int .i64 r.z)) ∧ Hid (C3 wr (w.heap.size + 1) (.int .i64 0) (.int .i64 0) (.int .i64 0)) ∧ Hid (Below w.heap.size w wr))
      case atStart => exact ⟨q, rfl, rfl, hin, hne, B1, B2, hB⟩
      case round =>
        obtain ⟨r, h1, h2, h3, h4, h5, h6, h7⟩ := hrel
        obtain ⟨hx1, hx2, hy1, hy2, hz1, hz2⟩ := h3.out
        obtain ⟨rx, ry, rz⟩ := r
        dsimp only at h5 hx1 hx2 hy1 hy2 hz1 hz2
        obtain ⟨c10, c11, c12, f10, f11, f12⟩ := id h5.out
        cases hf : far3 1048576 ⟨rx, ry, rz⟩ with
        | true =>
          have e1 : halve3 ⟨rx, ry, rz⟩ = halve3 (div3 2 ⟨rx, ry, rz⟩) := by rw [halve3, dif_pos hf]
          have e2 : Hid (size3 (div3 2 ⟨rx, ry, rz⟩) < gk) := by rw [h1.out]; exact div2_lt _ hf
          have e3 := Lib.hid (div3_in 2 4398046511104 _ h3.out)
          have e4 := Lib.hid (div2_ne _ hf)
          have E1 : Hid (halve3 (div3 2 ⟨rx, ry, rz⟩) = halve3 q) := e1.symm.trans h2.out
          clear e1
          go_wp2_with (first
            | (go_at_call 123; refine (beyond_calls _ _ _ _ _ (by decide) (by decide)).mono ?_; rintro e w4 ⟨rfl, hb4⟩; rw [hf]; have C1 := Lib.hid (h5.out.below hb4); have C2 := Lib.hid (h6.out.below hb4); obtain ⟨c10, c11, c12, f10, f11, f12⟩ := id C1.out)
            | (go_at_call 125; refine (divisor_calls _ _ _ _ _ ?_ ?_ ?_ ?_ ?_ ?_ ?_ ?_).mono ?_; omega; omega; omega; omega; omega; omega; omega; omega; rintro e w5 ⟨rfl, hb5⟩; have D1 := Lib.hid (C1.out.below hb5); have D2 := Lib.hid (C2.out.below hb5); obtain ⟨c10, c11, c12, f10, f11, f12⟩ := id D1.out))
          go_roundg (size3 (div3 2 ⟨rx, ry, rz⟩))
          case measure => exact e2.out
          case rel => exact ⟨div3 2 ⟨rx, ry, rz⟩, rfl, E1, e3, e4, D1.out.set _ _ _, D2.out.other (by omega) _ _ _, below_set3 (h7.out.trans ((hb4.mono h7.out.size).trans (hb5.mono (Nat.le_trans h7.out.size hb4.size)))) (Nat.le_refl _) _ _ _⟩
        | false =>
          have e1 : halve3 ⟨rx, ry, rz⟩ = ⟨rx, ry, rz⟩ := by rw [halve3, dif_neg (by rw [hf]; simp)]
          have E1 : Hid (halve3 q = ⟨rx, ry, rz⟩) := h2.out.symm.trans e1
          clear e1
          have H4 := h4.out
          go_wp2_with (first
            | (go_at_call 123; refine (beyond_calls _ _ _ _ _ (by decide) (by decide)).mono ?_; rintro e w4 ⟨rfl, hb4⟩; rw [hf]; have C1 := Lib.hid (h5.out.below hb4); have C2 := Lib.hid (h6.out.below hb4); obtain ⟨c10, c11, c12, f10, f11, f12⟩ := id C1.out)
            | (go_at_call 124; refine (bare_calls _ _ _ _ h4.out ?_ ?_ ?_ ?_ ?_ ?_).mono ?_; omega; omega; omega; omega; omega; omega; rintro e w5 ⟨rfl, hb5⟩; have D2 := Lib.hid (C2.out.below hb5); obtain ⟨c20, c21, c22, f20, f21, f22⟩ := id D2.out))
          rw [HQ.out, E1.out]
          exact bodyPost_ret (v := .agg #[.int .i64 (bare3 ⟨rx, ry, rz⟩).x, .int .i64 (bare3 ⟨rx, ry, rz⟩).y, .int .i64 (bare3 ⟨rx, ry, rz⟩).z]) (by simp [results, Try.results77, go_sem, c20, c21, c22]) rfl ⟨rfl, below_set3 (h7.out.trans ((hb4.mono h7.out.size).trans (hb5.mono (Nat.le_trans h7.out.size hb4.size)))) (by omega) _ _ _⟩
end Go.Proofs.Ytckdhahceelckaa.G
