/- What the laws of this claim lean on: contracts of the functions that they reach, and plain lemmas; no condition of its own (part 6 of 6; the texts XV12, XV13, XV14, XV15, XV16, XV18). -/
import Derived.Test.YtckdhahceelckaaKSF5
namespace Go.Proofs.Ytckdhahceelckaa.G
open Go.RowKit Go.Proofs.YtckdhahceelckaaW.PrintWords Go.Proofs.YtckdhahceelckaaW.PrintLast Go.Proofs.YtckdhahceelckaaW.PrintMore
attribute [local go_sem] max2_mx min2_mn max_two min_two max_three min_three max_four min_four
attribute [local go_sem high] eqA23 eqA40
set_option linter.unusedVariables false
set_option linter.unusedSimpArgs false
def CastPost (R : (Nat × (P3 × Int)) × Bool) (w : World) (en : Ending) (w' : World) : Prop := en = .returned (.tuple #[.int .i64 R.1.1, .agg #[.int .i64 R.1.2.1.x, .int .i64 R.1.2.1.y, .int .i64 R.1.2.1.z, .int .i64 R.1.2.2], .bool R.2]) ∧ Below w.heap.size w w'
theorem castL_neg {c d : Cr} {y : P3} {n k : Nat} {x : P3 × Int} (h : x.2 < 0) : castL c y d n k x = (k, x) := by
  cases n with
  | zero => rfl
  | succ n => rw [castL, if_pos h]
theorem CrV.form {w : World} {v : Value} {c : Cr} (h : CrV w v c) : ∃ A0 A1 A2 n0 n1 n2 c0 c1 c2, v = .agg #[.slice A0 n0 c0, .slice A1 n1 c1, .slice A2 n2 c2, .int .i64 c.r] := by
  obtain ⟨A0, A1, A2, c0, c1, c2, rfl, _⟩ := h.out
  exact ⟨_, _, _, _, _, _, _, _, _, rfl⟩
theorem four0 (w : World) (o1 o2 o3 o4 : Obj) : ((((w.alloc o1).alloc o2).alloc o3).alloc o4).heap[w.heap.size]? = some o1 := (Below.heap_alloc _ o4 _ (by simp; omega)).trans (three0 w o1 o2 o3)
theorem four1 (w : World) (o1 o2 o3 o4 : Obj) : ((((w.alloc o1).alloc o2).alloc o3).alloc o4).heap[w.heap.size + 1]? = some o2 := (Below.heap_alloc _ o4 _ (by simp)).trans (three1 w o1 o2 o3)
theorem four2 (w : World) (o1 o2 o3 o4 : Obj) : ((((w.alloc o1).alloc o2).alloc o3).alloc o4).heap[w.heap.size + 2]? = some o3 := (Below.heap_alloc _ o4 _ (by simp)).trans (three2 w o1 o2 o3)
theorem four3 (w : World) (o1 o2 o3 o4 : Obj) : ((((w.alloc o1).alloc o2).alloc o3).alloc o4).heap[w.heap.size + 3]? = some o4 := by
  have := heap_alloc_new (((w.alloc o1).alloc o2).alloc o3) o4
  simpa using this
theorem below_alloc4 (w : World) (o1 o2 o3 o4 : Obj) : Below w.heap.size w ((((w.alloc o1).alloc o2).alloc o3).alloc o4) := (Go.Joins.below_alloc3 w o1 o2 o3).alloc (by simp; omega) o4
set_option maxHeartbeats 16000000 in
set_option maxRecDepth 100000 in
theorem cast_calls {w : World} {va vb : Value} {a b : Cr} (ha : CrV w va a) (hb : CrV w vb b) (y : P3) (hl : a.p.length ≤ 140737488355328) : Calls Try.prog 34 #[va, aP y, vb] w (CastPost (castF a y b) w) := by
  have HNO := Lh (fun (h : castOk a y b = false) => show castF a y b = ((0, (⟨0, 0, 0⟩, 0)), false) from if_neg (by rw [h]; decide))
  have HYS := Lh (fun (h : castOk a y b = true) => show castF a y b = (castL a y b 16 0 (apS a b).1, true) from if_pos h)
  have HOK : Hid (castOk a y b = ((apS a b).2 && smay a y && (apS (trailF a y 16) b).2)) := Lh rfl
  have HA1 := Lh (fun (W : World) (h1 : CrV W va a) (h2 : CrV W vb b) => apart_all h1 h2 (apS a b) rfl)
  have HM := Lh (fun (W : World) (h1 : CrV W va a) => smay_calls h1 y hl)
  have HT := Lh (fun (W : World) (K : Int) (h1 : CrV W va a) => trail_calls h1 y K hl)
  have HA2 := Lh (fun (K : Int) (W : World) (u : Value) (h1 : CrV W u (trailF a y K)) (h2 : CrV W vb b) => apart_all h1 h2 (apS (trailF a y K) b) rfl)
  have HGO := Lh (fun n k x z h1 h2 h3 => castL_go (c := a) (d := b) (y := y) (n := n) (k := k) (x := x) (z := z) h1 h2 h3)
  have HSTOP := Lh (fun n k x z h1 h2 => castL_stop (c := a) (d := b) (y := y) (n := n) (k := k) (x := x) (z := z) h1 h2)
  have HNEG := Lh (fun n k x h1 => castL_neg (c := a) (d := b) (y := y) (n := n) (k := k) (x := x) h1)
  have HZ := Lh (fun k x => show castL a y b 0 k x = (k, x) from rfl)
  obtain ⟨CF, hCF⟩ : ∃ R, castF a y b = R := ⟨_, rfl⟩
  obtain ⟨CO, hCO⟩ : ∃ R, castOk a y b = R := ⟨_, rfl⟩
  obtain ⟨S, hS⟩ : ∃ R, smay a y = R := ⟨_, rfl⟩
  obtain ⟨CL, hCL⟩ : ∃ R, castL a y b = R := ⟨_, rfl⟩
  obtain ⟨TR, hTR⟩ : ∃ R, trailF a y = R := ⟨_, rfl⟩
  obtain ⟨X0, hX0⟩ : ∃ R, apS a b = R := ⟨_, rfl⟩
  obtain ⟨AP, hAP⟩ : ∃ R : Cr → (P3 × Int) × Bool, (fun c => apS c b) = R := ⟨_, rfl⟩
  have hAP2 : ∀ c, apS c b = AP c := fun c => by rw [← hAP]
  simp only [hAP2] at HOK HA2 HGO HSTOP HYS
  rw [hCF, hCO] at HNO
  rw [hCF, hCO, hCL, ← hAP2, hX0] at HYS
  rw [hCO, hS, hTR, ← hAP2 a, hX0] at HOK
  rw [hX0] at HA1
  rw [hS] at HM
  rw [hTR] at HT HA2
  simp only [hTR, hCL] at HGO HSTOP
  simp only [hCL] at HNEG HZ
  rw [hCF]
  clear hCF hCO hS hCL hTR hX0 hAP hAP2
  obtain ⟨⟨⟨Xx, Xy, Xz⟩, Xg⟩, Xo⟩ := X0
  obtain ⟨yx, yy, yz⟩ := y
  have HVA := Lh ha
  have HVB := Lh hb
  obtain ⟨A0, A1, A2, n0, n1, n2, c0, c1, c2, rfl⟩ := ha.form
  obtain ⟨B0, B1, B2, m0, m1, m2, d0, d1, d2, rfl⟩ := hb.form
  obtain ⟨ra, hra⟩ : ∃ r, a.r = r := ⟨_, rfl⟩
  obtain ⟨rb, hrb⟩ : ∃ r, b.r = r := ⟨_, rfl⟩
  rw [hra] at HVA HA1 HM HT
  rw [hrb] at HVB HA1 HA2
  rw [hra, hrb]
  simp only at HA1 HYS HOK
  clear ha hb hra hrb hl
  have z0 := four0 w (.cells #[.slice A0 n0 c0, .slice A1 n1 c1, .slice A2 n2 c2, .int .i64 ra] 36) (.cells #[.int .i64 yx, .int .i64 yy, .int .i64 yz] 23) (.cells #[.slice B0 m0 d0, .slice B1 m1 d1, .slice B2 m2 d2, .int .i64 rb] 36) (.cells #[.int .i64 0, .int .i64 0, .int .i64 0, .int .i64 0] 40)
  have z1 := four1 w (.cells #[.slice A0 n0 c0, .slice A1 n1 c1, .slice A2 n2 c2, .int .i64 ra] 36) (.cells #[.int .i64 yx, .int .i64 yy, .int .i64 yz] 23) (.cells #[.slice B0 m0 d0, .slice B1 m1 d1, .slice B2 m2 d2, .int .i64 rb] 36) (.cells #[.int .i64 0, .int .i64 0, .int .i64 0, .int .i64 0] 40)
  have z2 := four2 w (.cells #[.slice A0 n0 c0, .slice A1 n1 c1, .slice A2 n2 c2, .int .i64 ra] 36) (.cells #[.int .i64 yx, .int .i64 yy, .int .i64 yz] 23) (.cells #[.slice B0 m0 d0, .slice B1 m1 d1, .slice B2 m2 d2, .int .i64 rb] 36) (.cells #[.int .i64 0, .int .i64 0, .int .i64 0, .int .i64 0] 40)
  have z3 := four3 w (.cells #[.slice A0 n0 c0, .slice A1 n1 c1, .slice A2 n2 c2, .int .i64 ra] 36) (.cells #[.int .i64 yx, .int .i64 yy, .int .i64 yz] 23) (.cells #[.slice B0 m0 d0, .slice B1 m1 d1, .slice B2 m2 d2, .int .i64 rb] 36) (.cells #[.int .i64 0, .int .i64 0, .int .i64 0, .int .i64 0] 40)
  have zb := below_alloc4 w (.cells #[.slice A0 n0 c0, .slice A1 n1 c1, .slice A2 n2 c2, .int .i64 ra] 36) (.cells #[.int .i64 yx, .int .i64 yy, .int .i64 yz] 23) (.cells #[.slice B0 m0 d0, .slice B1 m1 d1, .slice B2 m2 d2, .int .i64 rb] 36) (.cells #[.int .i64 0, .int .i64 0, .int .i64 0, .int .i64 0] 40)
  go_enter Try.func34, Try.ntmps34
  go_wp2_with fail
  obtain ⟨w1, hw1⟩ : ∃ V, (((w.alloc (.cells #[.slice A0 n0 c0, .slice A1 n1 c1, .slice A2 n2 c2, .int .i64 ra] 36)).alloc (.cells #[.int .i64 yx, .int .i64 yy, .int .i64 yz] 23)).alloc (.cells #[.slice B0 m0 d0, .slice B1 m1 d1, .slice B2 m2 d2, .int .i64 rb] 36)).alloc (.cells #[.int .i64 0, .int .i64 0, .int .i64 0, .int .i64 0] 40) = V := ⟨_, rfl⟩
  rw [hw1] at z0 z1 z2 z3 zb ⊢
  clear hw1
  with_reducible refine (HA1.out w1 (HVA.out.below zb) (HVB.out.below zb)).mono ?_
  rintro en w2 ⟨rfl, hb⟩
  go_upto_region 2 with fail
  have Z0 := (hb.block _ (blk_lt z0)).trans z0
  have Z1 := (hb.block _ (blk_lt z1)).trans z1
  have Z2 := (hb.block _ (blk_lt z2)).trans z2
  have Z3 := (hb.block _ (blk_lt z3)).trans z3
  have ZB := bthen zb hb
  have hs2 : w.heap.size + 3 < w2.heap.size := blk_lt Z3
  clear zb z0 z1 z2 z3 hb HA1
  have ab := (Below.refl _ w2).alloc (Nat.le_refl _) (.cells #[.int .i64 Xx, .int .i64 Xy, .int .i64 Xz, .int .i64 Xg] 40)
  have HX := Lh (heap_alloc_new w2 (.cells #[.int .i64 Xx, .int .i64 Xy, .int .i64 Xz, .int .i64 Xg] 40))
  have Z0 := Lh ((ab.block _ (blk_lt Z0)).trans Z0)
  have Z1 := Lh ((ab.block _ (blk_lt Z1)).trans Z1)
  have Z2 := Lh ((ab.block _ (blk_lt Z2)).trans Z2)
  have Z3 := Lh ((ab.block _ (blk_lt Z3)).trans Z3)
  have ZB := Lh (bthen ZB ab)
  have HB3 := Lh ab
  obtain ⟨w3, hw3⟩ : ∃ V, w2.alloc (.cells #[.int .i64 Xx, .int .i64 Xy, .int .i64 Xz, .int .i64 Xg] 40) = V := ⟨_, rfl⟩
  obtain ⟨XB, hXB⟩ : ∃ n, w2.heap.size = n := ⟨_, rfl⟩
  rw [hw3] at HX Z0 Z1 Z2 Z3 ZB HB3 ⊢
  rw [hXB] at HX hs2 HB3 ⊢
  have hw3' := Lh hw3
  have hXB' := Lh hXB
  clear ab hw3 hXB
  cases Xo with
  | false =>
    have x0 : w3.cell? ⟨w.heap.size, 0, none⟩ = some (.slice A0 n0 c0) := (blk_cell Z0.out 0).trans rfl
    have x1 : w3.cell? ⟨w.heap.size, 1, none⟩ = some (.slice A1 n1 c1) := (blk_cell Z0.out 1).trans rfl
    have x2 : w3.cell? ⟨w.heap.size, 2, none⟩ = some (.slice A2 n2 c2) := (blk_cell Z0.out 2).trans rfl
    have x3 : w3.cell? ⟨w.heap.size, 3, none⟩ = some (.int .i64 ra) := (blk_cell Z0.out 3).trans rfl
    have xl : w.heap.size < w3.heap.size := blk_lt Z0.out
    have y0 : w3.cell? ⟨w.heap.size + 1, 0, none⟩ = some (.int .i64 yx) := (blk_cell Z1.out 0).trans rfl
    have y1 : w3.cell? ⟨w.heap.size + 1, 1, none⟩ = some (.int .i64 yy) := (blk_cell Z1.out 1).trans rfl
    have y2 : w3.cell? ⟨w.heap.size + 1, 2, none⟩ = some (.int .i64 yz) := (blk_cell Z1.out 2).trans rfl
    have yl : w.heap.size + 1 < w3.heap.size := blk_lt Z1.out
    have z0 : w3.cell? ⟨w.heap.size + 2, 0, none⟩ = some (.slice B0 m0 d0) := (blk_cell Z2.out 0).trans rfl
    have z1 : w3.cell? ⟨w.heap.size + 2, 1, none⟩ = some (.slice B1 m1 d1) := (blk_cell Z2.out 1).trans rfl
    have z2 : w3.cell? ⟨w.heap.size + 2, 2, none⟩ = some (.slice B2 m2 d2) := (blk_cell Z2.out 2).trans rfl
    have z3 : w3.cell? ⟨w.heap.size + 2, 3, none⟩ = some (.int .i64 rb) := (blk_cell Z2.out 3).trans rfl
    have zl : w.heap.size + 2 < w3.heap.size := blk_lt Z2.out
    have HR := Lh (HNO.out (HOK.out.trans rfl))
    clear HNO HYS HGO HSTOP HNEG HZ HA2 HT HM
    have r0 : w3.cell? ⟨w.heap.size + 3, 0, none⟩ = some (.int .i64 0) := (blk_cell Z3.out 0).trans rfl
    have f0 : w3.frozen? ⟨w.heap.size + 3, 0, none⟩ = false := blk_frozen Z3.out 0
    have r1 : w3.cell? ⟨w.heap.size + 3, 1, none⟩ = some (.int .i64 0) := (blk_cell Z3.out 1).trans rfl
    have f1 : w3.frozen? ⟨w.heap.size + 3, 1, none⟩ = false := blk_frozen Z3.out 1
    have r2 : w3.cell? ⟨w.heap.size + 3, 2, none⟩ = some (.int .i64 0) := (blk_cell Z3.out 2).trans rfl
    have f2 : w3.frozen? ⟨w.heap.size + 3, 2, none⟩ = false := blk_frozen Z3.out 2
    have r3 : w3.cell? ⟨w.heap.size + 3, 3, none⟩ = some (.int .i64 0) := (blk_cell Z3.out 3).trans rfl
    have f3 : w3.frozen? ⟨w.heap.size + 3, 3, none⟩ = false := blk_frozen Z3.out 3
    obtain ⟨V, hV⟩ : ∃ V, set4 w3 (w.heap.size + 1 + 1 + 1) (.int .i64 0) (.int .i64 0) (.int .i64 0) (.int .i64 0) = V := ⟨_, rfl⟩
    have HV : V.heap[w.heap.size + 3]? = some (.cells #[.int .i64 0, .int .i64 0, .int .i64 0, .int .i64 0] 40 (0, 0)) := by rw [← hV]; exact blk4_set Z3.out _ _ _ _
    have HBV : Below w.heap.size w V := by rw [← hV]; exact below_set4 ZB.out (by omega) _ _ _ _
    have t0 : V.cell? ⟨w.heap.size + 1 + 1 + 1, 0, none⟩ = some (.int .i64 0) := (blk_cell HV 0).trans rfl
    have t1 : V.cell? ⟨w.heap.size + 1 + 1 + 1, 1, none⟩ = some (.int .i64 0) := (blk_cell HV 1).trans rfl
    have t2 : V.cell? ⟨w.heap.size + 1 + 1 + 1, 2, none⟩ = some (.int .i64 0) := (blk_cell HV 2).trans rfl
    have t3 : V.cell? ⟨w.heap.size + 1 + 1 + 1, 3, none⟩ = some (.int .i64 0) := (blk_cell HV 3).trans rfl
    go_wp2
    (try rw [hV])
    exact bodyPost_ret (v := .tuple #[.int .i64 0, .agg #[.int .i64 0, .int .i64 0, .int .i64 0, .int .i64 0], .bool false]) (by simp [results, Try.results34, go_sem, t0, t1, t2, t3]) rfl ⟨by rw [HR.out]; rfl, HBV⟩
  | true =>
    have x0 : w3.cell? ⟨w.heap.size, 0, none⟩ = some (.slice A0 n0 c0) := (blk_cell Z0.out 0).trans rfl
    have x1 : w3.cell? ⟨w.heap.size, 1, none⟩ = some (.slice A1 n1 c1) := (blk_cell Z0.out 1).trans rfl
    have x2 : w3.cell? ⟨w.heap.size, 2, none⟩ = some (.slice A2 n2 c2) := (blk_cell Z0.out 2).trans rfl
    have x3 : w3.cell? ⟨w.heap.size, 3, none⟩ = some (.int .i64 ra) := (blk_cell Z0.out 3).trans rfl
    have xl : w.heap.size < w3.heap.size := blk_lt Z0.out
    have y0 : w3.cell? ⟨w.heap.size + 1, 0, none⟩ = some (.int .i64 yx) := (blk_cell Z1.out 0).trans rfl
    have y1 : w3.cell? ⟨w.heap.size + 1, 1, none⟩ = some (.int .i64 yy) := (blk_cell Z1.out 1).trans rfl
    have y2 : w3.cell? ⟨w.heap.size + 1, 2, none⟩ = some (.int .i64 yz) := (blk_cell Z1.out 2).trans rfl
    have yl : w.heap.size + 1 < w3.heap.size := blk_lt Z1.out
    have z0 : w3.cell? ⟨w.heap.size + 2, 0, none⟩ = some (.slice B0 m0 d0) := (blk_cell Z2.out 0).trans rfl
    have z1 : w3.cell? ⟨w.heap.size + 2, 1, none⟩ = some (.slice B1 m1 d1) := (blk_cell Z2.out 1).trans rfl
    have z2 : w3.cell? ⟨w.heap.size + 2, 2, none⟩ = some (.slice B2 m2 d2) := (blk_cell Z2.out 2).trans rfl
    have z3 : w3.cell? ⟨w.heap.size + 2, 3, none⟩ = some (.int .i64 rb) := (blk_cell Z2.out 3).trans rfl
    have zl : w.heap.size + 2 < w3.heap.size := blk_lt Z2.out
    go_wp2_with fail
    (try rw [hw3'.out])
    with_reducible refine (HM.out w3 (HVA.out.below ZB.out)).mono ?_
    rintro en w4 ⟨rfl, hb⟩
    (try rw [hXB'.out])
    have Z0 := Lh ((hb.block _ (blk_lt Z0.out)).trans Z0.out)
    have Z1 := Lh ((hb.block _ (blk_lt Z1.out)).trans Z1.out)
    have Z2 := Lh ((hb.block _ (blk_lt Z2.out)).trans Z2.out)
    have Z3 := Lh ((hb.block _ (blk_lt Z3.out)).trans Z3.out)
    have HX := Lh ((hb.block _ (blk_lt HX.out)).trans HX.out)
    have ZB := Lh (bthen ZB.out hb)
    clear hb x0 x1 x2 x3 xl y0 y1 y2 yl z0 z1 z2 z3 zl HB3
    cases S with
    | false =>
      have HR := Lh (HNO.out (HOK.out.trans rfl))
      clear HNO HYS HGO HSTOP HNEG HZ HA2 HT HM
      have r0 : w4.cell? ⟨w.heap.size + 3, 0, none⟩ = some (.int .i64 0) := (blk_cell Z3.out 0).trans rfl
      have f0 : w4.frozen? ⟨w.heap.size + 3, 0, none⟩ = false := blk_frozen Z3.out 0
      have r1 : w4.cell? ⟨w.heap.size + 3, 1, none⟩ = some (.int .i64 0) := (blk_cell Z3.out 1).trans rfl
      have f1 : w4.frozen? ⟨w.heap.size + 3, 1, none⟩ = false := blk_frozen Z3.out 1
      have r2 : w4.cell? ⟨w.heap.size + 3, 2, none⟩ = some (.int .i64 0) := (blk_cell Z3.out 2).trans rfl
      have f2 : w4.frozen? ⟨w.heap.size + 3, 2, none⟩ = false := blk_frozen Z3.out 2
      have r3 : w4.cell? ⟨w.heap.size + 3, 3, none⟩ = some (.int .i64 0) := (blk_cell Z3.out 3).trans rfl
      have f3 : w4.frozen? ⟨w.heap.size + 3, 3, none⟩ = false := blk_frozen Z3.out 3
      obtain ⟨V, hV⟩ : ∃ V, set4 w4 (w.heap.size + 1 + 1 + 1) (.int .i64 0) (.int .i64 0) (.int .i64 0) (.int .i64 0) = V := ⟨_, rfl⟩
      have HV : V.heap[w.heap.size + 3]? = some (.cells #[.int .i64 0, .int .i64 0, .int .i64 0, .int .i64 0] 40 (0, 0)) := by rw [← hV]; exact blk4_set Z3.out _ _ _ _
      have HBV : Below w.heap.size w V := by rw [← hV]; exact below_set4 ZB.out (by omega) _ _ _ _
      have t0 : V.cell? ⟨w.heap.size + 1 + 1 + 1, 0, none⟩ = some (.int .i64 0) := (blk_cell HV 0).trans rfl
      have t1 : V.cell? ⟨w.heap.size + 1 + 1 + 1, 1, none⟩ = some (.int .i64 0) := (blk_cell HV 1).trans rfl
      have t2 : V.cell? ⟨w.heap.size + 1 + 1 + 1, 2, none⟩ = some (.int .i64 0) := (blk_cell HV 2).trans rfl
      have t3 : V.cell? ⟨w.heap.size + 1 + 1 + 1, 3, none⟩ = some (.int .i64 0) := (blk_cell HV 3).trans rfl
      go_wp2
      (try rw [hV])
      exact bodyPost_ret (v := .tuple #[.int .i64 0, .agg #[.int .i64 0, .int .i64 0, .int .i64 0, .int .i64 0], .bool false]) (by simp [results, Try.results34, go_sem, t0, t1, t2, t3]) rfl ⟨by rw [HR.out]; rfl, HBV⟩
    | true =>
      have x0 : w4.cell? ⟨w.heap.size, 0, none⟩ = some (.slice A0 n0 c0) := (blk_cell Z0.out 0).trans rfl
      have x1 : w4.cell? ⟨w.heap.size, 1, none⟩ = some (.slice A1 n1 c1) := (blk_cell Z0.out 1).trans rfl
      have x2 : w4.cell? ⟨w.heap.size, 2, none⟩ = some (.slice A2 n2 c2) := (blk_cell Z0.out 2).trans rfl
      have x3 : w4.cell? ⟨w.heap.size, 3, none⟩ = some (.int .i64 ra) := (blk_cell Z0.out 3).trans rfl
      have xl : w.heap.size < w4.heap.size := blk_lt Z0.out
      have y0 : w4.cell? ⟨w.heap.size + 1, 0, none⟩ = some (.int .i64 yx) := (blk_cell Z1.out 0).trans rfl
      have y1 : w4.cell? ⟨w.heap.size + 1, 1, none⟩ = some (.int .i64 yy) := (blk_cell Z1.out 1).trans rfl
      have y2 : w4.cell? ⟨w.heap.size + 1, 2, none⟩ = some (.int .i64 yz) := (blk_cell Z1.out 2).trans rfl
      have yl : w.heap.size + 1 < w4.heap.size := blk_lt Z1.out
      have z0 : w4.cell? ⟨w.heap.size + 2, 0, none⟩ = some (.slice B0 m0 d0) := (blk_cell Z2.out 0).trans rfl
      have z1 : w4.cell? ⟨w.heap.size + 2, 1, none⟩ = some (.slice B1 m1 d1) := (blk_cell Z2.out 1).trans rfl
      have z2 : w4.cell? ⟨w.heap.size + 2, 2, none⟩ = some (.slice B2 m2 d2) := (blk_cell Z2.out 2).trans rfl
      have z3 : w4.cell? ⟨w.heap.size + 2, 3, none⟩ = some (.int .i64 rb) := (blk_cell Z2.out 3).trans rfl
      have zl : w.heap.size + 2 < w4.heap.size := blk_lt Z2.out
      go_wp2_with fail
      have HTT := Lh (fun W h => HT.out W 16 h)
      have HAP := Lh (HA2.out 16)
      have HOK2 := HOK
      obtain ⟨TT, hTT⟩ : ∃ t, TR 16 = t := ⟨_, rfl⟩
      rw [hTT] at HTT HAP HOK2
      obtain ⟨Y, hY⟩ : ∃ t, AP TT = t := ⟨_, rfl⟩
      rw [hY] at HAP HOK2
      obtain ⟨⟨⟨Yx, Yy, Yz⟩, Yg⟩, Yo⟩ := Y
      simp only at HAP HOK2
      clear hTT hY
      have HB := Lh ((Below.refl (w4.heap.size) w4).drew)
      have FF := Lh (show ∀ V, Hid (Below (w4.heap.size) w4 V) → V.cell? ⟨w.heap.size, 0, none⟩ = some (.slice A0 n0 c0) ∧ V.cell? ⟨w.heap.size, 1, none⟩ = some (.slice A1 n1 c1) ∧ V.cell? ⟨w.heap.size, 2, none⟩ = some (.slice A2 n2 c2) ∧ V.cell? ⟨w.heap.size, 3, none⟩ = some (.int .i64 ra) ∧ V.cell? ⟨w.heap.size + 1, 0, none⟩ = some (.int .i64 yx) ∧ V.cell? ⟨w.heap.size + 1, 1, none⟩ = some (.int .i64 yy) ∧ V.cell? ⟨w.heap.size + 1, 2, none⟩ = some (.int .i64 yz) ∧ V.cell? ⟨w.heap.size + 2, 0, none⟩ = some (.slice B0 m0 d0) ∧ V.cell? ⟨w.heap.size + 2, 1, none⟩ = some (.slice B1 m1 d1) ∧ V.cell? ⟨w.heap.size + 2, 2, none⟩ = some (.slice B2 m2 d2) ∧ V.cell? ⟨w.heap.size + 2, 3, none⟩ = some (.int .i64 rb) from fun V HB => ⟨(HB.out.cell (p := ⟨w.heap.size, 0, none⟩) (xl)).trans x0, (HB.out.cell (p := ⟨w.heap.size, 1, none⟩) (xl)).trans x1, (HB.out.cell (p := ⟨w.heap.size, 2, none⟩) (xl)).trans x2, (HB.out.cell (p := ⟨w.heap.size, 3, none⟩) (xl)).trans x3, (HB.out.cell (p := ⟨w.heap.size + 1, 0, none⟩) (yl)).trans y0, (HB.out.cell (p := ⟨w.heap.size + 1, 1, none⟩) (yl)).trans y1, (HB.out.cell (p := ⟨w.heap.size + 1, 2, none⟩) (yl)).trans y2, (HB.out.cell (p := ⟨w.heap.size + 2, 0, none⟩) (zl)).trans z0, (HB.out.cell (p := ⟨w.heap.size + 2, 1, none⟩) (zl)).trans z1, (HB.out.cell (p := ⟨w.heap.size + 2, 2, none⟩) (zl)).trans z2, (HB.out.cell (p := ⟨w.heap.size + 2, 3, none⟩) (zl)).trans z3⟩)
      refine start_ (n := 11) (S := fun w' => w'.cell? ⟨w.heap.size, 0, none⟩ = some (.slice A0 n0 c0) ∧ w'.cell? ⟨w.heap.size, 1, none⟩ = some (.slice A1 n1 c1) ∧ w'.cell? ⟨w.heap.size, 2, none⟩ = some (.slice A2 n2 c2) ∧ w'.cell? ⟨w.heap.size, 3, none⟩ = some (.int .i64 ra) ∧ w'.cell? ⟨w.heap.size + 1, 0, none⟩ = some (.int .i64 yx) ∧ w'.cell? ⟨w.heap.size + 1, 1, none⟩ = some (.int .i64 yy) ∧ w'.cell? ⟨w.heap.size + 1, 2, none⟩ = some (.int .i64 yz) ∧ w'.cell? ⟨w.heap.size + 2, 0, none⟩ = some (.slice B0 m0 d0) ∧ w'.cell? ⟨w.heap.size + 2, 1, none⟩ = some (.slice B1 m1 d1) ∧ w'.cell? ⟨w.heap.size + 2, 2, none⟩ = some (.slice B2 m2 d2) ∧ w'.cell? ⟨w.heap.size + 2, 3, none⟩ = some (.int .i64 rb)) (ds := []) (MT 0 11) (by kernel_rfl) rfl rfl (FF.out _ HB) (fun hHeld => ?_)
      obtain ⟨wd, hwd⟩ : ∃ x, w4.drew = x := ⟨_, rfl⟩
      rw [hwd] at HB hHeld ⊢
      clear hwd
      refine ta_ 0 32 hHeld (h := ?_)
      refine ta_ 1 33 hHeld (h := ?_)
      refine ta_ 3 35 hHeld (h := ?_)
      refine join_ (σ := Nat × Value) 2 (MT 9 2) (fun s => [(11, .pointer (some ⟨s.1, 0, none⟩)), (34, s.2), (36, .tuple #[.agg #[.int .i64 Yx, .int .i64 Yy, .int .i64 Yz, .int .i64 Yg], .bool Yo]), (31, .tuple #[.agg #[.int .i64 Yx, .int .i64 Yy, .int .i64 Yz, .int .i64 Yg], .bool Yo]), (37, .agg #[.int .i64 Yx, .int .i64 Yy, .int .i64 Yz, .int .i64 Yg]), (38, .bool Yo)]) (fun (s : Nat × Value) w' => match s with | (s1, s2) => w4.heap.size ≤ s1 ∧ w'.heap[s1]? = some (.cells #[.int .i64 0, .int .i64 0, .int .i64 0, .int .i64 0] 40 (0, 0)) ∧ Below (w4.heap.size) w4 w' ∧ CrV w' s2 TT) ?_ ?_
      rotate_left
      · intro hCont
        refine two_ (i := 2) (j := 8) (Ni := some 34) (Nj := some 11) (MT 4 7) #[true, true, false, true, false, false, false, false, true, false, false] rfl rfl rfl rfl (by kernel_rfl) (by decide) (by decide) (fun K hK => ?_) (fun K hK => ?_)
        · skip
          refine gs_ Try.func37 #[.agg #[.slice A0 n0 c0, .slice A1 n1 c1, .slice A2 n2 c2, .int .i64 ra], aP ⟨yx, yy, yz⟩, .int .i64 16] ?_
          with_reducible refine (HTT.out _ (HVA.out.below (bthen ZB.out HB.out))).mono ?_
          rintro en w7 ⟨u7, rfl, hv, hb⟩
          have HB := Lh (HB.out.trans (hb.mono HB.out.size))
          have HV := Lh hv
          clear hv
          clear hb
          refine ⟨_, rfl, ?_⟩
          refine hK.out _ _ (FF.out _ HB) (fun hHeld => ?_)
          clear hK K
          refine no_ (h := ?_)
          refine two_ (i := 4) (j := 8) (Ni := some 36) (Nj := some 11) (MT 5 6) #[true, true, true, true, false, false, false, false, true, false, false] rfl rfl rfl rfl (by kernel_rfl) (by decide) (by decide) (fun K hK => ?_) (fun K hK => ?_)
          · skip
            refine gs_ Try.func20 #[u7, .agg #[.slice B0 m0 d0, .slice B1 m1 d1, .slice B2 m2 d2, .int .i64 rb]] ?_
            with_reducible refine (HAP.out _ _ HV.out (HVB.out.below (bthen ZB.out HB.out))).mono ?_
            rintro en w7 ⟨rfl, hb⟩
            have HB := Lh (HB.out.trans (hb.mono HB.out.size))
            have HV := Lh (HV.out.below hb)
            clear hb
            refine ⟨_, rfl, ?_⟩
            refine hK.out _ _ (FF.out _ HB) (fun hHeld => ?_)
            clear hK K
            refine no_ (h := ?_)
            refine pu_ 5 31 (h := ?_)
            refine pu_ 6 37 (h := ?_)
            refine pu_ 7 38 (h := ?_)
            refine on_ 8 (some 11) (h := fun K hK => ?_)
            refine value_ (w1 := ?_) (v := ?_) (by rfl) rfl ?_ ?_
            rotate_left 2
            · go_simp
              constructor
              · rfl
              · rfl
            have HA := Lh (ha_new HB.out (.cells #[.int .i64 0, .int .i64 0, .int .i64 0, .int .i64 0] 40))
            have hge := HB.out.size
            have HB := Lh (HB.out.alloc (Nat.le_trans (Nat.le_refl _) HB.out.size) (.cells #[.int .i64 0, .int .i64 0, .int .i64 0, .int .i64 0] 40))
            have HV := Lh (HV.out.below ((Below.refl _ _).alloc (Nat.le_refl _) (.cells #[.int .i64 0, .int .i64 0, .int .i64 0, .int .i64 0] 40)))
            refine hK.out _ _ (FF.out _ HB) (fun hHeld => ?_)
            clear hK K
            refine no_ (h := ?_)
            exact norm_ (by simp only [putAll, Act.put, List.setIfInBounds_toArray, List.set_cons_zero, List.set_cons_succ]) (hCont (_, _) _ ⟨hge, HA.out, HB.out, HV.out⟩)
          · skip
            refine value_ (w1 := ?_) (v := ?_) (by rfl) rfl ?_ ?_
            rotate_left 2
            · go_simp
              constructor
              · rfl
              · rfl
            have HA := Lh (ha_new HB.out (.cells #[.int .i64 0, .int .i64 0, .int .i64 0, .int .i64 0] 40))
            have hge := HB.out.size
            have HB := Lh (HB.out.alloc (Nat.le_trans (Nat.le_refl _) HB.out.size) (.cells #[.int .i64 0, .int .i64 0, .int .i64 0, .int .i64 0] 40))
            have HV := Lh (HV.out.below ((Below.refl _ _).alloc (Nat.le_refl _) (.cells #[.int .i64 0, .int .i64 0, .int .i64 0, .int .i64 0] 40)))
            refine hK.out _ _ (FF.out _ HB) (fun hHeld => ?_)
            clear hK K
            refine no_ (h := ?_)
            refine on_ 4 (some 36) (h := fun K hK => ?_)
            refine gs_ Try.func20 #[u7, .agg #[.slice B0 m0 d0, .slice B1 m1 d1, .slice B2 m2 d2, .int .i64 rb]] ?_
            with_reducible refine (HAP.out _ _ HV.out (HVB.out.below (bthen ZB.out HB.out))).mono ?_
            rintro en w7 ⟨rfl, hb⟩
            have HB := Lh (HB.out.trans (hb.mono HB.out.size))
            have HA := Lh ((hb.block _ (blk_lt HA.out)).trans HA.out)
            have HV := Lh (HV.out.below hb)
            clear hb
            refine ⟨_, rfl, ?_⟩
            refine hK.out _ _ (FF.out _ HB) (fun hHeld => ?_)
            clear hK K
            refine no_ (h := ?_)
            refine pu_ 5 31 (h := ?_)
            refine pu_ 6 37 (h := ?_)
            refine pu_ 7 38 (h := ?_)
            exact norm_ (by simp only [putAll, Act.put, List.setIfInBounds_toArray, List.set_cons_zero, List.set_cons_succ]) (hCont (_, _) _ ⟨hge, HA.out, HB.out, HV.out⟩)
        · skip
          refine value_ (w1 := ?_) (v := ?_) (by rfl) rfl ?_ ?_
          rotate_left 2
          · go_simp
            constructor
            · rfl
            · rfl
          have HA := Lh (ha_new HB.out (.cells #[.int .i64 0, .int .i64 0, .int .i64 0, .int .i64 0] 40))
          have hge := HB.out.size
          have HB := Lh (HB.out.alloc (Nat.le_trans (Nat.le_refl _) HB.out.size) (.cells #[.int .i64 0, .int .i64 0, .int .i64 0, .int .i64 0] 40))
          refine hK.out _ _ (FF.out _ HB) (fun hHeld => ?_)
          clear hK K
          refine no_ (h := ?_)
          refine on_ 2 (some 34) (h := fun K hK => ?_)
          refine gs_ Try.func37 #[.agg #[.slice A0 n0 c0, .slice A1 n1 c1, .slice A2 n2 c2, .int .i64 ra], aP ⟨yx, yy, yz⟩, .int .i64 16] ?_
          with_reducible refine (HTT.out _ (HVA.out.below (bthen ZB.out HB.out))).mono ?_
          rintro en w7 ⟨u7, rfl, hv, hb⟩
          have HB := Lh (HB.out.trans (hb.mono HB.out.size))
          have HA := Lh ((hb.block _ (blk_lt HA.out)).trans HA.out)
          have HV := Lh hv
          clear hv
          clear hb
          refine ⟨_, rfl, ?_⟩
          refine hK.out _ _ (FF.out _ HB) (fun hHeld => ?_)
          clear hK K
          refine no_ (h := ?_)
          refine on_ 4 (some 36) (h := fun K hK => ?_)
          refine gs_ Try.func20 #[u7, .agg #[.slice B0 m0 d0, .slice B1 m1 d1, .slice B2 m2 d2, .int .i64 rb]] ?_
          with_reducible refine (HAP.out _ _ HV.out (HVB.out.below (bthen ZB.out HB.out))).mono ?_
          rintro en w7 ⟨rfl, hb⟩
          have HB := Lh (HB.out.trans (hb.mono HB.out.size))
          have HA := Lh ((hb.block _ (blk_lt HA.out)).trans HA.out)
          have HV := Lh (HV.out.below hb)
          clear hb
          refine ⟨_, rfl, ?_⟩
          refine hK.out _ _ (FF.out _ HB) (fun hHeld => ?_)
          clear hK K
          refine no_ (h := ?_)
          refine pu_ 5 31 (h := ?_)
          refine pu_ 6 37 (h := ?_)
          refine pu_ 7 38 (h := ?_)
          exact norm_ (by simp only [putAll, Act.put, List.setIfInBounds_toArray, List.set_cons_zero, List.set_cons_succ]) (hCont (_, _) _ ⟨hge, HA.out, HB.out, HV.out⟩)
      rintro ⟨AB, V⟩ wj ⟨hge, HA, HB, HV⟩
      have HA := Lh HA
      have HB := Lh HB
      (try simp only at hge HA HB HV)
      have HV := Lh HV
      have hHeld := FF.out _ HB
      refine no_ (h := ?_)
      refine on_ 9 (none) (h := fun K hK => ?_)
      have sc0 : World.cell? _ ⟨AB, 0, none⟩ = some (.int .i64 0) := (blk_cell HA.out 0).trans rfl
      have sf0 := blk_frozen HA.out 0
      have sc1 : World.cell? _ ⟨AB, 1, none⟩ = some (.int .i64 0) := (blk_cell HA.out 1).trans rfl
      have sf1 := blk_frozen HA.out 1
      have sc2 : World.cell? _ ⟨AB, 2, none⟩ = some (.int .i64 0) := (blk_cell HA.out 2).trans rfl
      have sf2 := blk_frozen HA.out 2
      have sc3 : World.cell? _ ⟨AB, 3, none⟩ = some (.int .i64 0) := (blk_cell HA.out 3).trans rfl
      have sf3 := blk_frozen HA.out 3
      refine skip_ (w1 := ?_) (by rfl) rfl ?_ ?_
      rotate_left
      · go_simp
        rfl
      have HA := Lh (bs4 HA.out (.int .i64 Yx) (.int .i64 Yy) (.int .i64 Yz) (.int .i64 Yg))
      have HB := Lh (bb4 HB.out (Nat.le_trans (Nat.le_refl _) hge) (.int .i64 Yx) (.int .i64 Yy) (.int .i64 Yz) (.int .i64 Yg))
      clear sc0 sf0 sc1 sf1 sc2 sf2 sc3 sf3
      refine hK.out _ _ (FF.out _ HB) (fun hHeld => ?_)
      clear hK K
      refine pu_ 10 12 (h := ?_)
      refine done_ (by kernel_rfl) ?_
      obtain ⟨w5, hwn⟩ : ∃ V, ((((wj.setCell ⟨AB, 0, none⟩ (.int .i64 Yx)).setCell ⟨AB, 1, none⟩ (.int .i64 Yy)).setCell ⟨AB, 2, none⟩ (.int .i64 Yz)).setCell ⟨AB, 3, none⟩ (.int .i64 Yg)) = V := ⟨_, rfl⟩
      rw [hwn] at HA HB ⊢
      clear hwn
      have Z0 := Lh ((HB.out.block _ (blk_lt Z0.out)).trans Z0.out)
      have Z1 := Lh ((HB.out.block _ (blk_lt Z1.out)).trans Z1.out)
      have Z2 := Lh ((HB.out.block _ (blk_lt Z2.out)).trans Z2.out)
      have Z3 := Lh ((HB.out.block _ (blk_lt Z3.out)).trans Z3.out)
      have HX := Lh ((HB.out.block _ (blk_lt HX.out)).trans HX.out)
      have ZB := Lh (bthen ZB.out HB.out)
      clear HA HB hge HV hHeld HTT HAP x0 x1 x2 x3 xl y0 y1 y2 yl z0 z1 z2 z3 zl
      cases Yo with
      | false =>
        have HR := Lh (HNO.out (HOK2.out.trans rfl))
        clear HNO HYS HGO HSTOP HNEG HZ HA2 HT HM
        have r0 : w5.cell? ⟨w.heap.size + 3, 0, none⟩ = some (.int .i64 0) := (blk_cell Z3.out 0).trans rfl
        have f0 : w5.frozen? ⟨w.heap.size + 3, 0, none⟩ = false := blk_frozen Z3.out 0
        have r1 : w5.cell? ⟨w.heap.size + 3, 1, none⟩ = some (.int .i64 0) := (blk_cell Z3.out 1).trans rfl
        have f1 : w5.frozen? ⟨w.heap.size + 3, 1, none⟩ = false := blk_frozen Z3.out 1
        have r2 : w5.cell? ⟨w.heap.size + 3, 2, none⟩ = some (.int .i64 0) := (blk_cell Z3.out 2).trans rfl
        have f2 : w5.frozen? ⟨w.heap.size + 3, 2, none⟩ = false := blk_frozen Z3.out 2
        have r3 : w5.cell? ⟨w.heap.size + 3, 3, none⟩ = some (.int .i64 0) := (blk_cell Z3.out 3).trans rfl
        have f3 : w5.frozen? ⟨w.heap.size + 3, 3, none⟩ = false := blk_frozen Z3.out 3
        obtain ⟨V, hV⟩ : ∃ V, set4 w5 (w.heap.size + 1 + 1 + 1) (.int .i64 0) (.int .i64 0) (.int .i64 0) (.int .i64 0) = V := ⟨_, rfl⟩
        have HV : V.heap[w.heap.size + 3]? = some (.cells #[.int .i64 0, .int .i64 0, .int .i64 0, .int .i64 0] 40 (0, 0)) := by rw [← hV]; exact blk4_set Z3.out _ _ _ _
        have HBV : Below w.heap.size w V := by rw [← hV]; exact below_set4 ZB.out (by omega) _ _ _ _
        have t0 : V.cell? ⟨w.heap.size + 1 + 1 + 1, 0, none⟩ = some (.int .i64 0) := (blk_cell HV 0).trans rfl
        have t1 : V.cell? ⟨w.heap.size + 1 + 1 + 1, 1, none⟩ = some (.int .i64 0) := (blk_cell HV 1).trans rfl
        have t2 : V.cell? ⟨w.heap.size + 1 + 1 + 1, 2, none⟩ = some (.int .i64 0) := (blk_cell HV 2).trans rfl
        have t3 : V.cell? ⟨w.heap.size + 1 + 1 + 1, 3, none⟩ = some (.int .i64 0) := (blk_cell HV 3).trans rfl
        go_wp2
        (try rw [hV])
        exact bodyPost_ret (v := .tuple #[.int .i64 0, .agg #[.int .i64 0, .int .i64 0, .int .i64 0, .int .i64 0], .bool false]) (by simp [results, Try.results34, go_sem, t0, t1, t2, t3]) rfl ⟨by rw [HR.out]; rfl, HBV⟩
      | true =>
        have HYS2 := Lh (HYS.out (HOK2.out.trans rfl))
        clear HNO HYS HOK HOK2 HM
        go_wp2_with fail
        go_loopw [13, 14, 15] (fun v13 v14 v15 wr => ∃ (k : Nat) (X : P3 × Int), k ≤ 16 ∧ v13 = .int .i64 k ∧ Hid (CL (16 - k) k X = CL 16 0 (⟨Xx, Xy, Xz⟩, Xg)) ∧ Hid (wr.heap[XB]? = some (.cells #[.int .i64 X.1.x, .int .i64 X.1.y, .int .i64 X.1.z, .int .i64 X.2] 40 (0, 0))) ∧ Hid (Below XB w5 wr)) (fun v13 _ _ _ => 16 - (intOf v13).toNat)
        case atStart => exact ⟨0, _, by omega, rfl, Lh rfl, HX, Lh (Below.refl _ _)⟩
        case round =>
          obtain ⟨k, X, hk, rfl, hC, hX, hB⟩ := hrel
          clear HX
          obtain ⟨wq, hwq⟩ : ∃ x : World, x = wr := ⟨_, rfl⟩
          subst hwq
          obtain ⟨⟨Px, Py, Pz⟩, Pg⟩ := X
          simp only at hX
          have hX := Lh hX.out
          have hs5 : w5.heap.size ≤ wq.heap.size := hB.out.size
          have Z0 := Lh ((hB.out.block _ (show w.heap.size < XB by omega)).trans Z0.out)
          have Z1 := Lh ((hB.out.block _ (show w.heap.size + 1 < XB by omega)).trans Z1.out)
          have Z2 := Lh ((hB.out.block _ (show w.heap.size + 2 < XB by omega)).trans Z2.out)
          have Z3 := Lh ((hB.out.block _ (show w.heap.size + 3 < XB by omega)).trans Z3.out)
          have ZB := Lh (ZB.out.trans (hB.out.mono (show w.heap.size ≤ XB by omega)))
          have p3 : wq.cell? ⟨XB, 3, none⟩ = some (.int .i64 Pg) := (blk_cell hX.out 3).trans rfl
          have pl : XB < wq.heap.size := blk_lt hX.out
          by_cases t1 : 0 ≤ Pg
          · have e1 : decide (0 ≤ Pg) = true := decide_eq_true t1
            by_cases t2 : (k : Int) < 16
            · have e2 : decide ((k : Int) < 16) = true := decide_eq_true t2
              have hwk : wrap64 ((k : Int) + 1) = (k : Int) + 1 := by unfold wrap64; omega
              have HK := Lh hwk
              have HTT := Lh (fun W h => HT.out W ((k : Int) + 1) h)
              rw [← hwk] at HTT
              have HAP := Lh (HA2.out ((k : Int) + 1))
              have HG := Lh (HGO.out (15 - k) k ((⟨Px, Py, Pz⟩, Pg) : P3 × Int))
              have HS := Lh (HSTOP.out (15 - k) k ((⟨Px, Py, Pz⟩, Pg) : P3 × Int))
              obtain ⟨TT, hTT⟩ : ∃ t, TR ((k : Int) + 1) = t := ⟨_, rfl⟩
              rw [hwk] at HTT
              rw [hTT] at HTT HAP HG HS
              obtain ⟨Y, hY⟩ : ∃ t, AP TT = t := ⟨_, rfl⟩
              rw [hY] at HAP HG HS
              obtain ⟨⟨⟨Yx, Yy, Yz⟩, Yg⟩, Yo⟩ := Y
              simp only at HAP HG HS
              have HTT := Lh (show ∀ W, CrV W (.agg #[.slice A0 n0 c0, .slice A1 n1 c1, .slice A2 n2 c2, .int .i64 ra]) a → Calls Try.prog 37 #[.agg #[.slice A0 n0 c0, .slice A1 n1 c1, .slice A2 n2 c2, .int .i64 ra], aP ⟨yx, yy, yz⟩, .int .i64 (wrap64 ((k : Int) + 1))] W (TrailPost TT W) from by rw [hwk]; exact HTT.out)
              have HE : Hid (16 - k = (15 - k) + 1 ∧ 15 - k = 16 - (k + 1)) := Lh (by omega)
              rw [HE.out.1] at hC
              have hk16 : k < 16 := by omega
              have hP0 : 0 ≤ Pg := t1
              clear hTT hY t1 t2 hwk
              have x0 : wq.cell? ⟨w.heap.size, 0, none⟩ = some (.slice A0 n0 c0) := (blk_cell Z0.out 0).trans rfl
              have x1 : wq.cell? ⟨w.heap.size, 1, none⟩ = some (.slice A1 n1 c1) := (blk_cell Z0.out 1).trans rfl
              have x2 : wq.cell? ⟨w.heap.size, 2, none⟩ = some (.slice A2 n2 c2) := (blk_cell Z0.out 2).trans rfl
              have x3 : wq.cell? ⟨w.heap.size, 3, none⟩ = some (.int .i64 ra) := (blk_cell Z0.out 3).trans rfl
              have xl : w.heap.size < wq.heap.size := blk_lt Z0.out
              have y0 : wq.cell? ⟨w.heap.size + 1, 0, none⟩ = some (.int .i64 yx) := (blk_cell Z1.out 0).trans rfl
              have y1 : wq.cell? ⟨w.heap.size + 1, 1, none⟩ = some (.int .i64 yy) := (blk_cell Z1.out 1).trans rfl
              have y2 : wq.cell? ⟨w.heap.size + 1, 2, none⟩ = some (.int .i64 yz) := (blk_cell Z1.out 2).trans rfl
              have yl : w.heap.size + 1 < wq.heap.size := blk_lt Z1.out
              have z0 : wq.cell? ⟨w.heap.size + 2, 0, none⟩ = some (.slice B0 m0 d0) := (blk_cell Z2.out 0).trans rfl
              have z1 : wq.cell? ⟨w.heap.size + 2, 1, none⟩ = some (.slice B1 m1 d1) := (blk_cell Z2.out 1).trans rfl
              have z2 : wq.cell? ⟨w.heap.size + 2, 2, none⟩ = some (.slice B2 m2 d2) := (blk_cell Z2.out 2).trans rfl
              have z3 : wq.cell? ⟨w.heap.size + 2, 3, none⟩ = some (.int .i64 rb) := (blk_cell Z2.out 3).trans rfl
              have zl : w.heap.size + 2 < wq.heap.size := blk_lt Z2.out
              go_wp2_with fail
              have HB := Lh ((Below.refl (wq.heap.size) wq).drew)
              have FF := Lh (show ∀ V, Hid (Below (wq.heap.size) wq V) → V.cell? ⟨w.heap.size, 0, none⟩ = some (.slice A0 n0 c0) ∧ V.cell? ⟨w.heap.size, 1, none⟩ = some (.slice A1 n1 c1) ∧ V.cell? ⟨w.heap.size, 2, none⟩ = some (.slice A2 n2 c2) ∧ V.cell? ⟨w.heap.size, 3, none⟩ = some (.int .i64 ra) ∧ V.cell? ⟨w.heap.size + 1, 0, none⟩ = some (.int .i64 yx) ∧ V.cell? ⟨w.heap.size + 1, 1, none⟩ = some (.int .i64 yy) ∧ V.cell? ⟨w.heap.size + 1, 2, none⟩ = some (.int .i64 yz) ∧ V.cell? ⟨w.heap.size + 2, 0, none⟩ = some (.slice B0 m0 d0) ∧ V.cell? ⟨w.heap.size + 2, 1, none⟩ = some (.slice B1 m1 d1) ∧ V.cell? ⟨w.heap.size + 2, 2, none⟩ = some (.slice B2 m2 d2) ∧ V.cell? ⟨w.heap.size + 2, 3, none⟩ = some (.int .i64 rb) from fun V HB => ⟨(HB.out.cell (p := ⟨w.heap.size, 0, none⟩) (xl)).trans x0, (HB.out.cell (p := ⟨w.heap.size, 1, none⟩) (xl)).trans x1, (HB.out.cell (p := ⟨w.heap.size, 2, none⟩) (xl)).trans x2, (HB.out.cell (p := ⟨w.heap.size, 3, none⟩) (xl)).trans x3, (HB.out.cell (p := ⟨w.heap.size + 1, 0, none⟩) (yl)).trans y0, (HB.out.cell (p := ⟨w.heap.size + 1, 1, none⟩) (yl)).trans y1, (HB.out.cell (p := ⟨w.heap.size + 1, 2, none⟩) (yl)).trans y2, (HB.out.cell (p := ⟨w.heap.size + 2, 0, none⟩) (zl)).trans z0, (HB.out.cell (p := ⟨w.heap.size + 2, 1, none⟩) (zl)).trans z1, (HB.out.cell (p := ⟨w.heap.size + 2, 2, none⟩) (zl)).trans z2, (HB.out.cell (p := ⟨w.heap.size + 2, 3, none⟩) (zl)).trans z3⟩)
              refine start_ (n := 13) (S := fun w' => w'.cell? ⟨w.heap.size, 0, none⟩ = some (.slice A0 n0 c0) ∧ w'.cell? ⟨w.heap.size, 1, none⟩ = some (.slice A1 n1 c1) ∧ w'.cell? ⟨w.heap.size, 2, none⟩ = some (.slice A2 n2 c2) ∧ w'.cell? ⟨w.heap.size, 3, none⟩ = some (.int .i64 ra) ∧ w'.cell? ⟨w.heap.size + 1, 0, none⟩ = some (.int .i64 yx) ∧ w'.cell? ⟨w.heap.size + 1, 1, none⟩ = some (.int .i64 yy) ∧ w'.cell? ⟨w.heap.size + 1, 2, none⟩ = some (.int .i64 yz) ∧ w'.cell? ⟨w.heap.size + 2, 0, none⟩ = some (.slice B0 m0 d0) ∧ w'.cell? ⟨w.heap.size + 2, 1, none⟩ = some (.slice B1 m1 d1) ∧ w'.cell? ⟨w.heap.size + 2, 2, none⟩ = some (.slice B2 m2 d2) ∧ w'.cell? ⟨w.heap.size + 2, 3, none⟩ = some (.int .i64 rb)) (ds := []) (MT 0 13) (by kernel_rfl) rfl rfl (FF.out _ HB) (fun hHeld => ?_)
              obtain ⟨wd, hwd⟩ : ∃ x, wq.drew = x := ⟨_, rfl⟩
              rw [hwd] at HB hHeld ⊢
              clear hwd
              refine pu_ 2 52 (h := ?_)
              refine pu_ 3 53 (h := ?_)
              refine ta_ 0 50 hHeld (h := ?_)
              refine ta_ 1 51 hHeld (h := ?_)
              refine ta_ 5 55 hHeld (h := ?_)
              refine join_ (σ := Nat × Value) 2 (MT 11 2) (fun s => [(14, .pointer (some ⟨s.1, 0, none⟩)), (54, s.2), (56, .tuple #[.agg #[.int .i64 Yx, .int .i64 Yy, .int .i64 Yz, .int .i64 Yg], .bool Yo]), (49, .tuple #[.agg #[.int .i64 Yx, .int .i64 Yy, .int .i64 Yz, .int .i64 Yg], .bool Yo]), (57, .agg #[.int .i64 Yx, .int .i64 Yy, .int .i64 Yz, .int .i64 Yg]), (58, .bool Yo)]) (fun (s : Nat × Value) w' => match s with | (s1, s2) => wq.heap.size ≤ s1 ∧ w'.heap[s1]? = some (.cells #[.int .i64 0, .int .i64 0, .int .i64 0, .int .i64 0] 40 (0, 0)) ∧ Below (wq.heap.size) wq w' ∧ CrV w' s2 TT) ?_ ?_
              rotate_left
              · intro hCont
                refine two_ (i := 4) (j := 10) (Ni := some 54) (Nj := some 14) (MT 6 7) #[true, true, true, true, false, true, false, false, false, false, true, false, false] rfl rfl rfl rfl (by kernel_rfl) (by decide) (by decide) (fun K hK => ?_) (fun K hK => ?_)
                · skip
                  refine gs_ Try.func37 #[.agg #[.slice A0 n0 c0, .slice A1 n1 c1, .slice A2 n2 c2, .int .i64 ra], aP ⟨yx, yy, yz⟩, .int .i64 (wrap64 ((k : Int) + 1))] ?_
                  with_reducible refine (HTT.out _ (HVA.out.below (bthen ZB.out HB.out))).mono ?_
                  rintro en w7 ⟨u7, rfl, hv, hb⟩
                  have HB := Lh (HB.out.trans (hb.mono HB.out.size))
                  have HV := Lh hv
                  clear hv
                  clear hb
                  refine ⟨_, rfl, ?_⟩
                  refine hK.out _ _ (FF.out _ HB) (fun hHeld => ?_)
                  clear hK K
                  refine no_ (h := ?_)
                  refine two_ (i := 6) (j := 10) (Ni := some 56) (Nj := some 14) (MT 7 6) #[true, true, true, true, true, true, false, false, false, false, true, false, false] rfl rfl rfl rfl (by kernel_rfl) (by decide) (by decide) (fun K hK => ?_) (fun K hK => ?_)
                  · skip
                    refine gs_ Try.func20 #[u7, .agg #[.slice B0 m0 d0, .slice B1 m1 d1, .slice B2 m2 d2, .int .i64 rb]] ?_
                    with_reducible refine (HAP.out _ _ HV.out (HVB.out.below (bthen ZB.out HB.out))).mono ?_
                    rintro en w7 ⟨rfl, hb⟩
                    have HB := Lh (HB.out.trans (hb.mono HB.out.size))
                    have HV := Lh (HV.out.below hb)
                    clear hb
                    refine ⟨_, rfl, ?_⟩
                    refine hK.out _ _ (FF.out _ HB) (fun hHeld => ?_)
                    clear hK K
                    refine no_ (h := ?_)
                    refine pu_ 7 49 (h := ?_)
                    refine pu_ 8 57 (h := ?_)
                    refine pu_ 9 58 (h := ?_)
                    refine on_ 10 (some 14) (h := fun K hK => ?_)
                    refine value_ (w1 := ?_) (v := ?_) (by rfl) rfl ?_ ?_
                    rotate_left 2
                    · go_simp
                      constructor
                      · rfl
                      · rfl
                    have HA := Lh (ha_new HB.out (.cells #[.int .i64 0, .int .i64 0, .int .i64 0, .int .i64 0] 40))
                    have hge := HB.out.size
                    have HB := Lh (HB.out.alloc (Nat.le_trans (Nat.le_refl _) HB.out.size) (.cells #[.int .i64 0, .int .i64 0, .int .i64 0, .int .i64 0] 40))
                    have HV := Lh (HV.out.below ((Below.refl _ _).alloc (Nat.le_refl _) (.cells #[.int .i64 0, .int .i64 0, .int .i64 0, .int .i64 0] 40)))
                    refine hK.out _ _ (FF.out _ HB) (fun hHeld => ?_)
                    clear hK K
                    refine no_ (h := ?_)
                    exact norm_ (by simp only [putAll, Act.put, List.setIfInBounds_toArray, List.set_cons_zero, List.set_cons_succ]) (hCont (_, _) _ ⟨hge, HA.out, HB.out, HV.out⟩)
                  · skip
                    refine value_ (w1 := ?_) (v := ?_) (by rfl) rfl ?_ ?_
                    rotate_left 2
                    · go_simp
                      constructor
                      · rfl
                      · rfl
                    have HA := Lh (ha_new HB.out (.cells #[.int .i64 0, .int .i64 0, .int .i64 0, .int .i64 0] 40))
                    have hge := HB.out.size
                    have HB := Lh (HB.out.alloc (Nat.le_trans (Nat.le_refl _) HB.out.size) (.cells #[.int .i64 0, .int .i64 0, .int .i64 0, .int .i64 0] 40))
                    have HV := Lh (HV.out.below ((Below.refl _ _).alloc (Nat.le_refl _) (.cells #[.int .i64 0, .int .i64 0, .int .i64 0, .int .i64 0] 40)))
                    refine hK.out _ _ (FF.out _ HB) (fun hHeld => ?_)
                    clear hK K
                    refine no_ (h := ?_)
                    refine on_ 6 (some 56) (h := fun K hK => ?_)
                    refine gs_ Try.func20 #[u7, .agg #[.slice B0 m0 d0, .slice B1 m1 d1, .slice B2 m2 d2, .int .i64 rb]] ?_
                    with_reducible refine (HAP.out _ _ HV.out (HVB.out.below (bthen ZB.out HB.out))).mono ?_
                    rintro en w7 ⟨rfl, hb⟩
                    have HB := Lh (HB.out.trans (hb.mono HB.out.size))
                    have HA := Lh ((hb.block _ (blk_lt HA.out)).trans HA.out)
                    have HV := Lh (HV.out.below hb)
                    clear hb
                    refine ⟨_, rfl, ?_⟩
                    refine hK.out _ _ (FF.out _ HB) (fun hHeld => ?_)
                    clear hK K
                    refine no_ (h := ?_)
                    refine pu_ 7 49 (h := ?_)
                    refine pu_ 8 57 (h := ?_)
                    refine pu_ 9 58 (h := ?_)
                    exact norm_ (by simp only [putAll, Act.put, List.setIfInBounds_toArray, List.set_cons_zero, List.set_cons_succ]) (hCont (_, _) _ ⟨hge, HA.out, HB.out, HV.out⟩)
                · skip
                  refine value_ (w1 := ?_) (v := ?_) (by rfl) rfl ?_ ?_
                  rotate_left 2
                  · go_simp
                    constructor
                    · rfl
                    · rfl
                  have HA := Lh (ha_new HB.out (.cells #[.int .i64 0, .int .i64 0, .int .i64 0, .int .i64 0] 40))
                  have hge := HB.out.size
                  have HB := Lh (HB.out.alloc (Nat.le_trans (Nat.le_refl _) HB.out.size) (.cells #[.int .i64 0, .int .i64 0, .int .i64 0, .int .i64 0] 40))
                  refine hK.out _ _ (FF.out _ HB) (fun hHeld => ?_)
                  clear hK K
                  refine no_ (h := ?_)
                  refine on_ 4 (some 54) (h := fun K hK => ?_)
                  refine gs_ Try.func37 #[.agg #[.slice A0 n0 c0, .slice A1 n1 c1, .slice A2 n2 c2, .int .i64 ra], aP ⟨yx, yy, yz⟩, .int .i64 (wrap64 ((k : Int) + 1))] ?_
                  with_reducible refine (HTT.out _ (HVA.out.below (bthen ZB.out HB.out))).mono ?_
                  rintro en w7 ⟨u7, rfl, hv, hb⟩
                  have HB := Lh (HB.out.trans (hb.mono HB.out.size))
                  have HA := Lh ((hb.block _ (blk_lt HA.out)).trans HA.out)
                  have HV := Lh hv
                  clear hv
                  clear hb
                  refine ⟨_, rfl, ?_⟩
                  refine hK.out _ _ (FF.out _ HB) (fun hHeld => ?_)
                  clear hK K
                  refine no_ (h := ?_)
                  refine on_ 6 (some 56) (h := fun K hK => ?_)
                  refine gs_ Try.func20 #[u7, .agg #[.slice B0 m0 d0, .slice B1 m1 d1, .slice B2 m2 d2, .int .i64 rb]] ?_
                  with_reducible refine (HAP.out _ _ HV.out (HVB.out.below (bthen ZB.out HB.out))).mono ?_
                  rintro en w7 ⟨rfl, hb⟩
                  have HB := Lh (HB.out.trans (hb.mono HB.out.size))
                  have HA := Lh ((hb.block _ (blk_lt HA.out)).trans HA.out)
                  have HV := Lh (HV.out.below hb)
                  clear hb
                  refine ⟨_, rfl, ?_⟩
                  refine hK.out _ _ (FF.out _ HB) (fun hHeld => ?_)
                  clear hK K
                  refine no_ (h := ?_)
                  refine pu_ 7 49 (h := ?_)
                  refine pu_ 8 57 (h := ?_)
                  refine pu_ 9 58 (h := ?_)
                  exact norm_ (by simp only [putAll, Act.put, List.setIfInBounds_toArray, List.set_cons_zero, List.set_cons_succ]) (hCont (_, _) _ ⟨hge, HA.out, HB.out, HV.out⟩)
              rintro ⟨AB, V⟩ wj ⟨hge, HA, HB, HV⟩
              have HA := Lh HA
              have HB := Lh HB
              (try simp only at hge HA HB HV)
              have HV := Lh HV
              have hHeld := FF.out _ HB
              refine no_ (h := ?_)
              refine on_ 11 (none) (h := fun K hK => ?_)
              have sc0 : World.cell? _ ⟨AB, 0, none⟩ = some (.int .i64 0) := (blk_cell HA.out 0).trans rfl
              have sf0 := blk_frozen HA.out 0
              have sc1 : World.cell? _ ⟨AB, 1, none⟩ = some (.int .i64 0) := (blk_cell HA.out 1).trans rfl
              have sf1 := blk_frozen HA.out 1
              have sc2 : World.cell? _ ⟨AB, 2, none⟩ = some (.int .i64 0) := (blk_cell HA.out 2).trans rfl
              have sf2 := blk_frozen HA.out 2
              have sc3 : World.cell? _ ⟨AB, 3, none⟩ = some (.int .i64 0) := (blk_cell HA.out 3).trans rfl
              have sf3 := blk_frozen HA.out 3
              refine skip_ (w1 := ?_) (by rfl) rfl ?_ ?_
              rotate_left
              · go_simp
                rfl
              have HA := Lh (bs4 HA.out (.int .i64 Yx) (.int .i64 Yy) (.int .i64 Yz) (.int .i64 Yg))
              have HB := Lh (bb4 HB.out (Nat.le_trans (Nat.le_refl _) hge) (.int .i64 Yx) (.int .i64 Yy) (.int .i64 Yz) (.int .i64 Yg))
              clear sc0 sf0 sc1 sf1 sc2 sf2 sc3 sf3
              refine hK.out _ _ (FF.out _ HB) (fun hHeld => ?_)
              clear hK K
              refine pu_ 12 15 (h := ?_)
              refine done_ (by kernel_rfl) ?_
              obtain ⟨w8, hwn⟩ : ∃ V, ((((wj.setCell ⟨AB, 0, none⟩ (.int .i64 Yx)).setCell ⟨AB, 1, none⟩ (.int .i64 Yy)).setCell ⟨AB, 2, none⟩ (.int .i64 Yz)).setCell ⟨AB, 3, none⟩ (.int .i64 Yg)) = V := ⟨_, rfl⟩
              rw [hwn] at HA HB ⊢
              clear hwn
              have Z3 := Lh ((HB.out.block _ (blk_lt Z3.out)).trans Z3.out)
              have hX := Lh ((HB.out.block _ (blk_lt hX.out)).trans hX.out)
              have ZB := Lh (bthen ZB.out HB.out)
              have hB := Lh (hB.out.trans (HB.out.mono (show XB ≤ wq.heap.size by omega)))
              have HY := HA
              have hYX : Hid (XB < AB) := Lh (Nat.lt_of_lt_of_le pl hge)
              clear HB hge HV hHeld HTT HAP x0 x1 x2 x3 xl y0 y1 y2 yl z0 z1 z2 z3 zl p3 pl HA e1 e2
              have q3 : w8.cell? ⟨AB, 3, none⟩ = some (.int .i64 Yg) := (blk_cell HY.out 3).trans rfl
              have ql : AB < w8.heap.size := blk_lt HY.out
              by_cases t3 : Yg < 0
              · have e3 : decide (Yg < 0) = true := decide_eq_true t3
                have HRES := Lh (show CF = (((k : Nat), ((⟨Px, Py, Pz⟩, Pg) : P3 × Int)), true) from by rw [HYS2.out, ← hC.out, HS.out _ rfl t3])
                clear HGO HSTOP HNEG HZ HA2 HT HYS2 hC
                go_wp2_with fail
                have HB := Lh ((Below.refl w8.heap.size w8).drew)
                have FF := Lh (show ∀ V, Hid (Below w8.heap.size w8 V) → V.cell? ⟨XB, 0, none⟩ = some (.int .i64 Px) ∧ V.cell? ⟨XB, 1, none⟩ = some (.int .i64 Py) ∧ V.cell? ⟨XB, 2, none⟩ = some (.int .i64 Pz) ∧ V.cell? ⟨XB, 3, none⟩ = some (.int .i64 Pg) from fun V HB => have e := (HB.out.block _ (blk_lt hX.out)).trans hX.out; ⟨(blk_cell e 0).trans rfl, (blk_cell e 1).trans rfl, (blk_cell e 2).trans rfl, (blk_cell e 3).trans rfl⟩)
                refine start_ (n := 5) (S := fun w' => w'.cell? ⟨XB, 0, none⟩ = some (.int .i64 Px) ∧ w'.cell? ⟨XB, 1, none⟩ = some (.int .i64 Py) ∧ w'.cell? ⟨XB, 2, none⟩ = some (.int .i64 Pz) ∧ w'.cell? ⟨XB, 3, none⟩ = some (.int .i64 Pg)) (ds := [3]) (MT 0 5) (by kernel_rfl) rfl rfl (FF.out _ HB) (fun hHeld => ?_)
                obtain ⟨wd, hwd⟩ : ∃ x, w8.drew = x := ⟨_, rfl⟩
                rw [hwd] at HB hHeld ⊢
                clear hwd
                refine pu_ 0 65 (h := ?_)
                refine pu_ 2 6 (h := ?_)
                refine ta_ 1 66 hHeld (h := ?_)
                refine last_ (i := 3) (N := none) (MT 4 1) rfl rfl (by kernel_rfl) (by decide) (fun K hK => ?_)
                have R4 := (HB.out.block _ (blk_lt Z3.out)).trans Z3.out
                have sc0 : World.cell? _ ⟨w.heap.size + 3, 0, none⟩ = some (.int .i64 0) := (blk_cell R4 0).trans rfl
                have sf0 : World.frozen? _ ⟨w.heap.size + 3, 0, none⟩ = false := blk_frozen R4 0
                have sc1 : World.cell? _ ⟨w.heap.size + 3, 1, none⟩ = some (.int .i64 0) := (blk_cell R4 1).trans rfl
                have sf1 : World.frozen? _ ⟨w.heap.size + 3, 1, none⟩ = false := blk_frozen R4 1
                have sc2 : World.cell? _ ⟨w.heap.size + 3, 2, none⟩ = some (.int .i64 0) := (blk_cell R4 2).trans rfl
                have sf2 : World.frozen? _ ⟨w.heap.size + 3, 2, none⟩ = false := blk_frozen R4 2
                have sc3 : World.cell? _ ⟨w.heap.size + 3, 3, none⟩ = some (.int .i64 0) := (blk_cell R4 3).trans rfl
                have sf3 : World.frozen? _ ⟨w.heap.size + 3, 3, none⟩ = false := blk_frozen R4 3
                refine skip_ (w1 := ?_) (by rfl) rfl ?_ ?_
                rotate_left
                · go_simp
                  rfl
                refine hK.out _ _ ?_
                clear hK K
                refine pu_ 4 8 (h := ?_)
                refine done_ (by kernel_rfl) ?_
                have HRV := bs4 R4 (.int .i64 Px) (.int .i64 Py) (.int .i64 Pz) (.int .i64 Pg)
                have HBV := bb4 (bthen ZB.out HB.out) (show w.heap.size ≤ w.heap.size + 3 by omega) (.int .i64 Px) (.int .i64 Py) (.int .i64 Pz) (.int .i64 Pg)
                obtain ⟨V, hV⟩ : ∃ V, ((((wd.setCell ⟨w.heap.size + 3, 0, none⟩ (.int .i64 Px)).setCell ⟨w.heap.size + 3, 1, none⟩ (.int .i64 Py)).setCell ⟨w.heap.size + 3, 2, none⟩ (.int .i64 Pz)).setCell ⟨w.heap.size + 3, 3, none⟩ (.int .i64 Pg)) = V := ⟨_, rfl⟩
                rw [hV] at HRV HBV
                (try rw [hV])
                have t0 : V.cell? ⟨w.heap.size + 1 + 1 + 1, 0, none⟩ = some (.int .i64 Px) := (blk_cell HRV 0).trans rfl
                have t1 : V.cell? ⟨w.heap.size + 1 + 1 + 1, 1, none⟩ = some (.int .i64 Py) := (blk_cell HRV 1).trans rfl
                have t2 : V.cell? ⟨w.heap.size + 1 + 1 + 1, 2, none⟩ = some (.int .i64 Pz) := (blk_cell HRV 2).trans rfl
                have t3 : V.cell? ⟨w.heap.size + 1 + 1 + 1, 3, none⟩ = some (.int .i64 Pg) := (blk_cell HRV 3).trans rfl
                clear sc0 sc1 sc2 sc3 sf0 sf1 sf2 sf3 R4 hHeld
                go_wp2
                (try rw [hV])
                exact bodyPost_ret (v := .tuple #[.int .i64 (k : Int), .agg #[.int .i64 Px, .int .i64 Py, .int .i64 Pz, .int .i64 Pg], .bool true]) (by simp [results, Try.results34, go_sem, t0, t1, t2, t3]) rfl ⟨by rw [HRES.out], HBV⟩
              · have e3 : decide (Yg < 0) = false := decide_eq_false t3
                have HG2 := Lh (HG.out _ (by omega) rfl (by omega))
                have q0 : w8.cell? ⟨AB, 0, none⟩ = some (.int .i64 Yx) := (blk_cell HY.out 0).trans rfl
                have q1 : w8.cell? ⟨AB, 1, none⟩ = some (.int .i64 Yy) := (blk_cell HY.out 1).trans rfl
                have q2 : w8.cell? ⟨AB, 2, none⟩ = some (.int .i64 Yz) := (blk_cell HY.out 2).trans rfl
                have p0 : w8.cell? ⟨XB, 0, none⟩ = some (.int .i64 Px) := (blk_cell hX.out 0).trans rfl
                have p1 : w8.cell? ⟨XB, 1, none⟩ = some (.int .i64 Py) := (blk_cell hX.out 1).trans rfl
                have p2 : w8.cell? ⟨XB, 2, none⟩ = some (.int .i64 Pz) := (blk_cell hX.out 2).trans rfl
                have p3 : w8.cell? ⟨XB, 3, none⟩ = some (.int .i64 Pg) := (blk_cell hX.out 3).trans rfl
                have f0 := blk_frozen hX.out 0
                have f1 := blk_frozen hX.out 1
                have f2 := blk_frozen hX.out 2
                have f3 := blk_frozen hX.out 3
                have hNE : AB ≠ XB := Nat.ne_of_gt hYX.out
                have hNX : XB ≠ AB := Nat.ne_of_lt hYX.out
                clear t3
                go_wp2
                go_roundw
                case rel => exact ⟨k + 1, (⟨Yx, Yy, Yz⟩, Yg), by omega, by go_num, Lh (by rw [← HE.out.2, ← HG2.out]; exact hC.out), Lh (bs4 hX.out (.int .i64 Yx) (.int .i64 Yy) (.int .i64 Yz) (.int .i64 Yg)), Lh (bb4 hB.out (Nat.le_refl _) (.int .i64 Yx) (.int .i64 Yy) (.int .i64 Yz) (.int .i64 Yg))⟩
                case measure => simp [intOf]; omega
            · have e2 : decide ((k : Int) < 16) = false := decide_eq_false t2
              obtain rfl : k = 16 := by omega
              clear t1 t2
              have HRES := Lh (show CF = (((16 : Nat), ((⟨Px, Py, Pz⟩, Pg) : P3 × Int)), true) from by rw [HYS2.out, ← hC.out]; exact congrArg (fun t => (t, true)) (HZ.out 16 _))
              clear HGO HSTOP HNEG HZ HA2 HT HYS2 hC
              go_wp2_with fail
              have HB := Lh ((Below.refl wq.heap.size wq).drew)
              have FF := Lh (show ∀ V, Hid (Below wq.heap.size wq V) → V.cell? ⟨XB, 0, none⟩ = some (.int .i64 Px) ∧ V.cell? ⟨XB, 1, none⟩ = some (.int .i64 Py) ∧ V.cell? ⟨XB, 2, none⟩ = some (.int .i64 Pz) ∧ V.cell? ⟨XB, 3, none⟩ = some (.int .i64 Pg) from fun V HB => have e := (HB.out.block _ (blk_lt hX.out)).trans hX.out; ⟨(blk_cell e 0).trans rfl, (blk_cell e 1).trans rfl, (blk_cell e 2).trans rfl, (blk_cell e 3).trans rfl⟩)
              refine start_ (n := 5) (S := fun w' => w'.cell? ⟨XB, 0, none⟩ = some (.int .i64 Px) ∧ w'.cell? ⟨XB, 1, none⟩ = some (.int .i64 Py) ∧ w'.cell? ⟨XB, 2, none⟩ = some (.int .i64 Pz) ∧ w'.cell? ⟨XB, 3, none⟩ = some (.int .i64 Pg)) (ds := [3]) (MT 0 5) (by kernel_rfl) rfl rfl (FF.out _ HB) (fun hHeld => ?_)
              obtain ⟨wd, hwd⟩ : ∃ x, wq.drew = x := ⟨_, rfl⟩
              rw [hwd] at HB hHeld ⊢
              clear hwd
              refine pu_ 0 65 (h := ?_)
              refine pu_ 2 6 (h := ?_)
              refine ta_ 1 66 hHeld (h := ?_)
              refine last_ (i := 3) (N := none) (MT 4 1) rfl rfl (by kernel_rfl) (by decide) (fun K hK => ?_)
              have R4 := (HB.out.block _ (blk_lt Z3.out)).trans Z3.out
              have sc0 : World.cell? _ ⟨w.heap.size + 3, 0, none⟩ = some (.int .i64 0) := (blk_cell R4 0).trans rfl
              have sf0 : World.frozen? _ ⟨w.heap.size + 3, 0, none⟩ = false := blk_frozen R4 0
              have sc1 : World.cell? _ ⟨w.heap.size + 3, 1, none⟩ = some (.int .i64 0) := (blk_cell R4 1).trans rfl
              have sf1 : World.frozen? _ ⟨w.heap.size + 3, 1, none⟩ = false := blk_frozen R4 1
              have sc2 : World.cell? _ ⟨w.heap.size + 3, 2, none⟩ = some (.int .i64 0) := (blk_cell R4 2).trans rfl
              have sf2 : World.frozen? _ ⟨w.heap.size + 3, 2, none⟩ = false := blk_frozen R4 2
              have sc3 : World.cell? _ ⟨w.heap.size + 3, 3, none⟩ = some (.int .i64 0) := (blk_cell R4 3).trans rfl
              have sf3 : World.frozen? _ ⟨w.heap.size + 3, 3, none⟩ = false := blk_frozen R4 3
              refine skip_ (w1 := ?_) (by rfl) rfl ?_ ?_
              rotate_left
              · go_simp
                rfl
              refine hK.out _ _ ?_
              clear hK K
              refine pu_ 4 8 (h := ?_)
              refine done_ (by kernel_rfl) ?_
              have HRV := bs4 R4 (.int .i64 Px) (.int .i64 Py) (.int .i64 Pz) (.int .i64 Pg)
              have HBV := bb4 (bthen ZB.out HB.out) (show w.heap.size ≤ w.heap.size + 3 by omega) (.int .i64 Px) (.int .i64 Py) (.int .i64 Pz) (.int .i64 Pg)
              obtain ⟨V, hV⟩ : ∃ V, ((((wd.setCell ⟨w.heap.size + 3, 0, none⟩ (.int .i64 Px)).setCell ⟨w.heap.size + 3, 1, none⟩ (.int .i64 Py)).setCell ⟨w.heap.size + 3, 2, none⟩ (.int .i64 Pz)).setCell ⟨w.heap.size + 3, 3, none⟩ (.int .i64 Pg)) = V := ⟨_, rfl⟩
              rw [hV] at HRV HBV
              (try rw [hV])
              have t0 : V.cell? ⟨w.heap.size + 1 + 1 + 1, 0, none⟩ = some (.int .i64 Px) := (blk_cell HRV 0).trans rfl
              have t1 : V.cell? ⟨w.heap.size + 1 + 1 + 1, 1, none⟩ = some (.int .i64 Py) := (blk_cell HRV 1).trans rfl
              have t2 : V.cell? ⟨w.heap.size + 1 + 1 + 1, 2, none⟩ = some (.int .i64 Pz) := (blk_cell HRV 2).trans rfl
              have t3 : V.cell? ⟨w.heap.size + 1 + 1 + 1, 3, none⟩ = some (.int .i64 Pg) := (blk_cell HRV 3).trans rfl
              clear sc0 sc1 sc2 sc3 sf0 sf1 sf2 sf3 R4 hHeld
              go_wp2
              (try rw [hV])
              exact bodyPost_ret (v := .tuple #[.int .i64 ((16 : Nat) : Int), .agg #[.int .i64 Px, .int .i64 Py, .int .i64 Pz, .int .i64 Pg], .bool true]) (by simp [results, Try.results34, go_sem, t0, t1, t2, t3]) rfl ⟨by rw [HRES.out], HBV⟩
          · have e1 : decide (0 ≤ Pg) = false := decide_eq_false t1
            have HRES := Lh (show CF = (((k : Nat), ((⟨Px, Py, Pz⟩, Pg) : P3 × Int)), true) from by rw [HYS2.out, ← hC.out, HNEG.out _ k _ (by omega)])
            clear HGO HSTOP HNEG HZ HA2 HT HYS2 hC
            go_wp2_with fail
            have HB := Lh ((Below.refl wq.heap.size wq).drew)
            have FF := Lh (show ∀ V, Hid (Below wq.heap.size wq V) → V.cell? ⟨XB, 0, none⟩ = some (.int .i64 Px) ∧ V.cell? ⟨XB, 1, none⟩ = some (.int .i64 Py) ∧ V.cell? ⟨XB, 2, none⟩ = some (.int .i64 Pz) ∧ V.cell? ⟨XB, 3, none⟩ = some (.int .i64 Pg) from fun V HB => have e := (HB.out.block _ (blk_lt hX.out)).trans hX.out; ⟨(blk_cell e 0).trans rfl, (blk_cell e 1).trans rfl, (blk_cell e 2).trans rfl, (blk_cell e 3).trans rfl⟩)
            refine start_ (n := 5) (S := fun w' => w'.cell? ⟨XB, 0, none⟩ = some (.int .i64 Px) ∧ w'.cell? ⟨XB, 1, none⟩ = some (.int .i64 Py) ∧ w'.cell? ⟨XB, 2, none⟩ = some (.int .i64 Pz) ∧ w'.cell? ⟨XB, 3, none⟩ = some (.int .i64 Pg)) (ds := [3]) (MT 0 5) (by kernel_rfl) rfl rfl (FF.out _ HB) (fun hHeld => ?_)
            obtain ⟨wd, hwd⟩ : ∃ x, wq.drew = x := ⟨_, rfl⟩
            rw [hwd] at HB hHeld ⊢
            clear hwd
            refine pu_ 0 65 (h := ?_)
            refine pu_ 2 6 (h := ?_)
            refine ta_ 1 66 hHeld (h := ?_)
            refine last_ (i := 3) (N := none) (MT 4 1) rfl rfl (by kernel_rfl) (by decide) (fun K hK => ?_)
            have R4 := (HB.out.block _ (blk_lt Z3.out)).trans Z3.out
            have sc0 : World.cell? _ ⟨w.heap.size + 3, 0, none⟩ = some (.int .i64 0) := (blk_cell R4 0).trans rfl
            have sf0 : World.frozen? _ ⟨w.heap.size + 3, 0, none⟩ = false := blk_frozen R4 0
            have sc1 : World.cell? _ ⟨w.heap.size + 3, 1, none⟩ = some (.int .i64 0) := (blk_cell R4 1).trans rfl
            have sf1 : World.frozen? _ ⟨w.heap.size + 3, 1, none⟩ = false := blk_frozen R4 1
            have sc2 : World.cell? _ ⟨w.heap.size + 3, 2, none⟩ = some (.int .i64 0) := (blk_cell R4 2).trans rfl
            have sf2 : World.frozen? _ ⟨w.heap.size + 3, 2, none⟩ = false := blk_frozen R4 2
            have sc3 : World.cell? _ ⟨w.heap.size + 3, 3, none⟩ = some (.int .i64 0) := (blk_cell R4 3).trans rfl
            have sf3 : World.frozen? _ ⟨w.heap.size + 3, 3, none⟩ = false := blk_frozen R4 3
            refine skip_ (w1 := ?_) (by rfl) rfl ?_ ?_
            rotate_left
            · go_simp
              rfl
            refine hK.out _ _ ?_
            clear hK K
            refine pu_ 4 8 (h := ?_)
            refine done_ (by kernel_rfl) ?_
            have HRV := bs4 R4 (.int .i64 Px) (.int .i64 Py) (.int .i64 Pz) (.int .i64 Pg)
            have HBV := bb4 (bthen ZB.out HB.out) (show w.heap.size ≤ w.heap.size + 3 by omega) (.int .i64 Px) (.int .i64 Py) (.int .i64 Pz) (.int .i64 Pg)
            obtain ⟨V, hV⟩ : ∃ V, ((((wd.setCell ⟨w.heap.size + 3, 0, none⟩ (.int .i64 Px)).setCell ⟨w.heap.size + 3, 1, none⟩ (.int .i64 Py)).setCell ⟨w.heap.size + 3, 2, none⟩ (.int .i64 Pz)).setCell ⟨w.heap.size + 3, 3, none⟩ (.int .i64 Pg)) = V := ⟨_, rfl⟩
            rw [hV] at HRV HBV
            (try rw [hV])
            have t0 : V.cell? ⟨w.heap.size + 1 + 1 + 1, 0, none⟩ = some (.int .i64 Px) := (blk_cell HRV 0).trans rfl
            have t1 : V.cell? ⟨w.heap.size + 1 + 1 + 1, 1, none⟩ = some (.int .i64 Py) := (blk_cell HRV 1).trans rfl
            have t2 : V.cell? ⟨w.heap.size + 1 + 1 + 1, 2, none⟩ = some (.int .i64 Pz) := (blk_cell HRV 2).trans rfl
            have t3 : V.cell? ⟨w.heap.size + 1 + 1 + 1, 3, none⟩ = some (.int .i64 Pg) := (blk_cell HRV 3).trans rfl
            clear sc0 sc1 sc2 sc3 sf0 sf1 sf2 sf3 R4 hHeld
            go_wp2
            (try rw [hV])
            exact bodyPost_ret (v := .tuple #[.int .i64 (k : Int), .agg #[.int .i64 Px, .int .i64 Py, .int .i64 Pz, .int .i64 Pg], .bool true]) (by simp [results, Try.results34, go_sem, t0, t1, t2, t3]) rfl ⟨by rw [HRES.out], HBV⟩
end Go.Proofs.Ytckdhahceelckaa.G
namespace Go.Proofs.Ytckdhahceelckaa.G
open Go.RowKit Go.Proofs.YtckdhahceelckaaW.PrintWords Go.Proofs.YtckdhahceelckaaW.PrintLast Go.Proofs.YtckdhahceelckaaW.PrintMore
attribute [local go_sem] max2_mx min2_mn max_two min_two max_three min_three max_four min_four
attribute [local go_sem high] eqA23 eqA40
set_option linter.unusedVariables false
set_option linter.unusedSimpArgs false
/-- a list of cores -/
def RdC (w : World) (A : Option Addr) (l : List Cr) : Prop := ∀ i c, l[i]? = some c → ∃ b o A0 A1 A2 n0 n1 n2 c0 c1 c2, A = some ⟨b, o, none⟩ ∧ b < w.heap.size ∧ w.cell? ⟨b, o + i * 4, none⟩ = some (.slice A0 n0 c0) ∧ w.cell? ⟨b, o + i * 4 + 1, none⟩ = some (.slice A1 n1 c1) ∧ w.cell? ⟨b, o + i * 4 + 2, none⟩ = some (.slice A2 n2 c2) ∧ w.cell? ⟨b, o + i * 4 + 3, none⟩ = some (.int .i64 c.r) ∧ CrV w (.agg #[.slice A0 n0 c0, .slice A1 n1 c1, .slice A2 n2 c2, .int .i64 c.r]) c
theorem RdC.below {w w1 : World} {A : Option Addr} {l : List Cr} (h : RdC w A l) (hb : Below w.heap.size w w1) : RdC w1 A l := fun i c hc => by
  obtain ⟨b, o, A0, A1, A2, n0, n1, n2, c0, c1, c2, e, hlt, h0, h1, h2, h3, h4⟩ := h i c hc
  exact ⟨b, o, A0, A1, A2, n0, n1, n2, c0, c1, c2, e, Nat.lt_of_lt_of_le hlt hb.size, (hb.cell (p := ⟨b, _, none⟩) hlt).trans h0, (hb.cell (p := ⟨b, _, none⟩) hlt).trans h1, (hb.cell (p := ⟨b, _, none⟩) hlt).trans h2, (hb.cell (p := ⟨b, _, none⟩) hlt).trans h3, h4.below hb⟩
theorem RdC.get {w : World} {A : Option Addr} {l : List Cr} (h : RdC w A l) (i : Nat) (hi : i < l.length) : ∃ b o A0 A1 A2 n0 n1 n2 c0 c1 c2, A = some ⟨b, o, none⟩ ∧ b < w.heap.size ∧ w.cell? ⟨b, o + i * 4, none⟩ = some (.slice A0 n0 c0) ∧ w.cell? ⟨b, o + i * 4 + 1, none⟩ = some (.slice A1 n1 c1) ∧ w.cell? ⟨b, o + i * 4 + 2, none⟩ = some (.slice A2 n2 c2) ∧ w.cell? ⟨b, o + i * 4 + 3, none⟩ = some (.int .i64 l[i].r) ∧ CrV w (.agg #[.slice A0 n0 c0, .slice A1 n1 c1, .slice A2 n2 c2, .int .i64 l[i].r]) l[i] := h i _ (List.getElem?_eq_getElem hi)
/-- what Ray asks of the i-th -/
def askR (a : Cr) (y : P3) (l : List Cr) (i : Nat) : Nat × Bool := match l[i]? with | some d => rayAsk a y d | none => (0, false)
theorem rayL_ask (a : Cr) (y : P3) (l : List Cr) : rayL a y l = leastF 0 (askR a y l) (fun a b => decide (a < b)) l.length := rfl
theorem askR_get (a : Cr) (y : P3) (l : List Cr) (i : Nat) (h : i < l.length) : askR a y l i = rayAsk a y l[i] := by unfold askR; rw [List.getElem?_eq_getElem h]
def RayPost (R : Nat × Bool) (w : World) (en : Ending) (w' : World) : Prop := en = .returned (.tuple #[.int .i64 R.1, .bool R.2]) ∧ Below w.heap.size w w'
set_option maxHeartbeats 8000000 in
set_option maxRecDepth 100000 in
theorem rask_calls {w : World} {a : Cr} (y : P3) (l : List Cr) (A : Option Addr) (n c ga gy gl i : Nat) (A0 A1 A2 : Option Addr) (n0 n1 n2 c0 c1 c2 : Nat) (ra : Int) (hga : w.heap[ga]? = some (.cells #[.slice A0 n0 c0, .slice A1 n1 c1, .slice A2 n2 c2, .int .i64 ra] 36 (0, 0))) (hgy : w.heap[gy]? = some (.cells #[.int .i64 y.x, .int .i64 y.y, .int .i64 y.z] 23 (0, 0))) (hgl : w.heap[gl]? = some (.cells #[.slice A n c] 57 (0, 0)))
    (ha : CrV w (.agg #[.slice A0 n0 c0, .slice A1 n1 c1, .slice A2 n2 c2, .int .i64 ra]) a) (hl : RdC w A l) (hn : l.length = n) (hi : i < n) (hal : a.p.length ≤ 140737488355328) (hnb : n ≤ 140737488355328) :
    Calls Try.prog 74 #[.int .i64 i, .pointer (some ⟨ga, 0, none⟩), .pointer (some ⟨gy, 0, none⟩), .pointer (some ⟨gl, 0, none⟩)] w (RayPost (askR a y l i) w) := by
  have hil : i < l.length := by omega
  obtain ⟨b, o, B0, B1, B2, m0, m1, m2, d0, d1, d2, rfl, lb, e0, e1, e2, e3, hd⟩ := hl.get i hil
  have HCA := Lh (fun (W : World) (h1 : CrV W (.agg #[.slice A0 n0 c0, .slice A1 n1 c1, .slice A2 n2 c2, .int .i64 ra]) a) (h2 : CrV W (.agg #[.slice B0 m0 d0, .slice B1 m1 d1, .slice B2 m2 d2, .int .i64 l[i].r]) l[i]) => cast_calls h1 h2 y hal)
  have HGE : Hid (askR a y l i = rayAsk a y l[i]) := Lh (askR_get a y l i hil)
  obtain ⟨RR, hRR⟩ : ∃ r : Nat × Bool, askR a y l i = r := ⟨_, rfl⟩
  rw [hRR] at HGE ⊢
  obtain ⟨d, hdd⟩ : ∃ d, l[i] = d := ⟨_, rfl⟩
  rw [hdd] at HCA HGE hd e3
  have HASK : Hid (RR = ((castF a y d).1.1, (castF a y d).2 && (decide ((castF a y d).1.1 < 16) || decide ((castF a y d).1.2.2 < 0)))) := Lh HGE.out
  obtain ⟨R, hR⟩ : ∃ R, castF a y d = R := ⟨_, rfl⟩
  rw [hR] at HASK HCA
  obtain ⟨⟨k, ⟨Xx, Xy, Xz⟩, Xg⟩, Xo⟩ := R
  obtain ⟨yx, yy, yz⟩ := y
  simp only at HASK HCA hgy
  have hkd : decide (k < 16) = decide ((k : Int) < 16) := by by_cases t : k < 16 <;> simp [t] <;> omega
  rw [hkd] at HASK
  obtain ⟨rd, hrd⟩ : ∃ r, d.r = r := ⟨_, rfl⟩
  rw [hrd] at HCA hd e3
  have HVA := Lh ha
  have HVD := Lh hd
  have ti : (i : Int) < (n : Int) := by omega
  have x0 : w.cell? ⟨ga, 0, none⟩ = some (.slice A0 n0 c0) := (blk_cell hga 0).trans rfl
  have x1 : w.cell? ⟨ga, 1, none⟩ = some (.slice A1 n1 c1) := (blk_cell hga 1).trans rfl
  have x2 : w.cell? ⟨ga, 2, none⟩ = some (.slice A2 n2 c2) := (blk_cell hga 2).trans rfl
  have x3 : w.cell? ⟨ga, 3, none⟩ = some (.int .i64 ra) := (blk_cell hga 3).trans rfl
  have la : ga < w.heap.size := blk_lt hga
  have y0 : w.cell? ⟨gy, 0, none⟩ = some (.int .i64 yx) := (blk_cell hgy 0).trans rfl
  have y1 : w.cell? ⟨gy, 1, none⟩ = some (.int .i64 yy) := (blk_cell hgy 1).trans rfl
  have y2 : w.cell? ⟨gy, 2, none⟩ = some (.int .i64 yz) := (blk_cell hgy 2).trans rfl
  have ly : gy < w.heap.size := blk_lt hgy
  have q0 : w.cell? ⟨gl, 0, none⟩ = some (.slice (some ⟨b, o, none⟩) n c) := (blk_cell hgl 0).trans rfl
  have ll : gl < w.heap.size := blk_lt hgl
  clear ha hd hl hn hR hdd hrd hRR hkd hga hgy hgl hil hal HGE
  go_enter Try.func74, Try.ntmps74
  go_wp2_with fail
  have HB := Lh ((Below.refl (w.heap.size) w).drew)
  have FF := Lh (show ∀ V, Hid (Below (w.heap.size) w V) → V.cell? ⟨ga, 0, none⟩ = some (.slice A0 n0 c0) ∧ V.cell? ⟨ga, 1, none⟩ = some (.slice A1 n1 c1) ∧ V.cell? ⟨ga, 2, none⟩ = some (.slice A2 n2 c2) ∧ V.cell? ⟨ga, 3, none⟩ = some (.int .i64 ra) ∧ V.cell? ⟨gy, 0, none⟩ = some (.int .i64 yx) ∧ V.cell? ⟨gy, 1, none⟩ = some (.int .i64 yy) ∧ V.cell? ⟨gy, 2, none⟩ = some (.int .i64 yz) ∧ V.cell? ⟨gl, 0, none⟩ = some (.slice (some ⟨b, o, none⟩) n c) ∧ V.cell? ⟨b, o + i * 4, none⟩ = some (.slice B0 m0 d0) ∧ V.cell? ⟨b, o + i * 4 + 1, none⟩ = some (.slice B1 m1 d1) ∧ V.cell? ⟨b, o + i * 4 + 2, none⟩ = some (.slice B2 m2 d2) ∧ V.cell? ⟨b, o + i * 4 + 3, none⟩ = some (.int .i64 rd) from fun V HB => ⟨(HB.out.cell (p := ⟨ga, 0, none⟩) (la)).trans x0, (HB.out.cell (p := ⟨ga, 1, none⟩) (la)).trans x1, (HB.out.cell (p := ⟨ga, 2, none⟩) (la)).trans x2, (HB.out.cell (p := ⟨ga, 3, none⟩) (la)).trans x3, (HB.out.cell (p := ⟨gy, 0, none⟩) (ly)).trans y0, (HB.out.cell (p := ⟨gy, 1, none⟩) (ly)).trans y1, (HB.out.cell (p := ⟨gy, 2, none⟩) (ly)).trans y2, (HB.out.cell (p := ⟨gl, 0, none⟩) (ll)).trans q0, (HB.out.cell (p := ⟨b, o + i * 4, none⟩) (lb)).trans e0, (HB.out.cell (p := ⟨b, o + i * 4 + 1, none⟩) (lb)).trans e1, (HB.out.cell (p := ⟨b, o + i * 4 + 2, none⟩) (lb)).trans e2, (HB.out.cell (p := ⟨b, o + i * 4 + 3, none⟩) (lb)).trans e3⟩)
  refine start_ (n := 15) (S := fun w' => w'.cell? ⟨ga, 0, none⟩ = some (.slice A0 n0 c0) ∧ w'.cell? ⟨ga, 1, none⟩ = some (.slice A1 n1 c1) ∧ w'.cell? ⟨ga, 2, none⟩ = some (.slice A2 n2 c2) ∧ w'.cell? ⟨ga, 3, none⟩ = some (.int .i64 ra) ∧ w'.cell? ⟨gy, 0, none⟩ = some (.int .i64 yx) ∧ w'.cell? ⟨gy, 1, none⟩ = some (.int .i64 yy) ∧ w'.cell? ⟨gy, 2, none⟩ = some (.int .i64 yz) ∧ w'.cell? ⟨gl, 0, none⟩ = some (.slice (some ⟨b, o, none⟩) n c) ∧ w'.cell? ⟨b, o + i * 4, none⟩ = some (.slice B0 m0 d0) ∧ w'.cell? ⟨b, o + i * 4 + 1, none⟩ = some (.slice B1 m1 d1) ∧ w'.cell? ⟨b, o + i * 4 + 2, none⟩ = some (.slice B2 m2 d2) ∧ w'.cell? ⟨b, o + i * 4 + 3, none⟩ = some (.int .i64 rd)) (ds := []) (MT 0 15) (by kernel_rfl) rfl rfl (FF.out _ HB) (fun hHeld => ?_)
  obtain ⟨wd, hwd⟩ : ∃ x, w.drew = x := ⟨_, rfl⟩
  rw [hwd] at HB hHeld ⊢
  clear hwd
  refine pu_ 3 14 (h := ?_)
  refine ta_ 0 11 hHeld (h := ?_)
  refine ta_ 1 12 hHeld (h := ?_)
  refine ta_ 2 13 hHeld (h := ?_)
  refine pu_ 4 15 (h := ?_)
  refine ta_ 5 16 hHeld (h := ?_)
  refine join_ (σ := Nat) 3 (MT 12 3) (fun s => [(8, .pointer (some ⟨s, 0, none⟩)), (17, .tuple #[.int .i64 (k : Int), .agg #[.int .i64 Xx, .int .i64 Xy, .int .i64 Xz, .int .i64 Xg], .bool Xo]), (10, .tuple #[.int .i64 (k : Int), .agg #[.int .i64 Xx, .int .i64 Xy, .int .i64 Xz, .int .i64 Xg], .bool Xo]), (18, .int .i64 (k : Int)), (19, .agg #[.int .i64 Xx, .int .i64 Xy, .int .i64 Xz, .int .i64 Xg]), (20, .bool Xo)]) (fun s w' => w.heap.size ≤ s ∧ w'.heap[s]? = some (.cells #[.int .i64 0, .int .i64 0, .int .i64 0, .int .i64 0] 40 (0, 0)) ∧ Below (w.heap.size) w w') ?_ ?_
  rotate_left
  · intro hCont
    refine two_ (i := 6) (j := 11) (Ni := some 17) (Nj := some 8) (MT 7 8) #[true, true, true, true, true, true, false, false, false, false, false, true, false, false, false] rfl rfl rfl rfl (by kernel_rfl) (by decide) (by decide) (fun K hK => ?_) (fun K hK => ?_)
    · skip
      refine gs_ Try.func34 #[.agg #[.slice A0 n0 c0, .slice A1 n1 c1, .slice A2 n2 c2, .int .i64 ra], aP ⟨yx, yy, yz⟩, .agg #[.slice B0 m0 d0, .slice B1 m1 d1, .slice B2 m2 d2, .int .i64 rd]] ?_
      with_reducible refine (HCA.out _ (HVA.out.below HB.out) (HVD.out.below HB.out)).mono ?_
      rintro en w3 ⟨rfl, hb⟩
      have HB := Lh (HB.out.trans (hb.mono HB.out.size))
      clear hb
      refine ⟨_, rfl, ?_⟩
      refine hK.out _ _ (FF.out _ HB) (fun hHeld => ?_)
      clear hK K
      refine no_ (h := ?_)
      refine pu_ 7 10 (h := ?_)
      refine pu_ 8 18 (h := ?_)
      refine pu_ 9 19 (h := ?_)
      refine pu_ 10 20 (h := ?_)
      refine on_ 11 (some 8) (h := fun K hK => ?_)
      refine value_ (w1 := ?_) (v := ?_) (by rfl) rfl ?_ ?_
      rotate_left 2
      · go_simp
        constructor
        · rfl
        · rfl
      have HA := Lh (ha_new HB.out (.cells #[.int .i64 0, .int .i64 0, .int .i64 0, .int .i64 0] 40))
      have hge := HB.out.size
      have HB := Lh (HB.out.alloc (Nat.le_trans (Nat.le_refl _) HB.out.size) (.cells #[.int .i64 0, .int .i64 0, .int .i64 0, .int .i64 0] 40))
      refine hK.out _ _ (FF.out _ HB) (fun hHeld => ?_)
      clear hK K
      refine no_ (h := ?_)
      exact norm_ (by simp only [putAll, Act.put, List.setIfInBounds_toArray, List.set_cons_zero, List.set_cons_succ]) (hCont _ _ ⟨hge, HA.out, HB.out⟩)
    · skip
      refine value_ (w1 := ?_) (v := ?_) (by rfl) rfl ?_ ?_
      rotate_left 2
      · go_simp
        constructor
        · rfl
        · rfl
      have HA := Lh (ha_new HB.out (.cells #[.int .i64 0, .int .i64 0, .int .i64 0, .int .i64 0] 40))
      have hge := HB.out.size
      have HB := Lh (HB.out.alloc (Nat.le_trans (Nat.le_refl _) HB.out.size) (.cells #[.int .i64 0, .int .i64 0, .int .i64 0, .int .i64 0] 40))
      refine hK.out _ _ (FF.out _ HB) (fun hHeld => ?_)
      clear hK K
      refine no_ (h := ?_)
      refine on_ 6 (some 17) (h := fun K hK => ?_)
      refine gs_ Try.func34 #[.agg #[.slice A0 n0 c0, .slice A1 n1 c1, .slice A2 n2 c2, .int .i64 ra], aP ⟨yx, yy, yz⟩, .agg #[.slice B0 m0 d0, .slice B1 m1 d1, .slice B2 m2 d2, .int .i64 rd]] ?_
      with_reducible refine (HCA.out _ (HVA.out.below HB.out) (HVD.out.below HB.out)).mono ?_
      rintro en w3 ⟨rfl, hb⟩
      have HB := Lh (HB.out.trans (hb.mono HB.out.size))
      have HA := Lh ((hb.block _ (blk_lt HA.out)).trans HA.out)
      clear hb
      refine ⟨_, rfl, ?_⟩
      refine hK.out _ _ (FF.out _ HB) (fun hHeld => ?_)
      clear hK K
      refine no_ (h := ?_)
      refine pu_ 7 10 (h := ?_)
      refine pu_ 8 18 (h := ?_)
      refine pu_ 9 19 (h := ?_)
      refine pu_ 10 20 (h := ?_)
      exact norm_ (by simp only [putAll, Act.put, List.setIfInBounds_toArray, List.set_cons_zero, List.set_cons_succ]) (hCont _ _ ⟨hge, HA.out, HB.out⟩)
  rintro AB wj ⟨hge, HA, HB⟩
  have HA := Lh HA
  have HB := Lh HB
  have hHeld := FF.out _ HB
  refine no_ (h := ?_)
  refine pu_ 12 7 (h := ?_)
  refine on_ 13 (none) (h := fun K hK => ?_)
  have sc0 : World.cell? _ ⟨AB, 0, none⟩ = some (.int .i64 0) := (blk_cell HA.out 0).trans rfl
  have sf0 := blk_frozen HA.out 0
  have sc1 : World.cell? _ ⟨AB, 1, none⟩ = some (.int .i64 0) := (blk_cell HA.out 1).trans rfl
  have sf1 := blk_frozen HA.out 1
  have sc2 : World.cell? _ ⟨AB, 2, none⟩ = some (.int .i64 0) := (blk_cell HA.out 2).trans rfl
  have sf2 := blk_frozen HA.out 2
  have sc3 : World.cell? _ ⟨AB, 3, none⟩ = some (.int .i64 0) := (blk_cell HA.out 3).trans rfl
  have sf3 := blk_frozen HA.out 3
  refine skip_ (w1 := ?_) (by rfl) rfl ?_ ?_
  rotate_left
  · go_simp
    rfl
  have HA := Lh (bs4 HA.out (.int .i64 Xx) (.int .i64 Xy) (.int .i64 Xz) (.int .i64 Xg))
  have HB := Lh (bb4 HB.out (Nat.le_trans (Nat.le_refl _) hge) (.int .i64 Xx) (.int .i64 Xy) (.int .i64 Xz) (.int .i64 Xg))
  clear sc0 sf0 sc1 sf1 sc2 sf2 sc3 sf3
  refine hK.out _ _ (FF.out _ HB) (fun hHeld => ?_)
  clear hK K
  refine pu_ 14 9 (h := ?_)
  refine done_ (by kernel_rfl) ?_
  obtain ⟨w4, hwn⟩ : ∃ V, ((((wj.setCell ⟨AB, 0, none⟩ (.int .i64 Xx)).setCell ⟨AB, 1, none⟩ (.int .i64 Xy)).setCell ⟨AB, 2, none⟩ (.int .i64 Xz)).setCell ⟨AB, 3, none⟩ (.int .i64 Xg)) = V := ⟨_, rfl⟩
  rw [hwn] at HA HB ⊢
  clear hwn
  have v3 : w4.cell? ⟨AB, 3, none⟩ = some (.int .i64 Xg) := (blk_cell HA.out 3).trans rfl
  have lA : AB < w4.heap.size := blk_lt HA.out
  clear hHeld HVA HVD x0 x1 x2 x3 la y0 y1 y2 ly q0 ll e0 e1 e2 e3 lb HCA hge
  cases Xo with
  | false =>
    go_wp2_with fail
    go_quiet (fail)
    go_wp2
    exact bodyPost_ret (v := .tuple #[.int .i64 (k : Int), .bool false]) (by simp [results, Try.results74, go_sem]) rfl ⟨by rw [HASK.out]; rfl, pw_below_drewN HB.out _⟩
  | true =>
    by_cases t1 : (k : Int) < 16
    · have u1 : decide ((k : Int) < 16) = true := decide_eq_true t1
      rw [u1] at HASK
      clear t1
      go_wp2_with fail
      go_quiet (fail)
      go_wp2
      exact bodyPost_ret (v := .tuple #[.int .i64 (k : Int), .bool true]) (by simp [results, Try.results74, go_sem]) rfl ⟨by rw [HASK.out]; rfl, pw_below_drewN HB.out _⟩
    · have u1 : decide ((k : Int) < 16) = false := decide_eq_false t1
      rw [u1] at HASK
      clear t1
      by_cases t2 : Xg < 0
      · have u2 : decide (Xg < 0) = true := decide_eq_true t2
        rw [u2] at HASK
        clear t2
        go_wp2_with fail
        go_quiet (fail)
        go_wp2
        exact bodyPost_ret (v := .tuple #[.int .i64 (k : Int), .bool true]) (by simp [results, Try.results74, go_sem]) rfl ⟨by rw [HASK.out]; rfl, pw_below_drewN HB.out _⟩
      · have u2 : decide (Xg < 0) = false := decide_eq_false t2
        rw [u2] at HASK
        clear t2
        go_wp2_with fail
        go_quiet (fail)
        go_wp2
        exact bodyPost_ret (v := .tuple #[.int .i64 (k : Int), .bool false]) (by simp [results, Try.results74, go_sem]) rfl ⟨by rw [HASK.out]; rfl, pw_below_drewN HB.out _⟩
theorem rless_calls (a b : Int) (w : World) : Calls Try.prog 75 #[.int .i64 a, .int .i64 b] w fun e w' => e = .returned (.bool (decide (a < b))) ∧ w' = w := by
  go_enter Try.func75, Try.ntmps75
  go_wp2
  go_ret
  exact ⟨rfl, rfl⟩
def LeastPost (R : Int × Nat) (w : World) (en : Ending) (w' : World) : Prop := en = .returned (.tuple #[.int .i64 R.1, .int .i64 R.2]) ∧ Below w.heap.size w w'
set_option maxHeartbeats 4000000 in
set_option maxRecDepth 100000 in
theorem rleast_calls (n : Nat) (ask : Nat → Nat × Bool) (ga gy gl : Nat) (w : World) (hn : n ≤ 140737488355328)
    (H : ∀ (W : World) (i : Nat), Below w.heap.size w W → i < n → Calls Try.prog 74 #[.int .i64 i, .pointer (some ⟨ga, 0, none⟩), .pointer (some ⟨gy, 0, none⟩), .pointer (some ⟨gl, 0, none⟩)] W (RayPost (ask i) W)) :
    Calls Try.prog 73 #[.int .i64 n, .func (.func 74) #[] #[.pointer (some ⟨ga, 0, none⟩), .pointer (some ⟨gy, 0, none⟩), .pointer (some ⟨gl, 0, none⟩)], .func (.func 75) #[] #[]] w (LeastPost (leastF 0 ask (fun a b => decide (a < b)) n) w) := by
  have HH := Lh H
  have HST := Lh (fun i => show leastF 0 ask (fun a b => decide (a < b)) (i + 1) = if (ask i).2 = true ∧ ((leastF 0 ask (fun a b => decide (a < b)) i).1 < 0 ∨ decide ((ask i).1 < (leastF 0 ask (fun a b => decide (a < b)) i).2) = true) then ((i : Int), (ask i).1) else leastF 0 ask (fun a b => decide (a < b)) i from rfl)
  have H0 : Hid (leastF 0 ask (fun a b => decide (a < b)) 0 = (-1, 0)) := Lh rfl
  obtain ⟨L, hL⟩ : ∃ L : Nat → Int × Nat, leastF 0 ask (fun a b => decide (a < b)) = L := ⟨_, rfl⟩
  rw [hL] at HST H0 ⊢
  clear H hL
  go_enter Try.func73, Try.ntmps73
  go_wp2_with fail
  go_loopw [8, 9, 14] (fun v8 v9 v14 wr => ∃ i : Nat, i ≤ n ∧ v14 = .int .i64 i ∧ v8 = .int .i64 (L i).1 ∧ v9 = .int .i64 (L i).2 ∧ Hid (Below w.heap.size w wr)) (fun _ _ i _ => n - (intOf i).toNat)
  case atStart => exact ⟨0, by omega, rfl, by rw [H0.out], by rw [H0.out]; rfl, Lh (Below.refl _ _)⟩
  case round =>
    obtain ⟨i, hi, rfl, rfl, rfl, hB⟩ := hrel
    obtain ⟨wq, hwq⟩ : ∃ x : World, x = wr := ⟨_, rfl⟩
    subst hwq
    by_cases hlt : i < n
    · have HI := Lh (HH.out wq i hB.out hlt)
      have HS1 := Lh (HST.out i)
      obtain ⟨R, hR⟩ : ∃ R, ask i = R := ⟨_, rfl⟩
      rw [hR] at HI HS1
      obtain ⟨m, hm⟩ : ∃ m, L i = m := ⟨_, rfl⟩
      rw [hm] at HS1 ⊢
      obtain ⟨at_, best⟩ := m
      obtain ⟨p, is⟩ := R
      simp only at HS1
      have ti : (i : Int) < (n : Int) := by omega
      clear hR hm
      go_wp2_with fail
      with_reducible refine HI.out.mono ?_
      rintro en w2 ⟨rfl, hb⟩
      have hB := Lh (bthen hB.out hb)
      clear hb HI
      cases is with
      | false =>
        have hS : Hid (L (i + 1) = (at_, best)) := Lh (by rw [HS1.out, if_neg (by simp)])
        clear HS1
        go_wp2
        go_roundw
        case rel => exact ⟨i + 1, by omega, by go_num, by rw [hS.out], by rw [hS.out], hB⟩
        case measure => simp [intOf]; omega
      | true =>
        by_cases ta : at_ < 0
        · have ea : decide (at_ < 0) = true := decide_eq_true ta
          have hS : Hid (L (i + 1) = ((i : Int), p)) := Lh (by rw [HS1.out, if_pos ⟨rfl, .inl ta⟩])
          clear HS1 ta
          go_wp2
          go_roundw
          case rel => exact ⟨i + 1, by omega, by go_num, by rw [hS.out], by rw [hS.out], hB⟩
          case measure => simp [intOf]; omega
        · have ea : decide (at_ < 0) = false := decide_eq_false ta
          by_cases tp : p < best
          · have ep : decide ((p : Int) < (best : Int)) = true := decide_eq_true (by omega)
            have hS : Hid (L (i + 1) = ((i : Int), p)) := Lh (by rw [HS1.out, if_pos ⟨rfl, .inr (decide_eq_true tp)⟩])
            clear HS1 ta tp
            go_wp2_with (go_at_call 75; refine (rless_calls _ _ _).mono ?_; rintro en w3 ⟨rfl, rfl⟩; rw [ep])
            go_roundw
            case rel => exact ⟨i + 1, by omega, by go_num, by rw [hS.out], by rw [hS.out], hB⟩
            case measure => simp [intOf]; omega
          · have ep : decide ((p : Int) < (best : Int)) = false := decide_eq_false (by omega)
            have hS : Hid (L (i + 1) = (at_, best)) := Lh (by
              rw [HS1.out, if_neg]
              rintro ⟨_, h | h⟩
              · exact ta h
              · exact tp (by simpa using h))
            clear HS1 ta tp
            go_wp2_with (go_at_call 75; refine (rless_calls _ _ _).mono ?_; rintro en w3 ⟨rfl, rfl⟩; rw [ep])
            go_roundw
            case rel => exact ⟨i + 1, by omega, by go_num, by rw [hS.out], by rw [hS.out], hB⟩
            case measure => simp [intOf]; omega
    · obtain rfl : n = i := by omega
      go_wp2
      exact bodyPost_ret (v := .tuple #[.int .i64 (L n).1, .int .i64 ((L n).2 : Int)]) (by simp [results, Try.results73, go_sem]) rfl ⟨rfl, hB.out⟩
end Go.Proofs.Ytckdhahceelckaa.G
namespace Go.Proofs.Ytckdhahceelckaa.G
open Go.RowKit Go.Proofs.YtckdhahceelckaaW.PrintWords Go.Proofs.YtckdhahceelckaaW.PrintLast Go.Proofs.YtckdhahceelckaaW.PrintMore
attribute [local go_sem] max2_mx min2_mn max_two min_two max_three min_three max_four min_four
attribute [local go_sem high] eqA23 eqA40
set_option linter.unusedVariables false
set_option linter.unusedSimpArgs false
def RayR (R : (Int × Nat) × Bool) (w : World) (en : Ending) (w' : World) : Prop := en = .returned (.tuple #[.int .i64 R.1.1, .int .i64 R.1.2, .bool R.2]) ∧ Below w.heap.size w w'
set_option maxHeartbeats 4000000 in
set_option maxRecDepth 100000 in
theorem ray_calls (x y : P3) (l : List Cr) (A : Option Addr) (n c : Nat) (w : World) (hl : RdC w A l) (hn : l.length = n) (hnb : n ≤ 140737488355328) :
    Calls Try.prog 33 #[aP x, aP y, .slice A n c] w (RayR (rayF x y l) w) := by
  have HNO := Lh (fun (h : smay ⟨[x], [], [], 0⟩ y = false) => show rayF x y l = ((-1, 0), false) from if_neg (by rw [h]; decide))
  have HYS := Lh (fun (h : smay ⟨[x], [], [], 0⟩ y = true) => show rayF x y l = (if (rayL ⟨[x], [], [], 0⟩ y l).1 < 0 then ((-1, 16), false) else (rayL ⟨[x], [], [], 0⟩ y l, true)) from if_pos h)
  have HM := Lh (fun (W : World) (v : Value) (h : CrV W v ⟨[x], [], [], 0⟩) => smay_calls h y (by simp))
  obtain ⟨S, hS⟩ : ∃ R, smay ⟨[x], [], [], 0⟩ y = R := ⟨_, rfl⟩
  rw [hS] at HNO HYS HM
  have HLE : Hid (rayL ⟨[x], [], [], 0⟩ y l = leastF 0 (askR ⟨[x], [], [], 0⟩ y l) (fun a b => decide (a < b)) n) := Lh (by rw [rayL_ask, hn])
  obtain ⟨RL, hRL⟩ : ∃ R, rayL ⟨[x], [], [], 0⟩ y l = R := ⟨_, rfl⟩
  rw [hRL] at HYS HLE
  obtain ⟨RF, hRF⟩ : ∃ R, rayF x y l = R := ⟨_, rfl⟩
  rw [hRF] at HNO HYS ⊢
  have HN := Lh hn
  have HL := Lh hl
  obtain ⟨xx, xy, xz⟩ := x
  obtain ⟨yx, yy, yz⟩ := y
  clear hS hRL hRF hn hl
  have b1 := (Below.refl _ w).alloc (Nat.le_refl _) (.cells #[.int .i64 xx, .int .i64 xy, .int .i64 xz] 23)
  have b2 := b1.alloc (by simp) (.cells #[.int .i64 yx, .int .i64 yy, .int .i64 yz] 23)
  have b3 := b2.alloc (by simp <;> omega) (.cells #[.slice A n c] 57)
  have b4 := b3.alloc (by simp <;> omega) (.cells #[.int .i64 xx, .int .i64 xy, .int .i64 xz] 23)
  have b5 := b4.alloc (by simp <;> omega) (.cells #[.slice (some ⟨w.heap.size + 1 + 1 + 1, 0, none⟩) 1 1, .slice none 0 0, .slice none 0 0, .int .i64 0] 36)
  have g1 := heap_alloc_new (w.alloc (.cells #[.int .i64 xx, .int .i64 xy, .int .i64 xz] 23)) (.cells #[.int .i64 yx, .int .i64 yy, .int .i64 yz] 23)
  have g2 := heap_alloc_new ((w.alloc (.cells #[.int .i64 xx, .int .i64 xy, .int .i64 xz] 23)).alloc (.cells #[.int .i64 yx, .int .i64 yy, .int .i64 yz] 23)) (.cells #[.slice A n c] 57)
  have g3 := heap_alloc_new (((w.alloc (.cells #[.int .i64 xx, .int .i64 xy, .int .i64 xz] 23)).alloc (.cells #[.int .i64 yx, .int .i64 yy, .int .i64 yz] 23)).alloc (.cells #[.slice A n c] 57)) (.cells #[.int .i64 xx, .int .i64 xy, .int .i64 xz] 23)
  have g4 := heap_alloc_new ((((w.alloc (.cells #[.int .i64 xx, .int .i64 xy, .int .i64 xz] 23)).alloc (.cells #[.int .i64 yx, .int .i64 yy, .int .i64 yz] 23)).alloc (.cells #[.slice A n c] 57)).alloc (.cells #[.int .i64 xx, .int .i64 xy, .int .i64 xz] 23)) (.cells #[.slice (some ⟨w.heap.size + 1 + 1 + 1, 0, none⟩) 1 1, .slice none 0 0, .slice none 0 0, .int .i64 0] 36)
  simp only [World.size_alloc] at g1 g2 g3 g4
  have g1 := (Below.heap_alloc _ (.cells #[.slice (some ⟨w.heap.size + 1 + 1 + 1, 0, none⟩) 1 1, .slice none 0 0, .slice none 0 0, .int .i64 0] 36) _ (by simp <;> omega)).trans ((Below.heap_alloc _ (.cells #[.int .i64 xx, .int .i64 xy, .int .i64 xz] 23) _ (by simp <;> omega)).trans ((Below.heap_alloc _ (.cells #[.slice A n c] 57) _ (by simp)).trans g1))
  have g2 := (Below.heap_alloc _ (.cells #[.slice (some ⟨w.heap.size + 1 + 1 + 1, 0, none⟩) 1 1, .slice none 0 0, .slice none 0 0, .int .i64 0] 36) _ (by simp <;> omega)).trans ((Below.heap_alloc _ (.cells #[.int .i64 xx, .int .i64 xy, .int .i64 xz] 23) _ (by simp)).trans g2)
  have g3 := (Below.heap_alloc _ (.cells #[.slice (some ⟨w.heap.size + 1 + 1 + 1, 0, none⟩) 1 1, .slice none 0 0, .slice none 0 0, .int .i64 0] 36) _ (by simp)).trans g3
  go_enter Try.func33, Try.ntmps33
  go_wp2_with fail
  obtain ⟨w1, hw1⟩ : ∃ V, ((((w.alloc (.cells #[.int .i64 xx, .int .i64 xy, .int .i64 xz] 23)).alloc (.cells #[.int .i64 yx, .int .i64 yy, .int .i64 yz] 23)).alloc (.cells #[.slice A n c] 57)).alloc (.cells #[.int .i64 xx, .int .i64 xy, .int .i64 xz] 23)).alloc (.cells #[.slice (some ⟨w.heap.size + 1 + 1 + 1, 0, none⟩) 1 1, .slice none 0 0, .slice none 0 0, .int .i64 0] 36) = V := ⟨_, rfl⟩
  rw [hw1] at g1 g2 g3 g4 b5 ⊢
  clear hw1 b1 b2 b3 b4
  have HV := Lh (show CrV w1 (.agg #[.slice (some ⟨w.heap.size + 1 + 1 + 1, 0, none⟩) 1 1, .slice none 0 0, .slice none 0 0, .int .i64 0]) ⟨[⟨xx, xy, xz⟩], [], [], 0⟩ from ball_core w1 _ xx xy xz 0 1 (Nat.le_refl _) g3)
  have HB := Lh b5
  with_reducible refine (HM.out w1 _ HV.out).mono ?_
  rintro en w2 ⟨rfl, hb⟩
  have G1 := Lh ((hb.block _ (blk_lt g1)).trans g1)
  have G2 := Lh ((hb.block _ (blk_lt g2)).trans g2)
  have G4 := Lh ((hb.block _ (blk_lt g4)).trans g4)
  have HV := Lh (HV.out.below hb)
  have HB := Lh (bthen HB.out hb)
  clear hb g1 g2 g3 g4 b5 HM
  cases S with
  | false =>
    have HR := Lh (HNO.out rfl)
    go_wp2
    exact bodyPost_ret (v := .tuple #[.int .i64 (-1), .int .i64 0, .bool false]) (by simp [results, Try.results33, go_sem]) rfl ⟨by rw [HR.out]; rfl, HB.out⟩
  | true =>
    have HR := Lh (HYS.out rfl)
    have q0 : w2.cell? ⟨w.heap.size + 1 + 1, 0, none⟩ = some (.slice A n c) := (blk_cell G2.out 0).trans rfl
    have ql : w.heap.size + 1 + 1 < w2.heap.size := blk_lt G2.out
    clear HNO HYS
    have HLS := Lh (rleast_calls n (askR ⟨[⟨xx, xy, xz⟩], [], [], 0⟩ ⟨yx, yy, yz⟩ l) (w.heap.size + 1 + 1 + 1 + 1) (w.heap.size + 1) (w.heap.size + 1 + 1) w2 hnb (fun W i hW hi => rask_calls ⟨yx, yy, yz⟩ l A n c _ _ _ i _ _ _ _ _ _ _ _ _ _ ((hW.block _ (blk_lt G4.out)).trans G4.out) ((hW.block _ (blk_lt G1.out)).trans G1.out) ((hW.block _ (blk_lt G2.out)).trans G2.out) (HV.out.below hW) (HL.out.below (bthen HB.out hW)) HN.out hi (by simp) hnb))
    rw [← HLE.out] at HLS
    go_wp2_with fail
    with_reducible refine HLS.out.mono ?_
    rintro en w3 ⟨rfl, hb⟩
    have HB := Lh (bthen HB.out hb)
    clear hb HLS HLE q0 ql
    obtain ⟨ra, rb⟩ := RL
    by_cases t : ra < 0
    · have e1 : decide (ra < 0) = true := decide_eq_true t
      have HR := Lh (HR.out.trans (if_pos t))
      clear t
      go_wp2
      exact bodyPost_ret (v := .tuple #[.int .i64 (-1), .int .i64 16, .bool false]) (by simp [results, Try.results33, go_sem]) rfl ⟨by rw [HR.out]; rfl, HB.out⟩
    · have e1 : decide (ra < 0) = false := decide_eq_false t
      have HR := Lh (HR.out.trans (if_neg t))
      clear t
      go_wp2
      exact bodyPost_ret (v := .tuple #[.int .i64 ra, .int .i64 (rb : Int), .bool true]) (by simp [results, Try.results33, go_sem]) rfl ⟨by rw [HR.out], HB.out⟩
end Go.Proofs.Ytckdhahceelckaa.G
namespace Go.Proofs.Ytckdhahceelckaa.G
open Go.RowKit Go.Proofs.YtckdhahceelckaaW.PrintWords Go.Proofs.YtckdhahceelckaaW.PrintLast Go.Proofs.YtckdhahceelckaaW.PrintMore
attribute [local go_sem] max2_mx min2_mn max_two min_two max_three min_three max_four min_four
attribute [local go_sem high] eqA23 eqA40
set_option linter.unusedVariables false
set_option linter.unusedSimpArgs false
theorem RdC.nil (w : World) (A : Option Addr) : RdC w A [] := fun i c h => by simp at h
/-- a list of one core, built -/
theorem RdC_one {w : World} {g : Nat} {A0 A1 A2 : Option Addr} {n0 n1 n2 c0 c1 c2 : Nat} {r : Int} {c : Cr} {t : TypeId} (h : w.heap[g]? = some (.cells #[.slice A0 n0 c0, .slice A1 n1 c1, .slice A2 n2 c2, .int .i64 r] t (0, 0))) (hc : CrV w (.agg #[.slice A0 n0 c0, .slice A1 n1 c1, .slice A2 n2 c2, .int .i64 r]) c) (hr : c.r = r) : RdC w (some ⟨g, 0, none⟩) [c] := fun i d hd => by
  match i with
  | 0 =>
    simp at hd
    subst hd
    subst hr
    exact ⟨g, 0, A0, A1, A2, n0, n1, n2, c0, c1, c2, rfl, blk_lt h, (blk_cell h 0).trans rfl, (blk_cell h 1).trans rfl, (blk_cell h 2).trans rfl, (blk_cell h 3).trans rfl, hc⟩
  | i + 1 => simp at hd
set_option maxHeartbeats 4000000 in
set_option maxRecDepth 100000 in
theorem awake11_calls (w : World) : Calls Try.prog 31 #[] w fun e w' => e = .returned (.bool true) ∧ Below w.heap.size w w' := by
  go_enter Try.func31, Try.ntmps31
  go_wp2_with fail
  obtain ⟨w4, hw4⟩ : ∃ w4, ((((w.alloc (.cells #[.int .i64 0, .int .i64 0, .int .i64 0] 23)).alloc (.cells #[.slice (some ⟨w.heap.size, 0, none⟩) 1 1, .slice none 0 0, .slice none 0 0, .int .i64 2] 36)).alloc (.cells #[.int .i64 20, .int .i64 0, .int .i64 0] 23)).alloc (.cells #[.slice (some ⟨w.heap.size + 1 + 1, 0, none⟩) 1 1, .slice none 0 0, .slice none 0 0, .int .i64 2] 36)) = w4 := ⟨_, rfl⟩
  have I0 : w4.heap[w.heap.size]? = some (.cells #[.int .i64 0, .int .i64 0, .int .i64 0] 23 (0, 0)) := by rw [← hw4]; exact (Below.heap_alloc _ _ _ (by simp; omega)).trans (three0 _ _ _ _)
  have I2 : w4.heap[w.heap.size + 1 + 1]? = some (.cells #[.int .i64 20, .int .i64 0, .int .i64 0] 23 (0, 0)) := by rw [← hw4]; exact (Below.heap_alloc _ _ _ (by simp)).trans (three2 _ _ _ _)
  have I3 : w4.heap[w.heap.size + 1 + 1 + 1]? = some (.cells #[.slice (some ⟨w.heap.size + 1 + 1, 0, none⟩) 1 1, .slice none 0 0, .slice none 0 0, .int .i64 2] 36 (0, 0)) := by
    rw [← hw4]
    have := heap_alloc_new (((w.alloc (.cells #[.int .i64 0, .int .i64 0, .int .i64 0] 23)).alloc (.cells #[.slice (some ⟨w.heap.size, 0, none⟩) 1 1, .slice none 0 0, .slice none 0 0, .int .i64 2] 36)).alloc (.cells #[.int .i64 20, .int .i64 0, .int .i64 0] 23)) (.cells #[.slice (some ⟨w.heap.size + 1 + 1, 0, none⟩) 1 1, .slice none 0 0, .slice none 0 0, .int .i64 2] 36)
    simpa only [World.size_alloc] using this
  have IB : Below w.heap.size w w4 := by rw [← hw4]; exact (((((Below.refl _ w).alloc (Nat.le_refl _) _).alloc (by simp) _).alloc (by simp; omega) _).alloc (by simp; omega) _)
  rw [hw4]
  clear hw4
  have cA : CrV w4 (.agg #[.slice (some ⟨w.heap.size, 0, none⟩) 1 1, .slice none 0 0, .slice none 0 0, .int .i64 2]) exA := ball_core w4 w.heap.size 0 0 0 2 1 (Nat.le_refl _) I0
  have cB : CrV w4 (.agg #[.slice (some ⟨w.heap.size + 1 + 1, 0, none⟩) 1 1, .slice none 0 0, .slice none 0 0, .int .i64 2]) exB := ball_core w4 (w.heap.size + 1 + 1) 20 0 0 2 1 (Nat.le_refl _) I2
  have hcast := cast_calls cA cB ⟨32, 0, 0⟩ (by unfold exA; simp)
  rw [ex_castA] at hcast
  with_reducible refine hcast.mono ?_
  rintro e w5 ⟨rfl, hb5⟩
  have I3 := (hb5.block _ (blk_lt I3)).trans I3
  have cB5 := cB.below hb5
  have IB5 := bthen IB hb5
  have x0 : w5.cell? ⟨w.heap.size + 1 + 1 + 1, 0, none⟩ = some (.slice (some ⟨w.heap.size + 1 + 1, 0, none⟩) 1 1) := (blk_cell I3 0).trans rfl
  have x1 : w5.cell? ⟨w.heap.size + 1 + 1 + 1, 1, none⟩ = some (.slice none 0 0) := (blk_cell I3 1).trans rfl
  have x2 : w5.cell? ⟨w.heap.size + 1 + 1 + 1, 2, none⟩ = some (.slice none 0 0) := (blk_cell I3 2).trans rfl
  have x3 : w5.cell? ⟨w.heap.size + 1 + 1 + 1, 3, none⟩ = some (.int .i64 2) := (blk_cell I3 3).trans rfl
  have l5 := blk_lt I3
  clear hcast cA cB I0 I2 I3 IB hb5
  dsimp only
  go_wp2_with fail
  have J0 := (Below.heap_alloc (w5.alloc (.cells #[.int .i64 1048576, .int .i64 0, .int .i64 0, .int .i64 0] 40)) (.cells #[.slice (some ⟨w.heap.size + 1 + 1, 0, none⟩) 1 1, .slice none 0 0, .slice none 0 0, .int .i64 2] 36) _ (by simp)).trans (heap_alloc_new w5 (.cells #[.int .i64 1048576, .int .i64 0, .int .i64 0, .int .i64 0] 40))
  have J1 := heap_alloc_new (w5.alloc (.cells #[.int .i64 1048576, .int .i64 0, .int .i64 0, .int .i64 0] 40)) (.cells #[.slice (some ⟨w.heap.size + 1 + 1, 0, none⟩) 1 1, .slice none 0 0, .slice none 0 0, .int .i64 2] 36)
  have JB := ((Below.refl _ w5).alloc (Nat.le_refl _) (.cells #[.int .i64 1048576, .int .i64 0, .int .i64 0, .int .i64 0] 40)).alloc (by simp) (.cells #[.slice (some ⟨w.heap.size + 1 + 1, 0, none⟩) 1 1, .slice none 0 0, .slice none 0 0, .int .i64 2] 36)
  obtain ⟨w6, hw6⟩ : ∃ V, (w5.alloc (.cells #[.int .i64 1048576, .int .i64 0, .int .i64 0, .int .i64 0] 40)).alloc (.cells #[.slice (some ⟨w.heap.size + 1 + 1, 0, none⟩) 1 1, .slice none 0 0, .slice none 0 0, .int .i64 2] 36) = V := ⟨_, rfl⟩
  rw [hw6] at J0 J1 JB
  (try rw [hw6])
  have hw6' := Lh hw6
  simp only [World.size_alloc] at J1
  have hl := RdC_one J1 (cB5.below JB) rfl
  have hray := ray_calls ⟨0, 0, 0⟩ ⟨160, 0, 0⟩ [exB] (some ⟨w5.heap.size + 1, 0, none⟩) 1 1 w6 hl rfl (by decide)
  rw [ex_ray] at hray
  clear hw6 x0 x1 x2 x3 l5 J1 cB5 hl
  with_reducible refine hray.mono ?_
  rintro e w7 ⟨rfl, hb7⟩
  have J0 := (hb7.block _ (blk_lt J0)).trans J0
  have IB7 := bthen (bthen IB5 JB) hb7
  have y0 : w7.cell? ⟨w5.heap.size, 0, none⟩ = some (.int .i64 1048576) := (blk_cell J0 0).trans rfl
  have y1 : w7.cell? ⟨w5.heap.size, 1, none⟩ = some (.int .i64 0) := (blk_cell J0 1).trans rfl
  have y2 : w7.cell? ⟨w5.heap.size, 2, none⟩ = some (.int .i64 0) := (blk_cell J0 2).trans rfl
  have y3 : w7.cell? ⟨w5.heap.size, 3, none⟩ = some (.int .i64 0) := (blk_cell J0 3).trans rfl
  have e0 : eqP 1048576 0 0 1048576 0 0 = true := by decide
  clear hray JB hb7 IB5 hw6' J0
  dsimp only
  go_wp2
  go_ret
  exact ⟨by simp [eqP], IB7⟩
end Go.Proofs.Ytckdhahceelckaa.G
namespace Go.Proofs.Ytckdhahceelckaa.G
open Go.RowKit Go.Proofs.YtckdhahceelckaaW.PrintWords Go.Proofs.YtckdhahceelckaaW.PrintLast Go.Proofs.YtckdhahceelckaaW.PrintMore
attribute [local go_sem] max2_mx min2_mn max_two min_two max_three min_three max_four min_four
attribute [local go_sem high] eqA23 eqA40
set_option linter.unusedVariables false
set_option linter.unusedSimpArgs false
set_option maxHeartbeats 1000000 in
theorem pick11_calls (c n : Int) (hc1 : -9223372036854775808 ≤ c) (hc2 : c ≤ 9223372036854775807) (hn : 0 < n) (hn2 : n ≤ 4294967296) (w : World) :
    Calls Try.prog 32 #[.int .i64 c, .int .i64 n] w fun e w' => e = .returned (.int .i64 (pickF c n)) ∧ w' = w := by
  have hb := pickF_bd c n hn
  have hn0 : n ≠ 0 := by omega
  have hn1 : n ≠ -1 := by omega
  by_cases h : c < 0
  · have hd : decide (c < 0) = true := by simpa using h
    have e1 : IntKind.i64.wrap (c + 1) = c + 1 := iw_id _ (by omega) (by omega)
    have e2 : IntKind.i64.wrap (-(c + 1)) = -(c + 1) := iw_id _ (by omega) (by omega)
    have e3 : pickF c n = (-(c + 1)).tmod n := by unfold pickF; rw [if_pos h]
    have e4 : IntKind.i64.wrap ((-(c + 1)).tmod n) = (-(c + 1)).tmod n := iw_id _ (by rw [← e3]; omega) (by rw [← e3]; omega)
    rw [e3]
    go_enter Try.func32, Try.ntmps32
    go_wp2
    go_ret
    exact ⟨by show Ending.returned (Value.int .i64 (-(c + 1).tmod n)) = _; rw [Int.neg_tmod], rfl⟩
  · have hd : decide (c < 0) = false := by simpa using h
    have e3 : pickF c n = c.tmod n := by unfold pickF; rw [if_neg h]
    have e4 : IntKind.i64.wrap (c.tmod n) = c.tmod n := iw_id _ (by rw [← e3]; omega) (by rw [← e3]; omega)
    rw [e3]
    go_enter Try.func32, Try.ntmps32
    go_wp2
    go_ret
    exact ⟨by show Ending.returned (Value.int .i64 (c % n)) = _; rw [Int.tmod_eq_emod_of_nonneg (by omega)], rfl⟩
/-- a core of a shape that may be, placed -/
structure GoodC (c : Cr) : Prop where
  may : c.may = true
  r0 : 1 ≤ c.r
  r1 : c.r ≤ 16384
  ways : Ways c.p c.a
  near : ∀ x ∈ c.p, in3 8388608 x
  p1 : c.p.length ≤ 12
  a1 : c.a.length ≤ 110
  e1 : c.e.length ≤ 66
theorem GoodC.mp {c : Cr} (h : GoodC c) : MayP c.p c.a c.e c.r := Cr.mayP h.may
theorem CoreAt.good {s : Shp} (hs : ShpOk s) (q : P7) (hm : mOk (rowsF q.turn)) (ha : atOk q.at_) (hw : ∀ (l : List P3) (x : P3), x ∈ l → in3 1048576 x → x ≠ ⟨0, 0, 0⟩ → ∃ y ∈ waysF (rowsF q.turn) l, long3 y ≠ ⟨0, 0, 0⟩)
    {w : World} {v : Value} (h : CoreAt s q w v) : ∃ c, CrV w v c ∧ GoodC c := by
  obtain ⟨p, a, e, h1, h2⟩ := h
  have hB := h1.bounds hs
  refine ⟨⟨p.map (placePt (rowsF q.turn) q.at_), waysF (rowsF q.turn) a, waysF (rowsF q.turn) e, s.radius⟩, h2, (mayF_iff ..).2 (h1.may hs hm ha), hs.r0, hs.r1, ?_, h1.in8 hs hm ha, by simp only [List.length_map]; exact hB.p1, Nat.le_trans (waysF_len _ _) hB.a1, Nat.le_trans (waysF_len _ _) hB.e1⟩
  unfold Ways
  rcases h1 with ⟨_, rfl, rfl, rfl⟩ | ⟨_, rfl, rfl, rfl⟩ | ⟨_, rfl, rfl, rfl⟩ | ⟨hk, rfl, hh⟩
  · left; simp
  · left; simp
  · right
    exact hw _ ⟨1, 0, 0⟩ (by simp) (by unfold in3; simp) (by simp)
  · right
    obtain ⟨x, hx, h0, hi⟩ := hull_axis hs.pts (hs.hull hk).2 hh
    exact hw _ x hx hi h0
def TwoPost (w : World) (en : Ending) (w' : World) : Prop := ∃ va vb a b, en = .returned (.tuple #[va, vb]) ∧ CrV w' va a ∧ CrV w' vb b ∧ Below w.heap.size w w' ∧ Fresh w.heap.size va ∧ Fresh w.heap.size vb ∧ GoodC a ∧ GoodC b
theorem two_calls (k1 r1 : Int) (h1 : P3) (l1 : List P3) (A1 : Option Addr) (c1 : Nat) (k2 r2 : Int) (h2 : P3) (l2 : List P3) (A2 : Option Addr) (c2 : Nat) (p q : P7) (near : Int) (way : P3) (w : World)
    (hA1 : RdB w A1 l1) (hr1 : RawOk k1 r1 h1 l1) (hA2 : RdB w A2 l2) (hr2 : RawOk k2 r2 h2 l2) (hp : i64s p) (hq : i64s q) (hne : i64 near) (hwa : pI64 way) :
    Calls Try.prog 19 #[.agg (cTwo k1 r1 h1 A1 l1.length c1 k2 r2 h2 A2 l2.length c2 p q near way)] w (TwoPost w) := by
  refine (cores_calls2 k1 r1 h1 l1 A1 c1 k2 r2 h2 l2 A2 c2 p q near way w hA1 hr1 hA2 hr2 hp hq hne hwa).mono ?_
  rintro en w' ⟨va, vb, rfl, ha, hb_, hb, hfa, hfb⟩
  obtain ⟨a, ha1, ha2⟩ := CoreAt.good (rightS_ok k1 r1 h1 l1) (rightPose p) (rightPose_ok p).1 (rightPose_ok p).2 (fun l x hx hi h0 => ways_turned p hx hi h0) ha
  have hb2 : ∃ c, CrV w' vb c ∧ GoodC c := by
    have hm := (rightPose_ok q).1
    have hw : ∀ (l : List P3) (x : P3), x ∈ l → in3 1048576 x → x ≠ ⟨0, 0, 0⟩ → ∃ y ∈ waysF (rowsF (rightPose q).turn) l, long3 y ≠ ⟨0, 0, 0⟩ := fun l x hx hi h0 => ways_turned q hx hi h0
    have hn := nearF_ok near way p
    obtain ⟨t, ht⟩ : ∃ t, (rightPose q).turn = t := ⟨_, rfl⟩
    rw [ht] at hb_ hm hw
    exact CoreAt.good (rightS_ok k2 r2 h2 l2) ⟨nearF near way (rightPose p).at_, t⟩ hm hn hw hb_
  obtain ⟨b, hb3, hb4⟩ := hb2
  exact ⟨va, vb, a, b, rfl, ha1, hb3, hb, hfa, hfb, ha2, hb4⟩
theorem CrV.setLow {w : World} {v : Value} {c : Cr} (h : CrV w v c) {b g : Nat} (hf : Fresh b v) (hg : g < b) (j : Nat) (u : Value) : CrV (w.setCell ⟨g, j, none⟩ u) v c := CoreV.setLow h hf hg j u
/-- a core's first point, read -/
theorem CrV.first {w : World} {B0 : Option Addr} {n0 d0 : Nat} {x1 x2 x3 : Value} {c : Cr} (h : CrV w (.agg #[.slice B0 n0 d0, x1, x2, x3]) c) (hp : c.p ≠ []) : ∃ b o O, ∃ hO : c.p = O :: c.p.tail, B0 = some ⟨b, o, none⟩ ∧ b < w.heap.size ∧ w.cell? ⟨b, o, none⟩ = some (.int .i64 O.x) ∧ w.cell? ⟨b, o + 1, none⟩ = some (.int .i64 O.y) ∧ w.cell? ⟨b, o + 2, none⟩ = some (.int .i64 O.z) ∧ 0 < n0 := by
  obtain ⟨A0, A1, A2, c0, c1, c2, e, q, _⟩ := h.out
  obtain ⟨O, pr, hO⟩ := List.exists_cons_of_ne_nil hp
  rw [hO] at q
  obtain ⟨b, o, hA, lb, p0, p1, p2⟩ := q.1 0 O rfl
  simp only [Nat.zero_mul, Nat.add_zero] at p0 p1 p2
  injection e with e
  have e1 := congrArg (fun t : Array Value => t[0]?) e
  simp only [List.getElem?_toArray, List.getElem?_cons_zero, Option.some.injEq, Value.slice.injEq] at e1
  obtain ⟨e2, e3, _⟩ := e1
  refine ⟨b, o, O, by rw [hO]; rfl, by rw [e2, hA], lb, p0, p1, p2, ?_⟩
  rw [e3, hO]; simp
end Go.Proofs.Ytckdhahceelckaa.G
namespace Go.Proofs.Ytckdhahceelckaa.G
open Go.RowKit Go.Proofs.YtckdhahceelckaaW.PrintWords Go.Proofs.YtckdhahceelckaaW.PrintLast Go.Proofs.YtckdhahceelckaaW.PrintMore
attribute [local go_sem] max2_mx min2_mn max_two min_two max_three min_three max_four min_four
attribute [local go_sem high] eqA23 eqA40
set_option linter.unusedVariables false
set_option linter.unusedSimpArgs false
/-- what SweepFree asks, as it is reckoned -/
theorem free_ask {a b : Cr} {y : P3} {k : Nat} {x : P3 × Int} (F : FreeP a b y k x) (ha : a.may = true) (hb : b.may = true) (hy : in3 131072 y) (hk : k ≤ 16) :
    ∃ G, wrap64 (wrap64 (wrap64 (x.2 + a.r) + b.r) * fl3 x.1) = G ∧ ∀ P ∈ a.p, ∀ Q ∈ b.p, ∀ m : Int, 0 ≤ m → m ≤ 1024 → decide (wrap64 (wrap64 (1024 * dot3 x.1 (minus3 Q P)) - wrap64 (m * dot3 x.1 (partP y k))) < wrap64 (1024 * G)) = false := by
  have hma := Cr.mayP ha
  have hmb := Cr.mayP hb
  have a0 := hma.r0
  have a1 := hma.r1
  have b0 := hmb.r0
  have b1 := hmb.r1
  have hfp := fl3_pos x.1 F.h0
  have g1 := F.g1
  have g0 := F.g0
  have gl : x.2 + a.r + b.r ≤ 1125899906842624 := by
    have := Int.mul_le_mul_of_nonneg_left hfp g0
    omega
  have e1 : wrap64 (x.2 + a.r) = x.2 + a.r := by unfold wrap64; omega
  have e2 : wrap64 (x.2 + a.r + b.r) = x.2 + a.r + b.r := by unfold wrap64; omega
  have g2 := Int.mul_nonneg g0 (show 0 ≤ fl3 x.1 by omega)
  have e3 : wrap64 ((x.2 + a.r + b.r) * fl3 x.1) = (x.2 + a.r + b.r) * fl3 x.1 := by
    generalize (x.2 + a.r + b.r) * fl3 x.1 = t at g1 g2
    unfold wrap64; omega
  refine ⟨(x.2 + a.r + b.r) * fl3 x.1, by rw [e1, e2, e3], fun P hP Q hQ m h0 h1 => ?_⟩
  have hf := F.all P hP Q hQ m h0 h1
  generalize (x.2 + a.r + b.r) * fl3 x.1 = G at g1 g2 hf
  have hPi := far_in (by decide) (by decide) hma.pf P hP
  have hQi := far_in (by decide) (by decide) hmb.pf Q hQ
  have hd : -140737488355328 ≤ dot3 x.1 (minus3 Q P) ∧ dot3 x.1 (minus3 Q P) ≤ 140737488355328 := by
    rw [dot3_minus F.hn hPi hQi, dot3_eq x.1 Q 1048576 16777216 F.hn hQi (by decide), dot3_eq x.1 P 1048576 16777216 F.hn hPi (by decide)]
    have := dotI_bd x.1 Q 1048576 16777216 F.hn hQi
    have := dotI_bd x.1 P 1048576 16777216 F.hn hPi
    omega
  have hby : in3 131072 (partP y k) := partP_bd y k (by omega) (by omega) _ hy (by decide)
  have he : -1099511627776 ≤ dot3 x.1 (partP y k) ∧ dot3 x.1 (partP y k) ≤ 1099511627776 := by
    rw [dot3_eq x.1 (partP y k) 1048576 131072 F.hn hby (by decide)]
    have := dotI_bd x.1 (partP y k) 1048576 131072 F.hn hby
    omega
  generalize dot3 x.1 (minus3 Q P) = D at hd hf
  generalize dot3 x.1 (partP y k) = E at he hf
  have hm : -1125899906842624 ≤ m * E ∧ m * E ≤ 1125899906842624 := by
    have q1 := Int.mul_nonneg h0 (show 0 ≤ E + 1099511627776 by omega)
    have q2 := Int.mul_nonneg h0 (show 0 ≤ 1099511627776 - E by omega)
    rw [Int.mul_add] at q1
    rw [Int.mul_sub] at q2
    omega
  generalize m * E = ME at hm hf
  have w1 : wrap64 (1024 * D) = 1024 * D := by unfold wrap64; omega
  have w2 : wrap64 ME = ME := by unfold wrap64; omega
  have w3 : wrap64 (1024 * D - ME) = 1024 * D - ME := by unfold wrap64; omega
  have w4 : wrap64 (1024 * G) = 1024 * G := by unfold wrap64; omega
  rw [w1, w2, w3, w4]
  exact decide_eq_false (by omega)
set_option maxHeartbeats 16000000 in
set_option maxRecDepth 100000 in
theorem free_law (k1 r1 : Int) (h1 : P3) (l1 : List P3) (A1 : Option Addr) (c1 : Nat) (k2 r2 : Int) (h2 : P3) (l2 : List P3) (A2 : Option Addr) (c2 : Nat) (p q : P7) (near : Int) (way : P3) (v0 : P3) (mo : Int) (w : World)
    (hA1 : RdB w A1 l1) (hr1 : RawOk k1 r1 h1 l1) (hA2 : RdB w A2 l2) (hr2 : RawOk k2 r2 h2 l2) (hp : i64s p) (hq : i64s q) (hne : i64 near) (hwa : pI64 way) (hv : pI64 v0) (hmo : i64 mo) :
    Calls Try.prog 12 #[.agg (cTwo k1 r1 h1 A1 l1.length c1 k2 r2 h2 A2 l2.length c2 p q near way), aP v0, .int .i64 mo] w fun e w' => e = .returned (.bool true) ∧ Below w.heap.size w w' := by
  have HPvx := Lh (fun (W : World) => pick11_calls v0.x 262144 hv.1.1 hv.1.2 (by decide) (by decide) W)
  have bvx := pickF_bd v0.x 262144 (by decide)
  obtain ⟨qvx, hqvx⟩ : ∃ n, pickF v0.x 262144 = n := ⟨_, rfl⟩
  rw [hqvx] at HPvx bvx
  have Dvx := Lh bvx
  have HPvy := Lh (fun (W : World) => pick11_calls v0.y 262144 hv.2.1.1 hv.2.1.2 (by decide) (by decide) W)
  have bvy := pickF_bd v0.y 262144 (by decide)
  obtain ⟨qvy, hqvy⟩ : ∃ n, pickF v0.y 262144 = n := ⟨_, rfl⟩
  rw [hqvy] at HPvy bvy
  have Dvy := Lh bvy
  have HPvz := Lh (fun (W : World) => pick11_calls v0.z 262144 hv.2.2.1 hv.2.2.2 (by decide) (by decide) W)
  have bvz := pickF_bd v0.z 262144 (by decide)
  obtain ⟨qvz, hqvz⟩ : ∃ n, pickF v0.z 262144 = n := ⟨_, rfl⟩
  rw [hqvz] at HPvz bvz
  have Dvz := Lh bvz
  have HPM := Lh (fun (W : World) => pick11_calls mo 1025 hmo.1 hmo.2 (by decide) (by decide) W)
  have bm := pickF_bd mo 1025 (by decide)
  obtain ⟨qm, hqm⟩ : ∃ n, pickF mo 1025 = n := ⟨_, rfl⟩
  rw [hqm] at HPM bm
  have DM := Lh bm
  obtain ⟨vx, vy, vz⟩ := v0
  simp only at HPvx HPvy HPvz
  clear hv hmo hqm bm bvx hqvx bvy hqvy bvz hqvz
  have HC := Lh (fun (W : World) (hW1 : RdB W A1 l1) (hW2 : RdB W A2 l2) => two_calls k1 r1 h1 l1 A1 c1 k2 r2 h2 l2 A2 c2 p q near way W hW1 hr1 hW2 hr2 hp hq hne hwa)
  have HA1 := Lh hA1
  have HA2 := Lh hA2
  obtain ⟨N1, hN1⟩ : ∃ N, l1.length = N := ⟨_, rfl⟩
  obtain ⟨N2, hN2⟩ : ∃ N, l2.length = N := ⟨_, rfl⟩
  rw [hN1, hN2] at HC ⊢
  clear hA1 hr1 hA2 hr2 hp hq hne hwa hN1 hN2
  obtain ⟨h1x, h1y, h1z⟩ := h1
  obtain ⟨h2x, h2y, h2z⟩ := h2
  obtain ⟨⟨pax, pay, paz⟩, ⟨ptw, ptx, pty, ptz⟩⟩ := p
  obtain ⟨⟨qax, qay, qaz⟩, ⟨qtw, qtx, qty, qtz⟩⟩ := q
  obtain ⟨wx, wy, wz⟩ := way
  have W := Lh (Below.refl w.heap.size w)
  go_enter Try.func12, Try.ntmps12
  go_wp2_with fail
  have bz := (((Below.refl w.heap.size w).alloc (Nat.le_refl _) (.cells #[.int .i64 k1, .int .i64 r1, .int .i64 h1x, .int .i64 h1y, .int .i64 h1z, .slice A1 N1 c1, .int .i64 k2, .int .i64 r2, .int .i64 h2x, .int .i64 h2y, .int .i64 h2z, .slice A2 N2 c2, .int .i64 pax, .int .i64 pay, .int .i64 paz, .int .i64 ptw, .int .i64 ptx, .int .i64 pty, .int .i64 ptz, .int .i64 qax, .int .i64 qay, .int .i64 qaz, .int .i64 qtw, .int .i64 qtx, .int .i64 qty, .int .i64 qtz, .int .i64 near, .int .i64 wx, .int .i64 wy, .int .i64 wz] 33)).alloc (by simp) (.cells #[.int .i64 vx, .int .i64 vy, .int .i64 vz] 23))
  have nz0 := heap_alloc_new w (.cells #[.int .i64 k1, .int .i64 r1, .int .i64 h1x, .int .i64 h1y, .int .i64 h1z, .slice A1 N1 c1, .int .i64 k2, .int .i64 r2, .int .i64 h2x, .int .i64 h2y, .int .i64 h2z, .slice A2 N2 c2, .int .i64 pax, .int .i64 pay, .int .i64 paz, .int .i64 ptw, .int .i64 ptx, .int .i64 pty, .int .i64 ptz, .int .i64 qax, .int .i64 qay, .int .i64 qaz, .int .i64 qtw, .int .i64 qtx, .int .i64 qty, .int .i64 qtz, .int .i64 near, .int .i64 wx, .int .i64 wy, .int .i64 wz] 33)
  replace nz0 := (Below.heap_alloc _ (.cells #[.int .i64 vx, .int .i64 vy, .int .i64 vz] 23) _ (by simp <;> omega)).trans nz0
  have nz1 := heap_alloc_new (w.alloc (.cells #[.int .i64 k1, .int .i64 r1, .int .i64 h1x, .int .i64 h1y, .int .i64 h1z, .slice A1 N1 c1, .int .i64 k2, .int .i64 r2, .int .i64 h2x, .int .i64 h2y, .int .i64 h2z, .slice A2 N2 c2, .int .i64 pax, .int .i64 pay, .int .i64 paz, .int .i64 ptw, .int .i64 ptx, .int .i64 pty, .int .i64 ptz, .int .i64 qax, .int .i64 qay, .int .i64 qaz, .int .i64 qtw, .int .i64 qtx, .int .i64 qty, .int .i64 qtz, .int .i64 near, .int .i64 wx, .int .i64 wy, .int .i64 wz] 33)) (.cells #[.int .i64 vx, .int .i64 vy, .int .i64 vz] 23)
  simp only [World.size_alloc] at nz1
  obtain ⟨w1, hwz⟩ : ∃ V, ((w.alloc (.cells #[.int .i64 k1, .int .i64 r1, .int .i64 h1x, .int .i64 h1y, .int .i64 h1z, .slice A1 N1 c1, .int .i64 k2, .int .i64 r2, .int .i64 h2x, .int .i64 h2y, .int .i64 h2z, .slice A2 N2 c2, .int .i64 pax, .int .i64 pay, .int .i64 paz, .int .i64 ptw, .int .i64 ptx, .int .i64 pty, .int .i64 ptz, .int .i64 qax, .int .i64 qay, .int .i64 qaz, .int .i64 qtw, .int .i64 qtx, .int .i64 qty, .int .i64 qtz, .int .i64 near, .int .i64 wx, .int .i64 wy, .int .i64 wz] 33)).alloc (.cells #[.int .i64 vx, .int .i64 vy, .int .i64 vz] 23)) = V := ⟨_, rfl⟩
  rw [hwz] at bz nz0 nz1 ⊢
  replace W := Lh (bthen W.out bz)
  have T0 := Lh nz0
  have V0 := Lh nz1
  clear hwz bz nz0 nz1
  refine (awake11_calls _).mono ?_
  rintro en w2 ⟨rfl, hb⟩
  replace T0 := Lh ((hb.block _ (blk_lt T0.out)).trans T0.out)
  replace V0 := Lh ((hb.block _ (blk_lt V0.out)).trans V0.out)
  replace W := Lh (bthen W.out hb)
  clear hb
  have LV := Lh (blk_lt V0.out)
  go_wp2_with (refine wpList_load_row rfl 33 _ rfl w.heap.size rfl 33 _ (0, 0) _ T0.out Try.underlying33 rfl (by kernel_rfl) ?_)
  refine (HC.out _ (HA1.out.below W.out) (HA2.out.below W.out)).mono ?_
  rintro en w3 ⟨va, vb, a, b, rfl, ha, hbv, hb, hfa, hfb, ga, gb⟩
  replace V0 := Lh ((hb.block _ (blk_lt V0.out)).trans V0.out)
  replace W := Lh (bthen W.out hb)
  have LWS := Lh hb.size
  clear hb
  have GA := Lh ga
  have GB := Lh gb
  have HV := Lh ha
  have HVB := Lh hbv
  have HFA := Lh hfa
  have HFB := Lh hfb
  obtain ⟨B0, B1, B2, d0, d1, d2, hva, q0, _⟩ := id ha.out
  obtain ⟨B3, B4, B5, d3, d4, d5, hvb, q3, _⟩ := id hbv.out
  have Q0 := Lh q0
  have Q3 := Lh q3
  obtain ⟨n0, hn0⟩ : ∃ n, a.p.length = n := ⟨_, rfl⟩
  obtain ⟨n1, hn1⟩ : ∃ n, a.a.length = n := ⟨_, rfl⟩
  obtain ⟨n2, hn2⟩ : ∃ n, a.e.length = n := ⟨_, rfl⟩
  obtain ⟨n3, hn3⟩ : ∃ n, b.p.length = n := ⟨_, rfl⟩
  obtain ⟨n4, hn4⟩ : ∃ n, b.a.length = n := ⟨_, rfl⟩
  obtain ⟨n5, hn5⟩ : ∃ n, b.e.length = n := ⟨_, rfl⟩
  obtain ⟨ra, hra⟩ : ∃ n, a.r = n := ⟨_, rfl⟩
  obtain ⟨rb, hrb⟩ : ∃ n, b.r = n := ⟨_, rfl⟩
  rw [hn0, hn1, hn2, hra] at hva
  rw [hn3, hn4, hn5, hrb] at hvb
  have HN0 := Lh hn0
  have HN3 := Lh hn3
  have HRA := Lh hra
  have HRB := Lh hrb
  subst hva hvb
  clear hn0 hn1 hn2 hn3 hn4 hn5 hra hrb ha hbv hfa hfb ga gb q0 q3 HC
  clear T0
  go_upto_region 3 with fail
  have bz := (((Below.refl w3.heap.size w3).alloc (Nat.le_refl _) (.cells #[.slice B0 n0 d0, .slice B1 n1 d1, .slice B2 n2 d2, .int .i64 ra] 36)).alloc (by simp) (.cells #[.slice B3 n3 d3, .slice B4 n4 d4, .slice B5 n5 d5, .int .i64 rb] 36))
  have nz0 := heap_alloc_new w3 (.cells #[.slice B0 n0 d0, .slice B1 n1 d1, .slice B2 n2 d2, .int .i64 ra] 36)
  replace nz0 := (Below.heap_alloc _ (.cells #[.slice B3 n3 d3, .slice B4 n4 d4, .slice B5 n5 d5, .int .i64 rb] 36) _ (by simp <;> omega)).trans nz0
  have nz1 := heap_alloc_new (w3.alloc (.cells #[.slice B0 n0 d0, .slice B1 n1 d1, .slice B2 n2 d2, .int .i64 ra] 36)) (.cells #[.slice B3 n3 d3, .slice B4 n4 d4, .slice B5 n5 d5, .int .i64 rb] 36)
  simp only [World.size_alloc] at nz1
  obtain ⟨w4, hwz⟩ : ∃ V, ((w3.alloc (.cells #[.slice B0 n0 d0, .slice B1 n1 d1, .slice B2 n2 d2, .int .i64 ra] 36)).alloc (.cells #[.slice B3 n3 d3, .slice B4 n4 d4, .slice B5 n5 d5, .int .i64 rb] 36)) = V := ⟨_, rfl⟩
  rw [hwz] at bz nz0 nz1 ⊢
  replace V0 := Lh ((bz.block _ (blk_lt V0.out)).trans V0.out)
  replace HV := Lh (HV.out.below bz)
  replace HVB := Lh (HVB.out.below bz)
  replace W := Lh (bthen W.out bz)
  have CA := Lh nz0
  have CB := Lh nz1
  clear hwz bz nz0 nz1
  have LW3S := Lh (blk_lt CB.out)
  have x0 : w4.cell? ⟨w3.heap.size, 0, none⟩ = some (.slice B0 n0 d0) := (blk_cell CA.out 0).trans rfl
  have x1 : w4.cell? ⟨w3.heap.size, 1, none⟩ = some (.slice B1 n1 d1) := (blk_cell CA.out 1).trans rfl
  have x2 : w4.cell? ⟨w3.heap.size, 2, none⟩ = some (.slice B2 n2 d2) := (blk_cell CA.out 2).trans rfl
  have x3 : w4.cell? ⟨w3.heap.size, 3, none⟩ = some (.int .i64 ra) := (blk_cell CA.out 3).trans rfl
  have xl : w3.heap.size < w4.heap.size := blk_lt CA.out
  have y0 : w4.cell? ⟨w3.heap.size + 1, 0, none⟩ = some (.slice B3 n3 d3) := (blk_cell CB.out 0).trans rfl
  have y1 : w4.cell? ⟨w3.heap.size + 1, 1, none⟩ = some (.slice B4 n4 d4) := (blk_cell CB.out 1).trans rfl
  have y2 : w4.cell? ⟨w3.heap.size + 1, 2, none⟩ = some (.slice B5 n5 d5) := (blk_cell CB.out 2).trans rfl
  have y3 : w4.cell? ⟨w3.heap.size + 1, 3, none⟩ = some (.int .i64 rb) := (blk_cell CB.out 3).trans rfl
  have yl : w3.heap.size + 1 < w4.heap.size := blk_lt CB.out
  have v0 : w4.cell? ⟨w.heap.size + 1, 0, none⟩ = some (.int .i64 vx) := (blk_cell V0.out 0).trans rfl
  have v1 : w4.cell? ⟨w.heap.size + 1, 1, none⟩ = some (.int .i64 vy) := (blk_cell V0.out 1).trans rfl
  have v2 : w4.cell? ⟨w.heap.size + 1, 2, none⟩ = some (.int .i64 vz) := (blk_cell V0.out 2).trans rfl
  have vl : w.heap.size + 1 < w4.heap.size := blk_lt V0.out
  by_cases t1 : 16 < (n2 : Int)
  · have e1 : decide (16 < (n2 : Int)) = true := decide_eq_true t1
    clear t1
    go_wp2
    go_ret
    exact ⟨rfl, W.out⟩
  have e1 : decide (16 < (n2 : Int)) = false := decide_eq_false t1
  by_cases t2 : 16 < (n5 : Int)
  · have e2 : decide (16 < (n5 : Int)) = true := decide_eq_true t2
    clear t1 t2
    go_wp2
    go_ret
    exact ⟨rfl, W.out⟩
  have e2 : decide (16 < (n5 : Int)) = false := decide_eq_false t2
  clear t1 t2
  go_wp2_with fail
  clear e1 e2
  have LW := Lh (show w.heap.size + 1 < w3.heap.size from Nat.lt_of_lt_of_le LV.out LWS.out)
  have NE : Hid (w3.heap.size ≠ w.heap.size + 1 ∧ w3.heap.size + 1 ≠ w.heap.size + 1) := Lh (by have := LW.out; omega)
  have HB := Lh ((Below.refl (w4.heap.size) w4).drew)
  have HD := Lh ((Below.refl w4.heap.size w4).drew)
  have CA_ := Lh (show w4.drew.heap[w3.heap.size]? = _ from CA.out)
  have CB_ := Lh (show w4.drew.heap[w3.heap.size + 1]? = _ from CB.out)
  have HA := Lh (show w4.drew.heap[(w.heap.size + 1)]? = _ from V0.out)
  have FF := Lh (show ∀ V, Hid (Below (w4.heap.size) w4 V) → V.cell? ⟨w.heap.size + 1, 0, none⟩ = some (.int .i64 vx) ∧ V.cell? ⟨w.heap.size + 1, 1, none⟩ = some (.int .i64 vy) ∧ V.cell? ⟨w.heap.size + 1, 2, none⟩ = some (.int .i64 vz) from fun V HB => ⟨(HB.out.cell (p := ⟨w.heap.size + 1, 0, none⟩) (vl)).trans v0, (HB.out.cell (p := ⟨w.heap.size + 1, 1, none⟩) (vl)).trans v1, (HB.out.cell (p := ⟨w.heap.size + 1, 2, none⟩) (vl)).trans v2⟩)
  refine start_ (n := 14) (S := fun w' => w'.cell? ⟨w.heap.size + 1, 0, none⟩ = some (.int .i64 vx) ∧ w'.cell? ⟨w.heap.size + 1, 1, none⟩ = some (.int .i64 vy) ∧ w'.cell? ⟨w.heap.size + 1, 2, none⟩ = some (.int .i64 vz)) (ds := [13]) (MT 0 14) (by kernel_rfl) rfl rfl (FF.out _ HB) (fun hHeld => ?_)
  obtain ⟨wd, hwd⟩ : ∃ x, w4.drew = x := ⟨_, rfl⟩
  rw [hwd] at HB hHeld HD HA CA_ CB_ ⊢
  clear hwd
  refine pu_ 0 42 (h := ?_)
  refine pu_ 4 46 (h := ?_)
  refine pu_ 8 50 (h := ?_)
  refine ta_ 1 43 hHeld (h := ?_)
  refine ta_ 5 47 hHeld (h := ?_)
  refine ta_ 9 51 hHeld (h := ?_)
  refine on_ 2 (some 44) (h := fun K hK => ?_)
  refine gs_ Try.func32 #[.int .i64 vx, .int .i64 262144] ?_
  with_reducible refine (HPvx.out _).mono ?_
  rintro e' w99 ⟨rfl, rfl⟩
  refine ⟨_, rfl, ?_⟩
  refine hK.out _ _ (FF.out _ HB) (fun hHeld => ?_)
  clear hK K
  refine no_ (h := ?_)
  refine pu_ 3 45 (h := ?_)
  refine on_ 6 (some 48) (h := fun K hK => ?_)
  refine gs_ Try.func32 #[.int .i64 vy, .int .i64 262144] ?_
  with_reducible refine (HPvy.out _).mono ?_
  rintro e' w99 ⟨rfl, rfl⟩
  refine ⟨_, rfl, ?_⟩
  refine hK.out _ _ (FF.out _ HB) (fun hHeld => ?_)
  clear hK K
  refine no_ (h := ?_)
  refine pu_ 7 49 (h := ?_)
  refine on_ 10 (some 52) (h := fun K hK => ?_)
  refine gs_ Try.func32 #[.int .i64 vz, .int .i64 262144] ?_
  with_reducible refine (HPvz.out _).mono ?_
  rintro e' w99 ⟨rfl, rfl⟩
  refine ⟨_, rfl, ?_⟩
  refine hK.out _ _ (FF.out _ HB) (fun hHeld => ?_)
  clear hK K
  refine no_ (h := ?_)
  refine pu_ 11 53 (h := ?_)
  refine pu_ 12 54 (h := ?_)
  refine last_ (i := 13) (N := none) (MT 14 0) rfl rfl (by kernel_rfl) (by decide) (fun K hK => ?_)
  have sc0 : World.cell? _ ⟨(w.heap.size + 1), 0, none⟩ = some (.int .i64 vx) := (blk_cell HA.out 0).trans rfl
  have sf0 := blk_frozen HA.out 0
  have sc1 : World.cell? _ ⟨(w.heap.size + 1), 1, none⟩ = some (.int .i64 vy) := (blk_cell HA.out 1).trans rfl
  have sf1 := blk_frozen HA.out 1
  have sc2 : World.cell? _ ⟨(w.heap.size + 1), 2, none⟩ = some (.int .i64 vz) := (blk_cell HA.out 2).trans rfl
  have sf2 := blk_frozen HA.out 2
  refine skip_ (w1 := ?_) (by rfl) rfl ?_ ?_
  rotate_left
  · go_simp
    rfl
  have HB := Lh (show Below (w.heap.size) _ _ from HB.out.mono (show w.heap.size ≤ _ by have := vl; omega))
  have HA := Lh (bs3 HA.out (.int .i64 (wrap64 (qvx - 131072))) (.int .i64 (wrap64 (qvy - 131072))) (.int .i64 (wrap64 (qvz - 131072))))
  have HB := Lh (bb3 HB.out (show w.heap.size ≤ w.heap.size + 1 by omega) (.int .i64 (wrap64 (qvx - 131072))) (.int .i64 (wrap64 (qvy - 131072))) (.int .i64 (wrap64 (qvz - 131072))))
  clear sc0 sf0 sc1 sf1 sc2 sf2
  refine hK.out _ _ ?_
  clear hK K
  refine done_ (by kernel_rfl) ?_
  have CA_ := Lh ((bo3 (NE.out.1) (.int .i64 (wrap64 (qvx - 131072))) (.int .i64 (wrap64 (qvy - 131072))) (.int .i64 (wrap64 (qvz - 131072)))).trans CA_.out)
  have CB_ := Lh ((bo3 (NE.out.2) (.int .i64 (wrap64 (qvx - 131072))) (.int .i64 (wrap64 (qvy - 131072))) (.int .i64 (wrap64 (qvz - 131072)))).trans CB_.out)
  have HV_ := Lh ((((HV.out.below HD.out).setLow HFA.out (LV.out) 0 (.int .i64 (wrap64 (qvx - 131072)))).setLow HFA.out (LV.out) 1 (.int .i64 (wrap64 (qvy - 131072)))).setLow HFA.out (LV.out) 2 (.int .i64 (wrap64 (qvz - 131072))))
  have HVB_ := Lh ((((HVB.out.below HD.out).setLow HFB.out (LV.out) 0 (.int .i64 (wrap64 (qvx - 131072)))).setLow HFB.out (LV.out) 1 (.int .i64 (wrap64 (qvy - 131072)))).setLow HFB.out (LV.out) 2 (.int .i64 (wrap64 (qvz - 131072))))
  obtain ⟨w5, hwn⟩ : ∃ V, (((w99.setCell ⟨(w.heap.size + 1), 0, none⟩ (.int .i64 (wrap64 (qvx - 131072)))).setCell ⟨(w.heap.size + 1), 1, none⟩ (.int .i64 (wrap64 (qvy - 131072)))).setCell ⟨(w.heap.size + 1), 2, none⟩ (.int .i64 (wrap64 (qvz - 131072)))) = V := ⟨_, rfl⟩
  rw [hwn] at HA HB CA_ CB_ HV_ HVB_ ⊢
  clear hwn
  replace V0 := HA
  replace CA := CA_
  replace CB := CB_
  replace HV := HV_
  replace HVB := HVB_
  replace W := Lh (W.out.trans HB.out)
  clear x0 x1 x2 x3 xl y0 y1 y2 y3 yl v0 v1 v2 vl HA HB HD hHeld FF CA_ CB_ HV_ HVB_
  obtain ⟨Vx, hVx⟩ : ∃ n, (wrap64 (qvx - 131072)) = n := ⟨_, rfl⟩
  rw [hVx] at V0
  obtain ⟨Vy, hVy⟩ : ∃ n, (wrap64 (qvy - 131072)) = n := ⟨_, rfl⟩
  rw [hVy] at V0
  obtain ⟨Vz, hVz⟩ : ∃ n, (wrap64 (qvz - 131072)) = n := ⟨_, rfl⟩
  rw [hVz] at V0
  have HY : Hid (in3 131072 ⟨Vx, Vy, Vz⟩) := Lh (by
    have h2 := Dvx.out
    have h3 := Dvy.out
    have h4 := Dvz.out
    rw [← hVx, ← hVy, ← hVz]
    unfold in3
    unfold wrap64
    simp only
    omega)
  clear hVx hVy hVz Dvx Dvy Dvz NE LW LV HFA HFB HPvx HPvy HPvz LWS LW3S
  have HOK := Lh (castOk_near GA.out.may GB.out.may (by have := GA.out.p1; omega) GA.out.near (in3_le (by decide) HY.out))
  have HCS := Lh (fun (W : World) (h1 : CrV W (.agg #[.slice B0 n0 d0, .slice B1 n1 d1, .slice B2 n2 d2, .int .i64 ra]) a) (h2 : CrV W (.agg #[.slice B3 n3 d3, .slice B4 n4 d4, .slice B5 n5 d5, .int .i64 rb]) b) => cast_calls h1 h2 ⟨Vx, Vy, Vz⟩ (by have := GA.out.p1; omega))
  have HXO := Lh (castF_ok HOK.out)
  have HNEG := Lh (fun k x h1 h2 => cast_neg (k := k) (x := x) HOK.out h1 h2)
  have HFREE := Lh (fun k x h1 h2 => free_plain (k := k) (x := x) HOK.out (by have := GA.out.r0; have := GB.out.r0; omega) h1 h2)
  have HKL := Lh (castF_le a ⟨Vx, Vy, Vz⟩ b)
  obtain ⟨R, hR⟩ : ∃ R, castF a ⟨Vx, Vy, Vz⟩ b = R := ⟨_, rfl⟩
  rw [hR] at HCS HXO HNEG HFREE HKL
  obtain ⟨⟨k, ⟨Xx, Xy, Xz⟩, Xg⟩, Xo⟩ := R
  have hXo : Xo = true := HXO.out
  subst hXo
  (try simp only at HCS HNEG HFREE HKL)
  clear hR HXO HOK
  have x0 : w5.cell? ⟨w3.heap.size, 0, none⟩ = some (.slice B0 n0 d0) := (blk_cell CA.out 0).trans rfl
  have x1 : w5.cell? ⟨w3.heap.size, 1, none⟩ = some (.slice B1 n1 d1) := (blk_cell CA.out 1).trans rfl
  have x2 : w5.cell? ⟨w3.heap.size, 2, none⟩ = some (.slice B2 n2 d2) := (blk_cell CA.out 2).trans rfl
  have x3 : w5.cell? ⟨w3.heap.size, 3, none⟩ = some (.int .i64 ra) := (blk_cell CA.out 3).trans rfl
  have xl : w3.heap.size < w5.heap.size := blk_lt CA.out
  have y0 : w5.cell? ⟨w3.heap.size + 1, 0, none⟩ = some (.slice B3 n3 d3) := (blk_cell CB.out 0).trans rfl
  have y1 : w5.cell? ⟨w3.heap.size + 1, 1, none⟩ = some (.slice B4 n4 d4) := (blk_cell CB.out 1).trans rfl
  have y2 : w5.cell? ⟨w3.heap.size + 1, 2, none⟩ = some (.slice B5 n5 d5) := (blk_cell CB.out 2).trans rfl
  have y3 : w5.cell? ⟨w3.heap.size + 1, 3, none⟩ = some (.int .i64 rb) := (blk_cell CB.out 3).trans rfl
  have yl : w3.heap.size + 1 < w5.heap.size := blk_lt CB.out
  have v0 : w5.cell? ⟨w.heap.size + 1, 0, none⟩ = some (.int .i64 Vx) := (blk_cell V0.out 0).trans rfl
  have v1 : w5.cell? ⟨w.heap.size + 1, 1, none⟩ = some (.int .i64 Vy) := (blk_cell V0.out 1).trans rfl
  have v2 : w5.cell? ⟨w.heap.size + 1, 2, none⟩ = some (.int .i64 Vz) := (blk_cell V0.out 2).trans rfl
  have vl : w.heap.size + 1 < w5.heap.size := blk_lt V0.out
  go_wp2_with fail
  with_reducible refine (HCS.out _ HV.out HVB.out).mono ?_
  rintro en w6 ⟨rfl, hb⟩
  replace V0 := Lh ((hb.block _ (blk_lt V0.out)).trans V0.out)
  replace CA := Lh ((hb.block _ (blk_lt CA.out)).trans CA.out)
  replace CB := Lh ((hb.block _ (blk_lt CB.out)).trans CB.out)
  replace HV := Lh (HV.out.below hb)
  replace HVB := Lh (HVB.out.below hb)
  replace W := Lh (bthen W.out hb)
  clear hb x0 x1 x2 x3 xl y0 y1 y2 y3 yl v0 v1 v2 vl
  go_upto_region 7 with fail
  have bz := ((Below.refl w6.heap.size w6).alloc (Nat.le_refl _) (.cells #[.int .i64 Xx, .int .i64 Xy, .int .i64 Xz, .int .i64 Xg] 40))
  have nz0 := heap_alloc_new w6 (.cells #[.int .i64 Xx, .int .i64 Xy, .int .i64 Xz, .int .i64 Xg] 40)
  obtain ⟨w7, hwz⟩ : ∃ V, (w6.alloc (.cells #[.int .i64 Xx, .int .i64 Xy, .int .i64 Xz, .int .i64 Xg] 40)) = V := ⟨_, rfl⟩
  rw [hwz] at bz nz0 ⊢
  replace V0 := Lh ((bz.block _ (blk_lt V0.out)).trans V0.out)
  replace CA := Lh ((bz.block _ (blk_lt CA.out)).trans CA.out)
  replace CB := Lh ((bz.block _ (blk_lt CB.out)).trans CB.out)
  replace HV := Lh (HV.out.below bz)
  replace HVB := Lh (HVB.out.below bz)
  replace W := Lh (bthen W.out bz)
  have XC := Lh nz0
  clear hwz bz nz0
  obtain ⟨XB, hXB⟩ : ∃ n, w6.heap.size = n := ⟨_, rfl⟩
  rw [hXB] at XC ⊢
  clear hXB HCS
  have x0 : w7.cell? ⟨w3.heap.size, 0, none⟩ = some (.slice B0 n0 d0) := (blk_cell CA.out 0).trans rfl
  have x1 : w7.cell? ⟨w3.heap.size, 1, none⟩ = some (.slice B1 n1 d1) := (blk_cell CA.out 1).trans rfl
  have x2 : w7.cell? ⟨w3.heap.size, 2, none⟩ = some (.slice B2 n2 d2) := (blk_cell CA.out 2).trans rfl
  have x3 : w7.cell? ⟨w3.heap.size, 3, none⟩ = some (.int .i64 ra) := (blk_cell CA.out 3).trans rfl
  have xl : w3.heap.size < w7.heap.size := blk_lt CA.out
  have y0 : w7.cell? ⟨w3.heap.size + 1, 0, none⟩ = some (.slice B3 n3 d3) := (blk_cell CB.out 0).trans rfl
  have y1 : w7.cell? ⟨w3.heap.size + 1, 1, none⟩ = some (.slice B4 n4 d4) := (blk_cell CB.out 1).trans rfl
  have y2 : w7.cell? ⟨w3.heap.size + 1, 2, none⟩ = some (.slice B5 n5 d5) := (blk_cell CB.out 2).trans rfl
  have y3 : w7.cell? ⟨w3.heap.size + 1, 3, none⟩ = some (.int .i64 rb) := (blk_cell CB.out 3).trans rfl
  have yl : w3.heap.size + 1 < w7.heap.size := blk_lt CB.out
  have v0 : w7.cell? ⟨w.heap.size + 1, 0, none⟩ = some (.int .i64 Vx) := (blk_cell V0.out 0).trans rfl
  have v1 : w7.cell? ⟨w.heap.size + 1, 1, none⟩ = some (.int .i64 Vy) := (blk_cell V0.out 1).trans rfl
  have v2 : w7.cell? ⟨w.heap.size + 1, 2, none⟩ = some (.int .i64 Vz) := (blk_cell V0.out 2).trans rfl
  have vl : w.heap.size + 1 < w7.heap.size := blk_lt V0.out
  have c0 : w7.cell? ⟨XB, 0, none⟩ = some (.int .i64 Xx) := (blk_cell XC.out 0).trans rfl
  have c1 : w7.cell? ⟨XB, 1, none⟩ = some (.int .i64 Xy) := (blk_cell XC.out 1).trans rfl
  have c2 : w7.cell? ⟨XB, 2, none⟩ = some (.int .i64 Xz) := (blk_cell XC.out 2).trans rfl
  have c3 : w7.cell? ⟨XB, 3, none⟩ = some (.int .i64 Xg) := (blk_cell XC.out 3).trans rfl
  have cl : XB < w7.heap.size := blk_lt XC.out
  have hk0 : decide ((k : Int) < 0) = false := decide_eq_false (by omega)
  have hk1 : decide (16 < (k : Int)) = false := decide_eq_false (by have : k ≤ 16 := HKL.out; omega)
  have hk16 : k ≤ 16 := HKL.out
  by_cases tg : Xg < 0
  · have eg : decide (Xg < 0) = true := decide_eq_true tg
    obtain ⟨hk, hX⟩ := HNEG.out k _ rfl tg
    subst hk
    have HAP := Lh (fun (W : World) (h1 : CrV W (.agg #[.slice B0 n0 d0, .slice B1 n1 d1, .slice B2 n2 d2, .int .i64 ra]) a) (h2 : CrV W (.agg #[.slice B3 n3 d3, .slice B4 n4 d4, .slice B5 n5 d5, .int .i64 rb]) b) => apart_all h1 h2 (apS a b) rfl)
    rw [apS_val GA.out.may GB.out.may] at hX HAP
    simp only at hX HAP
    rw [← hX] at HAP
    simp only at HAP
    clear hX tg HNEG HFREE
    go_wp2_with fail
    with_reducible refine (HAP.out _ HV.out HVB.out).mono ?_
    rintro en w8 ⟨rfl, hb⟩
    replace V0 := Lh ((hb.block _ (blk_lt V0.out)).trans V0.out)
    replace CA := Lh ((hb.block _ (blk_lt CA.out)).trans CA.out)
    replace CB := Lh ((hb.block _ (blk_lt CB.out)).trans CB.out)
    replace XC := Lh ((hb.block _ (blk_lt XC.out)).trans XC.out)
    replace HV := Lh (HV.out.below hb)
    replace HVB := Lh (HVB.out.below hb)
    replace W := Lh (bthen W.out hb)
    clear hb x0 x1 x2 x3 xl y0 y1 y2 y3 yl v0 v1 v2 vl c0 c1 c2 c3 cl
    have c0 : w8.cell? ⟨XB, 0, none⟩ = some (.int .i64 Xx) := (blk_cell XC.out 0).trans rfl
    have c1 : w8.cell? ⟨XB, 1, none⟩ = some (.int .i64 Xy) := (blk_cell XC.out 1).trans rfl
    have c2 : w8.cell? ⟨XB, 2, none⟩ = some (.int .i64 Xz) := (blk_cell XC.out 2).trans rfl
    have c3 : w8.cell? ⟨XB, 3, none⟩ = some (.int .i64 Xg) := (blk_cell XC.out 3).trans rfl
    have cl : XB < w8.heap.size := blk_lt XC.out
    have heq : eqP Xx Xy Xz Xx Xy Xz = true := eqP_yes rfl
    go_wp2
    go_ret
    exact ⟨rfl, bthen W.out ((Below.refl _ _).alloc (Nat.le_refl _) _)⟩
  have eg : decide (Xg < 0) = false := decide_eq_false tg
  have HF := Lh (HFREE.out k _ rfl (by omega))
  obtain ⟨G, hG, hask⟩ := free_ask HF.out GA.out.may GB.out.may HY.out hk16
  have hsz := sz3_in HF.out.hn
  simp only at hG hask hsz
  have HSZ := Lh (fun (W : World) => rsizes_calls ⟨Xx, Xy, Xz⟩ W)
  rw [hsz] at HSZ
  simp only at HSZ
  obtain ⟨fl, hfl⟩ : ∃ n, fl3 ⟨Xx, Xy, Xz⟩ = n := ⟨_, rfl⟩
  obtain ⟨ce, hce⟩ : ∃ n, ce3 ⟨Xx, Xy, Xz⟩ = n := ⟨_, rfl⟩
  rw [hfl, hce] at HSZ
  rw [hfl, HRA.out, HRB.out] at hG
  have HG := Lh hG
  have HASK := Lh hask
  have hbin : in3 131072 (partP ⟨Vx, Vy, Vz⟩ k) := partP_bd _ k (by omega) (by omega) _ HY.out (by decide)
  have hbe : partP ⟨Vx, Vy, Vz⟩ k = ⟨wrap64 ((wrap64 (Vx * (k : Int))).tdiv 16), wrap64 ((wrap64 (Vy * (k : Int))).tdiv 16), wrap64 ((wrap64 (Vz * (k : Int))).tdiv 16)⟩ := by
    have hy := in3_le (show (131072 : Int) ≤ 4194304 by decide) HY.out
    have ⟨mx1, mx2⟩ := wmul16 Vx k ⟨hy.1, hy.2.1⟩ (by omega) (by omega)
    have ⟨my1, my2⟩ := wmul16 Vy k ⟨hy.2.2.1, hy.2.2.2.1⟩ (by omega) (by omega)
    have ⟨mz1, mz2⟩ := wmul16 Vz k ⟨hy.2.2.2.2.1, hy.2.2.2.2.2⟩ (by omega) (by omega)
    rw [mx1, my1, mz1, mx2, my2, mz2]
    rfl
  have HBE := Lh hbe
  have HBI := Lh hbin
  clear hG hask hsz hfl hce hbe hbin tg HNEG HFREE HKL HF
  go_wp2_with fail
  with_reducible refine (HSZ.out _).mono ?_
  rintro en w13 ⟨rfl, hb⟩
  replace V0 := Lh ((hb.block _ (blk_lt V0.out)).trans V0.out)
  replace CA := Lh ((hb.block _ (blk_lt CA.out)).trans CA.out)
  replace CB := Lh ((hb.block _ (blk_lt CB.out)).trans CB.out)
  replace XC := Lh ((hb.block _ (blk_lt XC.out)).trans XC.out)
  replace HV := Lh (HV.out.below hb)
  replace HVB := Lh (HVB.out.below hb)
  replace W := Lh (bthen W.out hb)
  clear hb x0 x1 x2 x3 xl y0 y1 y2 y3 yl v0 v1 v2 vl c0 c1 c2 c3 cl
  have x0 : w13.cell? ⟨w3.heap.size, 0, none⟩ = some (.slice B0 n0 d0) := (blk_cell CA.out 0).trans rfl
  have x1 : w13.cell? ⟨w3.heap.size, 1, none⟩ = some (.slice B1 n1 d1) := (blk_cell CA.out 1).trans rfl
  have x2 : w13.cell? ⟨w3.heap.size, 2, none⟩ = some (.slice B2 n2 d2) := (blk_cell CA.out 2).trans rfl
  have x3 : w13.cell? ⟨w3.heap.size, 3, none⟩ = some (.int .i64 ra) := (blk_cell CA.out 3).trans rfl
  have xl : w3.heap.size < w13.heap.size := blk_lt CA.out
  have y0 : w13.cell? ⟨w3.heap.size + 1, 0, none⟩ = some (.slice B3 n3 d3) := (blk_cell CB.out 0).trans rfl
  have y1 : w13.cell? ⟨w3.heap.size + 1, 1, none⟩ = some (.slice B4 n4 d4) := (blk_cell CB.out 1).trans rfl
  have y2 : w13.cell? ⟨w3.heap.size + 1, 2, none⟩ = some (.slice B5 n5 d5) := (blk_cell CB.out 2).trans rfl
  have y3 : w13.cell? ⟨w3.heap.size + 1, 3, none⟩ = some (.int .i64 rb) := (blk_cell CB.out 3).trans rfl
  have yl : w3.heap.size + 1 < w13.heap.size := blk_lt CB.out
  have v0 : w13.cell? ⟨w.heap.size + 1, 0, none⟩ = some (.int .i64 Vx) := (blk_cell V0.out 0).trans rfl
  have v1 : w13.cell? ⟨w.heap.size + 1, 1, none⟩ = some (.int .i64 Vy) := (blk_cell V0.out 1).trans rfl
  have v2 : w13.cell? ⟨w.heap.size + 1, 2, none⟩ = some (.int .i64 Vz) := (blk_cell V0.out 2).trans rfl
  have vl : w.heap.size + 1 < w13.heap.size := blk_lt V0.out
  have c0 : w13.cell? ⟨XB, 0, none⟩ = some (.int .i64 Xx) := (blk_cell XC.out 0).trans rfl
  have c1 : w13.cell? ⟨XB, 1, none⟩ = some (.int .i64 Xy) := (blk_cell XC.out 1).trans rfl
  have c2 : w13.cell? ⟨XB, 2, none⟩ = some (.int .i64 Xz) := (blk_cell XC.out 2).trans rfl
  have c3 : w13.cell? ⟨XB, 3, none⟩ = some (.int .i64 Xg) := (blk_cell XC.out 3).trans rfl
  have cl : XB < w13.heap.size := blk_lt XC.out
  go_wp2_with fail
  with_reducible refine (HPM.out _).mono ?_
  rintro e' w99 ⟨rfl, rfl⟩
  go_upto_region 16 with fail
  obtain ⟨bx, hbx⟩ : ∃ n, wrap64 ((wrap64 (Vx * (k : Int))).tdiv 16) = n := ⟨_, rfl⟩
  obtain ⟨by_, hby⟩ : ∃ n, wrap64 ((wrap64 (Vy * (k : Int))).tdiv 16) = n := ⟨_, rfl⟩
  obtain ⟨bz_, hbz⟩ : ∃ n, wrap64 ((wrap64 (Vz * (k : Int))).tdiv 16) = n := ⟨_, rfl⟩
  (try rw [hbx, hby, hbz])
  rw [hbx, hby, hbz] at HBE
  (try rw [HG.out])
  clear hbx hby hbz HG
  have bz := ((Below.refl w99.heap.size w99).alloc (Nat.le_refl _) (.cells #[.int .i64 bx, .int .i64 by_, .int .i64 bz_] 23))
  have nz0 := heap_alloc_new w99 (.cells #[.int .i64 bx, .int .i64 by_, .int .i64 bz_] 23)
  obtain ⟨w14, hwz⟩ : ∃ V, (w99.alloc (.cells #[.int .i64 bx, .int .i64 by_, .int .i64 bz_] 23)) = V := ⟨_, rfl⟩
  rw [hwz] at bz nz0 ⊢
  replace V0 := Lh ((bz.block _ (blk_lt V0.out)).trans V0.out)
  replace CA := Lh ((bz.block _ (blk_lt CA.out)).trans CA.out)
  replace CB := Lh ((bz.block _ (blk_lt CB.out)).trans CB.out)
  replace XC := Lh ((bz.block _ (blk_lt XC.out)).trans XC.out)
  replace HV := Lh (HV.out.below bz)
  replace HVB := Lh (HVB.out.below bz)
  replace W := Lh (bthen W.out bz)
  have BY := Lh nz0
  clear hwz bz nz0 x0 x1 x2 x3 xl y0 y1 y2 y3 yl v0 v1 v2 vl c0 c1 c2 c3 cl
  obtain ⟨BB, hBB⟩ : ∃ n, w99.heap.size = n := ⟨_, rfl⟩
  rw [hBB] at BY ⊢
  clear hBB
  clear V0
  rw [HBE.out] at HASK HBI
  go_wp2_with fail
  have HPA := Lh (show RdB w14 B0 a.p from by obtain ⟨A0, A1, A2, c0, c1, c2, e, q, _⟩ := HV.out.out; injection e with e; have e1 := congrArg (fun t : Array Value => t[0]?) e; simp only [List.getElem?_toArray, List.getElem?_cons_zero, Option.some.injEq, Value.slice.injEq] at e1; rw [e1.1]; exact q)
  have HPB := Lh (show RdB w14 B3 b.p from by obtain ⟨A0, A1, A2, c0, c1, c2, e, q, _⟩ := HVB.out.out; injection e with e; have e1 := congrArg (fun t : Array Value => t[0]?) e; simp only [List.getElem?_toArray, List.getElem?_cons_zero, Option.some.injEq, Value.slice.injEq] at e1; rw [e1.1]; exact q)
  have hn0 : n0 ≤ 12 := by rw [← HN0.out]; exact GA.out.p1
  have hn3 : n3 ≤ 12 := by rw [← HN3.out]; exact GB.out.p1
  go_loopw [20, 21, 22] (fun v20 v21 v22 wr => ∃ i : Nat, i ≤ n0 ∧ v20 = .int .i64 i ∧ Hid (Below w14.heap.size w14 wr)) (fun v20 _ _ _ => n0 - (intOf v20).toNat)
  case atStart => exact ⟨0, by omega, rfl, Lh (Below.refl _ _)⟩
  case round =>
    obtain ⟨i, hi, rfl, hB⟩ := hrel
    obtain ⟨wi, hwi⟩ : ∃ x : World, x = wr := ⟨_, rfl⟩
    subst hwi
    by_cases hlt : i < n0
    · have hil : i < a.p.length := by rw [HN0.out]; exact hlt
      have ti : (i : Int) < (n0 : Int) := by omega
      have CAq := (hB.out.block _ (blk_lt CA.out)).trans CA.out
      have x0 : wi.cell? ⟨w3.heap.size, 0, none⟩ = some (.slice B0 n0 d0) := (blk_cell CAq 0).trans rfl
      have x1 : wi.cell? ⟨w3.heap.size, 1, none⟩ = some (.slice B1 n1 d1) := (blk_cell CAq 1).trans rfl
      have x2 : wi.cell? ⟨w3.heap.size, 2, none⟩ = some (.slice B2 n2 d2) := (blk_cell CAq 2).trans rfl
      have x3 : wi.cell? ⟨w3.heap.size, 3, none⟩ = some (.int .i64 ra) := (blk_cell CAq 3).trans rfl
      have xl : w3.heap.size < wi.heap.size := blk_lt CAq
      clear CAq
      have CBq := (hB.out.block _ (blk_lt CB.out)).trans CB.out
      have y0 : wi.cell? ⟨w3.heap.size + 1, 0, none⟩ = some (.slice B3 n3 d3) := (blk_cell CBq 0).trans rfl
      have y1 : wi.cell? ⟨w3.heap.size + 1, 1, none⟩ = some (.slice B4 n4 d4) := (blk_cell CBq 1).trans rfl
      have y2 : wi.cell? ⟨w3.heap.size + 1, 2, none⟩ = some (.slice B5 n5 d5) := (blk_cell CBq 2).trans rfl
      have y3 : wi.cell? ⟨w3.heap.size + 1, 3, none⟩ = some (.int .i64 rb) := (blk_cell CBq 3).trans rfl
      have yl : w3.heap.size + 1 < wi.heap.size := blk_lt CBq
      clear CBq
      have XCq := (hB.out.block _ (blk_lt XC.out)).trans XC.out
      have c0 : wi.cell? ⟨XB, 0, none⟩ = some (.int .i64 Xx) := (blk_cell XCq 0).trans rfl
      have c1 : wi.cell? ⟨XB, 1, none⟩ = some (.int .i64 Xy) := (blk_cell XCq 1).trans rfl
      have c2 : wi.cell? ⟨XB, 2, none⟩ = some (.int .i64 Xz) := (blk_cell XCq 2).trans rfl
      have c3 : wi.cell? ⟨XB, 3, none⟩ = some (.int .i64 Xg) := (blk_cell XCq 3).trans rfl
      have cl : XB < wi.heap.size := blk_lt XCq
      clear XCq
      have BYq := (hB.out.block _ (blk_lt BY.out)).trans BY.out
      have bb0 : wi.cell? ⟨BB, 0, none⟩ = some (.int .i64 bx) := (blk_cell BYq 0).trans rfl
      have bb1 : wi.cell? ⟨BB, 1, none⟩ = some (.int .i64 by_) := (blk_cell BYq 1).trans rfl
      have bb2 : wi.cell? ⟨BB, 2, none⟩ = some (.int .i64 bz_) := (blk_cell BYq 2).trans rfl
      have bbl : BB < wi.heap.size := blk_lt BYq
      clear BYq
      go_wp2_with fail
      clear x0 x1 x2 x3 xl y0 y1 y2 y3 yl c0 c1 c2 c3 cl bb0 bb1 bb2 bbl
      go_loopw [21, 22] (fun v21 v22 wr => ∃ j : Nat, j ≤ n3 ∧ v21 = .int .i64 j ∧ Hid (Below w14.heap.size w14 wr)) (fun v21 _ _ => n3 - (intOf v21).toNat)
      case atStart => exact ⟨0, by omega, rfl, hB⟩
      case round =>
        clear hB
        obtain ⟨j, hj, rfl, hB⟩ := hrel
        obtain ⟨wj, hwj⟩ : ∃ x : World, x = wr := ⟨_, rfl⟩
        subst hwj
        have CAq := (hB.out.block _ (blk_lt CA.out)).trans CA.out
        have x0 : wj.cell? ⟨w3.heap.size, 0, none⟩ = some (.slice B0 n0 d0) := (blk_cell CAq 0).trans rfl
        have x1 : wj.cell? ⟨w3.heap.size, 1, none⟩ = some (.slice B1 n1 d1) := (blk_cell CAq 1).trans rfl
        have x2 : wj.cell? ⟨w3.heap.size, 2, none⟩ = some (.slice B2 n2 d2) := (blk_cell CAq 2).trans rfl
        have x3 : wj.cell? ⟨w3.heap.size, 3, none⟩ = some (.int .i64 ra) := (blk_cell CAq 3).trans rfl
        have xl : w3.heap.size < wj.heap.size := blk_lt CAq
        clear CAq
        have CBq := (hB.out.block _ (blk_lt CB.out)).trans CB.out
        have y0 : wj.cell? ⟨w3.heap.size + 1, 0, none⟩ = some (.slice B3 n3 d3) := (blk_cell CBq 0).trans rfl
        have y1 : wj.cell? ⟨w3.heap.size + 1, 1, none⟩ = some (.slice B4 n4 d4) := (blk_cell CBq 1).trans rfl
        have y2 : wj.cell? ⟨w3.heap.size + 1, 2, none⟩ = some (.slice B5 n5 d5) := (blk_cell CBq 2).trans rfl
        have y3 : wj.cell? ⟨w3.heap.size + 1, 3, none⟩ = some (.int .i64 rb) := (blk_cell CBq 3).trans rfl
        have yl : w3.heap.size + 1 < wj.heap.size := blk_lt CBq
        clear CBq
        have XCq := (hB.out.block _ (blk_lt XC.out)).trans XC.out
        have c0 : wj.cell? ⟨XB, 0, none⟩ = some (.int .i64 Xx) := (blk_cell XCq 0).trans rfl
        have c1 : wj.cell? ⟨XB, 1, none⟩ = some (.int .i64 Xy) := (blk_cell XCq 1).trans rfl
        have c2 : wj.cell? ⟨XB, 2, none⟩ = some (.int .i64 Xz) := (blk_cell XCq 2).trans rfl
        have c3 : wj.cell? ⟨XB, 3, none⟩ = some (.int .i64 Xg) := (blk_cell XCq 3).trans rfl
        have cl : XB < wj.heap.size := blk_lt XCq
        clear XCq
        have BYq := (hB.out.block _ (blk_lt BY.out)).trans BY.out
        have bb0 : wj.cell? ⟨BB, 0, none⟩ = some (.int .i64 bx) := (blk_cell BYq 0).trans rfl
        have bb1 : wj.cell? ⟨BB, 1, none⟩ = some (.int .i64 by_) := (blk_cell BYq 1).trans rfl
        have bb2 : wj.cell? ⟨BB, 2, none⟩ = some (.int .i64 bz_) := (blk_cell BYq 2).trans rfl
        have bbl : BB < wj.heap.size := blk_lt BYq
        clear BYq
        by_cases hlj : j < n3
        · have hjl : j < b.p.length := by rw [HN3.out]; exact hlj
          have tj : (j : Int) < (n3 : Int) := by omega
          obtain ⟨ga, oa, rfl, la, p0, p1, p2⟩ := (HPA.out.below hB.out).1.get i hil
          obtain ⟨gb, ob, rfl, lb, r0, r1_, r2_⟩ := (HPB.out.below hB.out).1.get j hjl
          have HAS := Lh (HASK.out a.p[i] (List.getElem_mem hil) b.p[j] (List.getElem_mem hjl) qm DM.out.1 (by have := DM.out.2; omega))
          obtain ⟨P, hP⟩ : ∃ e, a.p[i] = e := ⟨_, rfl⟩
          obtain ⟨Q, hQ⟩ : ∃ e, b.p[j] = e := ⟨_, rfl⟩
          rw [hP] at p0 p1 p2 HAS
          rw [hQ] at r0 r1_ r2_ HAS
          obtain ⟨Px, Py, Pz⟩ := P
          obtain ⟨Qx, Qy, Qz⟩ := Q
          simp only at p0 p1 p2 r0 r1_ r2_
          have HMI := Lh (fun (W : World) => rminus_calls Qx Qy Qz Px Py Pz W)
          obtain ⟨M, hM⟩ : ∃ e, minus3 ⟨Qx, Qy, Qz⟩ ⟨Px, Py, Pz⟩ = e := ⟨_, rfl⟩
          rw [hM] at HMI HAS
          obtain ⟨Mx, My, Mz⟩ := M
          (try simp only at HMI)
          have HDO := Lh (fun (W : World) => rdot_calls Xx Xy Xz Mx My Mz W)
          obtain ⟨D, hD⟩ : ∃ e, dot3 ⟨Xx, Xy, Xz⟩ ⟨Mx, My, Mz⟩ = e := ⟨_, rfl⟩
          rw [hD] at HDO HAS
          have HDB := Lh (fun (W : World) => rdot_calls Xx Xy Xz bx by_ bz_ W)
          obtain ⟨E, hE⟩ : ∃ e, dot3 ⟨Xx, Xy, Xz⟩ ⟨bx, by_, bz_⟩ = e := ⟨_, rfl⟩
          rw [hE] at HDB HAS
          clear hP hQ hM hD hE
          go_wp2_with fail
          have HB := Lh ((Below.refl (wj.heap.size) wj).drew)
          have FF := Lh (show ∀ V, Hid (Below (wj.heap.size) wj V) → V.cell? ⟨XB, 0, none⟩ = some (.int .i64 Xx) ∧ V.cell? ⟨XB, 1, none⟩ = some (.int .i64 Xy) ∧ V.cell? ⟨XB, 2, none⟩ = some (.int .i64 Xz) ∧ V.cell? ⟨w3.heap.size + 1, 0, none⟩ = some (.slice (some ⟨gb, ob, none⟩) n3 d3) ∧ V.cell? ⟨w3.heap.size, 0, none⟩ = some (.slice (some ⟨ga, oa, none⟩) n0 d0) ∧ V.cell? ⟨gb, ob + j * 3, none⟩ = some (.int .i64 Qx) ∧ V.cell? ⟨gb, ob + j * 3 + 1, none⟩ = some (.int .i64 Qy) ∧ V.cell? ⟨gb, ob + j * 3 + 2, none⟩ = some (.int .i64 Qz) ∧ V.cell? ⟨ga, oa + i * 3, none⟩ = some (.int .i64 Px) ∧ V.cell? ⟨ga, oa + i * 3 + 1, none⟩ = some (.int .i64 Py) ∧ V.cell? ⟨ga, oa + i * 3 + 2, none⟩ = some (.int .i64 Pz) from fun V HB => ⟨(HB.out.cell (p := ⟨XB, 0, none⟩) (cl)).trans c0, (HB.out.cell (p := ⟨XB, 1, none⟩) (cl)).trans c1, (HB.out.cell (p := ⟨XB, 2, none⟩) (cl)).trans c2, (HB.out.cell (p := ⟨w3.heap.size + 1, 0, none⟩) (yl)).trans y0, (HB.out.cell (p := ⟨w3.heap.size, 0, none⟩) (xl)).trans x0, (HB.out.cell (p := ⟨gb, ob + j * 3, none⟩) (lb)).trans r0, (HB.out.cell (p := ⟨gb, ob + j * 3 + 1, none⟩) (lb)).trans r1_, (HB.out.cell (p := ⟨gb, ob + j * 3 + 2, none⟩) (lb)).trans r2_, (HB.out.cell (p := ⟨ga, oa + i * 3, none⟩) (la)).trans p0, (HB.out.cell (p := ⟨ga, oa + i * 3 + 1, none⟩) (la)).trans p1, (HB.out.cell (p := ⟨ga, oa + i * 3 + 2, none⟩) (la)).trans p2⟩)
          refine start_ (n := 15) (S := fun w' => w'.cell? ⟨XB, 0, none⟩ = some (.int .i64 Xx) ∧ w'.cell? ⟨XB, 1, none⟩ = some (.int .i64 Xy) ∧ w'.cell? ⟨XB, 2, none⟩ = some (.int .i64 Xz) ∧ w'.cell? ⟨w3.heap.size + 1, 0, none⟩ = some (.slice (some ⟨gb, ob, none⟩) n3 d3) ∧ w'.cell? ⟨w3.heap.size, 0, none⟩ = some (.slice (some ⟨ga, oa, none⟩) n0 d0) ∧ w'.cell? ⟨gb, ob + j * 3, none⟩ = some (.int .i64 Qx) ∧ w'.cell? ⟨gb, ob + j * 3 + 1, none⟩ = some (.int .i64 Qy) ∧ w'.cell? ⟨gb, ob + j * 3 + 2, none⟩ = some (.int .i64 Qz) ∧ w'.cell? ⟨ga, oa + i * 3, none⟩ = some (.int .i64 Px) ∧ w'.cell? ⟨ga, oa + i * 3 + 1, none⟩ = some (.int .i64 Py) ∧ w'.cell? ⟨ga, oa + i * 3 + 2, none⟩ = some (.int .i64 Pz)) (ds := []) (MT 0 15) (by kernel_rfl) rfl rfl (FF.out _ HB) (fun hHeld => ?_)
          obtain ⟨wd, hwd⟩ : ∃ x, wj.drew = x := ⟨_, rfl⟩
          rw [hwd] at HB hHeld ⊢
          clear hwd
          refine pu_ 0 141 (h := ?_)
          refine pu_ 2 143 (h := ?_)
          refine pu_ 4 145 (h := ?_)
          refine pu_ 7 148 (h := ?_)
          refine pu_ 9 150 (h := ?_)
          refine ta_ 1 142 hHeld (h := ?_)
          refine ta_ 3 144 hHeld (h := ?_)
          refine pu_ 5 146 (h := ?_)
          refine ta_ 6 147 hHeld (h := ?_)
          refine ta_ 8 149 hHeld (h := ?_)
          refine pu_ 10 151 (h := ?_)
          refine ta_ 11 152 hHeld (h := ?_)
          refine on_ 12 (some 153) (h := fun K hK => ?_)
          refine gs_ Try.func23 #[.agg #[.int .i64 Qx, .int .i64 Qy, .int .i64 Qz], .agg #[.int .i64 Px, .int .i64 Py, .int .i64 Pz]] ?_
          with_reducible refine (HMI.out _).mono ?_
          rintro en w7 ⟨rfl, hb⟩
          have HB := Lh (HB.out.trans (hb.mono HB.out.size))
          clear hb
          refine ⟨_, rfl, ?_⟩
          refine hK.out _ _ (FF.out _ HB) (fun hHeld => ?_)
          clear hK K
          refine no_ (h := ?_)
          refine on_ 13 (some 154) (h := fun K hK => ?_)
          refine gs_ Try.func24 #[.agg #[.int .i64 Xx, .int .i64 Xy, .int .i64 Xz], .agg #[.int .i64 Mx, .int .i64 My, .int .i64 Mz]] ?_
          with_reducible refine (HDO.out _).mono ?_
          rintro en w7 ⟨rfl, hb⟩
          have HB := Lh (HB.out.trans (hb.mono HB.out.size))
          clear hb
          refine ⟨_, rfl, ?_⟩
          refine hK.out _ _ (FF.out _ HB) (fun hHeld => ?_)
          clear hK K
          refine no_ (h := ?_)
          refine pu_ 14 22 (h := ?_)
          refine done_ (by kernel_rfl) ?_
          have hB := Lh (hB.out.trans (HB.out.mono (show w14.heap.size ≤ wj.heap.size from hB.out.size)))
          clear hHeld HB FF p0 p1 p2 r0 r1_ r2_ la lb HMI HDO
          clear x0 x1 x2 x3 xl y0 y1 y2 y3 yl c0 c1 c2 c3 cl bb0 bb1 bb2 bbl
          have XCq := (hB.out.block _ (blk_lt XC.out)).trans XC.out
          have c0 : w7.cell? ⟨XB, 0, none⟩ = some (.int .i64 Xx) := (blk_cell XCq 0).trans rfl
          have c1 : w7.cell? ⟨XB, 1, none⟩ = some (.int .i64 Xy) := (blk_cell XCq 1).trans rfl
          have c2 : w7.cell? ⟨XB, 2, none⟩ = some (.int .i64 Xz) := (blk_cell XCq 2).trans rfl
          have c3 : w7.cell? ⟨XB, 3, none⟩ = some (.int .i64 Xg) := (blk_cell XCq 3).trans rfl
          have cl : XB < w7.heap.size := blk_lt XCq
          clear XCq
          have BYq := (hB.out.block _ (blk_lt BY.out)).trans BY.out
          have bb0 : w7.cell? ⟨BB, 0, none⟩ = some (.int .i64 bx) := (blk_cell BYq 0).trans rfl
          have bb1 : w7.cell? ⟨BB, 1, none⟩ = some (.int .i64 by_) := (blk_cell BYq 1).trans rfl
          have bb2 : w7.cell? ⟨BB, 2, none⟩ = some (.int .i64 bz_) := (blk_cell BYq 2).trans rfl
          have bbl : BB < w7.heap.size := blk_lt BYq
          clear BYq
          go_wp2_with fail
          with_reducible refine (HDB.out _).mono ?_
          rintro en w8_ ⟨rfl, hb⟩
          have hB := Lh (hB.out.trans (hb.mono (show w14.heap.size ≤ w7.heap.size from hB.out.size)))
          clear hb HDB
          have HAS := HAS.out
          clear c0 c1 c2 c3 cl bb0 bb1 bb2 bbl
          go_wp2
          go_roundw
          case rel => exact ⟨j + 1, by omega, by go_num, hB⟩
          case measure => simp [intOf]; omega
        · obtain rfl : n3 = j := by omega
          go_wp2
          go_roundw
          case rel => exact ⟨i + 1, by omega, by go_num, hB⟩
          case measure => simp [intOf]; omega
    · obtain rfl : n0 = i := by omega
      have HV := Lh (HV.out.below hB.out)
      have HVB := Lh (HVB.out.below hB.out)
      have W := Lh (bthen W.out hB.out)
      have CAq := (hB.out.block _ (blk_lt CA.out)).trans CA.out
      have x0 : wi.cell? ⟨w3.heap.size, 0, none⟩ = some (.slice B0 n0 d0) := (blk_cell CAq 0).trans rfl
      have x1 : wi.cell? ⟨w3.heap.size, 1, none⟩ = some (.slice B1 n1 d1) := (blk_cell CAq 1).trans rfl
      have x2 : wi.cell? ⟨w3.heap.size, 2, none⟩ = some (.slice B2 n2 d2) := (blk_cell CAq 2).trans rfl
      have x3 : wi.cell? ⟨w3.heap.size, 3, none⟩ = some (.int .i64 ra) := (blk_cell CAq 3).trans rfl
      have xl : w3.heap.size < wi.heap.size := blk_lt CAq
      clear CAq
      have CBq := (hB.out.block _ (blk_lt CB.out)).trans CB.out
      have y0 : wi.cell? ⟨w3.heap.size + 1, 0, none⟩ = some (.slice B3 n3 d3) := (blk_cell CBq 0).trans rfl
      have y1 : wi.cell? ⟨w3.heap.size + 1, 1, none⟩ = some (.slice B4 n4 d4) := (blk_cell CBq 1).trans rfl
      have y2 : wi.cell? ⟨w3.heap.size + 1, 2, none⟩ = some (.slice B5 n5 d5) := (blk_cell CBq 2).trans rfl
      have y3 : wi.cell? ⟨w3.heap.size + 1, 3, none⟩ = some (.int .i64 rb) := (blk_cell CBq 3).trans rfl
      have yl : w3.heap.size + 1 < wi.heap.size := blk_lt CBq
      clear CBq
      have XCq := (hB.out.block _ (blk_lt XC.out)).trans XC.out
      have c0 : wi.cell? ⟨XB, 0, none⟩ = some (.int .i64 Xx) := (blk_cell XCq 0).trans rfl
      have c1 : wi.cell? ⟨XB, 1, none⟩ = some (.int .i64 Xy) := (blk_cell XCq 1).trans rfl
      have c2 : wi.cell? ⟨XB, 2, none⟩ = some (.int .i64 Xz) := (blk_cell XCq 2).trans rfl
      have c3 : wi.cell? ⟨XB, 3, none⟩ = some (.int .i64 Xg) := (blk_cell XCq 3).trans rfl
      have cl : XB < wi.heap.size := blk_lt XCq
      clear XCq
      have BYq := (hB.out.block _ (blk_lt BY.out)).trans BY.out
      have bb0 : wi.cell? ⟨BB, 0, none⟩ = some (.int .i64 bx) := (blk_cell BYq 0).trans rfl
      have bb1 : wi.cell? ⟨BB, 1, none⟩ = some (.int .i64 by_) := (blk_cell BYq 1).trans rfl
      have bb2 : wi.cell? ⟨BB, 2, none⟩ = some (.int .i64 bz_) := (blk_cell BYq 2).trans rfl
      have bbl : BB < wi.heap.size := blk_lt BYq
      clear BYq
      have HMV := Lh (fun (W : World) (h : CrV W (.agg #[.slice B0 n0 d0, .slice B1 n1 d1, .slice B2 n2 d2, .int .i64 ra]) a) => moved_calls (p := a.p) (a := a.a) (e := a.e) (r := a.r) h GA.out.mp ⟨bx, by_, bz_⟩ (in3_le (by decide) HBI.out) GA.out.near)
      have HMM := Lh ((mayF_iff ..).2 (GA.out.mp.moved (y := ⟨bx, by_, bz_⟩) (in3_le (by decide) HBI.out) GA.out.near))
      obtain ⟨MC, hMC⟩ : ∃ c : Cr, (⟨a.p.map (plusI ⟨bx, by_, bz_⟩), a.a, a.e, a.r⟩ : Cr) = c := ⟨_, rfl⟩
      have HMV := Lh (show ∀ (W : World), CrV W (.agg #[.slice B0 n0 d0, .slice B1 n1 d1, .slice B2 n2 d2, .int .i64 ra]) a → Calls Try.prog 30 #[.agg #[.slice B0 n0 d0, .slice B1 n1 d1, .slice B2 n2 d2, .int .i64 ra], .agg #[.int .i64 bx, .int .i64 by_, .int .i64 bz_]] W (fun en w' => ∃ u, en = .returned u ∧ CrV w' u MC ∧ Below W.heap.size W w') from fun W h => by rw [← hMC]; exact HMV.out W h)
      have HMM := Lh (show MC.may = true from by rw [← hMC]; exact HMM.out)
      have HLOW := Lh (apS_low HMM.out GB.out.may)
      have HAP := Lh (fun (W : World) (u : Value) (h1 : CrV W u MC) (h2 : CrV W (.agg #[.slice B3 n3 d3, .slice B4 n4 d4, .slice B5 n5 d5, .int .i64 rb]) b) => apart_all h1 h2 (apS MC b) rfl)
      rw [apS_val HMM.out GB.out.may] at HLOW HAP
      obtain ⟨Y, hY⟩ : ∃ Y, apartF MC.p MC.a MC.e MC.r b.p b.a b.e b.r = Y := ⟨_, rfl⟩
      rw [hY] at HLOW HAP
      obtain ⟨⟨Yx, Yy, Yz⟩, Yg⟩ := Y
      have HAP := Lh (show ∀ (W : World) (u : Value), CrV W u MC → CrV W (.agg #[.slice B3 n3 d3, .slice B4 n4 d4, .slice B5 n5 d5, .int .i64 rb]) b → Calls Try.prog 20 #[u, .agg #[.slice B3 n3 d3, .slice B4 n4 d4, .slice B5 n5 d5, .int .i64 rb]] W (fun en w' => en = .returned (.tuple #[.agg #[.int .i64 Yx, .int .i64 Yy, .int .i64 Yz, .int .i64 Yg], .bool true]) ∧ Below W.heap.size W w') from HAP.out)
      have hlow : -1099511627776 ≤ Yg := HLOW.out
      clear hMC hY
      go_wp2_with fail
      have HB := Lh ((Below.refl (wi.heap.size) wi).drew)
      have FF := Lh (show ∀ V, Hid (Below (wi.heap.size) wi V) → V.cell? ⟨w3.heap.size, 0, none⟩ = some (.slice B0 n0 d0) ∧ V.cell? ⟨w3.heap.size, 1, none⟩ = some (.slice B1 n1 d1) ∧ V.cell? ⟨w3.heap.size, 2, none⟩ = some (.slice B2 n2 d2) ∧ V.cell? ⟨w3.heap.size, 3, none⟩ = some (.int .i64 ra) ∧ V.cell? ⟨BB, 0, none⟩ = some (.int .i64 bx) ∧ V.cell? ⟨BB, 1, none⟩ = some (.int .i64 by_) ∧ V.cell? ⟨BB, 2, none⟩ = some (.int .i64 bz_) ∧ V.cell? ⟨w3.heap.size + 1, 0, none⟩ = some (.slice B3 n3 d3) ∧ V.cell? ⟨w3.heap.size + 1, 1, none⟩ = some (.slice B4 n4 d4) ∧ V.cell? ⟨w3.heap.size + 1, 2, none⟩ = some (.slice B5 n5 d5) ∧ V.cell? ⟨w3.heap.size + 1, 3, none⟩ = some (.int .i64 rb) from fun V HB => ⟨(HB.out.cell (p := ⟨w3.heap.size, 0, none⟩) (xl)).trans x0, (HB.out.cell (p := ⟨w3.heap.size, 1, none⟩) (xl)).trans x1, (HB.out.cell (p := ⟨w3.heap.size, 2, none⟩) (xl)).trans x2, (HB.out.cell (p := ⟨w3.heap.size, 3, none⟩) (xl)).trans x3, (HB.out.cell (p := ⟨BB, 0, none⟩) (bbl)).trans bb0, (HB.out.cell (p := ⟨BB, 1, none⟩) (bbl)).trans bb1, (HB.out.cell (p := ⟨BB, 2, none⟩) (bbl)).trans bb2, (HB.out.cell (p := ⟨w3.heap.size + 1, 0, none⟩) (yl)).trans y0, (HB.out.cell (p := ⟨w3.heap.size + 1, 1, none⟩) (yl)).trans y1, (HB.out.cell (p := ⟨w3.heap.size + 1, 2, none⟩) (yl)).trans y2, (HB.out.cell (p := ⟨w3.heap.size + 1, 3, none⟩) (yl)).trans y3⟩)
      refine start_ (n := 11) (S := fun w' => w'.cell? ⟨w3.heap.size, 0, none⟩ = some (.slice B0 n0 d0) ∧ w'.cell? ⟨w3.heap.size, 1, none⟩ = some (.slice B1 n1 d1) ∧ w'.cell? ⟨w3.heap.size, 2, none⟩ = some (.slice B2 n2 d2) ∧ w'.cell? ⟨w3.heap.size, 3, none⟩ = some (.int .i64 ra) ∧ w'.cell? ⟨BB, 0, none⟩ = some (.int .i64 bx) ∧ w'.cell? ⟨BB, 1, none⟩ = some (.int .i64 by_) ∧ w'.cell? ⟨BB, 2, none⟩ = some (.int .i64 bz_) ∧ w'.cell? ⟨w3.heap.size + 1, 0, none⟩ = some (.slice B3 n3 d3) ∧ w'.cell? ⟨w3.heap.size + 1, 1, none⟩ = some (.slice B4 n4 d4) ∧ w'.cell? ⟨w3.heap.size + 1, 2, none⟩ = some (.slice B5 n5 d5) ∧ w'.cell? ⟨w3.heap.size + 1, 3, none⟩ = some (.int .i64 rb)) (ds := []) (MT 0 11) (by kernel_rfl) rfl rfl (FF.out _ HB) (fun hHeld => ?_)
      obtain ⟨wd, hwd⟩ : ∃ x, wi.drew = x := ⟨_, rfl⟩
      rw [hwd] at HB hHeld ⊢
      clear hwd
      refine ta_ 0 168 hHeld (h := ?_)
      refine ta_ 1 169 hHeld (h := ?_)
      refine ta_ 3 171 hHeld (h := ?_)
      refine join_ (σ := Nat × Value) 2 (MT 9 2) (fun s => [(23, .pointer (some ⟨s.1, 0, none⟩)), (170, s.2), (172, .tuple #[.agg #[.int .i64 Yx, .int .i64 Yy, .int .i64 Yz, .int .i64 Yg], .bool true]), (167, .tuple #[.agg #[.int .i64 Yx, .int .i64 Yy, .int .i64 Yz, .int .i64 Yg], .bool true]), (173, .agg #[.int .i64 Yx, .int .i64 Yy, .int .i64 Yz, .int .i64 Yg]), (174, .bool true)]) (fun (s : Nat × Value) w' => match s with | (s1, s2) => wi.heap.size ≤ s1 ∧ w'.heap[s1]? = some (.cells #[.int .i64 0, .int .i64 0, .int .i64 0, .int .i64 0] 40 (0, 0)) ∧ Below (wi.heap.size) wi w' ∧ CrV w' s2 MC) ?_ ?_
      rotate_left
      · intro hCont
        refine two_ (i := 2) (j := 8) (Ni := some 170) (Nj := some 23) (MT 4 7) #[true, true, false, true, false, false, false, false, true, false, false] rfl rfl rfl rfl (by kernel_rfl) (by decide) (by decide) (fun K hK => ?_) (fun K hK => ?_)
        · skip
          refine gs_ Try.func30 #[.agg #[.slice B0 n0 d0, .slice B1 n1 d1, .slice B2 n2 d2, .int .i64 ra], .agg #[.int .i64 bx, .int .i64 by_, .int .i64 bz_]] ?_
          with_reducible refine (HMV.out _ (HV.out.below HB.out)).mono ?_
          rintro en w7 ⟨u7, rfl, hv, hb⟩
          have HB := Lh (HB.out.trans (hb.mono HB.out.size))
          have HU := Lh hv
          clear hv
          clear hb
          refine ⟨_, rfl, ?_⟩
          refine hK.out _ _ (FF.out _ HB) (fun hHeld => ?_)
          clear hK K
          refine no_ (h := ?_)
          refine two_ (i := 4) (j := 8) (Ni := some 172) (Nj := some 23) (MT 5 6) #[true, true, true, true, false, false, false, false, true, false, false] rfl rfl rfl rfl (by kernel_rfl) (by decide) (by decide) (fun K hK => ?_) (fun K hK => ?_)
          · skip
            refine gs_ Try.func20 #[u7, .agg #[.slice B3 n3 d3, .slice B4 n4 d4, .slice B5 n5 d5, .int .i64 rb]] ?_
            with_reducible refine (HAP.out _ _ HU.out (HVB.out.below HB.out)).mono ?_
            rintro en w7 ⟨rfl, hb⟩
            have HB := Lh (HB.out.trans (hb.mono HB.out.size))
            have HU := Lh (HU.out.below hb)
            clear hb
            refine ⟨_, rfl, ?_⟩
            refine hK.out _ _ (FF.out _ HB) (fun hHeld => ?_)
            clear hK K
            refine no_ (h := ?_)
            refine pu_ 5 167 (h := ?_)
            refine pu_ 6 173 (h := ?_)
            refine pu_ 7 174 (h := ?_)
            refine on_ 8 (some 23) (h := fun K hK => ?_)
            refine value_ (w1 := ?_) (v := ?_) (by rfl) rfl ?_ ?_
            rotate_left 2
            · go_simp
              constructor
              · rfl
              · rfl
            have HA := Lh (ha_new HB.out (.cells #[.int .i64 0, .int .i64 0, .int .i64 0, .int .i64 0] 40))
            have hge := HB.out.size
            have HB := Lh (HB.out.alloc (Nat.le_trans (Nat.le_refl _) HB.out.size) (.cells #[.int .i64 0, .int .i64 0, .int .i64 0, .int .i64 0] 40))
            have HU := Lh (HU.out.below ((Below.refl _ _).alloc (Nat.le_refl _) (.cells #[.int .i64 0, .int .i64 0, .int .i64 0, .int .i64 0] 40)))
            refine hK.out _ _ (FF.out _ HB) (fun hHeld => ?_)
            clear hK K
            refine no_ (h := ?_)
            exact norm_ (by simp only [putAll, Act.put, List.setIfInBounds_toArray, List.set_cons_zero, List.set_cons_succ]) (hCont (_, _) _ ⟨hge, HA.out, HB.out, HU.out⟩)
          · skip
            refine value_ (w1 := ?_) (v := ?_) (by rfl) rfl ?_ ?_
            rotate_left 2
            · go_simp
              constructor
              · rfl
              · rfl
            have HA := Lh (ha_new HB.out (.cells #[.int .i64 0, .int .i64 0, .int .i64 0, .int .i64 0] 40))
            have hge := HB.out.size
            have HB := Lh (HB.out.alloc (Nat.le_trans (Nat.le_refl _) HB.out.size) (.cells #[.int .i64 0, .int .i64 0, .int .i64 0, .int .i64 0] 40))
            have HU := Lh (HU.out.below ((Below.refl _ _).alloc (Nat.le_refl _) (.cells #[.int .i64 0, .int .i64 0, .int .i64 0, .int .i64 0] 40)))
            refine hK.out _ _ (FF.out _ HB) (fun hHeld => ?_)
            clear hK K
            refine no_ (h := ?_)
            refine on_ 4 (some 172) (h := fun K hK => ?_)
            refine gs_ Try.func20 #[u7, .agg #[.slice B3 n3 d3, .slice B4 n4 d4, .slice B5 n5 d5, .int .i64 rb]] ?_
            with_reducible refine (HAP.out _ _ HU.out (HVB.out.below HB.out)).mono ?_
            rintro en w7 ⟨rfl, hb⟩
            have HB := Lh (HB.out.trans (hb.mono HB.out.size))
            have HA := Lh ((hb.block _ (blk_lt HA.out)).trans HA.out)
            have HU := Lh (HU.out.below hb)
            clear hb
            refine ⟨_, rfl, ?_⟩
            refine hK.out _ _ (FF.out _ HB) (fun hHeld => ?_)
            clear hK K
            refine no_ (h := ?_)
            refine pu_ 5 167 (h := ?_)
            refine pu_ 6 173 (h := ?_)
            refine pu_ 7 174 (h := ?_)
            exact norm_ (by simp only [putAll, Act.put, List.setIfInBounds_toArray, List.set_cons_zero, List.set_cons_succ]) (hCont (_, _) _ ⟨hge, HA.out, HB.out, HU.out⟩)
        · skip
          refine value_ (w1 := ?_) (v := ?_) (by rfl) rfl ?_ ?_
          rotate_left 2
          · go_simp
            constructor
            · rfl
            · rfl
          have HA := Lh (ha_new HB.out (.cells #[.int .i64 0, .int .i64 0, .int .i64 0, .int .i64 0] 40))
          have hge := HB.out.size
          have HB := Lh (HB.out.alloc (Nat.le_trans (Nat.le_refl _) HB.out.size) (.cells #[.int .i64 0, .int .i64 0, .int .i64 0, .int .i64 0] 40))
          refine hK.out _ _ (FF.out _ HB) (fun hHeld => ?_)
          clear hK K
          refine no_ (h := ?_)
          refine on_ 2 (some 170) (h := fun K hK => ?_)
          refine gs_ Try.func30 #[.agg #[.slice B0 n0 d0, .slice B1 n1 d1, .slice B2 n2 d2, .int .i64 ra], .agg #[.int .i64 bx, .int .i64 by_, .int .i64 bz_]] ?_
          with_reducible refine (HMV.out _ (HV.out.below HB.out)).mono ?_
          rintro en w7 ⟨u7, rfl, hv, hb⟩
          have HB := Lh (HB.out.trans (hb.mono HB.out.size))
          have HA := Lh ((hb.block _ (blk_lt HA.out)).trans HA.out)
          have HU := Lh hv
          clear hv
          clear hb
          refine ⟨_, rfl, ?_⟩
          refine hK.out _ _ (FF.out _ HB) (fun hHeld => ?_)
          clear hK K
          refine no_ (h := ?_)
          refine on_ 4 (some 172) (h := fun K hK => ?_)
          refine gs_ Try.func20 #[u7, .agg #[.slice B3 n3 d3, .slice B4 n4 d4, .slice B5 n5 d5, .int .i64 rb]] ?_
          with_reducible refine (HAP.out _ _ HU.out (HVB.out.below HB.out)).mono ?_
          rintro en w7 ⟨rfl, hb⟩
          have HB := Lh (HB.out.trans (hb.mono HB.out.size))
          have HA := Lh ((hb.block _ (blk_lt HA.out)).trans HA.out)
          have HU := Lh (HU.out.below hb)
          clear hb
          refine ⟨_, rfl, ?_⟩
          refine hK.out _ _ (FF.out _ HB) (fun hHeld => ?_)
          clear hK K
          refine no_ (h := ?_)
          refine pu_ 5 167 (h := ?_)
          refine pu_ 6 173 (h := ?_)
          refine pu_ 7 174 (h := ?_)
          exact norm_ (by simp only [putAll, Act.put, List.setIfInBounds_toArray, List.set_cons_zero, List.set_cons_succ]) (hCont (_, _) _ ⟨hge, HA.out, HB.out, HU.out⟩)
      rintro ⟨AB, V⟩ wj ⟨hge, HA, HB, HU⟩
      have HA := Lh HA
      have HB := Lh HB
      (try simp only at hge HA HB HU)
      have HU := Lh HU
      have hHeld := FF.out _ HB
      refine no_ (h := ?_)
      refine on_ 9 (none) (h := fun K hK => ?_)
      have sc0 : World.cell? _ ⟨AB, 0, none⟩ = some (.int .i64 0) := (blk_cell HA.out 0).trans rfl
      have sf0 := blk_frozen HA.out 0
      have sc1 : World.cell? _ ⟨AB, 1, none⟩ = some (.int .i64 0) := (blk_cell HA.out 1).trans rfl
      have sf1 := blk_frozen HA.out 1
      have sc2 : World.cell? _ ⟨AB, 2, none⟩ = some (.int .i64 0) := (blk_cell HA.out 2).trans rfl
      have sf2 := blk_frozen HA.out 2
      have sc3 : World.cell? _ ⟨AB, 3, none⟩ = some (.int .i64 0) := (blk_cell HA.out 3).trans rfl
      have sf3 := blk_frozen HA.out 3
      refine skip_ (w1 := ?_) (by rfl) rfl ?_ ?_
      rotate_left
      · go_simp
        rfl
      have HA := Lh (bs4 HA.out (.int .i64 Yx) (.int .i64 Yy) (.int .i64 Yz) (.int .i64 Yg))
      have HB := Lh (bb4 HB.out (Nat.le_trans (Nat.le_refl _) hge) (.int .i64 Yx) (.int .i64 Yy) (.int .i64 Yz) (.int .i64 Yg))
      clear sc0 sf0 sc1 sf1 sc2 sf2 sc3 sf3
      refine hK.out _ _ (FF.out _ HB) (fun hHeld => ?_)
      clear hK K
      refine pu_ 10 24 (h := ?_)
      refine done_ (by kernel_rfl) ?_
      obtain ⟨w97, hwn⟩ : ∃ V, ((((wj.setCell ⟨AB, 0, none⟩ (.int .i64 Yx)).setCell ⟨AB, 1, none⟩ (.int .i64 Yy)).setCell ⟨AB, 2, none⟩ (.int .i64 Yz)).setCell ⟨AB, 3, none⟩ (.int .i64 Yg)) = V := ⟨_, rfl⟩
      rw [hwn] at HA HB ⊢
      clear hwn
      have W := Lh (bthen W.out HB.out)
      have xg : w97.cell? ⟨AB, 3, none⟩ = some (.int .i64 Yg) := (blk_cell HA.out 3).trans rfl
      have xl2 : AB < w97.heap.size := blk_lt HA.out
      have e3 : decide (-1099511627776 ≤ Yg) = true := decide_eq_true hlow
      clear HA HB hge HU hHeld FF hlow
      clear x0 x1 x2 x3 xl y0 y1 y2 y3 yl c0 c1 c2 c3 cl bb0 bb1 bb2 bbl
      go_wp2
      go_ret
      exact ⟨rfl, W.out⟩
end Go.Proofs.Ytckdhahceelckaa.G
