/- What the laws of this claim lean on: contracts of the functions that they reach, and plain lemmas; no condition of its own (part 4 of 6; the texts XV25, XV20, XV27, XL4, XL5, XC1, XC3, XC4, XC5, XC6, XR8, XC7, XC10, XC11). -/
import Derived.Test.YtckdhahceelckaaKCT3
import Derived.Laws.Bits64b
import Derived.Laws.Externs
import Derived.Lib.Mul64
import Derived.Shelf.Spec.BitsCarry
namespace Go.Proofs.Ytckdhahceelckaa.G
open Go.RowKit Go.Proofs.YtckdhahceelckaaW.PrintWords Go.Proofs.YtckdhahceelckaaW.PrintLast Go.Proofs.YtckdhahceelckaaW.PrintMore
attribute [local go_sem] max2_mx min2_mn max_two min_two max_three min_three max_four min_four
attribute [local go_sem high] eqA23 eqA40
set_option linter.unusedVariables false
set_option linter.unusedSimpArgs false
set_option maxHeartbeats 16000000 in
set_option maxRecDepth 100000 in
theorem rtrail_in (p a e : List P3) (r : Int) (A0 A1 A2 : Option Addr) (c0 c1 c2 : Nat) (y : P3) (K : Int) (w : World) (hv : CoreV w (.agg #[.slice A0 p.length c0, .slice A1 a.length c1, .slice A2 e.length c2, .int .i64 r]) p a e r) (h0 : RdB w A0 p) (h1 : RdB w A1 a) (h2 : RdB w A2 e) (hl : p.length ≤ 140737488355328 ∧ a.length ≤ 140737488355328 ∧ e.length ≤ 140737488355328) :
    Calls Try.prog 38 #[.agg #[.slice A0 p.length c0, .slice A1 a.length c1, .slice A2 e.length c2, .int .i64 r], aP y, .int .i64 K] w (TrailPost (trailF ⟨p, a, e, r⟩ y K) w) := by
  have HM := Lh (fun (W : World) (hW : CoreV W (.agg #[.slice A0 p.length c0, .slice A1 a.length c1, .slice A2 e.length c2, .int .i64 r]) p a e r) => rmay_calls hW (by omega) (by omega) (by omega))
  have HWY := Lh (fun (W : World) => rway_calls y W)
  have HYES := Lh (fun (h : smay ⟨p, a, e, r⟩ y = true) => (smay_iff ⟨p, a, e, r⟩ y).1 h)
  have HT1 := Lh (fun (h : smay ⟨p, a, e, r⟩ y = true) (g0 : 0 ≤ K) (g1 : K ≤ 16) => trailF_yes (c := ⟨p, a, e, r⟩) h g0 g1)
  have HT0 := Lh (fun (h : smay ⟨p, a, e, r⟩ y = false ∨ K < 0 ∨ 16 < K) => show trailF ⟨p, a, e, r⟩ y K = Cr0 from if_neg (by
    rintro ⟨q0, q1, q2⟩
    rcases h with h | h | h
    · rw [h] at q0; cases q0
    · omega
    · omega))
  have HSM : Hid (smay ⟨p, a, e, r⟩ y = (mayF p a e r && decide (p.length ≤ 16) && wayOk y)) := Lh rfl
  obtain ⟨S, hS⟩ : ∃ S, smay ⟨p, a, e, r⟩ y = S := ⟨_, rfl⟩
  obtain ⟨M1, hM1⟩ : ∃ S, mayF p a e r = S := ⟨_, rfl⟩
  obtain ⟨M2, hM2⟩ : ∃ S, wayOk y = S := ⟨_, rfl⟩
  rw [hS] at HYES HT0 HT1 HSM
  rw [hM1] at HM HSM
  rw [hM2] at HWY HSM
  obtain ⟨T, hT⟩ : ∃ T, trailF ⟨p, a, e, r⟩ y K = T := ⟨_, rfl⟩
  rw [hT] at HT0 HT1 ⊢
  obtain ⟨yx, yy, yz⟩ := y
  (try simp only at HWY)
  obtain ⟨NP, hNP⟩ : ∃ N, p.length = N := ⟨_, rfl⟩
  obtain ⟨NA, hNA⟩ : ∃ N, a.length = N := ⟨_, rfl⟩
  obtain ⟨NE, hNE⟩ : ∃ N, e.length = N := ⟨_, rfl⟩
  have HNP := Lh hNP
  have HNA := Lh hNA
  have HNE := Lh hNE
  rw [hNP, hNA, hNE] at hv HM ⊢
  rw [hNP] at HSM
  have HV := Lh hv
  have H0 := Lh h0
  have H1 := Lh h1
  have H2 := Lh h2
  clear h0 h1 h2 hv hS hT hNP hNA hNE hl hM1 hM2
  have z0 := three0 w (.cells #[.slice A0 NP c0, .slice A1 NA c1, .slice A2 NE c2, .int .i64 r] 36) (.cells #[.int .i64 yx, .int .i64 yy, .int .i64 yz] 23) (.cells #[.slice none 0 0, .slice none 0 0, .slice none 0 0, .int .i64 0] 36)
  have z1 := three1 w (.cells #[.slice A0 NP c0, .slice A1 NA c1, .slice A2 NE c2, .int .i64 r] 36) (.cells #[.int .i64 yx, .int .i64 yy, .int .i64 yz] 23) (.cells #[.slice none 0 0, .slice none 0 0, .slice none 0 0, .int .i64 0] 36)
  have z2 := three2 w (.cells #[.slice A0 NP c0, .slice A1 NA c1, .slice A2 NE c2, .int .i64 r] 36) (.cells #[.int .i64 yx, .int .i64 yy, .int .i64 yz] 23) (.cells #[.slice none 0 0, .slice none 0 0, .slice none 0 0, .int .i64 0] 36)
  have zb := Go.Joins.below_alloc3 w (.cells #[.slice A0 NP c0, .slice A1 NA c1, .slice A2 NE c2, .int .i64 r] 36) (.cells #[.int .i64 yx, .int .i64 yy, .int .i64 yz] 23) (.cells #[.slice none 0 0, .slice none 0 0, .slice none 0 0, .int .i64 0] 36)
  go_enter Try.func38, Try.ntmps38
  go_wp2_with fail
  obtain ⟨w1, hw1⟩ : ∃ V, ((w.alloc (.cells #[.slice A0 NP c0, .slice A1 NA c1, .slice A2 NE c2, .int .i64 r] 36)).alloc (.cells #[.int .i64 yx, .int .i64 yy, .int .i64 yz] 23)).alloc (.cells #[.slice none 0 0, .slice none 0 0, .slice none 0 0, .int .i64 0] 36) = V := ⟨_, rfl⟩
  rw [hw1] at z0 z1 z2 zb ⊢
  clear hw1
  with_reducible refine (HM.out w1 (HV.out.below zb)).mono ?_
  rintro en w1b ⟨rfl, hb⟩
  have Z0 := Lh ((hb.block _ (blk_lt z0)).trans z0)
  have Z1 := Lh ((hb.block _ (blk_lt z1)).trans z1)
  have Z2 := Lh ((hb.block _ (blk_lt z2)).trans z2)
  have ZB := Lh (bthen zb hb)
  have y0 : w1b.cell? ⟨w.heap.size + 1, 0, none⟩ = some (.int .i64 yx) := (blk_cell Z1.out 0).trans rfl
  have y1 : w1b.cell? ⟨w.heap.size + 1, 1, none⟩ = some (.int .i64 yy) := (blk_cell Z1.out 1).trans rfl
  have y2 : w1b.cell? ⟨w.heap.size + 1, 2, none⟩ = some (.int .i64 yz) := (blk_cell Z1.out 2).trans rfl
  have yl : w.heap.size + 1 < w1b.heap.size := blk_lt Z1.out
  clear zb z0 z1 z2 hb HM HV
  go_wp2_with fail
  with_reducible refine (HWY.out _).mono ?_
  rintro en w2 ⟨rfl, hb⟩
  have Z0 := Lh ((hb.block _ (blk_lt Z0.out)).trans Z0.out)
  have Z1 := Lh ((hb.block _ (blk_lt Z1.out)).trans Z1.out)
  have Z2 := Lh ((hb.block _ (blk_lt Z2.out)).trans Z2.out)
  have ZB := Lh (bthen ZB.out hb)
  have H0 := Lh (H0.out.below ZB.out)
  have H1 := Lh (H1.out.below ZB.out)
  have H2 := Lh (H2.out.below ZB.out)
  have HA2L := Lh (fun (hn : e ≠ []) (ad : Addr) (ea : A2 = some ad) => H2.out.2 hn ad ea)
  clear hb y0 y1 y2 yl HWY
  have x0 : w2.cell? ⟨w.heap.size, 0, none⟩ = some (.slice A0 NP c0) := (blk_cell Z0.out 0).trans rfl
  have xl : w.heap.size < w2.heap.size := blk_lt Z0.out
  cases M1 with
  | false =>
    have HT := Lh (HT0.out (.inl (HSM.out.trans rfl)))
    clear HT0 HT1 HYES HSM
    have f0 : w2.frozen? ⟨w.heap.size + 2, 0, none⟩ = false := blk_frozen Z2.out 0
    have r0 : w2.cell? ⟨w.heap.size + 2, 0, none⟩ = some (.slice none 0 0) := (blk_cell Z2.out 0).trans rfl
    have f1 : w2.frozen? ⟨w.heap.size + 2, 1, none⟩ = false := blk_frozen Z2.out 1
    have r1 : w2.cell? ⟨w.heap.size + 2, 1, none⟩ = some (.slice none 0 0) := (blk_cell Z2.out 1).trans rfl
    have f2 : w2.frozen? ⟨w.heap.size + 2, 2, none⟩ = false := blk_frozen Z2.out 2
    have r2 : w2.cell? ⟨w.heap.size + 2, 2, none⟩ = some (.slice none 0 0) := (blk_cell Z2.out 2).trans rfl
    have f3 : w2.frozen? ⟨w.heap.size + 2, 3, none⟩ = false := blk_frozen Z2.out 3
    have r3 : w2.cell? ⟨w.heap.size + 2, 3, none⟩ = some (.int .i64 0) := (blk_cell Z2.out 3).trans rfl
    obtain ⟨V, hV⟩ : ∃ V, set4 w2 (w.heap.size + 1 + 1) (.slice none 0 0) (.slice none 0 0) (.slice none 0 0) (.int .i64 0) = V := ⟨_, rfl⟩
    have HV : V.heap[w.heap.size + 2]? = some (.cells #[.slice none 0 0, .slice none 0 0, .slice none 0 0, .int .i64 0] 36 (0, 0)) := by rw [← hV]; exact blk4_set Z2.out _ _ _ _
    have HBV : Below w.heap.size w V := by rw [← hV]; exact below_set4 ZB.out (by omega) _ _ _ _
    have t0 : V.cell? ⟨w.heap.size + 1 + 1, 0, none⟩ = some (.slice none 0 0) := (blk_cell HV 0).trans rfl
    have t1 : V.cell? ⟨w.heap.size + 1 + 1, 1, none⟩ = some (.slice none 0 0) := (blk_cell HV 1).trans rfl
    have t2 : V.cell? ⟨w.heap.size + 1 + 1, 2, none⟩ = some (.slice none 0 0) := (blk_cell HV 2).trans rfl
    have t3 : V.cell? ⟨w.heap.size + 1 + 1, 3, none⟩ = some (.int .i64 0) := (blk_cell HV 3).trans rfl
    go_wp2
    (try rw [hV])
    exact bodyPost_ret (v := .agg #[.slice none 0 0, .slice none 0 0, .slice none 0 0, .int .i64 0]) (by simp [results, Try.results38, go_sem, t0, t1, t2, t3]) rfl ⟨_, rfl, by rw [HT.out]; exact ⟨none, none, none, 0, 0, 0, rfl, RdB.nil _, RdB.nil _, RdB.nil _, Nat.le_refl _, Nat.le_refl _, Nat.le_refl _⟩, HBV⟩
  | true =>
    cases M2 with
    | false =>
      have HT := Lh (HT0.out (.inl (HSM.out.trans (by simp))))
      clear HT0 HT1 HYES HSM
      have f0 : w2.frozen? ⟨w.heap.size + 2, 0, none⟩ = false := blk_frozen Z2.out 0
      have r0 : w2.cell? ⟨w.heap.size + 2, 0, none⟩ = some (.slice none 0 0) := (blk_cell Z2.out 0).trans rfl
      have f1 : w2.frozen? ⟨w.heap.size + 2, 1, none⟩ = false := blk_frozen Z2.out 1
      have r1 : w2.cell? ⟨w.heap.size + 2, 1, none⟩ = some (.slice none 0 0) := (blk_cell Z2.out 1).trans rfl
      have f2 : w2.frozen? ⟨w.heap.size + 2, 2, none⟩ = false := blk_frozen Z2.out 2
      have r2 : w2.cell? ⟨w.heap.size + 2, 2, none⟩ = some (.slice none 0 0) := (blk_cell Z2.out 2).trans rfl
      have f3 : w2.frozen? ⟨w.heap.size + 2, 3, none⟩ = false := blk_frozen Z2.out 3
      have r3 : w2.cell? ⟨w.heap.size + 2, 3, none⟩ = some (.int .i64 0) := (blk_cell Z2.out 3).trans rfl
      obtain ⟨V, hV⟩ : ∃ V, set4 w2 (w.heap.size + 1 + 1) (.slice none 0 0) (.slice none 0 0) (.slice none 0 0) (.int .i64 0) = V := ⟨_, rfl⟩
      have HV : V.heap[w.heap.size + 2]? = some (.cells #[.slice none 0 0, .slice none 0 0, .slice none 0 0, .int .i64 0] 36 (0, 0)) := by rw [← hV]; exact blk4_set Z2.out _ _ _ _
      have HBV : Below w.heap.size w V := by rw [← hV]; exact below_set4 ZB.out (by omega) _ _ _ _
      have t0 : V.cell? ⟨w.heap.size + 1 + 1, 0, none⟩ = some (.slice none 0 0) := (blk_cell HV 0).trans rfl
      have t1 : V.cell? ⟨w.heap.size + 1 + 1, 1, none⟩ = some (.slice none 0 0) := (blk_cell HV 1).trans rfl
      have t2 : V.cell? ⟨w.heap.size + 1 + 1, 2, none⟩ = some (.slice none 0 0) := (blk_cell HV 2).trans rfl
      have t3 : V.cell? ⟨w.heap.size + 1 + 1, 3, none⟩ = some (.int .i64 0) := (blk_cell HV 3).trans rfl
      go_wp2
      (try rw [hV])
      exact bodyPost_ret (v := .agg #[.slice none 0 0, .slice none 0 0, .slice none 0 0, .int .i64 0]) (by simp [results, Try.results38, go_sem, t0, t1, t2, t3]) rfl ⟨_, rfl, by rw [HT.out]; exact ⟨none, none, none, 0, 0, 0, rfl, RdB.nil _, RdB.nil _, RdB.nil _, Nat.le_refl _, Nat.le_refl _, Nat.le_refl _⟩, HBV⟩
    | true =>
      by_cases tn : 16 < NP
      · have en : decide (16 < (NP : Int)) = true := decide_eq_true (by omega)
        have HT := Lh (HT0.out (.inl (HSM.out.trans (by simp; omega))))
        clear HT0 HT1 HYES HSM
        have f0 : w2.frozen? ⟨w.heap.size + 2, 0, none⟩ = false := blk_frozen Z2.out 0
        have r0 : w2.cell? ⟨w.heap.size + 2, 0, none⟩ = some (.slice none 0 0) := (blk_cell Z2.out 0).trans rfl
        have f1 : w2.frozen? ⟨w.heap.size + 2, 1, none⟩ = false := blk_frozen Z2.out 1
        have r1 : w2.cell? ⟨w.heap.size + 2, 1, none⟩ = some (.slice none 0 0) := (blk_cell Z2.out 1).trans rfl
        have f2 : w2.frozen? ⟨w.heap.size + 2, 2, none⟩ = false := blk_frozen Z2.out 2
        have r2 : w2.cell? ⟨w.heap.size + 2, 2, none⟩ = some (.slice none 0 0) := (blk_cell Z2.out 2).trans rfl
        have f3 : w2.frozen? ⟨w.heap.size + 2, 3, none⟩ = false := blk_frozen Z2.out 3
        have r3 : w2.cell? ⟨w.heap.size + 2, 3, none⟩ = some (.int .i64 0) := (blk_cell Z2.out 3).trans rfl
        obtain ⟨V, hV⟩ : ∃ V, set4 w2 (w.heap.size + 1 + 1) (.slice none 0 0) (.slice none 0 0) (.slice none 0 0) (.int .i64 0) = V := ⟨_, rfl⟩
        have HV : V.heap[w.heap.size + 2]? = some (.cells #[.slice none 0 0, .slice none 0 0, .slice none 0 0, .int .i64 0] 36 (0, 0)) := by rw [← hV]; exact blk4_set Z2.out _ _ _ _
        have HBV : Below w.heap.size w V := by rw [← hV]; exact below_set4 ZB.out (by omega) _ _ _ _
        have t0 : V.cell? ⟨w.heap.size + 1 + 1, 0, none⟩ = some (.slice none 0 0) := (blk_cell HV 0).trans rfl
        have t1 : V.cell? ⟨w.heap.size + 1 + 1, 1, none⟩ = some (.slice none 0 0) := (blk_cell HV 1).trans rfl
        have t2 : V.cell? ⟨w.heap.size + 1 + 1, 2, none⟩ = some (.slice none 0 0) := (blk_cell HV 2).trans rfl
        have t3 : V.cell? ⟨w.heap.size + 1 + 1, 3, none⟩ = some (.int .i64 0) := (blk_cell HV 3).trans rfl
        go_wp2
        (try rw [hV])
        exact bodyPost_ret (v := .agg #[.slice none 0 0, .slice none 0 0, .slice none 0 0, .int .i64 0]) (by simp [results, Try.results38, go_sem, t0, t1, t2, t3]) rfl ⟨_, rfl, by rw [HT.out]; exact ⟨none, none, none, 0, 0, 0, rfl, RdB.nil _, RdB.nil _, RdB.nil _, Nat.le_refl _, Nat.le_refl _, Nat.le_refl _⟩, HBV⟩
      have en : decide (16 < (NP : Int)) = false := decide_eq_false (by omega)
      by_cases tk0 : K < 0
      · have ek0 : decide (K < 0) = true := decide_eq_true tk0
        have HT := Lh (HT0.out (.inr (.inl tk0)))
        clear HT0 HT1 HYES HSM
        have f0 : w2.frozen? ⟨w.heap.size + 2, 0, none⟩ = false := blk_frozen Z2.out 0
        have r0 : w2.cell? ⟨w.heap.size + 2, 0, none⟩ = some (.slice none 0 0) := (blk_cell Z2.out 0).trans rfl
        have f1 : w2.frozen? ⟨w.heap.size + 2, 1, none⟩ = false := blk_frozen Z2.out 1
        have r1 : w2.cell? ⟨w.heap.size + 2, 1, none⟩ = some (.slice none 0 0) := (blk_cell Z2.out 1).trans rfl
        have f2 : w2.frozen? ⟨w.heap.size + 2, 2, none⟩ = false := blk_frozen Z2.out 2
        have r2 : w2.cell? ⟨w.heap.size + 2, 2, none⟩ = some (.slice none 0 0) := (blk_cell Z2.out 2).trans rfl
        have f3 : w2.frozen? ⟨w.heap.size + 2, 3, none⟩ = false := blk_frozen Z2.out 3
        have r3 : w2.cell? ⟨w.heap.size + 2, 3, none⟩ = some (.int .i64 0) := (blk_cell Z2.out 3).trans rfl
        obtain ⟨V, hV⟩ : ∃ V, set4 w2 (w.heap.size + 1 + 1) (.slice none 0 0) (.slice none 0 0) (.slice none 0 0) (.int .i64 0) = V := ⟨_, rfl⟩
        have HV : V.heap[w.heap.size + 2]? = some (.cells #[.slice none 0 0, .slice none 0 0, .slice none 0 0, .int .i64 0] 36 (0, 0)) := by rw [← hV]; exact blk4_set Z2.out _ _ _ _
        have HBV : Below w.heap.size w V := by rw [← hV]; exact below_set4 ZB.out (by omega) _ _ _ _
        have t0 : V.cell? ⟨w.heap.size + 1 + 1, 0, none⟩ = some (.slice none 0 0) := (blk_cell HV 0).trans rfl
        have t1 : V.cell? ⟨w.heap.size + 1 + 1, 1, none⟩ = some (.slice none 0 0) := (blk_cell HV 1).trans rfl
        have t2 : V.cell? ⟨w.heap.size + 1 + 1, 2, none⟩ = some (.slice none 0 0) := (blk_cell HV 2).trans rfl
        have t3 : V.cell? ⟨w.heap.size + 1 + 1, 3, none⟩ = some (.int .i64 0) := (blk_cell HV 3).trans rfl
        go_wp2
        (try rw [hV])
        exact bodyPost_ret (v := .agg #[.slice none 0 0, .slice none 0 0, .slice none 0 0, .int .i64 0]) (by simp [results, Try.results38, go_sem, t0, t1, t2, t3]) rfl ⟨_, rfl, by rw [HT.out]; exact ⟨none, none, none, 0, 0, 0, rfl, RdB.nil _, RdB.nil _, RdB.nil _, Nat.le_refl _, Nat.le_refl _, Nat.le_refl _⟩, HBV⟩
      have ek0 : decide (K < 0) = false := decide_eq_false tk0
      by_cases tk1 : 16 < K
      · have ek1 : decide (16 < K) = true := decide_eq_true tk1
        have HT := Lh (HT0.out (.inr (.inr tk1)))
        clear HT0 HT1 HYES HSM
        have f0 : w2.frozen? ⟨w.heap.size + 2, 0, none⟩ = false := blk_frozen Z2.out 0
        have r0 : w2.cell? ⟨w.heap.size + 2, 0, none⟩ = some (.slice none 0 0) := (blk_cell Z2.out 0).trans rfl
        have f1 : w2.frozen? ⟨w.heap.size + 2, 1, none⟩ = false := blk_frozen Z2.out 1
        have r1 : w2.cell? ⟨w.heap.size + 2, 1, none⟩ = some (.slice none 0 0) := (blk_cell Z2.out 1).trans rfl
        have f2 : w2.frozen? ⟨w.heap.size + 2, 2, none⟩ = false := blk_frozen Z2.out 2
        have r2 : w2.cell? ⟨w.heap.size + 2, 2, none⟩ = some (.slice none 0 0) := (blk_cell Z2.out 2).trans rfl
        have f3 : w2.frozen? ⟨w.heap.size + 2, 3, none⟩ = false := blk_frozen Z2.out 3
        have r3 : w2.cell? ⟨w.heap.size + 2, 3, none⟩ = some (.int .i64 0) := (blk_cell Z2.out 3).trans rfl
        obtain ⟨V, hV⟩ : ∃ V, set4 w2 (w.heap.size + 1 + 1) (.slice none 0 0) (.slice none 0 0) (.slice none 0 0) (.int .i64 0) = V := ⟨_, rfl⟩
        have HV : V.heap[w.heap.size + 2]? = some (.cells #[.slice none 0 0, .slice none 0 0, .slice none 0 0, .int .i64 0] 36 (0, 0)) := by rw [← hV]; exact blk4_set Z2.out _ _ _ _
        have HBV : Below w.heap.size w V := by rw [← hV]; exact below_set4 ZB.out (by omega) _ _ _ _
        have t0 : V.cell? ⟨w.heap.size + 1 + 1, 0, none⟩ = some (.slice none 0 0) := (blk_cell HV 0).trans rfl
        have t1 : V.cell? ⟨w.heap.size + 1 + 1, 1, none⟩ = some (.slice none 0 0) := (blk_cell HV 1).trans rfl
        have t2 : V.cell? ⟨w.heap.size + 1 + 1, 2, none⟩ = some (.slice none 0 0) := (blk_cell HV 2).trans rfl
        have t3 : V.cell? ⟨w.heap.size + 1 + 1, 3, none⟩ = some (.int .i64 0) := (blk_cell HV 3).trans rfl
        go_wp2
        (try rw [hV])
        exact bodyPost_ret (v := .agg #[.slice none 0 0, .slice none 0 0, .slice none 0 0, .int .i64 0]) (by simp [results, Try.results38, go_sem, t0, t1, t2, t3]) rfl ⟨_, rfl, by rw [HT.out]; exact ⟨none, none, none, 0, 0, 0, rfl, RdB.nil _, RdB.nil _, RdB.nil _, Nat.le_refl _, Nat.le_refl _, Nat.le_refl _⟩, HBV⟩
      have ek1 : decide (16 < K) = false := decide_eq_false tk1
      have hSS : S = true := HSM.out.trans (by simp; omega)
      obtain ⟨hm, hl16, hy⟩ := HYES.out hSS
      have m := Cr.mayP hm
      have g0 : 0 ≤ K := by omega
      have g1 : K ≤ 16 := by omega
      have hl1 : NP ≤ 16 := by omega
      have hl2 : NA ≤ 128 := by rw [← HNA.out]; exact m.a1
      have hl3 : NE ≤ 128 := by rw [← HNE.out]; exact m.e1
      have HT := Lh (HT1.out hSS g0 g1)
      have HEI := Lh (far_in (by decide) (by decide) m.ef)
      have hpi := far_in (by decide) (by decide) m.pf
      have hBB := partP_bd ⟨yx, yy, yz⟩ K g0 g1 4194304 hy (by decide)
      have ⟨mx1, mx2⟩ := wmul16 yx K ⟨hy.1, hy.2.1⟩ g0 g1
      have ⟨my1, my2⟩ := wmul16 yy K ⟨hy.2.2.1, hy.2.2.2.1⟩ g0 g1
      have ⟨mz1, mz2⟩ := wmul16 yz K ⟨hy.2.2.2.2.1, hy.2.2.2.2.2⟩ g0 g1
      have hBe : partP ⟨yx, yy, yz⟩ K = ⟨(wrap64 ((wrap64 (yx * K)).tdiv 16)), (wrap64 ((wrap64 (yy * K)).tdiv 16)), (wrap64 ((wrap64 (yz * K)).tdiv 16))⟩ := by
        rw [mx1, my1, mz1, mx2, my2, mz2]
        rfl
      rw [hBe] at hBB HT
      have go7 : True := trivial
      clear mx1 mx2 my1 my2 mz1 mz2 hBe
      have y0 : w2.cell? ⟨w.heap.size + 1, 0, none⟩ = some (.int .i64 yx) := (blk_cell Z1.out 0).trans rfl
      have y1 : w2.cell? ⟨w.heap.size + 1, 1, none⟩ = some (.int .i64 yy) := (blk_cell Z1.out 1).trans rfl
      have y2 : w2.cell? ⟨w.heap.size + 1, 2, none⟩ = some (.int .i64 yz) := (blk_cell Z1.out 2).trans rfl
      have yl : w.heap.size + 1 < w2.heap.size := blk_lt Z1.out
      have x3 : w2.cell? ⟨w.heap.size, 3, none⟩ = some (.int .i64 r) := (blk_cell Z0.out 3).trans rfl
      go_upto_region 7 with fail
      obtain ⟨bx, hbx⟩ : ∃ n, (wrap64 ((wrap64 (yx * K)).tdiv 16)) = n := ⟨_, rfl⟩
      obtain ⟨by_, hby⟩ : ∃ n, (wrap64 ((wrap64 (yy * K)).tdiv 16)) = n := ⟨_, rfl⟩
      obtain ⟨bz_, hbz⟩ : ∃ n, (wrap64 ((wrap64 (yz * K)).tdiv 16)) = n := ⟨_, rfl⟩
      rw [hbx, hby, hbz] at hBB HT ⊢
      clear hbx hby hbz
      have HPX := Lh (fun k (hk : k < p.length) => show plusI ⟨bx, by_, bz_⟩ p[k] = ⟨wrap64 (p[k].x + bx), wrap64 (p[k].y + by_), wrap64 (p[k].z + bz_)⟩ by
        have := hpi p[k] (List.getElem_mem hk)
        unfold in3 at this hBB
        unfold plusI wrap64
        simp only [P3.mk.injEq] at this hBB ⊢
        omega)
      have HLM := Lh (fun k (hk : k < p.length) => show (p ++ p.map (plusI ⟨bx, by_, bz_⟩)).take (NP + (k + 1)) = (p ++ p.map (plusI ⟨bx, by_, bz_⟩)).take (NP + k) ++ [plusI ⟨bx, by_, bz_⟩ p[k]] by
        have h9 := HNP.out
        rw [show NP + (k + 1) = NP + k + 1 from rfl, List.take_succ_eq_append_getElem (by rw [List.length_append, List.length_map, HNP.out]; omega), List.getElem_append_right (by rw [HNP.out]; omega)]
        simp [HNP.out])
      have HLM0 : Hid ((p ++ p.map (plusI ⟨bx, by_, bz_⟩)).take (NP + 0) = [] ++ p) := Lh (by rw [Nat.add_zero, ← HNP.out, List.take_left]; rfl)
      have HLM1 : Hid ((p ++ p.map (plusI ⟨bx, by_, bz_⟩)).take (NP + NP) = p ++ p.map (plusI ⟨bx, by_, bz_⟩)) := Lh (List.take_of_length_le (by rw [List.length_append, List.length_map, HNP.out]; exact Nat.le_refl _))
      have HLL : Hid ((p ++ p.map (plusI ⟨bx, by_, bz_⟩)).length ≤ 32) := Lh (by rw [List.length_append, List.length_map, HNP.out]; omega)
      obtain ⟨LM, hLM⟩ : ∃ L, p ++ p.map (plusI ⟨bx, by_, bz_⟩) = L := ⟨_, rfl⟩
      rw [hLM] at HLM HLM0 HLM1 HLL HT
      have HSH := Lh (fun W => rshort_calls ⟨yx, yy, yz⟩ W (in3_le (by decide) hy))
      obtain ⟨s, hs⟩ : ∃ s, short3 ⟨yx, yy, yz⟩ = s := ⟨_, rfl⟩
      have HSI := Lh (show in3 1048576 s from by rw [← hs]; exact short3_in _)
      rw [hs] at HSH HT
      have HLA := Lh (fun k (hk : k < e.length) => show (acrossF ⟨yx, yy, yz⟩ e).take (k + 1) = (acrossF ⟨yx, yy, yz⟩ e).take k ++ [short3 (cross3 e[k] s)] by
        unfold acrossF
        rw [List.take_succ_eq_append_getElem (by rw [List.length_map]; exact hk), List.getElem_map, hs])
      have HLAL : Hid ((acrossF ⟨yx, yy, yz⟩ e).length = NE) := Lh (by unfold acrossF; rw [List.length_map]; exact HNE.out)
      obtain ⟨LA, hLA⟩ : ∃ L, acrossF ⟨yx, yy, yz⟩ e = L := ⟨_, rfl⟩
      rw [hLA] at HLA HLAL HT
      obtain ⟨sx, sy, sz⟩ := s
      (try simp only at HSH)
      have HW1 := Lh (fun (W : World) (va : Option Addr) (ca : Nat) (hA : RdB W A1 a) (hB : RdB W va LA) => rwith_calls a LA NA NE A1 va c1 ca W HNA.out HLAL.out hA.1 hB.1 (by omega) (by omega))
      have HW2 := Lh (fun (W : World) (vb : Option Addr) (hA : RdB W A2 e) (hB : RdB W vb [⟨sx, sy, sz⟩]) => rwith_calls e [⟨sx, sy, sz⟩] NE 1 A2 vb c2 1 W HNE.out rfl hA.1 hB.1 (by omega) (by omega))
      obtain ⟨BB, hBBn⟩ : ∃ n, w2.heap.size = n := ⟨_, rfl⟩
      have q0 := (Below.heap_alloc _ (.cells #[.slice none 0 0, .slice none 0 0, .slice none 0 0, .int .i64 r] 36) _ (by simp)).trans (heap_alloc_new w2 (.cells #[.int .i64 bx, .int .i64 by_, .int .i64 bz_] 23))
      have q1 := heap_alloc_new (w2.alloc (.cells #[.int .i64 bx, .int .i64 by_, .int .i64 bz_] 23)) (.cells #[.slice none 0 0, .slice none 0 0, .slice none 0 0, .int .i64 r] 36)
      have qb := ((Below.refl _ w2).alloc (Nat.le_refl _) (.cells #[.int .i64 bx, .int .i64 by_, .int .i64 bz_] 23)).alloc (by simp) (.cells #[.slice none 0 0, .slice none 0 0, .slice none 0 0, .int .i64 r] 36)
      rw [World.size_alloc] at q1
      obtain ⟨w3, hw3⟩ : ∃ V, (w2.alloc (.cells #[.int .i64 bx, .int .i64 by_, .int .i64 bz_] 23)).alloc (.cells #[.slice none 0 0, .slice none 0 0, .slice none 0 0, .int .i64 r] 36) = V := ⟨_, rfl⟩
      rw [hw3] at q0 q1 qb ⊢
      rw [hBBn] at q0 q1 ⊢
      obtain ⟨AB, hAB⟩ : ∃ n, BB + 1 = n := ⟨_, rfl⟩
      rw [hAB] at q1 ⊢
      have HBB := Lh (show BB ≠ AB ∧ w2.heap.size ≤ BB ∧ w2.heap.size ≤ AB by omega)
      have HY0 := Lh q0
      have HA0 := Lh q1
      have hkeep : ∀ k ∈ [AB, BB], k < w3.heap.size := by
        intro k hk
        rcases List.mem_cons.1 hk with rfl | hk
        · exact blk_lt HA0.out
        · rw [List.mem_singleton] at hk; subst hk; exact blk_lt HY0.out
      have HC0 : Hid (CSt w2 w3 (.slice none 0 0) [] [AB, BB]) := Lh ⟨OwnP.nil _ _, qb, fun k hk => ⟨fun e0 => (by cases e0), hkeep k hk⟩⟩
      clear hkeep
      clear HT0 HT1 HYES HSM hm hl16 m hpi hBB hLM hs hLA tk0 tk1 hy g0 g1 hSS go7 x0 x3 xl y0 y1 y2 yl ek0 ek1 en tn q0 q1 qb hw3 hBBn hAB
      have C0 := Lh (HC0.out.old Z0.out)
      have x0 : w3.cell? ⟨w.heap.size, 0, none⟩ = some (.slice A0 NP c0) := (blk_cell C0.out 0).trans rfl
      have xl : w.heap.size < w3.heap.size := blk_lt C0.out
      have t0 : w3.cell? ⟨AB, 0, none⟩ = some (.slice none 0 0) := (blk_cell HA0.out 0).trans rfl
      have tl : AB < w3.heap.size := blk_lt HA0.out
      go_wp2_with (at_builtin; refine appL_ w2.heap.size rfl _ _ rfl (.slice none 0 0) [] p A0 _ _ rfl rfl HC0.out.own (H0.out.below HC0.out.below).1 HNP.out (by simp; omega) HC0.out.below.size ?_; intro v2 w4 hv2 hg2 hat; obtain ⟨Av2, nv2, cv2, hvv⟩ : ∃ A n c, v2 = .slice A n c := (by obtain ⟨A, c, h, _⟩ := OwnP.rd hv2; exact ⟨A, _, c, h⟩); subst hvv; have hT4 := Lh (HC0.out.blk hg2 (by simp) HA0.out); have hY4 := Lh (HC0.out.blk hg2 (by simp) HY0.out); have hS4 := Lh ((HC0.out.app hv2 hg2 hat).len HLM0.out.symm); have u0 : w4.cell? ⟨AB, 0, none⟩ = some (.slice none 0 0) := (blk_cell hT4.out 0).trans rfl; have u1 : w4.frozen? ⟨AB, 0, none⟩ = false := blk_frozen hT4.out 0; have lA4 : AB < w4.heap.size := blk_lt hT4.out; clear hv2 hg2 hat x0 xl t0 tl)
      go_loopw [11] (fun v11 wr => ∃ k : Nat, ∃ v : Value, k ≤ NP ∧ v11 = .int .i64 k ∧ Hid (CSt w2 wr v (LM.take (NP + k)) [AB, BB]) ∧ Hid (wr.heap[AB]? = some (.cells #[v, .slice none 0 0, .slice none 0 0, .int .i64 r] 36 (0, 0))) ∧ Hid (wr.heap[BB]? = some (.cells #[.int .i64 bx, .int .i64 by_, .int .i64 bz_] 23 (0, 0)))) (fun i _ => NP - (intOf i).toNat)
      case atStart => exact ⟨0, .slice Av2 nv2 cv2, by omega, rfl, Lh (hS4.out.setKeep (by simp) HBB.out.2.2 0 _), Lh (blk40 hT4.out (.slice Av2 nv2 cv2)), Lh ((Below.heap_setCell _ ⟨AB, 0, none⟩ _ BB HBB.out.1).trans hY4.out)⟩
      case round =>
        obtain ⟨k, v, hk, rfl, hS, hT, hY⟩ := hrel
        clear hS4 hT4 hY4 u0 u1 lA4 HC0 HA0 HY0
        obtain ⟨wq, hwq⟩ : ∃ x : World, x = wr := ⟨_, rfl⟩
        subst hwq
        have C0r := Lh (hS.out.old Z0.out)
        have x0 : wq.cell? ⟨w.heap.size, 0, none⟩ = some (.slice A0 NP c0) := (blk_cell C0r.out 0).trans rfl
        have xl : w.heap.size < wq.heap.size := blk_lt C0r.out
        by_cases hlt : k < NP
        · have hkl : k < p.length := by rw [HNP.out]; exact hlt
          obtain ⟨b, o, rfl, lb, e0, e1, e2⟩ := (H0.out.below hS.out.below).1.get k hkl
          have HX := Lh (HPX.out k hkl)
          have HM1 := Lh (HLM.out k hkl)
          obtain ⟨x, hx⟩ : ∃ x, p[k] = x := ⟨_, rfl⟩
          rw [hx] at e0 e1 e2 HX HM1
          obtain ⟨xx, xy, xz⟩ := x
          simp only at HX e0 e1 e2
          rw [HX.out] at HM1
          have q0 : wq.cell? ⟨BB, 0, none⟩ = some (.int .i64 bx) := (blk_cell hY.out 0).trans rfl
          have q1 : wq.cell? ⟨BB, 1, none⟩ = some (.int .i64 by_) := (blk_cell hY.out 1).trans rfl
          have q2 : wq.cell? ⟨BB, 2, none⟩ = some (.int .i64 bz_) := (blk_cell hY.out 2).trans rfl
          have lq : BB < wq.heap.size := blk_lt hY.out
          have t0 : wq.cell? ⟨AB, 0, none⟩ = some v := (blk_cell hT.out 0).trans rfl
          have lt : AB < wq.heap.size := blk_lt hT.out
          have tk : (k : Int) < (NP : Int) := by omega
          clear hx hkl C0r
          have hbA := ((Below.refl _ wq).alloc (Nat.le_refl _) (.cells #[.int .i64 xx, .int .i64 xy, .int .i64 xz] 23)).alloc (by simp) (.cells #[.int .i64 (wrap64 (xx + bx)), .int .i64 (wrap64 (xy + by_)), .int .i64 (wrap64 (xz + bz_))] 23)
          have hS2 := Lh (hS.out.grown hbA)
          have hT2 := Lh ((hbA.block _ lt).trans hT.out)
          have hY2 := Lh ((hbA.block _ lq).trans hY.out)
          have hR2 := (Rd_one (heap_alloc_new (wq.alloc (.cells #[.int .i64 xx, .int .i64 xy, .int .i64 xz] 23)) (.cells #[.int .i64 (wrap64 (xx + bx)), .int .i64 (wrap64 (xy + by_)), .int .i64 (wrap64 (xz + bz_))] 23))).1
          rw [World.size_alloc] at hR2
          clear hbA
          go_wp2_with (at_builtin; refine appL_ w2.heap.size rfl _ _ rfl _ (LM.take (NP + k)) [⟨wrap64 (xx + bx), wrap64 (xy + by_), wrap64 (xz + bz_)⟩] _ _ _ rfl rfl hS2.out.own hR2 rfl (by have := List.length_take_le (NP + k) LM; simp; omega) hS2.out.below.size ?_; intro v2 w4 hv2 hg2 hat; obtain ⟨Av2, nv2, cv2, hvv⟩ : ∃ A n c, v2 = .slice A n c := (by obtain ⟨A, c, h, _⟩ := OwnP.rd hv2; exact ⟨A, _, c, h⟩); subst hvv; have hT4 := Lh (hS2.out.blk hg2 (by simp) hT2.out); have hY4 := Lh (hS2.out.blk hg2 (by simp) hY2.out); have hS4 := Lh ((hS2.out.app hv2 hg2 hat).len HM1.out.symm); have u0 : w4.cell? ⟨AB, 0, none⟩ = some v := (blk_cell hT4.out 0).trans rfl; have u1 : w4.frozen? ⟨AB, 0, none⟩ = false := blk_frozen hT4.out 0; have lA4 : AB < w4.heap.size := blk_lt hT4.out; clear hv2 hg2 hat)
          go_roundw
          case rel => exact ⟨k + 1, .slice Av2 nv2 cv2, by omega, by go_num, Lh (hS4.out.setKeep (by simp) HBB.out.2.2 0 _), Lh (blk40 hT4.out (.slice Av2 nv2 cv2)), Lh ((Below.heap_setCell _ ⟨AB, 0, none⟩ _ BB HBB.out.1).trans hY4.out)⟩
          case measure => simp [intOf]; omega
        · obtain rfl : NP = k := by omega
          have hS := Lh (hS.out.len HLM1.out)
          obtain ⟨nP, hnP⟩ : ∃ n, LM.length = n := ⟨_, rfl⟩
          obtain ⟨Ap, cp, hvp, hlp, hrp, hbp⟩ := hS.out.own.rdB2
          subst hvp
          rw [hnP] at hT hlp
          have HNM := Lh hnP
          have HLP := Lh hlp
          have HRP := Lh hrp
          have HBP := Lh (fun (ad : Addr) (ea : Ap = some ad) => show ad.block ≠ AB from fun e0 => (hS.out.ne AB (by simp)).1 (by rw [ea]; show some ad.block = some AB; rw [e0]))
          have HBW := Lh hS.out.below
          have C0 := Lh (hS.out.old Z0.out)
          have C1 := Lh (hS.out.old Z1.out)
          have C2 := Lh (hS.out.old Z2.out)
          have H1 := Lh (H1.out.below HBW.out)
          have H2 := Lh (H2.out.below HBW.out)
          have ZB := Lh (bthen ZB.out HBW.out)
          have q0 : wq.cell? ⟨w.heap.size + 1, 0, none⟩ = some (.int .i64 yx) := (blk_cell C1.out 0).trans rfl
          have q1 : wq.cell? ⟨w.heap.size + 1, 1, none⟩ = some (.int .i64 yy) := (blk_cell C1.out 1).trans rfl
          have q2 : wq.cell? ⟨w.heap.size + 1, 2, none⟩ = some (.int .i64 yz) := (blk_cell C1.out 2).trans rfl
          have lq : w.heap.size + 1 < wq.heap.size := blk_lt C1.out
          clear hnP hlp hrp hbp hS C1 H0 HNP hY HLM HLM1 HPX C0r
          go_wp2_with fail
          with_reducible refine (HSH.out _).mono ?_
          rintro en w5 ⟨rfl, hb⟩
          have HTA := Lh ((hb.block _ (blk_lt hT.out)).trans hT.out)
          have C0 := Lh ((hb.block _ (blk_lt C0.out)).trans C0.out)
          have C2 := Lh ((hb.block _ (blk_lt C2.out)).trans C2.out)
          have HRP := Lh (HRP.out.below hb)
          have H1 := Lh (H1.out.below hb)
          have H2 := Lh (H2.out.below hb)
          have ZB := Lh (bthen ZB.out hb)
          clear hb hT q0 q1 q2 lq HBW x0 xl
          have HTL5 := Lh (show AB < w5.heap.size from blk_lt HTA.out)
          go_upto_region 14 with fail
          have zb6 := (Below.refl _ w5).alloc (Nat.le_refl _) (.cells #[.int .i64 sx, .int .i64 sy, .int .i64 sz] 23)
          have C5 := Lh (heap_alloc_new w5 (.cells #[.int .i64 sx, .int .i64 sy, .int .i64 sz] 23))
          have HTA := Lh ((zb6.block _ (blk_lt HTA.out)).trans HTA.out)
          have C0 := Lh ((zb6.block _ (blk_lt C0.out)).trans C0.out)
          have C2 := Lh ((zb6.block _ (blk_lt C2.out)).trans C2.out)
          have HRP := Lh (HRP.out.below zb6)
          have H1 := Lh (H1.out.below zb6)
          have H2 := Lh (H2.out.below zb6)
          have ZB := Lh (bthen ZB.out zb6)
          obtain ⟨w6, hw6⟩ : ∃ V, w5.alloc (.cells #[.int .i64 sx, .int .i64 sy, .int .i64 sz] 23) = V := ⟨_, rfl⟩
          obtain ⟨SB, hSB⟩ : ∃ n, w5.heap.size = n := ⟨_, rfl⟩
          rw [hw6] at HTA C0 C2 C5 HRP H1 H2 ZB ⊢
          rw [hSB] at C5 ⊢
          have HTL0 := blk_lt HTA.out
          have HSA := Lh (show SB ≠ AB from fun e0 => by have := HTL5.out; omega)
          have HTL6 := Lh HTL0
          have HZZ := Lh (show w.heap.size + 2 < w2.heap.size from blk_lt Z2.out)
          clear hw6 zb6 hSB HTL0
          go_wp2_with fail
          go_loopw [15, 14] (fun v15 v14 wr => ∃ k : Nat, k ≤ NE ∧ v15 = .int .i64 k ∧ Hid (CSt w6 wr v14 (LA.take k) [])) (fun i _ _ => NE - (intOf i).toNat)
          case atStart => exact ⟨0, by omega, rfl, Lh (CSt.start w6)⟩
          case round =>
            obtain ⟨k, hk, rfl, hS⟩ := hrel
            obtain ⟨wz, hwz⟩ : ∃ x : World, x = wr := ⟨_, rfl⟩
            subst hwz
            have C0q := Lh (hS.out.old C0.out)
            have x2 : wz.cell? ⟨w.heap.size, 2, none⟩ = some (.slice A2 NE c2) := (blk_cell C0q.out 2).trans rfl
            have xl : w.heap.size < wz.heap.size := blk_lt C0q.out
            by_cases hlt : k < NE
            · have hkl : k < e.length := by rw [HNE.out]; exact hlt
              obtain ⟨b, o, rfl, lb, e0, e1, e2⟩ := (H2.out.below hS.out.below).1.get k hkl
              have HM1 := Lh (HLA.out k hkl)
              have hei := HEI.out _ (List.getElem_mem hkl)
              obtain ⟨x, hx⟩ : ∃ x, e[k] = x := ⟨_, rfl⟩
              rw [hx] at e0 e1 e2 HM1 hei
              have HX1 := Lh (fun W => rcross_calls x ⟨sx, sy, sz⟩ W)
              have hci := cross_in hei HSI.out
              obtain ⟨u, hu⟩ : ∃ u, cross3 x ⟨sx, sy, sz⟩ = u := ⟨_, rfl⟩
              rw [hu] at HX1 HM1 hci
              have HX2 := Lh (fun W => rshort_calls u W hci)
              obtain ⟨d, hd⟩ : ∃ v, short3 u = v := ⟨_, rfl⟩
              rw [hd] at HX2 HM1
              obtain ⟨xx, xy, xz⟩ := x
              obtain ⟨ux, uy, uz⟩ := u
              obtain ⟨dx, dy, dz⟩ := d
              simp only at e0 e1 e2
              have C5q := Lh (hS.out.old C5.out)
              have s0 : wz.cell? ⟨SB, 0, none⟩ = some (.int .i64 sx) := (blk_cell C5q.out 0).trans rfl
              have s1 : wz.cell? ⟨SB, 1, none⟩ = some (.int .i64 sy) := (blk_cell C5q.out 1).trans rfl
              have s2 : wz.cell? ⟨SB, 2, none⟩ = some (.int .i64 sz) := (blk_cell C5q.out 2).trans rfl
              have ls : SB < wz.heap.size := blk_lt C5q.out
              have tk : (k : Int) < (NE : Int) := by omega
              clear hx hu hd hkl hei hci
              go_wp2_with fail
              have HB := Lh ((Below.refl wz.heap.size wz).drew)
              have FF := Lh (show ∀ V, Hid (Below wz.heap.size wz V) → V.cell? ⟨w.heap.size, 2, none⟩ = some (.slice (some ⟨b, o, none⟩) NE c2) ∧ V.cell? ⟨b, o + k * 3, none⟩ = some (.int .i64 xx) ∧ V.cell? ⟨b, o + k * 3 + 1, none⟩ = some (.int .i64 xy) ∧ V.cell? ⟨b, o + k * 3 + 2, none⟩ = some (.int .i64 xz) ∧ V.cell? ⟨SB, 0, none⟩ = some (.int .i64 sx) ∧ V.cell? ⟨SB, 1, none⟩ = some (.int .i64 sy) ∧ V.cell? ⟨SB, 2, none⟩ = some (.int .i64 sz) from fun V HB => ⟨(HB.out.cell (p := ⟨w.heap.size, 2, none⟩) (xl)).trans x2, (HB.out.cell (p := ⟨b, o + k * 3, none⟩) (lb)).trans e0, (HB.out.cell (p := ⟨b, o + k * 3 + 1, none⟩) (lb)).trans e1, (HB.out.cell (p := ⟨b, o + k * 3 + 2, none⟩) (lb)).trans e2, (HB.out.cell (p := ⟨SB, 0, none⟩) (ls)).trans s0, (HB.out.cell (p := ⟨SB, 1, none⟩) (ls)).trans s1, (HB.out.cell (p := ⟨SB, 2, none⟩) (ls)).trans s2⟩)
              refine start_ (n := 12) (S := fun w' => w'.cell? ⟨w.heap.size, 2, none⟩ = some (.slice (some ⟨b, o, none⟩) NE c2) ∧ w'.cell? ⟨b, o + k * 3, none⟩ = some (.int .i64 xx) ∧ w'.cell? ⟨b, o + k * 3 + 1, none⟩ = some (.int .i64 xy) ∧ w'.cell? ⟨b, o + k * 3 + 2, none⟩ = some (.int .i64 xz) ∧ w'.cell? ⟨SB, 0, none⟩ = some (.int .i64 sx) ∧ w'.cell? ⟨SB, 1, none⟩ = some (.int .i64 sy) ∧ w'.cell? ⟨SB, 2, none⟩ = some (.int .i64 sz)) (ds := [10]) (MT 0 12) (by kernel_rfl) rfl rfl (FF.out _ HB) (fun hHeld => ?_)
              obtain ⟨wd, hwd⟩ : ∃ x, wz.drew = x := ⟨_, rfl⟩
              rw [hwd] at HB hHeld ⊢
              clear hwd
              refine pu_ 0 108 (h := ?_)
              refine pu_ 1 109 (h := ?_)
              refine pu_ 3 111 (h := ?_)
              refine ta_ 2 110 hHeld (h := ?_)
              refine pu_ 4 112 (h := ?_)
              refine ta_ 5 113 hHeld (h := ?_)
              refine ta_ 6 114 hHeld (h := ?_)
              refine on_ 7 (some 115) (h := fun K hK => ?_)
              refine gs_ Try.func82 #[aP ⟨xx, xy, xz⟩, aP ⟨sx, sy, sz⟩] ?_
              with_reducible refine (HX1.out _).mono ?_
              rintro en w7 ⟨rfl, hb⟩
              have HB := Lh (HB.out.trans (hb.mono HB.out.size))
              clear hb
              refine ⟨_, rfl, ?_⟩
              refine hK.out _ _ (FF.out _ HB) (fun hHeld => ?_)
              clear hK K
              refine no_ (h := ?_)
              refine on_ 8 (some 116) (h := fun K hK => ?_)
              refine gs_ Try.func81 #[aP ⟨ux, uy, uz⟩] ?_
              with_reducible refine (HX2.out _).mono ?_
              rintro en w7 ⟨rfl, hb⟩
              have HB := Lh (HB.out.trans (hb.mono HB.out.size))
              clear hb
              refine ⟨_, rfl, ?_⟩
              refine hK.out _ _ (FF.out _ HB) (fun hHeld => ?_)
              clear hK K
              refine no_ (h := ?_)
              refine on_ 9 (some 117) (h := fun K hK => ?_)
              refine value_ (w1 := ?_) (v := ?_) (by rfl) rfl ?_ ?_
              rotate_left 2
              · go_simp
                constructor
                · rfl
                · rfl
              have HA := Lh (ha_new HB.out (.cells #[.int .i64 dx, .int .i64 dy, .int .i64 dz] 23))
              have HB := Lh (HB.out.alloc HB.out.size (.cells #[.int .i64 dx, .int .i64 dy, .int .i64 dz] 23))
              refine hK.out _ _ (FF.out _ HB) (fun hHeld => ?_)
              clear hK K
              refine no_ (h := ?_)
              refine last_ (i := 10) (N := some 118) (MT 11 1) rfl rfl (by kernel_rfl) (by decide) (fun K hK => ?_)
              have hS8 := hS.out.grown HB.out
              refine appR_ w6.heap.size (by rfl) rfl _ _ rfl _ _ [⟨dx, dy, dz⟩] _ _ _ rfl rfl hS8.own (Rd_one HA.out).1 rfl (by have := List.length_take_le k LA; simp; omega) hS8.below.size ?_
              intro v9 w9 hv hg hat
              obtain ⟨Av, nv, cv, hvv⟩ : ∃ A n c, v9 = .slice A n c := (by obtain ⟨A, c, h, _⟩ := OwnP.rd hv; exact ⟨A, _, c, h⟩)
              subst hvv
              have hS9 := Lh ((hS8.app hv hg hat).len HM1.out.symm)
              clear hv hg hat hS8
              refine hK.out _ _ ?_
              clear hK K
              refine no_ (h := ?_)
              refine pu_ 11 14 (h := ?_)
              refine done_ (by kernel_rfl) ?_
              clear hHeld HB HA x2 xl e0 e1 e2 s0 s1 s2 ls lb HX1 HX2 tk hS C0q C5q
              go_wp2
              go_roundw
              case rel => exact ⟨k + 1, by omega, by go_num, hS9⟩
              case measure => simp [intOf]; omega
            · obtain rfl : NE = k := by omega
              have hS := Lh (hS.out.len (List.take_of_length_le (Nat.le_of_eq HLAL.out)))
              obtain ⟨Aa, ca, hva, hla, hra, hba⟩ := hS.out.own.rdB2
              subst hva
              rw [HLAL.out]
              have HRA := Lh hra
              have HB6 := Lh hS.out.below
              have HTA := Lh (hS.out.old HTA.out)
              have C0 := Lh (hS.out.old C0.out)
              have C2 := Lh (hS.out.old C2.out)
              have C5 := Lh (hS.out.old C5.out)
              have HRP := Lh (HRP.out.below HB6.out)
              have H1 := Lh (H1.out.below HB6.out)
              have H2 := Lh (H2.out.below HB6.out)
              have ZB := Lh (bthen ZB.out HB6.out)
              have x1 : wz.cell? ⟨w.heap.size, 1, none⟩ = some (.slice A1 NA c1) := (blk_cell C0.out 1).trans rfl
              have HTL := Lh (show AB < wz.heap.size from blk_lt HTA.out)
              have HB2N := Lh (fun (hn : e ≠ []) (ad : Addr) (ea : A2 = some ad) => show ad.block ≠ AB from fun e0 => by have h1 := HA2L.out hn ad ea; have h2 := HBB.out; omega)
              clear hS hla hra hba HLA HSH C0q HB6
              go_wp2_with fail
              with_reducible refine (HW1.out _ _ _ H1.out HRA.out).mono ?_
              rintro en w7 ⟨A7, c7, rfl, hl7, hr7, hb, hb7⟩
              have HTA := Lh ((hb.block _ (blk_lt HTA.out)).trans HTA.out)
              have C0 := Lh ((hb.block _ (blk_lt C0.out)).trans C0.out)
              have C2 := Lh ((hb.block _ (blk_lt C2.out)).trans C2.out)
              have C5 := Lh ((hb.block _ (blk_lt C5.out)).trans C5.out)
              have HRP := Lh (HRP.out.below hb)
              have H2 := Lh (H2.out.below hb)
              have ZB := Lh (bthen ZB.out hb)
              have N7 := Lh (fun (ad : Addr) (ea : A7 = some ad) => show ad.block ≠ AB from fun e0 => by have h1 := hb7 ad ea; have h2 := HTL.out; omega)
              have HR7 := Lh hr7
              have HL7 := Lh hl7
              obtain ⟨n7, hn7⟩ : ∃ n, (withF a LA).length = n := ⟨_, rfl⟩
              rw [hn7] at HL7 ⊢
              have HN7 := Lh hn7
              clear hl7 hr7 hb hb7 hn7 x1 x2 xl HW1
              have u1 : w7.cell? ⟨AB, 1, none⟩ = some (.slice none 0 0) := (blk_cell HTA.out 1).trans rfl
              have f1 : w7.frozen? ⟨AB, 1, none⟩ = false := blk_frozen HTA.out 1
              have la : AB < w7.heap.size := blk_lt HTA.out
              go_upto_region 20 with fail
              have HTB := Lh (blk_s1 HTA.out (.slice A7 n7 c7))
              have hA0 : w.heap.size ≠ AB := by have := HBB.out; have := HZZ.out; omega
              have hA2 : w.heap.size + 2 ≠ AB := by have := HBB.out; have := HZZ.out; omega
              have hAw : w.heap.size ≤ AB := by have := HBB.out; have := HZZ.out; omega
              have hAS : SB ≠ AB := HSA.out
              have C0 := Lh ((Below.heap_setCell w7 ⟨AB, 1, none⟩ (.slice A7 n7 c7) _ hA0).trans C0.out)
              have C2 := Lh ((Below.heap_setCell w7 ⟨AB, 1, none⟩ (.slice A7 n7 c7) _ hA2).trans C2.out)
              have C5 := Lh ((Below.heap_setCell w7 ⟨AB, 1, none⟩ (.slice A7 n7 c7) _ hAS).trans C5.out)
              have HRP := Lh (HRP.out.setc HBP.out 1 (.slice A7 n7 c7))
              have HR7 := Lh (HR7.out.setc N7.out 1 (.slice A7 n7 c7))
              have H2 := Lh (H2.out.setcE HB2N.out 1 (.slice A7 n7 c7))
              have ZB := Lh (ZB.out.setCell (p := ⟨AB, 1, none⟩) hAw (.slice A7 n7 c7))
              obtain ⟨w8, hw8⟩ : ∃ V, w7.setCell ⟨AB, 1, none⟩ (.slice A7 n7 c7) = V := ⟨_, rfl⟩
              rw [hw8] at HTB C0 C2 C5 HRP HR7 H2 ZB ⊢
              clear hw8 HTA u1 f1 la
              have x2 : w8.cell? ⟨w.heap.size, 2, none⟩ = some (.slice A2 NE c2) := (blk_cell C0.out 2).trans rfl
              have xl : w.heap.size < w8.heap.size := blk_lt C0.out
              have s0 : w8.cell? ⟨SB, 0, none⟩ = some (.int .i64 sx) := (blk_cell C5.out 0).trans rfl
              have s1 : w8.cell? ⟨SB, 1, none⟩ = some (.int .i64 sy) := (blk_cell C5.out 1).trans rfl
              have s2 : w8.cell? ⟨SB, 2, none⟩ = some (.int .i64 sz) := (blk_cell C5.out 2).trans rfl
              have ls : SB < w8.heap.size := blk_lt C5.out
              go_wp2_with fail
              have bn := (Below.refl _ w8).alloc (Nat.le_refl _) (.cells #[.int .i64 sx, .int .i64 sy, .int .i64 sz] 23)
              have rn := Rd_one (heap_alloc_new w8 (.cells #[.int .i64 sx, .int .i64 sy, .int .i64 sz] 23))
              obtain ⟨w9, hw9⟩ : ∃ V, w8.alloc (.cells #[.int .i64 sx, .int .i64 sy, .int .i64 sz] 23) = V := ⟨_, rfl⟩
              rw [hw9] at bn rn ⊢
              have HTB := Lh ((bn.block _ (blk_lt HTB.out)).trans HTB.out)
              have C2 := Lh ((bn.block _ (blk_lt C2.out)).trans C2.out)
              have HRP := Lh (HRP.out.below bn)
              have HR7 := Lh (HR7.out.below bn)
              have H2 := Lh (H2.out.below bn)
              have ZB := Lh (bthen ZB.out bn)
              clear hw9 bn x2 xl s0 s1 s2 ls
              with_reducible refine (HW2.out _ _ H2.out rn).mono ?_
              rintro en w10 ⟨A8, c8, rfl, hl8, hr8, hb, hb8⟩
              have N8 := Lh (fun (ad : Addr) (ea : A8 = some ad) => show ad.block ≠ AB from fun e0 => by have h1 := hb8 ad ea; have h2 := blk_lt HTB.out; omega)
              have HTB := Lh ((hb.block _ (blk_lt HTB.out)).trans HTB.out)
              have C2 := Lh ((hb.block _ (blk_lt C2.out)).trans C2.out)
              have HRP := Lh (HRP.out.below hb)
              have HR7 := Lh (HR7.out.below hb)
              have ZB := Lh (bthen ZB.out hb)
              have HR8 := Lh hr8
              have HL8 := Lh hl8
              obtain ⟨n8, hn8⟩ : ∃ n, (withF e [⟨sx, sy, sz⟩]).length = n := ⟨_, rfl⟩
              rw [hn8] at HL8 ⊢
              have HN8 := Lh hn8
              clear hl8 hr8 hb hb8 hn8 rn HW2
              have u1 : w10.cell? ⟨AB, 2, none⟩ = some (.slice none 0 0) := (blk_cell HTB.out 2).trans rfl
              have f1 : w10.frozen? ⟨AB, 2, none⟩ = false := blk_frozen HTB.out 2
              have la : AB < w10.heap.size := blk_lt HTB.out
              go_upto_region 21 with fail
              have HTD := blk_s2 HTB.out (.slice A8 n8 c8)
              have R9 := (Below.heap_setCell w10 ⟨AB, 2, none⟩ (.slice A8 n8 c8) _ hA2).trans C2.out
              have p9 := HRP.out.setc HBP.out 2 (.slice A8 n8 c8)
              have a9 := HR7.out.setc N7.out 2 (.slice A8 n8 c8)
              have e9 := HR8.out.setc N8.out 2 (.slice A8 n8 c8)
              have B9 := ZB.out.setCell (p := ⟨AB, 2, none⟩) hAw (.slice A8 n8 c8)
              obtain ⟨w11, hw11⟩ : ∃ V, w10.setCell ⟨AB, 2, none⟩ (.slice A8 n8 c8) = V := ⟨_, rfl⟩
              rw [hw11] at p9 a9 e9 R9 B9 HTD ⊢
              clear hw11 u1 f1 la
              have d0_ : w11.cell? ⟨AB, 0, none⟩ = some (.slice Ap nP cp) := (blk_cell HTD 0).trans rfl
              have d1_ : w11.cell? ⟨AB, 1, none⟩ = some (.slice A7 n7 c7) := (blk_cell HTD 1).trans rfl
              have d2_ : w11.cell? ⟨AB, 2, none⟩ = some (.slice A8 n8 c8) := (blk_cell HTD 2).trans rfl
              have d3_ : w11.cell? ⟨AB, 3, none⟩ = some (.int .i64 r) := (blk_cell HTD 3).trans rfl
              have lA10 : AB < w11.heap.size := blk_lt HTD
              have r0 : w11.cell? ⟨w.heap.size + 1 + 1, 0, none⟩ = some (.slice none 0 0) := (blk_cell R9 0).trans rfl
              have f0 : w11.frozen? ⟨w.heap.size + 1 + 1, 0, none⟩ = false := blk_frozen R9 0
              have r1 : w11.cell? ⟨w.heap.size + 1 + 1, 1, none⟩ = some (.slice none 0 0) := (blk_cell R9 1).trans rfl
              have f1 : w11.frozen? ⟨w.heap.size + 1 + 1, 1, none⟩ = false := blk_frozen R9 1
              have r2 : w11.cell? ⟨w.heap.size + 1 + 1, 2, none⟩ = some (.slice none 0 0) := (blk_cell R9 2).trans rfl
              have f2 : w11.frozen? ⟨w.heap.size + 1 + 1, 2, none⟩ = false := blk_frozen R9 2
              have r3 : w11.cell? ⟨w.heap.size + 1 + 1, 3, none⟩ = some (.int .i64 0) := (blk_cell R9 3).trans rfl
              have f3 : w11.frozen? ⟨w.heap.size + 1 + 1, 3, none⟩ = false := blk_frozen R9 3
              have T7 := bs4 R9 (.slice Ap nP cp) (.slice A7 n7 c7) (.slice A8 n8 c8) (.int .i64 r)
              have B7 := bb4 B9 (show w.heap.size ≤ w.heap.size + 2 by omega) (.slice Ap nP cp) (.slice A7 n7 c7) (.slice A8 n8 c8) (.int .i64 r)
              have p7 := p9.setS R9 (.slice Ap nP cp) (.slice A7 n7 c7) (.slice A8 n8 c8) (.int .i64 r)
              have a7 := a9.setS R9 (.slice Ap nP cp) (.slice A7 n7 c7) (.slice A8 n8 c8) (.int .i64 r)
              have e7 := e9.setS R9 (.slice Ap nP cp) (.slice A7 n7 c7) (.slice A8 n8 c8) (.int .i64 r)
              obtain ⟨w12, hw12⟩ : ∃ V, ((((w11.setCell ⟨w.heap.size + 1 + 1, 0, none⟩ (.slice Ap nP cp)).setCell ⟨w.heap.size + 1 + 1, 1, none⟩ (.slice A7 n7 c7)).setCell ⟨w.heap.size + 1 + 1, 2, none⟩ (.slice A8 n8 c8)).setCell ⟨w.heap.size + 1 + 1, 3, none⟩ (.int .i64 r)) = V := ⟨_, rfl⟩
              have hw12b : ((((w11.setCell ⟨w.heap.size + 2, 0, none⟩ (.slice Ap nP cp)).setCell ⟨w.heap.size + 2, 1, none⟩ (.slice A7 n7 c7)).setCell ⟨w.heap.size + 2, 2, none⟩ (.slice A8 n8 c8)).setCell ⟨w.heap.size + 2, 3, none⟩ (.int .i64 r)) = w12 := hw12
              rw [hw12b] at T7 B7 p7 a7 e7
              have hv12 := Lh hw12
              have T7 := Lh T7
              have B7 := Lh B7
              have HVF : Hid (CrV w12 (.agg #[.slice Ap nP cp, .slice A7 n7 c7, .slice A8 n8 c8, .int .i64 r]) T) := Lh (by
                rw [HT.out]
                exact ⟨Ap, A7, A8, cp, c7, c8, by rw [HNM.out, HN7.out, HN8.out], p7, a7, e7, by rw [HNM.out]; exact HLP.out, by rw [HN7.out]; exact HL7.out, by rw [HN8.out]; exact HL8.out⟩)
              clear hw12 hw12b p7 a7 e7 p9 a9 e9 R9 B9 HTD
              go_wp2
              (try rw [hv12.out])
              have y0 : w12.cell? ⟨w.heap.size + 1 + 1, 0, none⟩ = some (.slice Ap nP cp) := (blk_cell T7.out 0).trans rfl
              have y1 : w12.cell? ⟨w.heap.size + 1 + 1, 1, none⟩ = some (.slice A7 n7 c7) := (blk_cell T7.out 1).trans rfl
              have y2 : w12.cell? ⟨w.heap.size + 1 + 1, 2, none⟩ = some (.slice A8 n8 c8) := (blk_cell T7.out 2).trans rfl
              have y3 : w12.cell? ⟨w.heap.size + 1 + 1, 3, none⟩ = some (.int .i64 r) := (blk_cell T7.out 3).trans rfl
              exact bodyPost_ret (v := .agg #[.slice Ap nP cp, .slice A7 n7 c7, .slice A8 n8 c8, .int .i64 r]) (by simp [results, Try.results38, go_sem, y0, y1, y2, y3]) rfl ⟨_, rfl, HVF.out, B7.out⟩
theorem rtrail_calls {w : World} {v : Value} {c : Cr} (h : CrV w v c) (y : P3) (K : Int) (hl : c.p.length ≤ 140737488355328 ∧ c.a.length ≤ 140737488355328 ∧ c.e.length ≤ 140737488355328) : Calls Try.prog 38 #[v, aP y, .int .i64 K] w (TrailPost (trailF c y K) w) := by
  obtain ⟨p, a, e, r⟩ := c
  obtain ⟨A0, A1, A2, c0, c1, c2, rfl, h0, h1, h2, _⟩ := id h.out
  exact rtrail_in p a e r A0 A1 A2 c0 c1 c2 y K w h h0 h1 h2 hl
end Go.Proofs.Ytckdhahceelckaa.G
namespace Go.Proofs.Ytckdhahceelckaa.G
open Go.RowKit Go.Proofs.YtckdhahceelckaaW.PrintWords Go.Proofs.YtckdhahceelckaaW.PrintLast Go.Proofs.YtckdhahceelckaaW.PrintMore
attribute [local go_sem] max2_mx min2_mn max_two min_two max_three min_three max_four min_four
attribute [local go_sem high] eqA23 eqA40
set_option linter.unusedVariables false
set_option linter.unusedSimpArgs false
/-- a list of numbers of the call's own; one that reads -/
def OwnNn (w : World) (base : Nat) (v : Value) (l : List Nat) : Prop := w.ownsRow base 3 1 v l.length (l.map fun (n : Nat) => Value.int .i64 (n : Int))
def RdNn (w : World) (A : Option Addr) (l : List Nat) : Prop := ∀ (i n : Nat), l[i]? = some n → ∃ b o, A = some ⟨b, o, none⟩ ∧ b < w.heap.size ∧ w.cell? ⟨b, o + i, none⟩ = some (.int .i64 (n : Int))
theorem RdNn.below {w w1 : World} {A : Option Addr} {l : List Nat} (h : RdNn w A l) (hb : Below w.heap.size w w1) : RdNn w1 A l := fun i n hn => by
  obtain ⟨b, o, e, hlt, h0⟩ := h i n hn
  exact ⟨b, o, e, Nat.lt_of_lt_of_le hlt hb.size, (hb.cell (p := ⟨b, _, none⟩) hlt).trans h0⟩
theorem OwnNn.nil (w : World) (base : Nat) : OwnNn w base (.slice none 0 0) [] := World.ownsRow_nil _ _ _ _
theorem OwnNn.rd {w : World} {base : Nat} {v : Value} {l : List Nat} (h : OwnNn w base v l) : ∃ A c, v = .slice A l.length c ∧ l.length ≤ c ∧ c ≤ maxLen ∧ RdNn w A l ∧ (A = none → l.length = 0) := by
  have h0 := h
  obtain ⟨h1, h2⟩ := h
  rcases h2 with ⟨rfl, hn⟩ | ⟨g, cap, cur, rfl, hb, hg, hnc, hm, hsz, ht⟩
  · obtain rfl := List.eq_nil_of_length_eq_zero hn
    exact ⟨none, 0, rfl, Nat.le_refl _, Nat.zero_le _, fun i n hi => by simp at hi, fun _ => rfl⟩
  · refine ⟨some ⟨g, 0, none⟩, cap, rfl, hnc, hm, fun i n hi => ⟨g, 0, rfl, (Array.getElem?_eq_some_iff.1 hg).1, ?_⟩, fun e => by cases e⟩
    have := h0.cells (g := g) rfl i (.int .i64 (n : Int)) (by rw [List.getElem?_map, hi]; rfl)
    rwa [add_at] at this
theorem OwnNn.grown {w w' : World} {base : Nat} {v : Value} {l : List Nat} (h : OwnNn w base v l) (hb : Below w.heap.size w w') : OwnNn w' base v l := pw_own_below h hb
section
variable {w : World} {ops : Array Oper} {rest : List Oper} {o : Oper} {a : Act} {Q : Exit → Act → World → Prop}
end
end Go.Proofs.Ytckdhahceelckaa.G
namespace Go.Proofs.Ytckdhahceelckaa.G
open Go.RowKit Go.Proofs.YtckdhahceelckaaW.PrintWords Go.Proofs.YtckdhahceelckaaW.PrintLast Go.Proofs.YtckdhahceelckaaW.PrintMore
attribute [local go_sem] max2_mx min2_mn max_two min_two max_three min_three max_four min_four
attribute [local go_sem high] eqA23 eqA40
set_option linter.unusedVariables false
set_option linter.unusedSimpArgs false
/-- bounds of a list of cores -/
def CrB (c : Cr) : Prop := c.p.length ≤ 140737488355328 ∧ c.a.length ≤ 140737488355328 ∧ c.e.length ≤ 140737488355328
end Go.Proofs.Ytckdhahceelckaa.G
set_option maxRecDepth 100000
namespace Go.Proofs.Ytckdhahceelckaa.G
open Go.ChangeShapes Go.WideShapes Go.RowKit
set_option linter.unusedVariables false
set_option linter.unusedSimpArgs false
theorem cell_spot {w : World} {a : Addr} {v : Value} (h : w.cell? a = some v) : a.spot = none ∧ a.block < w.heap.size := by
  unfold World.cell? at h
  split at h
  · rename_i c e t hc
    refine ⟨?_, (Array.getElem?_eq_some_iff.1 hc).1⟩
    cases hs : a.spot with
    | none => rfl
    | some s => rw [hs] at h; simp at h
  · cases h
theorem add_zero_ (a : Addr) (k : Nat) : (a.add (0 * k)).add 0 = a := by
  unfold Addr.add
  simp
theorem weights_all {H : Type} {P : Program} {t : TypeId} : ∀ {ds : List (DataW H)} {j : Nat} {d : DataW H}, ds[j]? = some d → ∀ n ∈ d.weights P t, n ∈ DataW.weightsAll P t ds
  | d :: r, 0, _, h, n, hn => by
    cases h
    rw [DataW.weightsAll]
    exact List.mem_append_left _ hn
  | d :: r, j + 1, e, h, n, hn => by
    rw [DataW.weightsAll]
    exact List.mem_append_right _ (weights_all (ds := r) (j := j) (by simpa using h) n hn)
section
variable {H : Type} {enc : TypeId × Value → H} {W : World} {base : Nat} {spare : Nat → Bool} {held : Bool}
/-- a slice of points that lies in a cell -/
theorem open_cell_pts {fuel : Nat} {v : Value} {y : DataW H × List MemPlace} (h : DataW.trod enc Try.prog W base spare held fuel 24 [v] = some y) (hw : ∀ k ∈ y.1.weights Try.prog 24, k ≤ reachBytes) :
    ∃ A c, ∃ l : List P3, v = .slice A l.length c ∧ l.length ≤ c ∧ RdB W A l ∧ l.length ≤ 140737488355328 := by
  rcases Go.Deep.open_slice Try.underlying24 h with ⟨e, _⟩ | ⟨a, len, cap, m, k, D, Pl, e, hb, hl, hc, hm, hx, hf⟩
  · simp only [List.cons.injEq, and_true] at e
    subst e
    exact ⟨none, 0, [], rfl, Nat.le_refl _, RdB.nil W, by simp⟩
  · simp only [List.cons.injEq, and_true] at e
    subst e
    rcases Nat.eq_zero_or_pos len with h0 | h0
    · subst h0
      exact ⟨some a, cap, [], rfl, hl, ⟨Rd.nil _ _, fun h => absurd rfl h⟩, by simp⟩
    · have him : 0 < m := by
        rw [hm]; split <;> omega
      obtain ⟨cs', h1, h2⟩ := hf 0 him
      have hcells : Try.prog.cellsOf 23 = 3 := by kernel_rfl
      rw [hcells] at h1
      obtain ⟨_, hl3, hg⟩ := World.cells?_some h1
      obtain ⟨v0, hv0⟩ : ∃ v0, cs'[0]? = some v0 := ⟨_, List.getElem?_eq_getElem (by omega)⟩
      obtain ⟨s1, s2⟩ := cell_spot ((hg 0 (by decide)).trans hv0)
      have hA : ∀ a', some a = some a' → a'.spot = none ∧ a'.block < W.heap.size := fun a' e => by
        cases e
        rw [add_zero_] at s1 s2
        exact ⟨s1, s2⟩
      obtain ⟨l, hll, R, L⟩ := open_pts3 hA h hw
      subst hll
      exact ⟨some a, cap, l, rfl, hl, R, L⟩
set_option maxHeartbeats 4000000 in
theorem open_core_cells {fuel : Nat} {cs : List Value} {y : DataW H × List MemPlace} (h : DataW.trod enc Try.prog W base spare held fuel 36 cs = some y) (hw : ∀ k ∈ y.1.weights Try.prog 36, k ≤ reachBytes) :
    ∃ A0 A1 A2 c0 c1 c2, ∃ c : Cr, cs = [.slice A0 c.p.length c0, .slice A1 c.a.length c1, .slice A2 c.e.length c2, .int .i64 c.r] ∧ CrV W (.agg #[.slice A0 c.p.length c0, .slice A1 c.a.length c1, .slice A2 c.e.length c2, .int .i64 c.r]) c ∧ CrB c := by
  obtain ⟨xs, n, _, hx, hcs, hlen, hf⟩ := DataW.trod_struct Try.underlying36 h
  have hC : Try.prog.cellsOf 36 = 4 := by kernel_rfl
  have k24 : Try.prog.cellsOf 24 = 1 := by kernel_rfl
  have k3 : Try.prog.cellsOf 3 = 1 := by kernel_rfl
  rw [hC] at hcs
  obtain ⟨v0, v1, v2, v3, rfl⟩ : ∃ v0 v1 v2 v3, cs = [v0, v1, v2, v3] := by
    match cs, hcs with
    | [v0, v1, v2, v3], _ => exact ⟨v0, v1, v2, v3, rfl⟩
  subst hx
  have each : ∀ (i : Nat), i < 4 → ∃ y, xs[i]? = some y := fun i hi => ⟨_, List.getElem?_eq_getElem (by rw [hlen]; show i < 4; omega)⟩
  obtain ⟨y0, hy0⟩ := each 0 (by decide)
  obtain ⟨y1, hy1⟩ := each 1 (by decide)
  obtain ⟨y2, hy2⟩ := each 2 (by decide)
  obtain ⟨y3, hy3⟩ := each 3 (by decide)
  have h0 := hf 0 _ rfl
  have h1 := hf 1 _ rfl
  have h2 := hf 2 _ rfl
  have h3 := hf 3 _ rfl
  rw [hy0] at h0
  rw [hy1] at h1
  rw [hy2] at h2
  rw [hy3] at h3
  have wt : ∀ (i : Nat) y, xs[i]? = some y → #[(24 : TypeId), 24, 24, 3][i]? = some 24 → ∀ k ∈ y.1.weights Try.prog 24, k ≤ reachBytes := fun i y hy ht k hk => hw k (by
    rw [DataW.weights, Try.underlying36]
    exact DataW.weights_mem_each (j := i) (t := 24) (d := y.1) (by simpa using ht) (by rw [List.getElem?_map, hy]; rfl) k hk)
  have t0 : DataW.trod enc Try.prog W base spare held n 24 [v0] = some y0 := by
    have e : ((List.drop 0 ([v0, v1, v2, v3] : List Value)).take (Try.prog.cellsOf 24)) = [v0] := by rw [k24]; rfl
    exact (congrArg _ e.symm).trans h0
  have t1 : DataW.trod enc Try.prog W base spare held n 24 [v1] = some y1 := by
    have e : ((List.drop 1 ([v0, v1, v2, v3] : List Value)).take (Try.prog.cellsOf 24)) = [v1] := by rw [k24]; rfl
    exact (congrArg _ e.symm).trans h1
  have t2 : DataW.trod enc Try.prog W base spare held n 24 [v2] = some y2 := by
    have e : ((List.drop 2 ([v0, v1, v2, v3] : List Value)).take (Try.prog.cellsOf 24)) = [v2] := by rw [k24]; rfl
    exact (congrArg _ e.symm).trans h2
  have t3 : DataW.trod enc Try.prog W base spare held n 3 [v3] = some y3 := by
    have e : ((List.drop 3 ([v0, v1, v2, v3] : List Value)).take (Try.prog.cellsOf 3)) = [v3] := by rw [k3]; rfl
    exact (congrArg _ e.symm).trans h3
  obtain ⟨A0, c0, l0, rfl, k0, R0, L0⟩ := open_cell_pts t0 (wt 0 y0 hy0 rfl)
  obtain ⟨A1, c1, l1, rfl, k1, R1, L1⟩ := open_cell_pts t1 (wt 1 y1 hy1 rfl)
  obtain ⟨A2, c2, l2, rfl, k2, R2, L2⟩ := open_cell_pts t2 (wt 2 y2 hy2 rfl)
  obtain ⟨x, hx', _, wx⟩ := DataW.trod_int (k := .i64) Try.underlying3 t3
  simp only [List.cons.injEq, and_true] at hx'
  subst hx'
  exact ⟨A0, A1, A2, c0, c1, c2, ⟨l0, l1, l2, x⟩, rfl, ⟨⟨A0, A1, A2, c0, c1, c2, rfl, R0, R1, R2, k0, k1, k2⟩⟩, L0, L1, L2⟩
set_option maxHeartbeats 4000000 in
theorem open_cores {r : Reach} {b0 : Nat} {v : Value} {d : DataW H} {p : List MemPlace} (hval : Value.okWide Try.prog W r b0 57 v) (h : DataW.Trod enc Try.prog W base spare held 57 v d p) (hw : ∀ k ∈ d.weights Try.prog 57, k ≤ reachBytes) :
    ∃ A n c, ∃ l : List Cr, v = .slice A n c ∧ l.length = n ∧ RdC W A l ∧ (∀ d ∈ l, CrB d) ∧ n * 80 ≤ 140737488351232 := by
  obtain ⟨A, n, c, rfl⟩ := okWide_slice Try.underlying57 hval
  obtain ⟨fuel, hf0⟩ := h
  rcases Go.Deep.open_slice Try.underlying57 hf0 with ⟨e, _⟩ | ⟨a, len, cap, m, k, D, Pl, e, hb, hl, hc, hm, hx, hf⟩
  · have e' : (Value.slice A n c) = .slice none 0 0 := by simpa [Value.cells] using e
    cases e'
    exact ⟨none, 0, 0, [], rfl, rfl, fun i d hd => by simp at hd, fun d hd => by simp at hd, by decide⟩
  · have e' : (Value.slice A n c) = .slice (some a) len cap := by simpa [Value.cells] using e
    cases e'
    simp only [Prod.mk.injEq] at hx
    obtain ⟨rfl, _⟩ := hx
    rw [DataW.weights, Try.underlying57] at hw
    have hbs : Try.prog.bytesOf 36 = 80 := by kernel_rfl
    have hcells : Try.prog.cellsOf 36 = 4 := by kernel_rfl
    have hn80 : n * 80 ≤ 140737488351232 := by
      have := hw _ List.mem_cons_self
      rw [hbs] at this
      simp [reachBytes] at this
      omega
    have hsp : 0 < n → a.spot = none ∧ a.block < W.heap.size := by
      intro h0
      have him : 0 < m := by
        rw [hm]; split <;> omega
      obtain ⟨cs', h1, h2⟩ := hf 0 him
      rw [hcells] at h1
      obtain ⟨_, hl4, hg⟩ := World.cells?_some h1
      obtain ⟨v0, hv0⟩ : ∃ v0, cs'[0]? = some v0 := ⟨_, List.getElem?_eq_getElem (by omega)⟩
      have hs := cell_spot ((hg 0 (by decide)).trans hv0)
      rw [add_zero_] at hs
      exact hs
    have each : ∀ i, i < n → ∃ q : Cr, CrB q ∧ ∃ A0 A1 A2 n0 n1 n2 c0 c1 c2, a.spot = none ∧ a.block < W.heap.size ∧ W.cell? ⟨a.block, a.off + i * 4, none⟩ = some (.slice A0 n0 c0) ∧ W.cell? ⟨a.block, a.off + i * 4 + 1, none⟩ = some (.slice A1 n1 c1) ∧ W.cell? ⟨a.block, a.off + i * 4 + 2, none⟩ = some (.slice A2 n2 c2) ∧ W.cell? ⟨a.block, a.off + i * 4 + 3, none⟩ = some (.int .i64 q.r) ∧ CrV W (.agg #[.slice A0 n0 c0, .slice A1 n1 c1, .slice A2 n2 c2, .int .i64 q.r]) q := by
      intro i hi
      have him : i < m := by
        rw [hm]; split <;> omega
      obtain ⟨cs', h1, h2⟩ := hf i him
      rw [hcells] at h1
      obtain ⟨_, hl4, hg⟩ := World.cells?_some h1
      have hwi : ∀ k ∈ (D i).weights Try.prog 36, k ≤ reachBytes := fun k hk => hw k (List.mem_cons_of_mem _ (List.mem_append_left _ (weights_all (j := i) (by rw [List.getElem?_map, List.getElem?_range hi]; rfl) k hk)))
      obtain ⟨A0, A1, A2, c0, c1, c2, q, rfl, hq, hqb⟩ := open_core_cells h2 hwi
      have hs := hsp (by omega)
      obtain ⟨b, o, s⟩ := a
      simp only at hs
      obtain ⟨rfl, hlt⟩ := hs
      have ea : (⟨b, o, none⟩ : Addr).add (i * 4) = ⟨b, o + i * 4, none⟩ := add_at _ _ _
      rw [ea] at hg
      have g0 := hg 0 (by decide)
      have g1 := hg 1 (by decide)
      have g2 := hg 2 (by decide)
      have g3 := hg 3 (by decide)
      rw [add_at] at g0 g1 g2 g3
      exact ⟨q, hqb, A0, A1, A2, _, _, _, c0, c1, c2, rfl, hlt, g0, g1, g2, g3, hq⟩
    obtain ⟨l, hll, hq⟩ := list_of3 n each
    refine ⟨some a, n, c, l, rfl, hll, fun i d hd => ?_, fun d hd => ?_, hn80⟩
    · obtain ⟨hqb, A0, A1, A2, n0, n1, n2, c0, c1, c2, hs, hlt, g0, g1, g2, g3, hv⟩ := hq i d hd
      obtain ⟨b, o, s⟩ := a
      simp only at hs hlt g0 g1 g2 g3
      subst hs
      exact ⟨b, o, A0, A1, A2, n0, n1, n2, c0, c1, c2, rfl, hlt, g0, g1, g2, g3, hv⟩
    · obtain ⟨i, hi⟩ := List.getElem?_of_mem hd
      exact (hq i d hi).1
end
end Go.Proofs.Ytckdhahceelckaa.G
namespace Go.Proofs.Ytckdhahceelckaa.G
open Go.ChangeShapes Go.WideShapes Go.RowKit
set_option linter.unusedVariables false
set_option maxRecDepth 100000 in
theorem open_vec {H : Type} {enc : TypeId × Value → H} {W : World} {base : Nat} {spare : Nat → Bool} {held : Bool} {r : Reach} {b0 : Nat} {v : Value} {d : DataW H} {p : List MemPlace}
    (hval : Value.okWide Try.prog W r b0 27 v) (h : DataW.Trod enc Try.prog W base spare held 27 v d p) :
    ∃ x y z, v = .agg #[.int .i64 x, .int .i64 y, .int .i64 z] ∧ in3 9223372036854775808 ⟨x, y, z⟩ := by
  obtain ⟨v0, v1, v2, y0, y1, y2, n, rfl, _, _, h0, h1, h2⟩ := Go.Joins.open_agg3 Try.underlying27 (by kernel_rfl) (by kernel_rfl) hval h
  obtain ⟨a, ha, _, wa⟩ := DataW.trod_int (k := .i64) Try.underlying3 h0
  obtain ⟨b, hb, _, wb⟩ := DataW.trod_int (k := .i64) Try.underlying3 h1
  obtain ⟨c, hc, _, wc⟩ := DataW.trod_int (k := .i64) Try.underlying3 h2
  simp at ha hb hc
  subst ha hb hc
  have p1 := i64_of_wf wa
  have p2 := i64_of_wf wb
  have p3 := i64_of_wf wc
  exact ⟨a, b, c, rfl, by unfold in3; simp only; omega⟩
end Go.Proofs.Ytckdhahceelckaa.G
namespace Go.Proofs.Ytckdhahceelckaa.G
open Go.RowKit Go.Proofs.YtckdhahceelckaaW.PrintWords Go.Proofs.YtckdhahceelckaaW.PrintLast Go.Proofs.YtckdhahceelckaaW.PrintMore
set_option linter.unusedVariables false
set_option linter.unusedSimpArgs false
/-- to grains, down -/
def gr (n : Int) : Int := n / 1048576
def grP (v : P3) : P3 := ⟨gr v.x, gr v.y, gr v.z⟩
def ballC (a : P3) (r : Int) : Cr := ⟨[grP a], [], [], r⟩
def wayC (a b : P3) : P3 := ⟨gr b.x - gr a.x, gr b.y - gr a.y, gr b.z - gr a.z⟩
/-- no part is above n -/
def inB (n : Int) (p : P3) : Bool := decide (mx (mx p.x p.y) p.z ≤ n) && decide (-n ≤ mn (mn p.x p.y) p.z)
theorem inB_iff (n : Int) (y : P3) : inB n y = true ↔ in3 n y := by
  have a := mx_facts y.x y.y
  have b := mx_facts (mx y.x y.y) y.z
  have c := mn_facts y.x y.y
  have d := mn_facts (mn y.x y.y) y.z
  unfold inB in3
  simp only [Bool.and_eq_true, decide_eq_true_eq]
  omega
abbrev FB : Int := 1125899906842624
def holdMay (a b : P3) (r : Int) : Bool := (ballC a r).may && (inB FB a && (inB FB b && inB 4194304 (wayC a b)))
theorem holdMay_iff (a b : P3) (r : Int) : holdMay a b r = true ↔ (ballC a r).may = true ∧ in3 FB a ∧ in3 FB b ∧ in3 4194304 (wayC a b) := by
  unfold holdMay
  simp only [Bool.and_eq_true, inB_iff]
/-- one of the fixed ones -/
def hstep (c : Cr) (y : P3) (m : Nat) (d : Cr) : Nat := if (castF c y d).2 = true ∧ 0 ≤ (castF c y d).1.2.2 then min m (castF c y d).1.1 else m
def leastH (c : Cr) (y : P3) (m : Nat) (l : List Cr) : Nat := l.foldl (hstep c y) m
def outC (x y : Int) (k : Int) : Int := x + (y - x) * k / 16
def outP (a b : P3) (k : Int) : P3 := ⟨outC a.x b.x k, outC a.y b.y k, outC a.z b.z k⟩
theorem outP_16 (a b : P3) : outP a b 16 = b := by
  obtain ⟨x, y, z⟩ := a
  obtain ⟨x', y', z'⟩ := b
  unfold outP outC
  simp only [P3.mk.injEq]
  omega
def holdK (a b : P3) (r : Int) (l : List Cr) : Nat := if holdMay a b r = true then leastH (ballC a r) (wayC a b) 16 l else 16
def holdF (a b : P3) (r : Int) (l : List Cr) : P3 × Nat := (outP a b (holdK a b r l), holdK a b r l)
theorem hstep_le (c : Cr) (y : P3) (m : Nat) (d : Cr) : hstep c y m d ≤ m := by unfold hstep; split <;> omega
theorem leastH_le (c : Cr) (y : P3) (l : List Cr) : ∀ m, leastH c y m l ≤ m := by
  induction l with
  | nil => intro m; exact Nat.le_refl _
  | cons d l ih => intro m; exact Nat.le_trans (ih (hstep c y m d)) (hstep_le c y m d)
theorem leastH_snoc (c : Cr) (y : P3) (m : Nat) (l : List Cr) (d : Cr) : leastH c y m (l ++ [d]) = hstep c y (leastH c y m l) d := by
  unfold leastH
  rw [List.foldl_append]
  rfl
theorem leastH_take (c : Cr) (y : P3) (m : Nat) (l : List Cr) (i : Nat) (h : i < l.length) : leastH c y m (l.take (i + 1)) = hstep c y (leastH c y m (l.take i)) l[i] := by
  rw [List.take_succ_eq_append_getElem h, leastH_snoc]
theorem outC_bd (x y k B : Int) (hk : 0 ≤ k) (hk2 : k ≤ 16) (hx : -B ≤ x ∧ x ≤ B) (hy : -B ≤ y ∧ y ≤ B) : -B ≤ outC x y k ∧ outC x y k ≤ B := by
  unfold outC
  obtain ⟨d, hd⟩ : ∃ d, y - x = d := ⟨_, rfl⟩
  rw [hd]
  rcases Int.le_total 0 d with h | h
  · have := Int.mul_nonneg h hk
    have := Int.mul_le_mul_of_nonneg_left hk2 h
    omega
  · have := Int.mul_nonneg (show 0 ≤ -d by omega) hk
    have := Int.mul_le_mul_of_nonneg_left hk2 (show 0 ≤ -d by omega)
    have r1 : -d * k = -(d * k) := by grind
    have r2 : -d * 16 = -(d * 16) := by grind
    omega
end Go.Proofs.Ytckdhahceelckaa.G
namespace Go.Proofs.Ytckdhahceelckaa.G
open Go.RowKit Go.Proofs.YtckdhahceelckaaW.PrintWords Go.Proofs.YtckdhahceelckaaW.PrintLast Go.Proofs.YtckdhahceelckaaW.PrintMore
set_option linter.unusedVariables false
set_option linter.unusedSimpArgs false
theorem maskN (a : Nat) (ha : a < 18446744073709551616) : bits .and .u64 (a : Int) 4294967295 = ((a % 4294967296 : Nat) : Int) := by
  have h := bits_and_u64_nat a 4294967295 ha (by omega)
  have e : a &&& 4294967295 = a % 4294967296 := Nat.and_two_pow_sub_one_eq_mod a 32
  rw [e] at h
  exact h
theorem divN (a : Nat) : (a : Int) / 4294967296 = ((a / 4294967296 : Nat) : Int) := by omega
theorem mulN (a b : Nat) : (a : Int) * (b : Int) = ((a * b : Nat) : Int) := (Int.natCast_mul a b).symm
theorem addN (a b : Nat) : (a : Int) + (b : Int) = ((a + b : Nat) : Int) := (Int.natCast_add a b).symm
theorem wrapN (a : Nat) (ha : a < 18446744073709551616) : IntKind.u64.wrap (a : Int) = (a : Int) := by rw [IntKind.wrap_u64]; omega
theorem wrapM (a : Nat) : IntKind.u64.wrap (a : Int) = ((a % 18446744073709551616 : Nat) : Int) := by rw [IntKind.wrap_u64]; omega
set_option maxHeartbeats 1000000 in
theorem mul64_calls (x y : Nat) (hx : x < 18446744073709551616) (hy : y < 18446744073709551616) (w : World) :
    Calls Try.prog 170 #[.int .u64 x, .int .u64 y] w fun e w' => e = .returned (.tuple #[.int .u64 ((x * y / 18446744073709551616 : Nat) : Int), .int .u64 ((x * y % 18446744073709551616 : Nat) : Int)]) ∧ w' = w := by
  obtain ⟨bd, bt, bw, hhi⟩ := Lib.mul64_hi x y hx hy
  have ba := Lib.half_mul_le (a := x / 4294967296) (b := y / 4294967296) (by omega) (by omega)
  have bb := Lib.half_mul_le (a := x / 4294967296) (b := y % 4294967296) (by omega) (by omega)
  have bc := Lib.half_mul_le (a := x % 4294967296) (b := y / 4294967296) (by omega) (by omega)
  have ba' : x / 4294967296 * (y / 4294967296) < 18446744073709551616 := by omega
  have bb' : x / 4294967296 * (y % 4294967296) < 18446744073709551616 := by omega
  have bc' : x % 4294967296 * (y / 4294967296) < 18446744073709551616 := by omega
  have bh1 : x / 4294967296 * (y / 4294967296) + (x / 4294967296 * (y % 4294967296) + x % 4294967296 * (y % 4294967296) / 4294967296) / 4294967296 < 18446744073709551616 := by omega
  have bh : x / 4294967296 * (y / 4294967296) + (x / 4294967296 * (y % 4294967296) + x % 4294967296 * (y % 4294967296) / 4294967296) / 4294967296 + ((x / 4294967296 * (y % 4294967296) + x % 4294967296 * (y % 4294967296) / 4294967296) % 4294967296 + x % 4294967296 * (y / 4294967296)) / 4294967296 < 18446744073709551616 := by omega
  go_enter Try.func170, Try.ntmps170
  go_wp2
  simp only [maskN x hx, maskN y hy, divN, mulN, addN, wrapN _ bd, wrapN _ bb', wrapN _ bt, maskN _ bt, wrapN _ bc', wrapN _ bw, wrapN _ ba', wrapN _ bh1, wrapN _ bh, wrapM (x * y)]
  rw [hhi]
  exact bodyPost_ret (v := .tuple #[.int .u64 ((x * y / 18446744073709551616 : Nat) : Int), .int .u64 ((x * y % 18446744073709551616 : Nat) : Int)]) (by simp [results, Try.results170, go_sem]) rfl ⟨rfl, rfl⟩
theorem sub64_run (x y b : Nat) (hb : b ≤ 1) (w : World) : (callFunc 171 #[.int .u64 x, .int .u64 y, .int .u64 b]).run Try.prog w = .ok (.value (.tuple #[.int .u64 (((x + 18446744073709551616 - y - b) % 18446744073709551616 : Nat) : Int), .int .u64 ((if x < y + b then 1 else 0 : Nat) : Int)])) w := by
  rw [run_callFunc_extern Try.func171 (by kernel_rfl) (by kernel_rfl) (by kernel_rfl) (e := sub64Entry) (by kernel_rfl), run_sub64 x y b hb]
  rfl
/-- a number of 128 bits, of a small whole one -/
def hiW (n : Int) : Int := if n < 0 then 18446744073709551615 else 0
def loW (n : Int) : Int := if n < 0 then n + 18446744073709551616 else n
abbrev aWd (n : Int) : Value := .agg #[.int .u64 (hiW n), .int .u64 (loW n)]
theorem bs2 {W : World} {g : Nat} {b0 b1 : Value} {t : TypeId} (h : W.heap[g]? = some (.cells #[b0, b1] t (0, 0))) (a0 a1 : Value) :
    ((W.setCell ⟨g, 0, none⟩ a0).setCell ⟨g, 1, none⟩ a1).heap[g]? = some (.cells #[a0, a1] t (0, 0)) := by
  have h0 := blk_set h 0 a0
  have h1 := blk_set h0 1 a1
  simp only [List.setIfInBounds_toArray, List.set_cons_zero, List.set_cons_succ] at h1
  exact h1
theorem bb2 {B : Nat} {A W : World} {g : Nat} (h : Below B A W) (hg : B ≤ g) (a0 a1 : Value) : Below B A ((W.setCell ⟨g, 0, none⟩ a0).setCell ⟨g, 1, none⟩ a1) := ((h.setCell (p := ⟨g, 0, none⟩) hg a0).setCell (p := ⟨g, 1, none⟩) hg a1)
theorem RdI.of1 {w : World} {g : Nat} {x : Int} {t : TypeId} (h : w.heap[g]? = some (.cells #[.int .i64 x] t (0, 0))) : RdI w (some ⟨g, 0, none⟩) [x] := fun i p hp => by
  match i, hp with
  | 0, hp => simp at hp; subst hp; exact ⟨g, 0, rfl, blk_lt h, (blk_cell h 0).trans rfl⟩
theorem times_n (u v : Nat) (a : Int) (h : IntKind.u64.wrap a = (u : Int)) (ha : -4503599627370496 ≤ a) (h0 : a < 0) (hv : v ≤ 16) :
    IntKind.u64.wrap (((u * v / 18446744073709551616 : Nat) : Int) - (v : Int)) = hiW (a * v) ∧ ((u * v % 18446744073709551616 : Nat) : Int) = loW (a * v) := by
  rw [IntKind.wrap_u64] at h ⊢
  obtain ⟨n, hn⟩ : ∃ n : Nat, (n : Int) = -a := ⟨(-a).toNat, by omega⟩
  have hu : u + n = 18446744073709551616 := by omega
  obtain ⟨P, hP⟩ : ∃ P, n * v = P := ⟨_, rfl⟩
  obtain ⟨U, hU⟩ : ∃ P, u * v = P := ⟨_, rfl⟩
  have e : U + P = 18446744073709551616 * v := by rw [← hP, ← hU, ← Nat.add_mul, hu]
  have eP : a * (v : Int) = -(P : Int) := by
    have : a = -(n : Int) := by omega
    rw [this, ← hP, Int.natCast_mul, Int.neg_mul]
  have hPb : P ≤ 4503599627370496 * 16 := by rw [← hP]; exact Nat.mul_le_mul (by omega) hv
  have hP1 : 0 < v → 0 < P := fun h => by rw [← hP]; exact Nat.mul_pos (by omega) h
  rw [hU, eP]
  unfold hiW loW
  split <;> omega
theorem times_p (u v : Nat) (a : Int) (h : IntKind.u64.wrap a = (u : Int)) (ha : a ≤ 4503599627370496) (h0 : 0 ≤ a) (hv : v ≤ 16) :
    ((u * v / 18446744073709551616 : Nat) : Int) = hiW (a * v) ∧ ((u * v % 18446744073709551616 : Nat) : Int) = loW (a * v) := by
  rw [IntKind.wrap_u64] at h
  have hu : (u : Int) = a := by omega
  obtain ⟨U, hU⟩ : ∃ P, u * v = P := ⟨_, rfl⟩
  have eP : a * (v : Int) = (U : Int) := by rw [← hu, ← hU, Int.natCast_mul]
  have hPb : U ≤ 4503599627370496 * 16 := by rw [← hU]; exact Nat.mul_le_mul (by omega) hv
  rw [hU, eP]
  unfold hiW loW
  split <;> omega
set_option maxHeartbeats 1000000 in
theorem times_calls2 (a b : Int) (ha : -4503599627370496 ≤ a ∧ a ≤ 4503599627370496) (hb : 0 ≤ b ∧ b ≤ 16) (w : World) :
    Calls Try.prog 142 #[.int .i64 a, .int .i64 b] w fun e w' => e = .returned (aWd (a * b)) ∧ Below w.heap.size w w' := by
  obtain ⟨u, hu⟩ : ∃ u : Nat, IntKind.u64.wrap a = (u : Int) := ⟨(IntKind.u64.wrap a).toNat, by rw [IntKind.wrap_u64]; omega⟩
  obtain ⟨v, hv⟩ : ∃ v : Nat, b = (v : Int) := ⟨b.toNat, by omega⟩
  subst hv
  have hvw : IntKind.u64.wrap (v : Int) = (v : Int) := by rw [IntKind.wrap_u64]; omega
  have db : decide ((v : Int) < 0) = false := decide_eq_false (by omega)
  have hub : u < 18446744073709551616 := by rw [IntKind.wrap_u64] at hu; omega
  have HM := Lh (fun W => mul64_calls u v hub (by omega) W)
  have HN := Lh (fun h0 => times_n u v a hu ha.1 h0 (by omega))
  have HP := Lh (fun h0 => times_p u v a hu ha.2 h0 (by omega))
  obtain ⟨h, hh⟩ : ∃ h : Int, ((u * v / 18446744073709551616 : Nat) : Int) = h := ⟨_, rfl⟩
  obtain ⟨l, hl⟩ : ∃ h : Int, ((u * v % 18446744073709551616 : Nat) : Int) = h := ⟨_, rfl⟩
  rw [hh, hl] at HM HN HP
  clear hh hl ha hb hub
  have r0 := blk_cell (heap_alloc_new w (.cells #[.int .u64 0, .int .u64 0] 159)) 0
  have r1 := blk_cell (heap_alloc_new w (.cells #[.int .u64 0, .int .u64 0] 159)) 1
  have f0 := blk_frozen (heap_alloc_new w (.cells #[.int .u64 0, .int .u64 0] 159)) 0
  have f1 := blk_frozen (heap_alloc_new w (.cells #[.int .u64 0, .int .u64 0] 159)) 1
  have hb := (Below.refl _ w).alloc (Nat.le_refl _) (.cells #[.int .u64 0, .int .u64 0] 159)
  have HA := Lh (heap_alloc_new w (.cells #[.int .u64 0, .int .u64 0] 159))
  go_enter Try.func142, Try.ntmps142
  go_wp2_with fail
  obtain ⟨w1, hw1⟩ : ∃ V, w.alloc (.cells #[.int .u64 0, .int .u64 0] 159) = V := ⟨_, rfl⟩
  rw [hw1] at r0 r1 f0 f1 hb HA ⊢
  have HB := Lh hb
  clear hw1 hb
  refine (HM.out w1).mono ?_
  rintro e w2 ⟨rfl, rfl⟩
  by_cases t : a < 0
  · have da : decide (a < 0) = true := decide_eq_true t
    have HR := Lh (HN.out t)
    clear HM HN HP t
    go_wp2
    obtain ⟨x, hx⟩ : ∃ x, IntKind.u64.wrap (h - (v : Int)) = x := ⟨_, rfl⟩
    rw [hx] at HR ⊢
    have HA2 := bs2 HA.out (.int .u64 x) (.int .u64 l)
    have HB2 := bb2 HB.out (Nat.le_refl _) (.int .u64 x) (.int .u64 l)
    obtain ⟨V, hV⟩ : ∃ V, ((w2.setCell ⟨w.heap.size, 0, none⟩ (.int .u64 x)).setCell ⟨w.heap.size, 1, none⟩ (.int .u64 l)) = V := ⟨_, rfl⟩
    rw [hV] at HA2 HB2 ⊢
    have t0 := blk_cell HA2 0
    have t1 := blk_cell HA2 1
    simp at t0 t1
    exact bodyPost_ret (v := .agg #[.int .u64 x, .int .u64 l]) (by simp [results, Try.results142, go_sem, t0, t1]) rfl ⟨by rw [HR.out.1, HR.out.2], HB2⟩
  · have da : decide (a < 0) = false := decide_eq_false t
    have HR := Lh (HP.out (by omega))
    clear HM HN HP t
    go_wp2
    have HA2 := bs2 HA.out (.int .u64 h) (.int .u64 l)
    have HB2 := bb2 HB.out (Nat.le_refl _) (.int .u64 h) (.int .u64 l)
    obtain ⟨V, hV⟩ : ∃ V, ((w2.setCell ⟨w.heap.size, 0, none⟩ (.int .u64 h)).setCell ⟨w.heap.size, 1, none⟩ (.int .u64 l)) = V := ⟨_, rfl⟩
    rw [hV] at HA2 HB2 ⊢
    have t0 := blk_cell HA2 0
    have t1 := blk_cell HA2 1
    simp at t0 t1
    exact bodyPost_ret (v := .agg #[.int .u64 h, .int .u64 l]) (by simp [results, Try.results142, go_sem, t0, t1]) rfl ⟨by rw [HR.out.1, HR.out.2], HB2⟩
theorem neg_hi (n : Int) : (hiW n / 9223372036854775808 == 1) = decide (n < 0) := by
  unfold hiW
  by_cases t : n < 0
  · rw [if_pos t, decide_eq_true t]; decide
  · rw [if_neg t, decide_eq_false t]; decide
set_option maxHeartbeats 1000000 in
theorem neg_calls (n : Int) (w : World) : Calls Try.prog 144 #[aWd n] w fun e w' => e = .returned (.bool (decide (n < 0))) ∧ Below w.heap.size w w' := by
  have hb := Lh ((Below.refl _ w).alloc (Nat.le_refl _) (.cells #[.int .u64 (hiW n), .int .u64 (loW n)] 159))
  have hn := Lh (neg_hi n)
  go_enter Try.func144, Try.ntmps144
  go_wp2
  rw [hn.out]
  go_ret
  exact ⟨rfl, hb.out⟩
set_option maxHeartbeats 1000000 in
set_option maxRecDepth 10000 in
/-- a number below nought, turned -/
theorem minus_calls2 (n : Int) (h0 : n < 0) (h1 : -9223372036854775808 ≤ n) (w : World) : Calls Try.prog 143 #[aWd n] w fun e w' => e = .returned (aWd (-n)) ∧ Below w.heap.size w w' := by
  have e1 : hiW n = ((18446744073709551615 : Nat) : Int) := if_pos h0
  obtain ⟨m, hm⟩ : ∃ m : Nat, loW n = (m : Int) := ⟨(loW n).toNat, by unfold loW; rw [if_pos h0]; omega⟩
  have e2 := sub64_run 0 m 0 (by decide)
  have e3 := sub64_run 0 18446744073709551615 1 (by decide)
  have hm1 : 0 < m ∧ m < 18446744073709551616 := by unfold loW at hm; rw [if_pos h0] at hm; omega
  rw [if_pos (show 0 < m + 0 by omega)] at e2
  rw [if_pos (by decide)] at e3
  have e4 : (((0 + 18446744073709551616 - m - 0) % 18446744073709551616 : Nat) : Int) = loW (-n) := by
    unfold loW at hm ⊢
    rw [if_pos h0] at hm
    rw [if_neg (by omega)]
    omega
  have e5 : hiW (-n) = 0 := if_neg (by omega)
  rw [e4] at e2
  unfold aWd
  rw [e1, hm]
  obtain ⟨y, hy⟩ : ∃ y, loW (-n) = y := ⟨_, rfl⟩
  obtain ⟨z, hz⟩ : ∃ z : Int, ((18446744073709551615 : Nat) : Int) = z := ⟨_, rfl⟩
  obtain ⟨u, hu⟩ : ∃ z : Int, (m : Int) = z := ⟨_, rfl⟩
  rw [hy, hu] at e2
  rw [hz] at e3
  rw [e5, hy, hu, hz]
  have e2 : ∀ W, (callFunc 171 #[.int .u64 0, .int .u64 u, .int .u64 0]).run Try.prog W = .ok (.value (.tuple #[.int .u64 y, .int .u64 1])) W := e2
  have e3 : ∀ W, (callFunc 171 #[.int .u64 0, .int .u64 z, .int .u64 1]).run Try.prog W = .ok (.value (.tuple #[.int .u64 0, .int .u64 1])) W := e3
  clear hy hz hu e4 e5 e1 hm hm1 h0 h1
  go_enter Try.func143, Try.ntmps143
  go_wp2_with (simp only [e2, e3])
  exact bodyPost_ret (v := .agg #[.int .u64 0, .int .u64 y]) (by simp [results, Try.results143, go_sem]) rfl ⟨rfl, ((Below.refl _ w).alloc (Nat.le_refl _) _).alloc (by simp) _⟩
set_option maxHeartbeats 1000000 in
/-- bits.Div64 of a number of one word -/
theorem div64_calls (l c : Int) (hc : 0 < c) (h0 : 0 ≤ l) (h1 : l < 18446744073709551616) (w : World) : Calls Try.prog 145 #[.int .u64 0, .int .u64 l, .int .u64 c] w fun e w' => e = .returned (.tuple #[.int .u64 (l / c), .int .u64 (l % c)]) ∧ Below w.heap.size w w' := by
  have d1 : (c == 0) = false := by simp; omega
  have d2 : decide (c ≤ 0) = false := decide_eq_false (by omega)
  have d3 : ¬ c = 0 := by omega
  have e1 := Lh (show IntKind.u64.wrap (l.tdiv c) = l / c by
    rw [Int.tdiv_eq_ediv_of_nonneg h0, IntKind.wrap_u64]
    have a := Int.ediv_nonneg h0 (show 0 ≤ c by omega)
    have b := Int.ediv_le_self c h0
    omega)
  have e2 := Lh (show l.tmod c = l % c from Int.tmod_eq_emod_of_nonneg h0)
  clear h0 h1
  go_enter Try.func145, Try.ntmps145
  go_wp2_with fail
  go_quiet (fail)
  rw [e1.out, e2.out]
  go_wp2
  exact bodyPost_ret (v := .tuple #[.int .u64 (l / c), .int .u64 (l % c)]) (by simp [results, Try.results145, go_sem]) rfl ⟨rfl, pw_below_drewN (Below.refl _ w) _⟩
set_option maxHeartbeats 1000000 in
theorem great2_calls (l : List Int) (A : Option Addr) (c : Nat) (w : World) (h : RdI w A l) (hc : l.length ≤ c) (hm : l.length ≤ 100) (hf : ∀ x ∈ l, fits x) :
    Calls Try.prog 139 #[.slice A l.length c] w fun e w' => e = .returned (.bool false) ∧ w' = w := by
  have H := Lh h
  have HF := Lh hf
  clear h hf
  go_enter Try.func139, Try.ntmps139
  go_wp2
  go_loop [4, 7] (fun v4 v7 => ∃ k : Nat, k ≤ l.length ∧ v7 = .int .i64 k) (fun _ i => l.length - (intOf i).toNat)
  case atStart => exact ⟨0, by omega, rfl⟩
  case round =>
    obtain ⟨k, hk, rfl⟩ := hrel
    by_cases hlt : k < l.length
    · obtain ⟨b, o, rfl, hb, hx⟩ := H.out.get k hlt
      obtain ⟨f1, f2⟩ := HF.out _ (List.getElem_mem hlt)
      obtain ⟨x, hx'⟩ : ∃ x, l[k] = x := ⟨_, rfl⟩
      rw [hx'] at hx f1 f2
      clear hx'
      have d1 : decide (x < -4611686018427387903) = false := by simp; omega
      have d2 : decide (4611686018427387903 < x) = false := by simp; omega
      go_wp2
      go_round
      case rel => exact ⟨k + 1, by omega, by go_num⟩
      case measure => simp [intOf]; omega
    · go_wp2
      go_ret
      exact ⟨rfl, rfl⟩
set_option maxHeartbeats 1000000 in
theorem tell_calls (v : Value) (n : Int) (hn : fits n) (w : World) :
    Calls Try.prog 141 #[v, .int .i64 n] w fun e w' => e = .returned (.int .i64 n) ∧ Below w.heap.size w w' := by
  have HF : Hid (∀ x ∈ [n], fits x) := Lh (by intro x hx; simp at hx; rw [hx]; exact hn)
  clear hn
  go_enter Try.func141, Try.ntmps141
  go_wp2_with fail
  refine (great2_calls [n] _ 1 _ (RdI.of1 (heap_alloc_new w _)) (Nat.le_refl _) (by simp) HF.out).mono ?_
  rintro e w1 ⟨rfl, rfl⟩
  go_wp2
  go_ret
  exact ⟨rfl, (Below.refl _ w).alloc (Nat.le_refl _) _⟩
set_option maxHeartbeats 1000000 in
theorem fadd_calls (v : Value) (a b : Int) (ha : fits a) (hb : fits b) (hs : fits (a + b)) (w : World) :
    Calls Try.prog 95 #[v, .int .i64 a, .int .i64 b] w fun e w' => e = .returned (.int .i64 (a + b)) ∧ Below w.heap.size w w' := by
  have HF : Hid (∀ x ∈ [a, b], fits x) := Lh (by intro x hx; simp at hx; rcases hx with rfl | rfl <;> assumption)
  have HS := Lh hs
  obtain ⟨a1, a2⟩ := ha
  obtain ⟨b1, b2⟩ := hb
  clear hs
  go_enter Try.func95, Try.ntmps95
  go_wp2_with fail
  refine (great2_calls [a, b] _ 2 _ (RdI.of2 (heap_alloc_new w _)) (Nat.le_refl _) (by simp) HF.out).mono ?_
  rintro e w1 ⟨rfl, rfl⟩
  have bz := Lh ((Below.refl _ w).alloc (Nat.le_refl _) (.cells #[.int .i64 a, .int .i64 b] 3))
  go_wp2_with fail
  refine (tell_calls v (a + b) HS.out _).mono ?_
  rintro e w1 ⟨rfl, hb⟩
  go_wp2
  go_ret
  exact ⟨rfl, bthen bz.out hb⟩
set_option maxHeartbeats 1000000 in
theorem fsub_calls (v : Value) (a b : Int) (ha : fits a) (hb : fits b) (hs : fits (a - b)) (w : World) :
    Calls Try.prog 97 #[v, .int .i64 a, .int .i64 b] w fun e w' => e = .returned (.int .i64 (a - b)) ∧ Below w.heap.size w w' := by
  have HF : Hid (∀ x ∈ [a, b], fits x) := Lh (by intro x hx; simp at hx; rcases hx with rfl | rfl <;> assumption)
  have HS := Lh hs
  obtain ⟨a1, a2⟩ := ha
  obtain ⟨b1, b2⟩ := hb
  clear hs
  go_enter Try.func97, Try.ntmps97
  go_wp2_with fail
  refine (great2_calls [a, b] _ 2 _ (RdI.of2 (heap_alloc_new w _)) (Nat.le_refl _) (by simp) HF.out).mono ?_
  rintro e w1 ⟨rfl, rfl⟩
  have bz := Lh ((Below.refl _ w).alloc (Nat.le_refl _) (.cells #[.int .i64 a, .int .i64 b] 3))
  go_wp2_with fail
  refine (tell_calls v (a - b) HS.out _).mono ?_
  rintro e w1 ⟨rfl, hb⟩
  go_wp2
  go_ret
  exact ⟨rfl, bthen bz.out hb⟩
theorem hi_p {n : Int} (h : 0 ≤ n) : hiW n = 0 ∧ loW n = n := ⟨if_neg (by omega), if_neg (by omega)⟩
set_option maxHeartbeats 2000000 in
theorem fratio_calls (v : Value) (a b : Int) (ha : -4503599627370496 ≤ a ∧ a ≤ 4503599627370496) (hb : 0 ≤ b ∧ b ≤ 16) (w : World) :
    Calls Try.prog 96 #[v, .int .i64 a, .int .i64 b, .int .i64 16] w fun e w' => e = .returned (.int .i64 (a * b / 16)) ∧ Below w.heap.size w w' := by
  have HF : Hid (∀ x ∈ [a, b, 16], fits x) := Lh (by intro x hx; simp at hx; unfold fits; rcases hx with rfl | rfl | rfl <;> omega)
  have HT := Lh (fun W => times_calls2 a b ha hb W)
  have HNB : Hid (-72057594037927936 ≤ a * b ∧ a * b ≤ 72057594037927936) := Lh (by
    have e1 := Int.mul_le_mul_of_nonneg_right ha.1 hb.1
    have e2 := Int.mul_le_mul_of_nonneg_right ha.2 hb.1
    omega)
  obtain ⟨n, hn⟩ : ∃ n, a * b = n := ⟨_, rfl⟩
  rw [hn] at HT HNB ⊢
  clear hn ha hb
  have z0 := heap_alloc_new w (.cells #[.int .i64 a, .int .i64 b, .int .i64 16] 3)
  go_enter Try.func96, Try.ntmps96
  go_wp2_with fail
  refine (great2_calls [a, b, 16] _ 3 _ (RdI.of3 z0) (Nat.le_refl _) (by simp) HF.out).mono ?_
  rintro e w1 ⟨rfl, rfl⟩
  have W := Lh ((Below.refl _ w).alloc (Nat.le_refl _) (.cells #[.int .i64 a, .int .i64 b, .int .i64 16] 3))
  clear z0 HF
  go_wp2_with fail
  refine (HT.out _).mono ?_
  rintro e w2 ⟨rfl, hb⟩
  have W := Lh (bthen W.out hb)
  have HN := Lh (neg_calls n)
  have HS : Hid (w.heap.size ≤ w2.heap.size) := Lh W.out.size
  clear HT hb
  unfold aWd at *
  have G := heap_alloc_new w2 (.cells #[.int .u64 (hiW n), .int .u64 (loW n)] 159)
  have W3 := W.out.alloc HS.out (.cells #[.int .u64 (hiW n), .int .u64 (loW n)] 159)
  go_upto_region 6 with fail
  obtain ⟨w3, hw3⟩ : ∃ V, w2.alloc (.cells #[.int .u64 (hiW n), .int .u64 (loW n)] 159) = V := ⟨_, rfl⟩
  obtain ⟨g, hg⟩ : ∃ g, w2.heap.size = g := ⟨_, rfl⟩
  rw [hw3] at G W3 ⊢
  rw [hg] at G HS ⊢
  clear W hw3 hg
  have W := Lh W3
  have g0 := blk_cell G 0
  have g1 := blk_cell G 1
  have gl := blk_lt G
  have G := Lh G
  clear W3
  go_wp2_with fail
  refine (HN.out w3).mono ?_
  rintro e w4 ⟨rfl, hb⟩
  have G := Lh ((hb.block _ (blk_lt G.out)).trans G.out)
  have W := Lh (bthen W.out hb)
  clear hb HN g0 g1 gl
  by_cases t : n < 0
  · have dn : decide (n < 0) = true := decide_eq_true t
    have HM := Lh (fun W => minus_calls2 n t (by have := HNB.out; omega) W)
    unfold aWd at HM
    rw [(hi_p (show 0 ≤ -n by omega)).1, (hi_p (show 0 ≤ -n by omega)).2] at HM
    have HD := Lh (fun W => div64_calls (-n) 16 (by decide) (by omega) (by have := HNB.out; omega) W)
    obtain ⟨q, hq⟩ : ∃ q, -n / 16 = q := ⟨_, rfl⟩
    obtain ⟨r, hr⟩ : ∃ q, -n % 16 = q := ⟨_, rfl⟩
    rw [hq, hr] at HD
    have HQ : Hid (0 ≤ q ∧ q ≤ 4503599627370496 ∧ (0 < r → n / 16 = -(q + 1)) ∧ (¬ 0 < r → n / 16 = -q)) := Lh (by have := HNB.out; omega)
    obtain ⟨N, hN⟩ : ∃ N, -n = N := ⟨_, rfl⟩
    rw [hN] at HM HD
    rw [dn]
    clear hq hr hN t dn HNB
    have g0 := blk_cell G.out 0
    have g1 := blk_cell G.out 1
    have gl := blk_lt G.out
    go_wp2_with fail
    refine (HM.out w4).mono ?_
    rintro e w5 ⟨rfl, hb⟩
    have G := Lh ((hb.block _ (blk_lt G.out)).trans G.out)
    have W := Lh (bthen W.out hb)
    clear hb HM g0 g1 gl
    have g0 := blk_cell G.out 0
    have g1 := blk_cell G.out 1
    have f0 := blk_frozen G.out 0
    have f1 := blk_frozen G.out 1
    have gl := blk_lt G.out
    have G2 := bs2 G.out (.int .u64 0) (.int .u64 N)
    have W2 := bb2 W.out HS.out (.int .u64 0) (.int .u64 N)
    go_wp2_with fail
    obtain ⟨w6, hw6⟩ : ∃ V, ((w5.setCell ⟨g, 0, none⟩ (.int .u64 0)).setCell ⟨g, 1, none⟩ (.int .u64 N)) = V := ⟨_, rfl⟩
    rw [hw6] at W2 ⊢
    clear hw6 G2 G g0 g1 f0 f1 gl W
    refine (HD.out w6).mono ?_
    rintro e w7 ⟨rfl, hb⟩
    have W := Lh (bthen W2 hb)
    clear hb HD W2
    obtain ⟨q0, q1, q2, q3⟩ := HQ.out
    by_cases tr : 0 < r
    · have dr : decide (0 < r) = true := decide_eq_true tr
      have dm : decide (4611686018427387903 < q + 1) = false := decide_eq_false (by omega)
      have e1 : IntKind.u64.wrap (q + 1) = q + 1 := by rw [IntKind.wrap_u64]; omega
      have e2 : IntKind.i64.wrap (q + 1) = q + 1 := iw_id _ (by omega) (by omega)
      have e3 : IntKind.i64.wrap (-(q + 1)) = -(q + 1) := iw_id _ (by omega) (by omega)
      have HR := Lh (q2 tr)
      clear q0 q1 q2 q3 HQ
      go_wp2
      go_ret
      exact ⟨by rw [HR.out]; rfl, W.out⟩
    · have dr : decide (0 < r) = false := decide_eq_false tr
      have dm : decide (4611686018427387903 < q) = false := decide_eq_false (by omega)
      have e2 : IntKind.i64.wrap q = q := iw_id _ (by omega) (by omega)
      have e3 : IntKind.i64.wrap (-q) = -q := iw_id _ (by omega) (by omega)
      have HR := Lh (q3 (by omega))
      clear q0 q1 q2 q3 HQ
      go_wp2
      go_ret
      exact ⟨by rw [HR.out]; rfl, W.out⟩
  · have dn : decide (n < 0) = false := decide_eq_false t
    have HD := Lh (fun W => div64_calls n 16 (by decide) (by omega) (by have := HNB.out; omega) W)
    have HQ : Hid (0 ≤ n / 16 ∧ n / 16 ≤ 4503599627370496) := Lh (by have := HNB.out; omega)
    rw [(hi_p (show 0 ≤ n by omega)).1, (hi_p (show 0 ≤ n by omega)).2] at G
    rw [(hi_p (show 0 ≤ n by omega)).1, (hi_p (show 0 ≤ n by omega)).2]
    obtain ⟨q, hq⟩ : ∃ q, n / 16 = q := ⟨_, rfl⟩
    obtain ⟨r, hr⟩ : ∃ q, n % 16 = q := ⟨_, rfl⟩
    rw [hq, hr] at HD
    rw [hq] at HQ
    have HQ2 := Lh hq
    rw [dn]
    clear hq hr t dn HNB
    have g0 := blk_cell G.out 0
    have g1 := blk_cell G.out 1
    have gl := blk_lt G.out
    go_wp2_with fail
    refine (HD.out w4).mono ?_
    rintro e w7 ⟨rfl, hb⟩
    have W := Lh (bthen W.out hb)
    clear hb HD g0 g1 gl G
    obtain ⟨q0, q1⟩ := HQ.out
    have dm : decide (4611686018427387903 < q) = false := decide_eq_false (by omega)
    have e2 : IntKind.i64.wrap q = q := iw_id _ (by omega) (by omega)
    clear q0 q1 HQ
    go_wp2
    go_ret
    exact ⟨by rw [HQ2.out]; rfl, W.out⟩
end Go.Proofs.Ytckdhahceelckaa.G
namespace Go.Proofs.Ytckdhahceelckaa.G
open Go.RowKit Go.Proofs.YtckdhahceelckaaW.PrintWords Go.Proofs.YtckdhahceelckaaW.PrintLast Go.Proofs.YtckdhahceelckaaW.PrintMore
attribute [local go_sem] max2_mx min2_mn max_two min_two max_three min_three max_four min_four
attribute [local go_sem high] eqA23 eqA40
set_option linter.unusedVariables false
set_option linter.unusedSimpArgs false
set_option maxHeartbeats 1000000 in
theorem grains_calls (v : P3) (w : World) : Calls Try.prog 90 #[aP v] w fun e w' => e = .returned (aP (grP v)) ∧ Below w.heap.size w w' := by
  obtain ⟨x, y, z⟩ := v
  have hb := Lh (((Below.refl _ w).alloc (Nat.le_refl _) (.cells #[.int .i64 x, .int .i64 y, .int .i64 z] 27)).alloc (by simp) (.cells #[.int .i64 (x / 1048576), .int .i64 (y / 1048576), .int .i64 (z / 1048576)] 23))
  go_enter Try.func90, Try.ntmps90
  go_wp2
  exact bodyPost_ret (v := .agg #[.int .i64 (x / 1048576), .int .i64 (y / 1048576), .int .i64 (z / 1048576)]) (by simp [results, Try.results90, go_sem]) rfl ⟨rfl, hb.out⟩
set_option maxHeartbeats 1000000 in
theorem cwithin_calls (n : Int) (hn : IntKind.i64.wrap (-n) = -n) (v : P3) (w : World) : Calls Try.prog 91 #[.int .i64 n, .int .i64 v.x, .int .i64 v.y, .int .i64 v.z] w fun e w' => e = .returned (.bool (inB n v)) ∧ w' = w := by
  obtain ⟨x, y, z⟩ := v
  have hi := Lh (show inB n ⟨x, y, z⟩ = (decide (mx (mx x y) z ≤ n) && decide (-n ≤ mn (mn x y) z)) from rfl)
  by_cases t : mx (mx x y) z ≤ n
  · have dt : decide (mx (mx x y) z ≤ n) = true := decide_eq_true t
    clear t
    go_enter Try.func91, Try.ntmps91
    go_wp2
    go_ret
    exact ⟨by rw [hi.out, dt]; rfl, rfl⟩
  · have dt : decide (mx (mx x y) z ≤ n) = false := decide_eq_false t
    clear t
    go_enter Try.func91, Try.ntmps91
    go_wp2
    go_ret
    exact ⟨by rw [hi.out, dt]; rfl, rfl⟩
theorem hstep_yes {c : Cr} {y : P3} {m : Nat} {d : Cr} {k : Nat} {X : P3} {g : Int} (h : castF c y d = ((k, (X, g)), true)) (hg : 0 ≤ g) : hstep c y m d = min m k := by
  unfold hstep; rw [h, if_pos ⟨rfl, hg⟩]
theorem hstep_neg {c : Cr} {y : P3} {m : Nat} {d : Cr} {k : Nat} {X : P3} {g : Int} {o : Bool} (h : castF c y d = ((k, (X, g)), o)) (hg : ¬ 0 ≤ g) : hstep c y m d = m := by
  unfold hstep; rw [h, if_neg (fun t => hg t.2)]
theorem hstep_no {c : Cr} {y : P3} {m : Nat} {d : Cr} {R : Nat × (P3 × Int)} (h : castF c y d = (R, false)) : hstep c y m d = m := by
  unfold hstep; rw [h, if_neg (fun t => by have := t.1; simp at this)]
theorem mn_min (m k : Nat) : mn (m : Int) (k : Int) = ((min m k : Nat) : Int) := by unfold mn; split <;> omega
set_option maxHeartbeats 4000000 in
set_option maxRecDepth 100000 in
theorem hold1_calls {w : World} {a d : Cr} (y : P3) (ga gy : Nat) (A0 A1 A2 : Option Addr) (n0 n1 n2 c0 c1 c2 : Nat) (ra : Int) (hga : w.heap[ga]? = some (.cells #[.slice A0 n0 c0, .slice A1 n1 c1, .slice A2 n2 c2, .int .i64 ra] 36 (0, 0))) (hgy : w.heap[gy]? = some (.cells #[.int .i64 y.x, .int .i64 y.y, .int .i64 y.z] 23 (0, 0)))
    (ha : CrV w (.agg #[.slice A0 n0 c0, .slice A1 n1 c1, .slice A2 n2 c2, .int .i64 ra]) a) {vd : Value} (hd : CrV w vd d) (hal : a.p.length ≤ 140737488355328) (m : Nat) :
    Calls Try.prog 93 #[.int .i64 m, vd, .pointer (some ⟨ga, 0, none⟩), .pointer (some ⟨gy, 0, none⟩)] w fun e w' => e = .returned (.int .i64 ((hstep a y m d : Nat) : Int)) ∧ Below w.heap.size w w' := by
  have HC := Lh (fun (W : World) (h1 : CrV W (.agg #[.slice A0 n0 c0, .slice A1 n1 c1, .slice A2 n2 c2, .int .i64 ra]) a) (h2 : CrV W vd d) => cast_calls h1 h2 y hal)
  have HY := Lh (fun k X g (h : castF a y d = ((k, (X, g)), true)) (hg : 0 ≤ g) => hstep_yes (m := m) h hg)
  have HG := Lh (fun k X g o (h : castF a y d = ((k, (X, g)), o)) (hg : ¬ 0 ≤ g) => hstep_neg (m := m) h hg)
  have HO := Lh (fun R (h : castF a y d = (R, false)) => hstep_no (m := m) h)
  obtain ⟨H, hH⟩ : ∃ H, hstep a y m d = H := ⟨_, rfl⟩
  obtain ⟨R, hR⟩ : ∃ R, castF a y d = R := ⟨_, rfl⟩
  rw [hH] at HY HG HO ⊢
  rw [hR] at HC HY HG HO
  obtain ⟨⟨k, ⟨Xx, Xy, Xz⟩, Xg⟩, Xo⟩ := R
  obtain ⟨yx, yy, yz⟩ := y
  obtain ⟨B0, B1, B2, m0, m1, m2, d0, d1, d2, rfl⟩ := hd.form
  obtain ⟨rd, hrd⟩ : ∃ r, d.r = r := ⟨_, rfl⟩
  rw [hrd] at HC hd ⊢
  simp only at HC hgy
  have bz := (Below.refl _ w).alloc (Nat.le_refl _) (.cells #[.slice B0 m0 d0, .slice B1 m1 d1, .slice B2 m2 d2, .int .i64 rd] 36)
  have nz := heap_alloc_new w (.cells #[.slice B0 m0 d0, .slice B1 m1 d1, .slice B2 m2 d2, .int .i64 rd] 36)
  have HVA := Lh (ha.below bz)
  have HVD := Lh (hd.below bz)
  have GA := (bz.block _ (blk_lt hga)).trans hga
  have GY := (bz.block _ (blk_lt hgy)).trans hgy
  clear ha hd hR hH hrd hal hga hgy
  go_enter Try.func93, Try.ntmps93
  go_upto_region 1 with fail
  obtain ⟨w1, hw1⟩ : ∃ V, w.alloc (.cells #[.slice B0 m0 d0, .slice B1 m1 d1, .slice B2 m2 d2, .int .i64 rd] 36) = V := ⟨_, rfl⟩
  rw [hw1] at bz nz HVA HVD GA GY ⊢
  clear hw1
  have W := Lh bz
  have x0 : w1.cell? ⟨ga, 0, none⟩ = some (.slice A0 n0 c0) := (blk_cell GA 0).trans rfl
  have x1 : w1.cell? ⟨ga, 1, none⟩ = some (.slice A1 n1 c1) := (blk_cell GA 1).trans rfl
  have x2 : w1.cell? ⟨ga, 2, none⟩ = some (.slice A2 n2 c2) := (blk_cell GA 2).trans rfl
  have x3 : w1.cell? ⟨ga, 3, none⟩ = some (.int .i64 ra) := (blk_cell GA 3).trans rfl
  have xl : ga < w1.heap.size := blk_lt GA
  have y0 : w1.cell? ⟨gy, 0, none⟩ = some (.int .i64 yx) := (blk_cell GY 0).trans rfl
  have y1 : w1.cell? ⟨gy, 1, none⟩ = some (.int .i64 yy) := (blk_cell GY 1).trans rfl
  have y2 : w1.cell? ⟨gy, 2, none⟩ = some (.int .i64 yz) := (blk_cell GY 2).trans rfl
  have yl : gy < w1.heap.size := blk_lt GY
  have z0 : w1.cell? ⟨w.heap.size, 0, none⟩ = some (.slice B0 m0 d0) := (blk_cell nz 0).trans rfl
  have z1 : w1.cell? ⟨w.heap.size, 1, none⟩ = some (.slice B1 m1 d1) := (blk_cell nz 1).trans rfl
  have z2 : w1.cell? ⟨w.heap.size, 2, none⟩ = some (.slice B2 m2 d2) := (blk_cell nz 2).trans rfl
  have z3 : w1.cell? ⟨w.heap.size, 3, none⟩ = some (.int .i64 rd) := (blk_cell nz 3).trans rfl
  have zl : w.heap.size < w1.heap.size := blk_lt nz
  clear GA GY nz bz
  go_wp2_with fail
  with_reducible refine (HC.out w1 HVA.out HVD.out).mono ?_
  rintro en w2 ⟨rfl, hb⟩
  have W := Lh (bthen W.out hb)
  have HS : Hid (w.heap.size ≤ w2.heap.size) := Lh W.out.size
  clear hb HC x0 x1 x2 x3 xl y0 y1 y2 yl z0 z1 z2 z3 zl HVA HVD
  have W := Lh (W.out.alloc HS.out (.cells #[.int .i64 Xx, .int .i64 Xy, .int .i64 Xz, .int .i64 Xg] 40))
  cases Xo with
  | false =>
    have HR := Lh (HO.out _ rfl)
    clear HY HG HO
    go_wp2
    go_ret
    exact ⟨by rw [HR.out]; rfl, W.out⟩
  | true =>
    by_cases t : Xg < 0
    · have dt : decide (Xg < 0) = true := decide_eq_true t
      have HR := Lh (HG.out _ _ _ _ rfl (by omega))
      clear HY HG HO t
      go_wp2
      go_ret
      exact ⟨by rw [HR.out]; rfl, W.out⟩
    · have dt : decide (Xg < 0) = false := decide_eq_false t
      have HR := Lh ((congrArg (fun t : Nat => (t : Int)) (HY.out _ _ _ rfl (by omega))).trans (mn_min m k).symm)
      clear HY HG HO t
      go_wp2
      go_ret
      exact ⟨by rw [HR.out]; rfl, W.out⟩
end Go.Proofs.Ytckdhahceelckaa.G
namespace Go.Proofs.Ytckdhahceelckaa.G
open Go.RowKit Go.Proofs.YtckdhahceelckaaW.PrintWords Go.Proofs.YtckdhahceelckaaW.PrintLast Go.Proofs.YtckdhahceelckaaW.PrintMore
attribute [local go_sem] max2_mx min2_mn max_two min_two max_three min_three max_four min_four
attribute [local go_sem high] eqA23 eqA40
set_option linter.unusedVariables false
set_option linter.unusedSimpArgs false
set_option maxHeartbeats 4000000 in
set_option maxRecDepth 100000 in
theorem fold_calls (a : Cr) (y : P3) (l : List Cr) (A : Option Addr) (n c ga gy : Nat) (w : World) (hl : RdC w A l) (hn : l.length = n) (hnb : n ≤ 140737488355328)
    (H : ∀ (W : World) (vd : Value) (d : Cr) (m : Nat), Below w.heap.size w W → CrV W vd d → Calls Try.prog 93 #[.int .i64 m, vd, .pointer (some ⟨ga, 0, none⟩), .pointer (some ⟨gy, 0, none⟩)] W fun e w' => e = .returned (.int .i64 ((hstep a y m d : Nat) : Int)) ∧ Below W.heap.size W w') :
    Calls Try.prog 92 #[.slice A n c, .int .i64 16, .func (.func 93) #[] #[.pointer (some ⟨ga, 0, none⟩), .pointer (some ⟨gy, 0, none⟩)]] w fun e w' => e = .returned (.int .i64 ((leastH a y 16 l : Nat) : Int)) ∧ Below w.heap.size w w' := by
  have HH := Lh H
  have HL := Lh hl
  have HN := Lh hn
  have HST := Lh (fun i (h : i < l.length) => leastH_take a y 16 l i h)
  have HE : Hid (leastH a y 16 l = leastH a y 16 (l.take n)) := Lh (by rw [List.take_of_length_le (by omega)])
  obtain ⟨L, hL⟩ : ∃ L : Nat → Nat, (fun i => leastH a y 16 (l.take i)) = L := ⟨_, rfl⟩
  have hL2 : ∀ i, leastH a y 16 (l.take i) = L i := fun i => by rw [← hL]
  simp only [hL2] at HST HE
  have H0 : Hid (L 0 = 16) := Lh (by rw [← hL2]; rfl)
  rw [HE.out]
  clear H hL hL2 hl hn HE
  go_enter Try.func92, Try.ntmps92
  go_wp2_with fail
  go_loopw [1, 8, 11] (fun v1 v8 v11 wr => ∃ i : Nat, i ≤ n ∧ v11 = .int .i64 i ∧ v1 = .int .i64 (L i : Nat) ∧ Hid (Below w.heap.size w wr)) (fun _ _ i _ => n - (intOf i).toNat)
  case atStart => exact ⟨0, by omega, rfl, by rw [H0.out]; rfl, Lh (Below.refl _ _)⟩
  case round =>
    obtain ⟨i, hi, rfl, rfl, hB⟩ := hrel
    obtain ⟨wq, hwq⟩ : ∃ x : World, x = wr := ⟨_, rfl⟩
    subst hwq
    by_cases hlt : i < n
    · have hil : i < l.length := by rw [HN.out]; exact hlt
      have HS1 := Lh (HST.out i hil)
      obtain ⟨eb, eo, E0, E1, E2, m0, m1, m2, g0, g1, g2, rfl, el, e0, e1, e2, e3, hE⟩ := (HL.out.below hB.out).get i hil
      obtain ⟨d, hd⟩ : ∃ d, l[i] = d := ⟨_, rfl⟩
      rw [hd] at hE e3 HS1
      obtain ⟨rd, hrd⟩ : ∃ r, d.r = r := ⟨_, rfl⟩
      rw [hrd] at hE e3
      have bz := (Below.refl _ wq).alloc (Nat.le_refl _) (.cells #[.slice E0 m0 g0, .slice E1 m1 g1, .slice E2 m2 g2, .int .i64 rd] 36)
      have nz := heap_alloc_new wq (.cells #[.slice E0 m0 g0, .slice E1 m1 g1, .slice E2 m2 g2, .int .i64 rd] 36)
      have HE := Lh (hE.below bz)
      have HB := Lh (bthen hB.out bz)
      have ti : (i : Int) < (n : Int) := by omega
      clear hE hd hrd hil
      go_upto_region 4 with fail
      obtain ⟨w1, hw1⟩ : ∃ V, wq.alloc (.cells #[.slice E0 m0 g0, .slice E1 m1 g1, .slice E2 m2 g2, .int .i64 rd] 36) = V := ⟨_, rfl⟩
      rw [hw1] at bz nz HE HB ⊢
      clear hw1 bz e0 e1 e2 e3
      have z0 : w1.cell? ⟨wq.heap.size, 0, none⟩ = some (.slice E0 m0 g0) := (blk_cell nz 0).trans rfl
      have z1 : w1.cell? ⟨wq.heap.size, 1, none⟩ = some (.slice E1 m1 g1) := (blk_cell nz 1).trans rfl
      have z2 : w1.cell? ⟨wq.heap.size, 2, none⟩ = some (.slice E2 m2 g2) := (blk_cell nz 2).trans rfl
      have z3 : w1.cell? ⟨wq.heap.size, 3, none⟩ = some (.int .i64 rd) := (blk_cell nz 3).trans rfl
      have zl : wq.heap.size < w1.heap.size := blk_lt nz
      clear nz
      go_wp2_with fail
      with_reducible refine (HH.out w1 _ d (L i) HB.out HE.out).mono ?_
      rintro en w2 ⟨rfl, hb⟩
      have hB := Lh (bthen HB.out hb)
      clear hb z0 z1 z2 z3 zl HE HB
      rw [← HS1.out]
      go_wp2
      go_roundw
      case rel => exact ⟨i + 1, by omega, by go_num, rfl, hB⟩
      case measure => simp [intOf]; omega
    · obtain rfl : n = i := by omega
      go_wp2
      go_ret
      exact ⟨rfl, hB.out⟩
end Go.Proofs.Ytckdhahceelckaa.G
namespace Go.Proofs.Ytckdhahceelckaa.G
open Go.RowKit Go.Proofs.YtckdhahceelckaaW.PrintWords Go.Proofs.YtckdhahceelckaaW.PrintLast Go.Proofs.YtckdhahceelckaaW.PrintMore
attribute [local go_sem] max2_mx min2_mn max_two min_two max_three min_three max_four min_four
attribute [local go_sem high] eqA23 eqA40
set_option linter.unusedVariables false
set_option linter.unusedSimpArgs false
theorem fits_of {x : Int} (h : -1125899906842624 ≤ x ∧ x ≤ 1125899906842624) : fits x := by unfold fits; omega
set_option maxHeartbeats 4000000 in
set_option maxRecDepth 100000 in
theorem part_calls {w : World} (go gl : Nat) (k : Int) (hgl : w.heap[gl]? = some (.cells #[.int .i64 k] 3 (0, 0))) (hk : 0 ≤ k ∧ k ≤ 16) (a b : Int) (ha : -1125899906842624 ≤ a ∧ a ≤ 1125899906842624) (hb : -1125899906842624 ≤ b ∧ b ≤ 1125899906842624) :
    Calls Try.prog 94 #[.int .i64 a, .int .i64 b, .pointer (some ⟨go, 0, none⟩), .pointer (some ⟨gl, 0, none⟩)] w fun e w' => e = .returned (.int .i64 (outC a b k)) ∧ Below w.heap.size w w' := by
  have hq := outC_bd a b k 1125899906842624 hk.1 hk.2 ha hb
  have HS := Lh (fun W => fsub_calls (.pointer (some ⟨go, 0, none⟩)) b a (fits_of hb) (fits_of ha) (by unfold fits; omega) W)
  have HR := Lh (fun W => fratio_calls (.pointer (some ⟨go, 0, none⟩)) (b - a) k (by omega) hk W)
  have HA := Lh (fun W => fadd_calls (.pointer (some ⟨go, 0, none⟩)) a ((b - a) * k / 16) (fits_of ha) (by unfold outC at hq; unfold fits; omega) (by unfold outC at hq; unfold fits; omega) W)
  have HE : Hid (outC a b k = a + (b - a) * k / 16) := Lh rfl
  obtain ⟨D, hD⟩ : ∃ D, b - a = D := ⟨_, rfl⟩
  rw [hD] at HS HR HA HE
  obtain ⟨Q, hQ⟩ : ∃ Q, D * k / 16 = Q := ⟨_, rfl⟩
  rw [hQ] at HR HA HE
  obtain ⟨R, hR⟩ : ∃ R, a + Q = R := ⟨_, rfl⟩
  rw [hR] at HA HE
  rw [HE.out]
  have y0 : w.cell? ⟨gl, 0, none⟩ = some (.int .i64 k) := (blk_cell hgl 0).trans rfl
  have yl : gl < w.heap.size := blk_lt hgl
  clear hq hD hQ hR ha hb hk HE
  go_enter Try.func94, Try.ntmps94
  go_wp2_with fail
  have HB := Lh ((Below.refl (w.heap.size) w).drew)
  refine start_ (n := 8) (S := fun w' => w'.cell? ⟨gl, 0, none⟩ = some (.int .i64 k)) (ds := []) #[false, false, false, false, false, false, false, false] (by kernel_rfl) rfl rfl ((HB.out.cell (p := ⟨gl, 0, none⟩) (yl)).trans y0) (fun hHeld => ?_)
  obtain ⟨wd, hwd⟩ : ∃ x, w.drew = x := ⟨_, rfl⟩
  rw [hwd] at HB hHeld ⊢
  clear hwd
  refine pure_ (i := 0) (N := some 7) (v := ?_) (a' := ?_) #[true, false, false, false, false, false, false, false] rfl rfl (by kernel_rfl) (fun _ _ _ h => h) (Or.inl ⟨by rfl, ?_⟩) ?_ ?_
  rotate_left
  · intro w'
    go_simp
    with_reducible rfl
  rotate_left
  · simp only [Act.put, List.setIfInBounds_toArray, List.set_cons_zero, List.set_cons_succ, i64_w, i32_w]
    rfl
  refine pure_ (i := 1) (N := some 8) (v := ?_) (a' := ?_) #[true, true, false, false, false, false, false, false] rfl rfl (by kernel_rfl) (fun _ _ _ h => h) (Or.inl ⟨by rfl, ?_⟩) ?_ ?_
  rotate_left
  · intro w'
    go_simp
    with_reducible rfl
  rotate_left
  · simp only [Act.put, List.setIfInBounds_toArray, List.set_cons_zero, List.set_cons_succ, i64_w, i32_w]
    rfl
  refine pure_ (i := 2) (N := some 9) (v := ?_) (a' := ?_) #[true, true, true, false, false, false, false, false] rfl rfl (by kernel_rfl) (fun _ _ _ h => h) (Or.inl ⟨by rfl, ?_⟩) ?_ ?_
  rotate_left
  · intro w'
    go_simp
    with_reducible rfl
  rotate_left
  · simp only [Act.put, List.setIfInBounds_toArray, List.set_cons_zero, List.set_cons_succ, i64_w, i32_w]
    rfl
  refine take_ (i := 4) (N := some 11) (v := ?_) (a' := ?_) #[true, true, true, false, true, false, false, false] rfl rfl (by kernel_rfl) (fun _ _ _ h => h) (Or.inl ⟨by rfl, ?_⟩) hHeld ?_ ?_
  rotate_left
  · intro w' s0
    go_simp
    with_reducible rfl
  rotate_left
  · simp only [Act.put, List.setIfInBounds_toArray, List.set_cons_zero, List.set_cons_succ, i64_w, i32_w]
    rfl
  refine one_ (i := 3) (N := some 10) #[true, true, true, true, true, false, false, false] rfl rfl (by kernel_rfl) (by decide) (fun K hK => ?_)
  refine gs_ Try.func97 #[.pointer (some ⟨go, 0, none⟩), .int .i64 b, .int .i64 a] ?_
  with_reducible refine (HS.out _).mono ?_
  rintro en w2 ⟨rfl, hb⟩
  have HB := Lh (HB.out.trans (hb.mono HB.out.size))
  clear hb
  refine ⟨_, rfl, ?_⟩
  refine hK.out _ _ ((HB.out.cell (p := ⟨gl, 0, none⟩) (yl)).trans y0) (fun hHeld => ?_)
  clear hK K
  refine norm_ (a' := ?_) ?_ ?_
  rotate_left
  · show Act.put _ (some 10) _ = _
    simp only [Act.put, List.setIfInBounds_toArray, List.set_cons_zero, List.set_cons_succ, i64_w, i32_w]
    rfl
  refine one_ (i := 5) (N := some 12) #[true, true, true, true, true, true, false, false] rfl rfl (by kernel_rfl) (by decide) (fun K hK => ?_)
  refine gs_ Try.func96 #[.pointer (some ⟨go, 0, none⟩), .int .i64 D, .int .i64 k, .int .i64 16] ?_
  with_reducible refine (HR.out _).mono ?_
  rintro en w3 ⟨rfl, hb⟩
  have HB := Lh (HB.out.trans (hb.mono HB.out.size))
  clear hb
  refine ⟨_, rfl, ?_⟩
  refine hK.out _ _ ((HB.out.cell (p := ⟨gl, 0, none⟩) (yl)).trans y0) (fun hHeld => ?_)
  clear hK K
  refine norm_ (a' := ?_) ?_ ?_
  rotate_left
  · show Act.put _ (some 12) _ = _
    simp only [Act.put, List.setIfInBounds_toArray, List.set_cons_zero, List.set_cons_succ, i64_w, i32_w]
    rfl
  refine one_ (i := 6) (N := some 13) #[true, true, true, true, true, true, true, false] rfl rfl (by kernel_rfl) (by decide) (fun K hK => ?_)
  refine gs_ Try.func95 #[.pointer (some ⟨go, 0, none⟩), .int .i64 a, .int .i64 Q] ?_
  with_reducible refine (HA.out _).mono ?_
  rintro en w4 ⟨rfl, hb⟩
  have HB := Lh (HB.out.trans (hb.mono HB.out.size))
  clear hb
  refine ⟨_, rfl, ?_⟩
  refine hK.out _ _ ((HB.out.cell (p := ⟨gl, 0, none⟩) (yl)).trans y0) (fun hHeld => ?_)
  clear hK K
  refine norm_ (a' := ?_) ?_ ?_
  rotate_left
  · show Act.put _ (some 13) _ = _
    simp only [Act.put, List.setIfInBounds_toArray, List.set_cons_zero, List.set_cons_succ, i64_w, i32_w]
    rfl
  refine pure_ (i := 7) (N := some 6) (v := ?_) (a' := ?_) #[true, true, true, true, true, true, true, true] rfl rfl (by kernel_rfl) (fun _ _ _ h => h) (Or.inl ⟨by rfl, ?_⟩) ?_ ?_
  rotate_left
  · intro w'
    go_simp
    with_reducible rfl
  rotate_left
  · simp only [Act.put, List.setIfInBounds_toArray, List.set_cons_zero, List.set_cons_succ, i64_w, i32_w]
    rfl
  refine done_ (by kernel_rfl) ?_
  go_wp2
  go_ret
  exact ⟨rfl, HB.out⟩
end Go.Proofs.Ytckdhahceelckaa.G
namespace Go.Proofs.Ytckdhahceelckaa.G
open Go.RowKit Go.Proofs.YtckdhahceelckaaW.PrintWords Go.Proofs.YtckdhahceelckaaW.PrintLast Go.Proofs.YtckdhahceelckaaW.PrintMore
attribute [local go_sem] max2_mx min2_mn max_two min_two max_three min_three max_four min_four
attribute [local go_sem high] eqA23
set_option linter.unusedVariables false
set_option linter.unusedSimpArgs false
section
variable {P : Program} {ops : Array Oper} {Q : Exit → Act → World → Prop} {S : World → Prop}
/-- a call of a function value in a region -/
theorem goesf_ {oi : Oper} {N : Option Tmp} {a : Act} {w : World} {K : Act → World → Prop} {f : FuncId} {fn : Func} {os : Array Operand} {ts : Array TypeId} (x : Operand) (caps : Array Value) (hf : P.funcs[f]? = some fn) (hname : (fn.name == "runtime.NumGoroutine") = false) (hb : fn.body.isSome = true) (args : Array Value)
    (hw : Region.wanted oi (yielded ops a.tmps) = true) (hN : oi.dst = N) (hop : oi.op = .call { callee := .value x, args := os, argTypes := ts }) (hx : a.eval x = .func (.func f) #[] caps) (hargs : os.map a.eval ++ caps = args)
    (h : Calls P f args w fun e w' => ∃ v, e = .returned v ∧ K (a.put N v) w') : if Region.wanted oi (yielded ops a.tmps) = true then Oper.wp P oi a w K Q else K (a.put N undef) w := by
  refine call_ f args hw hN ?_ h
  have he := enters_ hf hname hb args w
  unfold execOp
  simp [hop, resolve, Deferred.ofValue, invoke, hx, hargs, he]
end
end Go.Proofs.Ytckdhahceelckaa.G
namespace Go.Proofs.Ytckdhahceelckaa.G
open Go.RowKit Go.Proofs.YtckdhahceelckaaW.PrintWords Go.Proofs.YtckdhahceelckaaW.PrintLast Go.Proofs.YtckdhahceelckaaW.PrintMore
attribute [local go_sem] max2_mx min2_mn max_two min_two max_three min_three max_four min_four
attribute [local go_sem high] eqA23 eqA40
set_option linter.unusedVariables false
set_option linter.unusedSimpArgs false
section
variable {P : Program} {ops : Array Oper} {Q : Exit → Act → World → Prop} {md : Region.Mode} {S : World → Prop} {ds : List Nat}
/-- three operations that may come up now -/
theorem three_ {i j k : Nat} {Ni Nj Nk : Option Tmp} {oi oj ok : Oper} {fuel : Nat} {l : Array Bool} {a : Act} {w : World} (li lj lk : Array Bool) (hi : ops[i]? = some oi) (hj : ops[j]? = some oj) (hk : ops[k]? = some ok) (hNi : oi.dst = Ni) (hNj : oj.dst = Nj) (hNk : ok.dst = Nk)
    (hc : (Region.ready md ops l == [i, j, k] && l.setIfInBounds i true == li && l.setIfInBounds j true == lj && l.setIfInBounds k true == lk) = true) (hdi : i ∉ ds) (hdj : j ∉ ds) (hdk : k ∉ ds)
    (h1 : ∀ K : Act → World → Prop, Shut (∀ a' w', S w' → (S w' → wpAnyLast P md ops Q S ds fuel li a' w') → K a' w') → if Region.wanted oi (yielded ops a.tmps) = true then Oper.wp P oi a w K Q else K (a.put Ni undef) w)
    (h2 : ∀ K : Act → World → Prop, Shut (∀ a' w', S w' → (S w' → wpAnyLast P md ops Q S ds fuel lj a' w') → K a' w') → if Region.wanted oj (yielded ops a.tmps) = true then Oper.wp P oj a w K Q else K (a.put Nj undef) w)
    (h3 : ∀ K : Act → World → Prop, Shut (∀ a' w', S w' → (S w' → wpAnyLast P md ops Q S ds fuel lk a' w') → K a' w') → if Region.wanted ok (yielded ops a.tmps) = true then Oper.wp P ok a w K Q else K (a.put Nk undef) w) :
    wpAnyLast P md ops Q S ds (fuel + 1) l a w := by
  subst hNi
  subst hNj
  subst hNk
  simp only [Bool.and_eq_true, beq_iff_eq] at hc
  obtain ⟨⟨⟨e1, e2⟩, e3⟩, e4⟩ := hc
  subst e2
  subst e3
  subst e4
  exact wpAnyLast_ready e1 (by simp) (AllReadyL.cons hi hdi (fun K hK => h1 K hK) (AllReadyL.cons hj hdj (fun K hK => h2 K hK) (AllReadyL.cons hk hdk (fun K hK => h3 K hK) AllReadyL.nil)))
end
theorem holdF_no {a b : P3} {r : Int} {l : List Cr} (h : holdMay a b r = false) : holdF a b r l = (b, 16) := by
  have e : holdK a b r l = 16 := by unfold holdK; rw [if_neg (by rw [h]; decide)]
  unfold holdF; rw [e]; exact congrArg (·, 16) (outP_16 a b)
theorem holdF_16 {a b : P3} {r : Int} {l : List Cr} (h : holdMay a b r = true) (hk : leastH (ballC a r) (wayC a b) 16 l = 16) : holdF a b r l = (b, 16) := by
  have e : holdK a b r l = 16 := by unfold holdK; rw [if_pos h, hk]
  unfold holdF; rw [e]; exact congrArg (·, 16) (outP_16 a b)
theorem holdF_yes {a b : P3} {r : Int} {l : List Cr} (h : holdMay a b r = true) {k : Nat} (hk : leastH (ballC a r) (wayC a b) 16 l = k) : holdF a b r l = (outP a b k, k) := by
  have e : holdK a b r l = k := by unfold holdK; rw [if_pos h, hk]
  unfold holdF; rw [e]
theorem gr_bd2 (x : Int) (h : -9223372036854775808 ≤ x ∧ x ≤ 9223372036854775808) : -8796093022208 ≤ gr x ∧ gr x ≤ 8796093022208 := by unfold gr; omega
theorem gr_sub {x y : Int} (hx : -9223372036854775808 ≤ x ∧ x ≤ 9223372036854775808) (hy : -9223372036854775808 ≤ y ∧ y ≤ 9223372036854775808) : wrap64 (gr x - gr y) = gr x - gr y := by
  have := gr_bd2 x hx
  have := gr_bd2 y hy
  exact w64_id (gr x - gr y) (by omega) (by omega)
def HoldPost (R : P3 × Nat) (w : World) (en : Ending) (w' : World) : Prop := en = .returned (.tuple #[aP R.1, .int .i64 (R.2 : Nat)]) ∧ Below w.heap.size w w'
set_option maxHeartbeats 8000000 in
set_option maxRecDepth 100000 in
theorem hold_calls {w : World} (vw : Value) (a b : P3) (r : Int) (l : List Cr) (A : Option Addr) (n c : Nat) (hl : RdC w A l) (hn : l.length = n) (hnb : n ≤ 140737488355328) (ha : in3 9223372036854775808 a) (hb : in3 9223372036854775808 b) :
    Calls Try.prog 50 #[vw, aP a, aP b, .int .i64 r, .slice A n c] w (HoldPost (holdF a b r l) w) := by
  have HGA := Lh (fun W => grains_calls a W)
  have HGB := Lh (fun W => grains_calls b W)
  have HWA := Lh (fun W => cwithin_calls 1125899906842624 (by decide) a W)
  have HWB := Lh (fun W => cwithin_calls 1125899906842624 (by decide) b W)
  have HWY := Lh (fun W => cwithin_calls 4194304 (by decide) (wayC a b) W)
  have HMY : Hid (holdMay a b r = ((ballC a r).may && (inB 1125899906842624 a && (inB 1125899906842624 b && inB 4194304 (wayC a b))))) := Lh rfl
  have HNO := Lh (fun (h : holdMay a b r = false) => holdF_no (l := l) h)
  have H16 := Lh (fun (h : holdMay a b r = true) (hk : leastH (ballC a r) (wayC a b) 16 l = 16) => holdF_16 h hk)
  have HYS := Lh (fun (h : holdMay a b r = true) k (hk : leastH (ballC a r) (wayC a b) 16 l = k) => holdF_yes h hk)
  have HLE : Hid (leastH (ballC a r) (wayC a b) 16 l ≤ 16) := Lh (leastH_le _ _ _ _)
  have HPT := Lh (fun (W : World) (gx gl : Nat) (k : Int) (hgl : W.heap[gl]? = some (.cells #[.int .i64 k] 3 (0, 0))) (hk : 0 ≤ k ∧ k ≤ 16) (ha2 : in3 1125899906842624 a) (hb2 : in3 1125899906842624 b) => (show _ ∧ _ ∧ _ from ⟨part_calls gx gl k hgl hk a.x b.x ⟨ha2.1, ha2.2.1⟩ ⟨hb2.1, hb2.2.1⟩, part_calls gx gl k hgl hk a.y b.y ⟨ha2.2.2.1, ha2.2.2.2.1⟩ ⟨hb2.2.2.1, hb2.2.2.2.1⟩, part_calls gx gl k hgl hk a.z b.z ⟨ha2.2.2.2.2.1, ha2.2.2.2.2.2⟩ ⟨hb2.2.2.2.2.1, hb2.2.2.2.2.2⟩⟩))
  have HI3A := Lh (fun (h : inB 1125899906842624 a = true) => (inB_iff _ _).1 h)
  have HI3B := Lh (fun (h : inB 1125899906842624 b = true) => (inB_iff _ _).1 h)
  have hor : (apS (ballC a r) ⟨[⟨0, 0, 0⟩], [], [], 0⟩).2 = (ballC a r).may := by
    rw [apS_may, mayOne (x := ⟨0, 0, 0⟩) (by unfold in3; decide) (by decide) (by decide), Bool.and_true]
  have HAP := Lh (fun (W : World) (u v : Value) (h1 : CrV W u (ballC a r)) (h2 : CrV W v ⟨[⟨0, 0, 0⟩], [], [], 0⟩) => apart_all h1 h2 (apS (ballC a r) ⟨[⟨0, 0, 0⟩], [], [], 0⟩) rfl)
  have HFO := Lh (fun (W : World) (ga gy : Nat) (hl : RdC W A l) H => fold_calls (ballC a r) (wayC a b) l A n c ga gy W hl hn hnb H)
  have HH1 := Lh (fun (W : World) (d : Cr) (ga gy : Nat) (A0 A1 A2 : Option Addr) (n0 n1 n2 c0 c1 c2 : Nat) (ra : Int) hga hgy ha (vd : Value) (hd : CrV W vd d) (m : Nat) => hold1_calls (w := W) (a := ballC a r) (d := d) (wayC a b) ga gy A0 A1 A2 n0 n1 n2 c0 c1 c2 ra hga hgy ha hd (by simp [ballC]) m)
  have ex := gr_sub ⟨hb.1, hb.2.1⟩ ⟨ha.1, ha.2.1⟩
  have ey := gr_sub ⟨hb.2.2.1, hb.2.2.2.1⟩ ⟨ha.2.2.1, ha.2.2.2.1⟩
  have ez := gr_sub ⟨hb.2.2.2.2.1, hb.2.2.2.2.2⟩ ⟨ha.2.2.2.2.1, ha.2.2.2.2.2⟩
  have HBC : Hid (ballC a r = ⟨[⟨gr a.x, gr a.y, gr a.z⟩], [], [], r⟩) := Lh rfl
  have HWC : Hid (wayC a b = ⟨gr b.x - gr a.x, gr b.y - gr a.y, gr b.z - gr a.z⟩) := Lh rfl
  have HOP : Hid (∀ k : Int, outP a b k = ⟨outC a.x b.x k, outC a.y b.y k, outC a.z b.z k⟩) := Lh (fun _ => rfl)
  have HGPA : Hid (grP a = ⟨gr a.x, gr a.y, gr a.z⟩) := Lh rfl
  have HGPB : Hid (grP b = ⟨gr b.x, gr b.y, gr b.z⟩) := Lh rfl
  rw [HGPA.out] at HGA
  rw [HGPB.out] at HGB
  rw [HWC.out] at HWY
  obtain ⟨R, hR⟩ : ∃ R, apS (ballC a r) ⟨[⟨0, 0, 0⟩], [], [], 0⟩ = R := ⟨_, rfl⟩
  rw [hR] at hor HAP
  obtain ⟨BC, hBC⟩ : ∃ R, ballC a r = R := ⟨_, rfl⟩
  obtain ⟨WC, hWC⟩ : ∃ R, wayC a b = R := ⟨_, rfl⟩
  obtain ⟨HM, hHM⟩ : ∃ R, holdMay a b r = R := ⟨_, rfl⟩
  obtain ⟨HF, hHF⟩ : ∃ R, holdF a b r l = R := ⟨_, rfl⟩
  obtain ⟨OP, hOP⟩ : ∃ R : Int → P3, outP a b = R := ⟨_, rfl⟩
  obtain ⟨IA, hIA⟩ : ∃ R, inB 1125899906842624 a = R := ⟨_, rfl⟩
  obtain ⟨IB, hIB⟩ : ∃ R, inB 1125899906842624 b = R := ⟨_, rfl⟩
  obtain ⟨IY, hIY⟩ : ∃ R, inB 4194304 (wayC a b) = R := ⟨_, rfl⟩
  rw [hIY, hIA, hIB, hHM, hBC] at HMY
  rw [hWC] at hIY
  rw [← HWC.out, hWC, hIY] at HWY
  rw [hIA] at HWA HI3A
  rw [hIB] at HWB HI3B
  rw [hHM, hHF] at HNO
  rw [hHM, hHF, hBC, hWC] at H16
  rw [hHM, hHF, hBC, hWC, hOP] at HYS
  rw [hBC] at hor HAP HBC
  rw [hBC, hWC] at HFO HH1 HLE
  rw [hWC] at HWC
  rw [hOP] at HOP
  rw [hHF]
  obtain ⟨LK, hLK⟩ : ∃ R, leastH BC WC 16 l = R := ⟨_, rfl⟩
  rw [hLK] at H16 HYS HFO HLE
  obtain ⟨px, hpx⟩ : ∃ x, gr a.x = x := ⟨_, rfl⟩
  obtain ⟨py, hpy⟩ : ∃ x, gr a.y = x := ⟨_, rfl⟩
  obtain ⟨pz, hpz⟩ : ∃ x, gr a.z = x := ⟨_, rfl⟩
  obtain ⟨qx, hqx⟩ : ∃ x, gr b.x = x := ⟨_, rfl⟩
  obtain ⟨qy, hqy⟩ : ∃ x, gr b.y = x := ⟨_, rfl⟩
  obtain ⟨qz, hqz⟩ : ∃ x, gr b.z = x := ⟨_, rfl⟩
  rw [hpx, hpy, hpz] at HGA HBC
  rw [hqx, hqy, hqz] at HGB
  rw [hpx, hpy, hpz, hqx, hqy, hqz] at HWC
  rw [hpx, hqx] at ex
  rw [hpy, hqy] at ey
  rw [hpz, hqz] at ez
  obtain ⟨yx, hyx⟩ : ∃ x, qx - px = x := ⟨_, rfl⟩
  obtain ⟨yy, hyy⟩ : ∃ x, qy - py = x := ⟨_, rfl⟩
  obtain ⟨yz, hyz⟩ : ∃ x, qz - pz = x := ⟨_, rfl⟩
  have EX := Lh (ex.trans hyx)
  have EY := Lh (ey.trans hyy)
  have EZ := Lh (ez.trans hyz)
  rw [hyx, hyy, hyz] at HWC
  have HWC2 := HWC.out
  subst HWC2
  have HBC2 := HBC.out
  subst HBC2
  obtain ⟨ax, ay, az⟩ := a
  obtain ⟨tx, ty, tz⟩ := b
  obtain ⟨⟨⟨Rx, Ry, Rz⟩, Rg⟩, Ro⟩ := R
  simp only at hor HAP HPT HOP
  rw [← hor] at HMY
  clear hor
  have HL := Lh hl
  clear hl hn hnb ha hb hR hBC hWC hHM hHF hOP hIA hIB hIY hLK hpx hpy hpz hqx hqy hqz hyx hyy hyz ex ey ez HBC HWC HGPA HGPB
  go_enter Try.func50, Try.ntmps50
  go_wp2_with fail
  have W := Lh (Below.refl w.heap.size w)
  have bz := ((((Below.refl w.heap.size w).alloc (Nat.le_refl _) (.cells #[.int .i64 ax, .int .i64 ay, .int .i64 az] 27)).alloc (by simp) (.cells #[.int .i64 tx, .int .i64 ty, .int .i64 tz] 27)).alloc (by simp <;> omega) (.cells #[.int .i64 0, .int .i64 0, .int .i64 0] 27))
  have nz0 := heap_alloc_new w (.cells #[.int .i64 ax, .int .i64 ay, .int .i64 az] 27)
  replace nz0 := (Below.heap_alloc _ (.cells #[.int .i64 tx, .int .i64 ty, .int .i64 tz] 27) _ (by simp <;> omega)).trans nz0
  replace nz0 := (Below.heap_alloc _ (.cells #[.int .i64 0, .int .i64 0, .int .i64 0] 27) _ (by simp <;> omega)).trans nz0
  have nz1 := heap_alloc_new (w.alloc (.cells #[.int .i64 ax, .int .i64 ay, .int .i64 az] 27)) (.cells #[.int .i64 tx, .int .i64 ty, .int .i64 tz] 27)
  simp only [World.size_alloc] at nz1
  replace nz1 := (Below.heap_alloc _ (.cells #[.int .i64 0, .int .i64 0, .int .i64 0] 27) _ (by simp <;> omega)).trans nz1
  have nz2 := heap_alloc_new ((w.alloc (.cells #[.int .i64 ax, .int .i64 ay, .int .i64 az] 27)).alloc (.cells #[.int .i64 tx, .int .i64 ty, .int .i64 tz] 27)) (.cells #[.int .i64 0, .int .i64 0, .int .i64 0] 27)
  simp only [World.size_alloc] at nz2
  obtain ⟨w1, hwz⟩ : ∃ V, (((w.alloc (.cells #[.int .i64 ax, .int .i64 ay, .int .i64 az] 27)).alloc (.cells #[.int .i64 tx, .int .i64 ty, .int .i64 tz] 27)).alloc (.cells #[.int .i64 0, .int .i64 0, .int .i64 0] 27)) = V := ⟨_, rfl⟩
  rw [hwz] at bz nz0 nz1 nz2 ⊢
  replace W := Lh (bthen W.out bz)
  have F := Lh nz0
  have T := Lh nz1
  have Z := Lh nz2
  clear hwz bz nz0 nz1 nz2
  replace HL := Lh (HL.out.below W.out)
  have x0 : w1.cell? ⟨w.heap.size, 0, none⟩ = some (.int .i64 ax) := (blk_cell F.out 0).trans rfl
  have x1 : w1.cell? ⟨w.heap.size, 1, none⟩ = some (.int .i64 ay) := (blk_cell F.out 1).trans rfl
  have x2 : w1.cell? ⟨w.heap.size, 2, none⟩ = some (.int .i64 az) := (blk_cell F.out 2).trans rfl
  have xl : w.heap.size < w1.heap.size := blk_lt F.out
  have y0 : w1.cell? ⟨w.heap.size + 1, 0, none⟩ = some (.int .i64 tx) := (blk_cell T.out 0).trans rfl
  have y1 : w1.cell? ⟨w.heap.size + 1, 1, none⟩ = some (.int .i64 ty) := (blk_cell T.out 1).trans rfl
  have y2 : w1.cell? ⟨w.heap.size + 1, 2, none⟩ = some (.int .i64 tz) := (blk_cell T.out 2).trans rfl
  have yl : w.heap.size + 1 < w1.heap.size := blk_lt T.out
  have HB := Lh ((Below.refl (w1.heap.size) w1).drew)
  refine start_ (n := 8) (S := fun w' => w'.cell? ⟨w.heap.size, 0, none⟩ = some (.int .i64 ax) ∧ w'.cell? ⟨w.heap.size, 1, none⟩ = some (.int .i64 ay) ∧ w'.cell? ⟨w.heap.size, 2, none⟩ = some (.int .i64 az) ∧ w'.cell? ⟨w.heap.size + 1, 0, none⟩ = some (.int .i64 tx) ∧ w'.cell? ⟨w.heap.size + 1, 1, none⟩ = some (.int .i64 ty) ∧ w'.cell? ⟨w.heap.size + 1, 2, none⟩ = some (.int .i64 tz)) (ds := []) #[false, false, false, false, false, false, false, false] (by kernel_rfl) rfl rfl ⟨(HB.out.cell (p := ⟨w.heap.size, 0, none⟩) (xl)).trans x0, (HB.out.cell (p := ⟨w.heap.size, 1, none⟩) (xl)).trans x1, (HB.out.cell (p := ⟨w.heap.size, 2, none⟩) (xl)).trans x2, (HB.out.cell (p := ⟨w.heap.size + 1, 0, none⟩) (yl)).trans y0, (HB.out.cell (p := ⟨w.heap.size + 1, 1, none⟩) (yl)).trans y1, (HB.out.cell (p := ⟨w.heap.size + 1, 2, none⟩) (yl)).trans y2⟩ (fun hHeld => ?_)
  obtain ⟨wd, hwd⟩ : ∃ x, w1.drew = x := ⟨_, rfl⟩
  rw [hwd] at HB hHeld ⊢
  clear hwd
  refine take_ (i := 0) (N := some 22) (v := ?_) (a' := ?_) #[true, false, false, false, false, false, false, false] rfl rfl (by kernel_rfl) (fun _ _ _ h => h) (Or.inl ⟨by rfl, ?_⟩) hHeld ?_ ?_
  rotate_left
  · rintro w' ⟨s0, s1, s2, s3, s4, s5⟩
    go_simp
    with_reducible rfl
  rotate_left
  · simp only [Act.put, List.setIfInBounds_toArray, List.set_cons_zero, List.set_cons_succ, i64_w, i32_w]
    rfl
  refine take_ (i := 2) (N := some 24) (v := ?_) (a' := ?_) #[true, false, true, false, false, false, false, false] rfl rfl (by kernel_rfl) (fun _ _ _ h => h) (Or.inl ⟨by rfl, ?_⟩) hHeld ?_ ?_
  rotate_left
  · rintro w' ⟨s0, s1, s2, s3, s4, s5⟩
    go_simp
    with_reducible rfl
  rotate_left
  · simp only [Act.put, List.setIfInBounds_toArray, List.set_cons_zero, List.set_cons_succ, i64_w, i32_w]
    rfl
  refine join_ (σ := Nat × Nat) 2 #[true, true, true, true, true, true, false, false] (fun s => [(23, .agg #[.int .i64 px, .int .i64 py, .int .i64 pz]), (25, .agg #[.int .i64 qx, .int .i64 qy, .int .i64 qz]), (12, .pointer (some ⟨s.1, 0, none⟩)), (13, .pointer (some ⟨s.2, 0, none⟩))]) (fun (s : Nat × Nat) w' => match s with | (s1, s2) => w1.heap.size ≤ s1 ∧ w1.heap.size ≤ s2 ∧ s1 ≠ s2 ∧ w'.heap[s1]? = some (.cells #[.int .i64 0, .int .i64 0, .int .i64 0] 23 (0, 0)) ∧ w'.heap[s2]? = some (.cells #[.int .i64 0, .int .i64 0, .int .i64 0] 23 (0, 0)) ∧ Below w1.heap.size w1 w') ?_ ?_
  rotate_left
  · intro hCont
    refine three_ (i := 1) (j := 4) (k := 5) (Ni := some 23) (Nj := some 12) (Nk := some 13) #[true, true, true, false, false, false, false, false] #[true, false, true, false, true, false, false, false] #[true, false, true, false, false, true, false, false] rfl rfl rfl rfl rfl rfl (by kernel_rfl) (by decide) (by decide) (by decide) (fun K hK => ?_) (fun K hK => ?_) (fun K hK => ?_)
    · skip
      refine gs_ Try.func90 #[.agg #[.int .i64 ax, .int .i64 ay, .int .i64 az]] ?_
      with_reducible refine (HGA.out _).mono ?_
      rintro en wz ⟨rfl, hb⟩
      have HB := Lh (HB.out.trans (hb.mono HB.out.size))
      clear hb
      refine ⟨_, rfl, ?_⟩
      refine hK.out _ _ ⟨(HB.out.cell (p := ⟨w.heap.size, 0, none⟩) (xl)).trans x0, (HB.out.cell (p := ⟨w.heap.size, 1, none⟩) (xl)).trans x1, (HB.out.cell (p := ⟨w.heap.size, 2, none⟩) (xl)).trans x2, (HB.out.cell (p := ⟨w.heap.size + 1, 0, none⟩) (yl)).trans y0, (HB.out.cell (p := ⟨w.heap.size + 1, 1, none⟩) (yl)).trans y1, (HB.out.cell (p := ⟨w.heap.size + 1, 2, none⟩) (yl)).trans y2⟩ (fun hHeld => ?_)
      clear hK K
      refine norm_ (a' := ?_) ?_ ?_
      rotate_left
      · show Act.put _ (some 23) _ = _
        simp only [Act.put, List.setIfInBounds_toArray, List.set_cons_zero, List.set_cons_succ, i64_w, i32_w]
        rfl
      refine three_ (i := 3) (j := 4) (k := 5) (Ni := some 25) (Nj := some 12) (Nk := some 13) #[true, true, true, true, false, false, false, false] #[true, true, true, false, true, false, false, false] #[true, true, true, false, false, true, false, false] rfl rfl rfl rfl rfl rfl (by kernel_rfl) (by decide) (by decide) (by decide) (fun K hK => ?_) (fun K hK => ?_) (fun K hK => ?_)
      · skip
        refine gs_ Try.func90 #[.agg #[.int .i64 tx, .int .i64 ty, .int .i64 tz]] ?_
        with_reducible refine (HGB.out _).mono ?_
        rintro en wz ⟨rfl, hb⟩
        have HB := Lh (HB.out.trans (hb.mono HB.out.size))
        clear hb
        refine ⟨_, rfl, ?_⟩
        refine hK.out _ _ ⟨(HB.out.cell (p := ⟨w.heap.size, 0, none⟩) (xl)).trans x0, (HB.out.cell (p := ⟨w.heap.size, 1, none⟩) (xl)).trans x1, (HB.out.cell (p := ⟨w.heap.size, 2, none⟩) (xl)).trans x2, (HB.out.cell (p := ⟨w.heap.size + 1, 0, none⟩) (yl)).trans y0, (HB.out.cell (p := ⟨w.heap.size + 1, 1, none⟩) (yl)).trans y1, (HB.out.cell (p := ⟨w.heap.size + 1, 2, none⟩) (yl)).trans y2⟩ (fun hHeld => ?_)
        clear hK K
        refine norm_ (a' := ?_) ?_ ?_
        rotate_left
        · show Act.put _ (some 25) _ = _
          simp only [Act.put, List.setIfInBounds_toArray, List.set_cons_zero, List.set_cons_succ, i64_w, i32_w]
          rfl
        refine two_ (i := 4) (j := 5) (Ni := some 12) (Nj := some 13) #[true, true, true, true, true, false, false, false] #[true, true, true, true, false, true, false, false] rfl rfl rfl rfl (by kernel_rfl) (by decide) (by decide) (fun K hK => ?_) (fun K hK => ?_)
        · skip
          refine value_ (w1 := ?_) (v := ?_) (by rfl) rfl ?_ ?_
          rotate_left 2
          · go_simp
            constructor
            · rfl
            · rfl
          have HP := Lh (ha_new HB.out (.cells #[.int .i64 0, .int .i64 0, .int .i64 0] 23))
          have gP := HB.out.size
          have HB := Lh (HB.out.alloc (Nat.le_trans (Nat.le_refl _) HB.out.size) (.cells #[.int .i64 0, .int .i64 0, .int .i64 0] 23))
          refine hK.out _ _ ⟨(HB.out.cell (p := ⟨w.heap.size, 0, none⟩) (xl)).trans x0, (HB.out.cell (p := ⟨w.heap.size, 1, none⟩) (xl)).trans x1, (HB.out.cell (p := ⟨w.heap.size, 2, none⟩) (xl)).trans x2, (HB.out.cell (p := ⟨w.heap.size + 1, 0, none⟩) (yl)).trans y0, (HB.out.cell (p := ⟨w.heap.size + 1, 1, none⟩) (yl)).trans y1, (HB.out.cell (p := ⟨w.heap.size + 1, 2, none⟩) (yl)).trans y2⟩ (fun hHeld => ?_)
          clear hK K
          refine norm_ (a' := ?_) ?_ ?_
          rotate_left
          · show Act.put _ (some 12) _ = _
            simp only [Act.put, List.setIfInBounds_toArray, List.set_cons_zero, List.set_cons_succ, i64_w, i32_w]
            rfl
          refine one_ (i := 5) (N := some 13) #[true, true, true, true, true, true, false, false] rfl rfl (by kernel_rfl) (by decide) (fun K hK => ?_)
          refine value_ (w1 := ?_) (v := ?_) (by rfl) rfl ?_ ?_
          rotate_left 2
          · go_simp
            constructor
            · rfl
            · rfl
          have HQ := Lh (ha_new HB.out (.cells #[.int .i64 0, .int .i64 0, .int .i64 0] 23))
          have gQ := HB.out.size
          have hne := Nat.ne_of_lt (blk_lt HP.out)
          have HP := Lh ((Below.heap_alloc _ (.cells #[.int .i64 0, .int .i64 0, .int .i64 0] 23) _ (blk_lt HP.out)).trans HP.out)
          have HB := Lh (HB.out.alloc (Nat.le_trans (Nat.le_refl _) HB.out.size) (.cells #[.int .i64 0, .int .i64 0, .int .i64 0] 23))
          (try simp only [World.size_alloc] at HQ gQ hne)
          refine hK.out _ _ ⟨(HB.out.cell (p := ⟨w.heap.size, 0, none⟩) (xl)).trans x0, (HB.out.cell (p := ⟨w.heap.size, 1, none⟩) (xl)).trans x1, (HB.out.cell (p := ⟨w.heap.size, 2, none⟩) (xl)).trans x2, (HB.out.cell (p := ⟨w.heap.size + 1, 0, none⟩) (yl)).trans y0, (HB.out.cell (p := ⟨w.heap.size + 1, 1, none⟩) (yl)).trans y1, (HB.out.cell (p := ⟨w.heap.size + 1, 2, none⟩) (yl)).trans y2⟩ (fun hHeld => ?_)
          clear hK K
          refine norm_ (a' := ?_) ?_ ?_
          rotate_left
          · show Act.put _ (some 13) _ = _
            simp only [Act.put, List.setIfInBounds_toArray, List.set_cons_zero, List.set_cons_succ, i64_w, i32_w]
            rfl
          exact norm_ (by simp only [putAll, Act.put, List.setIfInBounds_toArray, List.set_cons_zero, List.set_cons_succ]) (hCont (_, _) _ ⟨gP, gQ, hne, HP.out, HQ.out, HB.out⟩)
        · skip
          refine value_ (w1 := ?_) (v := ?_) (by rfl) rfl ?_ ?_
          rotate_left 2
          · go_simp
            constructor
            · rfl
            · rfl
          have HQ := Lh (ha_new HB.out (.cells #[.int .i64 0, .int .i64 0, .int .i64 0] 23))
          have gQ := HB.out.size
          have HB := Lh (HB.out.alloc (Nat.le_trans (Nat.le_refl _) HB.out.size) (.cells #[.int .i64 0, .int .i64 0, .int .i64 0] 23))
          refine hK.out _ _ ⟨(HB.out.cell (p := ⟨w.heap.size, 0, none⟩) (xl)).trans x0, (HB.out.cell (p := ⟨w.heap.size, 1, none⟩) (xl)).trans x1, (HB.out.cell (p := ⟨w.heap.size, 2, none⟩) (xl)).trans x2, (HB.out.cell (p := ⟨w.heap.size + 1, 0, none⟩) (yl)).trans y0, (HB.out.cell (p := ⟨w.heap.size + 1, 1, none⟩) (yl)).trans y1, (HB.out.cell (p := ⟨w.heap.size + 1, 2, none⟩) (yl)).trans y2⟩ (fun hHeld => ?_)
          clear hK K
          refine norm_ (a' := ?_) ?_ ?_
          rotate_left
          · show Act.put _ (some 13) _ = _
            simp only [Act.put, List.setIfInBounds_toArray, List.set_cons_zero, List.set_cons_succ, i64_w, i32_w]
            rfl
          refine one_ (i := 4) (N := some 12) #[true, true, true, true, true, true, false, false] rfl rfl (by kernel_rfl) (by decide) (fun K hK => ?_)
          refine value_ (w1 := ?_) (v := ?_) (by rfl) rfl ?_ ?_
          rotate_left 2
          · go_simp
            constructor
            · rfl
            · rfl
          have HP := Lh (ha_new HB.out (.cells #[.int .i64 0, .int .i64 0, .int .i64 0] 23))
          have gP := HB.out.size
          have hne := Nat.ne_of_gt (blk_lt HQ.out)
          have HQ := Lh ((Below.heap_alloc _ (.cells #[.int .i64 0, .int .i64 0, .int .i64 0] 23) _ (blk_lt HQ.out)).trans HQ.out)
          have HB := Lh (HB.out.alloc (Nat.le_trans (Nat.le_refl _) HB.out.size) (.cells #[.int .i64 0, .int .i64 0, .int .i64 0] 23))
          (try simp only [World.size_alloc] at HP gP hne)
          refine hK.out _ _ ⟨(HB.out.cell (p := ⟨w.heap.size, 0, none⟩) (xl)).trans x0, (HB.out.cell (p := ⟨w.heap.size, 1, none⟩) (xl)).trans x1, (HB.out.cell (p := ⟨w.heap.size, 2, none⟩) (xl)).trans x2, (HB.out.cell (p := ⟨w.heap.size + 1, 0, none⟩) (yl)).trans y0, (HB.out.cell (p := ⟨w.heap.size + 1, 1, none⟩) (yl)).trans y1, (HB.out.cell (p := ⟨w.heap.size + 1, 2, none⟩) (yl)).trans y2⟩ (fun hHeld => ?_)
          clear hK K
          refine norm_ (a' := ?_) ?_ ?_
          rotate_left
          · show Act.put _ (some 12) _ = _
            simp only [Act.put, List.setIfInBounds_toArray, List.set_cons_zero, List.set_cons_succ, i64_w, i32_w]
            rfl
          exact norm_ (by simp only [putAll, Act.put, List.setIfInBounds_toArray, List.set_cons_zero, List.set_cons_succ]) (hCont (_, _) _ ⟨gP, gQ, hne, HP.out, HQ.out, HB.out⟩)
      · skip
        refine value_ (w1 := ?_) (v := ?_) (by rfl) rfl ?_ ?_
        rotate_left 2
        · go_simp
          constructor
          · rfl
          · rfl
        have HP := Lh (ha_new HB.out (.cells #[.int .i64 0, .int .i64 0, .int .i64 0] 23))
        have gP := HB.out.size
        have HB := Lh (HB.out.alloc (Nat.le_trans (Nat.le_refl _) HB.out.size) (.cells #[.int .i64 0, .int .i64 0, .int .i64 0] 23))
        refine hK.out _ _ ⟨(HB.out.cell (p := ⟨w.heap.size, 0, none⟩) (xl)).trans x0, (HB.out.cell (p := ⟨w.heap.size, 1, none⟩) (xl)).trans x1, (HB.out.cell (p := ⟨w.heap.size, 2, none⟩) (xl)).trans x2, (HB.out.cell (p := ⟨w.heap.size + 1, 0, none⟩) (yl)).trans y0, (HB.out.cell (p := ⟨w.heap.size + 1, 1, none⟩) (yl)).trans y1, (HB.out.cell (p := ⟨w.heap.size + 1, 2, none⟩) (yl)).trans y2⟩ (fun hHeld => ?_)
        clear hK K
        refine norm_ (a' := ?_) ?_ ?_
        rotate_left
        · show Act.put _ (some 12) _ = _
          simp only [Act.put, List.setIfInBounds_toArray, List.set_cons_zero, List.set_cons_succ, i64_w, i32_w]
          rfl
        refine two_ (i := 3) (j := 5) (Ni := some 25) (Nj := some 13) #[true, true, true, true, true, false, false, false] #[true, true, true, false, true, true, false, false] rfl rfl rfl rfl (by kernel_rfl) (by decide) (by decide) (fun K hK => ?_) (fun K hK => ?_)
        · skip
          refine gs_ Try.func90 #[.agg #[.int .i64 tx, .int .i64 ty, .int .i64 tz]] ?_
          with_reducible refine (HGB.out _).mono ?_
          rintro en wz ⟨rfl, hb⟩
          have HP := Lh ((hb.block _ (blk_lt HP.out)).trans HP.out)
          have HB := Lh (HB.out.trans (hb.mono HB.out.size))
          clear hb
          refine ⟨_, rfl, ?_⟩
          refine hK.out _ _ ⟨(HB.out.cell (p := ⟨w.heap.size, 0, none⟩) (xl)).trans x0, (HB.out.cell (p := ⟨w.heap.size, 1, none⟩) (xl)).trans x1, (HB.out.cell (p := ⟨w.heap.size, 2, none⟩) (xl)).trans x2, (HB.out.cell (p := ⟨w.heap.size + 1, 0, none⟩) (yl)).trans y0, (HB.out.cell (p := ⟨w.heap.size + 1, 1, none⟩) (yl)).trans y1, (HB.out.cell (p := ⟨w.heap.size + 1, 2, none⟩) (yl)).trans y2⟩ (fun hHeld => ?_)
          clear hK K
          refine norm_ (a' := ?_) ?_ ?_
          rotate_left
          · show Act.put _ (some 25) _ = _
            simp only [Act.put, List.setIfInBounds_toArray, List.set_cons_zero, List.set_cons_succ, i64_w, i32_w]
            rfl
          refine one_ (i := 5) (N := some 13) #[true, true, true, true, true, true, false, false] rfl rfl (by kernel_rfl) (by decide) (fun K hK => ?_)
          refine value_ (w1 := ?_) (v := ?_) (by rfl) rfl ?_ ?_
          rotate_left 2
          · go_simp
            constructor
            · rfl
            · rfl
          have HQ := Lh (ha_new HB.out (.cells #[.int .i64 0, .int .i64 0, .int .i64 0] 23))
          have gQ := HB.out.size
          have hne := Nat.ne_of_lt (blk_lt HP.out)
          have HP := Lh ((Below.heap_alloc _ (.cells #[.int .i64 0, .int .i64 0, .int .i64 0] 23) _ (blk_lt HP.out)).trans HP.out)
          have HB := Lh (HB.out.alloc (Nat.le_trans (Nat.le_refl _) HB.out.size) (.cells #[.int .i64 0, .int .i64 0, .int .i64 0] 23))
          (try simp only [World.size_alloc] at HQ gQ hne)
          refine hK.out _ _ ⟨(HB.out.cell (p := ⟨w.heap.size, 0, none⟩) (xl)).trans x0, (HB.out.cell (p := ⟨w.heap.size, 1, none⟩) (xl)).trans x1, (HB.out.cell (p := ⟨w.heap.size, 2, none⟩) (xl)).trans x2, (HB.out.cell (p := ⟨w.heap.size + 1, 0, none⟩) (yl)).trans y0, (HB.out.cell (p := ⟨w.heap.size + 1, 1, none⟩) (yl)).trans y1, (HB.out.cell (p := ⟨w.heap.size + 1, 2, none⟩) (yl)).trans y2⟩ (fun hHeld => ?_)
          clear hK K
          refine norm_ (a' := ?_) ?_ ?_
          rotate_left
          · show Act.put _ (some 13) _ = _
            simp only [Act.put, List.setIfInBounds_toArray, List.set_cons_zero, List.set_cons_succ, i64_w, i32_w]
            rfl
          exact norm_ (by simp only [putAll, Act.put, List.setIfInBounds_toArray, List.set_cons_zero, List.set_cons_succ]) (hCont (_, _) _ ⟨gP, gQ, hne, HP.out, HQ.out, HB.out⟩)
        · skip
          refine value_ (w1 := ?_) (v := ?_) (by rfl) rfl ?_ ?_
          rotate_left 2
          · go_simp
            constructor
            · rfl
            · rfl
          have HQ := Lh (ha_new HB.out (.cells #[.int .i64 0, .int .i64 0, .int .i64 0] 23))
          have gQ := HB.out.size
          have hne := Nat.ne_of_lt (blk_lt HP.out)
          have HP := Lh ((Below.heap_alloc _ (.cells #[.int .i64 0, .int .i64 0, .int .i64 0] 23) _ (blk_lt HP.out)).trans HP.out)
          have HB := Lh (HB.out.alloc (Nat.le_trans (Nat.le_refl _) HB.out.size) (.cells #[.int .i64 0, .int .i64 0, .int .i64 0] 23))
          (try simp only [World.size_alloc] at HQ gQ hne)
          refine hK.out _ _ ⟨(HB.out.cell (p := ⟨w.heap.size, 0, none⟩) (xl)).trans x0, (HB.out.cell (p := ⟨w.heap.size, 1, none⟩) (xl)).trans x1, (HB.out.cell (p := ⟨w.heap.size, 2, none⟩) (xl)).trans x2, (HB.out.cell (p := ⟨w.heap.size + 1, 0, none⟩) (yl)).trans y0, (HB.out.cell (p := ⟨w.heap.size + 1, 1, none⟩) (yl)).trans y1, (HB.out.cell (p := ⟨w.heap.size + 1, 2, none⟩) (yl)).trans y2⟩ (fun hHeld => ?_)
          clear hK K
          refine norm_ (a' := ?_) ?_ ?_
          rotate_left
          · show Act.put _ (some 13) _ = _
            simp only [Act.put, List.setIfInBounds_toArray, List.set_cons_zero, List.set_cons_succ, i64_w, i32_w]
            rfl
          refine one_ (i := 3) (N := some 25) #[true, true, true, true, true, true, false, false] rfl rfl (by kernel_rfl) (by decide) (fun K hK => ?_)
          refine gs_ Try.func90 #[.agg #[.int .i64 tx, .int .i64 ty, .int .i64 tz]] ?_
          with_reducible refine (HGB.out _).mono ?_
          rintro en wz ⟨rfl, hb⟩
          have HP := Lh ((hb.block _ (blk_lt HP.out)).trans HP.out)
          have HQ := Lh ((hb.block _ (blk_lt HQ.out)).trans HQ.out)
          have HB := Lh (HB.out.trans (hb.mono HB.out.size))
          clear hb
          refine ⟨_, rfl, ?_⟩
          refine hK.out _ _ ⟨(HB.out.cell (p := ⟨w.heap.size, 0, none⟩) (xl)).trans x0, (HB.out.cell (p := ⟨w.heap.size, 1, none⟩) (xl)).trans x1, (HB.out.cell (p := ⟨w.heap.size, 2, none⟩) (xl)).trans x2, (HB.out.cell (p := ⟨w.heap.size + 1, 0, none⟩) (yl)).trans y0, (HB.out.cell (p := ⟨w.heap.size + 1, 1, none⟩) (yl)).trans y1, (HB.out.cell (p := ⟨w.heap.size + 1, 2, none⟩) (yl)).trans y2⟩ (fun hHeld => ?_)
          clear hK K
          refine norm_ (a' := ?_) ?_ ?_
          rotate_left
          · show Act.put _ (some 25) _ = _
            simp only [Act.put, List.setIfInBounds_toArray, List.set_cons_zero, List.set_cons_succ, i64_w, i32_w]
            rfl
          exact norm_ (by simp only [putAll, Act.put, List.setIfInBounds_toArray, List.set_cons_zero, List.set_cons_succ]) (hCont (_, _) _ ⟨gP, gQ, hne, HP.out, HQ.out, HB.out⟩)
      · skip
        refine value_ (w1 := ?_) (v := ?_) (by rfl) rfl ?_ ?_
        rotate_left 2
        · go_simp
          constructor
          · rfl
          · rfl
        have HQ := Lh (ha_new HB.out (.cells #[.int .i64 0, .int .i64 0, .int .i64 0] 23))
        have gQ := HB.out.size
        have HB := Lh (HB.out.alloc (Nat.le_trans (Nat.le_refl _) HB.out.size) (.cells #[.int .i64 0, .int .i64 0, .int .i64 0] 23))
        refine hK.out _ _ ⟨(HB.out.cell (p := ⟨w.heap.size, 0, none⟩) (xl)).trans x0, (HB.out.cell (p := ⟨w.heap.size, 1, none⟩) (xl)).trans x1, (HB.out.cell (p := ⟨w.heap.size, 2, none⟩) (xl)).trans x2, (HB.out.cell (p := ⟨w.heap.size + 1, 0, none⟩) (yl)).trans y0, (HB.out.cell (p := ⟨w.heap.size + 1, 1, none⟩) (yl)).trans y1, (HB.out.cell (p := ⟨w.heap.size + 1, 2, none⟩) (yl)).trans y2⟩ (fun hHeld => ?_)
        clear hK K
        refine norm_ (a' := ?_) ?_ ?_
        rotate_left
        · show Act.put _ (some 13) _ = _
          simp only [Act.put, List.setIfInBounds_toArray, List.set_cons_zero, List.set_cons_succ, i64_w, i32_w]
          rfl
        refine two_ (i := 3) (j := 4) (Ni := some 25) (Nj := some 12) #[true, true, true, true, false, true, false, false] #[true, true, true, false, true, true, false, false] rfl rfl rfl rfl (by kernel_rfl) (by decide) (by decide) (fun K hK => ?_) (fun K hK => ?_)
        · skip
          refine gs_ Try.func90 #[.agg #[.int .i64 tx, .int .i64 ty, .int .i64 tz]] ?_
          with_reducible refine (HGB.out _).mono ?_
          rintro en wz ⟨rfl, hb⟩
          have HQ := Lh ((hb.block _ (blk_lt HQ.out)).trans HQ.out)
          have HB := Lh (HB.out.trans (hb.mono HB.out.size))
          clear hb
          refine ⟨_, rfl, ?_⟩
          refine hK.out _ _ ⟨(HB.out.cell (p := ⟨w.heap.size, 0, none⟩) (xl)).trans x0, (HB.out.cell (p := ⟨w.heap.size, 1, none⟩) (xl)).trans x1, (HB.out.cell (p := ⟨w.heap.size, 2, none⟩) (xl)).trans x2, (HB.out.cell (p := ⟨w.heap.size + 1, 0, none⟩) (yl)).trans y0, (HB.out.cell (p := ⟨w.heap.size + 1, 1, none⟩) (yl)).trans y1, (HB.out.cell (p := ⟨w.heap.size + 1, 2, none⟩) (yl)).trans y2⟩ (fun hHeld => ?_)
          clear hK K
          refine norm_ (a' := ?_) ?_ ?_
          rotate_left
          · show Act.put _ (some 25) _ = _
            simp only [Act.put, List.setIfInBounds_toArray, List.set_cons_zero, List.set_cons_succ, i64_w, i32_w]
            rfl
          refine one_ (i := 4) (N := some 12) #[true, true, true, true, true, true, false, false] rfl rfl (by kernel_rfl) (by decide) (fun K hK => ?_)
          refine value_ (w1 := ?_) (v := ?_) (by rfl) rfl ?_ ?_
          rotate_left 2
          · go_simp
            constructor
            · rfl
            · rfl
          have HP := Lh (ha_new HB.out (.cells #[.int .i64 0, .int .i64 0, .int .i64 0] 23))
          have gP := HB.out.size
          have hne := Nat.ne_of_gt (blk_lt HQ.out)
          have HQ := Lh ((Below.heap_alloc _ (.cells #[.int .i64 0, .int .i64 0, .int .i64 0] 23) _ (blk_lt HQ.out)).trans HQ.out)
          have HB := Lh (HB.out.alloc (Nat.le_trans (Nat.le_refl _) HB.out.size) (.cells #[.int .i64 0, .int .i64 0, .int .i64 0] 23))
          (try simp only [World.size_alloc] at HP gP hne)
          refine hK.out _ _ ⟨(HB.out.cell (p := ⟨w.heap.size, 0, none⟩) (xl)).trans x0, (HB.out.cell (p := ⟨w.heap.size, 1, none⟩) (xl)).trans x1, (HB.out.cell (p := ⟨w.heap.size, 2, none⟩) (xl)).trans x2, (HB.out.cell (p := ⟨w.heap.size + 1, 0, none⟩) (yl)).trans y0, (HB.out.cell (p := ⟨w.heap.size + 1, 1, none⟩) (yl)).trans y1, (HB.out.cell (p := ⟨w.heap.size + 1, 2, none⟩) (yl)).trans y2⟩ (fun hHeld => ?_)
          clear hK K
          refine norm_ (a' := ?_) ?_ ?_
          rotate_left
          · show Act.put _ (some 12) _ = _
            simp only [Act.put, List.setIfInBounds_toArray, List.set_cons_zero, List.set_cons_succ, i64_w, i32_w]
            rfl
          exact norm_ (by simp only [putAll, Act.put, List.setIfInBounds_toArray, List.set_cons_zero, List.set_cons_succ]) (hCont (_, _) _ ⟨gP, gQ, hne, HP.out, HQ.out, HB.out⟩)
        · skip
          refine value_ (w1 := ?_) (v := ?_) (by rfl) rfl ?_ ?_
          rotate_left 2
          · go_simp
            constructor
            · rfl
            · rfl
          have HP := Lh (ha_new HB.out (.cells #[.int .i64 0, .int .i64 0, .int .i64 0] 23))
          have gP := HB.out.size
          have hne := Nat.ne_of_gt (blk_lt HQ.out)
          have HQ := Lh ((Below.heap_alloc _ (.cells #[.int .i64 0, .int .i64 0, .int .i64 0] 23) _ (blk_lt HQ.out)).trans HQ.out)
          have HB := Lh (HB.out.alloc (Nat.le_trans (Nat.le_refl _) HB.out.size) (.cells #[.int .i64 0, .int .i64 0, .int .i64 0] 23))
          (try simp only [World.size_alloc] at HP gP hne)
          refine hK.out _ _ ⟨(HB.out.cell (p := ⟨w.heap.size, 0, none⟩) (xl)).trans x0, (HB.out.cell (p := ⟨w.heap.size, 1, none⟩) (xl)).trans x1, (HB.out.cell (p := ⟨w.heap.size, 2, none⟩) (xl)).trans x2, (HB.out.cell (p := ⟨w.heap.size + 1, 0, none⟩) (yl)).trans y0, (HB.out.cell (p := ⟨w.heap.size + 1, 1, none⟩) (yl)).trans y1, (HB.out.cell (p := ⟨w.heap.size + 1, 2, none⟩) (yl)).trans y2⟩ (fun hHeld => ?_)
          clear hK K
          refine norm_ (a' := ?_) ?_ ?_
          rotate_left
          · show Act.put _ (some 12) _ = _
            simp only [Act.put, List.setIfInBounds_toArray, List.set_cons_zero, List.set_cons_succ, i64_w, i32_w]
            rfl
          refine one_ (i := 3) (N := some 25) #[true, true, true, true, true, true, false, false] rfl rfl (by kernel_rfl) (by decide) (fun K hK => ?_)
          refine gs_ Try.func90 #[.agg #[.int .i64 tx, .int .i64 ty, .int .i64 tz]] ?_
          with_reducible refine (HGB.out _).mono ?_
          rintro en wz ⟨rfl, hb⟩
          have HP := Lh ((hb.block _ (blk_lt HP.out)).trans HP.out)
          have HQ := Lh ((hb.block _ (blk_lt HQ.out)).trans HQ.out)
          have HB := Lh (HB.out.trans (hb.mono HB.out.size))
          clear hb
          refine ⟨_, rfl, ?_⟩
          refine hK.out _ _ ⟨(HB.out.cell (p := ⟨w.heap.size, 0, none⟩) (xl)).trans x0, (HB.out.cell (p := ⟨w.heap.size, 1, none⟩) (xl)).trans x1, (HB.out.cell (p := ⟨w.heap.size, 2, none⟩) (xl)).trans x2, (HB.out.cell (p := ⟨w.heap.size + 1, 0, none⟩) (yl)).trans y0, (HB.out.cell (p := ⟨w.heap.size + 1, 1, none⟩) (yl)).trans y1, (HB.out.cell (p := ⟨w.heap.size + 1, 2, none⟩) (yl)).trans y2⟩ (fun hHeld => ?_)
          clear hK K
          refine norm_ (a' := ?_) ?_ ?_
          rotate_left
          · show Act.put _ (some 25) _ = _
            simp only [Act.put, List.setIfInBounds_toArray, List.set_cons_zero, List.set_cons_succ, i64_w, i32_w]
            rfl
          exact norm_ (by simp only [putAll, Act.put, List.setIfInBounds_toArray, List.set_cons_zero, List.set_cons_succ]) (hCont (_, _) _ ⟨gP, gQ, hne, HP.out, HQ.out, HB.out⟩)
    · skip
      refine value_ (w1 := ?_) (v := ?_) (by rfl) rfl ?_ ?_
      rotate_left 2
      · go_simp
        constructor
        · rfl
        · rfl
      have HP := Lh (ha_new HB.out (.cells #[.int .i64 0, .int .i64 0, .int .i64 0] 23))
      have gP := HB.out.size
      have HB := Lh (HB.out.alloc (Nat.le_trans (Nat.le_refl _) HB.out.size) (.cells #[.int .i64 0, .int .i64 0, .int .i64 0] 23))
      refine hK.out _ _ ⟨(HB.out.cell (p := ⟨w.heap.size, 0, none⟩) (xl)).trans x0, (HB.out.cell (p := ⟨w.heap.size, 1, none⟩) (xl)).trans x1, (HB.out.cell (p := ⟨w.heap.size, 2, none⟩) (xl)).trans x2, (HB.out.cell (p := ⟨w.heap.size + 1, 0, none⟩) (yl)).trans y0, (HB.out.cell (p := ⟨w.heap.size + 1, 1, none⟩) (yl)).trans y1, (HB.out.cell (p := ⟨w.heap.size + 1, 2, none⟩) (yl)).trans y2⟩ (fun hHeld => ?_)
      clear hK K
      refine norm_ (a' := ?_) ?_ ?_
      rotate_left
      · show Act.put _ (some 12) _ = _
        simp only [Act.put, List.setIfInBounds_toArray, List.set_cons_zero, List.set_cons_succ, i64_w, i32_w]
        rfl
      refine two_ (i := 1) (j := 5) (Ni := some 23) (Nj := some 13) #[true, true, true, false, true, false, false, false] #[true, false, true, false, true, true, false, false] rfl rfl rfl rfl (by kernel_rfl) (by decide) (by decide) (fun K hK => ?_) (fun K hK => ?_)
      · skip
        refine gs_ Try.func90 #[.agg #[.int .i64 ax, .int .i64 ay, .int .i64 az]] ?_
        with_reducible refine (HGA.out _).mono ?_
        rintro en wz ⟨rfl, hb⟩
        have HP := Lh ((hb.block _ (blk_lt HP.out)).trans HP.out)
        have HB := Lh (HB.out.trans (hb.mono HB.out.size))
        clear hb
        refine ⟨_, rfl, ?_⟩
        refine hK.out _ _ ⟨(HB.out.cell (p := ⟨w.heap.size, 0, none⟩) (xl)).trans x0, (HB.out.cell (p := ⟨w.heap.size, 1, none⟩) (xl)).trans x1, (HB.out.cell (p := ⟨w.heap.size, 2, none⟩) (xl)).trans x2, (HB.out.cell (p := ⟨w.heap.size + 1, 0, none⟩) (yl)).trans y0, (HB.out.cell (p := ⟨w.heap.size + 1, 1, none⟩) (yl)).trans y1, (HB.out.cell (p := ⟨w.heap.size + 1, 2, none⟩) (yl)).trans y2⟩ (fun hHeld => ?_)
        clear hK K
        refine norm_ (a' := ?_) ?_ ?_
        rotate_left
        · show Act.put _ (some 23) _ = _
          simp only [Act.put, List.setIfInBounds_toArray, List.set_cons_zero, List.set_cons_succ, i64_w, i32_w]
          rfl
        refine two_ (i := 3) (j := 5) (Ni := some 25) (Nj := some 13) #[true, true, true, true, true, false, false, false] #[true, true, true, false, true, true, false, false] rfl rfl rfl rfl (by kernel_rfl) (by decide) (by decide) (fun K hK => ?_) (fun K hK => ?_)
        · skip
          refine gs_ Try.func90 #[.agg #[.int .i64 tx, .int .i64 ty, .int .i64 tz]] ?_
          with_reducible refine (HGB.out _).mono ?_
          rintro en wz ⟨rfl, hb⟩
          have HP := Lh ((hb.block _ (blk_lt HP.out)).trans HP.out)
          have HB := Lh (HB.out.trans (hb.mono HB.out.size))
          clear hb
          refine ⟨_, rfl, ?_⟩
          refine hK.out _ _ ⟨(HB.out.cell (p := ⟨w.heap.size, 0, none⟩) (xl)).trans x0, (HB.out.cell (p := ⟨w.heap.size, 1, none⟩) (xl)).trans x1, (HB.out.cell (p := ⟨w.heap.size, 2, none⟩) (xl)).trans x2, (HB.out.cell (p := ⟨w.heap.size + 1, 0, none⟩) (yl)).trans y0, (HB.out.cell (p := ⟨w.heap.size + 1, 1, none⟩) (yl)).trans y1, (HB.out.cell (p := ⟨w.heap.size + 1, 2, none⟩) (yl)).trans y2⟩ (fun hHeld => ?_)
          clear hK K
          refine norm_ (a' := ?_) ?_ ?_
          rotate_left
          · show Act.put _ (some 25) _ = _
            simp only [Act.put, List.setIfInBounds_toArray, List.set_cons_zero, List.set_cons_succ, i64_w, i32_w]
            rfl
          refine one_ (i := 5) (N := some 13) #[true, true, true, true, true, true, false, false] rfl rfl (by kernel_rfl) (by decide) (fun K hK => ?_)
          refine value_ (w1 := ?_) (v := ?_) (by rfl) rfl ?_ ?_
          rotate_left 2
          · go_simp
            constructor
            · rfl
            · rfl
          have HQ := Lh (ha_new HB.out (.cells #[.int .i64 0, .int .i64 0, .int .i64 0] 23))
          have gQ := HB.out.size
          have hne := Nat.ne_of_lt (blk_lt HP.out)
          have HP := Lh ((Below.heap_alloc _ (.cells #[.int .i64 0, .int .i64 0, .int .i64 0] 23) _ (blk_lt HP.out)).trans HP.out)
          have HB := Lh (HB.out.alloc (Nat.le_trans (Nat.le_refl _) HB.out.size) (.cells #[.int .i64 0, .int .i64 0, .int .i64 0] 23))
          (try simp only [World.size_alloc] at HQ gQ hne)
          refine hK.out _ _ ⟨(HB.out.cell (p := ⟨w.heap.size, 0, none⟩) (xl)).trans x0, (HB.out.cell (p := ⟨w.heap.size, 1, none⟩) (xl)).trans x1, (HB.out.cell (p := ⟨w.heap.size, 2, none⟩) (xl)).trans x2, (HB.out.cell (p := ⟨w.heap.size + 1, 0, none⟩) (yl)).trans y0, (HB.out.cell (p := ⟨w.heap.size + 1, 1, none⟩) (yl)).trans y1, (HB.out.cell (p := ⟨w.heap.size + 1, 2, none⟩) (yl)).trans y2⟩ (fun hHeld => ?_)
          clear hK K
          refine norm_ (a' := ?_) ?_ ?_
          rotate_left
          · show Act.put _ (some 13) _ = _
            simp only [Act.put, List.setIfInBounds_toArray, List.set_cons_zero, List.set_cons_succ, i64_w, i32_w]
            rfl
          exact norm_ (by simp only [putAll, Act.put, List.setIfInBounds_toArray, List.set_cons_zero, List.set_cons_succ]) (hCont (_, _) _ ⟨gP, gQ, hne, HP.out, HQ.out, HB.out⟩)
        · skip
          refine value_ (w1 := ?_) (v := ?_) (by rfl) rfl ?_ ?_
          rotate_left 2
          · go_simp
            constructor
            · rfl
            · rfl
          have HQ := Lh (ha_new HB.out (.cells #[.int .i64 0, .int .i64 0, .int .i64 0] 23))
          have gQ := HB.out.size
          have hne := Nat.ne_of_lt (blk_lt HP.out)
          have HP := Lh ((Below.heap_alloc _ (.cells #[.int .i64 0, .int .i64 0, .int .i64 0] 23) _ (blk_lt HP.out)).trans HP.out)
          have HB := Lh (HB.out.alloc (Nat.le_trans (Nat.le_refl _) HB.out.size) (.cells #[.int .i64 0, .int .i64 0, .int .i64 0] 23))
          (try simp only [World.size_alloc] at HQ gQ hne)
          refine hK.out _ _ ⟨(HB.out.cell (p := ⟨w.heap.size, 0, none⟩) (xl)).trans x0, (HB.out.cell (p := ⟨w.heap.size, 1, none⟩) (xl)).trans x1, (HB.out.cell (p := ⟨w.heap.size, 2, none⟩) (xl)).trans x2, (HB.out.cell (p := ⟨w.heap.size + 1, 0, none⟩) (yl)).trans y0, (HB.out.cell (p := ⟨w.heap.size + 1, 1, none⟩) (yl)).trans y1, (HB.out.cell (p := ⟨w.heap.size + 1, 2, none⟩) (yl)).trans y2⟩ (fun hHeld => ?_)
          clear hK K
          refine norm_ (a' := ?_) ?_ ?_
          rotate_left
          · show Act.put _ (some 13) _ = _
            simp only [Act.put, List.setIfInBounds_toArray, List.set_cons_zero, List.set_cons_succ, i64_w, i32_w]
            rfl
          refine one_ (i := 3) (N := some 25) #[true, true, true, true, true, true, false, false] rfl rfl (by kernel_rfl) (by decide) (fun K hK => ?_)
          refine gs_ Try.func90 #[.agg #[.int .i64 tx, .int .i64 ty, .int .i64 tz]] ?_
          with_reducible refine (HGB.out _).mono ?_
          rintro en wz ⟨rfl, hb⟩
          have HP := Lh ((hb.block _ (blk_lt HP.out)).trans HP.out)
          have HQ := Lh ((hb.block _ (blk_lt HQ.out)).trans HQ.out)
          have HB := Lh (HB.out.trans (hb.mono HB.out.size))
          clear hb
          refine ⟨_, rfl, ?_⟩
          refine hK.out _ _ ⟨(HB.out.cell (p := ⟨w.heap.size, 0, none⟩) (xl)).trans x0, (HB.out.cell (p := ⟨w.heap.size, 1, none⟩) (xl)).trans x1, (HB.out.cell (p := ⟨w.heap.size, 2, none⟩) (xl)).trans x2, (HB.out.cell (p := ⟨w.heap.size + 1, 0, none⟩) (yl)).trans y0, (HB.out.cell (p := ⟨w.heap.size + 1, 1, none⟩) (yl)).trans y1, (HB.out.cell (p := ⟨w.heap.size + 1, 2, none⟩) (yl)).trans y2⟩ (fun hHeld => ?_)
          clear hK K
          refine norm_ (a' := ?_) ?_ ?_
          rotate_left
          · show Act.put _ (some 25) _ = _
            simp only [Act.put, List.setIfInBounds_toArray, List.set_cons_zero, List.set_cons_succ, i64_w, i32_w]
            rfl
          exact norm_ (by simp only [putAll, Act.put, List.setIfInBounds_toArray, List.set_cons_zero, List.set_cons_succ]) (hCont (_, _) _ ⟨gP, gQ, hne, HP.out, HQ.out, HB.out⟩)
      · skip
        refine value_ (w1 := ?_) (v := ?_) (by rfl) rfl ?_ ?_
        rotate_left 2
        · go_simp
          constructor
          · rfl
          · rfl
        have HQ := Lh (ha_new HB.out (.cells #[.int .i64 0, .int .i64 0, .int .i64 0] 23))
        have gQ := HB.out.size
        have hne := Nat.ne_of_lt (blk_lt HP.out)
        have HP := Lh ((Below.heap_alloc _ (.cells #[.int .i64 0, .int .i64 0, .int .i64 0] 23) _ (blk_lt HP.out)).trans HP.out)
        have HB := Lh (HB.out.alloc (Nat.le_trans (Nat.le_refl _) HB.out.size) (.cells #[.int .i64 0, .int .i64 0, .int .i64 0] 23))
        (try simp only [World.size_alloc] at HQ gQ hne)
        refine hK.out _ _ ⟨(HB.out.cell (p := ⟨w.heap.size, 0, none⟩) (xl)).trans x0, (HB.out.cell (p := ⟨w.heap.size, 1, none⟩) (xl)).trans x1, (HB.out.cell (p := ⟨w.heap.size, 2, none⟩) (xl)).trans x2, (HB.out.cell (p := ⟨w.heap.size + 1, 0, none⟩) (yl)).trans y0, (HB.out.cell (p := ⟨w.heap.size + 1, 1, none⟩) (yl)).trans y1, (HB.out.cell (p := ⟨w.heap.size + 1, 2, none⟩) (yl)).trans y2⟩ (fun hHeld => ?_)
        clear hK K
        refine norm_ (a' := ?_) ?_ ?_
        rotate_left
        · show Act.put _ (some 13) _ = _
          simp only [Act.put, List.setIfInBounds_toArray, List.set_cons_zero, List.set_cons_succ, i64_w, i32_w]
          rfl
        refine one_ (i := 1) (N := some 23) #[true, true, true, false, true, true, false, false] rfl rfl (by kernel_rfl) (by decide) (fun K hK => ?_)
        refine gs_ Try.func90 #[.agg #[.int .i64 ax, .int .i64 ay, .int .i64 az]] ?_
        with_reducible refine (HGA.out _).mono ?_
        rintro en wz ⟨rfl, hb⟩
        have HP := Lh ((hb.block _ (blk_lt HP.out)).trans HP.out)
        have HQ := Lh ((hb.block _ (blk_lt HQ.out)).trans HQ.out)
        have HB := Lh (HB.out.trans (hb.mono HB.out.size))
        clear hb
        refine ⟨_, rfl, ?_⟩
        refine hK.out _ _ ⟨(HB.out.cell (p := ⟨w.heap.size, 0, none⟩) (xl)).trans x0, (HB.out.cell (p := ⟨w.heap.size, 1, none⟩) (xl)).trans x1, (HB.out.cell (p := ⟨w.heap.size, 2, none⟩) (xl)).trans x2, (HB.out.cell (p := ⟨w.heap.size + 1, 0, none⟩) (yl)).trans y0, (HB.out.cell (p := ⟨w.heap.size + 1, 1, none⟩) (yl)).trans y1, (HB.out.cell (p := ⟨w.heap.size + 1, 2, none⟩) (yl)).trans y2⟩ (fun hHeld => ?_)
        clear hK K
        refine norm_ (a' := ?_) ?_ ?_
        rotate_left
        · show Act.put _ (some 23) _ = _
          simp only [Act.put, List.setIfInBounds_toArray, List.set_cons_zero, List.set_cons_succ, i64_w, i32_w]
          rfl
        refine one_ (i := 3) (N := some 25) #[true, true, true, true, true, true, false, false] rfl rfl (by kernel_rfl) (by decide) (fun K hK => ?_)
        refine gs_ Try.func90 #[.agg #[.int .i64 tx, .int .i64 ty, .int .i64 tz]] ?_
        with_reducible refine (HGB.out _).mono ?_
        rintro en wz ⟨rfl, hb⟩
        have HP := Lh ((hb.block _ (blk_lt HP.out)).trans HP.out)
        have HQ := Lh ((hb.block _ (blk_lt HQ.out)).trans HQ.out)
        have HB := Lh (HB.out.trans (hb.mono HB.out.size))
        clear hb
        refine ⟨_, rfl, ?_⟩
        refine hK.out _ _ ⟨(HB.out.cell (p := ⟨w.heap.size, 0, none⟩) (xl)).trans x0, (HB.out.cell (p := ⟨w.heap.size, 1, none⟩) (xl)).trans x1, (HB.out.cell (p := ⟨w.heap.size, 2, none⟩) (xl)).trans x2, (HB.out.cell (p := ⟨w.heap.size + 1, 0, none⟩) (yl)).trans y0, (HB.out.cell (p := ⟨w.heap.size + 1, 1, none⟩) (yl)).trans y1, (HB.out.cell (p := ⟨w.heap.size + 1, 2, none⟩) (yl)).trans y2⟩ (fun hHeld => ?_)
        clear hK K
        refine norm_ (a' := ?_) ?_ ?_
        rotate_left
        · show Act.put _ (some 25) _ = _
          simp only [Act.put, List.setIfInBounds_toArray, List.set_cons_zero, List.set_cons_succ, i64_w, i32_w]
          rfl
        exact norm_ (by simp only [putAll, Act.put, List.setIfInBounds_toArray, List.set_cons_zero, List.set_cons_succ]) (hCont (_, _) _ ⟨gP, gQ, hne, HP.out, HQ.out, HB.out⟩)
    · skip
      refine value_ (w1 := ?_) (v := ?_) (by rfl) rfl ?_ ?_
      rotate_left 2
      · go_simp
        constructor
        · rfl
        · rfl
      have HQ := Lh (ha_new HB.out (.cells #[.int .i64 0, .int .i64 0, .int .i64 0] 23))
      have gQ := HB.out.size
      have HB := Lh (HB.out.alloc (Nat.le_trans (Nat.le_refl _) HB.out.size) (.cells #[.int .i64 0, .int .i64 0, .int .i64 0] 23))
      refine hK.out _ _ ⟨(HB.out.cell (p := ⟨w.heap.size, 0, none⟩) (xl)).trans x0, (HB.out.cell (p := ⟨w.heap.size, 1, none⟩) (xl)).trans x1, (HB.out.cell (p := ⟨w.heap.size, 2, none⟩) (xl)).trans x2, (HB.out.cell (p := ⟨w.heap.size + 1, 0, none⟩) (yl)).trans y0, (HB.out.cell (p := ⟨w.heap.size + 1, 1, none⟩) (yl)).trans y1, (HB.out.cell (p := ⟨w.heap.size + 1, 2, none⟩) (yl)).trans y2⟩ (fun hHeld => ?_)
      clear hK K
      refine norm_ (a' := ?_) ?_ ?_
      rotate_left
      · show Act.put _ (some 13) _ = _
        simp only [Act.put, List.setIfInBounds_toArray, List.set_cons_zero, List.set_cons_succ, i64_w, i32_w]
        rfl
      refine two_ (i := 1) (j := 4) (Ni := some 23) (Nj := some 12) #[true, true, true, false, false, true, false, false] #[true, false, true, false, true, true, false, false] rfl rfl rfl rfl (by kernel_rfl) (by decide) (by decide) (fun K hK => ?_) (fun K hK => ?_)
      · skip
        refine gs_ Try.func90 #[.agg #[.int .i64 ax, .int .i64 ay, .int .i64 az]] ?_
        with_reducible refine (HGA.out _).mono ?_
        rintro en wz ⟨rfl, hb⟩
        have HQ := Lh ((hb.block _ (blk_lt HQ.out)).trans HQ.out)
        have HB := Lh (HB.out.trans (hb.mono HB.out.size))
        clear hb
        refine ⟨_, rfl, ?_⟩
        refine hK.out _ _ ⟨(HB.out.cell (p := ⟨w.heap.size, 0, none⟩) (xl)).trans x0, (HB.out.cell (p := ⟨w.heap.size, 1, none⟩) (xl)).trans x1, (HB.out.cell (p := ⟨w.heap.size, 2, none⟩) (xl)).trans x2, (HB.out.cell (p := ⟨w.heap.size + 1, 0, none⟩) (yl)).trans y0, (HB.out.cell (p := ⟨w.heap.size + 1, 1, none⟩) (yl)).trans y1, (HB.out.cell (p := ⟨w.heap.size + 1, 2, none⟩) (yl)).trans y2⟩ (fun hHeld => ?_)
        clear hK K
        refine norm_ (a' := ?_) ?_ ?_
        rotate_left
        · show Act.put _ (some 23) _ = _
          simp only [Act.put, List.setIfInBounds_toArray, List.set_cons_zero, List.set_cons_succ, i64_w, i32_w]
          rfl
        refine two_ (i := 3) (j := 4) (Ni := some 25) (Nj := some 12) #[true, true, true, true, false, true, false, false] #[true, true, true, false, true, true, false, false] rfl rfl rfl rfl (by kernel_rfl) (by decide) (by decide) (fun K hK => ?_) (fun K hK => ?_)
        · skip
          refine gs_ Try.func90 #[.agg #[.int .i64 tx, .int .i64 ty, .int .i64 tz]] ?_
          with_reducible refine (HGB.out _).mono ?_
          rintro en wz ⟨rfl, hb⟩
          have HQ := Lh ((hb.block _ (blk_lt HQ.out)).trans HQ.out)
          have HB := Lh (HB.out.trans (hb.mono HB.out.size))
          clear hb
          refine ⟨_, rfl, ?_⟩
          refine hK.out _ _ ⟨(HB.out.cell (p := ⟨w.heap.size, 0, none⟩) (xl)).trans x0, (HB.out.cell (p := ⟨w.heap.size, 1, none⟩) (xl)).trans x1, (HB.out.cell (p := ⟨w.heap.size, 2, none⟩) (xl)).trans x2, (HB.out.cell (p := ⟨w.heap.size + 1, 0, none⟩) (yl)).trans y0, (HB.out.cell (p := ⟨w.heap.size + 1, 1, none⟩) (yl)).trans y1, (HB.out.cell (p := ⟨w.heap.size + 1, 2, none⟩) (yl)).trans y2⟩ (fun hHeld => ?_)
          clear hK K
          refine norm_ (a' := ?_) ?_ ?_
          rotate_left
          · show Act.put _ (some 25) _ = _
            simp only [Act.put, List.setIfInBounds_toArray, List.set_cons_zero, List.set_cons_succ, i64_w, i32_w]
            rfl
          refine one_ (i := 4) (N := some 12) #[true, true, true, true, true, true, false, false] rfl rfl (by kernel_rfl) (by decide) (fun K hK => ?_)
          refine value_ (w1 := ?_) (v := ?_) (by rfl) rfl ?_ ?_
          rotate_left 2
          · go_simp
            constructor
            · rfl
            · rfl
          have HP := Lh (ha_new HB.out (.cells #[.int .i64 0, .int .i64 0, .int .i64 0] 23))
          have gP := HB.out.size
          have hne := Nat.ne_of_gt (blk_lt HQ.out)
          have HQ := Lh ((Below.heap_alloc _ (.cells #[.int .i64 0, .int .i64 0, .int .i64 0] 23) _ (blk_lt HQ.out)).trans HQ.out)
          have HB := Lh (HB.out.alloc (Nat.le_trans (Nat.le_refl _) HB.out.size) (.cells #[.int .i64 0, .int .i64 0, .int .i64 0] 23))
          (try simp only [World.size_alloc] at HP gP hne)
          refine hK.out _ _ ⟨(HB.out.cell (p := ⟨w.heap.size, 0, none⟩) (xl)).trans x0, (HB.out.cell (p := ⟨w.heap.size, 1, none⟩) (xl)).trans x1, (HB.out.cell (p := ⟨w.heap.size, 2, none⟩) (xl)).trans x2, (HB.out.cell (p := ⟨w.heap.size + 1, 0, none⟩) (yl)).trans y0, (HB.out.cell (p := ⟨w.heap.size + 1, 1, none⟩) (yl)).trans y1, (HB.out.cell (p := ⟨w.heap.size + 1, 2, none⟩) (yl)).trans y2⟩ (fun hHeld => ?_)
          clear hK K
          refine norm_ (a' := ?_) ?_ ?_
          rotate_left
          · show Act.put _ (some 12) _ = _
            simp only [Act.put, List.setIfInBounds_toArray, List.set_cons_zero, List.set_cons_succ, i64_w, i32_w]
            rfl
          exact norm_ (by simp only [putAll, Act.put, List.setIfInBounds_toArray, List.set_cons_zero, List.set_cons_succ]) (hCont (_, _) _ ⟨gP, gQ, hne, HP.out, HQ.out, HB.out⟩)
        · skip
          refine value_ (w1 := ?_) (v := ?_) (by rfl) rfl ?_ ?_
          rotate_left 2
          · go_simp
            constructor
            · rfl
            · rfl
          have HP := Lh (ha_new HB.out (.cells #[.int .i64 0, .int .i64 0, .int .i64 0] 23))
          have gP := HB.out.size
          have hne := Nat.ne_of_gt (blk_lt HQ.out)
          have HQ := Lh ((Below.heap_alloc _ (.cells #[.int .i64 0, .int .i64 0, .int .i64 0] 23) _ (blk_lt HQ.out)).trans HQ.out)
          have HB := Lh (HB.out.alloc (Nat.le_trans (Nat.le_refl _) HB.out.size) (.cells #[.int .i64 0, .int .i64 0, .int .i64 0] 23))
          (try simp only [World.size_alloc] at HP gP hne)
          refine hK.out _ _ ⟨(HB.out.cell (p := ⟨w.heap.size, 0, none⟩) (xl)).trans x0, (HB.out.cell (p := ⟨w.heap.size, 1, none⟩) (xl)).trans x1, (HB.out.cell (p := ⟨w.heap.size, 2, none⟩) (xl)).trans x2, (HB.out.cell (p := ⟨w.heap.size + 1, 0, none⟩) (yl)).trans y0, (HB.out.cell (p := ⟨w.heap.size + 1, 1, none⟩) (yl)).trans y1, (HB.out.cell (p := ⟨w.heap.size + 1, 2, none⟩) (yl)).trans y2⟩ (fun hHeld => ?_)
          clear hK K
          refine norm_ (a' := ?_) ?_ ?_
          rotate_left
          · show Act.put _ (some 12) _ = _
            simp only [Act.put, List.setIfInBounds_toArray, List.set_cons_zero, List.set_cons_succ, i64_w, i32_w]
            rfl
          refine one_ (i := 3) (N := some 25) #[true, true, true, true, true, true, false, false] rfl rfl (by kernel_rfl) (by decide) (fun K hK => ?_)
          refine gs_ Try.func90 #[.agg #[.int .i64 tx, .int .i64 ty, .int .i64 tz]] ?_
          with_reducible refine (HGB.out _).mono ?_
          rintro en wz ⟨rfl, hb⟩
          have HP := Lh ((hb.block _ (blk_lt HP.out)).trans HP.out)
          have HQ := Lh ((hb.block _ (blk_lt HQ.out)).trans HQ.out)
          have HB := Lh (HB.out.trans (hb.mono HB.out.size))
          clear hb
          refine ⟨_, rfl, ?_⟩
          refine hK.out _ _ ⟨(HB.out.cell (p := ⟨w.heap.size, 0, none⟩) (xl)).trans x0, (HB.out.cell (p := ⟨w.heap.size, 1, none⟩) (xl)).trans x1, (HB.out.cell (p := ⟨w.heap.size, 2, none⟩) (xl)).trans x2, (HB.out.cell (p := ⟨w.heap.size + 1, 0, none⟩) (yl)).trans y0, (HB.out.cell (p := ⟨w.heap.size + 1, 1, none⟩) (yl)).trans y1, (HB.out.cell (p := ⟨w.heap.size + 1, 2, none⟩) (yl)).trans y2⟩ (fun hHeld => ?_)
          clear hK K
          refine norm_ (a' := ?_) ?_ ?_
          rotate_left
          · show Act.put _ (some 25) _ = _
            simp only [Act.put, List.setIfInBounds_toArray, List.set_cons_zero, List.set_cons_succ, i64_w, i32_w]
            rfl
          exact norm_ (by simp only [putAll, Act.put, List.setIfInBounds_toArray, List.set_cons_zero, List.set_cons_succ]) (hCont (_, _) _ ⟨gP, gQ, hne, HP.out, HQ.out, HB.out⟩)
      · skip
        refine value_ (w1 := ?_) (v := ?_) (by rfl) rfl ?_ ?_
        rotate_left 2
        · go_simp
          constructor
          · rfl
          · rfl
        have HP := Lh (ha_new HB.out (.cells #[.int .i64 0, .int .i64 0, .int .i64 0] 23))
        have gP := HB.out.size
        have hne := Nat.ne_of_gt (blk_lt HQ.out)
        have HQ := Lh ((Below.heap_alloc _ (.cells #[.int .i64 0, .int .i64 0, .int .i64 0] 23) _ (blk_lt HQ.out)).trans HQ.out)
        have HB := Lh (HB.out.alloc (Nat.le_trans (Nat.le_refl _) HB.out.size) (.cells #[.int .i64 0, .int .i64 0, .int .i64 0] 23))
        (try simp only [World.size_alloc] at HP gP hne)
        refine hK.out _ _ ⟨(HB.out.cell (p := ⟨w.heap.size, 0, none⟩) (xl)).trans x0, (HB.out.cell (p := ⟨w.heap.size, 1, none⟩) (xl)).trans x1, (HB.out.cell (p := ⟨w.heap.size, 2, none⟩) (xl)).trans x2, (HB.out.cell (p := ⟨w.heap.size + 1, 0, none⟩) (yl)).trans y0, (HB.out.cell (p := ⟨w.heap.size + 1, 1, none⟩) (yl)).trans y1, (HB.out.cell (p := ⟨w.heap.size + 1, 2, none⟩) (yl)).trans y2⟩ (fun hHeld => ?_)
        clear hK K
        refine norm_ (a' := ?_) ?_ ?_
        rotate_left
        · show Act.put _ (some 12) _ = _
          simp only [Act.put, List.setIfInBounds_toArray, List.set_cons_zero, List.set_cons_succ, i64_w, i32_w]
          rfl
        refine one_ (i := 1) (N := some 23) #[true, true, true, false, true, true, false, false] rfl rfl (by kernel_rfl) (by decide) (fun K hK => ?_)
        refine gs_ Try.func90 #[.agg #[.int .i64 ax, .int .i64 ay, .int .i64 az]] ?_
        with_reducible refine (HGA.out _).mono ?_
        rintro en wz ⟨rfl, hb⟩
        have HP := Lh ((hb.block _ (blk_lt HP.out)).trans HP.out)
        have HQ := Lh ((hb.block _ (blk_lt HQ.out)).trans HQ.out)
        have HB := Lh (HB.out.trans (hb.mono HB.out.size))
        clear hb
        refine ⟨_, rfl, ?_⟩
        refine hK.out _ _ ⟨(HB.out.cell (p := ⟨w.heap.size, 0, none⟩) (xl)).trans x0, (HB.out.cell (p := ⟨w.heap.size, 1, none⟩) (xl)).trans x1, (HB.out.cell (p := ⟨w.heap.size, 2, none⟩) (xl)).trans x2, (HB.out.cell (p := ⟨w.heap.size + 1, 0, none⟩) (yl)).trans y0, (HB.out.cell (p := ⟨w.heap.size + 1, 1, none⟩) (yl)).trans y1, (HB.out.cell (p := ⟨w.heap.size + 1, 2, none⟩) (yl)).trans y2⟩ (fun hHeld => ?_)
        clear hK K
        refine norm_ (a' := ?_) ?_ ?_
        rotate_left
        · show Act.put _ (some 23) _ = _
          simp only [Act.put, List.setIfInBounds_toArray, List.set_cons_zero, List.set_cons_succ, i64_w, i32_w]
          rfl
        refine one_ (i := 3) (N := some 25) #[true, true, true, true, true, true, false, false] rfl rfl (by kernel_rfl) (by decide) (fun K hK => ?_)
        refine gs_ Try.func90 #[.agg #[.int .i64 tx, .int .i64 ty, .int .i64 tz]] ?_
        with_reducible refine (HGB.out _).mono ?_
        rintro en wz ⟨rfl, hb⟩
        have HP := Lh ((hb.block _ (blk_lt HP.out)).trans HP.out)
        have HQ := Lh ((hb.block _ (blk_lt HQ.out)).trans HQ.out)
        have HB := Lh (HB.out.trans (hb.mono HB.out.size))
        clear hb
        refine ⟨_, rfl, ?_⟩
        refine hK.out _ _ ⟨(HB.out.cell (p := ⟨w.heap.size, 0, none⟩) (xl)).trans x0, (HB.out.cell (p := ⟨w.heap.size, 1, none⟩) (xl)).trans x1, (HB.out.cell (p := ⟨w.heap.size, 2, none⟩) (xl)).trans x2, (HB.out.cell (p := ⟨w.heap.size + 1, 0, none⟩) (yl)).trans y0, (HB.out.cell (p := ⟨w.heap.size + 1, 1, none⟩) (yl)).trans y1, (HB.out.cell (p := ⟨w.heap.size + 1, 2, none⟩) (yl)).trans y2⟩ (fun hHeld => ?_)
        clear hK K
        refine norm_ (a' := ?_) ?_ ?_
        rotate_left
        · show Act.put _ (some 25) _ = _
          simp only [Act.put, List.setIfInBounds_toArray, List.set_cons_zero, List.set_cons_succ, i64_w, i32_w]
          rfl
        exact norm_ (by simp only [putAll, Act.put, List.setIfInBounds_toArray, List.set_cons_zero, List.set_cons_succ]) (hCont (_, _) _ ⟨gP, gQ, hne, HP.out, HQ.out, HB.out⟩)
  rintro ⟨AP, AQ⟩ wj ⟨gP, gQ, hne, HP, HQ, HB⟩
  (try simp only at gP gQ hne HP HQ HB)
  have HP := Lh HP
  have HQ := Lh HQ
  have HB := Lh HB
  have hHeld : wj.cell? ⟨w.heap.size, 0, none⟩ = some (.int .i64 ax) ∧ wj.cell? ⟨w.heap.size, 1, none⟩ = some (.int .i64 ay) ∧ wj.cell? ⟨w.heap.size, 2, none⟩ = some (.int .i64 az) ∧ wj.cell? ⟨w.heap.size + 1, 0, none⟩ = some (.int .i64 tx) ∧ wj.cell? ⟨w.heap.size + 1, 1, none⟩ = some (.int .i64 ty) ∧ wj.cell? ⟨w.heap.size + 1, 2, none⟩ = some (.int .i64 tz) := ⟨(HB.out.cell (p := ⟨w.heap.size, 0, none⟩) (xl)).trans x0, (HB.out.cell (p := ⟨w.heap.size, 1, none⟩) (xl)).trans x1, (HB.out.cell (p := ⟨w.heap.size, 2, none⟩) (xl)).trans x2, (HB.out.cell (p := ⟨w.heap.size + 1, 0, none⟩) (yl)).trans y0, (HB.out.cell (p := ⟨w.heap.size + 1, 1, none⟩) (yl)).trans y1, (HB.out.cell (p := ⟨w.heap.size + 1, 2, none⟩) (yl)).trans y2⟩
  refine norm_ (a' := ?_) ?_ ?_
  rotate_left
  · simp only [putAll, Act.put, List.setIfInBounds_toArray, List.set_cons_zero, List.set_cons_succ]
    rfl
  refine one_ (i := 6) (N := none) #[true, true, true, true, true, true, true, false] rfl rfl (by kernel_rfl) (by decide) (fun K hK => ?_)
  have sc0 : World.cell? _ ⟨AP, 0, none⟩ = some (.int .i64 0) := (blk_cell HP.out 0).trans rfl
  have sf0 := blk_frozen HP.out 0
  have sc1 : World.cell? _ ⟨AP, 1, none⟩ = some (.int .i64 0) := (blk_cell HP.out 1).trans rfl
  have sf1 := blk_frozen HP.out 1
  have sc2 : World.cell? _ ⟨AP, 2, none⟩ = some (.int .i64 0) := (blk_cell HP.out 2).trans rfl
  have sf2 := blk_frozen HP.out 2
  refine skip_ (w1 := ?_) (by rfl) rfl ?_ ?_
  rotate_left
  · go_simp
    rfl
  have HQ := Lh ((bo3 (Ne.symm hne) (.int .i64 px) (.int .i64 py) (.int .i64 pz)).trans HQ.out)
  have HP := Lh (bs3 HP.out (.int .i64 px) (.int .i64 py) (.int .i64 pz))
  have HB := Lh (bb3 HB.out gP (.int .i64 px) (.int .i64 py) (.int .i64 pz))
  clear sc0 sc1 sc2 sf0 sf1 sf2
  refine hK.out _ _ ⟨(HB.out.cell (p := ⟨w.heap.size, 0, none⟩) (xl)).trans x0, (HB.out.cell (p := ⟨w.heap.size, 1, none⟩) (xl)).trans x1, (HB.out.cell (p := ⟨w.heap.size, 2, none⟩) (xl)).trans x2, (HB.out.cell (p := ⟨w.heap.size + 1, 0, none⟩) (yl)).trans y0, (HB.out.cell (p := ⟨w.heap.size + 1, 1, none⟩) (yl)).trans y1, (HB.out.cell (p := ⟨w.heap.size + 1, 2, none⟩) (yl)).trans y2⟩ (fun hHeld => ?_)
  clear hK K
  refine one_ (i := 7) (N := none) #[true, true, true, true, true, true, true, true] rfl rfl (by kernel_rfl) (by decide) (fun K hK => ?_)
  have sc0 : World.cell? _ ⟨AQ, 0, none⟩ = some (.int .i64 0) := (blk_cell HQ.out 0).trans rfl
  have sf0 := blk_frozen HQ.out 0
  have sc1 : World.cell? _ ⟨AQ, 1, none⟩ = some (.int .i64 0) := (blk_cell HQ.out 1).trans rfl
  have sf1 := blk_frozen HQ.out 1
  have sc2 : World.cell? _ ⟨AQ, 2, none⟩ = some (.int .i64 0) := (blk_cell HQ.out 2).trans rfl
  have sf2 := blk_frozen HQ.out 2
  refine skip_ (w1 := ?_) (by rfl) rfl ?_ ?_
  rotate_left
  · go_simp
    rfl
  have HP := Lh ((bo3 (hne) (.int .i64 qx) (.int .i64 qy) (.int .i64 qz)).trans HP.out)
  have HQ := Lh (bs3 HQ.out (.int .i64 qx) (.int .i64 qy) (.int .i64 qz))
  have HB := Lh (bb3 HB.out gQ (.int .i64 qx) (.int .i64 qy) (.int .i64 qz))
  clear sc0 sc1 sc2 sf0 sf1 sf2
  refine hK.out _ _ ⟨(HB.out.cell (p := ⟨w.heap.size, 0, none⟩) (xl)).trans x0, (HB.out.cell (p := ⟨w.heap.size, 1, none⟩) (xl)).trans x1, (HB.out.cell (p := ⟨w.heap.size, 2, none⟩) (xl)).trans x2, (HB.out.cell (p := ⟨w.heap.size + 1, 0, none⟩) (yl)).trans y0, (HB.out.cell (p := ⟨w.heap.size + 1, 1, none⟩) (yl)).trans y1, (HB.out.cell (p := ⟨w.heap.size + 1, 2, none⟩) (yl)).trans y2⟩ (fun hHeld => ?_)
  clear hK K
  refine done_ (by kernel_rfl) ?_
  obtain ⟨wa, hwn⟩ : ∃ V, ((((((wj.setCell ⟨AP, 0, none⟩ (.int .i64 px)).setCell ⟨AP, 1, none⟩ (.int .i64 py)).setCell ⟨AP, 2, none⟩ (.int .i64 pz)).setCell ⟨AQ, 0, none⟩ (.int .i64 qx)).setCell ⟨AQ, 1, none⟩ (.int .i64 qy)).setCell ⟨AQ, 2, none⟩ (.int .i64 qz)) = V := ⟨_, rfl⟩
  rw [hwn] at HP HQ HB ⊢
  have hb := HB.out
  replace F := Lh ((hb.block _ (blk_lt F.out)).trans F.out)
  replace T := Lh ((hb.block _ (blk_lt T.out)).trans T.out)
  replace Z := Lh ((hb.block _ (blk_lt Z.out)).trans Z.out)
  replace W := Lh (bthen W.out hb)
  replace HL := Lh (HL.out.below hb)
  clear x0 x1 x2 xl y0 y1 y2 yl hwn hHeld HB hb hne gP gQ HGA HGB
  have p0 : wa.cell? ⟨AP, 0, none⟩ = some (.int .i64 px) := (blk_cell HP.out 0).trans rfl
  have p1 : wa.cell? ⟨AP, 1, none⟩ = some (.int .i64 py) := (blk_cell HP.out 1).trans rfl
  have p2 : wa.cell? ⟨AP, 2, none⟩ = some (.int .i64 pz) := (blk_cell HP.out 2).trans rfl
  have pl : AP < wa.heap.size := blk_lt HP.out
  have q0 : wa.cell? ⟨AQ, 0, none⟩ = some (.int .i64 qx) := (blk_cell HQ.out 0).trans rfl
  have q1 : wa.cell? ⟨AQ, 1, none⟩ = some (.int .i64 qy) := (blk_cell HQ.out 1).trans rfl
  have q2 : wa.cell? ⟨AQ, 2, none⟩ = some (.int .i64 qz) := (blk_cell HQ.out 2).trans rfl
  have ql : AQ < wa.heap.size := blk_lt HQ.out
  go_upto_region 3 with fail
  have bz := (((Below.refl wa.heap.size wa).alloc (Nat.le_refl _) (.cells #[.int .i64 px, .int .i64 py, .int .i64 pz] 23)).alloc (by simp) (.cells #[.slice (some ⟨wa.heap.size, 0, none⟩) 1 1, .slice none 0 0, .slice none 0 0, .int .i64 r] 36))
  have nz0 := heap_alloc_new wa (.cells #[.int .i64 px, .int .i64 py, .int .i64 pz] 23)
  replace nz0 := (Below.heap_alloc _ (.cells #[.slice (some ⟨wa.heap.size, 0, none⟩) 1 1, .slice none 0 0, .slice none 0 0, .int .i64 r] 36) _ (by simp <;> omega)).trans nz0
  have nz1 := heap_alloc_new (wa.alloc (.cells #[.int .i64 px, .int .i64 py, .int .i64 pz] 23)) (.cells #[.slice (some ⟨wa.heap.size, 0, none⟩) 1 1, .slice none 0 0, .slice none 0 0, .int .i64 r] 36)
  simp only [World.size_alloc] at nz1
  obtain ⟨w2, hwz⟩ : ∃ V, ((wa.alloc (.cells #[.int .i64 px, .int .i64 py, .int .i64 pz] 23)).alloc (.cells #[.slice (some ⟨wa.heap.size, 0, none⟩) 1 1, .slice none 0 0, .slice none 0 0, .int .i64 r] 36)) = V := ⟨_, rfl⟩
  rw [hwz] at bz nz0 nz1 ⊢
  replace F := Lh ((bz.block _ (blk_lt F.out)).trans F.out)
  replace T := Lh ((bz.block _ (blk_lt T.out)).trans T.out)
  replace Z := Lh ((bz.block _ (blk_lt Z.out)).trans Z.out)
  replace HP := Lh ((bz.block _ (blk_lt HP.out)).trans HP.out)
  replace HQ := Lh ((bz.block _ (blk_lt HQ.out)).trans HQ.out)
  replace HL := Lh (HL.out.below bz)
  replace W := Lh (bthen W.out bz)
  have HD := Lh nz0
  have HC := Lh nz1
  clear hwz bz nz0 nz1 p0 p1 p2 pl q0 q1 q2 ql
  have HV := Lh (show CrV w2 (.agg #[.slice (some ⟨wa.heap.size, 0, none⟩) 1 1, .slice none 0 0, .slice none 0 0, .int .i64 r]) ⟨[⟨px, py, pz⟩], [], [], r⟩ from ball_core w2 _ px py pz r 1 (Nat.le_refl _) HD.out)
  have p0 : w2.cell? ⟨AP, 0, none⟩ = some (.int .i64 px) := (blk_cell HP.out 0).trans rfl
  have p1 : w2.cell? ⟨AP, 1, none⟩ = some (.int .i64 py) := (blk_cell HP.out 1).trans rfl
  have p2 : w2.cell? ⟨AP, 2, none⟩ = some (.int .i64 pz) := (blk_cell HP.out 2).trans rfl
  have pl : AP < w2.heap.size := blk_lt HP.out
  have q0 : w2.cell? ⟨AQ, 0, none⟩ = some (.int .i64 qx) := (blk_cell HQ.out 0).trans rfl
  have q1 : w2.cell? ⟨AQ, 1, none⟩ = some (.int .i64 qy) := (blk_cell HQ.out 1).trans rfl
  have q2 : w2.cell? ⟨AQ, 2, none⟩ = some (.int .i64 qz) := (blk_cell HQ.out 2).trans rfl
  have ql : AQ < w2.heap.size := blk_lt HQ.out
  go_upto_region 4 with fail
  rw [EX.out, EY.out, EZ.out]
  have bz := ((Below.refl w2.heap.size w2).alloc (Nat.le_refl _) (.cells #[.int .i64 yx, .int .i64 yy, .int .i64 yz] 23))
  have nz0 := heap_alloc_new w2 (.cells #[.int .i64 yx, .int .i64 yy, .int .i64 yz] 23)
  obtain ⟨w3, hwz⟩ : ∃ V, (w2.alloc (.cells #[.int .i64 yx, .int .i64 yy, .int .i64 yz] 23)) = V := ⟨_, rfl⟩
  rw [hwz] at bz nz0 ⊢
  replace F := Lh ((bz.block _ (blk_lt F.out)).trans F.out)
  replace T := Lh ((bz.block _ (blk_lt T.out)).trans T.out)
  replace Z := Lh ((bz.block _ (blk_lt Z.out)).trans Z.out)
  replace HP := Lh ((bz.block _ (blk_lt HP.out)).trans HP.out)
  replace HQ := Lh ((bz.block _ (blk_lt HQ.out)).trans HQ.out)
  replace HD := Lh ((bz.block _ (blk_lt HD.out)).trans HD.out)
  replace HC := Lh ((bz.block _ (blk_lt HC.out)).trans HC.out)
  replace HL := Lh (HL.out.below bz)
  replace HV := Lh (HV.out.below bz)
  replace W := Lh (bthen W.out bz)
  have HY := Lh nz0
  clear hwz bz nz0 p0 p1 p2 pl q0 q1 q2 ql
  have c0 : w3.cell? ⟨wa.heap.size + 1, 0, none⟩ = some (.slice (some ⟨wa.heap.size, 0, none⟩) 1 1) := (blk_cell HC.out 0).trans rfl
  have c1 : w3.cell? ⟨wa.heap.size + 1, 1, none⟩ = some (.slice none 0 0) := (blk_cell HC.out 1).trans rfl
  have c2 : w3.cell? ⟨wa.heap.size + 1, 2, none⟩ = some (.slice none 0 0) := (blk_cell HC.out 2).trans rfl
  have c3 : w3.cell? ⟨wa.heap.size + 1, 3, none⟩ = some (.int .i64 r) := (blk_cell HC.out 3).trans rfl
  have cl : wa.heap.size + 1 < w3.heap.size := blk_lt HC.out
  go_wp2_with fail
  have bz := ((Below.refl w3.heap.size w3).alloc (Nat.le_refl _) (.cells #[.int .i64 0, .int .i64 0, .int .i64 0] 23))
  have nz0 := heap_alloc_new w3 (.cells #[.int .i64 0, .int .i64 0, .int .i64 0] 23)
  obtain ⟨w4, hwz⟩ : ∃ V, (w3.alloc (.cells #[.int .i64 0, .int .i64 0, .int .i64 0] 23)) = V := ⟨_, rfl⟩
  rw [hwz] at bz nz0 ⊢
  replace F := Lh ((bz.block _ (blk_lt F.out)).trans F.out)
  replace T := Lh ((bz.block _ (blk_lt T.out)).trans T.out)
  replace Z := Lh ((bz.block _ (blk_lt Z.out)).trans Z.out)
  replace HP := Lh ((bz.block _ (blk_lt HP.out)).trans HP.out)
  replace HQ := Lh ((bz.block _ (blk_lt HQ.out)).trans HQ.out)
  replace HD := Lh ((bz.block _ (blk_lt HD.out)).trans HD.out)
  replace HC := Lh ((bz.block _ (blk_lt HC.out)).trans HC.out)
  replace HY := Lh ((bz.block _ (blk_lt HY.out)).trans HY.out)
  replace HL := Lh (HL.out.below bz)
  replace HV := Lh (HV.out.below bz)
  replace W := Lh (bthen W.out bz)
  have HO := Lh nz0
  clear hwz bz nz0 c0 c1 c2 c3 cl
  have HOV := Lh (show CrV w4 (.agg #[.slice (some ⟨w3.heap.size, 0, none⟩) 1 1, .slice none 0 0, .slice none 0 0, .int .i64 0]) ⟨[⟨0, 0, 0⟩], [], [], 0⟩ from ball_core w4 _ 0 0 0 0 1 (Nat.le_refl _) HO.out)
  with_reducible refine (HAP.out w4 _ _ HV.out HOV.out).mono ?_
  rintro en w5 ⟨rfl, hb⟩
  replace F := Lh ((hb.block _ (blk_lt F.out)).trans F.out)
  replace T := Lh ((hb.block _ (blk_lt T.out)).trans T.out)
  replace Z := Lh ((hb.block _ (blk_lt Z.out)).trans Z.out)
  replace HP := Lh ((hb.block _ (blk_lt HP.out)).trans HP.out)
  replace HQ := Lh ((hb.block _ (blk_lt HQ.out)).trans HQ.out)
  replace HD := Lh ((hb.block _ (blk_lt HD.out)).trans HD.out)
  replace HC := Lh ((hb.block _ (blk_lt HC.out)).trans HC.out)
  replace HY := Lh ((hb.block _ (blk_lt HY.out)).trans HY.out)
  replace HO := Lh ((hb.block _ (blk_lt HO.out)).trans HO.out)
  replace HL := Lh (HL.out.below hb)
  replace HV := Lh (HV.out.below hb)
  replace W := Lh (bthen W.out hb)
  clear hb
  go_upto_region 5 with fail
  have bz := ((Below.refl w5.heap.size w5).alloc (Nat.le_refl _) (.cells #[.int .i64 Rx, .int .i64 Ry, .int .i64 Rz, .int .i64 Rg] 40))
  obtain ⟨w6, hwz⟩ : ∃ V, (w5.alloc (.cells #[.int .i64 Rx, .int .i64 Ry, .int .i64 Rz, .int .i64 Rg] 40)) = V := ⟨_, rfl⟩
  rw [hwz] at bz ⊢
  replace F := Lh ((bz.block _ (blk_lt F.out)).trans F.out)
  replace T := Lh ((bz.block _ (blk_lt T.out)).trans T.out)
  replace Z := Lh ((bz.block _ (blk_lt Z.out)).trans Z.out)
  replace HP := Lh ((bz.block _ (blk_lt HP.out)).trans HP.out)
  replace HQ := Lh ((bz.block _ (blk_lt HQ.out)).trans HQ.out)
  replace HD := Lh ((bz.block _ (blk_lt HD.out)).trans HD.out)
  replace HC := Lh ((bz.block _ (blk_lt HC.out)).trans HC.out)
  replace HY := Lh ((bz.block _ (blk_lt HY.out)).trans HY.out)
  replace HL := Lh (HL.out.below bz)
  replace HV := Lh (HV.out.below bz)
  replace W := Lh (bthen W.out bz)
  clear hwz bz 
  clear HOV HAP EX EY EZ HP HQ HD HO
  cases Ro with
  | false =>
    have HR := Lh (HNO.out (HMY.out.trans rfl))
    have k0 : w6.cell? ⟨w.heap.size + 1, 0, none⟩ = some (.int .i64 tx) := (blk_cell T.out 0).trans rfl
    have k1 : w6.cell? ⟨w.heap.size + 1, 1, none⟩ = some (.int .i64 ty) := (blk_cell T.out 1).trans rfl
    have k2 : w6.cell? ⟨w.heap.size + 1, 2, none⟩ = some (.int .i64 tz) := (blk_cell T.out 2).trans rfl
    have kl : w.heap.size + 1 < w6.heap.size := blk_lt T.out
    have z0 : w6.cell? ⟨w.heap.size + 1 + 1, 0, none⟩ = some (.int .i64 0) := (blk_cell Z.out 0).trans rfl
    have f0 : w6.frozen? ⟨w.heap.size + 1 + 1, 0, none⟩ = false := blk_frozen Z.out 0
    have z1 : w6.cell? ⟨w.heap.size + 1 + 1, 1, none⟩ = some (.int .i64 0) := (blk_cell Z.out 1).trans rfl
    have f1 : w6.frozen? ⟨w.heap.size + 1 + 1, 1, none⟩ = false := blk_frozen Z.out 1
    have z2 : w6.cell? ⟨w.heap.size + 1 + 1, 2, none⟩ = some (.int .i64 0) := (blk_cell Z.out 2).trans rfl
    have f2 : w6.frozen? ⟨w.heap.size + 1 + 1, 2, none⟩ = false := blk_frozen Z.out 2
    have zl : w.heap.size + 1 + 1 < w6.heap.size := blk_lt Z.out
    have HZV := bs3 Z.out (.int .i64 tx) (.int .i64 ty) (.int .i64 tz)
    have HBV := bb3 W.out (show w.heap.size ≤ w.heap.size + 1 + 1 by omega) (.int .i64 tx) (.int .i64 ty) (.int .i64 tz)
    obtain ⟨V, hV⟩ : ∃ V, (((w6.setCell ⟨w.heap.size + 1 + 1, 0, none⟩ (.int .i64 tx)).setCell ⟨w.heap.size + 1 + 1, 1, none⟩ (.int .i64 ty)).setCell ⟨w.heap.size + 1 + 1, 2, none⟩ (.int .i64 tz)) = V := ⟨_, rfl⟩
    rw [hV] at HZV HBV
    have t0 : V.cell? ⟨w.heap.size + 1 + 1, 0, none⟩ = some (.int .i64 tx) := (blk_cell HZV 0).trans rfl
    have t1 : V.cell? ⟨w.heap.size + 1 + 1, 1, none⟩ = some (.int .i64 ty) := (blk_cell HZV 1).trans rfl
    have t2 : V.cell? ⟨w.heap.size + 1 + 1, 2, none⟩ = some (.int .i64 tz) := (blk_cell HZV 2).trans rfl
    go_wp2
    (try rw [hV])
    exact bodyPost_ret (v := .tuple #[.agg #[.int .i64 tx, .int .i64 ty, .int .i64 tz], .int .i64 16]) (by simp [results, Try.results50, go_sem, t0, t1, t2]) rfl ⟨by rw [HR.out]; rfl, HBV⟩
  | true =>
    have x0 : w6.cell? ⟨w.heap.size, 0, none⟩ = some (.int .i64 ax) := (blk_cell F.out 0).trans rfl
    have x1 : w6.cell? ⟨w.heap.size, 1, none⟩ = some (.int .i64 ay) := (blk_cell F.out 1).trans rfl
    have x2 : w6.cell? ⟨w.heap.size, 2, none⟩ = some (.int .i64 az) := (blk_cell F.out 2).trans rfl
    have xl : w.heap.size < w6.heap.size := blk_lt F.out
    cases IA with
    | false =>
      have HR := Lh (HNO.out (HMY.out.trans rfl))
      have k0 : w6.cell? ⟨w.heap.size + 1, 0, none⟩ = some (.int .i64 tx) := (blk_cell T.out 0).trans rfl
      have k1 : w6.cell? ⟨w.heap.size + 1, 1, none⟩ = some (.int .i64 ty) := (blk_cell T.out 1).trans rfl
      have k2 : w6.cell? ⟨w.heap.size + 1, 2, none⟩ = some (.int .i64 tz) := (blk_cell T.out 2).trans rfl
      have kl : w.heap.size + 1 < w6.heap.size := blk_lt T.out
      have z0 : w6.cell? ⟨w.heap.size + 1 + 1, 0, none⟩ = some (.int .i64 0) := (blk_cell Z.out 0).trans rfl
      have f0 : w6.frozen? ⟨w.heap.size + 1 + 1, 0, none⟩ = false := blk_frozen Z.out 0
      have z1 : w6.cell? ⟨w.heap.size + 1 + 1, 1, none⟩ = some (.int .i64 0) := (blk_cell Z.out 1).trans rfl
      have f1 : w6.frozen? ⟨w.heap.size + 1 + 1, 1, none⟩ = false := blk_frozen Z.out 1
      have z2 : w6.cell? ⟨w.heap.size + 1 + 1, 2, none⟩ = some (.int .i64 0) := (blk_cell Z.out 2).trans rfl
      have f2 : w6.frozen? ⟨w.heap.size + 1 + 1, 2, none⟩ = false := blk_frozen Z.out 2
      have zl : w.heap.size + 1 + 1 < w6.heap.size := blk_lt Z.out
      have HZV := bs3 Z.out (.int .i64 tx) (.int .i64 ty) (.int .i64 tz)
      have HBV := bb3 W.out (show w.heap.size ≤ w.heap.size + 1 + 1 by omega) (.int .i64 tx) (.int .i64 ty) (.int .i64 tz)
      obtain ⟨V, hV⟩ : ∃ V, (((w6.setCell ⟨w.heap.size + 1 + 1, 0, none⟩ (.int .i64 tx)).setCell ⟨w.heap.size + 1 + 1, 1, none⟩ (.int .i64 ty)).setCell ⟨w.heap.size + 1 + 1, 2, none⟩ (.int .i64 tz)) = V := ⟨_, rfl⟩
      rw [hV] at HZV HBV
      have t0 : V.cell? ⟨w.heap.size + 1 + 1, 0, none⟩ = some (.int .i64 tx) := (blk_cell HZV 0).trans rfl
      have t1 : V.cell? ⟨w.heap.size + 1 + 1, 1, none⟩ = some (.int .i64 ty) := (blk_cell HZV 1).trans rfl
      have t2 : V.cell? ⟨w.heap.size + 1 + 1, 2, none⟩ = some (.int .i64 tz) := (blk_cell HZV 2).trans rfl
      go_wp2_with ((first | (with_reducible refine (HWA.out _).mono ?_) | (with_reducible refine (HWB.out _).mono ?_) | (with_reducible refine (HWY.out _).mono ?_)); rintro en w6 ⟨rfl, rfl⟩)
      (try rw [hV])
      exact bodyPost_ret (v := .tuple #[.agg #[.int .i64 tx, .int .i64 ty, .int .i64 tz], .int .i64 16]) (by simp [results, Try.results50, go_sem, t0, t1, t2]) rfl ⟨by rw [HR.out]; rfl, HBV⟩
    | true =>
      cases IB with
      | false =>
        have HR := Lh (HNO.out (HMY.out.trans rfl))
        have k0 : w6.cell? ⟨w.heap.size + 1, 0, none⟩ = some (.int .i64 tx) := (blk_cell T.out 0).trans rfl
        have k1 : w6.cell? ⟨w.heap.size + 1, 1, none⟩ = some (.int .i64 ty) := (blk_cell T.out 1).trans rfl
        have k2 : w6.cell? ⟨w.heap.size + 1, 2, none⟩ = some (.int .i64 tz) := (blk_cell T.out 2).trans rfl
        have kl : w.heap.size + 1 < w6.heap.size := blk_lt T.out
        have z0 : w6.cell? ⟨w.heap.size + 1 + 1, 0, none⟩ = some (.int .i64 0) := (blk_cell Z.out 0).trans rfl
        have f0 : w6.frozen? ⟨w.heap.size + 1 + 1, 0, none⟩ = false := blk_frozen Z.out 0
        have z1 : w6.cell? ⟨w.heap.size + 1 + 1, 1, none⟩ = some (.int .i64 0) := (blk_cell Z.out 1).trans rfl
        have f1 : w6.frozen? ⟨w.heap.size + 1 + 1, 1, none⟩ = false := blk_frozen Z.out 1
        have z2 : w6.cell? ⟨w.heap.size + 1 + 1, 2, none⟩ = some (.int .i64 0) := (blk_cell Z.out 2).trans rfl
        have f2 : w6.frozen? ⟨w.heap.size + 1 + 1, 2, none⟩ = false := blk_frozen Z.out 2
        have zl : w.heap.size + 1 + 1 < w6.heap.size := blk_lt Z.out
        have HZV := bs3 Z.out (.int .i64 tx) (.int .i64 ty) (.int .i64 tz)
        have HBV := bb3 W.out (show w.heap.size ≤ w.heap.size + 1 + 1 by omega) (.int .i64 tx) (.int .i64 ty) (.int .i64 tz)
        obtain ⟨V, hV⟩ : ∃ V, (((w6.setCell ⟨w.heap.size + 1 + 1, 0, none⟩ (.int .i64 tx)).setCell ⟨w.heap.size + 1 + 1, 1, none⟩ (.int .i64 ty)).setCell ⟨w.heap.size + 1 + 1, 2, none⟩ (.int .i64 tz)) = V := ⟨_, rfl⟩
        rw [hV] at HZV HBV
        have t0 : V.cell? ⟨w.heap.size + 1 + 1, 0, none⟩ = some (.int .i64 tx) := (blk_cell HZV 0).trans rfl
        have t1 : V.cell? ⟨w.heap.size + 1 + 1, 1, none⟩ = some (.int .i64 ty) := (blk_cell HZV 1).trans rfl
        have t2 : V.cell? ⟨w.heap.size + 1 + 1, 2, none⟩ = some (.int .i64 tz) := (blk_cell HZV 2).trans rfl
        go_wp2_with ((first | (with_reducible refine (HWA.out _).mono ?_) | (with_reducible refine (HWB.out _).mono ?_) | (with_reducible refine (HWY.out _).mono ?_)); rintro en w6 ⟨rfl, rfl⟩)
        (try rw [hV])
        exact bodyPost_ret (v := .tuple #[.agg #[.int .i64 tx, .int .i64 ty, .int .i64 tz], .int .i64 16]) (by simp [results, Try.results50, go_sem, t0, t1, t2]) rfl ⟨by rw [HR.out]; rfl, HBV⟩
      | true =>
        have y0 : w6.cell? ⟨w2.heap.size, 0, none⟩ = some (.int .i64 yx) := (blk_cell HY.out 0).trans rfl
        have y1 : w6.cell? ⟨w2.heap.size, 1, none⟩ = some (.int .i64 yy) := (blk_cell HY.out 1).trans rfl
        have y2 : w6.cell? ⟨w2.heap.size, 2, none⟩ = some (.int .i64 yz) := (blk_cell HY.out 2).trans rfl
        have yl : w2.heap.size < w6.heap.size := blk_lt HY.out
        cases IY with
        | false =>
          have HR := Lh (HNO.out (HMY.out.trans rfl))
          have k0 : w6.cell? ⟨w.heap.size + 1, 0, none⟩ = some (.int .i64 tx) := (blk_cell T.out 0).trans rfl
          have k1 : w6.cell? ⟨w.heap.size + 1, 1, none⟩ = some (.int .i64 ty) := (blk_cell T.out 1).trans rfl
          have k2 : w6.cell? ⟨w.heap.size + 1, 2, none⟩ = some (.int .i64 tz) := (blk_cell T.out 2).trans rfl
          have kl : w.heap.size + 1 < w6.heap.size := blk_lt T.out
          have z0 : w6.cell? ⟨w.heap.size + 1 + 1, 0, none⟩ = some (.int .i64 0) := (blk_cell Z.out 0).trans rfl
          have f0 : w6.frozen? ⟨w.heap.size + 1 + 1, 0, none⟩ = false := blk_frozen Z.out 0
          have z1 : w6.cell? ⟨w.heap.size + 1 + 1, 1, none⟩ = some (.int .i64 0) := (blk_cell Z.out 1).trans rfl
          have f1 : w6.frozen? ⟨w.heap.size + 1 + 1, 1, none⟩ = false := blk_frozen Z.out 1
          have z2 : w6.cell? ⟨w.heap.size + 1 + 1, 2, none⟩ = some (.int .i64 0) := (blk_cell Z.out 2).trans rfl
          have f2 : w6.frozen? ⟨w.heap.size + 1 + 1, 2, none⟩ = false := blk_frozen Z.out 2
          have zl : w.heap.size + 1 + 1 < w6.heap.size := blk_lt Z.out
          have HZV := bs3 Z.out (.int .i64 tx) (.int .i64 ty) (.int .i64 tz)
          have HBV := bb3 W.out (show w.heap.size ≤ w.heap.size + 1 + 1 by omega) (.int .i64 tx) (.int .i64 ty) (.int .i64 tz)
          obtain ⟨V, hV⟩ : ∃ V, (((w6.setCell ⟨w.heap.size + 1 + 1, 0, none⟩ (.int .i64 tx)).setCell ⟨w.heap.size + 1 + 1, 1, none⟩ (.int .i64 ty)).setCell ⟨w.heap.size + 1 + 1, 2, none⟩ (.int .i64 tz)) = V := ⟨_, rfl⟩
          rw [hV] at HZV HBV
          have t0 : V.cell? ⟨w.heap.size + 1 + 1, 0, none⟩ = some (.int .i64 tx) := (blk_cell HZV 0).trans rfl
          have t1 : V.cell? ⟨w.heap.size + 1 + 1, 1, none⟩ = some (.int .i64 ty) := (blk_cell HZV 1).trans rfl
          have t2 : V.cell? ⟨w.heap.size + 1 + 1, 2, none⟩ = some (.int .i64 tz) := (blk_cell HZV 2).trans rfl
          go_wp2_with ((first | (with_reducible refine (HWA.out _).mono ?_) | (with_reducible refine (HWB.out _).mono ?_) | (with_reducible refine (HWY.out _).mono ?_)); rintro en w6 ⟨rfl, rfl⟩)
          (try rw [hV])
          exact bodyPost_ret (v := .tuple #[.agg #[.int .i64 tx, .int .i64 ty, .int .i64 tz], .int .i64 16]) (by simp [results, Try.results50, go_sem, t0, t1, t2]) rfl ⟨by rw [HR.out]; rfl, HBV⟩
        | true =>
          have HT := Lh (show HM = true from HMY.out.trans rfl)
          have I3A := HI3A.out rfl
          have I3B := HI3B.out rfl
          replace HPT := Lh (fun (W : World) (gx gl : Nat) (k : Int) hgl hk => HPT.out W gx gl k hgl hk I3A I3B)
          clear HNO HMY HI3A HI3B I3A I3B
          have k0 : w6.cell? ⟨w.heap.size + 1, 0, none⟩ = some (.int .i64 tx) := (blk_cell T.out 0).trans rfl
          have k1 : w6.cell? ⟨w.heap.size + 1, 1, none⟩ = some (.int .i64 ty) := (blk_cell T.out 1).trans rfl
          have k2 : w6.cell? ⟨w.heap.size + 1, 2, none⟩ = some (.int .i64 tz) := (blk_cell T.out 2).trans rfl
          have kl : w.heap.size + 1 < w6.heap.size := blk_lt T.out
          go_wp2_with ((first | (with_reducible refine (HWA.out _).mono ?_) | (with_reducible refine (HWB.out _).mono ?_) | (with_reducible refine (HWY.out _).mono ?_)); rintro en w6 ⟨rfl, rfl⟩)
          with_reducible refine (HFO.out w6 (wa.heap.size + 1) w2.heap.size HL.out (fun W' vd d m hW hd => HH1.out W' d _ _ _ _ _ _ _ _ _ _ _ _ ((hW.block _ (blk_lt HC.out)).trans HC.out) ((hW.block _ (blk_lt HY.out)).trans HY.out) (HV.out.below hW) vd hd m)).mono ?_
          rintro en w7 ⟨rfl, hb⟩
          replace F := Lh ((hb.block _ (blk_lt F.out)).trans F.out)
          replace T := Lh ((hb.block _ (blk_lt T.out)).trans T.out)
          replace Z := Lh ((hb.block _ (blk_lt Z.out)).trans Z.out)
          replace HC := Lh ((hb.block _ (blk_lt HC.out)).trans HC.out)
          replace HY := Lh ((hb.block _ (blk_lt HY.out)).trans HY.out)
          replace HL := Lh (HL.out.below hb)
          replace HV := Lh (HV.out.below hb)
          replace W := Lh (bthen W.out hb)
          clear HFO HH1 HWA HWB HWY HL HV HC HY
          clear hb x0 x1 x2 y0 y1 y2 k0 k1 k2 xl yl kl
          have hnK : Hid (w7.heap.size ≠ w.heap.size + 1 + 1) := Lh (Nat.ne_of_gt (blk_lt Z.out))
          go_upto_region 8 with fail
          have bz := ((Below.refl w7.heap.size w7).alloc (Nat.le_refl _) (.cells #[.int .i64 (LK : Int)] 3))
          have nz0 := heap_alloc_new w7 (.cells #[.int .i64 (LK : Int)] 3)
          obtain ⟨w8, hwz⟩ : ∃ V, (w7.alloc (.cells #[.int .i64 (LK : Int)] 3)) = V := ⟨_, rfl⟩
          rw [hwz] at bz nz0 ⊢
          replace F := Lh ((bz.block _ (blk_lt F.out)).trans F.out)
          replace T := Lh ((bz.block _ (blk_lt T.out)).trans T.out)
          replace Z := Lh ((bz.block _ (blk_lt Z.out)).trans Z.out)
          replace W := Lh (bthen W.out bz)
          have HK := Lh nz0
          clear hwz bz nz0
          have v0 : w8.cell? ⟨w7.heap.size, 0, none⟩ = some (.int .i64 (LK : Int)) := (blk_cell HK.out 0).trans rfl
          have vl : w7.heap.size < w8.heap.size := blk_lt HK.out
          by_cases tk : LK = 16
          · have ek : ((LK : Int) == 16) = true := by rw [tk]; rfl
            have HR := Lh (H16.out HT.out tk)
            have k0 : w8.cell? ⟨w.heap.size + 1, 0, none⟩ = some (.int .i64 tx) := (blk_cell T.out 0).trans rfl
            have k1 : w8.cell? ⟨w.heap.size + 1, 1, none⟩ = some (.int .i64 ty) := (blk_cell T.out 1).trans rfl
            have k2 : w8.cell? ⟨w.heap.size + 1, 2, none⟩ = some (.int .i64 tz) := (blk_cell T.out 2).trans rfl
            have kl : w.heap.size + 1 < w8.heap.size := blk_lt T.out
            have z0 : w8.cell? ⟨w.heap.size + 1 + 1, 0, none⟩ = some (.int .i64 0) := (blk_cell Z.out 0).trans rfl
            have f0 : w8.frozen? ⟨w.heap.size + 1 + 1, 0, none⟩ = false := blk_frozen Z.out 0
            have z1 : w8.cell? ⟨w.heap.size + 1 + 1, 1, none⟩ = some (.int .i64 0) := (blk_cell Z.out 1).trans rfl
            have f1 : w8.frozen? ⟨w.heap.size + 1 + 1, 1, none⟩ = false := blk_frozen Z.out 1
            have z2 : w8.cell? ⟨w.heap.size + 1 + 1, 2, none⟩ = some (.int .i64 0) := (blk_cell Z.out 2).trans rfl
            have f2 : w8.frozen? ⟨w.heap.size + 1 + 1, 2, none⟩ = false := blk_frozen Z.out 2
            have zl : w.heap.size + 1 + 1 < w8.heap.size := blk_lt Z.out
            have HZV := bs3 Z.out (.int .i64 tx) (.int .i64 ty) (.int .i64 tz)
            have HBV := bb3 W.out (show w.heap.size ≤ w.heap.size + 1 + 1 by omega) (.int .i64 tx) (.int .i64 ty) (.int .i64 tz)
            obtain ⟨V, hV⟩ : ∃ V, (((w8.setCell ⟨w.heap.size + 1 + 1, 0, none⟩ (.int .i64 tx)).setCell ⟨w.heap.size + 1 + 1, 1, none⟩ (.int .i64 ty)).setCell ⟨w.heap.size + 1 + 1, 2, none⟩ (.int .i64 tz)) = V := ⟨_, rfl⟩
            rw [hV] at HZV HBV
            have t0 : V.cell? ⟨w.heap.size + 1 + 1, 0, none⟩ = some (.int .i64 tx) := (blk_cell HZV 0).trans rfl
            have t1 : V.cell? ⟨w.heap.size + 1 + 1, 1, none⟩ = some (.int .i64 ty) := (blk_cell HZV 1).trans rfl
            have t2 : V.cell? ⟨w.heap.size + 1 + 1, 2, none⟩ = some (.int .i64 tz) := (blk_cell HZV 2).trans rfl
            go_wp2
            (try rw [hV])
            exact bodyPost_ret (v := .tuple #[.agg #[.int .i64 tx, .int .i64 ty, .int .i64 tz], .int .i64 16]) (by simp [results, Try.results50, go_sem, t0, t1, t2]) rfl ⟨by rw [HR.out]; rfl, HBV⟩
          · have ek : ((LK : Int) == 16) = false := by simp; omega
            have HR := Lh (HYS.out HT.out LK rfl)
            rw [HOP.out] at HR
            have hk16 : LK ≤ 16 := HLE.out
            clear HYS H16 HT HOP HLE
            go_upto_region 12 with fail
            have bz := ((Below.refl w8.heap.size w8).alloc (Nat.le_refl _) (.cells #[.bool false] 83))
            have nz0 := heap_alloc_new w8 (.cells #[.bool false] 83)
            obtain ⟨w9, hwz⟩ : ∃ V, (w8.alloc (.cells #[.bool false] 83)) = V := ⟨_, rfl⟩
            rw [hwz] at bz nz0 ⊢
            replace F := Lh ((bz.block _ (blk_lt F.out)).trans F.out)
            replace T := Lh ((bz.block _ (blk_lt T.out)).trans T.out)
            replace Z := Lh ((bz.block _ (blk_lt Z.out)).trans Z.out)
            replace HK := Lh ((bz.block _ (blk_lt HK.out)).trans HK.out)
            replace W := Lh (bthen W.out bz)
            have HO := Lh nz0
            clear hwz bz nz0 v0 vl
            obtain ⟨rx, hrx⟩ : ∃ x, outC ax tx (LK : Int) = x := ⟨_, rfl⟩
            obtain ⟨ry, hry⟩ : ∃ x, outC ay ty (LK : Int) = x := ⟨_, rfl⟩
            obtain ⟨rz, hrz⟩ : ∃ x, outC az tz (LK : Int) = x := ⟨_, rfl⟩
            rw [hrx, hry, hrz] at HR
            have HPX := Lh (fun W hgl => (HPT.out W w8.heap.size w7.heap.size (LK : Int) hgl (by omega)))
            rw [hrx, hry, hrz] at HPX
            clear hrx hry hrz HPT hk16
            have x0 : w9.cell? ⟨w.heap.size, 0, none⟩ = some (.int .i64 ax) := (blk_cell F.out 0).trans rfl
            have x1 : w9.cell? ⟨w.heap.size, 1, none⟩ = some (.int .i64 ay) := (blk_cell F.out 1).trans rfl
            have x2 : w9.cell? ⟨w.heap.size, 2, none⟩ = some (.int .i64 az) := (blk_cell F.out 2).trans rfl
            have xl : w.heap.size < w9.heap.size := blk_lt F.out
            have k0 : w9.cell? ⟨w.heap.size + 1, 0, none⟩ = some (.int .i64 tx) := (blk_cell T.out 0).trans rfl
            have k1 : w9.cell? ⟨w.heap.size + 1, 1, none⟩ = some (.int .i64 ty) := (blk_cell T.out 1).trans rfl
            have k2 : w9.cell? ⟨w.heap.size + 1, 2, none⟩ = some (.int .i64 tz) := (blk_cell T.out 2).trans rfl
            have kl : w.heap.size + 1 < w9.heap.size := blk_lt T.out
            have HB := Lh ((Below.refl (w9.heap.size) w9).drew)
            refine start_ (n := 21) (S := fun w' => w'.cell? ⟨w.heap.size, 0, none⟩ = some (.int .i64 ax) ∧ w'.cell? ⟨w.heap.size, 1, none⟩ = some (.int .i64 ay) ∧ w'.cell? ⟨w.heap.size, 2, none⟩ = some (.int .i64 az) ∧ w'.cell? ⟨w.heap.size + 1, 0, none⟩ = some (.int .i64 tx) ∧ w'.cell? ⟨w.heap.size + 1, 1, none⟩ = some (.int .i64 ty) ∧ w'.cell? ⟨w.heap.size + 1, 2, none⟩ = some (.int .i64 tz)) (ds := []) #[false, false, false, false, false, false, false, false, false, false, false, false, false, false, false, false, false, false, false, false, false] (by kernel_rfl) rfl rfl ⟨(HB.out.cell (p := ⟨w.heap.size, 0, none⟩) (xl)).trans x0, (HB.out.cell (p := ⟨w.heap.size, 1, none⟩) (xl)).trans x1, (HB.out.cell (p := ⟨w.heap.size, 2, none⟩) (xl)).trans x2, (HB.out.cell (p := ⟨w.heap.size + 1, 0, none⟩) (kl)).trans k0, (HB.out.cell (p := ⟨w.heap.size + 1, 1, none⟩) (kl)).trans k1, (HB.out.cell (p := ⟨w.heap.size + 1, 2, none⟩) (kl)).trans k2⟩ (fun hHeld => ?_)
            obtain ⟨wd, hwd⟩ : ∃ x, w9.drew = x := ⟨_, rfl⟩
            rw [hwd] at HB hHeld ⊢
            clear hwd
            refine pure_ (i := 0) (N := some 94) (v := ?_) (a' := ?_) #[true, false, false, false, false, false, false, false, false, false, false, false, false, false, false, false, false, false, false, false, false] rfl rfl (by kernel_rfl) (fun _ _ _ h => h) (Or.inl ⟨by rfl, ?_⟩) ?_ ?_
            rotate_left
            · intro w'
              go_simp
              with_reducible rfl
            rotate_left
            · simp only [Act.put, List.setIfInBounds_toArray, List.set_cons_zero, List.set_cons_succ, i64_w, i32_w]
              rfl
            refine pure_ (i := 1) (N := some 95) (v := ?_) (a' := ?_) #[true, true, false, false, false, false, false, false, false, false, false, false, false, false, false, false, false, false, false, false, false] rfl rfl (by kernel_rfl) (fun _ _ _ h => h) (Or.inl ⟨by rfl, ?_⟩) ?_ ?_
            rotate_left
            · intro w'
              go_simp
              with_reducible rfl
            rotate_left
            · simp only [Act.put, List.setIfInBounds_toArray, List.set_cons_zero, List.set_cons_succ, i64_w, i32_w]
              rfl
            refine pure_ (i := 3) (N := some 97) (v := ?_) (a' := ?_) #[true, true, false, true, false, false, false, false, false, false, false, false, false, false, false, false, false, false, false, false, false] rfl rfl (by kernel_rfl) (fun _ _ _ h => h) (Or.inl ⟨by rfl, ?_⟩) ?_ ?_
            rotate_left
            · intro w'
              go_simp
              with_reducible rfl
            rotate_left
            · simp only [Act.put, List.setIfInBounds_toArray, List.set_cons_zero, List.set_cons_succ, i64_w, i32_w]
              rfl
            refine pure_ (i := 6) (N := some 100) (v := ?_) (a' := ?_) #[true, true, false, true, false, false, true, false, false, false, false, false, false, false, false, false, false, false, false, false, false] rfl rfl (by kernel_rfl) (fun _ _ _ h => h) (Or.inl ⟨by rfl, ?_⟩) ?_ ?_
            rotate_left
            · intro w'
              go_simp
              with_reducible rfl
            rotate_left
            · simp only [Act.put, List.setIfInBounds_toArray, List.set_cons_zero, List.set_cons_succ, i64_w, i32_w]
              rfl
            refine pure_ (i := 7) (N := some 101) (v := ?_) (a' := ?_) #[true, true, false, true, false, false, true, true, false, false, false, false, false, false, false, false, false, false, false, false, false] rfl rfl (by kernel_rfl) (fun _ _ _ h => h) (Or.inl ⟨by rfl, ?_⟩) ?_ ?_
            rotate_left
            · intro w'
              go_simp
              with_reducible rfl
            rotate_left
            · simp only [Act.put, List.setIfInBounds_toArray, List.set_cons_zero, List.set_cons_succ, i64_w, i32_w]
              rfl
            refine pure_ (i := 9) (N := some 103) (v := ?_) (a' := ?_) #[true, true, false, true, false, false, true, true, false, true, false, false, false, false, false, false, false, false, false, false, false] rfl rfl (by kernel_rfl) (fun _ _ _ h => h) (Or.inl ⟨by rfl, ?_⟩) ?_ ?_
            rotate_left
            · intro w'
              go_simp
              with_reducible rfl
            rotate_left
            · simp only [Act.put, List.setIfInBounds_toArray, List.set_cons_zero, List.set_cons_succ, i64_w, i32_w]
              rfl
            refine pure_ (i := 12) (N := some 106) (v := ?_) (a' := ?_) #[true, true, false, true, false, false, true, true, false, true, false, false, true, false, false, false, false, false, false, false, false] rfl rfl (by kernel_rfl) (fun _ _ _ h => h) (Or.inl ⟨by rfl, ?_⟩) ?_ ?_
            rotate_left
            · intro w'
              go_simp
              with_reducible rfl
            rotate_left
            · simp only [Act.put, List.setIfInBounds_toArray, List.set_cons_zero, List.set_cons_succ, i64_w, i32_w]
              rfl
            refine pure_ (i := 13) (N := some 107) (v := ?_) (a' := ?_) #[true, true, false, true, false, false, true, true, false, true, false, false, true, true, false, false, false, false, false, false, false] rfl rfl (by kernel_rfl) (fun _ _ _ h => h) (Or.inl ⟨by rfl, ?_⟩) ?_ ?_
            rotate_left
            · intro w'
              go_simp
              with_reducible rfl
            rotate_left
            · simp only [Act.put, List.setIfInBounds_toArray, List.set_cons_zero, List.set_cons_succ, i64_w, i32_w]
              rfl
            refine pure_ (i := 15) (N := some 109) (v := ?_) (a' := ?_) #[true, true, false, true, false, false, true, true, false, true, false, false, true, true, false, true, false, false, false, false, false] rfl rfl (by kernel_rfl) (fun _ _ _ h => h) (Or.inl ⟨by rfl, ?_⟩) ?_ ?_
            rotate_left
            · intro w'
              go_simp
              with_reducible rfl
            rotate_left
            · simp only [Act.put, List.setIfInBounds_toArray, List.set_cons_zero, List.set_cons_succ, i64_w, i32_w]
              rfl
            refine take_ (i := 2) (N := some 96) (v := ?_) (a' := ?_) #[true, true, true, true, false, false, true, true, false, true, false, false, true, true, false, true, false, false, false, false, false] rfl rfl (by kernel_rfl) (fun _ _ _ h => h) (Or.inl ⟨by rfl, ?_⟩) hHeld ?_ ?_
            rotate_left
            · rintro w' ⟨s0, s1, s2, s3, s4, s5⟩
              go_simp
              with_reducible rfl
            rotate_left
            · simp only [Act.put, List.setIfInBounds_toArray, List.set_cons_zero, List.set_cons_succ, i64_w, i32_w]
              rfl
            refine take_ (i := 4) (N := some 98) (v := ?_) (a' := ?_) #[true, true, true, true, true, false, true, true, false, true, false, false, true, true, false, true, false, false, false, false, false] rfl rfl (by kernel_rfl) (fun _ _ _ h => h) (Or.inl ⟨by rfl, ?_⟩) hHeld ?_ ?_
            rotate_left
            · rintro w' ⟨s0, s1, s2, s3, s4, s5⟩
              go_simp
              with_reducible rfl
            rotate_left
            · simp only [Act.put, List.setIfInBounds_toArray, List.set_cons_zero, List.set_cons_succ, i64_w, i32_w]
              rfl
            refine take_ (i := 8) (N := some 102) (v := ?_) (a' := ?_) #[true, true, true, true, true, false, true, true, true, true, false, false, true, true, false, true, false, false, false, false, false] rfl rfl (by kernel_rfl) (fun _ _ _ h => h) (Or.inl ⟨by rfl, ?_⟩) hHeld ?_ ?_
            rotate_left
            · rintro w' ⟨s0, s1, s2, s3, s4, s5⟩
              go_simp
              with_reducible rfl
            rotate_left
            · simp only [Act.put, List.setIfInBounds_toArray, List.set_cons_zero, List.set_cons_succ, i64_w, i32_w]
              rfl
            refine take_ (i := 10) (N := some 104) (v := ?_) (a' := ?_) #[true, true, true, true, true, false, true, true, true, true, true, false, true, true, false, true, false, false, false, false, false] rfl rfl (by kernel_rfl) (fun _ _ _ h => h) (Or.inl ⟨by rfl, ?_⟩) hHeld ?_ ?_
            rotate_left
            · rintro w' ⟨s0, s1, s2, s3, s4, s5⟩
              go_simp
              with_reducible rfl
            rotate_left
            · simp only [Act.put, List.setIfInBounds_toArray, List.set_cons_zero, List.set_cons_succ, i64_w, i32_w]
              rfl
            refine take_ (i := 14) (N := some 108) (v := ?_) (a' := ?_) #[true, true, true, true, true, false, true, true, true, true, true, false, true, true, true, true, false, false, false, false, false] rfl rfl (by kernel_rfl) (fun _ _ _ h => h) (Or.inl ⟨by rfl, ?_⟩) hHeld ?_ ?_
            rotate_left
            · rintro w' ⟨s0, s1, s2, s3, s4, s5⟩
              go_simp
              with_reducible rfl
            rotate_left
            · simp only [Act.put, List.setIfInBounds_toArray, List.set_cons_zero, List.set_cons_succ, i64_w, i32_w]
              rfl
            refine take_ (i := 16) (N := some 110) (v := ?_) (a' := ?_) #[true, true, true, true, true, false, true, true, true, true, true, false, true, true, true, true, true, false, false, false, false] rfl rfl (by kernel_rfl) (fun _ _ _ h => h) (Or.inl ⟨by rfl, ?_⟩) hHeld ?_ ?_
            rotate_left
            · rintro w' ⟨s0, s1, s2, s3, s4, s5⟩
              go_simp
              with_reducible rfl
            rotate_left
            · simp only [Act.put, List.setIfInBounds_toArray, List.set_cons_zero, List.set_cons_succ, i64_w, i32_w]
              rfl
            refine join_ (σ := Nat) 1 #[true, true, true, true, true, true, true, true, true, true, true, true, true, true, true, true, true, true, true, true, false] (fun s => [(99, .int .i64 rx), (105, .int .i64 ry), (111, .int .i64 rz), (112, .agg #[.int .i64 rx, .int .i64 ry, .int .i64 rz]), (21, .pointer (some ⟨s, 0, none⟩))]) (fun (s : Nat) w' => w9.heap.size ≤ s ∧ w'.heap[s]? = some (.cells #[.int .i64 0, .int .i64 0, .int .i64 0] 27 (0, 0)) ∧ Below w9.heap.size w9 w') ?_ ?_
            rotate_left
            · intro hCont
              refine two_ (i := 5) (j := 19) (Ni := some 99) (Nj := some 21) #[true, true, true, true, true, true, true, true, true, true, true, false, true, true, true, true, true, false, false, false, false] #[true, true, true, true, true, false, true, true, true, true, true, false, true, true, true, true, true, false, false, true, false] rfl rfl rfl rfl (by kernel_rfl) (by decide) (by decide) (fun K hK => ?_) (fun K hK => ?_)
              · skip
                refine goesf_ (.tmp 94) #[.pointer (some ⟨w8.heap.size, 0, none⟩), .pointer (some ⟨w7.heap.size, 0, none⟩)] Try.func94 (by kernel_rfl) rfl #[.int .i64 ax, .int .i64 tx, .pointer (some ⟨w8.heap.size, 0, none⟩), .pointer (some ⟨w7.heap.size, 0, none⟩)] (by rfl) rfl rfl (by rfl) (by simp only [List.map_toArray, List.map_cons, List.map_nil, List.append_toArray, List.cons_append, List.nil_append]; rfl) ?_
                with_reducible refine ((HPX.out _ ((HB.out.block _ (blk_lt HK.out)).trans HK.out)).1).mono ?_
                rintro en wz ⟨rfl, hb⟩
                have HB := Lh (HB.out.trans (hb.mono HB.out.size))
                clear hb
                refine ⟨_, rfl, ?_⟩
                refine hK.out _ _ ⟨(HB.out.cell (p := ⟨w.heap.size, 0, none⟩) (xl)).trans x0, (HB.out.cell (p := ⟨w.heap.size, 1, none⟩) (xl)).trans x1, (HB.out.cell (p := ⟨w.heap.size, 2, none⟩) (xl)).trans x2, (HB.out.cell (p := ⟨w.heap.size + 1, 0, none⟩) (kl)).trans k0, (HB.out.cell (p := ⟨w.heap.size + 1, 1, none⟩) (kl)).trans k1, (HB.out.cell (p := ⟨w.heap.size + 1, 2, none⟩) (kl)).trans k2⟩ (fun hHeld => ?_)
                clear hK K
                refine norm_ (a' := ?_) ?_ ?_
                rotate_left
                · show Act.put _ (some 99) _ = _
                  simp only [Act.put, List.setIfInBounds_toArray, List.set_cons_zero, List.set_cons_succ, i64_w, i32_w]
                  rfl
                refine two_ (i := 11) (j := 19) (Ni := some 105) (Nj := some 21) #[true, true, true, true, true, true, true, true, true, true, true, true, true, true, true, true, true, false, false, false, false] #[true, true, true, true, true, true, true, true, true, true, true, false, true, true, true, true, true, false, false, true, false] rfl rfl rfl rfl (by kernel_rfl) (by decide) (by decide) (fun K hK => ?_) (fun K hK => ?_)
                · skip
                  refine goesf_ (.tmp 100) #[.pointer (some ⟨w8.heap.size, 0, none⟩), .pointer (some ⟨w7.heap.size, 0, none⟩)] Try.func94 (by kernel_rfl) rfl #[.int .i64 ay, .int .i64 ty, .pointer (some ⟨w8.heap.size, 0, none⟩), .pointer (some ⟨w7.heap.size, 0, none⟩)] (by rfl) rfl rfl (by rfl) (by simp only [List.map_toArray, List.map_cons, List.map_nil, List.append_toArray, List.cons_append, List.nil_append]; rfl) ?_
                  with_reducible refine ((HPX.out _ ((HB.out.block _ (blk_lt HK.out)).trans HK.out)).2.1).mono ?_
                  rintro en wz ⟨rfl, hb⟩
                  have HB := Lh (HB.out.trans (hb.mono HB.out.size))
                  clear hb
                  refine ⟨_, rfl, ?_⟩
                  refine hK.out _ _ ⟨(HB.out.cell (p := ⟨w.heap.size, 0, none⟩) (xl)).trans x0, (HB.out.cell (p := ⟨w.heap.size, 1, none⟩) (xl)).trans x1, (HB.out.cell (p := ⟨w.heap.size, 2, none⟩) (xl)).trans x2, (HB.out.cell (p := ⟨w.heap.size + 1, 0, none⟩) (kl)).trans k0, (HB.out.cell (p := ⟨w.heap.size + 1, 1, none⟩) (kl)).trans k1, (HB.out.cell (p := ⟨w.heap.size + 1, 2, none⟩) (kl)).trans k2⟩ (fun hHeld => ?_)
                  clear hK K
                  refine norm_ (a' := ?_) ?_ ?_
                  rotate_left
                  · show Act.put _ (some 105) _ = _
                    simp only [Act.put, List.setIfInBounds_toArray, List.set_cons_zero, List.set_cons_succ, i64_w, i32_w]
                    rfl
                  refine two_ (i := 17) (j := 19) (Ni := some 111) (Nj := some 21) #[true, true, true, true, true, true, true, true, true, true, true, true, true, true, true, true, true, true, false, false, false] #[true, true, true, true, true, true, true, true, true, true, true, true, true, true, true, true, true, false, false, true, false] rfl rfl rfl rfl (by kernel_rfl) (by decide) (by decide) (fun K hK => ?_) (fun K hK => ?_)
                  · skip
                    refine goesf_ (.tmp 106) #[.pointer (some ⟨w8.heap.size, 0, none⟩), .pointer (some ⟨w7.heap.size, 0, none⟩)] Try.func94 (by kernel_rfl) rfl #[.int .i64 az, .int .i64 tz, .pointer (some ⟨w8.heap.size, 0, none⟩), .pointer (some ⟨w7.heap.size, 0, none⟩)] (by rfl) rfl rfl (by rfl) (by simp only [List.map_toArray, List.map_cons, List.map_nil, List.append_toArray, List.cons_append, List.nil_append]; rfl) ?_
                    with_reducible refine ((HPX.out _ ((HB.out.block _ (blk_lt HK.out)).trans HK.out)).2.2).mono ?_
                    rintro en wz ⟨rfl, hb⟩
                    have HB := Lh (HB.out.trans (hb.mono HB.out.size))
                    clear hb
                    refine ⟨_, rfl, ?_⟩
                    refine hK.out _ _ ⟨(HB.out.cell (p := ⟨w.heap.size, 0, none⟩) (xl)).trans x0, (HB.out.cell (p := ⟨w.heap.size, 1, none⟩) (xl)).trans x1, (HB.out.cell (p := ⟨w.heap.size, 2, none⟩) (xl)).trans x2, (HB.out.cell (p := ⟨w.heap.size + 1, 0, none⟩) (kl)).trans k0, (HB.out.cell (p := ⟨w.heap.size + 1, 1, none⟩) (kl)).trans k1, (HB.out.cell (p := ⟨w.heap.size + 1, 2, none⟩) (kl)).trans k2⟩ (fun hHeld => ?_)
                    clear hK K
                    refine norm_ (a' := ?_) ?_ ?_
                    rotate_left
                    · show Act.put _ (some 111) _ = _
                      simp only [Act.put, List.setIfInBounds_toArray, List.set_cons_zero, List.set_cons_succ, i64_w, i32_w]
                      rfl
                    refine pure_ (i := 18) (N := some 112) (v := ?_) (a' := ?_) #[true, true, true, true, true, true, true, true, true, true, true, true, true, true, true, true, true, true, true, false, false] rfl rfl (by kernel_rfl) (fun _ _ _ h => h) (Or.inl ⟨by rfl, ?_⟩) ?_ ?_
                    rotate_left
                    · intro w'
                      go_simp
                      with_reducible rfl
                    rotate_left
                    · simp only [Act.put, List.setIfInBounds_toArray, List.set_cons_zero, List.set_cons_succ, i64_w, i32_w]
                      rfl
                    refine one_ (i := 19) (N := some 21) #[true, true, true, true, true, true, true, true, true, true, true, true, true, true, true, true, true, true, true, true, false] rfl rfl (by kernel_rfl) (by decide) (fun K hK => ?_)
                    refine value_ (w1 := ?_) (v := ?_) (by rfl) rfl ?_ ?_
                    rotate_left 2
                    · go_simp
                      constructor
                      · rfl
                      · rfl
                    have HA := Lh (ha_new HB.out (.cells #[.int .i64 0, .int .i64 0, .int .i64 0] 27))
                    have hge := HB.out.size
                    have HB := Lh (HB.out.alloc (Nat.le_trans (Nat.le_refl _) HB.out.size) (.cells #[.int .i64 0, .int .i64 0, .int .i64 0] 27))
                    refine hK.out _ _ ⟨(HB.out.cell (p := ⟨w.heap.size, 0, none⟩) (xl)).trans x0, (HB.out.cell (p := ⟨w.heap.size, 1, none⟩) (xl)).trans x1, (HB.out.cell (p := ⟨w.heap.size, 2, none⟩) (xl)).trans x2, (HB.out.cell (p := ⟨w.heap.size + 1, 0, none⟩) (kl)).trans k0, (HB.out.cell (p := ⟨w.heap.size + 1, 1, none⟩) (kl)).trans k1, (HB.out.cell (p := ⟨w.heap.size + 1, 2, none⟩) (kl)).trans k2⟩ (fun hHeld => ?_)
                    clear hK K
                    refine norm_ (a' := ?_) ?_ ?_
                    rotate_left
                    · show Act.put _ (some 21) _ = _
                      simp only [Act.put, List.setIfInBounds_toArray, List.set_cons_zero, List.set_cons_succ, i64_w, i32_w]
                      rfl
                    exact norm_ (by simp only [putAll, Act.put, List.setIfInBounds_toArray, List.set_cons_zero, List.set_cons_succ]) (hCont _ _ ⟨hge, HA.out, HB.out⟩)
                  · skip
                    refine value_ (w1 := ?_) (v := ?_) (by rfl) rfl ?_ ?_
                    rotate_left 2
                    · go_simp
                      constructor
                      · rfl
                      · rfl
                    have HA := Lh (ha_new HB.out (.cells #[.int .i64 0, .int .i64 0, .int .i64 0] 27))
                    have hge := HB.out.size
                    have HB := Lh (HB.out.alloc (Nat.le_trans (Nat.le_refl _) HB.out.size) (.cells #[.int .i64 0, .int .i64 0, .int .i64 0] 27))
                    refine hK.out _ _ ⟨(HB.out.cell (p := ⟨w.heap.size, 0, none⟩) (xl)).trans x0, (HB.out.cell (p := ⟨w.heap.size, 1, none⟩) (xl)).trans x1, (HB.out.cell (p := ⟨w.heap.size, 2, none⟩) (xl)).trans x2, (HB.out.cell (p := ⟨w.heap.size + 1, 0, none⟩) (kl)).trans k0, (HB.out.cell (p := ⟨w.heap.size + 1, 1, none⟩) (kl)).trans k1, (HB.out.cell (p := ⟨w.heap.size + 1, 2, none⟩) (kl)).trans k2⟩ (fun hHeld => ?_)
                    clear hK K
                    refine norm_ (a' := ?_) ?_ ?_
                    rotate_left
                    · show Act.put _ (some 21) _ = _
                      simp only [Act.put, List.setIfInBounds_toArray, List.set_cons_zero, List.set_cons_succ, i64_w, i32_w]
                      rfl
                    refine one_ (i := 17) (N := some 111) #[true, true, true, true, true, true, true, true, true, true, true, true, true, true, true, true, true, true, false, true, false] rfl rfl (by kernel_rfl) (by decide) (fun K hK => ?_)
                    refine goesf_ (.tmp 106) #[.pointer (some ⟨w8.heap.size, 0, none⟩), .pointer (some ⟨w7.heap.size, 0, none⟩)] Try.func94 (by kernel_rfl) rfl #[.int .i64 az, .int .i64 tz, .pointer (some ⟨w8.heap.size, 0, none⟩), .pointer (some ⟨w7.heap.size, 0, none⟩)] (by rfl) rfl rfl (by rfl) (by simp only [List.map_toArray, List.map_cons, List.map_nil, List.append_toArray, List.cons_append, List.nil_append]; rfl) ?_
                    with_reducible refine ((HPX.out _ ((HB.out.block _ (blk_lt HK.out)).trans HK.out)).2.2).mono ?_
                    rintro en wz ⟨rfl, hb⟩
                    have HA := Lh ((hb.block _ (blk_lt HA.out)).trans HA.out)
                    have HB := Lh (HB.out.trans (hb.mono HB.out.size))
                    clear hb
                    refine ⟨_, rfl, ?_⟩
                    refine hK.out _ _ ⟨(HB.out.cell (p := ⟨w.heap.size, 0, none⟩) (xl)).trans x0, (HB.out.cell (p := ⟨w.heap.size, 1, none⟩) (xl)).trans x1, (HB.out.cell (p := ⟨w.heap.size, 2, none⟩) (xl)).trans x2, (HB.out.cell (p := ⟨w.heap.size + 1, 0, none⟩) (kl)).trans k0, (HB.out.cell (p := ⟨w.heap.size + 1, 1, none⟩) (kl)).trans k1, (HB.out.cell (p := ⟨w.heap.size + 1, 2, none⟩) (kl)).trans k2⟩ (fun hHeld => ?_)
                    clear hK K
                    refine norm_ (a' := ?_) ?_ ?_
                    rotate_left
                    · show Act.put _ (some 111) _ = _
                      simp only [Act.put, List.setIfInBounds_toArray, List.set_cons_zero, List.set_cons_succ, i64_w, i32_w]
                      rfl
                    refine pure_ (i := 18) (N := some 112) (v := ?_) (a' := ?_) #[true, true, true, true, true, true, true, true, true, true, true, true, true, true, true, true, true, true, true, true, false] rfl rfl (by kernel_rfl) (fun _ _ _ h => h) (Or.inl ⟨by rfl, ?_⟩) ?_ ?_
                    rotate_left
                    · intro w'
                      go_simp
                      with_reducible rfl
                    rotate_left
                    · simp only [Act.put, List.setIfInBounds_toArray, List.set_cons_zero, List.set_cons_succ, i64_w, i32_w]
                      rfl
                    exact norm_ (by simp only [putAll, Act.put, List.setIfInBounds_toArray, List.set_cons_zero, List.set_cons_succ]) (hCont _ _ ⟨hge, HA.out, HB.out⟩)
                · skip
                  refine value_ (w1 := ?_) (v := ?_) (by rfl) rfl ?_ ?_
                  rotate_left 2
                  · go_simp
                    constructor
                    · rfl
                    · rfl
                  have HA := Lh (ha_new HB.out (.cells #[.int .i64 0, .int .i64 0, .int .i64 0] 27))
                  have hge := HB.out.size
                  have HB := Lh (HB.out.alloc (Nat.le_trans (Nat.le_refl _) HB.out.size) (.cells #[.int .i64 0, .int .i64 0, .int .i64 0] 27))
                  refine hK.out _ _ ⟨(HB.out.cell (p := ⟨w.heap.size, 0, none⟩) (xl)).trans x0, (HB.out.cell (p := ⟨w.heap.size, 1, none⟩) (xl)).trans x1, (HB.out.cell (p := ⟨w.heap.size, 2, none⟩) (xl)).trans x2, (HB.out.cell (p := ⟨w.heap.size + 1, 0, none⟩) (kl)).trans k0, (HB.out.cell (p := ⟨w.heap.size + 1, 1, none⟩) (kl)).trans k1, (HB.out.cell (p := ⟨w.heap.size + 1, 2, none⟩) (kl)).trans k2⟩ (fun hHeld => ?_)
                  clear hK K
                  refine norm_ (a' := ?_) ?_ ?_
                  rotate_left
                  · show Act.put _ (some 21) _ = _
                    simp only [Act.put, List.setIfInBounds_toArray, List.set_cons_zero, List.set_cons_succ, i64_w, i32_w]
                    rfl
                  refine one_ (i := 11) (N := some 105) #[true, true, true, true, true, true, true, true, true, true, true, true, true, true, true, true, true, false, false, true, false] rfl rfl (by kernel_rfl) (by decide) (fun K hK => ?_)
                  refine goesf_ (.tmp 100) #[.pointer (some ⟨w8.heap.size, 0, none⟩), .pointer (some ⟨w7.heap.size, 0, none⟩)] Try.func94 (by kernel_rfl) rfl #[.int .i64 ay, .int .i64 ty, .pointer (some ⟨w8.heap.size, 0, none⟩), .pointer (some ⟨w7.heap.size, 0, none⟩)] (by rfl) rfl rfl (by rfl) (by simp only [List.map_toArray, List.map_cons, List.map_nil, List.append_toArray, List.cons_append, List.nil_append]; rfl) ?_
                  with_reducible refine ((HPX.out _ ((HB.out.block _ (blk_lt HK.out)).trans HK.out)).2.1).mono ?_
                  rintro en wz ⟨rfl, hb⟩
                  have HA := Lh ((hb.block _ (blk_lt HA.out)).trans HA.out)
                  have HB := Lh (HB.out.trans (hb.mono HB.out.size))
                  clear hb
                  refine ⟨_, rfl, ?_⟩
                  refine hK.out _ _ ⟨(HB.out.cell (p := ⟨w.heap.size, 0, none⟩) (xl)).trans x0, (HB.out.cell (p := ⟨w.heap.size, 1, none⟩) (xl)).trans x1, (HB.out.cell (p := ⟨w.heap.size, 2, none⟩) (xl)).trans x2, (HB.out.cell (p := ⟨w.heap.size + 1, 0, none⟩) (kl)).trans k0, (HB.out.cell (p := ⟨w.heap.size + 1, 1, none⟩) (kl)).trans k1, (HB.out.cell (p := ⟨w.heap.size + 1, 2, none⟩) (kl)).trans k2⟩ (fun hHeld => ?_)
                  clear hK K
                  refine norm_ (a' := ?_) ?_ ?_
                  rotate_left
                  · show Act.put _ (some 105) _ = _
                    simp only [Act.put, List.setIfInBounds_toArray, List.set_cons_zero, List.set_cons_succ, i64_w, i32_w]
                    rfl
                  refine one_ (i := 17) (N := some 111) #[true, true, true, true, true, true, true, true, true, true, true, true, true, true, true, true, true, true, false, true, false] rfl rfl (by kernel_rfl) (by decide) (fun K hK => ?_)
                  refine goesf_ (.tmp 106) #[.pointer (some ⟨w8.heap.size, 0, none⟩), .pointer (some ⟨w7.heap.size, 0, none⟩)] Try.func94 (by kernel_rfl) rfl #[.int .i64 az, .int .i64 tz, .pointer (some ⟨w8.heap.size, 0, none⟩), .pointer (some ⟨w7.heap.size, 0, none⟩)] (by rfl) rfl rfl (by rfl) (by simp only [List.map_toArray, List.map_cons, List.map_nil, List.append_toArray, List.cons_append, List.nil_append]; rfl) ?_
                  with_reducible refine ((HPX.out _ ((HB.out.block _ (blk_lt HK.out)).trans HK.out)).2.2).mono ?_
                  rintro en wz ⟨rfl, hb⟩
                  have HA := Lh ((hb.block _ (blk_lt HA.out)).trans HA.out)
                  have HB := Lh (HB.out.trans (hb.mono HB.out.size))
                  clear hb
                  refine ⟨_, rfl, ?_⟩
                  refine hK.out _ _ ⟨(HB.out.cell (p := ⟨w.heap.size, 0, none⟩) (xl)).trans x0, (HB.out.cell (p := ⟨w.heap.size, 1, none⟩) (xl)).trans x1, (HB.out.cell (p := ⟨w.heap.size, 2, none⟩) (xl)).trans x2, (HB.out.cell (p := ⟨w.heap.size + 1, 0, none⟩) (kl)).trans k0, (HB.out.cell (p := ⟨w.heap.size + 1, 1, none⟩) (kl)).trans k1, (HB.out.cell (p := ⟨w.heap.size + 1, 2, none⟩) (kl)).trans k2⟩ (fun hHeld => ?_)
                  clear hK K
                  refine norm_ (a' := ?_) ?_ ?_
                  rotate_left
                  · show Act.put _ (some 111) _ = _
                    simp only [Act.put, List.setIfInBounds_toArray, List.set_cons_zero, List.set_cons_succ, i64_w, i32_w]
                    rfl
                  refine pure_ (i := 18) (N := some 112) (v := ?_) (a' := ?_) #[true, true, true, true, true, true, true, true, true, true, true, true, true, true, true, true, true, true, true, true, false] rfl rfl (by kernel_rfl) (fun _ _ _ h => h) (Or.inl ⟨by rfl, ?_⟩) ?_ ?_
                  rotate_left
                  · intro w'
                    go_simp
                    with_reducible rfl
                  rotate_left
                  · simp only [Act.put, List.setIfInBounds_toArray, List.set_cons_zero, List.set_cons_succ, i64_w, i32_w]
                    rfl
                  exact norm_ (by simp only [putAll, Act.put, List.setIfInBounds_toArray, List.set_cons_zero, List.set_cons_succ]) (hCont _ _ ⟨hge, HA.out, HB.out⟩)
              · skip
                refine value_ (w1 := ?_) (v := ?_) (by rfl) rfl ?_ ?_
                rotate_left 2
                · go_simp
                  constructor
                  · rfl
                  · rfl
                have HA := Lh (ha_new HB.out (.cells #[.int .i64 0, .int .i64 0, .int .i64 0] 27))
                have hge := HB.out.size
                have HB := Lh (HB.out.alloc (Nat.le_trans (Nat.le_refl _) HB.out.size) (.cells #[.int .i64 0, .int .i64 0, .int .i64 0] 27))
                refine hK.out _ _ ⟨(HB.out.cell (p := ⟨w.heap.size, 0, none⟩) (xl)).trans x0, (HB.out.cell (p := ⟨w.heap.size, 1, none⟩) (xl)).trans x1, (HB.out.cell (p := ⟨w.heap.size, 2, none⟩) (xl)).trans x2, (HB.out.cell (p := ⟨w.heap.size + 1, 0, none⟩) (kl)).trans k0, (HB.out.cell (p := ⟨w.heap.size + 1, 1, none⟩) (kl)).trans k1, (HB.out.cell (p := ⟨w.heap.size + 1, 2, none⟩) (kl)).trans k2⟩ (fun hHeld => ?_)
                clear hK K
                refine norm_ (a' := ?_) ?_ ?_
                rotate_left
                · show Act.put _ (some 21) _ = _
                  simp only [Act.put, List.setIfInBounds_toArray, List.set_cons_zero, List.set_cons_succ, i64_w, i32_w]
                  rfl
                refine one_ (i := 5) (N := some 99) #[true, true, true, true, true, true, true, true, true, true, true, false, true, true, true, true, true, false, false, true, false] rfl rfl (by kernel_rfl) (by decide) (fun K hK => ?_)
                refine goesf_ (.tmp 94) #[.pointer (some ⟨w8.heap.size, 0, none⟩), .pointer (some ⟨w7.heap.size, 0, none⟩)] Try.func94 (by kernel_rfl) rfl #[.int .i64 ax, .int .i64 tx, .pointer (some ⟨w8.heap.size, 0, none⟩), .pointer (some ⟨w7.heap.size, 0, none⟩)] (by rfl) rfl rfl (by rfl) (by simp only [List.map_toArray, List.map_cons, List.map_nil, List.append_toArray, List.cons_append, List.nil_append]; rfl) ?_
                with_reducible refine ((HPX.out _ ((HB.out.block _ (blk_lt HK.out)).trans HK.out)).1).mono ?_
                rintro en wz ⟨rfl, hb⟩
                have HA := Lh ((hb.block _ (blk_lt HA.out)).trans HA.out)
                have HB := Lh (HB.out.trans (hb.mono HB.out.size))
                clear hb
                refine ⟨_, rfl, ?_⟩
                refine hK.out _ _ ⟨(HB.out.cell (p := ⟨w.heap.size, 0, none⟩) (xl)).trans x0, (HB.out.cell (p := ⟨w.heap.size, 1, none⟩) (xl)).trans x1, (HB.out.cell (p := ⟨w.heap.size, 2, none⟩) (xl)).trans x2, (HB.out.cell (p := ⟨w.heap.size + 1, 0, none⟩) (kl)).trans k0, (HB.out.cell (p := ⟨w.heap.size + 1, 1, none⟩) (kl)).trans k1, (HB.out.cell (p := ⟨w.heap.size + 1, 2, none⟩) (kl)).trans k2⟩ (fun hHeld => ?_)
                clear hK K
                refine norm_ (a' := ?_) ?_ ?_
                rotate_left
                · show Act.put _ (some 99) _ = _
                  simp only [Act.put, List.setIfInBounds_toArray, List.set_cons_zero, List.set_cons_succ, i64_w, i32_w]
                  rfl
                refine one_ (i := 11) (N := some 105) #[true, true, true, true, true, true, true, true, true, true, true, true, true, true, true, true, true, false, false, true, false] rfl rfl (by kernel_rfl) (by decide) (fun K hK => ?_)
                refine goesf_ (.tmp 100) #[.pointer (some ⟨w8.heap.size, 0, none⟩), .pointer (some ⟨w7.heap.size, 0, none⟩)] Try.func94 (by kernel_rfl) rfl #[.int .i64 ay, .int .i64 ty, .pointer (some ⟨w8.heap.size, 0, none⟩), .pointer (some ⟨w7.heap.size, 0, none⟩)] (by rfl) rfl rfl (by rfl) (by simp only [List.map_toArray, List.map_cons, List.map_nil, List.append_toArray, List.cons_append, List.nil_append]; rfl) ?_
                with_reducible refine ((HPX.out _ ((HB.out.block _ (blk_lt HK.out)).trans HK.out)).2.1).mono ?_
                rintro en wz ⟨rfl, hb⟩
                have HA := Lh ((hb.block _ (blk_lt HA.out)).trans HA.out)
                have HB := Lh (HB.out.trans (hb.mono HB.out.size))
                clear hb
                refine ⟨_, rfl, ?_⟩
                refine hK.out _ _ ⟨(HB.out.cell (p := ⟨w.heap.size, 0, none⟩) (xl)).trans x0, (HB.out.cell (p := ⟨w.heap.size, 1, none⟩) (xl)).trans x1, (HB.out.cell (p := ⟨w.heap.size, 2, none⟩) (xl)).trans x2, (HB.out.cell (p := ⟨w.heap.size + 1, 0, none⟩) (kl)).trans k0, (HB.out.cell (p := ⟨w.heap.size + 1, 1, none⟩) (kl)).trans k1, (HB.out.cell (p := ⟨w.heap.size + 1, 2, none⟩) (kl)).trans k2⟩ (fun hHeld => ?_)
                clear hK K
                refine norm_ (a' := ?_) ?_ ?_
                rotate_left
                · show Act.put _ (some 105) _ = _
                  simp only [Act.put, List.setIfInBounds_toArray, List.set_cons_zero, List.set_cons_succ, i64_w, i32_w]
                  rfl
                refine one_ (i := 17) (N := some 111) #[true, true, true, true, true, true, true, true, true, true, true, true, true, true, true, true, true, true, false, true, false] rfl rfl (by kernel_rfl) (by decide) (fun K hK => ?_)
                refine goesf_ (.tmp 106) #[.pointer (some ⟨w8.heap.size, 0, none⟩), .pointer (some ⟨w7.heap.size, 0, none⟩)] Try.func94 (by kernel_rfl) rfl #[.int .i64 az, .int .i64 tz, .pointer (some ⟨w8.heap.size, 0, none⟩), .pointer (some ⟨w7.heap.size, 0, none⟩)] (by rfl) rfl rfl (by rfl) (by simp only [List.map_toArray, List.map_cons, List.map_nil, List.append_toArray, List.cons_append, List.nil_append]; rfl) ?_
                with_reducible refine ((HPX.out _ ((HB.out.block _ (blk_lt HK.out)).trans HK.out)).2.2).mono ?_
                rintro en wz ⟨rfl, hb⟩
                have HA := Lh ((hb.block _ (blk_lt HA.out)).trans HA.out)
                have HB := Lh (HB.out.trans (hb.mono HB.out.size))
                clear hb
                refine ⟨_, rfl, ?_⟩
                refine hK.out _ _ ⟨(HB.out.cell (p := ⟨w.heap.size, 0, none⟩) (xl)).trans x0, (HB.out.cell (p := ⟨w.heap.size, 1, none⟩) (xl)).trans x1, (HB.out.cell (p := ⟨w.heap.size, 2, none⟩) (xl)).trans x2, (HB.out.cell (p := ⟨w.heap.size + 1, 0, none⟩) (kl)).trans k0, (HB.out.cell (p := ⟨w.heap.size + 1, 1, none⟩) (kl)).trans k1, (HB.out.cell (p := ⟨w.heap.size + 1, 2, none⟩) (kl)).trans k2⟩ (fun hHeld => ?_)
                clear hK K
                refine norm_ (a' := ?_) ?_ ?_
                rotate_left
                · show Act.put _ (some 111) _ = _
                  simp only [Act.put, List.setIfInBounds_toArray, List.set_cons_zero, List.set_cons_succ, i64_w, i32_w]
                  rfl
                refine pure_ (i := 18) (N := some 112) (v := ?_) (a' := ?_) #[true, true, true, true, true, true, true, true, true, true, true, true, true, true, true, true, true, true, true, true, false] rfl rfl (by kernel_rfl) (fun _ _ _ h => h) (Or.inl ⟨by rfl, ?_⟩) ?_ ?_
                rotate_left
                · intro w'
                  go_simp
                  with_reducible rfl
                rotate_left
                · simp only [Act.put, List.setIfInBounds_toArray, List.set_cons_zero, List.set_cons_succ, i64_w, i32_w]
                  rfl
                exact norm_ (by simp only [putAll, Act.put, List.setIfInBounds_toArray, List.set_cons_zero, List.set_cons_succ]) (hCont _ _ ⟨hge, HA.out, HB.out⟩)
            rintro AB wj ⟨hge, HA, HB⟩
            (try simp only at hge HA HB)
            have HA := Lh HA
            have HB := Lh HB
            have hHeld : wj.cell? ⟨w.heap.size, 0, none⟩ = some (.int .i64 ax) ∧ wj.cell? ⟨w.heap.size, 1, none⟩ = some (.int .i64 ay) ∧ wj.cell? ⟨w.heap.size, 2, none⟩ = some (.int .i64 az) ∧ wj.cell? ⟨w.heap.size + 1, 0, none⟩ = some (.int .i64 tx) ∧ wj.cell? ⟨w.heap.size + 1, 1, none⟩ = some (.int .i64 ty) ∧ wj.cell? ⟨w.heap.size + 1, 2, none⟩ = some (.int .i64 tz) := ⟨(HB.out.cell (p := ⟨w.heap.size, 0, none⟩) (xl)).trans x0, (HB.out.cell (p := ⟨w.heap.size, 1, none⟩) (xl)).trans x1, (HB.out.cell (p := ⟨w.heap.size, 2, none⟩) (xl)).trans x2, (HB.out.cell (p := ⟨w.heap.size + 1, 0, none⟩) (kl)).trans k0, (HB.out.cell (p := ⟨w.heap.size + 1, 1, none⟩) (kl)).trans k1, (HB.out.cell (p := ⟨w.heap.size + 1, 2, none⟩) (kl)).trans k2⟩
            refine norm_ (a' := ?_) ?_ ?_
            rotate_left
            · simp only [putAll, Act.put, List.setIfInBounds_toArray, List.set_cons_zero, List.set_cons_succ]
              rfl
            refine one_ (i := 20) (N := none) #[true, true, true, true, true, true, true, true, true, true, true, true, true, true, true, true, true, true, true, true, true] rfl rfl (by kernel_rfl) (by decide) (fun K hK => ?_)
            have sc0 : World.cell? _ ⟨AB, 0, none⟩ = some (.int .i64 0) := (blk_cell HA.out 0).trans rfl
            have sf0 := blk_frozen HA.out 0
            have sc1 : World.cell? _ ⟨AB, 1, none⟩ = some (.int .i64 0) := (blk_cell HA.out 1).trans rfl
            have sf1 := blk_frozen HA.out 1
            have sc2 : World.cell? _ ⟨AB, 2, none⟩ = some (.int .i64 0) := (blk_cell HA.out 2).trans rfl
            have sf2 := blk_frozen HA.out 2
            refine skip_ (w1 := ?_) (by rfl) rfl ?_ ?_
            rotate_left
            · go_simp
              rfl
            have HA := Lh (bs3 HA.out (.int .i64 rx) (.int .i64 ry) (.int .i64 rz))
            have HB := Lh (bb3 HB.out (Nat.le_trans (Nat.le_refl _) hge) (.int .i64 rx) (.int .i64 ry) (.int .i64 rz))
            clear sc0 sf0 sc1 sf1 sc2 sf2
            refine hK.out _ _ ⟨(HB.out.cell (p := ⟨w.heap.size, 0, none⟩) (xl)).trans x0, (HB.out.cell (p := ⟨w.heap.size, 1, none⟩) (xl)).trans x1, (HB.out.cell (p := ⟨w.heap.size, 2, none⟩) (xl)).trans x2, (HB.out.cell (p := ⟨w.heap.size + 1, 0, none⟩) (kl)).trans k0, (HB.out.cell (p := ⟨w.heap.size + 1, 1, none⟩) (kl)).trans k1, (HB.out.cell (p := ⟨w.heap.size + 1, 2, none⟩) (kl)).trans k2⟩ (fun hHeld => ?_)
            clear hK K
            refine done_ (by kernel_rfl) ?_
            obtain ⟨wb, hwn⟩ : ∃ V, (((wj.setCell ⟨AB, 0, none⟩ (.int .i64 rx)).setCell ⟨AB, 1, none⟩ (.int .i64 ry)).setCell ⟨AB, 2, none⟩ (.int .i64 rz)) = V := ⟨_, rfl⟩
            rw [hwn] at HA HB ⊢
            clear hwn
            have hb := HB.out
            have hnA : Hid (AB ≠ w.heap.size + 1 + 1) := Lh (Nat.ne_of_gt (Nat.lt_of_lt_of_le (blk_lt Z.out) hge))
            replace F := Lh ((hb.block _ (blk_lt F.out)).trans F.out)
            replace T := Lh ((hb.block _ (blk_lt T.out)).trans T.out)
            replace Z := Lh ((hb.block _ (blk_lt Z.out)).trans Z.out)
            replace HK := Lh ((hb.block _ (blk_lt HK.out)).trans HK.out)
            replace HO := Lh ((hb.block _ (blk_lt HO.out)).trans HO.out)
            replace W := Lh (bthen W.out hb)
            clear x0 x1 x2 xl k0 k1 k2 kl hHeld HB hb hge HPX
            have o0 : wb.cell? ⟨w8.heap.size, 0, none⟩ = some (.bool false) := (blk_cell HO.out 0).trans rfl
            have ol : w8.heap.size < wb.heap.size := blk_lt HO.out
            go_wp2_with fail
            clear o0 ol
            have u0 : wb.cell? ⟨AB, 0, none⟩ = some (.int .i64 rx) := (blk_cell HA.out 0).trans rfl
            have u1 : wb.cell? ⟨AB, 1, none⟩ = some (.int .i64 ry) := (blk_cell HA.out 1).trans rfl
            have u2 : wb.cell? ⟨AB, 2, none⟩ = some (.int .i64 rz) := (blk_cell HA.out 2).trans rfl
            have ul : AB < wb.heap.size := blk_lt HA.out
            have v0 : wb.cell? ⟨w7.heap.size, 0, none⟩ = some (.int .i64 (LK : Int)) := (blk_cell HK.out 0).trans rfl
            have vl : w7.heap.size < wb.heap.size := blk_lt HK.out
            have HB := Lh ((Below.refl (wb.heap.size) wb).drew)
            refine start_ (n := 4) (S := fun w' => w'.cell? ⟨AB, 0, none⟩ = some (.int .i64 rx) ∧ w'.cell? ⟨AB, 1, none⟩ = some (.int .i64 ry) ∧ w'.cell? ⟨AB, 2, none⟩ = some (.int .i64 rz) ∧ w'.cell? ⟨w7.heap.size, 0, none⟩ = some (.int .i64 (LK : Int))) (ds := []) #[false, false, false, false] (by kernel_rfl) rfl rfl ⟨(HB.out.cell (p := ⟨AB, 0, none⟩) (ul)).trans u0, (HB.out.cell (p := ⟨AB, 1, none⟩) (ul)).trans u1, (HB.out.cell (p := ⟨AB, 2, none⟩) (ul)).trans u2, (HB.out.cell (p := ⟨w7.heap.size, 0, none⟩) (vl)).trans v0⟩ (fun hHeld => ?_)
            obtain ⟨wd, hwd⟩ : ∃ x, wb.drew = x := ⟨_, rfl⟩
            rw [hwd] at HB hHeld ⊢
            clear hwd
            refine take_ (i := 0) (N := some 119) (v := ?_) (a' := ?_) #[true, false, false, false] rfl rfl (by kernel_rfl) (fun _ _ _ h => h) (Or.inl ⟨by rfl, ?_⟩) hHeld ?_ ?_
            rotate_left
            · rintro w' ⟨s0, s1, s2, s3⟩
              go_simp
              with_reducible rfl
            rotate_left
            · simp only [Act.put, List.setIfInBounds_toArray, List.set_cons_zero, List.set_cons_succ, i64_w, i32_w]
              rfl
            refine take_ (i := 1) (N := some 120) (v := ?_) (a' := ?_) #[true, true, false, false] rfl rfl (by kernel_rfl) (fun _ _ _ h => h) (Or.inl ⟨by rfl, ?_⟩) hHeld ?_ ?_
            rotate_left
            · rintro w' ⟨s0, s1, s2, s3⟩
              go_simp
              with_reducible rfl
            rotate_left
            · simp only [Act.put, List.setIfInBounds_toArray, List.set_cons_zero, List.set_cons_succ, i64_w, i32_w]
              rfl
            refine one_ (i := 2) (N := none) #[true, true, true, false] rfl rfl (by kernel_rfl) (by decide) (fun K hK => ?_)
            have R4 := (HB.out.block _ (blk_lt Z.out)).trans Z.out
            have RA := (HB.out.block _ (blk_lt HA.out)).trans HA.out
            have RK := (HB.out.block _ (blk_lt HK.out)).trans HK.out
            have sc0 : World.cell? _ ⟨w.heap.size + 1 + 1, 0, none⟩ = some (.int .i64 0) := (blk_cell R4 0).trans rfl
            have sf0 : World.frozen? _ ⟨w.heap.size + 1 + 1, 0, none⟩ = false := blk_frozen R4 0
            have sc1 : World.cell? _ ⟨w.heap.size + 1 + 1, 1, none⟩ = some (.int .i64 0) := (blk_cell R4 1).trans rfl
            have sf1 : World.frozen? _ ⟨w.heap.size + 1 + 1, 1, none⟩ = false := blk_frozen R4 1
            have sc2 : World.cell? _ ⟨w.heap.size + 1 + 1, 2, none⟩ = some (.int .i64 0) := (blk_cell R4 2).trans rfl
            have sf2 : World.frozen? _ ⟨w.heap.size + 1 + 1, 2, none⟩ = false := blk_frozen R4 2
            refine skip_ (w1 := ?_) (by rfl) rfl ?_ ?_
            rotate_left
            · go_simp
              rfl
            replace RA := (bo3 hnA.out (.int .i64 rx) (.int .i64 ry) (.int .i64 rz)).trans RA
            replace RK := (bo3 hnK.out (.int .i64 rx) (.int .i64 ry) (.int .i64 rz)).trans RK
            replace R4 := bs3 R4 (.int .i64 rx) (.int .i64 ry) (.int .i64 rz)
            have HBV := bb3 (bthen W.out HB.out) (show w.heap.size ≤ w.heap.size + 1 + 1 by omega) (.int .i64 rx) (.int .i64 ry) (.int .i64 rz)
            clear sc0 sc1 sc2 sf0 sf1 sf2
            refine hK.out _ _ ⟨(blk_cell RA 0).trans rfl, (blk_cell RA 1).trans rfl, (blk_cell RA 2).trans rfl, (blk_cell RK 0).trans rfl⟩ (fun hHeld => ?_)
            clear hK K
            refine pure_ (i := 3) (N := some 11) (v := ?_) (a' := ?_) #[true, true, true, true] rfl rfl (by kernel_rfl) (fun _ _ _ h => h) (Or.inl ⟨by rfl, ?_⟩) ?_ ?_
            rotate_left
            · intro w'
              go_simp
              with_reducible rfl
            rotate_left
            · simp only [Act.put, List.setIfInBounds_toArray, List.set_cons_zero, List.set_cons_succ, i64_w, i32_w]
              rfl
            refine done_ (by kernel_rfl) ?_
            obtain ⟨V, hV⟩ : ∃ V, (((wd.setCell ⟨w.heap.size + 1 + 1, 0, none⟩ (.int .i64 rx)).setCell ⟨w.heap.size + 1 + 1, 1, none⟩ (.int .i64 ry)).setCell ⟨w.heap.size + 1 + 1, 2, none⟩ (.int .i64 rz)) = V := ⟨_, rfl⟩
            rw [hV] at R4 HBV
            (try rw [hV])
            have t0 : V.cell? ⟨w.heap.size + 1 + 1, 0, none⟩ = some (.int .i64 rx) := (blk_cell R4 0).trans rfl
            have t1 : V.cell? ⟨w.heap.size + 1 + 1, 1, none⟩ = some (.int .i64 ry) := (blk_cell R4 1).trans rfl
            have t2 : V.cell? ⟨w.heap.size + 1 + 1, 2, none⟩ = some (.int .i64 rz) := (blk_cell R4 2).trans rfl
            clear RA RK hHeld HB u0 u1 u2 ul v0 vl
            go_wp2
            (try rw [hV])
            exact bodyPost_ret (v := .tuple #[.agg #[.int .i64 rx, .int .i64 ry, .int .i64 rz], .int .i64 (LK : Int)]) (by simp [results, Try.results50, go_sem, t0, t1, t2]) rfl ⟨by rw [HR.out], HBV⟩
end Go.Proofs.Ytckdhahceelckaa.G
namespace Go.Proofs.Ytckdhahceelckaa.G
open Go.RowKit Go.Proofs.YtckdhahceelckaaW.PrintWords Go.Proofs.YtckdhahceelckaaW.PrintLast Go.Proofs.YtckdhahceelckaaW.PrintMore
attribute [local go_sem] max2_mx min2_mn max_two min_two max_three min_three max_four min_four
attribute [local go_sem high] eqA23 eqA40
set_option linter.unusedVariables false
set_option linter.unusedSimpArgs false
def exC : Cr := ⟨[⟨3, 0, 0⟩], [], [], 2⟩
theorem exC_may : exC.may = true := mayOne (by unfold in3; decide) (by decide) (by decide)
theorem exA_may : exA.may = true := mayOne (by unfold in3; decide) (by decide) (by decide)
theorem exC_gaps : gapsF E1 ⟨0, 0, 0⟩ [] 2 ⟨3, 0, 0⟩ [] 2 = (-1, -7) := by
  have d0 : dot3 E1 ⟨0, 0, 0⟩ = 0 := by decide +kernel
  have d3 : dot3 E1 ⟨3, 0, 0⟩ = 3145728 := by decide +kernel
  have ha : reachF E1 ⟨0, 0, 0⟩ [] = (0, 0) := by simp [reachF, d0]
  have hb : reachF E1 ⟨3, 0, 0⟩ [] = (3145728, 3145728) := by simp [reachF, d3]
  obtain ⟨hf, hc⟩ := sizes_x
  unfold gapsF
  rw [ha, hb, hf, hc]
  unfold gapV
  simp only
  rw [if_pos (by omega), if_neg (by omega)]
  simp only [Prod.mk.injEq]
  omega
theorem exC_first : (apS exA exC).1.2 = -1 := by
  rw [apS_val exA_may exC_may]
  have hr : rawC [⟨0, 0, 0⟩] [] [] [⟨3, 0, 0⟩] [] [] = [⟨1, 0, 0⟩] := by
    rw [rawC_balls, show minus3 ⟨3, 0, 0⟩ ⟨0, 0, 0⟩ = ⟨3, 0, 0⟩ from p3_of (by decide +kernel), short_x 3 (by decide) (by decide)]
  have hE : E1 ≠ ⟨0, 0, 0⟩ := by
    intro e
    have : E1.x = 0 := by rw [e]
    revert this
    decide +kernel
  show (apartF [⟨0, 0, 0⟩] [] [] 2 [⟨3, 0, 0⟩] [] [] 2).2 = _
  unfold apartF
  rw [hr, show [(⟨0, 0, 0⟩ : P3)].tail = [] from rfl, show [(⟨0, 0, 0⟩ : P3)].headD ⟨0, 0, 0⟩ = ⟨0, 0, 0⟩ from rfl, show [(⟨3, 0, 0⟩ : P3)].tail = [] from rfl, show [(⟨3, 0, 0⟩ : P3)].headD ⟨0, 0, 0⟩ = ⟨3, 0, 0⟩ from rfl]
  unfold apF
  rw [List.foldl_cons, List.foldl_nil]
  unfold apStep
  rw [long_1, if_neg hE, exC_gaps]
  simp only [true_or, if_true]
  rw [if_neg (by omega)]
theorem cast_neg0 {c d : Cr} {y : P3} (h : (apS c d).1.2 < 0) (m : Nat) : hstep c y m d = m := by
  unfold hstep
  by_cases ok : castOk c y d = true
  · rw [if_neg]
    rintro ⟨_, h2⟩
    unfold castF at h2
    rw [if_pos ok, castL_neg h] at h2
    simp only at h2
    omega
  · rw [if_neg]
    rintro ⟨h1, _⟩
    unfold castF at h1
    rw [if_neg ok] at h1
    cases h1
theorem ex_ball : ballC ⟨0, 0, 0⟩ 2 = exA ∧ wayC ⟨0, 0, 0⟩ ⟨33554432, 0, 0⟩ = ⟨32, 0, 0⟩ := ⟨rfl, rfl⟩
theorem ex_holdMay : holdMay ⟨0, 0, 0⟩ ⟨33554432, 0, 0⟩ 2 = true := (holdMay_iff ..).2 ⟨exA_may, by unfold in3; decide, by unfold in3; decide, by rw [ex_ball.2]; unfold in3; decide⟩
theorem leastH_one (c : Cr) (y : P3) (m : Nat) (d : Cr) : leastH c y m [d] = hstep c y m d := by unfold leastH; rw [List.foldl_cons, List.foldl_nil]
theorem ex_least1 : leastH exA ⟨32, 0, 0⟩ 16 [exB] = 8 := by
  rw [leastH_one, hstep_yes ex_castA (Int.le_refl 0)]
  rfl
theorem ex_out1 : outP ⟨0, 0, 0⟩ ⟨33554432, 0, 0⟩ 8 = ⟨16777216, 0, 0⟩ := by
  unfold outP outC
  simp only [P3.mk.injEq]
  omega
theorem ex_hold1 : holdF ⟨0, 0, 0⟩ ⟨33554432, 0, 0⟩ 2 [exB] = (⟨16777216, 0, 0⟩, 8) := by
  have h := holdF_yes (l := [exB]) ex_holdMay (k := 8) (by rw [ex_ball.1, ex_ball.2]; exact ex_least1)
  rw [h]
  exact congrArg (fun t => (t, 8)) ex_out1
theorem ex_hold2 : holdF ⟨0, 0, 0⟩ ⟨33554432, 0, 0⟩ 2 [exC] = (⟨33554432, 0, 0⟩, 16) := by
  refine holdF_16 ex_holdMay ?_
  rw [ex_ball.1, ex_ball.2, leastH_one]
  exact cast_neg0 (by rw [exC_first]; decide) 16
end Go.Proofs.Ytckdhahceelckaa.G
namespace Go.Proofs.Ytckdhahceelckaa.G
open Go.RowKit Go.Proofs.YtckdhahceelckaaW.PrintWords Go.Proofs.YtckdhahceelckaaW.PrintLast Go.Proofs.YtckdhahceelckaaW.PrintMore
attribute [local go_sem] max2_mx min2_mn max_two min_two max_three min_three max_four min_four
attribute [local go_sem high] eqA23 eqA40
set_option linter.unusedVariables false
set_option linter.unusedSimpArgs false
theorem eqA27 (d : Nat) (w : World) (x0 y0 : Int) (x1 y1 : Int) (x2 y2 : Int) :
    (Op.equalIn (d + 2) 27 (.agg #[.int .i64 x0, .int .i64 x1, .int .i64 x2]) (.agg #[.int .i64 y0, .int .i64 y1, .int .i64 y2])).run Try.prog w = .ok (eqP x0 x1 x2 y0 y1 y2) w := by
  unfold eqP
  refine eqA_of Try.underlying27 (by kernel_rfl) ?_
  refine eqf_cons (by rfl) (by go_simp; rfl) (by go_simp; rfl) (by go_simp) ?_
  refine eqf_cons (by rfl) (by go_simp; rfl) (by go_simp; rfl) (by go_simp) ?_
  exact eqf_last (by rfl) (by go_simp; rfl) (by go_simp; rfl) (by go_simp)
attribute [local go_sem high] eqA27
set_option maxHeartbeats 4000000 in
set_option maxRecDepth 100000 in
theorem awake18_calls (w : World) : Calls Try.prog 49 #[] w fun e w' => e = .returned (.bool true) ∧ Below w.heap.size w w' := by
  have H1 := Lh (fun (vw : Value) (W : World) A (hl : RdC W A [exB]) => hold_calls vw ⟨0, 0, 0⟩ ⟨33554432, 0, 0⟩ 2 [exB] A 1 1 hl rfl (by decide) (by unfold in3; decide) (by unfold in3; decide))
  have H2 := Lh (fun (vw : Value) (W : World) A (hl : RdC W A [exC]) => hold_calls vw ⟨0, 0, 0⟩ ⟨33554432, 0, 0⟩ 2 [exC] A 1 1 hl rfl (by decide) (by unfold in3; decide) (by unfold in3; decide))
  rw [ex_hold1] at H1
  rw [ex_hold2] at H2
  have W := Lh (Below.refl w.heap.size w)
  go_enter Try.func49, Try.ntmps49
  go_upto_region 3 with fail
  have bz := (((Below.refl w.heap.size w).alloc (Nat.le_refl _) (.cells #[.bool false] 83)).alloc (by simp) (.cells #[.int .i64 33554432, .int .i64 0, .int .i64 0] 27))
  have nz0 := heap_alloc_new w (.cells #[.bool false] 83)
  replace nz0 := (Below.heap_alloc _ (.cells #[.int .i64 33554432, .int .i64 0, .int .i64 0] 27) _ (by simp <;> omega)).trans nz0
  have nz1 := heap_alloc_new (w.alloc (.cells #[.bool false] 83)) (.cells #[.int .i64 33554432, .int .i64 0, .int .i64 0] 27)
  simp only [World.size_alloc] at nz1
  obtain ⟨w1, hwz⟩ : ∃ V, ((w.alloc (.cells #[.bool false] 83)).alloc (.cells #[.int .i64 33554432, .int .i64 0, .int .i64 0] 27)) = V := ⟨_, rfl⟩
  rw [hwz] at bz nz0 nz1 ⊢
  replace W := Lh (bthen W.out bz)
  have WK := Lh nz0
  have TT := Lh nz1
  clear hwz bz nz0 nz1
  have t0 : w1.cell? ⟨w.heap.size + 1, 0, none⟩ = some (.int .i64 33554432) := (blk_cell TT.out 0).trans rfl
  have t1 : w1.cell? ⟨w.heap.size + 1, 1, none⟩ = some (.int .i64 0) := (blk_cell TT.out 1).trans rfl
  have t2 : w1.cell? ⟨w.heap.size + 1, 2, none⟩ = some (.int .i64 0) := (blk_cell TT.out 2).trans rfl
  have tl : w.heap.size + 1 < w1.heap.size := blk_lt TT.out
  go_wp2_with fail
  have bz := (((Below.refl w1.heap.size w1).alloc (Nat.le_refl _) (.cells #[.int .i64 20, .int .i64 0, .int .i64 0] 23)).alloc (by simp) (.cells #[.slice (some ⟨w1.heap.size, 0, none⟩) 1 1, .slice none 0 0, .slice none 0 0, .int .i64 2] 36))
  have nz0 := heap_alloc_new w1 (.cells #[.int .i64 20, .int .i64 0, .int .i64 0] 23)
  replace nz0 := (Below.heap_alloc _ (.cells #[.slice (some ⟨w1.heap.size, 0, none⟩) 1 1, .slice none 0 0, .slice none 0 0, .int .i64 2] 36) _ (by simp <;> omega)).trans nz0
  have nz1 := heap_alloc_new (w1.alloc (.cells #[.int .i64 20, .int .i64 0, .int .i64 0] 23)) (.cells #[.slice (some ⟨w1.heap.size, 0, none⟩) 1 1, .slice none 0 0, .slice none 0 0, .int .i64 2] 36)
  simp only [World.size_alloc] at nz1
  obtain ⟨w2, hwz⟩ : ∃ V, ((w1.alloc (.cells #[.int .i64 20, .int .i64 0, .int .i64 0] 23)).alloc (.cells #[.slice (some ⟨w1.heap.size, 0, none⟩) 1 1, .slice none 0 0, .slice none 0 0, .int .i64 2] 36)) = V := ⟨_, rfl⟩
  rw [hwz] at bz nz0 nz1 ⊢
  replace WK := Lh ((bz.block _ (blk_lt WK.out)).trans WK.out)
  replace TT := Lh ((bz.block _ (blk_lt TT.out)).trans TT.out)
  replace W := Lh (bthen W.out bz)
  have PP := Lh nz0
  have CC := Lh nz1
  clear hwz bz nz0 nz1 t0 t1 t2 tl
  have cc : CrV w2 (.agg #[.slice (some ⟨w1.heap.size, 0, none⟩) 1 1, .slice none 0 0, .slice none 0 0, .int .i64 2]) exB := ball_core w2 _ 20 0 0 2 1 (Nat.le_refl _) PP.out
  have hl := RdC_one CC.out cc rfl
  clear PP CC cc
  with_reducible refine (H1.out _ w2 _ hl).mono ?_
  rintro en w3 ⟨rfl, hb⟩
  replace WK := Lh ((hb.block _ (blk_lt WK.out)).trans WK.out)
  replace TT := Lh ((hb.block _ (blk_lt TT.out)).trans TT.out)
  replace W := Lh (bthen W.out hb)
  clear hl
  clear hb
  go_upto_region 4 with fail
  have bz := ((Below.refl w3.heap.size w3).alloc (Nat.le_refl _) (.cells #[.int .i64 16777216, .int .i64 0, .int .i64 0] 27))
  have nz0 := heap_alloc_new w3 (.cells #[.int .i64 16777216, .int .i64 0, .int .i64 0] 27)
  obtain ⟨w4, hwz⟩ : ∃ V, (w3.alloc (.cells #[.int .i64 16777216, .int .i64 0, .int .i64 0] 27)) = V := ⟨_, rfl⟩
  rw [hwz] at bz nz0 ⊢
  replace WK := Lh ((bz.block _ (blk_lt WK.out)).trans WK.out)
  replace TT := Lh ((bz.block _ (blk_lt TT.out)).trans TT.out)
  replace W := Lh (bthen W.out bz)
  have O1 := Lh nz0
  clear hwz bz nz0
  have t0 : w4.cell? ⟨w.heap.size + 1, 0, none⟩ = some (.int .i64 33554432) := (blk_cell TT.out 0).trans rfl
  have t1 : w4.cell? ⟨w.heap.size + 1, 1, none⟩ = some (.int .i64 0) := (blk_cell TT.out 1).trans rfl
  have t2 : w4.cell? ⟨w.heap.size + 1, 2, none⟩ = some (.int .i64 0) := (blk_cell TT.out 2).trans rfl
  have tl : w.heap.size + 1 < w4.heap.size := blk_lt TT.out
  go_wp2_with fail
  have bz := (((Below.refl w4.heap.size w4).alloc (Nat.le_refl _) (.cells #[.int .i64 3, .int .i64 0, .int .i64 0] 23)).alloc (by simp) (.cells #[.slice (some ⟨w4.heap.size, 0, none⟩) 1 1, .slice none 0 0, .slice none 0 0, .int .i64 2] 36))
  have nz0 := heap_alloc_new w4 (.cells #[.int .i64 3, .int .i64 0, .int .i64 0] 23)
  replace nz0 := (Below.heap_alloc _ (.cells #[.slice (some ⟨w4.heap.size, 0, none⟩) 1 1, .slice none 0 0, .slice none 0 0, .int .i64 2] 36) _ (by simp <;> omega)).trans nz0
  have nz1 := heap_alloc_new (w4.alloc (.cells #[.int .i64 3, .int .i64 0, .int .i64 0] 23)) (.cells #[.slice (some ⟨w4.heap.size, 0, none⟩) 1 1, .slice none 0 0, .slice none 0 0, .int .i64 2] 36)
  simp only [World.size_alloc] at nz1
  obtain ⟨w5, hwz⟩ : ∃ V, ((w4.alloc (.cells #[.int .i64 3, .int .i64 0, .int .i64 0] 23)).alloc (.cells #[.slice (some ⟨w4.heap.size, 0, none⟩) 1 1, .slice none 0 0, .slice none 0 0, .int .i64 2] 36)) = V := ⟨_, rfl⟩
  rw [hwz] at bz nz0 nz1 ⊢
  replace WK := Lh ((bz.block _ (blk_lt WK.out)).trans WK.out)
  replace TT := Lh ((bz.block _ (blk_lt TT.out)).trans TT.out)
  replace O1 := Lh ((bz.block _ (blk_lt O1.out)).trans O1.out)
  replace W := Lh (bthen W.out bz)
  have PP := Lh nz0
  have CC := Lh nz1
  clear hwz bz nz0 nz1 t0 t1 t2 tl
  have cc : CrV w5 (.agg #[.slice (some ⟨w4.heap.size, 0, none⟩) 1 1, .slice none 0 0, .slice none 0 0, .int .i64 2]) exC := ball_core w5 _ 3 0 0 2 1 (Nat.le_refl _) PP.out
  have hl := RdC_one CC.out cc rfl
  clear PP CC cc
  with_reducible refine (H2.out _ w5 _ hl).mono ?_
  rintro en w6 ⟨rfl, hb⟩
  replace WK := Lh ((hb.block _ (blk_lt WK.out)).trans WK.out)
  replace TT := Lh ((hb.block _ (blk_lt TT.out)).trans TT.out)
  replace O1 := Lh ((hb.block _ (blk_lt O1.out)).trans O1.out)
  replace W := Lh (bthen W.out hb)
  clear hl
  clear hb
  go_upto_region 5 with fail
  have bz := ((Below.refl w6.heap.size w6).alloc (Nat.le_refl _) (.cells #[.int .i64 33554432, .int .i64 0, .int .i64 0] 27))
  have nz0 := heap_alloc_new w6 (.cells #[.int .i64 33554432, .int .i64 0, .int .i64 0] 27)
  obtain ⟨w7, hwz⟩ : ∃ V, (w6.alloc (.cells #[.int .i64 33554432, .int .i64 0, .int .i64 0] 27)) = V := ⟨_, rfl⟩
  rw [hwz] at bz nz0 ⊢
  replace WK := Lh ((bz.block _ (blk_lt WK.out)).trans WK.out)
  replace TT := Lh ((bz.block _ (blk_lt TT.out)).trans TT.out)
  replace O1 := Lh ((bz.block _ (blk_lt O1.out)).trans O1.out)
  replace W := Lh (bthen W.out bz)
  have O2 := Lh nz0
  clear hwz bz nz0
  have k0 : w7.cell? ⟨w.heap.size, 0, none⟩ = some (.bool false) := (blk_cell WK.out 0).trans rfl
  have kl : w.heap.size < w7.heap.size := blk_lt WK.out
  have t0 : w7.cell? ⟨w.heap.size + 1, 0, none⟩ = some (.int .i64 33554432) := (blk_cell TT.out 0).trans rfl
  have t1 : w7.cell? ⟨w.heap.size + 1, 1, none⟩ = some (.int .i64 0) := (blk_cell TT.out 1).trans rfl
  have t2 : w7.cell? ⟨w.heap.size + 1, 2, none⟩ = some (.int .i64 0) := (blk_cell TT.out 2).trans rfl
  have tl : w.heap.size + 1 < w7.heap.size := blk_lt TT.out
  have a0 : w7.cell? ⟨w3.heap.size, 0, none⟩ = some (.int .i64 16777216) := (blk_cell O1.out 0).trans rfl
  have a1 : w7.cell? ⟨w3.heap.size, 1, none⟩ = some (.int .i64 0) := (blk_cell O1.out 1).trans rfl
  have a2 : w7.cell? ⟨w3.heap.size, 2, none⟩ = some (.int .i64 0) := (blk_cell O1.out 2).trans rfl
  have al : w3.heap.size < w7.heap.size := blk_lt O1.out
  have b0 : w7.cell? ⟨w6.heap.size, 0, none⟩ = some (.int .i64 33554432) := (blk_cell O2.out 0).trans rfl
  have b1 : w7.cell? ⟨w6.heap.size, 1, none⟩ = some (.int .i64 0) := (blk_cell O2.out 1).trans rfl
  have b2 : w7.cell? ⟨w6.heap.size, 2, none⟩ = some (.int .i64 0) := (blk_cell O2.out 2).trans rfl
  have bl : w6.heap.size < w7.heap.size := blk_lt O2.out
  go_wp2
  go_ret
  exact ⟨rfl, W.out⟩
end Go.Proofs.Ytckdhahceelckaa.G
