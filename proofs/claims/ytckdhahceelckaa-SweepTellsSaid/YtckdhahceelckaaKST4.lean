/- What the laws of this claim lean on: contracts of the functions that they reach, and plain lemmas; no condition of its own (part 4 of 5; the texts XV25, XV19, XV20, XV27, XL4, XV26, XV29, XV28, XV30). -/
import Derived.Test.YtckdhahceelckaaKST3
namespace Go.Proofs.Ytckdhahceelckaa.G
open Go.RowKit Go.Proofs.YtckdhahceelckaaW.PrintWords Go.Proofs.YtckdhahceelckaaW.PrintLast Go.Proofs.YtckdhahceelckaaW.PrintMore
attribute [local go_sem] max2_mx min2_mn max_two min_two max_three min_three max_four min_four
attribute [local go_sem high] eqA23 eqA40
set_option linter.unusedVariables false
set_option linter.unusedSimpArgs false
set_option maxHeartbeats 16000000 in
set_option maxRecDepth 100000 in
theorem rtrail_in (p a e : List P3) (r : Int) (A0 A1 A2 : Option Addr) (c0 c1 c2 : Nat) (y : P3) (K : Int) (w : World) (hv : CoreV w (.agg #[.slice A0 p.length c0, .slice A1 a.length c1, .slice A2 e.length c2, .int .i64 r]) p a e r) (h0 : RdB w A0 p) (h1 : RdB w A1 a) (h2 : RdB w A2 e) (hl : p.length ≤ 140737488355328 ∧ a.length ≤ 140737488355328 ∧ e.length ≤ 140737488355328) :
    Calls Try.prog 38 #[.agg #[.slice A0 p.length c0, .slice A1 a.length c1, .slice A2 e.length c2, .int .i64 r], aP y, .int .i64 K] w (TrailPost (trailF ⟨p, a, e, r⟩ y K) w) := by
  have HM := Lh (fun (W : World) (hW : CoreV W (.agg #[.slice A0 p.length c0, .slice A1 a.length c1, .slice A2 e.length c2, .int .i64 r]) p a e r) => rmay_calls hW (by omega) (by omega) (by omega))
  have HWY := Lh (fun (W : World) => rway_calls y W)
  have HYES := Lh (fun (h : smay ⟨p, a, e, r⟩ y = true) => (smay_iff ⟨p, a, e, r⟩ y).1 h)
  have HT1 := Lh (fun (h : smay ⟨p, a, e, r⟩ y = true) (g0 : 0 ≤ K) (g1 : K ≤ 16) => trailF_yes (c := ⟨p, a, e, r⟩) h g0 g1)
  have HT0 := Lh (fun (h : smay ⟨p, a, e, r⟩ y = false ∨ K < 0 ∨ 16 < K) => show trailF ⟨p, a, e, r⟩ y K = Cr0 from if_neg (by
    rintro ⟨q0, q1, q2⟩
    rcases h with h | h | h
    · rw [h] at q0; cases q0
    · omega
    · omega))
  have HSM : Hid (smay ⟨p, a, e, r⟩ y = (mayF p a e r && decide (p.length ≤ 16) && wayOk y)) := Lh rfl
  obtain ⟨S, hS⟩ : ∃ S, smay ⟨p, a, e, r⟩ y = S := ⟨_, rfl⟩
  obtain ⟨M1, hM1⟩ : ∃ S, mayF p a e r = S := ⟨_, rfl⟩
  obtain ⟨M2, hM2⟩ : ∃ S, wayOk y = S := ⟨_, rfl⟩
  rw [hS] at HYES HT0 HT1 HSM
  rw [hM1] at HM HSM
  rw [hM2] at HWY HSM
  obtain ⟨T, hT⟩ : ∃ T, trailF ⟨p, a, e, r⟩ y K = T := ⟨_, rfl⟩
  rw [hT] at HT0 HT1 ⊢
  obtain ⟨yx, yy, yz⟩ := y
  (try simp only at HWY)
  obtain ⟨NP, hNP⟩ : ∃ N, p.length = N := ⟨_, rfl⟩
  obtain ⟨NA, hNA⟩ : ∃ N, a.length = N := ⟨_, rfl⟩
  obtain ⟨NE, hNE⟩ : ∃ N, e.length = N := ⟨_, rfl⟩
  have HNP := Lh hNP
  have HNA := Lh hNA
  have HNE := Lh hNE
  rw [hNP, hNA, hNE] at hv HM ⊢
  rw [hNP] at HSM
  have HV := Lh hv
  have H0 := Lh h0
  have H1 := Lh h1
  have H2 := Lh h2
  clear h0 h1 h2 hv hS hT hNP hNA hNE hl hM1 hM2
  have z0 := three0 w (.cells #[.slice A0 NP c0, .slice A1 NA c1, .slice A2 NE c2, .int .i64 r] 36) (.cells #[.int .i64 yx, .int .i64 yy, .int .i64 yz] 23) (.cells #[.slice none 0 0, .slice none 0 0, .slice none 0 0, .int .i64 0] 36)
  have z1 := three1 w (.cells #[.slice A0 NP c0, .slice A1 NA c1, .slice A2 NE c2, .int .i64 r] 36) (.cells #[.int .i64 yx, .int .i64 yy, .int .i64 yz] 23) (.cells #[.slice none 0 0, .slice none 0 0, .slice none 0 0, .int .i64 0] 36)
  have z2 := three2 w (.cells #[.slice A0 NP c0, .slice A1 NA c1, .slice A2 NE c2, .int .i64 r] 36) (.cells #[.int .i64 yx, .int .i64 yy, .int .i64 yz] 23) (.cells #[.slice none 0 0, .slice none 0 0, .slice none 0 0, .int .i64 0] 36)
  have zb := Go.Joins.below_alloc3 w (.cells #[.slice A0 NP c0, .slice A1 NA c1, .slice A2 NE c2, .int .i64 r] 36) (.cells #[.int .i64 yx, .int .i64 yy, .int .i64 yz] 23) (.cells #[.slice none 0 0, .slice none 0 0, .slice none 0 0, .int .i64 0] 36)
  go_enter Try.func38, Try.ntmps38
  go_wp2_with fail
  obtain ⟨w1, hw1⟩ : ∃ V, ((w.alloc (.cells #[.slice A0 NP c0, .slice A1 NA c1, .slice A2 NE c2, .int .i64 r] 36)).alloc (.cells #[.int .i64 yx, .int .i64 yy, .int .i64 yz] 23)).alloc (.cells #[.slice none 0 0, .slice none 0 0, .slice none 0 0, .int .i64 0] 36) = V := ⟨_, rfl⟩
  rw [hw1] at z0 z1 z2 zb ⊢
  clear hw1
  with_reducible refine (HM.out w1 (HV.out.below zb)).mono ?_
  rintro en w1b ⟨rfl, hb⟩
  have Z0 := Lh ((hb.block _ (blk_lt z0)).trans z0)
  have Z1 := Lh ((hb.block _ (blk_lt z1)).trans z1)
  have Z2 := Lh ((hb.block _ (blk_lt z2)).trans z2)
  have ZB := Lh (bthen zb hb)
  have y0 : w1b.cell? ⟨w.heap.size + 1, 0, none⟩ = some (.int .i64 yx) := (blk_cell Z1.out 0).trans rfl
  have y1 : w1b.cell? ⟨w.heap.size + 1, 1, none⟩ = some (.int .i64 yy) := (blk_cell Z1.out 1).trans rfl
  have y2 : w1b.cell? ⟨w.heap.size + 1, 2, none⟩ = some (.int .i64 yz) := (blk_cell Z1.out 2).trans rfl
  have yl : w.heap.size + 1 < w1b.heap.size := blk_lt Z1.out
  clear zb z0 z1 z2 hb HM HV
  go_wp2_with fail
  with_reducible refine (HWY.out _).mono ?_
  rintro en w2 ⟨rfl, hb⟩
  have Z0 := Lh ((hb.block _ (blk_lt Z0.out)).trans Z0.out)
  have Z1 := Lh ((hb.block _ (blk_lt Z1.out)).trans Z1.out)
  have Z2 := Lh ((hb.block _ (blk_lt Z2.out)).trans Z2.out)
  have ZB := Lh (bthen ZB.out hb)
  have H0 := Lh (H0.out.below ZB.out)
  have H1 := Lh (H1.out.below ZB.out)
  have H2 := Lh (H2.out.below ZB.out)
  have HA2L := Lh (fun (hn : e ≠ []) (ad : Addr) (ea : A2 = some ad) => H2.out.2 hn ad ea)
  clear hb y0 y1 y2 yl HWY
  have x0 : w2.cell? ⟨w.heap.size, 0, none⟩ = some (.slice A0 NP c0) := (blk_cell Z0.out 0).trans rfl
  have xl : w.heap.size < w2.heap.size := blk_lt Z0.out
  cases M1 with
  | false =>
    have HT := Lh (HT0.out (.inl (HSM.out.trans rfl)))
    clear HT0 HT1 HYES HSM
    have f0 : w2.frozen? ⟨w.heap.size + 2, 0, none⟩ = false := blk_frozen Z2.out 0
    have r0 : w2.cell? ⟨w.heap.size + 2, 0, none⟩ = some (.slice none 0 0) := (blk_cell Z2.out 0).trans rfl
    have f1 : w2.frozen? ⟨w.heap.size + 2, 1, none⟩ = false := blk_frozen Z2.out 1
    have r1 : w2.cell? ⟨w.heap.size + 2, 1, none⟩ = some (.slice none 0 0) := (blk_cell Z2.out 1).trans rfl
    have f2 : w2.frozen? ⟨w.heap.size + 2, 2, none⟩ = false := blk_frozen Z2.out 2
    have r2 : w2.cell? ⟨w.heap.size + 2, 2, none⟩ = some (.slice none 0 0) := (blk_cell Z2.out 2).trans rfl
    have f3 : w2.frozen? ⟨w.heap.size + 2, 3, none⟩ = false := blk_frozen Z2.out 3
    have r3 : w2.cell? ⟨w.heap.size + 2, 3, none⟩ = some (.int .i64 0) := (blk_cell Z2.out 3).trans rfl
    obtain ⟨V, hV⟩ : ∃ V, set4 w2 (w.heap.size + 1 + 1) (.slice none 0 0) (.slice none 0 0) (.slice none 0 0) (.int .i64 0) = V := ⟨_, rfl⟩
    have HV : V.heap[w.heap.size + 2]? = some (.cells #[.slice none 0 0, .slice none 0 0, .slice none 0 0, .int .i64 0] 36 (0, 0)) := by rw [← hV]; exact blk4_set Z2.out _ _ _ _
    have HBV : Below w.heap.size w V := by rw [← hV]; exact below_set4 ZB.out (by omega) _ _ _ _
    have t0 : V.cell? ⟨w.heap.size + 1 + 1, 0, none⟩ = some (.slice none 0 0) := (blk_cell HV 0).trans rfl
    have t1 : V.cell? ⟨w.heap.size + 1 + 1, 1, none⟩ = some (.slice none 0 0) := (blk_cell HV 1).trans rfl
    have t2 : V.cell? ⟨w.heap.size + 1 + 1, 2, none⟩ = some (.slice none 0 0) := (blk_cell HV 2).trans rfl
    have t3 : V.cell? ⟨w.heap.size + 1 + 1, 3, none⟩ = some (.int .i64 0) := (blk_cell HV 3).trans rfl
    go_wp2
    (try rw [hV])
    exact bodyPost_ret (v := .agg #[.slice none 0 0, .slice none 0 0, .slice none 0 0, .int .i64 0]) (by simp [results, Try.results38, go_sem, t0, t1, t2, t3]) rfl ⟨_, rfl, by rw [HT.out]; exact ⟨none, none, none, 0, 0, 0, rfl, RdB.nil _, RdB.nil _, RdB.nil _, Nat.le_refl _, Nat.le_refl _, Nat.le_refl _⟩, HBV⟩
  | true =>
    cases M2 with
    | false =>
      have HT := Lh (HT0.out (.inl (HSM.out.trans (by simp))))
      clear HT0 HT1 HYES HSM
      have f0 : w2.frozen? ⟨w.heap.size + 2, 0, none⟩ = false := blk_frozen Z2.out 0
      have r0 : w2.cell? ⟨w.heap.size + 2, 0, none⟩ = some (.slice none 0 0) := (blk_cell Z2.out 0).trans rfl
      have f1 : w2.frozen? ⟨w.heap.size + 2, 1, none⟩ = false := blk_frozen Z2.out 1
      have r1 : w2.cell? ⟨w.heap.size + 2, 1, none⟩ = some (.slice none 0 0) := (blk_cell Z2.out 1).trans rfl
      have f2 : w2.frozen? ⟨w.heap.size + 2, 2, none⟩ = false := blk_frozen Z2.out 2
      have r2 : w2.cell? ⟨w.heap.size + 2, 2, none⟩ = some (.slice none 0 0) := (blk_cell Z2.out 2).trans rfl
      have f3 : w2.frozen? ⟨w.heap.size + 2, 3, none⟩ = false := blk_frozen Z2.out 3
      have r3 : w2.cell? ⟨w.heap.size + 2, 3, none⟩ = some (.int .i64 0) := (blk_cell Z2.out 3).trans rfl
      obtain ⟨V, hV⟩ : ∃ V, set4 w2 (w.heap.size + 1 + 1) (.slice none 0 0) (.slice none 0 0) (.slice none 0 0) (.int .i64 0) = V := ⟨_, rfl⟩
      have HV : V.heap[w.heap.size + 2]? = some (.cells #[.slice none 0 0, .slice none 0 0, .slice none 0 0, .int .i64 0] 36 (0, 0)) := by rw [← hV]; exact blk4_set Z2.out _ _ _ _
      have HBV : Below w.heap.size w V := by rw [← hV]; exact below_set4 ZB.out (by omega) _ _ _ _
      have t0 : V.cell? ⟨w.heap.size + 1 + 1, 0, none⟩ = some (.slice none 0 0) := (blk_cell HV 0).trans rfl
      have t1 : V.cell? ⟨w.heap.size + 1 + 1, 1, none⟩ = some (.slice none 0 0) := (blk_cell HV 1).trans rfl
      have t2 : V.cell? ⟨w.heap.size + 1 + 1, 2, none⟩ = some (.slice none 0 0) := (blk_cell HV 2).trans rfl
      have t3 : V.cell? ⟨w.heap.size + 1 + 1, 3, none⟩ = some (.int .i64 0) := (blk_cell HV 3).trans rfl
      go_wp2
      (try rw [hV])
      exact bodyPost_ret (v := .agg #[.slice none 0 0, .slice none 0 0, .slice none 0 0, .int .i64 0]) (by simp [results, Try.results38, go_sem, t0, t1, t2, t3]) rfl ⟨_, rfl, by rw [HT.out]; exact ⟨none, none, none, 0, 0, 0, rfl, RdB.nil _, RdB.nil _, RdB.nil _, Nat.le_refl _, Nat.le_refl _, Nat.le_refl _⟩, HBV⟩
    | true =>
      by_cases tn : 16 < NP
      · have en : decide (16 < (NP : Int)) = true := decide_eq_true (by omega)
        have HT := Lh (HT0.out (.inl (HSM.out.trans (by simp; omega))))
        clear HT0 HT1 HYES HSM
        have f0 : w2.frozen? ⟨w.heap.size + 2, 0, none⟩ = false := blk_frozen Z2.out 0
        have r0 : w2.cell? ⟨w.heap.size + 2, 0, none⟩ = some (.slice none 0 0) := (blk_cell Z2.out 0).trans rfl
        have f1 : w2.frozen? ⟨w.heap.size + 2, 1, none⟩ = false := blk_frozen Z2.out 1
        have r1 : w2.cell? ⟨w.heap.size + 2, 1, none⟩ = some (.slice none 0 0) := (blk_cell Z2.out 1).trans rfl
        have f2 : w2.frozen? ⟨w.heap.size + 2, 2, none⟩ = false := blk_frozen Z2.out 2
        have r2 : w2.cell? ⟨w.heap.size + 2, 2, none⟩ = some (.slice none 0 0) := (blk_cell Z2.out 2).trans rfl
        have f3 : w2.frozen? ⟨w.heap.size + 2, 3, none⟩ = false := blk_frozen Z2.out 3
        have r3 : w2.cell? ⟨w.heap.size + 2, 3, none⟩ = some (.int .i64 0) := (blk_cell Z2.out 3).trans rfl
        obtain ⟨V, hV⟩ : ∃ V, set4 w2 (w.heap.size + 1 + 1) (.slice none 0 0) (.slice none 0 0) (.slice none 0 0) (.int .i64 0) = V := ⟨_, rfl⟩
        have HV : V.heap[w.heap.size + 2]? = some (.cells #[.slice none 0 0, .slice none 0 0, .slice none 0 0, .int .i64 0] 36 (0, 0)) := by rw [← hV]; exact blk4_set Z2.out _ _ _ _
        have HBV : Below w.heap.size w V := by rw [← hV]; exact below_set4 ZB.out (by omega) _ _ _ _
        have t0 : V.cell? ⟨w.heap.size + 1 + 1, 0, none⟩ = some (.slice none 0 0) := (blk_cell HV 0).trans rfl
        have t1 : V.cell? ⟨w.heap.size + 1 + 1, 1, none⟩ = some (.slice none 0 0) := (blk_cell HV 1).trans rfl
        have t2 : V.cell? ⟨w.heap.size + 1 + 1, 2, none⟩ = some (.slice none 0 0) := (blk_cell HV 2).trans rfl
        have t3 : V.cell? ⟨w.heap.size + 1 + 1, 3, none⟩ = some (.int .i64 0) := (blk_cell HV 3).trans rfl
        go_wp2
        (try rw [hV])
        exact bodyPost_ret (v := .agg #[.slice none 0 0, .slice none 0 0, .slice none 0 0, .int .i64 0]) (by simp [results, Try.results38, go_sem, t0, t1, t2, t3]) rfl ⟨_, rfl, by rw [HT.out]; exact ⟨none, none, none, 0, 0, 0, rfl, RdB.nil _, RdB.nil _, RdB.nil _, Nat.le_refl _, Nat.le_refl _, Nat.le_refl _⟩, HBV⟩
      have en : decide (16 < (NP : Int)) = false := decide_eq_false (by omega)
      by_cases tk0 : K < 0
      · have ek0 : decide (K < 0) = true := decide_eq_true tk0
        have HT := Lh (HT0.out (.inr (.inl tk0)))
        clear HT0 HT1 HYES HSM
        have f0 : w2.frozen? ⟨w.heap.size + 2, 0, none⟩ = false := blk_frozen Z2.out 0
        have r0 : w2.cell? ⟨w.heap.size + 2, 0, none⟩ = some (.slice none 0 0) := (blk_cell Z2.out 0).trans rfl
        have f1 : w2.frozen? ⟨w.heap.size + 2, 1, none⟩ = false := blk_frozen Z2.out 1
        have r1 : w2.cell? ⟨w.heap.size + 2, 1, none⟩ = some (.slice none 0 0) := (blk_cell Z2.out 1).trans rfl
        have f2 : w2.frozen? ⟨w.heap.size + 2, 2, none⟩ = false := blk_frozen Z2.out 2
        have r2 : w2.cell? ⟨w.heap.size + 2, 2, none⟩ = some (.slice none 0 0) := (blk_cell Z2.out 2).trans rfl
        have f3 : w2.frozen? ⟨w.heap.size + 2, 3, none⟩ = false := blk_frozen Z2.out 3
        have r3 : w2.cell? ⟨w.heap.size + 2, 3, none⟩ = some (.int .i64 0) := (blk_cell Z2.out 3).trans rfl
        obtain ⟨V, hV⟩ : ∃ V, set4 w2 (w.heap.size + 1 + 1) (.slice none 0 0) (.slice none 0 0) (.slice none 0 0) (.int .i64 0) = V := ⟨_, rfl⟩
        have HV : V.heap[w.heap.size + 2]? = some (.cells #[.slice none 0 0, .slice none 0 0, .slice none 0 0, .int .i64 0] 36 (0, 0)) := by rw [← hV]; exact blk4_set Z2.out _ _ _ _
        have HBV : Below w.heap.size w V := by rw [← hV]; exact below_set4 ZB.out (by omega) _ _ _ _
        have t0 : V.cell? ⟨w.heap.size + 1 + 1, 0, none⟩ = some (.slice none 0 0) := (blk_cell HV 0).trans rfl
        have t1 : V.cell? ⟨w.heap.size + 1 + 1, 1, none⟩ = some (.slice none 0 0) := (blk_cell HV 1).trans rfl
        have t2 : V.cell? ⟨w.heap.size + 1 + 1, 2, none⟩ = some (.slice none 0 0) := (blk_cell HV 2).trans rfl
        have t3 : V.cell? ⟨w.heap.size + 1 + 1, 3, none⟩ = some (.int .i64 0) := (blk_cell HV 3).trans rfl
        go_wp2
        (try rw [hV])
        exact bodyPost_ret (v := .agg #[.slice none 0 0, .slice none 0 0, .slice none 0 0, .int .i64 0]) (by simp [results, Try.results38, go_sem, t0, t1, t2, t3]) rfl ⟨_, rfl, by rw [HT.out]; exact ⟨none, none, none, 0, 0, 0, rfl, RdB.nil _, RdB.nil _, RdB.nil _, Nat.le_refl _, Nat.le_refl _, Nat.le_refl _⟩, HBV⟩
      have ek0 : decide (K < 0) = false := decide_eq_false tk0
      by_cases tk1 : 16 < K
      · have ek1 : decide (16 < K) = true := decide_eq_true tk1
        have HT := Lh (HT0.out (.inr (.inr tk1)))
        clear HT0 HT1 HYES HSM
        have f0 : w2.frozen? ⟨w.heap.size + 2, 0, none⟩ = false := blk_frozen Z2.out 0
        have r0 : w2.cell? ⟨w.heap.size + 2, 0, none⟩ = some (.slice none 0 0) := (blk_cell Z2.out 0).trans rfl
        have f1 : w2.frozen? ⟨w.heap.size + 2, 1, none⟩ = false := blk_frozen Z2.out 1
        have r1 : w2.cell? ⟨w.heap.size + 2, 1, none⟩ = some (.slice none 0 0) := (blk_cell Z2.out 1).trans rfl
        have f2 : w2.frozen? ⟨w.heap.size + 2, 2, none⟩ = false := blk_frozen Z2.out 2
        have r2 : w2.cell? ⟨w.heap.size + 2, 2, none⟩ = some (.slice none 0 0) := (blk_cell Z2.out 2).trans rfl
        have f3 : w2.frozen? ⟨w.heap.size + 2, 3, none⟩ = false := blk_frozen Z2.out 3
        have r3 : w2.cell? ⟨w.heap.size + 2, 3, none⟩ = some (.int .i64 0) := (blk_cell Z2.out 3).trans rfl
        obtain ⟨V, hV⟩ : ∃ V, set4 w2 (w.heap.size + 1 + 1) (.slice none 0 0) (.slice none 0 0) (.slice none 0 0) (.int .i64 0) = V := ⟨_, rfl⟩
        have HV : V.heap[w.heap.size + 2]? = some (.cells #[.slice none 0 0, .slice none 0 0, .slice none 0 0, .int .i64 0] 36 (0, 0)) := by rw [← hV]; exact blk4_set Z2.out _ _ _ _
        have HBV : Below w.heap.size w V := by rw [← hV]; exact below_set4 ZB.out (by omega) _ _ _ _
        have t0 : V.cell? ⟨w.heap.size + 1 + 1, 0, none⟩ = some (.slice none 0 0) := (blk_cell HV 0).trans rfl
        have t1 : V.cell? ⟨w.heap.size + 1 + 1, 1, none⟩ = some (.slice none 0 0) := (blk_cell HV 1).trans rfl
        have t2 : V.cell? ⟨w.heap.size + 1 + 1, 2, none⟩ = some (.slice none 0 0) := (blk_cell HV 2).trans rfl
        have t3 : V.cell? ⟨w.heap.size + 1 + 1, 3, none⟩ = some (.int .i64 0) := (blk_cell HV 3).trans rfl
        go_wp2
        (try rw [hV])
        exact bodyPost_ret (v := .agg #[.slice none 0 0, .slice none 0 0, .slice none 0 0, .int .i64 0]) (by simp [results, Try.results38, go_sem, t0, t1, t2, t3]) rfl ⟨_, rfl, by rw [HT.out]; exact ⟨none, none, none, 0, 0, 0, rfl, RdB.nil _, RdB.nil _, RdB.nil _, Nat.le_refl _, Nat.le_refl _, Nat.le_refl _⟩, HBV⟩
      have ek1 : decide (16 < K) = false := decide_eq_false tk1
      have hSS : S = true := HSM.out.trans (by simp; omega)
      obtain ⟨hm, hl16, hy⟩ := HYES.out hSS
      have m := Cr.mayP hm
      have g0 : 0 ≤ K := by omega
      have g1 : K ≤ 16 := by omega
      have hl1 : NP ≤ 16 := by omega
      have hl2 : NA ≤ 128 := by rw [← HNA.out]; exact m.a1
      have hl3 : NE ≤ 128 := by rw [← HNE.out]; exact m.e1
      have HT := Lh (HT1.out hSS g0 g1)
      have HEI := Lh (far_in (by decide) (by decide) m.ef)
      have hpi := far_in (by decide) (by decide) m.pf
      have hBB := partP_bd ⟨yx, yy, yz⟩ K g0 g1 4194304 hy (by decide)
      have ⟨mx1, mx2⟩ := wmul16 yx K ⟨hy.1, hy.2.1⟩ g0 g1
      have ⟨my1, my2⟩ := wmul16 yy K ⟨hy.2.2.1, hy.2.2.2.1⟩ g0 g1
      have ⟨mz1, mz2⟩ := wmul16 yz K ⟨hy.2.2.2.2.1, hy.2.2.2.2.2⟩ g0 g1
      have hBe : partP ⟨yx, yy, yz⟩ K = ⟨(wrap64 ((wrap64 (yx * K)).tdiv 16)), (wrap64 ((wrap64 (yy * K)).tdiv 16)), (wrap64 ((wrap64 (yz * K)).tdiv 16))⟩ := by
        rw [mx1, my1, mz1, mx2, my2, mz2]
        rfl
      rw [hBe] at hBB HT
      have go7 : True := trivial
      clear mx1 mx2 my1 my2 mz1 mz2 hBe
      have y0 : w2.cell? ⟨w.heap.size + 1, 0, none⟩ = some (.int .i64 yx) := (blk_cell Z1.out 0).trans rfl
      have y1 : w2.cell? ⟨w.heap.size + 1, 1, none⟩ = some (.int .i64 yy) := (blk_cell Z1.out 1).trans rfl
      have y2 : w2.cell? ⟨w.heap.size + 1, 2, none⟩ = some (.int .i64 yz) := (blk_cell Z1.out 2).trans rfl
      have yl : w.heap.size + 1 < w2.heap.size := blk_lt Z1.out
      have x3 : w2.cell? ⟨w.heap.size, 3, none⟩ = some (.int .i64 r) := (blk_cell Z0.out 3).trans rfl
      go_upto_region 7 with fail
      obtain ⟨bx, hbx⟩ : ∃ n, (wrap64 ((wrap64 (yx * K)).tdiv 16)) = n := ⟨_, rfl⟩
      obtain ⟨by_, hby⟩ : ∃ n, (wrap64 ((wrap64 (yy * K)).tdiv 16)) = n := ⟨_, rfl⟩
      obtain ⟨bz_, hbz⟩ : ∃ n, (wrap64 ((wrap64 (yz * K)).tdiv 16)) = n := ⟨_, rfl⟩
      rw [hbx, hby, hbz] at hBB HT ⊢
      clear hbx hby hbz
      have HPX := Lh (fun k (hk : k < p.length) => show plusI ⟨bx, by_, bz_⟩ p[k] = ⟨wrap64 (p[k].x + bx), wrap64 (p[k].y + by_), wrap64 (p[k].z + bz_)⟩ by
        have := hpi p[k] (List.getElem_mem hk)
        unfold in3 at this hBB
        unfold plusI wrap64
        simp only [P3.mk.injEq] at this hBB ⊢
        omega)
      have HLM := Lh (fun k (hk : k < p.length) => show (p ++ p.map (plusI ⟨bx, by_, bz_⟩)).take (NP + (k + 1)) = (p ++ p.map (plusI ⟨bx, by_, bz_⟩)).take (NP + k) ++ [plusI ⟨bx, by_, bz_⟩ p[k]] by
        have h9 := HNP.out
        rw [show NP + (k + 1) = NP + k + 1 from rfl, List.take_succ_eq_append_getElem (by rw [List.length_append, List.length_map, HNP.out]; omega), List.getElem_append_right (by rw [HNP.out]; omega)]
        simp [HNP.out])
      have HLM0 : Hid ((p ++ p.map (plusI ⟨bx, by_, bz_⟩)).take (NP + 0) = [] ++ p) := Lh (by rw [Nat.add_zero, ← HNP.out, List.take_left]; rfl)
      have HLM1 : Hid ((p ++ p.map (plusI ⟨bx, by_, bz_⟩)).take (NP + NP) = p ++ p.map (plusI ⟨bx, by_, bz_⟩)) := Lh (List.take_of_length_le (by rw [List.length_append, List.length_map, HNP.out]; exact Nat.le_refl _))
      have HLL : Hid ((p ++ p.map (plusI ⟨bx, by_, bz_⟩)).length ≤ 32) := Lh (by rw [List.length_append, List.length_map, HNP.out]; omega)
      obtain ⟨LM, hLM⟩ : ∃ L, p ++ p.map (plusI ⟨bx, by_, bz_⟩) = L := ⟨_, rfl⟩
      rw [hLM] at HLM HLM0 HLM1 HLL HT
      have HSH := Lh (fun W => rshort_calls ⟨yx, yy, yz⟩ W (in3_le (by decide) hy))
      obtain ⟨s, hs⟩ : ∃ s, short3 ⟨yx, yy, yz⟩ = s := ⟨_, rfl⟩
      have HSI := Lh (show in3 1048576 s from by rw [← hs]; exact short3_in _)
      rw [hs] at HSH HT
      have HLA := Lh (fun k (hk : k < e.length) => show (acrossF ⟨yx, yy, yz⟩ e).take (k + 1) = (acrossF ⟨yx, yy, yz⟩ e).take k ++ [short3 (cross3 e[k] s)] by
        unfold acrossF
        rw [List.take_succ_eq_append_getElem (by rw [List.length_map]; exact hk), List.getElem_map, hs])
      have HLAL : Hid ((acrossF ⟨yx, yy, yz⟩ e).length = NE) := Lh (by unfold acrossF; rw [List.length_map]; exact HNE.out)
      obtain ⟨LA, hLA⟩ : ∃ L, acrossF ⟨yx, yy, yz⟩ e = L := ⟨_, rfl⟩
      rw [hLA] at HLA HLAL HT
      obtain ⟨sx, sy, sz⟩ := s
      (try simp only at HSH)
      have HW1 := Lh (fun (W : World) (va : Option Addr) (ca : Nat) (hA : RdB W A1 a) (hB : RdB W va LA) => rwith_calls a LA NA NE A1 va c1 ca W HNA.out HLAL.out hA.1 hB.1 (by omega) (by omega))
      have HW2 := Lh (fun (W : World) (vb : Option Addr) (hA : RdB W A2 e) (hB : RdB W vb [⟨sx, sy, sz⟩]) => rwith_calls e [⟨sx, sy, sz⟩] NE 1 A2 vb c2 1 W HNE.out rfl hA.1 hB.1 (by omega) (by omega))
      obtain ⟨BB, hBBn⟩ : ∃ n, w2.heap.size = n := ⟨_, rfl⟩
      have q0 := (Below.heap_alloc _ (.cells #[.slice none 0 0, .slice none 0 0, .slice none 0 0, .int .i64 r] 36) _ (by simp)).trans (heap_alloc_new w2 (.cells #[.int .i64 bx, .int .i64 by_, .int .i64 bz_] 23))
      have q1 := heap_alloc_new (w2.alloc (.cells #[.int .i64 bx, .int .i64 by_, .int .i64 bz_] 23)) (.cells #[.slice none 0 0, .slice none 0 0, .slice none 0 0, .int .i64 r] 36)
      have qb := ((Below.refl _ w2).alloc (Nat.le_refl _) (.cells #[.int .i64 bx, .int .i64 by_, .int .i64 bz_] 23)).alloc (by simp) (.cells #[.slice none 0 0, .slice none 0 0, .slice none 0 0, .int .i64 r] 36)
      rw [World.size_alloc] at q1
      obtain ⟨w3, hw3⟩ : ∃ V, (w2.alloc (.cells #[.int .i64 bx, .int .i64 by_, .int .i64 bz_] 23)).alloc (.cells #[.slice none 0 0, .slice none 0 0, .slice none 0 0, .int .i64 r] 36) = V := ⟨_, rfl⟩
      rw [hw3] at q0 q1 qb ⊢
      rw [hBBn] at q0 q1 ⊢
      obtain ⟨AB, hAB⟩ : ∃ n, BB + 1 = n := ⟨_, rfl⟩
      rw [hAB] at q1 ⊢
      have HBB := Lh (show BB ≠ AB ∧ w2.heap.size ≤ BB ∧ w2.heap.size ≤ AB by omega)
      have HY0 := Lh q0
      have HA0 := Lh q1
      have hkeep : ∀ k ∈ [AB, BB], k < w3.heap.size := by
        intro k hk
        rcases List.mem_cons.1 hk with rfl | hk
        · exact blk_lt HA0.out
        · rw [List.mem_singleton] at hk; subst hk; exact blk_lt HY0.out
      have HC0 : Hid (CSt w2 w3 (.slice none 0 0) [] [AB, BB]) := Lh ⟨OwnP.nil _ _, qb, fun k hk => ⟨fun e0 => (by cases e0), hkeep k hk⟩⟩
      clear hkeep
      clear HT0 HT1 HYES HSM hm hl16 m hpi hBB hLM hs hLA tk0 tk1 hy g0 g1 hSS go7 x0 x3 xl y0 y1 y2 yl ek0 ek1 en tn q0 q1 qb hw3 hBBn hAB
      have C0 := Lh (HC0.out.old Z0.out)
      have x0 : w3.cell? ⟨w.heap.size, 0, none⟩ = some (.slice A0 NP c0) := (blk_cell C0.out 0).trans rfl
      have xl : w.heap.size < w3.heap.size := blk_lt C0.out
      have t0 : w3.cell? ⟨AB, 0, none⟩ = some (.slice none 0 0) := (blk_cell HA0.out 0).trans rfl
      have tl : AB < w3.heap.size := blk_lt HA0.out
      go_wp2_with (at_builtin; refine appL_ w2.heap.size rfl _ _ rfl (.slice none 0 0) [] p A0 _ _ rfl rfl HC0.out.own (H0.out.below HC0.out.below).1 HNP.out (by simp; omega) HC0.out.below.size ?_; intro v2 w4 hv2 hg2 hat; obtain ⟨Av2, nv2, cv2, hvv⟩ : ∃ A n c, v2 = .slice A n c := (by obtain ⟨A, c, h, _⟩ := OwnP.rd hv2; exact ⟨A, _, c, h⟩); subst hvv; have hT4 := Lh (HC0.out.blk hg2 (by simp) HA0.out); have hY4 := Lh (HC0.out.blk hg2 (by simp) HY0.out); have hS4 := Lh ((HC0.out.app hv2 hg2 hat).len HLM0.out.symm); have u0 : w4.cell? ⟨AB, 0, none⟩ = some (.slice none 0 0) := (blk_cell hT4.out 0).trans rfl; have u1 : w4.frozen? ⟨AB, 0, none⟩ = false := blk_frozen hT4.out 0; have lA4 : AB < w4.heap.size := blk_lt hT4.out; clear hv2 hg2 hat x0 xl t0 tl)
      go_loopw [11] (fun v11 wr => ∃ k : Nat, ∃ v : Value, k ≤ NP ∧ v11 = .int .i64 k ∧ Hid (CSt w2 wr v (LM.take (NP + k)) [AB, BB]) ∧ Hid (wr.heap[AB]? = some (.cells #[v, .slice none 0 0, .slice none 0 0, .int .i64 r] 36 (0, 0))) ∧ Hid (wr.heap[BB]? = some (.cells #[.int .i64 bx, .int .i64 by_, .int .i64 bz_] 23 (0, 0)))) (fun i _ => NP - (intOf i).toNat)
      case atStart => exact ⟨0, .slice Av2 nv2 cv2, by omega, rfl, Lh (hS4.out.setKeep (by simp) HBB.out.2.2 0 _), Lh (blk40 hT4.out (.slice Av2 nv2 cv2)), Lh ((Below.heap_setCell _ ⟨AB, 0, none⟩ _ BB HBB.out.1).trans hY4.out)⟩
      case round =>
        obtain ⟨k, v, hk, rfl, hS, hT, hY⟩ := hrel
        clear hS4 hT4 hY4 u0 u1 lA4 HC0 HA0 HY0
        obtain ⟨wq, hwq⟩ : ∃ x : World, x = wr := ⟨_, rfl⟩
        subst hwq
        have C0r := Lh (hS.out.old Z0.out)
        have x0 : wq.cell? ⟨w.heap.size, 0, none⟩ = some (.slice A0 NP c0) := (blk_cell C0r.out 0).trans rfl
        have xl : w.heap.size < wq.heap.size := blk_lt C0r.out
        by_cases hlt : k < NP
        · have hkl : k < p.length := by rw [HNP.out]; exact hlt
          obtain ⟨b, o, rfl, lb, e0, e1, e2⟩ := (H0.out.below hS.out.below).1.get k hkl
          have HX := Lh (HPX.out k hkl)
          have HM1 := Lh (HLM.out k hkl)
          obtain ⟨x, hx⟩ : ∃ x, p[k] = x := ⟨_, rfl⟩
          rw [hx] at e0 e1 e2 HX HM1
          obtain ⟨xx, xy, xz⟩ := x
          simp only at HX e0 e1 e2
          rw [HX.out] at HM1
          have q0 : wq.cell? ⟨BB, 0, none⟩ = some (.int .i64 bx) := (blk_cell hY.out 0).trans rfl
          have q1 : wq.cell? ⟨BB, 1, none⟩ = some (.int .i64 by_) := (blk_cell hY.out 1).trans rfl
          have q2 : wq.cell? ⟨BB, 2, none⟩ = some (.int .i64 bz_) := (blk_cell hY.out 2).trans rfl
          have lq : BB < wq.heap.size := blk_lt hY.out
          have t0 : wq.cell? ⟨AB, 0, none⟩ = some v := (blk_cell hT.out 0).trans rfl
          have lt : AB < wq.heap.size := blk_lt hT.out
          have tk : (k : Int) < (NP : Int) := by omega
          clear hx hkl C0r
          have hbA := ((Below.refl _ wq).alloc (Nat.le_refl _) (.cells #[.int .i64 xx, .int .i64 xy, .int .i64 xz] 23)).alloc (by simp) (.cells #[.int .i64 (wrap64 (xx + bx)), .int .i64 (wrap64 (xy + by_)), .int .i64 (wrap64 (xz + bz_))] 23)
          have hS2 := Lh (hS.out.grown hbA)
          have hT2 := Lh ((hbA.block _ lt).trans hT.out)
          have hY2 := Lh ((hbA.block _ lq).trans hY.out)
          have hR2 := (Rd_one (heap_alloc_new (wq.alloc (.cells #[.int .i64 xx, .int .i64 xy, .int .i64 xz] 23)) (.cells #[.int .i64 (wrap64 (xx + bx)), .int .i64 (wrap64 (xy + by_)), .int .i64 (wrap64 (xz + bz_))] 23))).1
          rw [World.size_alloc] at hR2
          clear hbA
          go_wp2_with (at_builtin; refine appL_ w2.heap.size rfl _ _ rfl _ (LM.take (NP + k)) [⟨wrap64 (xx + bx), wrap64 (xy + by_), wrap64 (xz + bz_)⟩] _ _ _ rfl rfl hS2.out.own hR2 rfl (by have := List.length_take_le (NP + k) LM; simp; omega) hS2.out.below.size ?_; intro v2 w4 hv2 hg2 hat; obtain ⟨Av2, nv2, cv2, hvv⟩ : ∃ A n c, v2 = .slice A n c := (by obtain ⟨A, c, h, _⟩ := OwnP.rd hv2; exact ⟨A, _, c, h⟩); subst hvv; have hT4 := Lh (hS2.out.blk hg2 (by simp) hT2.out); have hY4 := Lh (hS2.out.blk hg2 (by simp) hY2.out); have hS4 := Lh ((hS2.out.app hv2 hg2 hat).len HM1.out.symm); have u0 : w4.cell? ⟨AB, 0, none⟩ = some v := (blk_cell hT4.out 0).trans rfl; have u1 : w4.frozen? ⟨AB, 0, none⟩ = false := blk_frozen hT4.out 0; have lA4 : AB < w4.heap.size := blk_lt hT4.out; clear hv2 hg2 hat)
          go_roundw
          case rel => exact ⟨k + 1, .slice Av2 nv2 cv2, by omega, by go_num, Lh (hS4.out.setKeep (by simp) HBB.out.2.2 0 _), Lh (blk40 hT4.out (.slice Av2 nv2 cv2)), Lh ((Below.heap_setCell _ ⟨AB, 0, none⟩ _ BB HBB.out.1).trans hY4.out)⟩
          case measure => simp [intOf]; omega
        · obtain rfl : NP = k := by omega
          have hS := Lh (hS.out.len HLM1.out)
          obtain ⟨nP, hnP⟩ : ∃ n, LM.length = n := ⟨_, rfl⟩
          obtain ⟨Ap, cp, hvp, hlp, hrp, hbp⟩ := hS.out.own.rdB2
          subst hvp
          rw [hnP] at hT hlp
          have HNM := Lh hnP
          have HLP := Lh hlp
          have HRP := Lh hrp
          have HBP := Lh (fun (ad : Addr) (ea : Ap = some ad) => show ad.block ≠ AB from fun e0 => (hS.out.ne AB (by simp)).1 (by rw [ea]; show some ad.block = some AB; rw [e0]))
          have HBW := Lh hS.out.below
          have C0 := Lh (hS.out.old Z0.out)
          have C1 := Lh (hS.out.old Z1.out)
          have C2 := Lh (hS.out.old Z2.out)
          have H1 := Lh (H1.out.below HBW.out)
          have H2 := Lh (H2.out.below HBW.out)
          have ZB := Lh (bthen ZB.out HBW.out)
          have q0 : wq.cell? ⟨w.heap.size + 1, 0, none⟩ = some (.int .i64 yx) := (blk_cell C1.out 0).trans rfl
          have q1 : wq.cell? ⟨w.heap.size + 1, 1, none⟩ = some (.int .i64 yy) := (blk_cell C1.out 1).trans rfl
          have q2 : wq.cell? ⟨w.heap.size + 1, 2, none⟩ = some (.int .i64 yz) := (blk_cell C1.out 2).trans rfl
          have lq : w.heap.size + 1 < wq.heap.size := blk_lt C1.out
          clear hnP hlp hrp hbp hS C1 H0 HNP hY HLM HLM1 HPX C0r
          go_wp2_with fail
          with_reducible refine (HSH.out _).mono ?_
          rintro en w5 ⟨rfl, hb⟩
          have HTA := Lh ((hb.block _ (blk_lt hT.out)).trans hT.out)
          have C0 := Lh ((hb.block _ (blk_lt C0.out)).trans C0.out)
          have C2 := Lh ((hb.block _ (blk_lt C2.out)).trans C2.out)
          have HRP := Lh (HRP.out.below hb)
          have H1 := Lh (H1.out.below hb)
          have H2 := Lh (H2.out.below hb)
          have ZB := Lh (bthen ZB.out hb)
          clear hb hT q0 q1 q2 lq HBW x0 xl
          have HTL5 := Lh (show AB < w5.heap.size from blk_lt HTA.out)
          go_upto_region 14 with fail
          have zb6 := (Below.refl _ w5).alloc (Nat.le_refl _) (.cells #[.int .i64 sx, .int .i64 sy, .int .i64 sz] 23)
          have C5 := Lh (heap_alloc_new w5 (.cells #[.int .i64 sx, .int .i64 sy, .int .i64 sz] 23))
          have HTA := Lh ((zb6.block _ (blk_lt HTA.out)).trans HTA.out)
          have C0 := Lh ((zb6.block _ (blk_lt C0.out)).trans C0.out)
          have C2 := Lh ((zb6.block _ (blk_lt C2.out)).trans C2.out)
          have HRP := Lh (HRP.out.below zb6)
          have H1 := Lh (H1.out.below zb6)
          have H2 := Lh (H2.out.below zb6)
          have ZB := Lh (bthen ZB.out zb6)
          obtain ⟨w6, hw6⟩ : ∃ V, w5.alloc (.cells #[.int .i64 sx, .int .i64 sy, .int .i64 sz] 23) = V := ⟨_, rfl⟩
          obtain ⟨SB, hSB⟩ : ∃ n, w5.heap.size = n := ⟨_, rfl⟩
          rw [hw6] at HTA C0 C2 C5 HRP H1 H2 ZB ⊢
          rw [hSB] at C5 ⊢
          have HTL0 := blk_lt HTA.out
          have HSA := Lh (show SB ≠ AB from fun e0 => by have := HTL5.out; omega)
          have HTL6 := Lh HTL0
          have HZZ := Lh (show w.heap.size + 2 < w2.heap.size from blk_lt Z2.out)
          clear hw6 zb6 hSB HTL0
          go_wp2_with fail
          go_loopw [15, 14] (fun v15 v14 wr => ∃ k : Nat, k ≤ NE ∧ v15 = .int .i64 k ∧ Hid (CSt w6 wr v14 (LA.take k) [])) (fun i _ _ => NE - (intOf i).toNat)
          case atStart => exact ⟨0, by omega, rfl, Lh (CSt.start w6)⟩
          case round =>
            obtain ⟨k, hk, rfl, hS⟩ := hrel
            obtain ⟨wz, hwz⟩ : ∃ x : World, x = wr := ⟨_, rfl⟩
            subst hwz
            have C0q := Lh (hS.out.old C0.out)
            have x2 : wz.cell? ⟨w.heap.size, 2, none⟩ = some (.slice A2 NE c2) := (blk_cell C0q.out 2).trans rfl
            have xl : w.heap.size < wz.heap.size := blk_lt C0q.out
            by_cases hlt : k < NE
            · have hkl : k < e.length := by rw [HNE.out]; exact hlt
              obtain ⟨b, o, rfl, lb, e0, e1, e2⟩ := (H2.out.below hS.out.below).1.get k hkl
              have HM1 := Lh (HLA.out k hkl)
              have hei := HEI.out _ (List.getElem_mem hkl)
              obtain ⟨x, hx⟩ : ∃ x, e[k] = x := ⟨_, rfl⟩
              rw [hx] at e0 e1 e2 HM1 hei
              have HX1 := Lh (fun W => rcross_calls x ⟨sx, sy, sz⟩ W)
              have hci := cross_in hei HSI.out
              obtain ⟨u, hu⟩ : ∃ u, cross3 x ⟨sx, sy, sz⟩ = u := ⟨_, rfl⟩
              rw [hu] at HX1 HM1 hci
              have HX2 := Lh (fun W => rshort_calls u W hci)
              obtain ⟨d, hd⟩ : ∃ v, short3 u = v := ⟨_, rfl⟩
              rw [hd] at HX2 HM1
              obtain ⟨xx, xy, xz⟩ := x
              obtain ⟨ux, uy, uz⟩ := u
              obtain ⟨dx, dy, dz⟩ := d
              simp only at e0 e1 e2
              have C5q := Lh (hS.out.old C5.out)
              have s0 : wz.cell? ⟨SB, 0, none⟩ = some (.int .i64 sx) := (blk_cell C5q.out 0).trans rfl
              have s1 : wz.cell? ⟨SB, 1, none⟩ = some (.int .i64 sy) := (blk_cell C5q.out 1).trans rfl
              have s2 : wz.cell? ⟨SB, 2, none⟩ = some (.int .i64 sz) := (blk_cell C5q.out 2).trans rfl
              have ls : SB < wz.heap.size := blk_lt C5q.out
              have tk : (k : Int) < (NE : Int) := by omega
              clear hx hu hd hkl hei hci
              go_wp2_with fail
              have HB := Lh ((Below.refl wz.heap.size wz).drew)
              have FF := Lh (show ∀ V, Hid (Below wz.heap.size wz V) → V.cell? ⟨w.heap.size, 2, none⟩ = some (.slice (some ⟨b, o, none⟩) NE c2) ∧ V.cell? ⟨b, o + k * 3, none⟩ = some (.int .i64 xx) ∧ V.cell? ⟨b, o + k * 3 + 1, none⟩ = some (.int .i64 xy) ∧ V.cell? ⟨b, o + k * 3 + 2, none⟩ = some (.int .i64 xz) ∧ V.cell? ⟨SB, 0, none⟩ = some (.int .i64 sx) ∧ V.cell? ⟨SB, 1, none⟩ = some (.int .i64 sy) ∧ V.cell? ⟨SB, 2, none⟩ = some (.int .i64 sz) from fun V HB => ⟨(HB.out.cell (p := ⟨w.heap.size, 2, none⟩) (xl)).trans x2, (HB.out.cell (p := ⟨b, o + k * 3, none⟩) (lb)).trans e0, (HB.out.cell (p := ⟨b, o + k * 3 + 1, none⟩) (lb)).trans e1, (HB.out.cell (p := ⟨b, o + k * 3 + 2, none⟩) (lb)).trans e2, (HB.out.cell (p := ⟨SB, 0, none⟩) (ls)).trans s0, (HB.out.cell (p := ⟨SB, 1, none⟩) (ls)).trans s1, (HB.out.cell (p := ⟨SB, 2, none⟩) (ls)).trans s2⟩)
              refine start_ (n := 12) (S := fun w' => w'.cell? ⟨w.heap.size, 2, none⟩ = some (.slice (some ⟨b, o, none⟩) NE c2) ∧ w'.cell? ⟨b, o + k * 3, none⟩ = some (.int .i64 xx) ∧ w'.cell? ⟨b, o + k * 3 + 1, none⟩ = some (.int .i64 xy) ∧ w'.cell? ⟨b, o + k * 3 + 2, none⟩ = some (.int .i64 xz) ∧ w'.cell? ⟨SB, 0, none⟩ = some (.int .i64 sx) ∧ w'.cell? ⟨SB, 1, none⟩ = some (.int .i64 sy) ∧ w'.cell? ⟨SB, 2, none⟩ = some (.int .i64 sz)) (ds := [10]) (MT 0 12) (by kernel_rfl) rfl rfl (FF.out _ HB) (fun hHeld => ?_)
              obtain ⟨wd, hwd⟩ : ∃ x, wz.drew = x := ⟨_, rfl⟩
              rw [hwd] at HB hHeld ⊢
              clear hwd
              refine pu_ 0 108 (h := ?_)
              refine pu_ 1 109 (h := ?_)
              refine pu_ 3 111 (h := ?_)
              refine ta_ 2 110 hHeld (h := ?_)
              refine pu_ 4 112 (h := ?_)
              refine ta_ 5 113 hHeld (h := ?_)
              refine ta_ 6 114 hHeld (h := ?_)
              refine on_ 7 (some 115) (h := fun K hK => ?_)
              refine gs_ Try.func82 #[aP ⟨xx, xy, xz⟩, aP ⟨sx, sy, sz⟩] ?_
              with_reducible refine (HX1.out _).mono ?_
              rintro en w7 ⟨rfl, hb⟩
              have HB := Lh (HB.out.trans (hb.mono HB.out.size))
              clear hb
              refine ⟨_, rfl, ?_⟩
              refine hK.out _ _ (FF.out _ HB) (fun hHeld => ?_)
              clear hK K
              refine no_ (h := ?_)
              refine on_ 8 (some 116) (h := fun K hK => ?_)
              refine gs_ Try.func81 #[aP ⟨ux, uy, uz⟩] ?_
              with_reducible refine (HX2.out _).mono ?_
              rintro en w7 ⟨rfl, hb⟩
              have HB := Lh (HB.out.trans (hb.mono HB.out.size))
              clear hb
              refine ⟨_, rfl, ?_⟩
              refine hK.out _ _ (FF.out _ HB) (fun hHeld => ?_)
              clear hK K
              refine no_ (h := ?_)
              refine on_ 9 (some 117) (h := fun K hK => ?_)
              refine value_ (w1 := ?_) (v := ?_) (by rfl) rfl ?_ ?_
              rotate_left 2
              · go_simp
                constructor
                · rfl
                · rfl
              have HA := Lh (ha_new HB.out (.cells #[.int .i64 dx, .int .i64 dy, .int .i64 dz] 23))
              have HB := Lh (HB.out.alloc HB.out.size (.cells #[.int .i64 dx, .int .i64 dy, .int .i64 dz] 23))
              refine hK.out _ _ (FF.out _ HB) (fun hHeld => ?_)
              clear hK K
              refine no_ (h := ?_)
              refine last_ (i := 10) (N := some 118) (MT 11 1) rfl rfl (by kernel_rfl) (by decide) (fun K hK => ?_)
              have hS8 := hS.out.grown HB.out
              refine appR_ w6.heap.size (by rfl) rfl _ _ rfl _ _ [⟨dx, dy, dz⟩] _ _ _ rfl rfl hS8.own (Rd_one HA.out).1 rfl (by have := List.length_take_le k LA; simp; omega) hS8.below.size ?_
              intro v9 w9 hv hg hat
              obtain ⟨Av, nv, cv, hvv⟩ : ∃ A n c, v9 = .slice A n c := (by obtain ⟨A, c, h, _⟩ := OwnP.rd hv; exact ⟨A, _, c, h⟩)
              subst hvv
              have hS9 := Lh ((hS8.app hv hg hat).len HM1.out.symm)
              clear hv hg hat hS8
              refine hK.out _ _ ?_
              clear hK K
              refine no_ (h := ?_)
              refine pu_ 11 14 (h := ?_)
              refine done_ (by kernel_rfl) ?_
              clear hHeld HB HA x2 xl e0 e1 e2 s0 s1 s2 ls lb HX1 HX2 tk hS C0q C5q
              go_wp2
              go_roundw
              case rel => exact ⟨k + 1, by omega, by go_num, hS9⟩
              case measure => simp [intOf]; omega
            · obtain rfl : NE = k := by omega
              have hS := Lh (hS.out.len (List.take_of_length_le (Nat.le_of_eq HLAL.out)))
              obtain ⟨Aa, ca, hva, hla, hra, hba⟩ := hS.out.own.rdB2
              subst hva
              rw [HLAL.out]
              have HRA := Lh hra
              have HB6 := Lh hS.out.below
              have HTA := Lh (hS.out.old HTA.out)
              have C0 := Lh (hS.out.old C0.out)
              have C2 := Lh (hS.out.old C2.out)
              have C5 := Lh (hS.out.old C5.out)
              have HRP := Lh (HRP.out.below HB6.out)
              have H1 := Lh (H1.out.below HB6.out)
              have H2 := Lh (H2.out.below HB6.out)
              have ZB := Lh (bthen ZB.out HB6.out)
              have x1 : wz.cell? ⟨w.heap.size, 1, none⟩ = some (.slice A1 NA c1) := (blk_cell C0.out 1).trans rfl
              have HTL := Lh (show AB < wz.heap.size from blk_lt HTA.out)
              have HB2N := Lh (fun (hn : e ≠ []) (ad : Addr) (ea : A2 = some ad) => show ad.block ≠ AB from fun e0 => by have h1 := HA2L.out hn ad ea; have h2 := HBB.out; omega)
              clear hS hla hra hba HLA HSH C0q HB6
              go_wp2_with fail
              with_reducible refine (HW1.out _ _ _ H1.out HRA.out).mono ?_
              rintro en w7 ⟨A7, c7, rfl, hl7, hr7, hb, hb7⟩
              have HTA := Lh ((hb.block _ (blk_lt HTA.out)).trans HTA.out)
              have C0 := Lh ((hb.block _ (blk_lt C0.out)).trans C0.out)
              have C2 := Lh ((hb.block _ (blk_lt C2.out)).trans C2.out)
              have C5 := Lh ((hb.block _ (blk_lt C5.out)).trans C5.out)
              have HRP := Lh (HRP.out.below hb)
              have H2 := Lh (H2.out.below hb)
              have ZB := Lh (bthen ZB.out hb)
              have N7 := Lh (fun (ad : Addr) (ea : A7 = some ad) => show ad.block ≠ AB from fun e0 => by have h1 := hb7 ad ea; have h2 := HTL.out; omega)
              have HR7 := Lh hr7
              have HL7 := Lh hl7
              obtain ⟨n7, hn7⟩ : ∃ n, (withF a LA).length = n := ⟨_, rfl⟩
              rw [hn7] at HL7 ⊢
              have HN7 := Lh hn7
              clear hl7 hr7 hb hb7 hn7 x1 x2 xl HW1
              have u1 : w7.cell? ⟨AB, 1, none⟩ = some (.slice none 0 0) := (blk_cell HTA.out 1).trans rfl
              have f1 : w7.frozen? ⟨AB, 1, none⟩ = false := blk_frozen HTA.out 1
              have la : AB < w7.heap.size := blk_lt HTA.out
              go_upto_region 20 with fail
              have HTB := Lh (blk_s1 HTA.out (.slice A7 n7 c7))
              have hA0 : w.heap.size ≠ AB := by have := HBB.out; have := HZZ.out; omega
              have hA2 : w.heap.size + 2 ≠ AB := by have := HBB.out; have := HZZ.out; omega
              have hAw : w.heap.size ≤ AB := by have := HBB.out; have := HZZ.out; omega
              have hAS : SB ≠ AB := HSA.out
              have C0 := Lh ((Below.heap_setCell w7 ⟨AB, 1, none⟩ (.slice A7 n7 c7) _ hA0).trans C0.out)
              have C2 := Lh ((Below.heap_setCell w7 ⟨AB, 1, none⟩ (.slice A7 n7 c7) _ hA2).trans C2.out)
              have C5 := Lh ((Below.heap_setCell w7 ⟨AB, 1, none⟩ (.slice A7 n7 c7) _ hAS).trans C5.out)
              have HRP := Lh (HRP.out.setc HBP.out 1 (.slice A7 n7 c7))
              have HR7 := Lh (HR7.out.setc N7.out 1 (.slice A7 n7 c7))
              have H2 := Lh (H2.out.setcE HB2N.out 1 (.slice A7 n7 c7))
              have ZB := Lh (ZB.out.setCell (p := ⟨AB, 1, none⟩) hAw (.slice A7 n7 c7))
              obtain ⟨w8, hw8⟩ : ∃ V, w7.setCell ⟨AB, 1, none⟩ (.slice A7 n7 c7) = V := ⟨_, rfl⟩
              rw [hw8] at HTB C0 C2 C5 HRP HR7 H2 ZB ⊢
              clear hw8 HTA u1 f1 la
              have x2 : w8.cell? ⟨w.heap.size, 2, none⟩ = some (.slice A2 NE c2) := (blk_cell C0.out 2).trans rfl
              have xl : w.heap.size < w8.heap.size := blk_lt C0.out
              have s0 : w8.cell? ⟨SB, 0, none⟩ = some (.int .i64 sx) := (blk_cell C5.out 0).trans rfl
              have s1 : w8.cell? ⟨SB, 1, none⟩ = some (.int .i64 sy) := (blk_cell C5.out 1).trans rfl
              have s2 : w8.cell? ⟨SB, 2, none⟩ = some (.int .i64 sz) := (blk_cell C5.out 2).trans rfl
              have ls : SB < w8.heap.size := blk_lt C5.out
              go_wp2_with fail
              have bn := (Below.refl _ w8).alloc (Nat.le_refl _) (.cells #[.int .i64 sx, .int .i64 sy, .int .i64 sz] 23)
              have rn := Rd_one (heap_alloc_new w8 (.cells #[.int .i64 sx, .int .i64 sy, .int .i64 sz] 23))
              obtain ⟨w9, hw9⟩ : ∃ V, w8.alloc (.cells #[.int .i64 sx, .int .i64 sy, .int .i64 sz] 23) = V := ⟨_, rfl⟩
              rw [hw9] at bn rn ⊢
              have HTB := Lh ((bn.block _ (blk_lt HTB.out)).trans HTB.out)
              have C2 := Lh ((bn.block _ (blk_lt C2.out)).trans C2.out)
              have HRP := Lh (HRP.out.below bn)
              have HR7 := Lh (HR7.out.below bn)
              have H2 := Lh (H2.out.below bn)
              have ZB := Lh (bthen ZB.out bn)
              clear hw9 bn x2 xl s0 s1 s2 ls
              with_reducible refine (HW2.out _ _ H2.out rn).mono ?_
              rintro en w10 ⟨A8, c8, rfl, hl8, hr8, hb, hb8⟩
              have N8 := Lh (fun (ad : Addr) (ea : A8 = some ad) => show ad.block ≠ AB from fun e0 => by have h1 := hb8 ad ea; have h2 := blk_lt HTB.out; omega)
              have HTB := Lh ((hb.block _ (blk_lt HTB.out)).trans HTB.out)
              have C2 := Lh ((hb.block _ (blk_lt C2.out)).trans C2.out)
              have HRP := Lh (HRP.out.below hb)
              have HR7 := Lh (HR7.out.below hb)
              have ZB := Lh (bthen ZB.out hb)
              have HR8 := Lh hr8
              have HL8 := Lh hl8
              obtain ⟨n8, hn8⟩ : ∃ n, (withF e [⟨sx, sy, sz⟩]).length = n := ⟨_, rfl⟩
              rw [hn8] at HL8 ⊢
              have HN8 := Lh hn8
              clear hl8 hr8 hb hb8 hn8 rn HW2
              have u1 : w10.cell? ⟨AB, 2, none⟩ = some (.slice none 0 0) := (blk_cell HTB.out 2).trans rfl
              have f1 : w10.frozen? ⟨AB, 2, none⟩ = false := blk_frozen HTB.out 2
              have la : AB < w10.heap.size := blk_lt HTB.out
              go_upto_region 21 with fail
              have HTD := blk_s2 HTB.out (.slice A8 n8 c8)
              have R9 := (Below.heap_setCell w10 ⟨AB, 2, none⟩ (.slice A8 n8 c8) _ hA2).trans C2.out
              have p9 := HRP.out.setc HBP.out 2 (.slice A8 n8 c8)
              have a9 := HR7.out.setc N7.out 2 (.slice A8 n8 c8)
              have e9 := HR8.out.setc N8.out 2 (.slice A8 n8 c8)
              have B9 := ZB.out.setCell (p := ⟨AB, 2, none⟩) hAw (.slice A8 n8 c8)
              obtain ⟨w11, hw11⟩ : ∃ V, w10.setCell ⟨AB, 2, none⟩ (.slice A8 n8 c8) = V := ⟨_, rfl⟩
              rw [hw11] at p9 a9 e9 R9 B9 HTD ⊢
              clear hw11 u1 f1 la
              have d0_ : w11.cell? ⟨AB, 0, none⟩ = some (.slice Ap nP cp) := (blk_cell HTD 0).trans rfl
              have d1_ : w11.cell? ⟨AB, 1, none⟩ = some (.slice A7 n7 c7) := (blk_cell HTD 1).trans rfl
              have d2_ : w11.cell? ⟨AB, 2, none⟩ = some (.slice A8 n8 c8) := (blk_cell HTD 2).trans rfl
              have d3_ : w11.cell? ⟨AB, 3, none⟩ = some (.int .i64 r) := (blk_cell HTD 3).trans rfl
              have lA10 : AB < w11.heap.size := blk_lt HTD
              have r0 : w11.cell? ⟨w.heap.size + 1 + 1, 0, none⟩ = some (.slice none 0 0) := (blk_cell R9 0).trans rfl
              have f0 : w11.frozen? ⟨w.heap.size + 1 + 1, 0, none⟩ = false := blk_frozen R9 0
              have r1 : w11.cell? ⟨w.heap.size + 1 + 1, 1, none⟩ = some (.slice none 0 0) := (blk_cell R9 1).trans rfl
              have f1 : w11.frozen? ⟨w.heap.size + 1 + 1, 1, none⟩ = false := blk_frozen R9 1
              have r2 : w11.cell? ⟨w.heap.size + 1 + 1, 2, none⟩ = some (.slice none 0 0) := (blk_cell R9 2).trans rfl
              have f2 : w11.frozen? ⟨w.heap.size + 1 + 1, 2, none⟩ = false := blk_frozen R9 2
              have r3 : w11.cell? ⟨w.heap.size + 1 + 1, 3, none⟩ = some (.int .i64 0) := (blk_cell R9 3).trans rfl
              have f3 : w11.frozen? ⟨w.heap.size + 1 + 1, 3, none⟩ = false := blk_frozen R9 3
              have T7 := bs4 R9 (.slice Ap nP cp) (.slice A7 n7 c7) (.slice A8 n8 c8) (.int .i64 r)
              have B7 := bb4 B9 (show w.heap.size ≤ w.heap.size + 2 by omega) (.slice Ap nP cp) (.slice A7 n7 c7) (.slice A8 n8 c8) (.int .i64 r)
              have p7 := p9.setS R9 (.slice Ap nP cp) (.slice A7 n7 c7) (.slice A8 n8 c8) (.int .i64 r)
              have a7 := a9.setS R9 (.slice Ap nP cp) (.slice A7 n7 c7) (.slice A8 n8 c8) (.int .i64 r)
              have e7 := e9.setS R9 (.slice Ap nP cp) (.slice A7 n7 c7) (.slice A8 n8 c8) (.int .i64 r)
              obtain ⟨w12, hw12⟩ : ∃ V, ((((w11.setCell ⟨w.heap.size + 1 + 1, 0, none⟩ (.slice Ap nP cp)).setCell ⟨w.heap.size + 1 + 1, 1, none⟩ (.slice A7 n7 c7)).setCell ⟨w.heap.size + 1 + 1, 2, none⟩ (.slice A8 n8 c8)).setCell ⟨w.heap.size + 1 + 1, 3, none⟩ (.int .i64 r)) = V := ⟨_, rfl⟩
              have hw12b : ((((w11.setCell ⟨w.heap.size + 2, 0, none⟩ (.slice Ap nP cp)).setCell ⟨w.heap.size + 2, 1, none⟩ (.slice A7 n7 c7)).setCell ⟨w.heap.size + 2, 2, none⟩ (.slice A8 n8 c8)).setCell ⟨w.heap.size + 2, 3, none⟩ (.int .i64 r)) = w12 := hw12
              rw [hw12b] at T7 B7 p7 a7 e7
              have hv12 := Lh hw12
              have T7 := Lh T7
              have B7 := Lh B7
              have HVF : Hid (CrV w12 (.agg #[.slice Ap nP cp, .slice A7 n7 c7, .slice A8 n8 c8, .int .i64 r]) T) := Lh (by
                rw [HT.out]
                exact ⟨Ap, A7, A8, cp, c7, c8, by rw [HNM.out, HN7.out, HN8.out], p7, a7, e7, by rw [HNM.out]; exact HLP.out, by rw [HN7.out]; exact HL7.out, by rw [HN8.out]; exact HL8.out⟩)
              clear hw12 hw12b p7 a7 e7 p9 a9 e9 R9 B9 HTD
              go_wp2
              (try rw [hv12.out])
              have y0 : w12.cell? ⟨w.heap.size + 1 + 1, 0, none⟩ = some (.slice Ap nP cp) := (blk_cell T7.out 0).trans rfl
              have y1 : w12.cell? ⟨w.heap.size + 1 + 1, 1, none⟩ = some (.slice A7 n7 c7) := (blk_cell T7.out 1).trans rfl
              have y2 : w12.cell? ⟨w.heap.size + 1 + 1, 2, none⟩ = some (.slice A8 n8 c8) := (blk_cell T7.out 2).trans rfl
              have y3 : w12.cell? ⟨w.heap.size + 1 + 1, 3, none⟩ = some (.int .i64 r) := (blk_cell T7.out 3).trans rfl
              exact bodyPost_ret (v := .agg #[.slice Ap nP cp, .slice A7 n7 c7, .slice A8 n8 c8, .int .i64 r]) (by simp [results, Try.results38, go_sem, y0, y1, y2, y3]) rfl ⟨_, rfl, HVF.out, B7.out⟩
theorem rtrail_calls {w : World} {v : Value} {c : Cr} (h : CrV w v c) (y : P3) (K : Int) (hl : c.p.length ≤ 140737488355328 ∧ c.a.length ≤ 140737488355328 ∧ c.e.length ≤ 140737488355328) : Calls Try.prog 38 #[v, aP y, .int .i64 K] w (TrailPost (trailF c y K) w) := by
  obtain ⟨p, a, e, r⟩ := c
  obtain ⟨A0, A1, A2, c0, c1, c2, rfl, h0, h1, h2, _⟩ := id h.out
  exact rtrail_in p a e r A0 A1 A2 c0 c1 c2 y K w h h0 h1 h2 hl
end Go.Proofs.Ytckdhahceelckaa.G
namespace Go.Proofs.Ytckdhahceelckaa.G
open Go.RowKit Go.Proofs.YtckdhahceelckaaW.PrintWords Go.Proofs.YtckdhahceelckaaW.PrintLast Go.Proofs.YtckdhahceelckaaW.PrintMore
attribute [local go_sem] max2_mx min2_mn max_two min_two max_three min_three max_four min_four
attribute [local go_sem high] eqA23 eqA40
set_option linter.unusedVariables false
set_option linter.unusedSimpArgs false
/-- what Near asks of the i-th -/
def askN (a : Cr) (l : List Cr) (i : Nat) : (P3 × Int) × Bool := match l[i]? with | some d => apS a d | none => (nearZ, false)
theorem nearL_ask (a : Cr) (l : List Cr) : nearL a l = leastF nearZ (askN a l) (fun x y => decide (x.2 < y.2)) l.length := rfl
theorem askN_get (a : Cr) (l : List Cr) (i : Nat) (h : i < l.length) : askN a l i = apS a l[i] := by unfold askN; rw [List.getElem?_eq_getElem h]
def NearPost (R : (P3 × Int) × Bool) (w : World) (en : Ending) (w' : World) : Prop := en = .returned (.tuple #[.agg #[.int .i64 R.1.1.x, .int .i64 R.1.1.y, .int .i64 R.1.1.z, .int .i64 R.1.2], .bool R.2]) ∧ Below w.heap.size w w'
set_option maxHeartbeats 8000000 in
set_option maxRecDepth 100000 in
theorem nask_calls {w : World} {a : Cr} (l : List Cr) (A : Option Addr) (n c ga gl i : Nat) (A0 A1 A2 : Option Addr) (n0 n1 n2 c0 c1 c2 : Nat) (ra : Int) (hga : w.heap[ga]? = some (.cells #[.slice A0 n0 c0, .slice A1 n1 c1, .slice A2 n2 c2, .int .i64 ra] 36 (0, 0))) (hgl : w.heap[gl]? = some (.cells #[.slice A n c] 57 (0, 0)))
    (ha : CrV w (.agg #[.slice A0 n0 c0, .slice A1 n1 c1, .slice A2 n2 c2, .int .i64 ra]) a) (hl : RdC w A l) (hn : l.length = n) (hi : i < n) (hnb : n ≤ 140737488355328) :
    Calls Try.prog 86 #[.int .i64 i, .pointer (some ⟨ga, 0, none⟩), .pointer (some ⟨gl, 0, none⟩)] w (NearPost (askN a l i) w) := by
  have hil : i < l.length := by omega
  obtain ⟨b, o, B0, B1, B2, m0, m1, m2, d0, d1, d2, rfl, lb, e0, e1, e2, e3, hd⟩ := hl.get i hil
  have HCA := Lh (fun (W : World) (h1 : CrV W (.agg #[.slice A0 n0 c0, .slice A1 n1 c1, .slice A2 n2 c2, .int .i64 ra]) a) (h2 : CrV W (.agg #[.slice B0 m0 d0, .slice B1 m1 d1, .slice B2 m2 d2, .int .i64 l[i].r]) l[i]) => apart_all h1 h2 (apS a l[i]) rfl)
  have HGE : Hid (askN a l i = apS a l[i]) := Lh (askN_get a l i hil)
  obtain ⟨RR, hRR⟩ : ∃ r : (P3 × Int) × Bool, askN a l i = r := ⟨_, rfl⟩
  rw [hRR] at HGE ⊢
  obtain ⟨d, hdd⟩ : ∃ d, l[i] = d := ⟨_, rfl⟩
  rw [hdd] at HCA HGE hd e3
  obtain ⟨R, hR⟩ : ∃ R, apS a d = R := ⟨_, rfl⟩
  rw [hR] at HGE HCA
  obtain ⟨⟨⟨Xx, Xy, Xz⟩, Xg⟩, Xo⟩ := R
  (try simp only at HCA)
  obtain ⟨rd, hrd⟩ : ∃ r, d.r = r := ⟨_, rfl⟩
  rw [hrd] at HCA hd e3
  have HVA := Lh ha
  have HVD := Lh hd
  have ti : (i : Int) < (n : Int) := by omega
  have bz := (Below.refl _ w).alloc (Nat.le_refl _) (.cells #[.int .i64 0, .int .i64 0, .int .i64 0, .int .i64 0] 40)
  have Z := Lh (heap_alloc_new w (.cells #[.int .i64 0, .int .i64 0, .int .i64 0, .int .i64 0] 40))
  have hga := (bz.block _ (blk_lt hga)).trans hga
  have hgl := (bz.block _ (blk_lt hgl)).trans hgl
  have HVA := Lh (HVA.out.below bz)
  have HVD := Lh (HVD.out.below bz)
  have e0 := (bz.cell (p := ⟨b, _, none⟩) lb).trans e0
  have e1 := (bz.cell (p := ⟨b, _, none⟩) lb).trans e1
  have e2 := (bz.cell (p := ⟨b, _, none⟩) lb).trans e2
  have e3 := (bz.cell (p := ⟨b, _, none⟩) lb).trans e3
  have lb := Nat.lt_of_lt_of_le lb bz.size
  go_enter Try.func86, Try.ntmps86
  go_wp2_with fail
  obtain ⟨w1, hw1⟩ : ∃ V, w.alloc (.cells #[.int .i64 0, .int .i64 0, .int .i64 0, .int .i64 0] 40) = V := ⟨_, rfl⟩
  rw [hw1] at bz Z hga hgl HVA HVD e0 e1 e2 e3 lb ⊢
  have WB := Lh bz
  have lz : w.heap.size < w1.heap.size := blk_lt Z.out
  have x0 : w1.cell? ⟨ga, 0, none⟩ = some (.slice A0 n0 c0) := (blk_cell hga 0).trans rfl
  have x1 : w1.cell? ⟨ga, 1, none⟩ = some (.slice A1 n1 c1) := (blk_cell hga 1).trans rfl
  have x2 : w1.cell? ⟨ga, 2, none⟩ = some (.slice A2 n2 c2) := (blk_cell hga 2).trans rfl
  have x3 : w1.cell? ⟨ga, 3, none⟩ = some (.int .i64 ra) := (blk_cell hga 3).trans rfl
  have la : ga < w1.heap.size := blk_lt hga
  have q0 : w1.cell? ⟨gl, 0, none⟩ = some (.slice (some ⟨b, o, none⟩) n c) := (blk_cell hgl 0).trans rfl
  have ll : gl < w1.heap.size := blk_lt hgl
  clear ha hd hl hn hR hdd hrd hRR hga hgl hil bz hw1
  have HB := Lh ((Below.refl (w1.heap.size) w1).drew)
  have HA := Lh (show w1.drew.heap[(w.heap.size)]? = _ from Z.out)
  refine start_ (n := 10) (S := fun w' => w'.cell? ⟨ga, 0, none⟩ = some (.slice A0 n0 c0) ∧ w'.cell? ⟨ga, 1, none⟩ = some (.slice A1 n1 c1) ∧ w'.cell? ⟨ga, 2, none⟩ = some (.slice A2 n2 c2) ∧ w'.cell? ⟨ga, 3, none⟩ = some (.int .i64 ra) ∧ w'.cell? ⟨gl, 0, none⟩ = some (.slice (some ⟨b, o, none⟩) n c) ∧ w'.cell? ⟨b, o + i * 4, none⟩ = some (.slice B0 m0 d0) ∧ w'.cell? ⟨b, o + i * 4 + 1, none⟩ = some (.slice B1 m1 d1) ∧ w'.cell? ⟨b, o + i * 4 + 2, none⟩ = some (.slice B2 m2 d2) ∧ w'.cell? ⟨b, o + i * 4 + 3, none⟩ = some (.int .i64 rd)) (ds := [8]) (MT 0 10) (by kernel_rfl) rfl rfl ⟨(HB.out.cell (p := ⟨ga, 0, none⟩) (la)).trans x0, (HB.out.cell (p := ⟨ga, 1, none⟩) (la)).trans x1, (HB.out.cell (p := ⟨ga, 2, none⟩) (la)).trans x2, (HB.out.cell (p := ⟨ga, 3, none⟩) (la)).trans x3, (HB.out.cell (p := ⟨gl, 0, none⟩) (ll)).trans q0, (HB.out.cell (p := ⟨b, o + i * 4, none⟩) (lb)).trans e0, (HB.out.cell (p := ⟨b, o + i * 4 + 1, none⟩) (lb)).trans e1, (HB.out.cell (p := ⟨b, o + i * 4 + 2, none⟩) (lb)).trans e2, (HB.out.cell (p := ⟨b, o + i * 4 + 3, none⟩) (lb)).trans e3⟩ (fun hHeld => ?_)
  obtain ⟨wd, hwd⟩ : ∃ x, w1.drew = x := ⟨_, rfl⟩
  rw [hwd] at HB hHeld HA ⊢
  clear hwd
  refine pu_ 2 8 (h := ?_)
  refine ta_ 0 6 hHeld (h := ?_)
  refine ta_ 1 7 hHeld (h := ?_)
  refine pu_ 3 9 (h := ?_)
  refine ta_ 4 10 hHeld (h := ?_)
  refine on_ 5 (some 11) (h := fun K hK => ?_)
  refine gs_ Try.func20 #[.agg #[.slice A0 n0 c0, .slice A1 n1 c1, .slice A2 n2 c2, .int .i64 ra], .agg #[.slice B0 m0 d0, .slice B1 m1 d1, .slice B2 m2 d2, .int .i64 rd]] ?_
  with_reducible refine (HCA.out _ (HVA.out.below HB.out) (HVD.out.below HB.out)).mono ?_
  rintro en w3 ⟨rfl, hb⟩
  have HB := Lh (HB.out.trans (hb.mono HB.out.size))
  have HA := Lh ((hb.block _ (blk_lt HA.out)).trans HA.out)
  clear hb
  refine ⟨_, rfl, ?_⟩
  refine hK.out _ _ ⟨(HB.out.cell (p := ⟨ga, 0, none⟩) (la)).trans x0, (HB.out.cell (p := ⟨ga, 1, none⟩) (la)).trans x1, (HB.out.cell (p := ⟨ga, 2, none⟩) (la)).trans x2, (HB.out.cell (p := ⟨ga, 3, none⟩) (la)).trans x3, (HB.out.cell (p := ⟨gl, 0, none⟩) (ll)).trans q0, (HB.out.cell (p := ⟨b, o + i * 4, none⟩) (lb)).trans e0, (HB.out.cell (p := ⟨b, o + i * 4 + 1, none⟩) (lb)).trans e1, (HB.out.cell (p := ⟨b, o + i * 4 + 2, none⟩) (lb)).trans e2, (HB.out.cell (p := ⟨b, o + i * 4 + 3, none⟩) (lb)).trans e3⟩ (fun hHeld => ?_)
  clear hK K
  refine no_ (h := ?_)
  refine pu_ 6 12 (h := ?_)
  refine pu_ 7 13 (h := ?_)
  refine last_ (i := 8) (N := none) (MT 9 1) rfl rfl (by kernel_rfl) (by decide) (fun K hK => ?_)
  have sc0 : World.cell? _ ⟨(w.heap.size), 0, none⟩ = some (.int .i64 0) := (blk_cell HA.out 0).trans rfl
  have sf0 := blk_frozen HA.out 0
  have sc1 : World.cell? _ ⟨(w.heap.size), 1, none⟩ = some (.int .i64 0) := (blk_cell HA.out 1).trans rfl
  have sf1 := blk_frozen HA.out 1
  have sc2 : World.cell? _ ⟨(w.heap.size), 2, none⟩ = some (.int .i64 0) := (blk_cell HA.out 2).trans rfl
  have sf2 := blk_frozen HA.out 2
  have sc3 : World.cell? _ ⟨(w.heap.size), 3, none⟩ = some (.int .i64 0) := (blk_cell HA.out 3).trans rfl
  have sf3 := blk_frozen HA.out 3
  refine skip_ (w1 := ?_) (by rfl) rfl ?_ ?_
  rotate_left
  · go_simp
    rfl
  have HB := Lh (show Below (w.heap.size) _ _ from HB.out.mono (show w.heap.size ≤ w1.heap.size by omega))
  have HA := Lh (bs4 HA.out (.int .i64 Xx) (.int .i64 Xy) (.int .i64 Xz) (.int .i64 Xg))
  have HB := Lh (bb4 HB.out (Nat.le_refl _) (.int .i64 Xx) (.int .i64 Xy) (.int .i64 Xz) (.int .i64 Xg))
  clear sc0 sf0 sc1 sf1 sc2 sf2 sc3 sf3
  refine hK.out _ _ ?_
  clear hK K
  refine pu_ 9 5 (h := ?_)
  refine done_ (by kernel_rfl) ?_
  obtain ⟨w4, hwn⟩ : ∃ V, ((((w3.setCell ⟨(w.heap.size), 0, none⟩ (.int .i64 Xx)).setCell ⟨(w.heap.size), 1, none⟩ (.int .i64 Xy)).setCell ⟨(w.heap.size), 2, none⟩ (.int .i64 Xz)).setCell ⟨(w.heap.size), 3, none⟩ (.int .i64 Xg)) = V := ⟨_, rfl⟩
  rw [hwn] at HA HB ⊢
  clear hwn
  have WB := Lh (WB.out.trans HB.out)
  have t0 : w4.cell? ⟨w.heap.size, 0, none⟩ = some (.int .i64 Xx) := (blk_cell HA.out 0).trans rfl
  have t1 : w4.cell? ⟨w.heap.size, 1, none⟩ = some (.int .i64 Xy) := (blk_cell HA.out 1).trans rfl
  have t2 : w4.cell? ⟨w.heap.size, 2, none⟩ = some (.int .i64 Xz) := (blk_cell HA.out 2).trans rfl
  have t3 : w4.cell? ⟨w.heap.size, 3, none⟩ = some (.int .i64 Xg) := (blk_cell HA.out 3).trans rfl
  clear hHeld HA HB HVA HVD HCA
  go_wp2
  exact bodyPost_ret (v := .tuple #[.agg #[.int .i64 Xx, .int .i64 Xy, .int .i64 Xz, .int .i64 Xg], .bool Xo]) (by simp [results, Try.results86, go_sem, t0, t1, t2, t3]) rfl ⟨by rw [HGE.out], WB.out⟩
set_option maxHeartbeats 2000000 in
theorem nless_calls (Xx Xy Xz Xg Yx Yy Yz Yg : Int) (w : World) : Calls Try.prog 87 #[.agg #[.int .i64 Xx, .int .i64 Xy, .int .i64 Xz, .int .i64 Xg], .agg #[.int .i64 Yx, .int .i64 Yy, .int .i64 Yz, .int .i64 Yg]] w fun e w' => e = .returned (.bool (decide (Xg < Yg))) ∧ Below w.heap.size w w' := by
  have b2 := ((Below.refl _ w).alloc (Nat.le_refl _) (.cells #[.int .i64 Xx, .int .i64 Xy, .int .i64 Xz, .int .i64 Xg] 40)).alloc (by simp) (.cells #[.int .i64 Yx, .int .i64 Yy, .int .i64 Yz, .int .i64 Yg] 40)
  go_enter Try.func87, Try.ntmps87
  go_wp2
  go_ret
  exact ⟨rfl, b2⟩
def LeastN (R : Int × (P3 × Int)) (w : World) (en : Ending) (w' : World) : Prop := en = .returned (.tuple #[.int .i64 R.1, .agg #[.int .i64 R.2.1.x, .int .i64 R.2.1.y, .int .i64 R.2.1.z, .int .i64 R.2.2]]) ∧ Below w.heap.size w w'
set_option maxHeartbeats 8000000 in
set_option maxRecDepth 100000 in
theorem nleast_calls (n : Nat) (ask : Nat → (P3 × Int) × Bool) (ga gl : Nat) (w : World) (hn : n ≤ 140737488355328)
    (H : ∀ (W : World) (i : Nat), Below w.heap.size w W → i < n → Calls Try.prog 86 #[.int .i64 i, .pointer (some ⟨ga, 0, none⟩), .pointer (some ⟨gl, 0, none⟩)] W (NearPost (ask i) W)) :
    Calls Try.prog 85 #[.int .i64 n, .func (.func 86) #[] #[.pointer (some ⟨ga, 0, none⟩), .pointer (some ⟨gl, 0, none⟩)], .func (.func 87) #[] #[]] w (LeastN (leastF nearZ ask (fun x y => decide (x.2 < y.2)) n) w) := by
  have HH := Lh H
  have HST := Lh (fun i => show leastF nearZ ask (fun x y => decide (x.2 < y.2)) (i + 1) = if (ask i).2 = true ∧ ((leastF nearZ ask (fun x y => decide (x.2 < y.2)) i).1 < 0 ∨ decide ((ask i).1.2 < (leastF nearZ ask (fun x y => decide (x.2 < y.2)) i).2.2) = true) then ((i : Int), (ask i).1) else leastF nearZ ask (fun x y => decide (x.2 < y.2)) i from rfl)
  have H0 : Hid (leastF nearZ ask (fun x y => decide (x.2 < y.2)) 0 = (-1, nearZ)) := Lh rfl
  obtain ⟨L, hL⟩ : ∃ L : Nat → Int × (P3 × Int), leastF nearZ ask (fun x y => decide (x.2 < y.2)) = L := ⟨_, rfl⟩
  rw [hL] at HST H0 ⊢
  clear H hL
  have b2 := ((Below.refl _ w).alloc (Nat.le_refl _) (.cells #[.int .i64 0, .int .i64 0, .int .i64 0, .int .i64 0] 40)).alloc (by simp) (.cells #[.int .i64 0, .int .i64 0, .int .i64 0, .int .i64 0] 40)
  have g0 := (Below.heap_alloc _ (.cells #[.int .i64 0, .int .i64 0, .int .i64 0, .int .i64 0] 40) _ (by simp)).trans (heap_alloc_new w (.cells #[.int .i64 0, .int .i64 0, .int .i64 0, .int .i64 0] 40))
  have g1 := heap_alloc_new (w.alloc (.cells #[.int .i64 0, .int .i64 0, .int .i64 0, .int .i64 0] 40)) (.cells #[.int .i64 0, .int .i64 0, .int .i64 0, .int .i64 0] 40)
  simp only [World.size_alloc] at g1
  go_enter Try.func85, Try.ntmps85
  go_wp2_with fail
  obtain ⟨w1, hw1⟩ : ∃ V, (w.alloc (.cells #[.int .i64 0, .int .i64 0, .int .i64 0, .int .i64 0] 40)).alloc (.cells #[.int .i64 0, .int .i64 0, .int .i64 0, .int .i64 0] 40) = V := ⟨_, rfl⟩
  rw [hw1] at b2 g0 g1 ⊢
  have W := Lh b2
  have Z0 := Lh g0
  have Z1 := Lh g1
  clear b2 g0 g1 hw1
  go_loopw [8, 14] (fun v8 v14 wr => ∃ i : Nat, i ≤ n ∧ v14 = .int .i64 i ∧ v8 = .int .i64 (L i).1 ∧ Hid (wr.heap[w.heap.size]? = some (.cells #[.int .i64 0, .int .i64 0, .int .i64 0, .int .i64 0] 40 (0, 0))) ∧ Hid (wr.heap[w.heap.size + 1]? = some (.cells #[.int .i64 (L i).2.1.x, .int .i64 (L i).2.1.y, .int .i64 (L i).2.1.z, .int .i64 (L i).2.2] 40 (0, 0))) ∧ Hid (Below w.heap.size w wr)) (fun _ i _ => n - (intOf i).toNat)
  case atStart => exact ⟨0, by omega, rfl, by rw [H0.out], Z0, by rw [H0.out]; exact Z1, W⟩
  case round =>
    clear Z0 Z1 W
    obtain ⟨i, hi, rfl, rfl, Z0, Z1, W⟩ := hrel
    obtain ⟨wq, hwq⟩ : ∃ x : World, x = wr := ⟨_, rfl⟩
    subst hwq
    by_cases hlt : i < n
    · have HI := Lh (HH.out wq i W.out hlt)
      have HS1 := Lh (HST.out i)
      obtain ⟨R, hR⟩ : ∃ R, ask i = R := ⟨_, rfl⟩
      rw [hR] at HI HS1
      obtain ⟨m, hm⟩ : ∃ m, L i = m := ⟨_, rfl⟩
      rw [hm] at HS1 Z1 ⊢
      obtain ⟨at_, ⟨Bx, By, Bz⟩, Bg⟩ := m
      obtain ⟨⟨⟨Xx, Xy, Xz⟩, Xg⟩, is⟩ := R
      have Z1 := Lh (show wq.heap[w.heap.size + 1]? = some (.cells #[.int .i64 Bx, .int .i64 By, .int .i64 Bz, .int .i64 Bg] 40 (0, 0)) from Z1.out)
      have HS1 := Lh (show L (i + 1) = if is = true ∧ (at_ < 0 ∨ decide (Xg < Bg) = true) then ((i : Int), ((⟨Xx, Xy, Xz⟩, Xg) : P3 × Int)) else (at_, ((⟨Bx, By, Bz⟩, Bg) : P3 × Int)) from HS1.out)
      simp only
      have ti : (i : Int) < (n : Int) := by omega
      clear hR hm
      go_wp2_with fail
      with_reducible refine HI.out.mono ?_
      rintro en w2 ⟨rfl, hb⟩
      have W := Lh (bthen W.out hb)
      have Z0 := Lh ((hb.block _ (blk_lt Z0.out)).trans Z0.out)
      have Z1 := Lh ((hb.block _ (blk_lt Z1.out)).trans Z1.out)
      clear hb HI
      go_upto_region 7 with fail
      have bz := (Below.refl _ w2).alloc (Nat.le_refl _) (.cells #[.int .i64 Xx, .int .i64 Xy, .int .i64 Xz, .int .i64 Xg] 40)
      have YC := Lh (heap_alloc_new w2 (.cells #[.int .i64 Xx, .int .i64 Xy, .int .i64 Xz, .int .i64 Xg] 40))
      have W := Lh (bthen W.out bz)
      have Z0 := Lh ((bz.block _ (blk_lt Z0.out)).trans Z0.out)
      have ly := Lh (blk_lt Z1.out)
      have Z1 := Lh ((bz.block _ (blk_lt Z1.out)).trans Z1.out)
      obtain ⟨w3, hw3⟩ : ∃ V, w2.alloc (.cells #[.int .i64 Xx, .int .i64 Xy, .int .i64 Xz, .int .i64 Xg] 40) = V := ⟨_, rfl⟩
      obtain ⟨YB, hYB⟩ : ∃ n, w2.heap.size = n := ⟨_, rfl⟩
      (try simp only)
      rw [hw3] at YC W Z0 Z1 ⊢
      rw [hYB] at YC ly ⊢
      clear bz hw3 hYB
      have NE : Hid (YB ≠ w.heap.size + 1 ∧ w.heap.size ≠ w.heap.size + 1) := Lh (by have := ly.out; omega)
      cases is with
      | false =>
        have hS : Hid (L (i + 1) = (at_, ((⟨Bx, By, Bz⟩, Bg) : P3 × Int))) := Lh (by rw [HS1.out, if_neg (by simp)])
        clear HS1 YC
        go_wp2
        go_roundw
        case rel => exact ⟨i + 1, by omega, by go_num, by rw [hS.out], Z0, by rw [hS.out]; exact Z1, W⟩
        case measure => simp [intOf]; omega
      | true =>
        by_cases ta : at_ < 0
        · have ea : decide (at_ < 0) = true := decide_eq_true ta
          have hS : Hid (L (i + 1) = ((i : Int), ((⟨Xx, Xy, Xz⟩, Xg) : P3 × Int))) := Lh (by rw [HS1.out, if_pos (by simp [ta])])
          clear HS1 ta
          go_wp2_with fail
          have HB := Lh ((Below.refl w3.heap.size w3).drew)
          have FF := Lh (show ∀ V, Hid (Below w3.heap.size w3 V) → V.cell? ⟨YB, 0, none⟩ = some (.int .i64 Xx) ∧ V.cell? ⟨YB, 1, none⟩ = some (.int .i64 Xy) ∧ V.cell? ⟨YB, 2, none⟩ = some (.int .i64 Xz) ∧ V.cell? ⟨YB, 3, none⟩ = some (.int .i64 Xg) from fun V HB => have e := (HB.out.block _ (blk_lt YC.out)).trans YC.out; ⟨(blk_cell e 0).trans rfl, (blk_cell e 1).trans rfl, (blk_cell e 2).trans rfl, (blk_cell e 3).trans rfl⟩)
          refine start_ (n := 4) (S := fun w' => w'.cell? ⟨YB, 0, none⟩ = some (.int .i64 Xx) ∧ w'.cell? ⟨YB, 1, none⟩ = some (.int .i64 Xy) ∧ w'.cell? ⟨YB, 2, none⟩ = some (.int .i64 Xz) ∧ w'.cell? ⟨YB, 3, none⟩ = some (.int .i64 Xg)) (ds := [3]) (MT 0 4) (by kernel_rfl) rfl rfl (FF.out _ HB) (fun hHeld => ?_)
          obtain ⟨wd, hwd⟩ : ∃ x, w3.drew = x := ⟨_, rfl⟩
          rw [hwd] at HB hHeld ⊢
          clear hwd
          refine pu_ 0 34 (h := ?_)
          refine pu_ 2 8 (h := ?_)
          refine ta_ 1 35 hHeld (h := ?_)
          refine last_ (i := 3) (N := none) (MT 4 0) rfl rfl (by kernel_rfl) (by decide) (fun K hK => ?_)
          have R4 := (HB.out.block _ (blk_lt Z1.out)).trans Z1.out
          have sc0 : World.cell? _ ⟨w.heap.size + 1, 0, none⟩ = some (.int .i64 Bx) := (blk_cell R4 0).trans rfl
          have sf0 : World.frozen? _ ⟨w.heap.size + 1, 0, none⟩ = false := blk_frozen R4 0
          have sc1 : World.cell? _ ⟨w.heap.size + 1, 1, none⟩ = some (.int .i64 By) := (blk_cell R4 1).trans rfl
          have sf1 : World.frozen? _ ⟨w.heap.size + 1, 1, none⟩ = false := blk_frozen R4 1
          have sc2 : World.cell? _ ⟨w.heap.size + 1, 2, none⟩ = some (.int .i64 Bz) := (blk_cell R4 2).trans rfl
          have sf2 : World.frozen? _ ⟨w.heap.size + 1, 2, none⟩ = false := blk_frozen R4 2
          have sc3 : World.cell? _ ⟨w.heap.size + 1, 3, none⟩ = some (.int .i64 Bg) := (blk_cell R4 3).trans rfl
          have sf3 : World.frozen? _ ⟨w.heap.size + 1, 3, none⟩ = false := blk_frozen R4 3
          refine skip_ (w1 := ?_) (by rfl) rfl ?_ ?_
          rotate_left
          · go_simp
            rfl
          refine hK.out _ _ ?_
          clear hK K
          refine done_ (by kernel_rfl) ?_
          have DST := bs4 R4 (.int .i64 Xx) (.int .i64 Xy) (.int .i64 Xz) (.int .i64 Xg)
          have HBX := bb4 (HB.out.mono (show w.heap.size ≤ w3.heap.size from W.out.size)) (show w.heap.size ≤ w.heap.size + 1 by omega) (.int .i64 Xx) (.int .i64 Xy) (.int .i64 Xz) (.int .i64 Xg)
          have Z0_ := (bo4 (NE.out.2) (.int .i64 Xx) (.int .i64 Xy) (.int .i64 Xz) (.int .i64 Xg)).trans ((HB.out.block _ (blk_lt Z0.out)).trans Z0.out)
          obtain ⟨w9, hV⟩ : ∃ V, ((((wd.setCell ⟨w.heap.size + 1, 0, none⟩ (.int .i64 Xx)).setCell ⟨w.heap.size + 1, 1, none⟩ (.int .i64 Xy)).setCell ⟨w.heap.size + 1, 2, none⟩ (.int .i64 Xz)).setCell ⟨w.heap.size + 1, 3, none⟩ (.int .i64 Xg)) = V := ⟨_, rfl⟩
          rw [hV] at DST HBX Z0_
          (try rw [hV])
          have hVV := Lh hV
          have DST := Lh DST
          have HBX := Lh HBX
          have Z0 := Lh Z0_
          clear hV hHeld HB FF R4 sc0 sf0 sc1 sf1 sc2 sf2 sc3 sf3 Z0_
          have W := Lh (W.out.trans HBX.out)
          have Z1 := DST
          clear DST HBX YC
          go_wp2
          go_roundw
          case rel => exact ⟨i + 1, by omega, by go_num, by rw [hS.out], Z0, by rw [hS.out]; exact Z1, W⟩
          case measure => simp [intOf]; omega
        · have ea : decide (at_ < 0) = false := decide_eq_false ta
          have HLE := Lh (fun (W : World) => nless_calls Xx Xy Xz Xg Bx By Bz Bg W)
          have u0 : w3.cell? ⟨YB, 0, none⟩ = some (.int .i64 Xx) := (blk_cell YC.out 0).trans rfl
          have u1 : w3.cell? ⟨YB, 1, none⟩ = some (.int .i64 Xy) := (blk_cell YC.out 1).trans rfl
          have u2 : w3.cell? ⟨YB, 2, none⟩ = some (.int .i64 Xz) := (blk_cell YC.out 2).trans rfl
          have u3 : w3.cell? ⟨YB, 3, none⟩ = some (.int .i64 Xg) := (blk_cell YC.out 3).trans rfl
          have ul : YB < w3.heap.size := blk_lt YC.out
          have v0 : w3.cell? ⟨w.heap.size + 1, 0, none⟩ = some (.int .i64 Bx) := (blk_cell Z1.out 0).trans rfl
          have v1 : w3.cell? ⟨w.heap.size + 1, 1, none⟩ = some (.int .i64 By) := (blk_cell Z1.out 1).trans rfl
          have v2 : w3.cell? ⟨w.heap.size + 1, 2, none⟩ = some (.int .i64 Bz) := (blk_cell Z1.out 2).trans rfl
          have v3 : w3.cell? ⟨w.heap.size + 1, 3, none⟩ = some (.int .i64 Bg) := (blk_cell Z1.out 3).trans rfl
          have vl : w.heap.size + 1 < w3.heap.size := blk_lt Z1.out
          go_wp2_with fail
          with_reducible refine (HLE.out _).mono ?_
          rintro en w4 ⟨rfl, hb⟩
          have W := Lh (bthen W.out hb)
          have Z0 := Lh ((hb.block _ (blk_lt Z0.out)).trans Z0.out)
          have Z1 := Lh ((hb.block _ (blk_lt Z1.out)).trans Z1.out)
          have YC := Lh ((hb.block _ (blk_lt YC.out)).trans YC.out)
          clear hb HLE u0 u1 u2 u3 ul v0 v1 v2 v3 vl
          by_cases tp : Xg < Bg
          · have ep : decide (Xg < Bg) = true := decide_eq_true tp
            have hS : Hid (L (i + 1) = ((i : Int), ((⟨Xx, Xy, Xz⟩, Xg) : P3 × Int))) := Lh (by rw [HS1.out, if_pos (by simp [ep])])
            clear HS1 ta tp
            rw [ep]
            go_wp2_with fail
            have HB := Lh ((Below.refl w4.heap.size w4).drew)
            have FF := Lh (show ∀ V, Hid (Below w4.heap.size w4 V) → V.cell? ⟨YB, 0, none⟩ = some (.int .i64 Xx) ∧ V.cell? ⟨YB, 1, none⟩ = some (.int .i64 Xy) ∧ V.cell? ⟨YB, 2, none⟩ = some (.int .i64 Xz) ∧ V.cell? ⟨YB, 3, none⟩ = some (.int .i64 Xg) from fun V HB => have e := (HB.out.block _ (blk_lt YC.out)).trans YC.out; ⟨(blk_cell e 0).trans rfl, (blk_cell e 1).trans rfl, (blk_cell e 2).trans rfl, (blk_cell e 3).trans rfl⟩)
            refine start_ (n := 4) (S := fun w' => w'.cell? ⟨YB, 0, none⟩ = some (.int .i64 Xx) ∧ w'.cell? ⟨YB, 1, none⟩ = some (.int .i64 Xy) ∧ w'.cell? ⟨YB, 2, none⟩ = some (.int .i64 Xz) ∧ w'.cell? ⟨YB, 3, none⟩ = some (.int .i64 Xg)) (ds := [3]) (MT 0 4) (by kernel_rfl) rfl rfl (FF.out _ HB) (fun hHeld => ?_)
            obtain ⟨wd, hwd⟩ : ∃ x, w4.drew = x := ⟨_, rfl⟩
            rw [hwd] at HB hHeld ⊢
            clear hwd
            refine pu_ 0 34 (h := ?_)
            refine pu_ 2 8 (h := ?_)
            refine ta_ 1 35 hHeld (h := ?_)
            refine last_ (i := 3) (N := none) (MT 4 0) rfl rfl (by kernel_rfl) (by decide) (fun K hK => ?_)
            have R4 := (HB.out.block _ (blk_lt Z1.out)).trans Z1.out
            have sc0 : World.cell? _ ⟨w.heap.size + 1, 0, none⟩ = some (.int .i64 Bx) := (blk_cell R4 0).trans rfl
            have sf0 : World.frozen? _ ⟨w.heap.size + 1, 0, none⟩ = false := blk_frozen R4 0
            have sc1 : World.cell? _ ⟨w.heap.size + 1, 1, none⟩ = some (.int .i64 By) := (blk_cell R4 1).trans rfl
            have sf1 : World.frozen? _ ⟨w.heap.size + 1, 1, none⟩ = false := blk_frozen R4 1
            have sc2 : World.cell? _ ⟨w.heap.size + 1, 2, none⟩ = some (.int .i64 Bz) := (blk_cell R4 2).trans rfl
            have sf2 : World.frozen? _ ⟨w.heap.size + 1, 2, none⟩ = false := blk_frozen R4 2
            have sc3 : World.cell? _ ⟨w.heap.size + 1, 3, none⟩ = some (.int .i64 Bg) := (blk_cell R4 3).trans rfl
            have sf3 : World.frozen? _ ⟨w.heap.size + 1, 3, none⟩ = false := blk_frozen R4 3
            refine skip_ (w1 := ?_) (by rfl) rfl ?_ ?_
            rotate_left
            · go_simp
              rfl
            refine hK.out _ _ ?_
            clear hK K
            refine done_ (by kernel_rfl) ?_
            have DST := bs4 R4 (.int .i64 Xx) (.int .i64 Xy) (.int .i64 Xz) (.int .i64 Xg)
            have HBX := bb4 (HB.out.mono (show w.heap.size ≤ w4.heap.size from W.out.size)) (show w.heap.size ≤ w.heap.size + 1 by omega) (.int .i64 Xx) (.int .i64 Xy) (.int .i64 Xz) (.int .i64 Xg)
            have Z0_ := (bo4 (NE.out.2) (.int .i64 Xx) (.int .i64 Xy) (.int .i64 Xz) (.int .i64 Xg)).trans ((HB.out.block _ (blk_lt Z0.out)).trans Z0.out)
            obtain ⟨w9, hV⟩ : ∃ V, ((((wd.setCell ⟨w.heap.size + 1, 0, none⟩ (.int .i64 Xx)).setCell ⟨w.heap.size + 1, 1, none⟩ (.int .i64 Xy)).setCell ⟨w.heap.size + 1, 2, none⟩ (.int .i64 Xz)).setCell ⟨w.heap.size + 1, 3, none⟩ (.int .i64 Xg)) = V := ⟨_, rfl⟩
            rw [hV] at DST HBX Z0_
            (try rw [hV])
            have hVV := Lh hV
            have DST := Lh DST
            have HBX := Lh HBX
            have Z0 := Lh Z0_
            clear hV hHeld HB FF R4 sc0 sf0 sc1 sf1 sc2 sf2 sc3 sf3 Z0_
            have W := Lh (W.out.trans HBX.out)
            have Z1 := DST
            clear DST HBX YC
            go_wp2
            go_roundw
            case rel => exact ⟨i + 1, by omega, by go_num, by rw [hS.out], Z0, by rw [hS.out]; exact Z1, W⟩
            case measure => simp [intOf]; omega
          · have ep : decide (Xg < Bg) = false := decide_eq_false tp
            have hS : Hid (L (i + 1) = (at_, ((⟨Bx, By, Bz⟩, Bg) : P3 × Int))) := Lh (by
              rw [HS1.out, if_neg]
              rintro ⟨_, h | h⟩
              · omega
              · exact tp (by simpa using h))
            clear HS1 ta tp YC
            rw [ep]
            go_wp2
            go_roundw
            case rel => exact ⟨i + 1, by omega, by go_num, by rw [hS.out], Z0, by rw [hS.out]; exact Z1, W⟩
            case measure => simp [intOf]; omega
    · obtain rfl : n = i := by omega
      obtain ⟨m, hm⟩ : ∃ m, L n = m := ⟨_, rfl⟩
      rw [hm] at Z1 ⊢
      have HM := Lh hm
      obtain ⟨at_, ⟨Bx, By, Bz⟩, Bg⟩ := m
      have Z1 := Lh (show wq.heap[w.heap.size + 1]? = some (.cells #[.int .i64 Bx, .int .i64 By, .int .i64 Bz, .int .i64 Bg] 40 (0, 0)) from Z1.out)
      clear hm
      go_wp2_with fail
      have HB := Lh ((Below.refl wq.heap.size wq).drew)
      have FF := Lh (show ∀ V, Hid (Below wq.heap.size wq V) → V.cell? ⟨w.heap.size + 1, 0, none⟩ = some (.int .i64 Bx) ∧ V.cell? ⟨w.heap.size + 1, 1, none⟩ = some (.int .i64 By) ∧ V.cell? ⟨w.heap.size + 1, 2, none⟩ = some (.int .i64 Bz) ∧ V.cell? ⟨w.heap.size + 1, 3, none⟩ = some (.int .i64 Bg) from fun V HB => have e := (HB.out.block _ (blk_lt Z1.out)).trans Z1.out; ⟨(blk_cell e 0).trans rfl, (blk_cell e 1).trans rfl, (blk_cell e 2).trans rfl, (blk_cell e 3).trans rfl⟩)
      refine start_ (n := 4) (S := fun w' => w'.cell? ⟨w.heap.size + 1, 0, none⟩ = some (.int .i64 Bx) ∧ w'.cell? ⟨w.heap.size + 1, 1, none⟩ = some (.int .i64 By) ∧ w'.cell? ⟨w.heap.size + 1, 2, none⟩ = some (.int .i64 Bz) ∧ w'.cell? ⟨w.heap.size + 1, 3, none⟩ = some (.int .i64 Bg)) (ds := [3]) (MT 0 4) (by kernel_rfl) rfl rfl (FF.out _ HB) (fun hHeld => ?_)
      obtain ⟨wd, hwd⟩ : ∃ x, wq.drew = x := ⟨_, rfl⟩
      rw [hwd] at HB hHeld ⊢
      clear hwd
      refine pu_ 0 37 (h := ?_)
      refine pu_ 2 6 (h := ?_)
      refine ta_ 1 38 hHeld (h := ?_)
      refine last_ (i := 3) (N := none) (MT 4 0) rfl rfl (by kernel_rfl) (by decide) (fun K hK => ?_)
      have R4 := (HB.out.block _ (blk_lt Z0.out)).trans Z0.out
      have sc0 : World.cell? _ ⟨w.heap.size, 0, none⟩ = some (.int .i64 0) := (blk_cell R4 0).trans rfl
      have sf0 : World.frozen? _ ⟨w.heap.size, 0, none⟩ = false := blk_frozen R4 0
      have sc1 : World.cell? _ ⟨w.heap.size, 1, none⟩ = some (.int .i64 0) := (blk_cell R4 1).trans rfl
      have sf1 : World.frozen? _ ⟨w.heap.size, 1, none⟩ = false := blk_frozen R4 1
      have sc2 : World.cell? _ ⟨w.heap.size, 2, none⟩ = some (.int .i64 0) := (blk_cell R4 2).trans rfl
      have sf2 : World.frozen? _ ⟨w.heap.size, 2, none⟩ = false := blk_frozen R4 2
      have sc3 : World.cell? _ ⟨w.heap.size, 3, none⟩ = some (.int .i64 0) := (blk_cell R4 3).trans rfl
      have sf3 : World.frozen? _ ⟨w.heap.size, 3, none⟩ = false := blk_frozen R4 3
      refine skip_ (w1 := ?_) (by rfl) rfl ?_ ?_
      rotate_left
      · go_simp
        rfl
      refine hK.out _ _ ?_
      clear hK K
      refine done_ (by kernel_rfl) ?_
      have DST := bs4 R4 (.int .i64 Bx) (.int .i64 By) (.int .i64 Bz) (.int .i64 Bg)
      have HBX := bb4 (HB.out.mono (show w.heap.size ≤ wq.heap.size from W.out.size)) (Nat.le_refl _) (.int .i64 Bx) (.int .i64 By) (.int .i64 Bz) (.int .i64 Bg)
      obtain ⟨w9, hV⟩ : ∃ V, ((((wd.setCell ⟨w.heap.size, 0, none⟩ (.int .i64 Bx)).setCell ⟨w.heap.size, 1, none⟩ (.int .i64 By)).setCell ⟨w.heap.size, 2, none⟩ (.int .i64 Bz)).setCell ⟨w.heap.size, 3, none⟩ (.int .i64 Bg)) = V := ⟨_, rfl⟩
      rw [hV] at DST HBX 
      (try rw [hV])
      have hVV := Lh hV
      have DST := Lh DST
      have HBX := Lh HBX
      clear hV hHeld HB FF R4 sc0 sf0 sc1 sf1 sc2 sf2 sc3 sf3 
      have t0 : w9.cell? ⟨w.heap.size, 0, none⟩ = some (.int .i64 Bx) := (blk_cell DST.out 0).trans rfl
      have t1 : w9.cell? ⟨w.heap.size, 1, none⟩ = some (.int .i64 By) := (blk_cell DST.out 1).trans rfl
      have t2 : w9.cell? ⟨w.heap.size, 2, none⟩ = some (.int .i64 Bz) := (blk_cell DST.out 2).trans rfl
      have t3 : w9.cell? ⟨w.heap.size, 3, none⟩ = some (.int .i64 Bg) := (blk_cell DST.out 3).trans rfl
      have W := Lh (W.out.trans HBX.out)
      clear DST HBX Z0 Z1
      go_wp2
      exact bodyPost_ret (v := .tuple #[.int .i64 at_, .agg #[.int .i64 Bx, .int .i64 By, .int .i64 Bz, .int .i64 Bg]]) (by simp [results, Try.results85, go_sem, t0, t1, t2, t3]) rfl ⟨by rw [HM.out], W.out⟩
end Go.Proofs.Ytckdhahceelckaa.G
namespace Go.Proofs.Ytckdhahceelckaa.G
open Go.RowKit Go.Proofs.YtckdhahceelckaaW.PrintWords Go.Proofs.YtckdhahceelckaaW.PrintLast Go.Proofs.YtckdhahceelckaaW.PrintMore
attribute [local go_sem] max2_mx min2_mn max_two min_two max_three min_three max_four min_four
attribute [local go_sem high] eqA23 eqA40
set_option linter.unusedVariables false
set_option linter.unusedSimpArgs false
def nearS (a : Cr) (l : List Cr) : (Int × (P3 × Int)) × Bool := (nearL a l, decide (0 ≤ (nearL a l).1))
def NearR (R : (Int × (P3 × Int)) × Bool) (w : World) (en : Ending) (w' : World) : Prop := en = .returned (.tuple #[.int .i64 R.1.1, .agg #[.int .i64 R.1.2.1.x, .int .i64 R.1.2.1.y, .int .i64 R.1.2.1.z, .int .i64 R.1.2.2], .bool R.2]) ∧ Below w.heap.size w w'
set_option maxHeartbeats 4000000 in
set_option maxRecDepth 100000 in
theorem near_calls {w : World} {v : Value} {a : Cr} (ha : CrV w v a) (l : List Cr) (A : Option Addr) (n c : Nat) (hl : RdC w A l) (hn : l.length = n) (hnb : n ≤ 140737488355328) :
    Calls Try.prog 43 #[v, .slice A n c] w (NearR (nearS a l) w) := by
  have HLE : Hid (nearL a l = leastF nearZ (askN a l) (fun x y => decide (x.2 < y.2)) n) := Lh (by rw [nearL_ask, hn])
  have HNF : Hid (nearS a l = (nearL a l, decide (0 ≤ (nearL a l).1))) := Lh rfl
  obtain ⟨RL, hRL⟩ : ∃ R, nearL a l = R := ⟨_, rfl⟩
  rw [hRL] at HLE HNF
  obtain ⟨RF, hRF⟩ : ∃ R, nearS a l = R := ⟨_, rfl⟩
  rw [hRF] at HNF ⊢
  have HN := Lh hn
  have HL := Lh hl
  have HV := Lh ha
  obtain ⟨A0, A1, A2, n0, n1, n2, c0, c1, c2, rfl⟩ := ha.form
  obtain ⟨ra, hra⟩ : ∃ r, a.r = r := ⟨_, rfl⟩
  rw [hra] at HV ⊢
  clear hRL hRF hn hl ha hra
  have g0 := three0 w (.cells #[.slice A0 n0 c0, .slice A1 n1 c1, .slice A2 n2 c2, .int .i64 ra] 36) (.cells #[.slice A n c] 57) (.cells #[.int .i64 0, .int .i64 0, .int .i64 0, .int .i64 0] 40)
  have g1 := three1 w (.cells #[.slice A0 n0 c0, .slice A1 n1 c1, .slice A2 n2 c2, .int .i64 ra] 36) (.cells #[.slice A n c] 57) (.cells #[.int .i64 0, .int .i64 0, .int .i64 0, .int .i64 0] 40)
  have g2 := three2 w (.cells #[.slice A0 n0 c0, .slice A1 n1 c1, .slice A2 n2 c2, .int .i64 ra] 36) (.cells #[.slice A n c] 57) (.cells #[.int .i64 0, .int .i64 0, .int .i64 0, .int .i64 0] 40)
  have gb := Go.Joins.below_alloc3 w (.cells #[.slice A0 n0 c0, .slice A1 n1 c1, .slice A2 n2 c2, .int .i64 ra] 36) (.cells #[.slice A n c] 57) (.cells #[.int .i64 0, .int .i64 0, .int .i64 0, .int .i64 0] 40)
  obtain ⟨w1, hw1⟩ : ∃ V, ((w.alloc (.cells #[.slice A0 n0 c0, .slice A1 n1 c1, .slice A2 n2 c2, .int .i64 ra] 36)).alloc (.cells #[.slice A n c] 57)).alloc (.cells #[.int .i64 0, .int .i64 0, .int .i64 0, .int .i64 0] 40) = V := ⟨_, rfl⟩
  rw [hw1] at g0 g1 g2 gb
  have hw1' := Lh hw1
  have G0 := Lh g0
  have G1 := Lh g1
  have G2 := Lh g2
  have W := Lh gb
  clear g0 g1 g2 gb hw1
  have HLS := Lh (nleast_calls n (askN a l) w.heap.size (w.heap.size + 1) w1 hnb (fun W' i hW hi => nask_calls l A n c _ _ i _ _ _ _ _ _ _ _ _ ra ((hW.block _ (blk_lt G0.out)).trans G0.out) ((hW.block _ (blk_lt G1.out)).trans G1.out) (HV.out.below (bthen W.out hW)) (HL.out.below (bthen W.out hW)) HN.out hi hnb))
  rw [← HLE.out] at HLS
  go_enter Try.func43, Try.ntmps43
  go_wp2_with fail
  rw [hw1'.out]
  with_reducible refine HLS.out.mono ?_
  rintro en w2 ⟨rfl, hb⟩
  have G2 := Lh ((hb.block _ (blk_lt G2.out)).trans G2.out)
  have W := Lh (bthen W.out hb)
  clear hb HLS HLE hw1'
  obtain ⟨at_, ⟨Bx, By, Bz⟩, Bg⟩ := RL
  go_upto_region 2 with fail
  have bz := (Below.refl _ w2).alloc (Nat.le_refl _) (.cells #[.int .i64 Bx, .int .i64 By, .int .i64 Bz, .int .i64 Bg] 40)
  have YC := Lh (heap_alloc_new w2 (.cells #[.int .i64 Bx, .int .i64 By, .int .i64 Bz, .int .i64 Bg] 40))
  have W := Lh (bthen W.out bz)
  have G2 := Lh ((bz.block _ (blk_lt G2.out)).trans G2.out)
  obtain ⟨w3, hw3⟩ : ∃ V, w2.alloc (.cells #[.int .i64 Bx, .int .i64 By, .int .i64 Bz, .int .i64 Bg] 40) = V := ⟨_, rfl⟩
  obtain ⟨YB, hYB⟩ : ∃ n, w2.heap.size = n := ⟨_, rfl⟩
  (try simp only)
  rw [hw3] at YC W G2 ⊢
  rw [hYB] at YC ⊢
  clear bz hw3 hYB
  go_wp2_with fail
  have HB := Lh ((Below.refl w3.heap.size w3).drew)
  have FF := Lh (show ∀ V, Hid (Below w3.heap.size w3 V) → V.cell? ⟨YB, 0, none⟩ = some (.int .i64 Bx) ∧ V.cell? ⟨YB, 1, none⟩ = some (.int .i64 By) ∧ V.cell? ⟨YB, 2, none⟩ = some (.int .i64 Bz) ∧ V.cell? ⟨YB, 3, none⟩ = some (.int .i64 Bg) from fun V HB => have e := (HB.out.block _ (blk_lt YC.out)).trans YC.out; ⟨(blk_cell e 0).trans rfl, (blk_cell e 1).trans rfl, (blk_cell e 2).trans rfl, (blk_cell e 3).trans rfl⟩)
  refine start_ (n := 7) (S := fun w' => w'.cell? ⟨YB, 0, none⟩ = some (.int .i64 Bx) ∧ w'.cell? ⟨YB, 1, none⟩ = some (.int .i64 By) ∧ w'.cell? ⟨YB, 2, none⟩ = some (.int .i64 Bz) ∧ w'.cell? ⟨YB, 3, none⟩ = some (.int .i64 Bg)) (ds := [5]) (MT 0 7) (by kernel_rfl) rfl rfl (FF.out _ HB) (fun hHeld => ?_)
  obtain ⟨wd, hwd⟩ : ∃ x, w3.drew = x := ⟨_, rfl⟩
  rw [hwd] at HB hHeld ⊢
  clear hwd
  refine pu_ 0 16 (h := ?_)
  refine pu_ 2 18 (h := ?_)
  refine pu_ 3 19 (h := ?_)
  refine pu_ 4 4 (h := ?_)
  refine ta_ 1 17 hHeld (h := ?_)
  refine last_ (i := 5) (N := none) (MT 6 1) rfl rfl (by kernel_rfl) (by decide) (fun K hK => ?_)
  have R4 := (HB.out.block _ (blk_lt G2.out)).trans G2.out
  have sc0 : World.cell? _ ⟨w.heap.size + 2, 0, none⟩ = some (.int .i64 0) := (blk_cell R4 0).trans rfl
  have sf0 : World.frozen? _ ⟨w.heap.size + 2, 0, none⟩ = false := blk_frozen R4 0
  have sc1 : World.cell? _ ⟨w.heap.size + 2, 1, none⟩ = some (.int .i64 0) := (blk_cell R4 1).trans rfl
  have sf1 : World.frozen? _ ⟨w.heap.size + 2, 1, none⟩ = false := blk_frozen R4 1
  have sc2 : World.cell? _ ⟨w.heap.size + 2, 2, none⟩ = some (.int .i64 0) := (blk_cell R4 2).trans rfl
  have sf2 : World.frozen? _ ⟨w.heap.size + 2, 2, none⟩ = false := blk_frozen R4 2
  have sc3 : World.cell? _ ⟨w.heap.size + 2, 3, none⟩ = some (.int .i64 0) := (blk_cell R4 3).trans rfl
  have sf3 : World.frozen? _ ⟨w.heap.size + 2, 3, none⟩ = false := blk_frozen R4 3
  refine skip_ (w1 := ?_) (by rfl) rfl ?_ ?_
  rotate_left
  · go_simp
    rfl
  refine hK.out _ _ ?_
  clear hK K
  refine pu_ 6 6 (h := ?_)
  refine done_ (by kernel_rfl) ?_
  have DST := bs4 R4 (.int .i64 Bx) (.int .i64 By) (.int .i64 Bz) (.int .i64 Bg)
  have HBX := bb4 (HB.out.mono (show w.heap.size ≤ w3.heap.size from W.out.size)) (show w.heap.size ≤ w.heap.size + 2 by omega) (.int .i64 Bx) (.int .i64 By) (.int .i64 Bz) (.int .i64 Bg)
  obtain ⟨w9, hV⟩ : ∃ V, ((((wd.setCell ⟨w.heap.size + 2, 0, none⟩ (.int .i64 Bx)).setCell ⟨w.heap.size + 2, 1, none⟩ (.int .i64 By)).setCell ⟨w.heap.size + 2, 2, none⟩ (.int .i64 Bz)).setCell ⟨w.heap.size + 2, 3, none⟩ (.int .i64 Bg)) = V := ⟨_, rfl⟩
  rw [hV] at DST HBX 
  (try rw [hV])
  have hVV := Lh hV
  have DST := Lh DST
  have HBX := Lh HBX
  clear hV hHeld HB FF R4 sc0 sf0 sc1 sf1 sc2 sf2 sc3 sf3 
  have t0 : w9.cell? ⟨w.heap.size + 1 + 1, 0, none⟩ = some (.int .i64 Bx) := (blk_cell DST.out 0).trans rfl
  have t1 : w9.cell? ⟨w.heap.size + 1 + 1, 1, none⟩ = some (.int .i64 By) := (blk_cell DST.out 1).trans rfl
  have t2 : w9.cell? ⟨w.heap.size + 1 + 1, 2, none⟩ = some (.int .i64 Bz) := (blk_cell DST.out 2).trans rfl
  have t3 : w9.cell? ⟨w.heap.size + 1 + 1, 3, none⟩ = some (.int .i64 Bg) := (blk_cell DST.out 3).trans rfl
  have W := Lh (W.out.trans HBX.out)
  clear DST HBX G2 YC
  go_wp2
  exact bodyPost_ret (v := .tuple #[.int .i64 at_, .agg #[.int .i64 Bx, .int .i64 By, .int .i64 Bz, .int .i64 Bg], .bool (decide (0 ≤ at_))]) (by simp [results, Try.results43, go_sem, t0, t1, t2, t3]) rfl ⟨by rw [HNF.out], W.out⟩
/-- a list of numbers of the call's own; one that reads -/
def OwnNn (w : World) (base : Nat) (v : Value) (l : List Nat) : Prop := w.ownsRow base 3 1 v l.length (l.map fun (n : Nat) => Value.int .i64 (n : Int))
def RdNn (w : World) (A : Option Addr) (l : List Nat) : Prop := ∀ (i n : Nat), l[i]? = some n → ∃ b o, A = some ⟨b, o, none⟩ ∧ b < w.heap.size ∧ w.cell? ⟨b, o + i, none⟩ = some (.int .i64 (n : Int))
theorem RdNn.below {w w1 : World} {A : Option Addr} {l : List Nat} (h : RdNn w A l) (hb : Below w.heap.size w w1) : RdNn w1 A l := fun i n hn => by
  obtain ⟨b, o, e, hlt, h0⟩ := h i n hn
  exact ⟨b, o, e, Nat.lt_of_lt_of_le hlt hb.size, (hb.cell (p := ⟨b, _, none⟩) hlt).trans h0⟩
theorem OwnNn.nil (w : World) (base : Nat) : OwnNn w base (.slice none 0 0) [] := World.ownsRow_nil _ _ _ _
theorem OwnNn.rd {w : World} {base : Nat} {v : Value} {l : List Nat} (h : OwnNn w base v l) : ∃ A c, v = .slice A l.length c ∧ l.length ≤ c ∧ c ≤ maxLen ∧ RdNn w A l ∧ (A = none → l.length = 0) := by
  have h0 := h
  obtain ⟨h1, h2⟩ := h
  rcases h2 with ⟨rfl, hn⟩ | ⟨g, cap, cur, rfl, hb, hg, hnc, hm, hsz, ht⟩
  · obtain rfl := List.eq_nil_of_length_eq_zero hn
    exact ⟨none, 0, rfl, Nat.le_refl _, Nat.zero_le _, fun i n hi => by simp at hi, fun _ => rfl⟩
  · refine ⟨some ⟨g, 0, none⟩, cap, rfl, hnc, hm, fun i n hi => ⟨g, 0, rfl, (Array.getElem?_eq_some_iff.1 hg).1, ?_⟩, fun e => by cases e⟩
    have := h0.cells (g := g) rfl i (.int .i64 (n : Int)) (by rw [List.getElem?_map, hi]; rfl)
    rwa [add_at] at this
theorem OwnNn.grown {w w' : World} {base : Nat} {v : Value} {l : List Nat} (h : OwnNn w base v l) (hb : Below w.heap.size w w') : OwnNn w' base v l := pw_own_below h hb
section
variable {w : World} {ops : Array Oper} {rest : List Oper} {o : Oper} {a : Act} {Q : Exit → Act → World → Prop}
/-- append of one number -/
theorem appI_ (base : Nat) (hgd : o.guard = none) (s x : Operand) (ho : o.op = .call { callee := .builtin .append, args := #[s, x], argTypes := #[68, 68] })
    (v : Value) (l : List Nat) (k g c : Nat) (hs : a.eval s = v) (hx : a.eval x = .slice (some ⟨g, 0, none⟩) 1 c) (hown : OwnNn w base v l) (hc : w.cell? ⟨g, 0, none⟩ = some (.int .i64 (k : Int))) (hsz : l.length + 1 ≤ 1000000) (hbase : base ≤ w.heap.size)
    (h : ∀ v' w', OwnNn w' base v' (l ++ [k]) → w.grownBy w' v.ownBlock → wpList Try.prog ops Q rest (a.put o.dst v') w') : wpList Try.prog ops Q (o :: rest) a w := by
  obtain ⟨i0, hi, hz0, hz1, hz2⟩ := info_parts info3
  obtain ⟨v', w', h0, h1, h2, _, h4⟩ := Go.run_append_own_at (P := Try.prog) w base 68 o.type 3 i0 _ 1 8 Try.underlying68 hi hz0 hz1 hz2 rfl (by omega) v l.length (l.map fun (n : Nat) => Value.int .i64 (n : Int)) hown ⟨g, 0, none⟩ 1 c [.int .i64 (k : Int)] rfl (fun j u hj => by
      cases j with
      | zero => simp at hj; subst hj; rw [add_at]; exact hc
      | succ j => simp at hj) (fun u hu => by simp at hu; subst hu; rfl) (by unfold maxLen; omega) (by omega) hbase
  refine Go.Lib.wpList_append_run w hgd s x 68 68 ho v (.slice (some ⟨g, 0, none⟩) 1 c) hs hx v' w' h0 (h v' w' ?_ h2)
  show w'.ownsRow base 3 1 v' (l ++ [k]).length ((l ++ [k]).map fun (n : Nat) => Value.int .i64 (n : Int))
  rw [List.length_append, List.map_append]
  exact h1
end
set_option maxHeartbeats 1000000 in
theorem clip84_calls (A : Option Addr) (n c : Nat) (w : World) (hc : n ≤ c) (hm : n < 9223372036854775807) (ha : A = none → n = 0) : Calls Try.prog 84 #[.slice A n c] w fun e w' => e = .returned (.slice A n n) ∧ w' = w := by
  go_enter Try.func84, Try.ntmps84
  go_wp2
  go_ret
  exact ⟨rfl, rfl⟩
def OverPost (l : List Nat) (w : World) (en : Ending) (w' : World) : Prop := ∃ A, en = .returned (.slice A l.length l.length) ∧ RdNn w' A l ∧ Below w.heap.size w w'
theorem overF_len (c : Cr) : ∀ (l : List Cr) (i : Nat), (overF c i l).length ≤ l.length
  | [], _ => Nat.le_refl _
  | d :: l, i => by
    have := overF_len c l (i + 1)
    rw [overF]
    split <;> simp <;> omega
theorem overF_take (c : Cr) (l : List Cr) (i : Nat) (h : i < l.length) : overF c 0 (l.take (i + 1)) = overF c 0 (l.take i) ++ (if overB c l[i] = true then [i] else []) := by
  rw [List.take_succ_eq_append_getElem h, overF_snoc, List.length_take, Nat.min_eq_left (by omega), Nat.zero_add]
set_option maxHeartbeats 8000000 in
set_option maxRecDepth 100000 in
theorem over_calls {w : World} {v : Value} {a : Cr} (ha : CrV w v a) (l : List Cr) (A : Option Addr) (n c : Nat) (hl : RdC w A l) (hn : l.length = n) (hnb : n ≤ 100000) :
    Calls Try.prog 41 #[v, .slice A n c] w (OverPost (overF a 0 l) w) := by
  have HFU : Hid (overF a 0 l = overF a 0 (l.take n)) := Lh (by rw [List.take_of_length_le (by omega)])
  have HTK := Lh (fun i (h : i < l.length) => overF_take a l i h)
  have HLN := Lh (fun i => show (overF a 0 (l.take i)).length ≤ n from Nat.le_trans (overF_len a _ _) (by rw [List.length_take]; omega))
  obtain ⟨OV, hOV⟩ : ∃ f : Nat → List Nat, (fun i => overF a 0 (l.take i)) = f := ⟨_, rfl⟩
  have hOV2 : ∀ i, overF a 0 (l.take i) = OV i := fun i => by rw [← hOV]
  simp only [hOV2] at HFU HTK HLN
  have HO0 : Hid (OV 0 = []) := Lh (by rw [← hOV2]; rfl)
  rw [HFU.out]
  have HN := Lh hn
  have HL := Lh hl
  have HV := Lh ha
  obtain ⟨A0, A1, A2, n0, n1, n2, c0, c1, c2, rfl⟩ := ha.form
  obtain ⟨ra, hra⟩ : ∃ r, a.r = r := ⟨_, rfl⟩
  rw [hra] at HV ⊢
  clear hOV hOV2 hn hl ha hra HFU
  have g0 := heap_alloc_new w (.cells #[.slice A0 n0 c0, .slice A1 n1 c1, .slice A2 n2 c2, .int .i64 ra] 36)
  have gb := (Below.refl _ w).alloc (Nat.le_refl _) (.cells #[.slice A0 n0 c0, .slice A1 n1 c1, .slice A2 n2 c2, .int .i64 ra] 36)
  go_enter Try.func41, Try.ntmps41
  go_wp2_with fail
  obtain ⟨w1, hw1⟩ : ∃ V, w.alloc (.cells #[.slice A0 n0 c0, .slice A1 n1 c1, .slice A2 n2 c2, .int .i64 ra] 36) = V := ⟨_, rfl⟩
  rw [hw1] at g0 gb ⊢
  have G0 := Lh g0
  have W := Lh gb
  clear g0 gb hw1
  go_loopw [5, 12] (fun v5 v12 wr => ∃ i : Nat, i ≤ n ∧ v12 = .int .i64 i ∧ Hid (OwnNn wr w1.heap.size v5 (OV i)) ∧ Hid (Below w1.heap.size w1 wr)) (fun _ i _ => n - (intOf i).toNat)
  case atStart => exact ⟨0, by omega, rfl, by rw [HO0.out]; exact OwnNn.nil _ _, Lh (Below.refl _ _)⟩
  case round =>
    obtain ⟨i, hi, rfl, hO, hB⟩ := hrel
    obtain ⟨wq, hwq⟩ : ∃ x : World, x = wr := ⟨_, rfl⟩
    subst hwq
    by_cases hlt : i < n
    · have hil : i < l.length := by rw [HN.out]; exact hlt
      obtain ⟨eb, eo, E0, E1_, E2_, m0, m1, m2, g0, g1, g2, rfl, el, e0, e1, e2, e3, hE⟩ := (HL.out.below (bthen W.out hB.out)).get i hil
      have HTI := Lh (HTK.out i hil)
      have HLI := Lh (HLN.out i)
      obtain ⟨d, hd⟩ : ∃ d, l[i] = d := ⟨_, rfl⟩
      rw [hd] at hE e3 HTI
      obtain ⟨rd, hrd⟩ : ∃ r, d.r = r := ⟨_, rfl⟩
      rw [hrd] at hE e3
      have HE := Lh hE
      have HAP := Lh (fun (W : World) (h1 : CrV W (.agg #[.slice A0 n0 c0, .slice A1 n1 c1, .slice A2 n2 c2, .int .i64 ra]) a) (h2 : CrV W (.agg #[.slice E0 m0 g0, .slice E1_ m1 g1, .slice E2_ m2 g2, .int .i64 rd]) d) => apart_all h1 h2 (apS a d) rfl)
      have HOB : Hid (overB a d = ((apS a d).2 && decide ((apS a d).1.2 < 1))) := Lh rfl
      obtain ⟨R, hR⟩ : ∃ R, apS a d = R := ⟨_, rfl⟩
      rw [hR] at HAP HOB
      obtain ⟨⟨⟨Xx, Xy, Xz⟩, Xg⟩, Xo⟩ := R
      (try simp only at HAP)
      have HOB := Lh (show overB a d = (Xo && decide (Xg < 1)) from HOB.out)
      rw [HOB.out] at HTI
      have ti : (i : Int) < (n : Int) := by omega
      have G0q := Lh ((hB.out.block _ (blk_lt G0.out)).trans G0.out)
      have x0 : wq.cell? ⟨w.heap.size, 0, none⟩ = some (.slice A0 n0 c0) := (blk_cell G0q.out 0).trans rfl
      have x1 : wq.cell? ⟨w.heap.size, 1, none⟩ = some (.slice A1 n1 c1) := (blk_cell G0q.out 1).trans rfl
      have x2 : wq.cell? ⟨w.heap.size, 2, none⟩ = some (.slice A2 n2 c2) := (blk_cell G0q.out 2).trans rfl
      have x3 : wq.cell? ⟨w.heap.size, 3, none⟩ = some (.int .i64 ra) := (blk_cell G0q.out 3).trans rfl
      have xl : w.heap.size < wq.heap.size := blk_lt G0q.out
      have WQ := Lh (bthen W.out hB.out)
      clear hE hR hd hrd hil
      go_wp2_with fail
      have bq := (Below.refl _ wq).alloc (Nat.le_refl _) (.cells #[.slice E0 m0 g0, .slice E1_ m1 g1, .slice E2_ m2 g2, .int .i64 rd] 36)
      obtain ⟨w2, hw2⟩ : ∃ V, wq.alloc (.cells #[.slice E0 m0 g0, .slice E1_ m1 g1, .slice E2_ m2 g2, .int .i64 rd] 36) = V := ⟨_, rfl⟩
      rw [hw2] at bq ⊢
      have hO := Lh (hO.out.grown bq)
      have hB := Lh (hB.out.trans (bq.mono hB.out.size))
      have WQ := Lh (bthen WQ.out bq)
      have HE := Lh (HE.out.below bq)
      clear bq hw2 x0 x1 x2 x3 xl e0 e1 e2 e3
      with_reducible refine (HAP.out _ (HV.out.below WQ.out) HE.out).mono ?_
      rintro en w3 ⟨rfl, hb⟩
      have hO := Lh (hO.out.grown hb)
      have hB := Lh (hB.out.trans (hb.mono hB.out.size))
      clear hb HAP HE
      go_upto_region 6 with fail
      have bq := (Below.refl _ w3).alloc (Nat.le_refl _) (.cells #[.int .i64 Xx, .int .i64 Xy, .int .i64 Xz, .int .i64 Xg] 40)
      have YC := Lh (heap_alloc_new w3 (.cells #[.int .i64 Xx, .int .i64 Xy, .int .i64 Xz, .int .i64 Xg] 40))
      obtain ⟨w4, hw4⟩ : ∃ V, w3.alloc (.cells #[.int .i64 Xx, .int .i64 Xy, .int .i64 Xz, .int .i64 Xg] 40) = V := ⟨_, rfl⟩
      obtain ⟨YB, hYB⟩ : ∃ n, w3.heap.size = n := ⟨_, rfl⟩
      (try simp only)
      have hO := Lh (hO.out.grown bq)
      have hB := Lh (hB.out.trans (bq.mono hB.out.size))
      rw [hw4] at YC hO hB ⊢
      rw [hYB] at YC ⊢
      clear bq hw4 hYB
      have u3 : w4.cell? ⟨YB, 3, none⟩ = some (.int .i64 Xg) := (blk_cell YC.out 3).trans rfl
      have ul : YB < w4.heap.size := blk_lt YC.out
      cases Xo with
      | false =>
        have HTI := Lh (HTI.out.trans (by simp : _ = OV i))
        go_wp2
        go_roundw
        case rel => exact ⟨i + 1, by omega, by go_num, by rw [HTI.out]; exact hO, hB⟩
        case measure => simp [intOf]; omega
      | true =>
        by_cases tg : Xg < 1
        · have eg : decide (Xg < 1) = true := decide_eq_true tg
          have HTI := Lh (HTI.out.trans (by rw [eg]; rfl : _ = OV i ++ [i]))
          have hli : (OV i).length + 1 ≤ 1000000 := by have := HLI.out; omega
          have bn := (Below.refl _ w4).alloc (Nat.le_refl _) (.cells #[.int .i64 (i : Int)] 3)
          have hO2 := Lh (hO.out.grown bn)
          have hB2 := Lh (hB.out.trans (bn.mono hB.out.size))
          have hc2 : (w4.alloc (.cells #[.int .i64 (i : Int)] 3)).cell? ⟨w4.heap.size, 0, none⟩ = some (.int .i64 (i : Int)) := (blk_cell (heap_alloc_new w4 (.cells #[.int .i64 (i : Int)] 3)) 0).trans rfl
          have HC2 := Lh hc2
          clear tg bn hc2
          go_wp2_with (at_builtin; refine appI_ w1.heap.size rfl _ _ rfl _ (OV i) i w4.heap.size _ rfl rfl hO2.out HC2.out hli hB2.out.size ?_; intro v2 w5 hv2 hg2; have hO5 := Lh hv2; have hB5 := Lh (hB2.out.grown hg2 hB2.out.size (fun k hk => own_base hO2.out k hk)); clear hv2 hg2)
          go_roundw
          case rel => exact ⟨i + 1, by omega, by go_num, by rw [HTI.out]; exact hO5, hB5⟩
          case measure => simp [intOf]; omega
        · have eg : decide (Xg < 1) = false := decide_eq_false tg
          have HTI := Lh (HTI.out.trans (by rw [eg]; simp : _ = OV i))
          clear tg
          go_wp2
          go_roundw
          case rel => exact ⟨i + 1, by omega, by go_num, by rw [HTI.out]; exact hO, hB⟩
          case measure => simp [intOf]; omega
    · obtain rfl : n = i := by omega
      obtain ⟨Ar, cr, rfl, hlc, hcm, hrd, hnn⟩ := hO.out.rd
      have HRD := Lh hrd
      have WQ := Lh (bthen W.out hB.out)
      have hsm : (OV n).length < 9223372036854775807 := by have := HLN.out n; omega
      obtain ⟨q, hq⟩ : ∃ q, (OV n).length = q := ⟨_, rfl⟩
      rw [hq] at hlc hnn hsm ⊢
      have HQ := Lh hq
      clear hO hrd hq hcm
      go_wp2_with (go_at_call 84; refine (clip84_calls Ar q cr _ hlc hsm hnn).mono ?_; rintro en w5 ⟨rfl, rfl⟩)
      go_ret
      exact ⟨Ar, by rw [HQ.out]; rfl, HRD.out, WQ.out⟩
end Go.Proofs.Ytckdhahceelckaa.G
namespace Go.Proofs.Ytckdhahceelckaa.G
open Go.RowKit Go.Proofs.YtckdhahceelckaaW.PrintWords Go.Proofs.YtckdhahceelckaaW.PrintLast Go.Proofs.YtckdhahceelckaaW.PrintMore
attribute [local go_sem] max2_mx min2_mn max_two min_two max_three min_three max_four min_four
attribute [local go_sem high] eqA23 eqA40
set_option linter.unusedVariables false
set_option linter.unusedSimpArgs false
/-- bounds of a list of cores -/
def CrB (c : Cr) : Prop := c.p.length ≤ 140737488355328 ∧ c.a.length ≤ 140737488355328 ∧ c.e.length ≤ 140737488355328
def ROverPost (l : List Nat) (w : World) (en : Ending) (w' : World) : Prop := ∃ A c, en = .returned (.slice A l.length c) ∧ RdNn w' A l ∧ Below w.heap.size w w'
set_option maxHeartbeats 8000000 in
set_option maxRecDepth 100000 in
theorem rover_calls {w : World} {v : Value} {a : Cr} (ha : CrV w v a) (hab : CrB a) (l : List Cr) (A : Option Addr) (n c : Nat) (hl : RdC w A l) (hlb : ∀ d ∈ l, CrB d) (hn : l.length = n) (hnb : n ≤ 100000) :
    Calls Try.prog 42 #[v, .slice A n c] w (ROverPost (overF a 0 l) w) := by
  have HAB := Lh (show a.p.length < 9223372036854775807 ∧ a.a.length < 9223372036854775807 ∧ a.e.length < 9223372036854775807 by unfold CrB at hab; omega)
  have HLB := Lh hlb
  have HFU : Hid (overF a 0 l = overF a 0 (l.take n)) := Lh (by rw [List.take_of_length_le (by omega)])
  have HTK := Lh (fun i (h : i < l.length) => overF_take a l i h)
  have HLN := Lh (fun i => show (overF a 0 (l.take i)).length ≤ n from Nat.le_trans (overF_len a _ _) (by rw [List.length_take]; omega))
  obtain ⟨OV, hOV⟩ : ∃ f : Nat → List Nat, (fun i => overF a 0 (l.take i)) = f := ⟨_, rfl⟩
  have hOV2 : ∀ i, overF a 0 (l.take i) = OV i := fun i => by rw [← hOV]
  simp only [hOV2] at HFU HTK HLN
  have HO0 : Hid (OV 0 = []) := Lh (by rw [← hOV2]; rfl)
  rw [HFU.out]
  have HN := Lh hn
  have HL := Lh hl
  have HV := Lh ha
  obtain ⟨A0, A1, A2, n0, n1, n2, c0, c1, c2, rfl⟩ := ha.form
  obtain ⟨ra, hra⟩ : ∃ r, a.r = r := ⟨_, rfl⟩
  rw [hra] at HV ⊢
  clear hOV hOV2 hn hl ha hra HFU hab hlb
  have g0 := heap_alloc_new w (.cells #[.slice A0 n0 c0, .slice A1 n1 c1, .slice A2 n2 c2, .int .i64 ra] 36)
  have gb := (Below.refl _ w).alloc (Nat.le_refl _) (.cells #[.slice A0 n0 c0, .slice A1 n1 c1, .slice A2 n2 c2, .int .i64 ra] 36)
  go_enter Try.func42, Try.ntmps42
  go_wp2_with fail
  obtain ⟨w1, hw1⟩ : ∃ V, w.alloc (.cells #[.slice A0 n0 c0, .slice A1 n1 c1, .slice A2 n2 c2, .int .i64 ra] 36) = V := ⟨_, rfl⟩
  rw [hw1] at g0 gb ⊢
  have G0 := Lh g0
  have W := Lh gb
  clear g0 gb hw1
  go_loopw [5, 6, 7, 8] (fun v5 v6 v7 v8 wr => ∃ i : Nat, i ≤ n ∧ v6 = .int .i64 i ∧ Hid (OwnNn wr w1.heap.size v5 (OV i)) ∧ Hid (Below w1.heap.size w1 wr)) (fun _ i _ _ _ => n - (intOf i).toNat)
  case atStart => exact ⟨0, by omega, rfl, by rw [HO0.out]; exact OwnNn.nil _ _, Lh (Below.refl _ _)⟩
  case round =>
    obtain ⟨i, hi, rfl, hO, hB⟩ := hrel
    obtain ⟨wq, hwq⟩ : ∃ x : World, x = wr := ⟨_, rfl⟩
    subst hwq
    by_cases hlt : i < n
    · skip
      have hil : i < l.length := by rw [HN.out]; exact hlt
      have HLB := HLB.out _ (List.getElem_mem hil)
      obtain ⟨eb, eo, E0, E1_, E2_, m0, m1, m2, g0, g1, g2, rfl, el, e0, e1, e2, e3, hE⟩ := (HL.out.below (bthen W.out hB.out)).get i hil
      have HTI := Lh (HTK.out i hil)
      have HLI := Lh (HLN.out i)
      obtain ⟨d, hd⟩ : ∃ d, l[i] = d := ⟨_, rfl⟩
      rw [hd] at hE e3 HTI HLB
      obtain ⟨rd, hrd⟩ : ∃ r, d.r = r := ⟨_, rfl⟩
      rw [hrd] at hE e3
      have HE := Lh hE
      have HAP := Lh (fun (W : World) (h1 : CrV W (.agg #[.slice A0 n0 c0, .slice A1 n1 c1, .slice A2 n2 c2, .int .i64 ra]) a) (h2 : CrV W (.agg #[.slice E0 m0 g0, .slice E1_ m1 g1, .slice E2_ m2 g2, .int .i64 rd]) d) => rapart_all h1 h2 (HAB.out) (by unfold CrB at HLB; omega) (apS a d) rfl)
      have HOB : Hid (overB a d = ((apS a d).2 && decide ((apS a d).1.2 < 1))) := Lh rfl
      obtain ⟨R, hR⟩ : ∃ R, apS a d = R := ⟨_, rfl⟩
      rw [hR] at HAP HOB
      obtain ⟨⟨⟨Xx, Xy, Xz⟩, Xg⟩, Xo⟩ := R
      (try simp only at HAP)
      have HOB := Lh (show overB a d = (Xo && decide (Xg < 1)) from HOB.out)
      rw [HOB.out] at HTI
      have ti : (i : Int) < (n : Int) := by omega
      have G0q := Lh ((hB.out.block _ (blk_lt G0.out)).trans G0.out)
      have x0 : wq.cell? ⟨w.heap.size, 0, none⟩ = some (.slice A0 n0 c0) := (blk_cell G0q.out 0).trans rfl
      have x1 : wq.cell? ⟨w.heap.size, 1, none⟩ = some (.slice A1 n1 c1) := (blk_cell G0q.out 1).trans rfl
      have x2 : wq.cell? ⟨w.heap.size, 2, none⟩ = some (.slice A2 n2 c2) := (blk_cell G0q.out 2).trans rfl
      have x3 : wq.cell? ⟨w.heap.size, 3, none⟩ = some (.int .i64 ra) := (blk_cell G0q.out 3).trans rfl
      have xl : w.heap.size < wq.heap.size := blk_lt G0q.out
      have WQ := Lh (bthen W.out hB.out)
      clear hE hR hd hrd hil
      go_wp2_with fail
      have HB := Lh ((Below.refl (wq.heap.size) wq).drew)
      have FF := Lh (show ∀ V, Hid (Below (wq.heap.size) wq V) → V.cell? ⟨w.heap.size, 0, none⟩ = some (.slice A0 n0 c0) ∧ V.cell? ⟨w.heap.size, 1, none⟩ = some (.slice A1 n1 c1) ∧ V.cell? ⟨w.heap.size, 2, none⟩ = some (.slice A2 n2 c2) ∧ V.cell? ⟨w.heap.size, 3, none⟩ = some (.int .i64 ra) ∧ V.cell? ⟨eb, eo + i * 4, none⟩ = some (.slice E0 m0 g0) ∧ V.cell? ⟨eb, eo + i * 4 + 1, none⟩ = some (.slice E1_ m1 g1) ∧ V.cell? ⟨eb, eo + i * 4 + 2, none⟩ = some (.slice E2_ m2 g2) ∧ V.cell? ⟨eb, eo + i * 4 + 3, none⟩ = some (.int .i64 rd) from fun V HB => ⟨(HB.out.cell (p := ⟨w.heap.size, 0, none⟩) (xl)).trans x0, (HB.out.cell (p := ⟨w.heap.size, 1, none⟩) (xl)).trans x1, (HB.out.cell (p := ⟨w.heap.size, 2, none⟩) (xl)).trans x2, (HB.out.cell (p := ⟨w.heap.size, 3, none⟩) (xl)).trans x3, (HB.out.cell (p := ⟨eb, eo + i * 4, none⟩) (el)).trans e0, (HB.out.cell (p := ⟨eb, eo + i * 4 + 1, none⟩) (el)).trans e1, (HB.out.cell (p := ⟨eb, eo + i * 4 + 2, none⟩) (el)).trans e2, (HB.out.cell (p := ⟨eb, eo + i * 4 + 3, none⟩) (el)).trans e3⟩)
      refine start_ (n := 12) (S := fun w' => w'.cell? ⟨w.heap.size, 0, none⟩ = some (.slice A0 n0 c0) ∧ w'.cell? ⟨w.heap.size, 1, none⟩ = some (.slice A1 n1 c1) ∧ w'.cell? ⟨w.heap.size, 2, none⟩ = some (.slice A2 n2 c2) ∧ w'.cell? ⟨w.heap.size, 3, none⟩ = some (.int .i64 ra) ∧ w'.cell? ⟨eb, eo + i * 4, none⟩ = some (.slice E0 m0 g0) ∧ w'.cell? ⟨eb, eo + i * 4 + 1, none⟩ = some (.slice E1_ m1 g1) ∧ w'.cell? ⟨eb, eo + i * 4 + 2, none⟩ = some (.slice E2_ m2 g2) ∧ w'.cell? ⟨eb, eo + i * 4 + 3, none⟩ = some (.int .i64 rd)) (ds := []) (MT 0 12) (by kernel_rfl) rfl rfl (FF.out _ HB) (fun hHeld => ?_)
      obtain ⟨wd, hwd⟩ : ∃ x, wq.drew = x := ⟨_, rfl⟩
      rw [hwd] at HB hHeld ⊢
      clear hwd
      refine pu_ 1 17 (h := ?_)
      refine pu_ 2 18 (h := ?_)
      refine pu_ 3 19 (h := ?_)
      refine ta_ 0 16 hHeld (h := ?_)
      refine ta_ 4 20 hHeld (h := ?_)
      refine join_ (σ := Nat) 2 (MT 10 2) (fun s => [(7, .pointer (some ⟨s, 0, none⟩)), (21, .tuple #[.agg #[.int .i64 Xx, .int .i64 Xy, .int .i64 Xz, .int .i64 Xg], .bool Xo]), (15, .tuple #[.agg #[.int .i64 Xx, .int .i64 Xy, .int .i64 Xz, .int .i64 Xg], .bool Xo]), (22, .agg #[.int .i64 Xx, .int .i64 Xy, .int .i64 Xz, .int .i64 Xg]), (23, .bool Xo)]) (fun s w' => wq.heap.size ≤ s ∧ w'.heap[s]? = some (.cells #[.int .i64 0, .int .i64 0, .int .i64 0, .int .i64 0] 40 (0, 0)) ∧ Below (wq.heap.size) wq w') ?_ ?_
      rotate_left
      · intro hCont
        refine two_ (i := 5) (j := 9) (Ni := some 21) (Nj := some 7) (MT 6 6) #[true, true, true, true, true, false, false, false, false, true, false, false] rfl rfl rfl rfl (by kernel_rfl) (by decide) (by decide) (fun K hK => ?_) (fun K hK => ?_)
        · skip
          refine gs_ Try.func25 #[.agg #[.slice A0 n0 c0, .slice A1 n1 c1, .slice A2 n2 c2, .int .i64 ra], .agg #[.slice E0 m0 g0, .slice E1_ m1 g1, .slice E2_ m2 g2, .int .i64 rd]] ?_
          with_reducible refine (HAP.out _ (HV.out.below (bthen WQ.out HB.out)) (HE.out.below HB.out)).mono ?_
          rintro en w7 ⟨rfl, hb⟩
          have HB := Lh (HB.out.trans (hb.mono HB.out.size))
          clear hb
          refine ⟨_, rfl, ?_⟩
          refine hK.out _ _ (FF.out _ HB) (fun hHeld => ?_)
          clear hK K
          refine no_ (h := ?_)
          refine pu_ 6 15 (h := ?_)
          refine pu_ 7 22 (h := ?_)
          refine pu_ 8 23 (h := ?_)
          refine on_ 9 (some 7) (h := fun K hK => ?_)
          refine value_ (w1 := ?_) (v := ?_) (by rfl) rfl ?_ ?_
          rotate_left 2
          · go_simp
            constructor
            · rfl
            · rfl
          have HA := Lh (ha_new HB.out (.cells #[.int .i64 0, .int .i64 0, .int .i64 0, .int .i64 0] 40))
          have hge := HB.out.size
          have HB := Lh (HB.out.alloc (Nat.le_trans (Nat.le_refl _) HB.out.size) (.cells #[.int .i64 0, .int .i64 0, .int .i64 0, .int .i64 0] 40))
          refine hK.out _ _ (FF.out _ HB) (fun hHeld => ?_)
          clear hK K
          refine no_ (h := ?_)
          exact norm_ (by simp only [putAll, Act.put, List.setIfInBounds_toArray, List.set_cons_zero, List.set_cons_succ]) (hCont _ _ ⟨hge, HA.out, HB.out⟩)
        · skip
          refine value_ (w1 := ?_) (v := ?_) (by rfl) rfl ?_ ?_
          rotate_left 2
          · go_simp
            constructor
            · rfl
            · rfl
          have HA := Lh (ha_new HB.out (.cells #[.int .i64 0, .int .i64 0, .int .i64 0, .int .i64 0] 40))
          have hge := HB.out.size
          have HB := Lh (HB.out.alloc (Nat.le_trans (Nat.le_refl _) HB.out.size) (.cells #[.int .i64 0, .int .i64 0, .int .i64 0, .int .i64 0] 40))
          refine hK.out _ _ (FF.out _ HB) (fun hHeld => ?_)
          clear hK K
          refine no_ (h := ?_)
          refine on_ 5 (some 21) (h := fun K hK => ?_)
          refine gs_ Try.func25 #[.agg #[.slice A0 n0 c0, .slice A1 n1 c1, .slice A2 n2 c2, .int .i64 ra], .agg #[.slice E0 m0 g0, .slice E1_ m1 g1, .slice E2_ m2 g2, .int .i64 rd]] ?_
          with_reducible refine (HAP.out _ (HV.out.below (bthen WQ.out HB.out)) (HE.out.below HB.out)).mono ?_
          rintro en w7 ⟨rfl, hb⟩
          have HB := Lh (HB.out.trans (hb.mono HB.out.size))
          have HA := Lh ((hb.block _ (blk_lt HA.out)).trans HA.out)
          clear hb
          refine ⟨_, rfl, ?_⟩
          refine hK.out _ _ (FF.out _ HB) (fun hHeld => ?_)
          clear hK K
          refine no_ (h := ?_)
          refine pu_ 6 15 (h := ?_)
          refine pu_ 7 22 (h := ?_)
          refine pu_ 8 23 (h := ?_)
          exact norm_ (by simp only [putAll, Act.put, List.setIfInBounds_toArray, List.set_cons_zero, List.set_cons_succ]) (hCont _ _ ⟨hge, HA.out, HB.out⟩)
      rintro AB wj ⟨hge, HA, HB⟩
      have HA := Lh HA
      have HB := Lh HB
      have hHeld := FF.out _ HB
      refine no_ (h := ?_)
      refine on_ 10 (none) (h := fun K hK => ?_)
      have sc0 : World.cell? _ ⟨AB, 0, none⟩ = some (.int .i64 0) := (blk_cell HA.out 0).trans rfl
      have sf0 := blk_frozen HA.out 0
      have sc1 : World.cell? _ ⟨AB, 1, none⟩ = some (.int .i64 0) := (blk_cell HA.out 1).trans rfl
      have sf1 := blk_frozen HA.out 1
      have sc2 : World.cell? _ ⟨AB, 2, none⟩ = some (.int .i64 0) := (blk_cell HA.out 2).trans rfl
      have sf2 := blk_frozen HA.out 2
      have sc3 : World.cell? _ ⟨AB, 3, none⟩ = some (.int .i64 0) := (blk_cell HA.out 3).trans rfl
      have sf3 := blk_frozen HA.out 3
      refine skip_ (w1 := ?_) (by rfl) rfl ?_ ?_
      rotate_left
      · go_simp
        rfl
      have HA := Lh (bs4 HA.out (.int .i64 Xx) (.int .i64 Xy) (.int .i64 Xz) (.int .i64 Xg))
      have HB := Lh (bb4 HB.out (Nat.le_trans (Nat.le_refl _) hge) (.int .i64 Xx) (.int .i64 Xy) (.int .i64 Xz) (.int .i64 Xg))
      clear sc0 sf0 sc1 sf1 sc2 sf2 sc3 sf3
      refine hK.out _ _ (FF.out _ HB) (fun hHeld => ?_)
      clear hK K
      refine pu_ 11 8 (h := ?_)
      refine done_ (by kernel_rfl) ?_
      obtain ⟨w4, hwn⟩ : ∃ V, ((((wj.setCell ⟨AB, 0, none⟩ (.int .i64 Xx)).setCell ⟨AB, 1, none⟩ (.int .i64 Xy)).setCell ⟨AB, 2, none⟩ (.int .i64 Xz)).setCell ⟨AB, 3, none⟩ (.int .i64 Xg)) = V := ⟨_, rfl⟩
      rw [hwn] at HA HB ⊢
      clear hwn
      have hO := Lh (hO.out.grown HB.out)
      have hB := Lh (hB.out.trans (HB.out.mono hB.out.size))
      have u3 : w4.cell? ⟨AB, 3, none⟩ = some (.int .i64 Xg) := (blk_cell HA.out 3).trans rfl
      have ul : AB < w4.heap.size := blk_lt HA.out
      clear HB hge hHeld HAP HE x0 x1 x2 x3 xl e0 e1 e2 e3 HA
      cases Xo with
      | false =>
        have HTI := Lh (HTI.out.trans (by simp : _ = OV i))
        go_wp2
        go_roundw
        case rel => exact ⟨i + 1, by omega, by go_num, by rw [HTI.out]; exact hO, hB⟩
        case measure => simp [intOf]; omega
      | true =>
        by_cases tg : Xg < 1
        · have eg : decide (Xg < 1) = true := decide_eq_true tg
          have HTI := Lh (HTI.out.trans (by rw [eg]; rfl : _ = OV i ++ [i]))
          have hli : (OV i).length + 1 ≤ 1000000 := by have := HLI.out; omega
          have bn := (Below.refl _ w4).alloc (Nat.le_refl _) (.cells #[.int .i64 (i : Int)] 3)
          have hO2 := Lh (hO.out.grown bn)
          have hB2 := Lh (hB.out.trans (bn.mono hB.out.size))
          have hc2 : (w4.alloc (.cells #[.int .i64 (i : Int)] 3)).cell? ⟨w4.heap.size, 0, none⟩ = some (.int .i64 (i : Int)) := (blk_cell (heap_alloc_new w4 (.cells #[.int .i64 (i : Int)] 3)) 0).trans rfl
          have HC2 := Lh hc2
          clear tg bn hc2
          go_wp2_with (at_builtin; refine appI_ w1.heap.size rfl _ _ rfl _ (OV i) i w4.heap.size _ rfl rfl hO2.out HC2.out hli hB2.out.size ?_; intro v2 w5 hv2 hg2; have hO5 := Lh hv2; have hB5 := Lh (hB2.out.grown hg2 hB2.out.size (fun k hk => own_base hO2.out k hk)); clear hv2 hg2)
          go_roundw
          case rel => exact ⟨i + 1, by omega, by go_num, by rw [HTI.out]; exact hO5, hB5⟩
          case measure => simp [intOf]; omega
        · have eg : decide (Xg < 1) = false := decide_eq_false tg
          have HTI := Lh (HTI.out.trans (by rw [eg]; simp : _ = OV i))
          clear tg
          go_wp2
          go_roundw
          case rel => exact ⟨i + 1, by omega, by go_num, by rw [HTI.out]; exact hO, hB⟩
          case measure => simp [intOf]; omega
    · obtain rfl : n = i := by omega
      obtain ⟨Ar, cr, rfl, hlc, hcm, hrd, hnn⟩ := hO.out.rd
      have HRD := Lh hrd
      have WQ := Lh (bthen W.out hB.out)
      obtain ⟨q, hq⟩ : ∃ q, (OV n).length = q := ⟨_, rfl⟩
      rw [hq] at hlc hnn ⊢
      have HQ := Lh hq
      clear hO hrd hq hcm
      go_wp2
      go_ret
      exact ⟨Ar, cr, by rw [HQ.out]; rfl, HRD.out, WQ.out⟩
set_option maxHeartbeats 8000000 in
set_option maxRecDepth 100000 in
theorem rnear_calls {w : World} {v : Value} {a : Cr} (ha : CrV w v a) (hab : CrB a) (l : List Cr) (A : Option Addr) (n c : Nat) (hl : RdC w A l) (hlb : ∀ d ∈ l, CrB d) (hn : l.length = n) (hnb : n ≤ 140737488355328) :
    Calls Try.prog 44 #[v, .slice A n c] w (NearR (nearS a l) w) := by
  have HAB := Lh (show a.p.length < 9223372036854775807 ∧ a.a.length < 9223372036854775807 ∧ a.e.length < 9223372036854775807 by unfold CrB at hab; omega)
  have HLB := Lh hlb
  have HTK := Lh (fun i (h : i < l.length) => show leastF nearZ (askN a l) (fun x y => decide (x.2 < y.2)) (i + 1) = if (apS a l[i]).2 = true ∧ ((leastF nearZ (askN a l) (fun x y => decide (x.2 < y.2)) i).1 < 0 ∨ decide ((apS a l[i]).1.2 < (leastF nearZ (askN a l) (fun x y => decide (x.2 < y.2)) i).2.2) = true) then ((i : Int), (apS a l[i]).1) else leastF nearZ (askN a l) (fun x y => decide (x.2 < y.2)) i by
    rw [leastF, askN_get a l i h])
  have HNF : Hid (nearS a l = (leastF nearZ (askN a l) (fun x y => decide (x.2 < y.2)) n, decide (0 ≤ (leastF nearZ (askN a l) (fun x y => decide (x.2 < y.2)) n).1))) := Lh (by rw [← hn]; rfl)
  obtain ⟨F, hF⟩ : ∃ f : Nat → Int × (P3 × Int), leastF nearZ (askN a l) (fun x y => decide (x.2 < y.2)) = f := ⟨_, rfl⟩
  have HF0 : Hid (F 0 = (-1, nearZ)) := Lh (by rw [← hF]; rfl)
  simp only [hF] at HNF HTK
  obtain ⟨RF, hRF⟩ : ∃ R, nearS a l = R := ⟨_, rfl⟩
  rw [hRF] at HNF ⊢
  have HN := Lh hn
  have HL := Lh hl
  have HV := Lh ha
  obtain ⟨A0, A1, A2, n0, n1, n2, c0, c1, c2, rfl⟩ := ha.form
  obtain ⟨ra, hra⟩ : ∃ r, a.r = r := ⟨_, rfl⟩
  rw [hra] at HV ⊢
  clear hF hRF hn hl ha hra hab hlb
  have g0 := three0 w (.cells #[.slice A0 n0 c0, .slice A1 n1 c1, .slice A2 n2 c2, .int .i64 ra] 36) (.cells #[.int .i64 0, .int .i64 0, .int .i64 0, .int .i64 0] 40) (.cells #[.int .i64 0, .int .i64 0, .int .i64 0, .int .i64 0] 40)
  have g1 := three1 w (.cells #[.slice A0 n0 c0, .slice A1 n1 c1, .slice A2 n2 c2, .int .i64 ra] 36) (.cells #[.int .i64 0, .int .i64 0, .int .i64 0, .int .i64 0] 40) (.cells #[.int .i64 0, .int .i64 0, .int .i64 0, .int .i64 0] 40)
  have g2 := three2 w (.cells #[.slice A0 n0 c0, .slice A1 n1 c1, .slice A2 n2 c2, .int .i64 ra] 36) (.cells #[.int .i64 0, .int .i64 0, .int .i64 0, .int .i64 0] 40) (.cells #[.int .i64 0, .int .i64 0, .int .i64 0, .int .i64 0] 40)
  have gb := Go.Joins.below_alloc3 w (.cells #[.slice A0 n0 c0, .slice A1 n1 c1, .slice A2 n2 c2, .int .i64 ra] 36) (.cells #[.int .i64 0, .int .i64 0, .int .i64 0, .int .i64 0] 40) (.cells #[.int .i64 0, .int .i64 0, .int .i64 0, .int .i64 0] 40)
  go_enter Try.func44, Try.ntmps44
  go_wp2_with fail
  obtain ⟨w1, hw1⟩ : ∃ V, ((w.alloc (.cells #[.slice A0 n0 c0, .slice A1 n1 c1, .slice A2 n2 c2, .int .i64 ra] 36)).alloc (.cells #[.int .i64 0, .int .i64 0, .int .i64 0, .int .i64 0] 40)).alloc (.cells #[.int .i64 0, .int .i64 0, .int .i64 0, .int .i64 0] 40) = V := ⟨_, rfl⟩
  rw [hw1] at g0 g1 g2 gb ⊢
  have G0 := Lh g0
  have G1 := Lh g1
  have G2 := Lh g2
  have W := Lh gb
  clear g0 g1 g2 gb hw1
  go_loopw [7, 9, 10, 11] (fun v7 v9 v10 v11 wr => ∃ (i : Nat) (at_ : Int) (X : P3 × Int), i ≤ n ∧ v9 = .int .i64 i ∧ v7 = .int .i64 at_ ∧ Hid (F i = (at_, X)) ∧ Hid (wr.heap[w.heap.size + 2]? = some (.cells #[.int .i64 X.1.x, .int .i64 X.1.y, .int .i64 X.1.z, .int .i64 X.2] 40 (0, 0))) ∧ Hid (wr.heap[w.heap.size]? = some (.cells #[.slice A0 n0 c0, .slice A1 n1 c1, .slice A2 n2 c2, .int .i64 ra] 36 (0, 0))) ∧ Hid (wr.heap[w.heap.size + 1]? = some (.cells #[.int .i64 0, .int .i64 0, .int .i64 0, .int .i64 0] 40 (0, 0))) ∧ Hid (Below w.heap.size w wr)) (fun _ i _ _ _ => n - (intOf i).toNat)
  case atStart => exact ⟨0, -1, nearZ, by omega, rfl, rfl, HF0, G2, G0, G1, W⟩
  case round =>
    obtain ⟨i, at_, X, hi, rfl, rfl, hFi, hX, hG0, hG1, hB⟩ := hrel
    clear G0 G1 G2
    obtain ⟨wq, hwq⟩ : ∃ x : World, x = wr := ⟨_, rfl⟩
    subst hwq
    obtain ⟨⟨Bx, By, Bz⟩, Bg⟩ := X
    simp only at hX
    have hX := Lh hX.out
    by_cases hlt : i < n
    · skip
      have hil : i < l.length := by rw [HN.out]; exact hlt
      have HLB := HLB.out _ (List.getElem_mem hil)
      obtain ⟨eb, eo, E0, E1_, E2_, m0, m1, m2, g0, g1, g2, rfl, el, e0, e1, e2, e3, hE⟩ := (HL.out.below hB.out).get i hil
      have HTI := Lh (HTK.out i hil)
      obtain ⟨d, hd⟩ : ∃ d, l[i] = d := ⟨_, rfl⟩
      rw [hd] at hE e3 HTI HLB
      obtain ⟨rd, hrd⟩ : ∃ r, d.r = r := ⟨_, rfl⟩
      rw [hrd] at hE e3
      have HE := Lh hE
      have HAP := Lh (fun (W : World) (h1 : CrV W (.agg #[.slice A0 n0 c0, .slice A1 n1 c1, .slice A2 n2 c2, .int .i64 ra]) a) (h2 : CrV W (.agg #[.slice E0 m0 g0, .slice E1_ m1 g1, .slice E2_ m2 g2, .int .i64 rd]) d) => rapart_all h1 h2 (HAB.out) (by unfold CrB at HLB; omega) (apS a d) rfl)
      obtain ⟨R, hR⟩ : ∃ R, apS a d = R := ⟨_, rfl⟩
      rw [hR] at HAP HTI
      rw [hFi.out] at HTI
      obtain ⟨⟨⟨Xx, Xy, Xz⟩, Xg⟩, Xo⟩ := R
      (try simp only at HAP)
      (try simp only at HTI)
      have ti : (i : Int) < (n : Int) := by omega
      have x0 : wq.cell? ⟨w.heap.size, 0, none⟩ = some (.slice A0 n0 c0) := (blk_cell hG0.out 0).trans rfl
      have x1 : wq.cell? ⟨w.heap.size, 1, none⟩ = some (.slice A1 n1 c1) := (blk_cell hG0.out 1).trans rfl
      have x2 : wq.cell? ⟨w.heap.size, 2, none⟩ = some (.slice A2 n2 c2) := (blk_cell hG0.out 2).trans rfl
      have x3 : wq.cell? ⟨w.heap.size, 3, none⟩ = some (.int .i64 ra) := (blk_cell hG0.out 3).trans rfl
      have xl : w.heap.size < wq.heap.size := blk_lt hG0.out
      clear hE hR hd hrd hil
      go_wp2_with fail
      have HB := Lh ((Below.refl (wq.heap.size) wq).drew)
      have FF := Lh (show ∀ V, Hid (Below (wq.heap.size) wq V) → V.cell? ⟨w.heap.size, 0, none⟩ = some (.slice A0 n0 c0) ∧ V.cell? ⟨w.heap.size, 1, none⟩ = some (.slice A1 n1 c1) ∧ V.cell? ⟨w.heap.size, 2, none⟩ = some (.slice A2 n2 c2) ∧ V.cell? ⟨w.heap.size, 3, none⟩ = some (.int .i64 ra) ∧ V.cell? ⟨eb, eo + i * 4, none⟩ = some (.slice E0 m0 g0) ∧ V.cell? ⟨eb, eo + i * 4 + 1, none⟩ = some (.slice E1_ m1 g1) ∧ V.cell? ⟨eb, eo + i * 4 + 2, none⟩ = some (.slice E2_ m2 g2) ∧ V.cell? ⟨eb, eo + i * 4 + 3, none⟩ = some (.int .i64 rd) from fun V HB => ⟨(HB.out.cell (p := ⟨w.heap.size, 0, none⟩) (xl)).trans x0, (HB.out.cell (p := ⟨w.heap.size, 1, none⟩) (xl)).trans x1, (HB.out.cell (p := ⟨w.heap.size, 2, none⟩) (xl)).trans x2, (HB.out.cell (p := ⟨w.heap.size, 3, none⟩) (xl)).trans x3, (HB.out.cell (p := ⟨eb, eo + i * 4, none⟩) (el)).trans e0, (HB.out.cell (p := ⟨eb, eo + i * 4 + 1, none⟩) (el)).trans e1, (HB.out.cell (p := ⟨eb, eo + i * 4 + 2, none⟩) (el)).trans e2, (HB.out.cell (p := ⟨eb, eo + i * 4 + 3, none⟩) (el)).trans e3⟩)
      refine start_ (n := 12) (S := fun w' => w'.cell? ⟨w.heap.size, 0, none⟩ = some (.slice A0 n0 c0) ∧ w'.cell? ⟨w.heap.size, 1, none⟩ = some (.slice A1 n1 c1) ∧ w'.cell? ⟨w.heap.size, 2, none⟩ = some (.slice A2 n2 c2) ∧ w'.cell? ⟨w.heap.size, 3, none⟩ = some (.int .i64 ra) ∧ w'.cell? ⟨eb, eo + i * 4, none⟩ = some (.slice E0 m0 g0) ∧ w'.cell? ⟨eb, eo + i * 4 + 1, none⟩ = some (.slice E1_ m1 g1) ∧ w'.cell? ⟨eb, eo + i * 4 + 2, none⟩ = some (.slice E2_ m2 g2) ∧ w'.cell? ⟨eb, eo + i * 4 + 3, none⟩ = some (.int .i64 rd)) (ds := []) (MT 0 12) (by kernel_rfl) rfl rfl (FF.out _ HB) (fun hHeld => ?_)
      obtain ⟨wd, hwd⟩ : ∃ x, wq.drew = x := ⟨_, rfl⟩
      rw [hwd] at HB hHeld ⊢
      clear hwd
      refine pu_ 1 20 (h := ?_)
      refine pu_ 2 21 (h := ?_)
      refine pu_ 3 22 (h := ?_)
      refine ta_ 0 19 hHeld (h := ?_)
      refine ta_ 4 23 hHeld (h := ?_)
      refine join_ (σ := Nat) 2 (MT 10 2) (fun s => [(10, .pointer (some ⟨s, 0, none⟩)), (24, .tuple #[.agg #[.int .i64 Xx, .int .i64 Xy, .int .i64 Xz, .int .i64 Xg], .bool Xo]), (18, .tuple #[.agg #[.int .i64 Xx, .int .i64 Xy, .int .i64 Xz, .int .i64 Xg], .bool Xo]), (25, .agg #[.int .i64 Xx, .int .i64 Xy, .int .i64 Xz, .int .i64 Xg]), (26, .bool Xo)]) (fun s w' => wq.heap.size ≤ s ∧ w'.heap[s]? = some (.cells #[.int .i64 0, .int .i64 0, .int .i64 0, .int .i64 0] 40 (0, 0)) ∧ Below (wq.heap.size) wq w') ?_ ?_
      rotate_left
      · intro hCont
        refine two_ (i := 5) (j := 9) (Ni := some 24) (Nj := some 10) (MT 6 6) #[true, true, true, true, true, false, false, false, false, true, false, false] rfl rfl rfl rfl (by kernel_rfl) (by decide) (by decide) (fun K hK => ?_) (fun K hK => ?_)
        · skip
          refine gs_ Try.func25 #[.agg #[.slice A0 n0 c0, .slice A1 n1 c1, .slice A2 n2 c2, .int .i64 ra], .agg #[.slice E0 m0 g0, .slice E1_ m1 g1, .slice E2_ m2 g2, .int .i64 rd]] ?_
          with_reducible refine (HAP.out _ (HV.out.below (bthen hB.out HB.out)) (HE.out.below HB.out)).mono ?_
          rintro en w7 ⟨rfl, hb⟩
          have HB := Lh (HB.out.trans (hb.mono HB.out.size))
          clear hb
          refine ⟨_, rfl, ?_⟩
          refine hK.out _ _ (FF.out _ HB) (fun hHeld => ?_)
          clear hK K
          refine no_ (h := ?_)
          refine pu_ 6 18 (h := ?_)
          refine pu_ 7 25 (h := ?_)
          refine pu_ 8 26 (h := ?_)
          refine on_ 9 (some 10) (h := fun K hK => ?_)
          refine value_ (w1 := ?_) (v := ?_) (by rfl) rfl ?_ ?_
          rotate_left 2
          · go_simp
            constructor
            · rfl
            · rfl
          have HA := Lh (ha_new HB.out (.cells #[.int .i64 0, .int .i64 0, .int .i64 0, .int .i64 0] 40))
          have hge := HB.out.size
          have HB := Lh (HB.out.alloc (Nat.le_trans (Nat.le_refl _) HB.out.size) (.cells #[.int .i64 0, .int .i64 0, .int .i64 0, .int .i64 0] 40))
          refine hK.out _ _ (FF.out _ HB) (fun hHeld => ?_)
          clear hK K
          refine no_ (h := ?_)
          exact norm_ (by simp only [putAll, Act.put, List.setIfInBounds_toArray, List.set_cons_zero, List.set_cons_succ]) (hCont _ _ ⟨hge, HA.out, HB.out⟩)
        · skip
          refine value_ (w1 := ?_) (v := ?_) (by rfl) rfl ?_ ?_
          rotate_left 2
          · go_simp
            constructor
            · rfl
            · rfl
          have HA := Lh (ha_new HB.out (.cells #[.int .i64 0, .int .i64 0, .int .i64 0, .int .i64 0] 40))
          have hge := HB.out.size
          have HB := Lh (HB.out.alloc (Nat.le_trans (Nat.le_refl _) HB.out.size) (.cells #[.int .i64 0, .int .i64 0, .int .i64 0, .int .i64 0] 40))
          refine hK.out _ _ (FF.out _ HB) (fun hHeld => ?_)
          clear hK K
          refine no_ (h := ?_)
          refine on_ 5 (some 24) (h := fun K hK => ?_)
          refine gs_ Try.func25 #[.agg #[.slice A0 n0 c0, .slice A1 n1 c1, .slice A2 n2 c2, .int .i64 ra], .agg #[.slice E0 m0 g0, .slice E1_ m1 g1, .slice E2_ m2 g2, .int .i64 rd]] ?_
          with_reducible refine (HAP.out _ (HV.out.below (bthen hB.out HB.out)) (HE.out.below HB.out)).mono ?_
          rintro en w7 ⟨rfl, hb⟩
          have HB := Lh (HB.out.trans (hb.mono HB.out.size))
          have HA := Lh ((hb.block _ (blk_lt HA.out)).trans HA.out)
          clear hb
          refine ⟨_, rfl, ?_⟩
          refine hK.out _ _ (FF.out _ HB) (fun hHeld => ?_)
          clear hK K
          refine no_ (h := ?_)
          refine pu_ 6 18 (h := ?_)
          refine pu_ 7 25 (h := ?_)
          refine pu_ 8 26 (h := ?_)
          exact norm_ (by simp only [putAll, Act.put, List.setIfInBounds_toArray, List.set_cons_zero, List.set_cons_succ]) (hCont _ _ ⟨hge, HA.out, HB.out⟩)
      rintro AB wj ⟨hge, HA, HB⟩
      have HA := Lh HA
      have HB := Lh HB
      have hHeld := FF.out _ HB
      refine no_ (h := ?_)
      refine on_ 10 (none) (h := fun K hK => ?_)
      have sc0 : World.cell? _ ⟨AB, 0, none⟩ = some (.int .i64 0) := (blk_cell HA.out 0).trans rfl
      have sf0 := blk_frozen HA.out 0
      have sc1 : World.cell? _ ⟨AB, 1, none⟩ = some (.int .i64 0) := (blk_cell HA.out 1).trans rfl
      have sf1 := blk_frozen HA.out 1
      have sc2 : World.cell? _ ⟨AB, 2, none⟩ = some (.int .i64 0) := (blk_cell HA.out 2).trans rfl
      have sf2 := blk_frozen HA.out 2
      have sc3 : World.cell? _ ⟨AB, 3, none⟩ = some (.int .i64 0) := (blk_cell HA.out 3).trans rfl
      have sf3 := blk_frozen HA.out 3
      refine skip_ (w1 := ?_) (by rfl) rfl ?_ ?_
      rotate_left
      · go_simp
        rfl
      have HA := Lh (bs4 HA.out (.int .i64 Xx) (.int .i64 Xy) (.int .i64 Xz) (.int .i64 Xg))
      have HB := Lh (bb4 HB.out (Nat.le_trans (Nat.le_refl _) hge) (.int .i64 Xx) (.int .i64 Xy) (.int .i64 Xz) (.int .i64 Xg))
      clear sc0 sf0 sc1 sf1 sc2 sf2 sc3 sf3
      refine hK.out _ _ (FF.out _ HB) (fun hHeld => ?_)
      clear hK K
      refine pu_ 11 11 (h := ?_)
      refine done_ (by kernel_rfl) ?_
      obtain ⟨w4, hwn⟩ : ∃ V, ((((wj.setCell ⟨AB, 0, none⟩ (.int .i64 Xx)).setCell ⟨AB, 1, none⟩ (.int .i64 Xy)).setCell ⟨AB, 2, none⟩ (.int .i64 Xz)).setCell ⟨AB, 3, none⟩ (.int .i64 Xg)) = V := ⟨_, rfl⟩
      rw [hwn] at HA HB ⊢
      clear hwn
      have HY := HA
      have h2b : w.heap.size + 2 < wq.heap.size := blk_lt hX.out
      have hYX : Hid (w.heap.size + 2 < AB) := Lh (Nat.lt_of_lt_of_le h2b hge)
      replace hX := Lh ((HB.out.block _ (blk_lt hX.out)).trans hX.out)
      replace hG0 := Lh ((HB.out.block _ (blk_lt hG0.out)).trans hG0.out)
      replace hG1 := Lh ((HB.out.block _ (blk_lt hG1.out)).trans hG1.out)
      replace hB := Lh (bthen hB.out HB.out)
      clear HB hge hHeld HAP HE x0 x1 x2 x3 xl e0 e1 e2 e3 HA h2b
      have q0 : w4.cell? ⟨AB, 0, none⟩ = some (.int .i64 Xx) := (blk_cell HY.out 0).trans rfl
      have q1 : w4.cell? ⟨AB, 1, none⟩ = some (.int .i64 Xy) := (blk_cell HY.out 1).trans rfl
      have q2 : w4.cell? ⟨AB, 2, none⟩ = some (.int .i64 Xz) := (blk_cell HY.out 2).trans rfl
      have q3 : w4.cell? ⟨AB, 3, none⟩ = some (.int .i64 Xg) := (blk_cell HY.out 3).trans rfl
      have ql : AB < w4.heap.size := blk_lt HY.out
      have p0 : w4.cell? ⟨w.heap.size + 1 + 1, 0, none⟩ = some (.int .i64 Bx) := (blk_cell hX.out 0).trans rfl
      have f0 : w4.frozen? ⟨w.heap.size + 1 + 1, 0, none⟩ = false := blk_frozen hX.out 0
      have p1 : w4.cell? ⟨w.heap.size + 1 + 1, 1, none⟩ = some (.int .i64 By) := (blk_cell hX.out 1).trans rfl
      have f1 : w4.frozen? ⟨w.heap.size + 1 + 1, 1, none⟩ = false := blk_frozen hX.out 1
      have p2 : w4.cell? ⟨w.heap.size + 1 + 1, 2, none⟩ = some (.int .i64 Bz) := (blk_cell hX.out 2).trans rfl
      have f2 : w4.frozen? ⟨w.heap.size + 1 + 1, 2, none⟩ = false := blk_frozen hX.out 2
      have p3 : w4.cell? ⟨w.heap.size + 1 + 1, 3, none⟩ = some (.int .i64 Bg) := (blk_cell hX.out 3).trans rfl
      have f3 : w4.frozen? ⟨w.heap.size + 1 + 1, 3, none⟩ = false := blk_frozen hX.out 3
      have pl : w.heap.size + 1 + 1 < w4.heap.size := blk_lt hX.out
      have hNE : AB ≠ w.heap.size + 1 + 1 := Nat.ne_of_gt hYX.out
      have hNX : w.heap.size + 1 + 1 ≠ AB := Nat.ne_of_lt hYX.out
      cases Xo with
      | false =>
        have HTJ : Hid (F (i + 1) = (at_, ((⟨Bx, By, Bz⟩, Bg) : P3 × Int))) := Lh (by rw [HTI.out]; simp)
        clear HTI
        go_wp2
        go_roundw
        case rel => exact ⟨i + 1, at_, (⟨Bx, By, Bz⟩, Bg), by omega, by go_num, rfl, HTJ, hX, hG0, hG1, hB⟩
        case measure => simp [intOf]; omega
      | true =>
        by_cases t0 : at_ < 0
        · have d0 : decide (at_ < 0) = true := decide_eq_true t0
          have HTJ : Hid (F (i + 1) = ((i : Int), ((⟨Xx, Xy, Xz⟩, Xg) : P3 × Int))) := Lh (by rw [HTI.out]; simp [t0])
          clear HTI t0
          go_wp2
          go_roundw
          case rel => exact ⟨i + 1, i, (⟨Xx, Xy, Xz⟩, Xg), by omega, by go_num, rfl, HTJ, Lh (bs4 hX.out (.int .i64 Xx) (.int .i64 Xy) (.int .i64 Xz) (.int .i64 Xg)), Lh ((bo4 (show w.heap.size ≠ w.heap.size + 2 by omega) (.int .i64 Xx) (.int .i64 Xy) (.int .i64 Xz) (.int .i64 Xg)).trans hG0.out), Lh ((bo4 (show w.heap.size + 1 ≠ w.heap.size + 2 by omega) (.int .i64 Xx) (.int .i64 Xy) (.int .i64 Xz) (.int .i64 Xg)).trans hG1.out), Lh (bb4 hB.out (show w.heap.size ≤ w.heap.size + 2 by omega) (.int .i64 Xx) (.int .i64 Xy) (.int .i64 Xz) (.int .i64 Xg))⟩
          case measure => simp [intOf]; omega
        · have d0 : decide (at_ < 0) = false := decide_eq_false t0
          by_cases t1 : Xg < Bg
          · have d1 : decide (Xg < Bg) = true := decide_eq_true t1
            have HTJ : Hid (F (i + 1) = ((i : Int), ((⟨Xx, Xy, Xz⟩, Xg) : P3 × Int))) := Lh (by rw [HTI.out]; simp [t1])
            clear HTI t0 t1
            go_wp2
            go_roundw
            case rel => exact ⟨i + 1, i, (⟨Xx, Xy, Xz⟩, Xg), by omega, by go_num, rfl, HTJ, Lh (bs4 hX.out (.int .i64 Xx) (.int .i64 Xy) (.int .i64 Xz) (.int .i64 Xg)), Lh ((bo4 (show w.heap.size ≠ w.heap.size + 2 by omega) (.int .i64 Xx) (.int .i64 Xy) (.int .i64 Xz) (.int .i64 Xg)).trans hG0.out), Lh ((bo4 (show w.heap.size + 1 ≠ w.heap.size + 2 by omega) (.int .i64 Xx) (.int .i64 Xy) (.int .i64 Xz) (.int .i64 Xg)).trans hG1.out), Lh (bb4 hB.out (show w.heap.size ≤ w.heap.size + 2 by omega) (.int .i64 Xx) (.int .i64 Xy) (.int .i64 Xz) (.int .i64 Xg))⟩
            case measure => simp [intOf]; omega
          · have d1 : decide (Xg < Bg) = false := decide_eq_false t1
            have HTJ : Hid (F (i + 1) = (at_, ((⟨Bx, By, Bz⟩, Bg) : P3 × Int))) := Lh (by rw [HTI.out]; simp [t0, t1])
            clear HTI t0 t1
            go_wp2
            go_roundw
            case rel => exact ⟨i + 1, at_, (⟨Bx, By, Bz⟩, Bg), by omega, by go_num, rfl, HTJ, hX, hG0, hG1, hB⟩
            case measure => simp [intOf]; omega
    · obtain rfl : n = i := by omega
      rw [hFi.out] at HNF
      go_wp2_with fail
      have HB := Lh ((Below.refl wq.heap.size wq).drew)
      have FF := Lh (show ∀ V, Hid (Below wq.heap.size wq V) → V.cell? ⟨w.heap.size + 2, 0, none⟩ = some (.int .i64 Bx) ∧ V.cell? ⟨w.heap.size + 2, 1, none⟩ = some (.int .i64 By) ∧ V.cell? ⟨w.heap.size + 2, 2, none⟩ = some (.int .i64 Bz) ∧ V.cell? ⟨w.heap.size + 2, 3, none⟩ = some (.int .i64 Bg) from fun V HB => have e := (HB.out.block _ (blk_lt hX.out)).trans hX.out; ⟨(blk_cell e 0).trans rfl, (blk_cell e 1).trans rfl, (blk_cell e 2).trans rfl, (blk_cell e 3).trans rfl⟩)
      refine start_ (n := 7) (S := fun w' => w'.cell? ⟨w.heap.size + 2, 0, none⟩ = some (.int .i64 Bx) ∧ w'.cell? ⟨w.heap.size + 2, 1, none⟩ = some (.int .i64 By) ∧ w'.cell? ⟨w.heap.size + 2, 2, none⟩ = some (.int .i64 Bz) ∧ w'.cell? ⟨w.heap.size + 2, 3, none⟩ = some (.int .i64 Bg)) (ds := [5]) (MT 0 7) (by kernel_rfl) rfl rfl (FF.out _ HB) (fun hHeld => ?_)
      obtain ⟨wd, hwd⟩ : ∃ x, wq.drew = x := ⟨_, rfl⟩
      rw [hwd] at HB hHeld ⊢
      clear hwd
      refine pu_ 0 41 (h := ?_)
      refine pu_ 2 43 (h := ?_)
      refine pu_ 3 44 (h := ?_)
      refine pu_ 4 4 (h := ?_)
      refine ta_ 1 42 hHeld (h := ?_)
      refine last_ (i := 5) (N := none) (MT 6 1) rfl rfl (by kernel_rfl) (by decide) (fun K hK => ?_)
      have R4 := (HB.out.block _ (blk_lt hG1.out)).trans hG1.out
      have sc0 : World.cell? _ ⟨w.heap.size + 1, 0, none⟩ = some (.int .i64 0) := (blk_cell R4 0).trans rfl
      have sf0 : World.frozen? _ ⟨w.heap.size + 1, 0, none⟩ = false := blk_frozen R4 0
      have sc1 : World.cell? _ ⟨w.heap.size + 1, 1, none⟩ = some (.int .i64 0) := (blk_cell R4 1).trans rfl
      have sf1 : World.frozen? _ ⟨w.heap.size + 1, 1, none⟩ = false := blk_frozen R4 1
      have sc2 : World.cell? _ ⟨w.heap.size + 1, 2, none⟩ = some (.int .i64 0) := (blk_cell R4 2).trans rfl
      have sf2 : World.frozen? _ ⟨w.heap.size + 1, 2, none⟩ = false := blk_frozen R4 2
      have sc3 : World.cell? _ ⟨w.heap.size + 1, 3, none⟩ = some (.int .i64 0) := (blk_cell R4 3).trans rfl
      have sf3 : World.frozen? _ ⟨w.heap.size + 1, 3, none⟩ = false := blk_frozen R4 3
      refine skip_ (w1 := ?_) (by rfl) rfl ?_ ?_
      rotate_left
      · go_simp
        rfl
      refine hK.out _ _ ?_
      clear hK K
      refine pu_ 6 6 (h := ?_)
      refine done_ (by kernel_rfl) ?_
      have DST := bs4 R4 (.int .i64 Bx) (.int .i64 By) (.int .i64 Bz) (.int .i64 Bg)
      have HBX := bb4 (HB.out.mono (show w.heap.size ≤ wq.heap.size from hB.out.size)) (show w.heap.size ≤ w.heap.size + 1 by omega) (.int .i64 Bx) (.int .i64 By) (.int .i64 Bz) (.int .i64 Bg)
      obtain ⟨w9, hV⟩ : ∃ V, ((((wd.setCell ⟨w.heap.size + 1, 0, none⟩ (.int .i64 Bx)).setCell ⟨w.heap.size + 1, 1, none⟩ (.int .i64 By)).setCell ⟨w.heap.size + 1, 2, none⟩ (.int .i64 Bz)).setCell ⟨w.heap.size + 1, 3, none⟩ (.int .i64 Bg)) = V := ⟨_, rfl⟩
      rw [hV] at DST HBX 
      (try rw [hV])
      have hVV := Lh hV
      have DST := Lh DST
      have HBX := Lh HBX
      clear hV hHeld HB FF R4 sc0 sf0 sc1 sf1 sc2 sf2 sc3 sf3 
      have t0 : w9.cell? ⟨w.heap.size + 1, 0, none⟩ = some (.int .i64 Bx) := (blk_cell DST.out 0).trans rfl
      have t1 : w9.cell? ⟨w.heap.size + 1, 1, none⟩ = some (.int .i64 By) := (blk_cell DST.out 1).trans rfl
      have t2 : w9.cell? ⟨w.heap.size + 1, 2, none⟩ = some (.int .i64 Bz) := (blk_cell DST.out 2).trans rfl
      have t3 : w9.cell? ⟨w.heap.size + 1, 3, none⟩ = some (.int .i64 Bg) := (blk_cell DST.out 3).trans rfl
      have W := Lh (hB.out.trans HBX.out)
      clear DST HBX hG1 hG0
      go_wp2
      exact bodyPost_ret (v := .tuple #[.int .i64 at_, .agg #[.int .i64 Bx, .int .i64 By, .int .i64 Bz, .int .i64 Bg], .bool (decide (0 ≤ at_))]) (by simp [results, Try.results44, go_sem, t0, t1, t2, t3]) rfl ⟨by rw [HNF.out], W.out⟩
end Go.Proofs.Ytckdhahceelckaa.G
set_option maxRecDepth 100000
namespace Go.Proofs.Ytckdhahceelckaa.G
open Go.ChangeShapes Go.WideShapes Go.RowKit
set_option linter.unusedVariables false
set_option linter.unusedSimpArgs false
theorem cell_spot {w : World} {a : Addr} {v : Value} (h : w.cell? a = some v) : a.spot = none ∧ a.block < w.heap.size := by
  unfold World.cell? at h
  split at h
  · rename_i c e t hc
    refine ⟨?_, (Array.getElem?_eq_some_iff.1 hc).1⟩
    cases hs : a.spot with
    | none => rfl
    | some s => rw [hs] at h; simp at h
  · cases h
theorem add_zero_ (a : Addr) (k : Nat) : (a.add (0 * k)).add 0 = a := by
  unfold Addr.add
  simp
theorem weights_all {H : Type} {P : Program} {t : TypeId} : ∀ {ds : List (DataW H)} {j : Nat} {d : DataW H}, ds[j]? = some d → ∀ n ∈ d.weights P t, n ∈ DataW.weightsAll P t ds
  | d :: r, 0, _, h, n, hn => by
    cases h
    rw [DataW.weightsAll]
    exact List.mem_append_left _ hn
  | d :: r, j + 1, e, h, n, hn => by
    rw [DataW.weightsAll]
    exact List.mem_append_right _ (weights_all (ds := r) (j := j) (by simpa using h) n hn)
section
variable {H : Type} {enc : TypeId × Value → H} {W : World} {base : Nat} {spare : Nat → Bool} {held : Bool}
/-- a slice of points that lies in a cell -/
theorem open_cell_pts {fuel : Nat} {v : Value} {y : DataW H × List MemPlace} (h : DataW.trod enc Try.prog W base spare held fuel 24 [v] = some y) (hw : ∀ k ∈ y.1.weights Try.prog 24, k ≤ reachBytes) :
    ∃ A c, ∃ l : List P3, v = .slice A l.length c ∧ l.length ≤ c ∧ RdB W A l ∧ l.length ≤ 140737488355328 := by
  rcases Go.Deep.open_slice Try.underlying24 h with ⟨e, _⟩ | ⟨a, len, cap, m, k, D, Pl, e, hb, hl, hc, hm, hx, hf⟩
  · simp only [List.cons.injEq, and_true] at e
    subst e
    exact ⟨none, 0, [], rfl, Nat.le_refl _, RdB.nil W, by simp⟩
  · simp only [List.cons.injEq, and_true] at e
    subst e
    rcases Nat.eq_zero_or_pos len with h0 | h0
    · subst h0
      exact ⟨some a, cap, [], rfl, hl, ⟨Rd.nil _ _, fun h => absurd rfl h⟩, by simp⟩
    · have him : 0 < m := by
        rw [hm]; split <;> omega
      obtain ⟨cs', h1, h2⟩ := hf 0 him
      have hcells : Try.prog.cellsOf 23 = 3 := by kernel_rfl
      rw [hcells] at h1
      obtain ⟨_, hl3, hg⟩ := World.cells?_some h1
      obtain ⟨v0, hv0⟩ : ∃ v0, cs'[0]? = some v0 := ⟨_, List.getElem?_eq_getElem (by omega)⟩
      obtain ⟨s1, s2⟩ := cell_spot ((hg 0 (by decide)).trans hv0)
      have hA : ∀ a', some a = some a' → a'.spot = none ∧ a'.block < W.heap.size := fun a' e => by
        cases e
        rw [add_zero_] at s1 s2
        exact ⟨s1, s2⟩
      obtain ⟨l, hll, R, L⟩ := open_pts3 hA h hw
      subst hll
      exact ⟨some a, cap, l, rfl, hl, R, L⟩
set_option maxHeartbeats 4000000 in
theorem open_core_cells {fuel : Nat} {cs : List Value} {y : DataW H × List MemPlace} (h : DataW.trod enc Try.prog W base spare held fuel 36 cs = some y) (hw : ∀ k ∈ y.1.weights Try.prog 36, k ≤ reachBytes) :
    ∃ A0 A1 A2 c0 c1 c2, ∃ c : Cr, cs = [.slice A0 c.p.length c0, .slice A1 c.a.length c1, .slice A2 c.e.length c2, .int .i64 c.r] ∧ CrV W (.agg #[.slice A0 c.p.length c0, .slice A1 c.a.length c1, .slice A2 c.e.length c2, .int .i64 c.r]) c ∧ CrB c := by
  obtain ⟨xs, n, _, hx, hcs, hlen, hf⟩ := DataW.trod_struct Try.underlying36 h
  have hC : Try.prog.cellsOf 36 = 4 := by kernel_rfl
  have k24 : Try.prog.cellsOf 24 = 1 := by kernel_rfl
  have k3 : Try.prog.cellsOf 3 = 1 := by kernel_rfl
  rw [hC] at hcs
  obtain ⟨v0, v1, v2, v3, rfl⟩ : ∃ v0 v1 v2 v3, cs = [v0, v1, v2, v3] := by
    match cs, hcs with
    | [v0, v1, v2, v3], _ => exact ⟨v0, v1, v2, v3, rfl⟩
  subst hx
  have each : ∀ (i : Nat), i < 4 → ∃ y, xs[i]? = some y := fun i hi => ⟨_, List.getElem?_eq_getElem (by rw [hlen]; show i < 4; omega)⟩
  obtain ⟨y0, hy0⟩ := each 0 (by decide)
  obtain ⟨y1, hy1⟩ := each 1 (by decide)
  obtain ⟨y2, hy2⟩ := each 2 (by decide)
  obtain ⟨y3, hy3⟩ := each 3 (by decide)
  have h0 := hf 0 _ rfl
  have h1 := hf 1 _ rfl
  have h2 := hf 2 _ rfl
  have h3 := hf 3 _ rfl
  rw [hy0] at h0
  rw [hy1] at h1
  rw [hy2] at h2
  rw [hy3] at h3
  have wt : ∀ (i : Nat) y, xs[i]? = some y → #[(24 : TypeId), 24, 24, 3][i]? = some 24 → ∀ k ∈ y.1.weights Try.prog 24, k ≤ reachBytes := fun i y hy ht k hk => hw k (by
    rw [DataW.weights, Try.underlying36]
    exact DataW.weights_mem_each (j := i) (t := 24) (d := y.1) (by simpa using ht) (by rw [List.getElem?_map, hy]; rfl) k hk)
  have t0 : DataW.trod enc Try.prog W base spare held n 24 [v0] = some y0 := by
    have e : ((List.drop 0 ([v0, v1, v2, v3] : List Value)).take (Try.prog.cellsOf 24)) = [v0] := by rw [k24]; rfl
    exact (congrArg _ e.symm).trans h0
  have t1 : DataW.trod enc Try.prog W base spare held n 24 [v1] = some y1 := by
    have e : ((List.drop 1 ([v0, v1, v2, v3] : List Value)).take (Try.prog.cellsOf 24)) = [v1] := by rw [k24]; rfl
    exact (congrArg _ e.symm).trans h1
  have t2 : DataW.trod enc Try.prog W base spare held n 24 [v2] = some y2 := by
    have e : ((List.drop 2 ([v0, v1, v2, v3] : List Value)).take (Try.prog.cellsOf 24)) = [v2] := by rw [k24]; rfl
    exact (congrArg _ e.symm).trans h2
  have t3 : DataW.trod enc Try.prog W base spare held n 3 [v3] = some y3 := by
    have e : ((List.drop 3 ([v0, v1, v2, v3] : List Value)).take (Try.prog.cellsOf 3)) = [v3] := by rw [k3]; rfl
    exact (congrArg _ e.symm).trans h3
  obtain ⟨A0, c0, l0, rfl, k0, R0, L0⟩ := open_cell_pts t0 (wt 0 y0 hy0 rfl)
  obtain ⟨A1, c1, l1, rfl, k1, R1, L1⟩ := open_cell_pts t1 (wt 1 y1 hy1 rfl)
  obtain ⟨A2, c2, l2, rfl, k2, R2, L2⟩ := open_cell_pts t2 (wt 2 y2 hy2 rfl)
  obtain ⟨x, hx', _, wx⟩ := DataW.trod_int (k := .i64) Try.underlying3 t3
  simp only [List.cons.injEq, and_true] at hx'
  subst hx'
  exact ⟨A0, A1, A2, c0, c1, c2, ⟨l0, l1, l2, x⟩, rfl, ⟨⟨A0, A1, A2, c0, c1, c2, rfl, R0, R1, R2, k0, k1, k2⟩⟩, L0, L1, L2⟩
set_option maxHeartbeats 4000000 in
theorem open_cores {r : Reach} {b0 : Nat} {v : Value} {d : DataW H} {p : List MemPlace} (hval : Value.okWide Try.prog W r b0 57 v) (h : DataW.Trod enc Try.prog W base spare held 57 v d p) (hw : ∀ k ∈ d.weights Try.prog 57, k ≤ reachBytes) :
    ∃ A n c, ∃ l : List Cr, v = .slice A n c ∧ l.length = n ∧ RdC W A l ∧ (∀ d ∈ l, CrB d) ∧ n * 80 ≤ 140737488351232 := by
  obtain ⟨A, n, c, rfl⟩ := okWide_slice Try.underlying57 hval
  obtain ⟨fuel, hf0⟩ := h
  rcases Go.Deep.open_slice Try.underlying57 hf0 with ⟨e, _⟩ | ⟨a, len, cap, m, k, D, Pl, e, hb, hl, hc, hm, hx, hf⟩
  · have e' : (Value.slice A n c) = .slice none 0 0 := by simpa [Value.cells] using e
    cases e'
    exact ⟨none, 0, 0, [], rfl, rfl, fun i d hd => by simp at hd, fun d hd => by simp at hd, by decide⟩
  · have e' : (Value.slice A n c) = .slice (some a) len cap := by simpa [Value.cells] using e
    cases e'
    simp only [Prod.mk.injEq] at hx
    obtain ⟨rfl, _⟩ := hx
    rw [DataW.weights, Try.underlying57] at hw
    have hbs : Try.prog.bytesOf 36 = 80 := by kernel_rfl
    have hcells : Try.prog.cellsOf 36 = 4 := by kernel_rfl
    have hn80 : n * 80 ≤ 140737488351232 := by
      have := hw _ List.mem_cons_self
      rw [hbs] at this
      simp [reachBytes] at this
      omega
    have hsp : 0 < n → a.spot = none ∧ a.block < W.heap.size := by
      intro h0
      have him : 0 < m := by
        rw [hm]; split <;> omega
      obtain ⟨cs', h1, h2⟩ := hf 0 him
      rw [hcells] at h1
      obtain ⟨_, hl4, hg⟩ := World.cells?_some h1
      obtain ⟨v0, hv0⟩ : ∃ v0, cs'[0]? = some v0 := ⟨_, List.getElem?_eq_getElem (by omega)⟩
      have hs := cell_spot ((hg 0 (by decide)).trans hv0)
      rw [add_zero_] at hs
      exact hs
    have each : ∀ i, i < n → ∃ q : Cr, CrB q ∧ ∃ A0 A1 A2 n0 n1 n2 c0 c1 c2, a.spot = none ∧ a.block < W.heap.size ∧ W.cell? ⟨a.block, a.off + i * 4, none⟩ = some (.slice A0 n0 c0) ∧ W.cell? ⟨a.block, a.off + i * 4 + 1, none⟩ = some (.slice A1 n1 c1) ∧ W.cell? ⟨a.block, a.off + i * 4 + 2, none⟩ = some (.slice A2 n2 c2) ∧ W.cell? ⟨a.block, a.off + i * 4 + 3, none⟩ = some (.int .i64 q.r) ∧ CrV W (.agg #[.slice A0 n0 c0, .slice A1 n1 c1, .slice A2 n2 c2, .int .i64 q.r]) q := by
      intro i hi
      have him : i < m := by
        rw [hm]; split <;> omega
      obtain ⟨cs', h1, h2⟩ := hf i him
      rw [hcells] at h1
      obtain ⟨_, hl4, hg⟩ := World.cells?_some h1
      have hwi : ∀ k ∈ (D i).weights Try.prog 36, k ≤ reachBytes := fun k hk => hw k (List.mem_cons_of_mem _ (List.mem_append_left _ (weights_all (j := i) (by rw [List.getElem?_map, List.getElem?_range hi]; rfl) k hk)))
      obtain ⟨A0, A1, A2, c0, c1, c2, q, rfl, hq, hqb⟩ := open_core_cells h2 hwi
      have hs := hsp (by omega)
      obtain ⟨b, o, s⟩ := a
      simp only at hs
      obtain ⟨rfl, hlt⟩ := hs
      have ea : (⟨b, o, none⟩ : Addr).add (i * 4) = ⟨b, o + i * 4, none⟩ := add_at _ _ _
      rw [ea] at hg
      have g0 := hg 0 (by decide)
      have g1 := hg 1 (by decide)
      have g2 := hg 2 (by decide)
      have g3 := hg 3 (by decide)
      rw [add_at] at g0 g1 g2 g3
      exact ⟨q, hqb, A0, A1, A2, _, _, _, c0, c1, c2, rfl, hlt, g0, g1, g2, g3, hq⟩
    obtain ⟨l, hll, hq⟩ := list_of3 n each
    refine ⟨some a, n, c, l, rfl, hll, fun i d hd => ?_, fun d hd => ?_, hn80⟩
    · obtain ⟨hqb, A0, A1, A2, n0, n1, n2, c0, c1, c2, hs, hlt, g0, g1, g2, g3, hv⟩ := hq i d hd
      obtain ⟨b, o, s⟩ := a
      simp only at hs hlt g0 g1 g2 g3
      subst hs
      exact ⟨b, o, A0, A1, A2, n0, n1, n2, c0, c1, c2, rfl, hlt, g0, g1, g2, g3, hv⟩
    · obtain ⟨i, hi⟩ := List.getElem?_of_mem hd
      exact (hq i d hi).1
end
end Go.Proofs.Ytckdhahceelckaa.G
namespace Go.Proofs.Ytckdhahceelckaa.G
open Go.RowKit Go.Proofs.YtckdhahceelckaaW.PrintWords Go.Proofs.YtckdhahceelckaaW.PrintLast Go.Proofs.YtckdhahceelckaaW.PrintMore
attribute [local go_sem] max2_mx min2_mn max_two min_two max_three min_three max_four min_four
attribute [local go_sem high] eqA23 eqA40
set_option linter.unusedVariables false
set_option linter.unusedSimpArgs false
theorem trail_len (c : Cr) (y : P3) (k : Int) : ((trailF c y k).p.length < 9223372036854775807 ∧ (trailF c y k).a.length < 9223372036854775807 ∧ (trailF c y k).e.length < 9223372036854775807) := by
  unfold trailF
  split
  · rename_i h
    have hl := ((smay_iff ..).1 h.1).2.1
    have h1 := withF_len c.a (acrossF y c.e)
    have h2 := withF_len c.e [short3 y]
    simp only [List.length_append, List.length_map]
    omega
  · simp
theorem k16_ {k : Nat} (h : (k : Int) < 16) : k < 16 := by omega
theorem k16e_ {k : Nat} (h : (k : Int) < 16) : 16 - k = (15 - k) + 1 ∧ 15 - k = 16 - (k + 1) := by omega
theorem k16w_ {k : Nat} (h : (k : Int) < 16) : wrap64 ((k : Int) + 1) = (k : Int) + 1 := by unfold wrap64; omega
theorem castOk_no1 {a b : Cr} {y : P3} (h : (apS a b).2 = false) : castOk a y b = false := by unfold castOk; rw [h]; rfl
theorem castOk_no2 {a b : Cr} {y : P3} (h : wayOk y = false) : castOk a y b = false := by unfold castOk smay; rw [h]; simp
theorem castOk_no3 {a b : Cr} {y : P3} (h : 16 < a.p.length) : castOk a y b = false := by
  unfold castOk smay
  rw [decide_eq_false (by omega)]; simp
theorem castOk_no4 {a b : Cr} {y : P3} {k : Int} (h0 : 0 ≤ k) (h1 : k ≤ 16) (h : (trailF a y k).may = false) : castOk a y b = false := by
  cases hc : castOk a y b with
  | false => rfl
  | true =>
    unfold castOk at hc
    rw [Bool.and_eq_true, Bool.and_eq_true, apS_may (trailF a y 16), Bool.and_eq_true] at hc
    rw [trail_last hc.1.2 hc.2.1 h0 h1] at h
    cases h
theorem castOk_yes {a b : Cr} {y : P3} (h1 : (apS a b).2 = true) (h2 : wayOk y = true) (h3 : a.p.length ≤ 16) (h4 : (trailF a y 16).may = true) : castOk a y b = true := by
  have h5 := h1
  rw [apS_may, Bool.and_eq_true] at h5
  unfold castOk smay
  rw [h1, h2, apS_may, h4, h5.1, h5.2, decide_eq_true h3]; rfl
set_option maxHeartbeats 16000000 in
set_option maxRecDepth 100000 in
theorem rcast_calls {w : World} {va vb : Value} {a b : Cr} (ha : CrV w va a) (hb : CrV w vb b) (y : P3) (hl : a.p.length ≤ 140737488355328 ∧ a.a.length ≤ 140737488355328 ∧ a.e.length ≤ 140737488355328) (hm : b.p.length ≤ 140737488355328 ∧ b.a.length ≤ 140737488355328 ∧ b.e.length ≤ 140737488355328) : Calls Try.prog 39 #[va, aP y, vb] w (CastPost (castF a y b) w) := by
  have HNO0 := Lh (fun (h : castOk a y b = false) => show castF a y b = ((0, (⟨0, 0, 0⟩, 0)), false) from if_neg (by rw [h]; decide))
  have HN1 := Lh (fun h => HNO0.out (castOk_no1 h))
  have HN2 := Lh (fun h => HNO0.out (castOk_no2 h))
  have HN3 := Lh (fun h => HNO0.out (castOk_no3 h))
  have HN4 := Lh (fun (k : Int) h0 h1 h => HNO0.out (castOk_no4 (k := k) h0 h1 h))
  have HYS := Lh (fun h1 h2 h3 h4 => show castF a y b = (castL a y b 16 0 (apS a b).1, true) from if_pos (castOk_yes h1 h2 h3 h4))
  have HA1 := Lh (fun (W : World) (h1 : CrV W va a) (h2 : CrV W vb b) => rapart_all h1 h2 (by omega) (by omega) (apS a b) rfl)
  have HW := Lh (fun (W : World) => rway_calls y W)
  have HT := Lh (fun (W : World) (K : Int) (h1 : CrV W va a) => rtrail_calls h1 y K hl)
  have HM := Lh (fun (K : Int) (W : World) (u : Value) (h1 : CrV W u (trailF a y K)) => rmay_calls h1 (trail_len a y K).1 (trail_len a y K).2.1 (trail_len a y K).2.2)
  have HA2 := Lh (fun (K : Int) (W : World) (u : Value) (h1 : CrV W u (trailF a y K)) (h2 : CrV W vb b) => rapart_all h1 h2 (trail_len a y K) (by omega) (apS (trailF a y K) b) rfl)
  have HGO := Lh (fun n k x z h1 h2 h3 => castL_go (c := a) (d := b) (y := y) (n := n) (k := k) (x := x) (z := z) h1 h2 h3)
  have HSTOP := Lh (fun n k x z h1 h2 => castL_stop (c := a) (d := b) (y := y) (n := n) (k := k) (x := x) (z := z) h1 h2)
  have HNEG := Lh (fun n k x h1 => castL_neg (c := a) (d := b) (y := y) (n := n) (k := k) (x := x) h1)
  have HZ := Lh (fun k x => show castL a y b 0 k x = (k, x) from rfl)
  obtain ⟨CF, hCF⟩ : ∃ R, castF a y b = R := ⟨_, rfl⟩
  obtain ⟨WO, hWO⟩ : ∃ R, wayOk y = R := ⟨_, rfl⟩
  obtain ⟨CL, hCL⟩ : ∃ R, castL a y b = R := ⟨_, rfl⟩
  obtain ⟨MY, hMY⟩ : ∃ R : Int → Bool, (fun K => mayF (trailF a y K).p (trailF a y K).a (trailF a y K).e (trailF a y K).r) = R := ⟨_, rfl⟩
  have hMY2 : ∀ K, mayF (trailF a y K).p (trailF a y K).a (trailF a y K).e (trailF a y K).r = MY K := fun K => by rw [← hMY]
  have hMY3 : ∀ K, (trailF a y K).may = MY K := hMY2
  simp only [hMY2] at HM
  simp only [hMY3] at HN4 HYS
  obtain ⟨TR, hTR⟩ : ∃ R, trailF a y = R := ⟨_, rfl⟩
  obtain ⟨X0, hX0⟩ : ∃ R, apS a b = R := ⟨_, rfl⟩
  obtain ⟨AP, hAP⟩ : ∃ R : Cr → (P3 × Int) × Bool, (fun c => apS c b) = R := ⟨_, rfl⟩
  have hAP2 : ∀ c, apS c b = AP c := fun c => by rw [← hAP]
  simp only [hAP2] at HA2 HGO HSTOP HYS HN1
  rw [hCF] at HN1 HN2 HN3 HN4 HYS
  rw [hCL, ← hAP2, hX0, hWO] at HYS
  rw [← hAP2, hX0] at HN1
  rw [hWO] at HN2 HW
  rw [hX0] at HA1
  rw [hTR] at HT HA2 HM
  simp only [hTR, hCL] at HGO HSTOP
  simp only [hCL] at HNEG HZ
  rw [hCF]
  clear hCF hWO hCL hTR hX0 hAP hAP2 hMY hMY2 hMY3 HNO0
  obtain ⟨⟨⟨Xx, Xy, Xz⟩, Xg⟩, Xo⟩ := X0
  obtain ⟨yx, yy, yz⟩ := y
  (try simp only at HW)
  have HVA := Lh ha
  have HVB := Lh hb
  obtain ⟨A0, A1, A2, c0, c1, c2, rfl, _⟩ := id ha.out
  obtain ⟨n0, hn0⟩ : ∃ n, a.p.length = n := ⟨_, rfl⟩
  obtain ⟨n1, hn1⟩ : ∃ n, a.a.length = n := ⟨_, rfl⟩
  obtain ⟨n2, hn2⟩ : ∃ n, a.e.length = n := ⟨_, rfl⟩
  obtain ⟨B0, B1, B2, m0, m1, m2, d0, d1, d2, rfl⟩ := hb.form
  obtain ⟨ra, hra⟩ : ∃ r, a.r = r := ⟨_, rfl⟩
  obtain ⟨rb, hrb⟩ : ∃ r, b.r = r := ⟨_, rfl⟩
  rw [hn0] at HN3 HYS
  rw [hn0, hn1, hn2, hra] at HVA HA1 HT
  rw [hrb] at HVB HA1 HA2
  rw [hn0, hn1, hn2, hra, hrb]
  simp only at HA1 HYS HN1
  clear ha hb hra hrb hl hm hn0 hn1 hn2
  have z0 := four0 w (.cells #[.slice A0 n0 c0, .slice A1 n1 c1, .slice A2 n2 c2, .int .i64 ra] 36) (.cells #[.int .i64 yx, .int .i64 yy, .int .i64 yz] 23) (.cells #[.slice B0 m0 d0, .slice B1 m1 d1, .slice B2 m2 d2, .int .i64 rb] 36) (.cells #[.int .i64 0, .int .i64 0, .int .i64 0, .int .i64 0] 40)
  have z1 := four1 w (.cells #[.slice A0 n0 c0, .slice A1 n1 c1, .slice A2 n2 c2, .int .i64 ra] 36) (.cells #[.int .i64 yx, .int .i64 yy, .int .i64 yz] 23) (.cells #[.slice B0 m0 d0, .slice B1 m1 d1, .slice B2 m2 d2, .int .i64 rb] 36) (.cells #[.int .i64 0, .int .i64 0, .int .i64 0, .int .i64 0] 40)
  have z2 := four2 w (.cells #[.slice A0 n0 c0, .slice A1 n1 c1, .slice A2 n2 c2, .int .i64 ra] 36) (.cells #[.int .i64 yx, .int .i64 yy, .int .i64 yz] 23) (.cells #[.slice B0 m0 d0, .slice B1 m1 d1, .slice B2 m2 d2, .int .i64 rb] 36) (.cells #[.int .i64 0, .int .i64 0, .int .i64 0, .int .i64 0] 40)
  have z3 := four3 w (.cells #[.slice A0 n0 c0, .slice A1 n1 c1, .slice A2 n2 c2, .int .i64 ra] 36) (.cells #[.int .i64 yx, .int .i64 yy, .int .i64 yz] 23) (.cells #[.slice B0 m0 d0, .slice B1 m1 d1, .slice B2 m2 d2, .int .i64 rb] 36) (.cells #[.int .i64 0, .int .i64 0, .int .i64 0, .int .i64 0] 40)
  have zb := below_alloc4 w (.cells #[.slice A0 n0 c0, .slice A1 n1 c1, .slice A2 n2 c2, .int .i64 ra] 36) (.cells #[.int .i64 yx, .int .i64 yy, .int .i64 yz] 23) (.cells #[.slice B0 m0 d0, .slice B1 m1 d1, .slice B2 m2 d2, .int .i64 rb] 36) (.cells #[.int .i64 0, .int .i64 0, .int .i64 0, .int .i64 0] 40)
  go_enter Try.func39, Try.ntmps39
  go_wp2_with fail
  obtain ⟨w1, hw1⟩ : ∃ V, (((w.alloc (.cells #[.slice A0 n0 c0, .slice A1 n1 c1, .slice A2 n2 c2, .int .i64 ra] 36)).alloc (.cells #[.int .i64 yx, .int .i64 yy, .int .i64 yz] 23)).alloc (.cells #[.slice B0 m0 d0, .slice B1 m1 d1, .slice B2 m2 d2, .int .i64 rb] 36)).alloc (.cells #[.int .i64 0, .int .i64 0, .int .i64 0, .int .i64 0] 40) = V := ⟨_, rfl⟩
  rw [hw1] at z0 z1 z2 z3 zb ⊢
  clear hw1
  with_reducible refine (HA1.out w1 (HVA.out.below zb) (HVB.out.below zb)).mono ?_
  rintro en w2 ⟨rfl, hb⟩
  go_upto_region 2 with fail
  have Z0 := (hb.block _ (blk_lt z0)).trans z0
  have Z1 := (hb.block _ (blk_lt z1)).trans z1
  have Z2 := (hb.block _ (blk_lt z2)).trans z2
  have Z3 := (hb.block _ (blk_lt z3)).trans z3
  have ZB := bthen zb hb
  have hs2 : w.heap.size + 3 < w2.heap.size := blk_lt Z3
  clear zb z0 z1 z2 z3 hb HA1
  have ab := (Below.refl _ w2).alloc (Nat.le_refl _) (.cells #[.int .i64 Xx, .int .i64 Xy, .int .i64 Xz, .int .i64 Xg] 40)
  have HX := Lh (heap_alloc_new w2 (.cells #[.int .i64 Xx, .int .i64 Xy, .int .i64 Xz, .int .i64 Xg] 40))
  have Z0 := Lh ((ab.block _ (blk_lt Z0)).trans Z0)
  have Z1 := Lh ((ab.block _ (blk_lt Z1)).trans Z1)
  have Z2 := Lh ((ab.block _ (blk_lt Z2)).trans Z2)
  have Z3 := Lh ((ab.block _ (blk_lt Z3)).trans Z3)
  have ZB := Lh (bthen ZB ab)
  obtain ⟨w3, hw3⟩ : ∃ V, w2.alloc (.cells #[.int .i64 Xx, .int .i64 Xy, .int .i64 Xz, .int .i64 Xg] 40) = V := ⟨_, rfl⟩
  obtain ⟨XB, hXB⟩ : ∃ n, w2.heap.size = n := ⟨_, rfl⟩
  rw [hw3] at HX Z0 Z1 Z2 Z3 ZB ⊢
  rw [hXB] at HX hs2 ⊢
  clear ab hw3 hXB
  have x0 : w3.cell? ⟨w.heap.size, 0, none⟩ = some (.slice A0 n0 c0) := (blk_cell Z0.out 0).trans rfl
  have x1 : w3.cell? ⟨w.heap.size, 1, none⟩ = some (.slice A1 n1 c1) := (blk_cell Z0.out 1).trans rfl
  have x2 : w3.cell? ⟨w.heap.size, 2, none⟩ = some (.slice A2 n2 c2) := (blk_cell Z0.out 2).trans rfl
  have x3 : w3.cell? ⟨w.heap.size, 3, none⟩ = some (.int .i64 ra) := (blk_cell Z0.out 3).trans rfl
  have xl : w.heap.size < w3.heap.size := blk_lt Z0.out
  have y0 : w3.cell? ⟨w.heap.size + 1, 0, none⟩ = some (.int .i64 yx) := (blk_cell Z1.out 0).trans rfl
  have y1 : w3.cell? ⟨w.heap.size + 1, 1, none⟩ = some (.int .i64 yy) := (blk_cell Z1.out 1).trans rfl
  have y2 : w3.cell? ⟨w.heap.size + 1, 2, none⟩ = some (.int .i64 yz) := (blk_cell Z1.out 2).trans rfl
  have yl : w.heap.size + 1 < w3.heap.size := blk_lt Z1.out
  have z0 : w3.cell? ⟨w.heap.size + 2, 0, none⟩ = some (.slice B0 m0 d0) := (blk_cell Z2.out 0).trans rfl
  have z1 : w3.cell? ⟨w.heap.size + 2, 1, none⟩ = some (.slice B1 m1 d1) := (blk_cell Z2.out 1).trans rfl
  have z2 : w3.cell? ⟨w.heap.size + 2, 2, none⟩ = some (.slice B2 m2 d2) := (blk_cell Z2.out 2).trans rfl
  have z3 : w3.cell? ⟨w.heap.size + 2, 3, none⟩ = some (.int .i64 rb) := (blk_cell Z2.out 3).trans rfl
  have zl : w.heap.size + 2 < w3.heap.size := blk_lt Z2.out
  go_wp2_with fail
  with_reducible refine (HW.out w3).mono ?_
  rintro en w4 ⟨rfl, hb⟩
  replace Z0 := Lh ((hb.block _ (blk_lt Z0.out)).trans Z0.out)
  replace Z1 := Lh ((hb.block _ (blk_lt Z1.out)).trans Z1.out)
  replace Z2 := Lh ((hb.block _ (blk_lt Z2.out)).trans Z2.out)
  replace Z3 := Lh ((hb.block _ (blk_lt Z3.out)).trans Z3.out)
  replace HX := Lh ((hb.block _ (blk_lt HX.out)).trans HX.out)
  replace ZB := Lh (bthen ZB.out hb)
  clear hb x0 x1 x2 x3 xl y0 y1 y2 yl z0 z1 z2 z3 zl HW
  have x0 : w4.cell? ⟨w.heap.size, 0, none⟩ = some (.slice A0 n0 c0) := (blk_cell Z0.out 0).trans rfl
  have x1 : w4.cell? ⟨w.heap.size, 1, none⟩ = some (.slice A1 n1 c1) := (blk_cell Z0.out 1).trans rfl
  have x2 : w4.cell? ⟨w.heap.size, 2, none⟩ = some (.slice A2 n2 c2) := (blk_cell Z0.out 2).trans rfl
  have x3 : w4.cell? ⟨w.heap.size, 3, none⟩ = some (.int .i64 ra) := (blk_cell Z0.out 3).trans rfl
  have xl : w.heap.size < w4.heap.size := blk_lt Z0.out
  have y0 : w4.cell? ⟨w.heap.size + 1, 0, none⟩ = some (.int .i64 yx) := (blk_cell Z1.out 0).trans rfl
  have y1 : w4.cell? ⟨w.heap.size + 1, 1, none⟩ = some (.int .i64 yy) := (blk_cell Z1.out 1).trans rfl
  have y2 : w4.cell? ⟨w.heap.size + 1, 2, none⟩ = some (.int .i64 yz) := (blk_cell Z1.out 2).trans rfl
  have yl : w.heap.size + 1 < w4.heap.size := blk_lt Z1.out
  have z0 : w4.cell? ⟨w.heap.size + 2, 0, none⟩ = some (.slice B0 m0 d0) := (blk_cell Z2.out 0).trans rfl
  have z1 : w4.cell? ⟨w.heap.size + 2, 1, none⟩ = some (.slice B1 m1 d1) := (blk_cell Z2.out 1).trans rfl
  have z2 : w4.cell? ⟨w.heap.size + 2, 2, none⟩ = some (.slice B2 m2 d2) := (blk_cell Z2.out 2).trans rfl
  have z3 : w4.cell? ⟨w.heap.size + 2, 3, none⟩ = some (.int .i64 rb) := (blk_cell Z2.out 3).trans rfl
  have zl : w.heap.size + 2 < w4.heap.size := blk_lt Z2.out
  cases Xo with
  | false =>
    have HR := Lh (HN1.out rfl)
    clear HN1 HN2 HN3 HN4 HYS HGO HSTOP HNEG HZ HA2 HT HM
    have r0 : w4.cell? ⟨w.heap.size + 3, 0, none⟩ = some (.int .i64 0) := (blk_cell Z3.out 0).trans rfl
    have f0 : w4.frozen? ⟨w.heap.size + 3, 0, none⟩ = false := blk_frozen Z3.out 0
    have r1 : w4.cell? ⟨w.heap.size + 3, 1, none⟩ = some (.int .i64 0) := (blk_cell Z3.out 1).trans rfl
    have f1 : w4.frozen? ⟨w.heap.size + 3, 1, none⟩ = false := blk_frozen Z3.out 1
    have r2 : w4.cell? ⟨w.heap.size + 3, 2, none⟩ = some (.int .i64 0) := (blk_cell Z3.out 2).trans rfl
    have f2 : w4.frozen? ⟨w.heap.size + 3, 2, none⟩ = false := blk_frozen Z3.out 2
    have r3 : w4.cell? ⟨w.heap.size + 3, 3, none⟩ = some (.int .i64 0) := (blk_cell Z3.out 3).trans rfl
    have f3 : w4.frozen? ⟨w.heap.size + 3, 3, none⟩ = false := blk_frozen Z3.out 3
    obtain ⟨V, hV⟩ : ∃ V, set4 w4 (w.heap.size + 1 + 1 + 1) (.int .i64 0) (.int .i64 0) (.int .i64 0) (.int .i64 0) = V := ⟨_, rfl⟩
    have HV : V.heap[w.heap.size + 3]? = some (.cells #[.int .i64 0, .int .i64 0, .int .i64 0, .int .i64 0] 40 (0, 0)) := by rw [← hV]; exact blk4_set Z3.out _ _ _ _
    have HBV : Below w.heap.size w V := by rw [← hV]; exact below_set4 ZB.out (by omega) _ _ _ _
    have t0 : V.cell? ⟨w.heap.size + 1 + 1 + 1, 0, none⟩ = some (.int .i64 0) := (blk_cell HV 0).trans rfl
    have t1 : V.cell? ⟨w.heap.size + 1 + 1 + 1, 1, none⟩ = some (.int .i64 0) := (blk_cell HV 1).trans rfl
    have t2 : V.cell? ⟨w.heap.size + 1 + 1 + 1, 2, none⟩ = some (.int .i64 0) := (blk_cell HV 2).trans rfl
    have t3 : V.cell? ⟨w.heap.size + 1 + 1 + 1, 3, none⟩ = some (.int .i64 0) := (blk_cell HV 3).trans rfl
    go_wp2
    (try rw [hV])
    exact bodyPost_ret (v := .tuple #[.int .i64 0, .agg #[.int .i64 0, .int .i64 0, .int .i64 0, .int .i64 0], .bool false]) (by simp [results, Try.results39, go_sem, t0, t1, t2, t3]) rfl ⟨by rw [HR.out]; rfl, HBV⟩
  | true =>
    cases WO with
    | false =>
      have HR := Lh (HN2.out rfl)
      clear HN1 HN2 HN3 HN4 HYS HGO HSTOP HNEG HZ HA2 HT HM
      have r0 : w4.cell? ⟨w.heap.size + 3, 0, none⟩ = some (.int .i64 0) := (blk_cell Z3.out 0).trans rfl
      have f0 : w4.frozen? ⟨w.heap.size + 3, 0, none⟩ = false := blk_frozen Z3.out 0
      have r1 : w4.cell? ⟨w.heap.size + 3, 1, none⟩ = some (.int .i64 0) := (blk_cell Z3.out 1).trans rfl
      have f1 : w4.frozen? ⟨w.heap.size + 3, 1, none⟩ = false := blk_frozen Z3.out 1
      have r2 : w4.cell? ⟨w.heap.size + 3, 2, none⟩ = some (.int .i64 0) := (blk_cell Z3.out 2).trans rfl
      have f2 : w4.frozen? ⟨w.heap.size + 3, 2, none⟩ = false := blk_frozen Z3.out 2
      have r3 : w4.cell? ⟨w.heap.size + 3, 3, none⟩ = some (.int .i64 0) := (blk_cell Z3.out 3).trans rfl
      have f3 : w4.frozen? ⟨w.heap.size + 3, 3, none⟩ = false := blk_frozen Z3.out 3
      obtain ⟨V, hV⟩ : ∃ V, set4 w4 (w.heap.size + 1 + 1 + 1) (.int .i64 0) (.int .i64 0) (.int .i64 0) (.int .i64 0) = V := ⟨_, rfl⟩
      have HV : V.heap[w.heap.size + 3]? = some (.cells #[.int .i64 0, .int .i64 0, .int .i64 0, .int .i64 0] 40 (0, 0)) := by rw [← hV]; exact blk4_set Z3.out _ _ _ _
      have HBV : Below w.heap.size w V := by rw [← hV]; exact below_set4 ZB.out (by omega) _ _ _ _
      have t0 : V.cell? ⟨w.heap.size + 1 + 1 + 1, 0, none⟩ = some (.int .i64 0) := (blk_cell HV 0).trans rfl
      have t1 : V.cell? ⟨w.heap.size + 1 + 1 + 1, 1, none⟩ = some (.int .i64 0) := (blk_cell HV 1).trans rfl
      have t2 : V.cell? ⟨w.heap.size + 1 + 1 + 1, 2, none⟩ = some (.int .i64 0) := (blk_cell HV 2).trans rfl
      have t3 : V.cell? ⟨w.heap.size + 1 + 1 + 1, 3, none⟩ = some (.int .i64 0) := (blk_cell HV 3).trans rfl
      go_wp2
      (try rw [hV])
      exact bodyPost_ret (v := .tuple #[.int .i64 0, .agg #[.int .i64 0, .int .i64 0, .int .i64 0, .int .i64 0], .bool false]) (by simp [results, Try.results39, go_sem, t0, t1, t2, t3]) rfl ⟨by rw [HR.out]; rfl, HBV⟩
    | true =>
      by_cases tn : 16 < n0
      · have en : decide (16 < (n0 : Int)) = true := decide_eq_true (by omega)
        have HR := Lh (HN3.out tn)
        clear HN1 HN2 HN3 HN4 HYS HGO HSTOP HNEG HZ HA2 HT HM
        have r0 : w4.cell? ⟨w.heap.size + 3, 0, none⟩ = some (.int .i64 0) := (blk_cell Z3.out 0).trans rfl
        have f0 : w4.frozen? ⟨w.heap.size + 3, 0, none⟩ = false := blk_frozen Z3.out 0
        have r1 : w4.cell? ⟨w.heap.size + 3, 1, none⟩ = some (.int .i64 0) := (blk_cell Z3.out 1).trans rfl
        have f1 : w4.frozen? ⟨w.heap.size + 3, 1, none⟩ = false := blk_frozen Z3.out 1
        have r2 : w4.cell? ⟨w.heap.size + 3, 2, none⟩ = some (.int .i64 0) := (blk_cell Z3.out 2).trans rfl
        have f2 : w4.frozen? ⟨w.heap.size + 3, 2, none⟩ = false := blk_frozen Z3.out 2
        have r3 : w4.cell? ⟨w.heap.size + 3, 3, none⟩ = some (.int .i64 0) := (blk_cell Z3.out 3).trans rfl
        have f3 : w4.frozen? ⟨w.heap.size + 3, 3, none⟩ = false := blk_frozen Z3.out 3
        obtain ⟨V, hV⟩ : ∃ V, set4 w4 (w.heap.size + 1 + 1 + 1) (.int .i64 0) (.int .i64 0) (.int .i64 0) (.int .i64 0) = V := ⟨_, rfl⟩
        have HV : V.heap[w.heap.size + 3]? = some (.cells #[.int .i64 0, .int .i64 0, .int .i64 0, .int .i64 0] 40 (0, 0)) := by rw [← hV]; exact blk4_set Z3.out _ _ _ _
        have HBV : Below w.heap.size w V := by rw [← hV]; exact below_set4 ZB.out (by omega) _ _ _ _
        have t0 : V.cell? ⟨w.heap.size + 1 + 1 + 1, 0, none⟩ = some (.int .i64 0) := (blk_cell HV 0).trans rfl
        have t1 : V.cell? ⟨w.heap.size + 1 + 1 + 1, 1, none⟩ = some (.int .i64 0) := (blk_cell HV 1).trans rfl
        have t2 : V.cell? ⟨w.heap.size + 1 + 1 + 1, 2, none⟩ = some (.int .i64 0) := (blk_cell HV 2).trans rfl
        have t3 : V.cell? ⟨w.heap.size + 1 + 1 + 1, 3, none⟩ = some (.int .i64 0) := (blk_cell HV 3).trans rfl
        go_wp2
        (try rw [hV])
        exact bodyPost_ret (v := .tuple #[.int .i64 0, .agg #[.int .i64 0, .int .i64 0, .int .i64 0, .int .i64 0], .bool false]) (by simp [results, Try.results39, go_sem, t0, t1, t2, t3]) rfl ⟨by rw [HR.out]; rfl, HBV⟩
      have en : decide (16 < (n0 : Int)) = false := decide_eq_false (by omega)
      have HYT := Lh (show MY 16 = true → CF = (CL 16 0 (⟨Xx, Xy, Xz⟩, Xg), true) from fun h => HYS.out (by trivial) (by trivial) (by omega) h)
      clear HN1 HN2 HN3 HYS
      go_wp2_with fail
      go_loopw [12, 13] (fun v12 v13 wr => ∃ k : Nat, 1 ≤ k ∧ k ≤ 17 ∧ v12 = .int .i64 k ∧ Hid (k = 17 → MY 16 = true) ∧ Hid (Below w4.heap.size w4 wr)) (fun v12 _ _ => 17 - (intOf v12).toNat)
      case atStart => exact ⟨1, by omega, by omega, rfl, Lh (by omega), Lh (Below.refl _ _)⟩
      case round =>
        obtain ⟨k, hk1, hk2, rfl, hM, hB⟩ := hrel
        obtain ⟨wq, hwq⟩ : ∃ x : World, x = wr := ⟨_, rfl⟩
        subst hwq
        clear x0 x1 x2 x3 xl y0 y1 y2 yl z0 z1 z2 z3 zl en tn
        replace Z0 := Lh ((hB.out.block _ (blk_lt Z0.out)).trans Z0.out)
        replace Z1 := Lh ((hB.out.block _ (blk_lt Z1.out)).trans Z1.out)
        replace Z2 := Lh ((hB.out.block _ (blk_lt Z2.out)).trans Z2.out)
        replace Z3 := Lh ((hB.out.block _ (blk_lt Z3.out)).trans Z3.out)
        replace HX := Lh ((hB.out.block _ (blk_lt HX.out)).trans HX.out)
        replace ZB := Lh (bthen ZB.out hB.out)
        have x0 : wq.cell? ⟨w.heap.size, 0, none⟩ = some (.slice A0 n0 c0) := (blk_cell Z0.out 0).trans rfl
        have x1 : wq.cell? ⟨w.heap.size, 1, none⟩ = some (.slice A1 n1 c1) := (blk_cell Z0.out 1).trans rfl
        have x2 : wq.cell? ⟨w.heap.size, 2, none⟩ = some (.slice A2 n2 c2) := (blk_cell Z0.out 2).trans rfl
        have x3 : wq.cell? ⟨w.heap.size, 3, none⟩ = some (.int .i64 ra) := (blk_cell Z0.out 3).trans rfl
        have xl : w.heap.size < wq.heap.size := blk_lt Z0.out
        have y0 : wq.cell? ⟨w.heap.size + 1, 0, none⟩ = some (.int .i64 yx) := (blk_cell Z1.out 0).trans rfl
        have y1 : wq.cell? ⟨w.heap.size + 1, 1, none⟩ = some (.int .i64 yy) := (blk_cell Z1.out 1).trans rfl
        have y2 : wq.cell? ⟨w.heap.size + 1, 2, none⟩ = some (.int .i64 yz) := (blk_cell Z1.out 2).trans rfl
        have yl : w.heap.size + 1 < wq.heap.size := blk_lt Z1.out
        have z0 : wq.cell? ⟨w.heap.size + 2, 0, none⟩ = some (.slice B0 m0 d0) := (blk_cell Z2.out 0).trans rfl
        have z1 : wq.cell? ⟨w.heap.size + 2, 1, none⟩ = some (.slice B1 m1 d1) := (blk_cell Z2.out 1).trans rfl
        have z2 : wq.cell? ⟨w.heap.size + 2, 2, none⟩ = some (.slice B2 m2 d2) := (blk_cell Z2.out 2).trans rfl
        have z3 : wq.cell? ⟨w.heap.size + 2, 3, none⟩ = some (.int .i64 rb) := (blk_cell Z2.out 3).trans rfl
        have zl : w.heap.size + 2 < wq.heap.size := blk_lt Z2.out
        by_cases t2 : k ≤ 16
        · have e2 : decide ((k : Int) ≤ 16) = true := decide_eq_true (by omega)
          have HK := Lh (show (k : Int) = 16 ↔ k = 16 by omega)
          go_wp2_with fail
          with_reducible refine (HT.out _ (k : Int) (HVA.out.below ZB.out)).mono ?_
          rintro en w5 ⟨u5, rfl, hv, hb⟩
          go_wp2_with fail
          with_reducible refine (HM.out (k : Int) _ _ hv).mono ?_
          rintro en w6 ⟨rfl, hb2⟩
          have hb3 := bthen hb hb2
          replace Z0 := Lh ((hb3.block _ (blk_lt Z0.out)).trans Z0.out)
          replace Z1 := Lh ((hb3.block _ (blk_lt Z1.out)).trans Z1.out)
          replace Z2 := Lh ((hb3.block _ (blk_lt Z2.out)).trans Z2.out)
          replace Z3 := Lh ((hb3.block _ (blk_lt Z3.out)).trans Z3.out)
          replace HX := Lh ((hb3.block _ (blk_lt HX.out)).trans HX.out)
          replace ZB := Lh (bthen ZB.out hb3)
          have hB := Lh (bthen hB.out hb3)
          clear hb hb2 hb3 hv x0 x1 x2 x3 xl y0 y1 y2 yl z0 z1 z2 z3 zl e2
          obtain ⟨MK, hMK⟩ : ∃ R, MY (k : Int) = R := ⟨_, rfl⟩
          rw [hMK]
          have HMK := Lh hMK
          clear hMK
          cases MK with
          | false =>
            have HR := Lh (HN4.out (k : Int) (by omega) (by omega) HMK.out)
            clear HN4 HYT HGO HSTOP HNEG HZ HA2 HT HM
            have r0 : w6.cell? ⟨w.heap.size + 3, 0, none⟩ = some (.int .i64 0) := (blk_cell Z3.out 0).trans rfl
            have f0 : w6.frozen? ⟨w.heap.size + 3, 0, none⟩ = false := blk_frozen Z3.out 0
            have r1 : w6.cell? ⟨w.heap.size + 3, 1, none⟩ = some (.int .i64 0) := (blk_cell Z3.out 1).trans rfl
            have f1 : w6.frozen? ⟨w.heap.size + 3, 1, none⟩ = false := blk_frozen Z3.out 1
            have r2 : w6.cell? ⟨w.heap.size + 3, 2, none⟩ = some (.int .i64 0) := (blk_cell Z3.out 2).trans rfl
            have f2 : w6.frozen? ⟨w.heap.size + 3, 2, none⟩ = false := blk_frozen Z3.out 2
            have r3 : w6.cell? ⟨w.heap.size + 3, 3, none⟩ = some (.int .i64 0) := (blk_cell Z3.out 3).trans rfl
            have f3 : w6.frozen? ⟨w.heap.size + 3, 3, none⟩ = false := blk_frozen Z3.out 3
            obtain ⟨V, hV⟩ : ∃ V, set4 w6 (w.heap.size + 1 + 1 + 1) (.int .i64 0) (.int .i64 0) (.int .i64 0) (.int .i64 0) = V := ⟨_, rfl⟩
            have HV : V.heap[w.heap.size + 3]? = some (.cells #[.int .i64 0, .int .i64 0, .int .i64 0, .int .i64 0] 40 (0, 0)) := by rw [← hV]; exact blk4_set Z3.out _ _ _ _
            have HBV : Below w.heap.size w V := by rw [← hV]; exact below_set4 ZB.out (by omega) _ _ _ _
            have t0 : V.cell? ⟨w.heap.size + 1 + 1 + 1, 0, none⟩ = some (.int .i64 0) := (blk_cell HV 0).trans rfl
            have t1 : V.cell? ⟨w.heap.size + 1 + 1 + 1, 1, none⟩ = some (.int .i64 0) := (blk_cell HV 1).trans rfl
            have t2 : V.cell? ⟨w.heap.size + 1 + 1 + 1, 2, none⟩ = some (.int .i64 0) := (blk_cell HV 2).trans rfl
            have t3 : V.cell? ⟨w.heap.size + 1 + 1 + 1, 3, none⟩ = some (.int .i64 0) := (blk_cell HV 3).trans rfl
            go_wp2
            (try rw [hV])
            exact bodyPost_ret (v := .tuple #[.int .i64 0, .agg #[.int .i64 0, .int .i64 0, .int .i64 0, .int .i64 0], .bool false]) (by simp [results, Try.results39, go_sem, t0, t1, t2, t3]) rfl ⟨by rw [HR.out]; rfl, HBV⟩
          | true =>
            go_wp2
            go_roundw
            case rel => exact ⟨k + 1, by omega, by omega, by go_num, Lh (fun e => by have e1 := HK.out.2 (by omega); have e2 := HMK.out; rw [e1] at e2; exact e2), hB⟩
            case measure => simp [intOf]; omega
        · have e2 : decide ((k : Int) ≤ 16) = false := decide_eq_false (by omega)
          obtain rfl : k = 17 := by omega
          have HYU := Lh (HYT.out (hM.out rfl))
          clear hM HYT HN4 t2 hk1 hk2
          have p3 : wq.cell? ⟨XB, 3, none⟩ = some (.int .i64 Xg) := (blk_cell HX.out 3).trans rfl
          have pl : XB < wq.heap.size := blk_lt HX.out
          by_cases t1 : Xg < 0
          · have e1 : decide (Xg < 0) = true := decide_eq_true t1
            have HNE := Lh (HNEG.out 16 0 ((⟨Xx, Xy, Xz⟩, Xg) : P3 × Int) t1)
            have HRES := Lh (show CF = ((0, ((⟨Xx, Xy, Xz⟩, Xg) : P3 × Int)), true) from by rw [HYU.out, HNE.out])
            clear HYU HGO HSTOP HNEG HZ HA2 HT HM
            go_wp2_with fail
            have HB := Lh ((Below.refl wq.heap.size wq).drew)
            have FF := Lh (show ∀ V, Hid (Below wq.heap.size wq V) → V.cell? ⟨XB, 0, none⟩ = some (.int .i64 Xx) ∧ V.cell? ⟨XB, 1, none⟩ = some (.int .i64 Xy) ∧ V.cell? ⟨XB, 2, none⟩ = some (.int .i64 Xz) ∧ V.cell? ⟨XB, 3, none⟩ = some (.int .i64 Xg) from fun V HB => have e := (HB.out.block _ (blk_lt HX.out)).trans HX.out; ⟨(blk_cell e 0).trans rfl, (blk_cell e 1).trans rfl, (blk_cell e 2).trans rfl, (blk_cell e 3).trans rfl⟩)
            refine start_ (n := 4) (S := fun w' => w'.cell? ⟨XB, 0, none⟩ = some (.int .i64 Xx) ∧ w'.cell? ⟨XB, 1, none⟩ = some (.int .i64 Xy) ∧ w'.cell? ⟨XB, 2, none⟩ = some (.int .i64 Xz) ∧ w'.cell? ⟨XB, 3, none⟩ = some (.int .i64 Xg)) (ds := [2]) (MT 0 4) (by kernel_rfl) rfl rfl (FF.out _ HB) (fun hHeld => ?_)
            obtain ⟨wd, hwd⟩ : ∃ x, wq.drew = x := ⟨_, rfl⟩
            rw [hwd] at HB hHeld ⊢
            clear hwd
            refine pu_ 1 6 (h := ?_)
            refine ta_ 0 53 hHeld (h := ?_)
            refine last_ (i := 2) (N := none) (MT 3 1) rfl rfl (by kernel_rfl) (by decide) (fun K hK => ?_)
            have R4 := (HB.out.block _ (blk_lt Z3.out)).trans Z3.out
            have sc0 : World.cell? _ ⟨w.heap.size + 3, 0, none⟩ = some (.int .i64 0) := (blk_cell R4 0).trans rfl
            have sf0 : World.frozen? _ ⟨w.heap.size + 3, 0, none⟩ = false := blk_frozen R4 0
            have sc1 : World.cell? _ ⟨w.heap.size + 3, 1, none⟩ = some (.int .i64 0) := (blk_cell R4 1).trans rfl
            have sf1 : World.frozen? _ ⟨w.heap.size + 3, 1, none⟩ = false := blk_frozen R4 1
            have sc2 : World.cell? _ ⟨w.heap.size + 3, 2, none⟩ = some (.int .i64 0) := (blk_cell R4 2).trans rfl
            have sf2 : World.frozen? _ ⟨w.heap.size + 3, 2, none⟩ = false := blk_frozen R4 2
            have sc3 : World.cell? _ ⟨w.heap.size + 3, 3, none⟩ = some (.int .i64 0) := (blk_cell R4 3).trans rfl
            have sf3 : World.frozen? _ ⟨w.heap.size + 3, 3, none⟩ = false := blk_frozen R4 3
            refine skip_ (w1 := ?_) (by rfl) rfl ?_ ?_
            rotate_left
            · go_simp
              rfl
            refine hK.out _ _ ?_
            clear hK K
            refine pu_ 3 8 (h := ?_)
            refine done_ (by kernel_rfl) ?_
            have DST := bs4 R4 (.int .i64 Xx) (.int .i64 Xy) (.int .i64 Xz) (.int .i64 Xg)
            have HBX := bb4 (HB.out.mono (show w.heap.size ≤ wq.heap.size from ZB.out.size)) (show w.heap.size ≤ w.heap.size + 3 by omega) (.int .i64 Xx) (.int .i64 Xy) (.int .i64 Xz) (.int .i64 Xg)
            obtain ⟨w99, hV⟩ : ∃ V, ((((wd.setCell ⟨w.heap.size + 3, 0, none⟩ (.int .i64 Xx)).setCell ⟨w.heap.size + 3, 1, none⟩ (.int .i64 Xy)).setCell ⟨w.heap.size + 3, 2, none⟩ (.int .i64 Xz)).setCell ⟨w.heap.size + 3, 3, none⟩ (.int .i64 Xg)) = V := ⟨_, rfl⟩
            rw [hV] at DST HBX 
            (try rw [hV])
            have hVV := Lh hV
            have DST := Lh DST
            have HBX := Lh HBX
            clear hV hHeld HB FF R4 sc0 sf0 sc1 sf1 sc2 sf2 sc3 sf3 
            have t0 : w99.cell? ⟨w.heap.size + 1 + 1 + 1, 0, none⟩ = some (.int .i64 Xx) := (blk_cell DST.out 0).trans rfl
            have t1 : w99.cell? ⟨w.heap.size + 1 + 1 + 1, 1, none⟩ = some (.int .i64 Xy) := (blk_cell DST.out 1).trans rfl
            have t2 : w99.cell? ⟨w.heap.size + 1 + 1 + 1, 2, none⟩ = some (.int .i64 Xz) := (blk_cell DST.out 2).trans rfl
            have t3 : w99.cell? ⟨w.heap.size + 1 + 1 + 1, 3, none⟩ = some (.int .i64 Xg) := (blk_cell DST.out 3).trans rfl
            go_wp2
            (try rw [hVV.out])
            exact bodyPost_ret (v := .tuple #[.int .i64 0, .agg #[.int .i64 Xx, .int .i64 Xy, .int .i64 Xz, .int .i64 Xg], .bool true]) (by simp [results, Try.results39, go_sem, t0, t1, t2, t3]) rfl ⟨by rw [HRES.out] <;> rfl, ZB.out.trans HBX.out⟩
          have e1 : decide (Xg < 0) = false := decide_eq_false t1
          have hxb : w.heap.size + 3 < XB := hs2
          have HBB := Lh (Below.refl XB wq)
          have HXl := Lh pl
          have HT1 := Lh t1
          go_wp2_with fail
          go_loopw [14, 15, 16] (fun v14 v15 v16 wr => ∃ (k : Nat) (X : P3 × Int), k ≤ 16 ∧ v14 = .int .i64 k ∧ Hid (0 ≤ X.2) ∧ Hid (CL (16 - k) k X = CL 16 0 (⟨Xx, Xy, Xz⟩, Xg)) ∧ Hid (wr.heap[XB]? = some (.cells #[.int .i64 X.1.x, .int .i64 X.1.y, .int .i64 X.1.z, .int .i64 X.2] 40 (0, 0))) ∧ Hid (Below XB wq wr)) (fun v14 _ _ _ => 16 - (intOf v14).toNat)
          case atStart => exact ⟨0, _, by omega, rfl, Lh (show (0 : Int) ≤ Xg by have := HT1.out; omega), Lh rfl, HX, HBB⟩
          case round =>
            obtain ⟨k, X, hk, rfl, hP, hC, hX, hB2⟩ := hrel
            clear HX p3 pl x0 x1 x2 x3 xl y0 y1 y2 yl z0 z1 z2 z3 zl e1 e2 hB HBB
            have hB := hB2
            clear hB2
            obtain ⟨wz, hwz⟩ : ∃ x : World, x = wr := ⟨_, rfl⟩
            subst hwz
            obtain ⟨⟨Px, Py, Pz⟩, Pg⟩ := X
            simp only at hX hP
            have HX := Lh hX.out
            have hs5 : wq.heap.size ≤ wz.heap.size := hB.out.size
            replace Z0 := Lh ((hB.out.block _ (show w.heap.size < XB by omega)).trans Z0.out)
            replace Z1 := Lh ((hB.out.block _ (show w.heap.size + 1 < XB by omega)).trans Z1.out)
            replace Z2 := Lh ((hB.out.block _ (show w.heap.size + 2 < XB by omega)).trans Z2.out)
            replace Z3 := Lh ((hB.out.block _ (show w.heap.size + 3 < XB by omega)).trans Z3.out)
            replace ZB := Lh (ZB.out.trans (hB.out.mono (show w.heap.size ≤ XB by omega)))
            have pl : XB < wz.heap.size := blk_lt HX.out
            clear hX
            by_cases t2 : (k : Int) < 16
            · have e2 : decide ((k : Int) < 16) = true := decide_eq_true t2
              have hwk : wrap64 ((k : Int) + 1) = (k : Int) + 1 := k16w_ t2
              have HTT := Lh (fun W h => HT.out W ((k : Int) + 1) h)
              have HAP := Lh (HA2.out ((k : Int) + 1))
              have HG := Lh (HGO.out (15 - k) k ((⟨Px, Py, Pz⟩, Pg) : P3 × Int))
              have HS := Lh (HSTOP.out (15 - k) k ((⟨Px, Py, Pz⟩, Pg) : P3 × Int))
              obtain ⟨TT, hTT⟩ : ∃ t, TR ((k : Int) + 1) = t := ⟨_, rfl⟩
              rw [hTT] at HTT HAP HG HS
              obtain ⟨Y, hY⟩ : ∃ t, AP TT = t := ⟨_, rfl⟩
              rw [hY] at HAP HG HS
              obtain ⟨⟨⟨Yx, Yy, Yz⟩, Yg⟩, Yo⟩ := Y
              simp only at HAP HG HS
              have HTT := Lh (show ∀ W, CrV W (.agg #[.slice A0 n0 c0, .slice A1 n1 c1, .slice A2 n2 c2, .int .i64 ra]) a → Calls Try.prog 38 #[.agg #[.slice A0 n0 c0, .slice A1 n1 c1, .slice A2 n2 c2, .int .i64 ra], aP ⟨yx, yy, yz⟩, .int .i64 (wrap64 ((k : Int) + 1))] W (TrailPost TT W) from by rw [hwk]; exact HTT.out)
              have HE : Hid (16 - k = (15 - k) + 1 ∧ 15 - k = 16 - (k + 1)) := Lh (k16e_ t2)
              rw [HE.out.1] at hC
              have hk16 : k < 16 := k16_ t2
              clear hTT hY t2 hwk
              have x0 : wz.cell? ⟨w.heap.size, 0, none⟩ = some (.slice A0 n0 c0) := (blk_cell Z0.out 0).trans rfl
              have x1 : wz.cell? ⟨w.heap.size, 1, none⟩ = some (.slice A1 n1 c1) := (blk_cell Z0.out 1).trans rfl
              have x2 : wz.cell? ⟨w.heap.size, 2, none⟩ = some (.slice A2 n2 c2) := (blk_cell Z0.out 2).trans rfl
              have x3 : wz.cell? ⟨w.heap.size, 3, none⟩ = some (.int .i64 ra) := (blk_cell Z0.out 3).trans rfl
              have xl : w.heap.size < wz.heap.size := blk_lt Z0.out
              have y0 : wz.cell? ⟨w.heap.size + 1, 0, none⟩ = some (.int .i64 yx) := (blk_cell Z1.out 0).trans rfl
              have y1 : wz.cell? ⟨w.heap.size + 1, 1, none⟩ = some (.int .i64 yy) := (blk_cell Z1.out 1).trans rfl
              have y2 : wz.cell? ⟨w.heap.size + 1, 2, none⟩ = some (.int .i64 yz) := (blk_cell Z1.out 2).trans rfl
              have yl : w.heap.size + 1 < wz.heap.size := blk_lt Z1.out
              have z0 : wz.cell? ⟨w.heap.size + 2, 0, none⟩ = some (.slice B0 m0 d0) := (blk_cell Z2.out 0).trans rfl
              have z1 : wz.cell? ⟨w.heap.size + 2, 1, none⟩ = some (.slice B1 m1 d1) := (blk_cell Z2.out 1).trans rfl
              have z2 : wz.cell? ⟨w.heap.size + 2, 2, none⟩ = some (.slice B2 m2 d2) := (blk_cell Z2.out 2).trans rfl
              have z3 : wz.cell? ⟨w.heap.size + 2, 3, none⟩ = some (.int .i64 rb) := (blk_cell Z2.out 3).trans rfl
              have zl : w.heap.size + 2 < wz.heap.size := blk_lt Z2.out
              go_wp2_with fail
              have HB := Lh ((Below.refl (wz.heap.size) wz).drew)
              have FF := Lh (show ∀ V, Hid (Below (wz.heap.size) wz V) → V.cell? ⟨w.heap.size, 0, none⟩ = some (.slice A0 n0 c0) ∧ V.cell? ⟨w.heap.size, 1, none⟩ = some (.slice A1 n1 c1) ∧ V.cell? ⟨w.heap.size, 2, none⟩ = some (.slice A2 n2 c2) ∧ V.cell? ⟨w.heap.size, 3, none⟩ = some (.int .i64 ra) ∧ V.cell? ⟨w.heap.size + 1, 0, none⟩ = some (.int .i64 yx) ∧ V.cell? ⟨w.heap.size + 1, 1, none⟩ = some (.int .i64 yy) ∧ V.cell? ⟨w.heap.size + 1, 2, none⟩ = some (.int .i64 yz) ∧ V.cell? ⟨w.heap.size + 2, 0, none⟩ = some (.slice B0 m0 d0) ∧ V.cell? ⟨w.heap.size + 2, 1, none⟩ = some (.slice B1 m1 d1) ∧ V.cell? ⟨w.heap.size + 2, 2, none⟩ = some (.slice B2 m2 d2) ∧ V.cell? ⟨w.heap.size + 2, 3, none⟩ = some (.int .i64 rb) from fun V HB => ⟨(HB.out.cell (p := ⟨w.heap.size, 0, none⟩) (xl)).trans x0, (HB.out.cell (p := ⟨w.heap.size, 1, none⟩) (xl)).trans x1, (HB.out.cell (p := ⟨w.heap.size, 2, none⟩) (xl)).trans x2, (HB.out.cell (p := ⟨w.heap.size, 3, none⟩) (xl)).trans x3, (HB.out.cell (p := ⟨w.heap.size + 1, 0, none⟩) (yl)).trans y0, (HB.out.cell (p := ⟨w.heap.size + 1, 1, none⟩) (yl)).trans y1, (HB.out.cell (p := ⟨w.heap.size + 1, 2, none⟩) (yl)).trans y2, (HB.out.cell (p := ⟨w.heap.size + 2, 0, none⟩) (zl)).trans z0, (HB.out.cell (p := ⟨w.heap.size + 2, 1, none⟩) (zl)).trans z1, (HB.out.cell (p := ⟨w.heap.size + 2, 2, none⟩) (zl)).trans z2, (HB.out.cell (p := ⟨w.heap.size + 2, 3, none⟩) (zl)).trans z3⟩)
              refine start_ (n := 13) (S := fun w' => w'.cell? ⟨w.heap.size, 0, none⟩ = some (.slice A0 n0 c0) ∧ w'.cell? ⟨w.heap.size, 1, none⟩ = some (.slice A1 n1 c1) ∧ w'.cell? ⟨w.heap.size, 2, none⟩ = some (.slice A2 n2 c2) ∧ w'.cell? ⟨w.heap.size, 3, none⟩ = some (.int .i64 ra) ∧ w'.cell? ⟨w.heap.size + 1, 0, none⟩ = some (.int .i64 yx) ∧ w'.cell? ⟨w.heap.size + 1, 1, none⟩ = some (.int .i64 yy) ∧ w'.cell? ⟨w.heap.size + 1, 2, none⟩ = some (.int .i64 yz) ∧ w'.cell? ⟨w.heap.size + 2, 0, none⟩ = some (.slice B0 m0 d0) ∧ w'.cell? ⟨w.heap.size + 2, 1, none⟩ = some (.slice B1 m1 d1) ∧ w'.cell? ⟨w.heap.size + 2, 2, none⟩ = some (.slice B2 m2 d2) ∧ w'.cell? ⟨w.heap.size + 2, 3, none⟩ = some (.int .i64 rb)) (ds := []) (MT 0 13) (by kernel_rfl) rfl rfl (FF.out _ HB) (fun hHeld => ?_)
              obtain ⟨wd, hwd⟩ : ∃ x, wz.drew = x := ⟨_, rfl⟩
              rw [hwd] at HB hHeld ⊢
              clear hwd
              refine pu_ 2 59 (h := ?_)
              refine pu_ 3 60 (h := ?_)
              refine ta_ 0 57 hHeld (h := ?_)
              refine ta_ 1 58 hHeld (h := ?_)
              refine ta_ 5 62 hHeld (h := ?_)
              refine join_ (σ := Nat × Value) 2 (MT 11 2) (fun s => [(15, .pointer (some ⟨s.1, 0, none⟩)), (61, s.2), (63, .tuple #[.agg #[.int .i64 Yx, .int .i64 Yy, .int .i64 Yz, .int .i64 Yg], .bool Yo]), (56, .tuple #[.agg #[.int .i64 Yx, .int .i64 Yy, .int .i64 Yz, .int .i64 Yg], .bool Yo]), (64, .agg #[.int .i64 Yx, .int .i64 Yy, .int .i64 Yz, .int .i64 Yg]), (65, .bool Yo)]) (fun (s : Nat × Value) w' => match s with | (s1, s2) => wz.heap.size ≤ s1 ∧ w'.heap[s1]? = some (.cells #[.int .i64 0, .int .i64 0, .int .i64 0, .int .i64 0] 40 (0, 0)) ∧ Below (wz.heap.size) wz w' ∧ CrV w' s2 TT) ?_ ?_
              rotate_left
              · intro hCont
                refine two_ (i := 4) (j := 10) (Ni := some 61) (Nj := some 15) (MT 6 7) #[true, true, true, true, false, true, false, false, false, false, true, false, false] rfl rfl rfl rfl (by kernel_rfl) (by decide) (by decide) (fun K hK => ?_) (fun K hK => ?_)
                · skip
                  refine gs_ Try.func38 #[.agg #[.slice A0 n0 c0, .slice A1 n1 c1, .slice A2 n2 c2, .int .i64 ra], aP ⟨yx, yy, yz⟩, .int .i64 (wrap64 ((k : Int) + 1))] ?_
                  with_reducible refine (HTT.out _ (HVA.out.below (bthen ZB.out HB.out))).mono ?_
                  rintro en w7 ⟨u7, rfl, hv, hb⟩
                  have HB := Lh (HB.out.trans (hb.mono HB.out.size))
                  have HV := Lh hv
                  clear hv
                  clear hb
                  refine ⟨_, rfl, ?_⟩
                  refine hK.out _ _ (FF.out _ HB) (fun hHeld => ?_)
                  clear hK K
                  refine no_ (h := ?_)
                  refine two_ (i := 6) (j := 10) (Ni := some 63) (Nj := some 15) (MT 7 6) #[true, true, true, true, true, true, false, false, false, false, true, false, false] rfl rfl rfl rfl (by kernel_rfl) (by decide) (by decide) (fun K hK => ?_) (fun K hK => ?_)
                  · skip
                    refine gs_ Try.func25 #[u7, .agg #[.slice B0 m0 d0, .slice B1 m1 d1, .slice B2 m2 d2, .int .i64 rb]] ?_
                    with_reducible refine (HAP.out _ _ HV.out (HVB.out.below (bthen ZB.out HB.out))).mono ?_
                    rintro en w7 ⟨rfl, hb⟩
                    have HB := Lh (HB.out.trans (hb.mono HB.out.size))
                    have HV := Lh (HV.out.below hb)
                    clear hb
                    refine ⟨_, rfl, ?_⟩
                    refine hK.out _ _ (FF.out _ HB) (fun hHeld => ?_)
                    clear hK K
                    refine no_ (h := ?_)
                    refine pu_ 7 56 (h := ?_)
                    refine pu_ 8 64 (h := ?_)
                    refine pu_ 9 65 (h := ?_)
                    refine on_ 10 (some 15) (h := fun K hK => ?_)
                    refine value_ (w1 := ?_) (v := ?_) (by rfl) rfl ?_ ?_
                    rotate_left 2
                    · go_simp
                      constructor
                      · rfl
                      · rfl
                    have HA := Lh (ha_new HB.out (.cells #[.int .i64 0, .int .i64 0, .int .i64 0, .int .i64 0] 40))
                    have hge := HB.out.size
                    have HB := Lh (HB.out.alloc (Nat.le_trans (Nat.le_refl _) HB.out.size) (.cells #[.int .i64 0, .int .i64 0, .int .i64 0, .int .i64 0] 40))
                    have HV := Lh (HV.out.below ((Below.refl _ _).alloc (Nat.le_refl _) (.cells #[.int .i64 0, .int .i64 0, .int .i64 0, .int .i64 0] 40)))
                    refine hK.out _ _ (FF.out _ HB) (fun hHeld => ?_)
                    clear hK K
                    refine no_ (h := ?_)
                    exact norm_ (by simp only [putAll, Act.put, List.setIfInBounds_toArray, List.set_cons_zero, List.set_cons_succ]) (hCont (_, _) _ ⟨hge, HA.out, HB.out, HV.out⟩)
                  · skip
                    refine value_ (w1 := ?_) (v := ?_) (by rfl) rfl ?_ ?_
                    rotate_left 2
                    · go_simp
                      constructor
                      · rfl
                      · rfl
                    have HA := Lh (ha_new HB.out (.cells #[.int .i64 0, .int .i64 0, .int .i64 0, .int .i64 0] 40))
                    have hge := HB.out.size
                    have HB := Lh (HB.out.alloc (Nat.le_trans (Nat.le_refl _) HB.out.size) (.cells #[.int .i64 0, .int .i64 0, .int .i64 0, .int .i64 0] 40))
                    have HV := Lh (HV.out.below ((Below.refl _ _).alloc (Nat.le_refl _) (.cells #[.int .i64 0, .int .i64 0, .int .i64 0, .int .i64 0] 40)))
                    refine hK.out _ _ (FF.out _ HB) (fun hHeld => ?_)
                    clear hK K
                    refine no_ (h := ?_)
                    refine on_ 6 (some 63) (h := fun K hK => ?_)
                    refine gs_ Try.func25 #[u7, .agg #[.slice B0 m0 d0, .slice B1 m1 d1, .slice B2 m2 d2, .int .i64 rb]] ?_
                    with_reducible refine (HAP.out _ _ HV.out (HVB.out.below (bthen ZB.out HB.out))).mono ?_
                    rintro en w7 ⟨rfl, hb⟩
                    have HB := Lh (HB.out.trans (hb.mono HB.out.size))
                    have HA := Lh ((hb.block _ (blk_lt HA.out)).trans HA.out)
                    have HV := Lh (HV.out.below hb)
                    clear hb
                    refine ⟨_, rfl, ?_⟩
                    refine hK.out _ _ (FF.out _ HB) (fun hHeld => ?_)
                    clear hK K
                    refine no_ (h := ?_)
                    refine pu_ 7 56 (h := ?_)
                    refine pu_ 8 64 (h := ?_)
                    refine pu_ 9 65 (h := ?_)
                    exact norm_ (by simp only [putAll, Act.put, List.setIfInBounds_toArray, List.set_cons_zero, List.set_cons_succ]) (hCont (_, _) _ ⟨hge, HA.out, HB.out, HV.out⟩)
                · skip
                  refine value_ (w1 := ?_) (v := ?_) (by rfl) rfl ?_ ?_
                  rotate_left 2
                  · go_simp
                    constructor
                    · rfl
                    · rfl
                  have HA := Lh (ha_new HB.out (.cells #[.int .i64 0, .int .i64 0, .int .i64 0, .int .i64 0] 40))
                  have hge := HB.out.size
                  have HB := Lh (HB.out.alloc (Nat.le_trans (Nat.le_refl _) HB.out.size) (.cells #[.int .i64 0, .int .i64 0, .int .i64 0, .int .i64 0] 40))
                  refine hK.out _ _ (FF.out _ HB) (fun hHeld => ?_)
                  clear hK K
                  refine no_ (h := ?_)
                  refine on_ 4 (some 61) (h := fun K hK => ?_)
                  refine gs_ Try.func38 #[.agg #[.slice A0 n0 c0, .slice A1 n1 c1, .slice A2 n2 c2, .int .i64 ra], aP ⟨yx, yy, yz⟩, .int .i64 (wrap64 ((k : Int) + 1))] ?_
                  with_reducible refine (HTT.out _ (HVA.out.below (bthen ZB.out HB.out))).mono ?_
                  rintro en w7 ⟨u7, rfl, hv, hb⟩
                  have HB := Lh (HB.out.trans (hb.mono HB.out.size))
                  have HA := Lh ((hb.block _ (blk_lt HA.out)).trans HA.out)
                  have HV := Lh hv
                  clear hv
                  clear hb
                  refine ⟨_, rfl, ?_⟩
                  refine hK.out _ _ (FF.out _ HB) (fun hHeld => ?_)
                  clear hK K
                  refine no_ (h := ?_)
                  refine on_ 6 (some 63) (h := fun K hK => ?_)
                  refine gs_ Try.func25 #[u7, .agg #[.slice B0 m0 d0, .slice B1 m1 d1, .slice B2 m2 d2, .int .i64 rb]] ?_
                  with_reducible refine (HAP.out _ _ HV.out (HVB.out.below (bthen ZB.out HB.out))).mono ?_
                  rintro en w7 ⟨rfl, hb⟩
                  have HB := Lh (HB.out.trans (hb.mono HB.out.size))
                  have HA := Lh ((hb.block _ (blk_lt HA.out)).trans HA.out)
                  have HV := Lh (HV.out.below hb)
                  clear hb
                  refine ⟨_, rfl, ?_⟩
                  refine hK.out _ _ (FF.out _ HB) (fun hHeld => ?_)
                  clear hK K
                  refine no_ (h := ?_)
                  refine pu_ 7 56 (h := ?_)
                  refine pu_ 8 64 (h := ?_)
                  refine pu_ 9 65 (h := ?_)
                  exact norm_ (by simp only [putAll, Act.put, List.setIfInBounds_toArray, List.set_cons_zero, List.set_cons_succ]) (hCont (_, _) _ ⟨hge, HA.out, HB.out, HV.out⟩)
              rintro ⟨AB, V⟩ wj ⟨hge, HA, HB, HV⟩
              have HA := Lh HA
              have HB := Lh HB
              (try simp only at hge HA HB HV)
              have HV := Lh HV
              have hHeld := FF.out _ HB
              refine no_ (h := ?_)
              refine on_ 11 (none) (h := fun K hK => ?_)
              have sc0 : World.cell? _ ⟨AB, 0, none⟩ = some (.int .i64 0) := (blk_cell HA.out 0).trans rfl
              have sf0 := blk_frozen HA.out 0
              have sc1 : World.cell? _ ⟨AB, 1, none⟩ = some (.int .i64 0) := (blk_cell HA.out 1).trans rfl
              have sf1 := blk_frozen HA.out 1
              have sc2 : World.cell? _ ⟨AB, 2, none⟩ = some (.int .i64 0) := (blk_cell HA.out 2).trans rfl
              have sf2 := blk_frozen HA.out 2
              have sc3 : World.cell? _ ⟨AB, 3, none⟩ = some (.int .i64 0) := (blk_cell HA.out 3).trans rfl
              have sf3 := blk_frozen HA.out 3
              refine skip_ (w1 := ?_) (by rfl) rfl ?_ ?_
              rotate_left
              · go_simp
                rfl
              have HA := Lh (bs4 HA.out (.int .i64 Yx) (.int .i64 Yy) (.int .i64 Yz) (.int .i64 Yg))
              have HB := Lh (bb4 HB.out (Nat.le_trans (Nat.le_refl _) hge) (.int .i64 Yx) (.int .i64 Yy) (.int .i64 Yz) (.int .i64 Yg))
              clear sc0 sf0 sc1 sf1 sc2 sf2 sc3 sf3
              refine hK.out _ _ (FF.out _ HB) (fun hHeld => ?_)
              clear hK K
              refine pu_ 12 16 (h := ?_)
              refine done_ (by kernel_rfl) ?_
              obtain ⟨w8, hwn⟩ : ∃ V, ((((wj.setCell ⟨AB, 0, none⟩ (.int .i64 Yx)).setCell ⟨AB, 1, none⟩ (.int .i64 Yy)).setCell ⟨AB, 2, none⟩ (.int .i64 Yz)).setCell ⟨AB, 3, none⟩ (.int .i64 Yg)) = V := ⟨_, rfl⟩
              rw [hwn] at HA HB ⊢
              clear hwn
              replace Z0 := Lh ((HB.out.block _ (blk_lt Z0.out)).trans Z0.out)
              replace Z3 := Lh ((HB.out.block _ (blk_lt Z3.out)).trans Z3.out)
              replace HX := Lh ((HB.out.block _ (blk_lt HX.out)).trans HX.out)
              replace ZB := Lh (bthen ZB.out HB.out)
              replace hB := Lh (hB.out.trans (HB.out.mono (show XB ≤ wz.heap.size by omega)))
              have HY := HA
              have hYX : Hid (XB < AB) := Lh (Nat.lt_of_lt_of_le pl hge)
              clear HB hge HV hHeld HTT HAP x0 x1 x2 x3 xl y0 y1 y2 yl z0 z1 z2 z3 zl pl HA e2
              have q3 : w8.cell? ⟨AB, 3, none⟩ = some (.int .i64 Yg) := (blk_cell HY.out 3).trans rfl
              have ql : AB < w8.heap.size := blk_lt HY.out
              by_cases t3 : Yg < 0
              · have e3 : decide (Yg < 0) = true := decide_eq_true t3
                have HRES := Lh (show CF = (((k : Nat), ((⟨Px, Py, Pz⟩, Pg) : P3 × Int)), true) from by rw [HYU.out, ← hC.out, HS.out _ rfl t3])
                clear HYU HGO HSTOP HNEG HZ HA2 HT HM
                go_wp2_with fail
                have HB := Lh ((Below.refl w8.heap.size w8).drew)
                have FF := Lh (show ∀ V, Hid (Below w8.heap.size w8 V) → V.cell? ⟨XB, 0, none⟩ = some (.int .i64 Px) ∧ V.cell? ⟨XB, 1, none⟩ = some (.int .i64 Py) ∧ V.cell? ⟨XB, 2, none⟩ = some (.int .i64 Pz) ∧ V.cell? ⟨XB, 3, none⟩ = some (.int .i64 Pg) from fun V HB => have e := (HB.out.block _ (blk_lt HX.out)).trans HX.out; ⟨(blk_cell e 0).trans rfl, (blk_cell e 1).trans rfl, (blk_cell e 2).trans rfl, (blk_cell e 3).trans rfl⟩)
                refine start_ (n := 5) (S := fun w' => w'.cell? ⟨XB, 0, none⟩ = some (.int .i64 Px) ∧ w'.cell? ⟨XB, 1, none⟩ = some (.int .i64 Py) ∧ w'.cell? ⟨XB, 2, none⟩ = some (.int .i64 Pz) ∧ w'.cell? ⟨XB, 3, none⟩ = some (.int .i64 Pg)) (ds := [3]) (MT 0 5) (by kernel_rfl) rfl rfl (FF.out _ HB) (fun hHeld => ?_)
                obtain ⟨wd, hwd⟩ : ∃ x, w8.drew = x := ⟨_, rfl⟩
                rw [hwd] at HB hHeld ⊢
                clear hwd
                refine pu_ 0 69 (h := ?_)
                refine pu_ 2 6 (h := ?_)
                refine ta_ 1 70 hHeld (h := ?_)
                refine last_ (i := 3) (N := none) (MT 4 1) rfl rfl (by kernel_rfl) (by decide) (fun K hK => ?_)
                have R4 := (HB.out.block _ (blk_lt Z3.out)).trans Z3.out
                have sc0 : World.cell? _ ⟨w.heap.size + 3, 0, none⟩ = some (.int .i64 0) := (blk_cell R4 0).trans rfl
                have sf0 : World.frozen? _ ⟨w.heap.size + 3, 0, none⟩ = false := blk_frozen R4 0
                have sc1 : World.cell? _ ⟨w.heap.size + 3, 1, none⟩ = some (.int .i64 0) := (blk_cell R4 1).trans rfl
                have sf1 : World.frozen? _ ⟨w.heap.size + 3, 1, none⟩ = false := blk_frozen R4 1
                have sc2 : World.cell? _ ⟨w.heap.size + 3, 2, none⟩ = some (.int .i64 0) := (blk_cell R4 2).trans rfl
                have sf2 : World.frozen? _ ⟨w.heap.size + 3, 2, none⟩ = false := blk_frozen R4 2
                have sc3 : World.cell? _ ⟨w.heap.size + 3, 3, none⟩ = some (.int .i64 0) := (blk_cell R4 3).trans rfl
                have sf3 : World.frozen? _ ⟨w.heap.size + 3, 3, none⟩ = false := blk_frozen R4 3
                refine skip_ (w1 := ?_) (by rfl) rfl ?_ ?_
                rotate_left
                · go_simp
                  rfl
                refine hK.out _ _ ?_
                clear hK K
                refine pu_ 4 8 (h := ?_)
                refine done_ (by kernel_rfl) ?_
                have DST := bs4 R4 (.int .i64 Px) (.int .i64 Py) (.int .i64 Pz) (.int .i64 Pg)
                have HBX := bb4 (HB.out.mono (show w.heap.size ≤ w8.heap.size from ZB.out.size)) (show w.heap.size ≤ w.heap.size + 3 by omega) (.int .i64 Px) (.int .i64 Py) (.int .i64 Pz) (.int .i64 Pg)
                obtain ⟨w99, hV⟩ : ∃ V, ((((wd.setCell ⟨w.heap.size + 3, 0, none⟩ (.int .i64 Px)).setCell ⟨w.heap.size + 3, 1, none⟩ (.int .i64 Py)).setCell ⟨w.heap.size + 3, 2, none⟩ (.int .i64 Pz)).setCell ⟨w.heap.size + 3, 3, none⟩ (.int .i64 Pg)) = V := ⟨_, rfl⟩
                rw [hV] at DST HBX 
                (try rw [hV])
                have hVV := Lh hV
                have DST := Lh DST
                have HBX := Lh HBX
                clear hV hHeld HB FF R4 sc0 sf0 sc1 sf1 sc2 sf2 sc3 sf3 
                have t0 : w99.cell? ⟨w.heap.size + 1 + 1 + 1, 0, none⟩ = some (.int .i64 Px) := (blk_cell DST.out 0).trans rfl
                have t1 : w99.cell? ⟨w.heap.size + 1 + 1 + 1, 1, none⟩ = some (.int .i64 Py) := (blk_cell DST.out 1).trans rfl
                have t2 : w99.cell? ⟨w.heap.size + 1 + 1 + 1, 2, none⟩ = some (.int .i64 Pz) := (blk_cell DST.out 2).trans rfl
                have t3 : w99.cell? ⟨w.heap.size + 1 + 1 + 1, 3, none⟩ = some (.int .i64 Pg) := (blk_cell DST.out 3).trans rfl
                go_wp2
                (try rw [hVV.out])
                exact bodyPost_ret (v := .tuple #[.int .i64 (k : Int), .agg #[.int .i64 Px, .int .i64 Py, .int .i64 Pz, .int .i64 Pg], .bool true]) (by simp [results, Try.results39, go_sem, t0, t1, t2, t3]) rfl ⟨by rw [HRES.out] <;> rfl, ZB.out.trans HBX.out⟩
              · have e3 : decide (Yg < 0) = false := decide_eq_false t3
                have HG2 := Lh (HG.out _ hP.out rfl (by omega))
                have HP2 := Lh (show (0 : Int) ≤ Yg by omega)
                have q0 : w8.cell? ⟨AB, 0, none⟩ = some (.int .i64 Yx) := (blk_cell HY.out 0).trans rfl
                have q1 : w8.cell? ⟨AB, 1, none⟩ = some (.int .i64 Yy) := (blk_cell HY.out 1).trans rfl
                have q2 : w8.cell? ⟨AB, 2, none⟩ = some (.int .i64 Yz) := (blk_cell HY.out 2).trans rfl
                have p0 : w8.cell? ⟨XB, 0, none⟩ = some (.int .i64 Px) := (blk_cell HX.out 0).trans rfl
                have p1 : w8.cell? ⟨XB, 1, none⟩ = some (.int .i64 Py) := (blk_cell HX.out 1).trans rfl
                have p2 : w8.cell? ⟨XB, 2, none⟩ = some (.int .i64 Pz) := (blk_cell HX.out 2).trans rfl
                have p3 : w8.cell? ⟨XB, 3, none⟩ = some (.int .i64 Pg) := (blk_cell HX.out 3).trans rfl
                have f0 := blk_frozen HX.out 0
                have f1 := blk_frozen HX.out 1
                have f2 := blk_frozen HX.out 2
                have f3 := blk_frozen HX.out 3
                have hNE : AB ≠ XB := Nat.ne_of_gt hYX.out
                have hNX : XB ≠ AB := Nat.ne_of_lt hYX.out
                clear t3
                go_wp2
                go_roundw
                case rel => exact ⟨k + 1, (⟨Yx, Yy, Yz⟩, Yg), by omega, by go_num, HP2, Lh (by rw [← HE.out.2, ← HG2.out]; exact hC.out), Lh (bs4 HX.out (.int .i64 Yx) (.int .i64 Yy) (.int .i64 Yz) (.int .i64 Yg)), Lh (bb4 hB.out (Nat.le_refl _) (.int .i64 Yx) (.int .i64 Yy) (.int .i64 Yz) (.int .i64 Yg))⟩
                case measure => simp [intOf]; omega
            · have e2 : decide ((k : Int) < 16) = false := decide_eq_false t2
              obtain rfl : k = 16 := by omega
              clear t2
              have HRES := Lh (show CF = (((16 : Nat), ((⟨Px, Py, Pz⟩, Pg) : P3 × Int)), true) from by rw [HYU.out, ← hC.out]; exact congrArg (fun t => (t, true)) (HZ.out 16 _))
              clear HYU HGO HSTOP HNEG HZ HA2 HT HM
              go_wp2_with fail
              have HB := Lh ((Below.refl wz.heap.size wz).drew)
              have FF := Lh (show ∀ V, Hid (Below wz.heap.size wz V) → V.cell? ⟨XB, 0, none⟩ = some (.int .i64 Px) ∧ V.cell? ⟨XB, 1, none⟩ = some (.int .i64 Py) ∧ V.cell? ⟨XB, 2, none⟩ = some (.int .i64 Pz) ∧ V.cell? ⟨XB, 3, none⟩ = some (.int .i64 Pg) from fun V HB => have e := (HB.out.block _ (blk_lt HX.out)).trans HX.out; ⟨(blk_cell e 0).trans rfl, (blk_cell e 1).trans rfl, (blk_cell e 2).trans rfl, (blk_cell e 3).trans rfl⟩)
              refine start_ (n := 5) (S := fun w' => w'.cell? ⟨XB, 0, none⟩ = some (.int .i64 Px) ∧ w'.cell? ⟨XB, 1, none⟩ = some (.int .i64 Py) ∧ w'.cell? ⟨XB, 2, none⟩ = some (.int .i64 Pz) ∧ w'.cell? ⟨XB, 3, none⟩ = some (.int .i64 Pg)) (ds := [3]) (MT 0 5) (by kernel_rfl) rfl rfl (FF.out _ HB) (fun hHeld => ?_)
              obtain ⟨wd, hwd⟩ : ∃ x, wz.drew = x := ⟨_, rfl⟩
              rw [hwd] at HB hHeld ⊢
              clear hwd
              refine pu_ 0 74 (h := ?_)
              refine pu_ 2 6 (h := ?_)
              refine ta_ 1 75 hHeld (h := ?_)
              refine last_ (i := 3) (N := none) (MT 4 1) rfl rfl (by kernel_rfl) (by decide) (fun K hK => ?_)
              have R4 := (HB.out.block _ (blk_lt Z3.out)).trans Z3.out
              have sc0 : World.cell? _ ⟨w.heap.size + 3, 0, none⟩ = some (.int .i64 0) := (blk_cell R4 0).trans rfl
              have sf0 : World.frozen? _ ⟨w.heap.size + 3, 0, none⟩ = false := blk_frozen R4 0
              have sc1 : World.cell? _ ⟨w.heap.size + 3, 1, none⟩ = some (.int .i64 0) := (blk_cell R4 1).trans rfl
              have sf1 : World.frozen? _ ⟨w.heap.size + 3, 1, none⟩ = false := blk_frozen R4 1
              have sc2 : World.cell? _ ⟨w.heap.size + 3, 2, none⟩ = some (.int .i64 0) := (blk_cell R4 2).trans rfl
              have sf2 : World.frozen? _ ⟨w.heap.size + 3, 2, none⟩ = false := blk_frozen R4 2
              have sc3 : World.cell? _ ⟨w.heap.size + 3, 3, none⟩ = some (.int .i64 0) := (blk_cell R4 3).trans rfl
              have sf3 : World.frozen? _ ⟨w.heap.size + 3, 3, none⟩ = false := blk_frozen R4 3
              refine skip_ (w1 := ?_) (by rfl) rfl ?_ ?_
              rotate_left
              · go_simp
                rfl
              refine hK.out _ _ ?_
              clear hK K
              refine pu_ 4 8 (h := ?_)
              refine done_ (by kernel_rfl) ?_
              have DST := bs4 R4 (.int .i64 Px) (.int .i64 Py) (.int .i64 Pz) (.int .i64 Pg)
              have HBX := bb4 (HB.out.mono (show w.heap.size ≤ wz.heap.size from ZB.out.size)) (show w.heap.size ≤ w.heap.size + 3 by omega) (.int .i64 Px) (.int .i64 Py) (.int .i64 Pz) (.int .i64 Pg)
              obtain ⟨w99, hV⟩ : ∃ V, ((((wd.setCell ⟨w.heap.size + 3, 0, none⟩ (.int .i64 Px)).setCell ⟨w.heap.size + 3, 1, none⟩ (.int .i64 Py)).setCell ⟨w.heap.size + 3, 2, none⟩ (.int .i64 Pz)).setCell ⟨w.heap.size + 3, 3, none⟩ (.int .i64 Pg)) = V := ⟨_, rfl⟩
              rw [hV] at DST HBX 
              (try rw [hV])
              have hVV := Lh hV
              have DST := Lh DST
              have HBX := Lh HBX
              clear hV hHeld HB FF R4 sc0 sf0 sc1 sf1 sc2 sf2 sc3 sf3 
              have t0 : w99.cell? ⟨w.heap.size + 1 + 1 + 1, 0, none⟩ = some (.int .i64 Px) := (blk_cell DST.out 0).trans rfl
              have t1 : w99.cell? ⟨w.heap.size + 1 + 1 + 1, 1, none⟩ = some (.int .i64 Py) := (blk_cell DST.out 1).trans rfl
              have t2 : w99.cell? ⟨w.heap.size + 1 + 1 + 1, 2, none⟩ = some (.int .i64 Pz) := (blk_cell DST.out 2).trans rfl
              have t3 : w99.cell? ⟨w.heap.size + 1 + 1 + 1, 3, none⟩ = some (.int .i64 Pg) := (blk_cell DST.out 3).trans rfl
              go_wp2
              (try rw [hVV.out])
              exact bodyPost_ret (v := .tuple #[.int .i64 ((16 : Nat) : Int), .agg #[.int .i64 Px, .int .i64 Py, .int .i64 Pz, .int .i64 Pg], .bool true]) (by simp [results, Try.results39, go_sem, t0, t1, t2, t3]) rfl ⟨by rw [HRES.out] <;> rfl, ZB.out.trans HBX.out⟩
end Go.Proofs.Ytckdhahceelckaa.G
namespace Go.Proofs.Ytckdhahceelckaa.G
open Go.RowKit Go.Proofs.YtckdhahceelckaaW.PrintWords Go.Proofs.YtckdhahceelckaaW.PrintLast Go.Proofs.YtckdhahceelckaaW.PrintMore
attribute [local go_sem] max2_mx min2_mn max_two min_two max_three min_three max_four min_four
attribute [local go_sem high] eqA23 eqA40
set_option linter.unusedVariables false
set_option linter.unusedSimpArgs false
set_option maxHeartbeats 8000000 in
set_option maxRecDepth 100000 in
theorem rray_calls (x y : P3) (l : List Cr) (A : Option Addr) (n c : Nat) (w : World) (hl : RdC w A l) (hlb : ∀ d ∈ l, CrB d) (hn : l.length = n) (hnb : n ≤ 140737488355328) :
    Calls Try.prog 45 #[aP x, aP y, .slice A n c] w (RayR (rayF x y l) w) := by
  have HLB := Lh hlb
  have HNO := Lh (fun (h : mayF [x] [] [] 0 = false ∨ wayOk y = false) => show rayF x y l = ((-1, 0), false) from if_neg (by
    unfold smay Cr.may
    rcases h with h | h
    · simp only at h ⊢; rw [h]; simp
    · rw [h]; simp))
  have HYS := Lh (fun (h : mayF [x] [] [] 0 = true) (h2 : wayOk y = true) => show rayF x y l = (if (leastF 0 (askR ⟨[x], [], [], 0⟩ y l) (fun a b => decide (a < b)) n).1 < 0 then ((-1, 16), false) else (leastF 0 (askR ⟨[x], [], [], 0⟩ y l) (fun a b => decide (a < b)) n, true)) from by
    rw [← hn]
    exact if_pos (by unfold smay Cr.may; simp only; rw [h, h2]; rfl))
  have HM := Lh (fun (W : World) (v : Value) (h : CrV W v ⟨[x], [], [], 0⟩) => rmay_calls h (by simp) (by simp) (by simp))
  have HW := Lh (fun (W : World) => rway_calls y W)
  (try simp only at HM)
  have HTK := Lh (fun i (h : i < l.length) => show leastF 0 (askR ⟨[x], [], [], 0⟩ y l) (fun a b => decide (a < b)) (i + 1) = if (rayAsk ⟨[x], [], [], 0⟩ y l[i]).2 = true ∧ ((leastF 0 (askR ⟨[x], [], [], 0⟩ y l) (fun a b => decide (a < b)) i).1 < 0 ∨ decide ((rayAsk ⟨[x], [], [], 0⟩ y l[i]).1 < (leastF 0 (askR ⟨[x], [], [], 0⟩ y l) (fun a b => decide (a < b)) i).2) = true) then ((i : Int), (rayAsk ⟨[x], [], [], 0⟩ y l[i]).1) else leastF 0 (askR ⟨[x], [], [], 0⟩ y l) (fun a b => decide (a < b)) i by
    rw [leastF, askR_get _ _ _ i h])
  have HBD := Lh (fun i => leastF_bd 0 (askR ⟨[x], [], [], 0⟩ y l) (fun a b => decide (a < b)) i)
  obtain ⟨F, hF⟩ : ∃ f : Nat → Int × Nat, leastF 0 (askR ⟨[x], [], [], 0⟩ y l) (fun a b => decide (a < b)) = f := ⟨_, rfl⟩
  have HF0 : Hid (F 0 = (-1, 0)) := Lh (by rw [← hF]; rfl)
  simp only [hF] at HYS HTK HBD
  obtain ⟨RF, hRF⟩ : ∃ R, rayF x y l = R := ⟨_, rfl⟩
  rw [hRF] at HNO HYS ⊢
  obtain ⟨M1, hM1⟩ : ∃ R, mayF [x] [] [] 0 = R := ⟨_, rfl⟩
  obtain ⟨M2, hM2⟩ : ∃ R, wayOk y = R := ⟨_, rfl⟩
  rw [hM1] at HNO HYS HM
  rw [hM2] at HNO HYS HW
  have HN := Lh hn
  have HL := Lh hl
  obtain ⟨xx, xy, xz⟩ := x
  obtain ⟨yx, yy, yz⟩ := y
  (try simp only at HW)
  clear hF hRF hM1 hM2 hn hl hlb
  have b4 := ((((Below.refl _ w).alloc (Nat.le_refl _) (.cells #[.int .i64 xx, .int .i64 xy, .int .i64 xz] 23)).alloc (by simp) (.cells #[.int .i64 yx, .int .i64 yy, .int .i64 yz] 23)).alloc (by simp <;> omega) (.cells #[.int .i64 xx, .int .i64 xy, .int .i64 xz] 23)).alloc (by simp <;> omega) (.cells #[.slice (some ⟨w.heap.size + 1 + 1, 0, none⟩) 1 1, .slice none 0 0, .slice none 0 0, .int .i64 0] 36)
  have g1 := heap_alloc_new (w.alloc (.cells #[.int .i64 xx, .int .i64 xy, .int .i64 xz] 23)) (.cells #[.int .i64 yx, .int .i64 yy, .int .i64 yz] 23)
  have g2 := heap_alloc_new ((w.alloc (.cells #[.int .i64 xx, .int .i64 xy, .int .i64 xz] 23)).alloc (.cells #[.int .i64 yx, .int .i64 yy, .int .i64 yz] 23)) (.cells #[.int .i64 xx, .int .i64 xy, .int .i64 xz] 23)
  have g3 := heap_alloc_new (((w.alloc (.cells #[.int .i64 xx, .int .i64 xy, .int .i64 xz] 23)).alloc (.cells #[.int .i64 yx, .int .i64 yy, .int .i64 yz] 23)).alloc (.cells #[.int .i64 xx, .int .i64 xy, .int .i64 xz] 23)) (.cells #[.slice (some ⟨w.heap.size + 1 + 1, 0, none⟩) 1 1, .slice none 0 0, .slice none 0 0, .int .i64 0] 36)
  simp only [World.size_alloc] at g1 g2 g3
  have g1 := (Below.heap_alloc _ (.cells #[.slice (some ⟨w.heap.size + 1 + 1, 0, none⟩) 1 1, .slice none 0 0, .slice none 0 0, .int .i64 0] 36) _ (by simp <;> omega)).trans ((Below.heap_alloc _ (.cells #[.int .i64 xx, .int .i64 xy, .int .i64 xz] 23) _ (by simp)).trans g1)
  have g2 := (Below.heap_alloc _ (.cells #[.slice (some ⟨w.heap.size + 1 + 1, 0, none⟩) 1 1, .slice none 0 0, .slice none 0 0, .int .i64 0] 36) _ (by simp)).trans g2
  go_enter Try.func45, Try.ntmps45
  go_wp2_with fail
  obtain ⟨w1, hw1⟩ : ∃ V, (((w.alloc (.cells #[.int .i64 xx, .int .i64 xy, .int .i64 xz] 23)).alloc (.cells #[.int .i64 yx, .int .i64 yy, .int .i64 yz] 23)).alloc (.cells #[.int .i64 xx, .int .i64 xy, .int .i64 xz] 23)).alloc (.cells #[.slice (some ⟨w.heap.size + 1 + 1, 0, none⟩) 1 1, .slice none 0 0, .slice none 0 0, .int .i64 0] 36) = V := ⟨_, rfl⟩
  rw [hw1] at g1 g2 g3 b4 ⊢
  clear hw1
  have HV := Lh (show CrV w1 (.agg #[.slice (some ⟨w.heap.size + 1 + 1, 0, none⟩) 1 1, .slice none 0 0, .slice none 0 0, .int .i64 0]) ⟨[⟨xx, xy, xz⟩], [], [], 0⟩ from ball_core w1 _ xx xy xz 0 1 (Nat.le_refl _) g2)
  have HB := Lh b4
  with_reducible refine (HM.out w1 _ HV.out).mono ?_
  rintro en w1b ⟨rfl, hb⟩
  have G1 := Lh ((hb.block _ (blk_lt g1)).trans g1)
  have G3 := Lh ((hb.block _ (blk_lt g3)).trans g3)
  replace HV := Lh (HV.out.below hb)
  replace HB := Lh (bthen HB.out hb)
  clear hb g1 g2 g3 b4 HM
  have y0 : w1b.cell? ⟨w.heap.size + 1, 0, none⟩ = some (.int .i64 yx) := (blk_cell G1.out 0).trans rfl
  have y1 : w1b.cell? ⟨w.heap.size + 1, 1, none⟩ = some (.int .i64 yy) := (blk_cell G1.out 1).trans rfl
  have y2 : w1b.cell? ⟨w.heap.size + 1, 2, none⟩ = some (.int .i64 yz) := (blk_cell G1.out 2).trans rfl
  have yl : w.heap.size + 1 < w1b.heap.size := blk_lt G1.out
  go_wp2_with fail
  with_reducible refine (HW.out _).mono ?_
  rintro en w2 ⟨rfl, hb⟩
  replace G1 := Lh ((hb.block _ (blk_lt G1.out)).trans G1.out)
  replace G3 := Lh ((hb.block _ (blk_lt G3.out)).trans G3.out)
  replace HV := Lh (HV.out.below hb)
  replace HB := Lh (bthen HB.out hb)
  clear hb HW y0 y1 y2 yl
  cases M1 with
  | false =>
    have HR := Lh (HNO.out (.inl rfl))
    go_wp2
    exact bodyPost_ret (v := .tuple #[.int .i64 (-1), .int .i64 0, .bool false]) (by simp [results, Try.results45, go_sem]) rfl ⟨by rw [HR.out]; rfl, HB.out⟩
  | true =>
  cases M2 with
  | false =>
    have HR := Lh (HNO.out (.inr rfl))
    go_wp2
    exact bodyPost_ret (v := .tuple #[.int .i64 (-1), .int .i64 0, .bool false]) (by simp [results, Try.results45, go_sem]) rfl ⟨by rw [HR.out]; rfl, HB.out⟩
  | true =>
  have HR := Lh (HYS.out rfl rfl)
  replace HL := Lh (HL.out.below HB.out)
  have W := HB
  clear HNO HYS HB
  go_wp2_with fail
  go_loopw [12, 13, 14, 15, 16, 17] (fun v12 v13 v14 v15 v16 v17 wr => ∃ (i : Nat) (at_ : Int) (be br : Nat), i ≤ n ∧ v14 = .int .i64 i ∧ v12 = .int .i64 at_ ∧ v13 = .int .i64 (br : Int) ∧ Hid (F i = (at_, be)) ∧ Hid (at_ < 0 → br = 16) ∧ Hid (0 ≤ at_ → br = be) ∧ Hid (Below w2.heap.size w2 wr)) (fun _ _ i _ _ _ _ => n - (intOf i).toNat)
  case atStart => exact ⟨0, -1, 0, 16, by omega, rfl, rfl, rfl, HF0, Lh (fun _ => rfl), Lh (fun h => absurd h (by decide)), Lh (Below.refl _ _)⟩
  case round =>
    obtain ⟨i, at_, be, br, hi, rfl, rfl, rfl, hFi, hb0, hb1, hB⟩ := hrel
    obtain ⟨wq, hwq⟩ : ∃ x : World, x = wr := ⟨_, rfl⟩
    subst hwq
    by_cases hlt : i < n
    · have hil : i < l.length := by rw [HN.out]; exact hlt
      have HLB := HLB.out _ (List.getElem_mem hil)
      obtain ⟨eb, eo, E0, E1_, E2_, m0, m1, m2, g0, g1, g2, rfl, el, e0, e1, e2, e3, hE⟩ := (HL.out.below hB.out).get i hil
      have HTI := Lh (HTK.out i hil)
      obtain ⟨d, hd⟩ : ∃ d, l[i] = d := ⟨_, rfl⟩
      rw [hd] at hE e3 HTI HLB
      obtain ⟨rd, hrd⟩ : ∃ r, d.r = r := ⟨_, rfl⟩
      rw [hrd] at hE e3
      have HE := Lh hE
      have HCA := Lh (fun (W : World) (h1 : CrV W (.agg #[.slice (some ⟨w.heap.size + 1 + 1, 0, none⟩) 1 1, .slice none 0 0, .slice none 0 0, .int .i64 0]) ⟨[⟨xx, xy, xz⟩], [], [], 0⟩) (h2 : CrV W (.agg #[.slice E0 m0 g0, .slice E1_ m1 g1, .slice E2_ m2 g2, .int .i64 rd]) d) => rcast_calls h1 h2 ⟨yx, yy, yz⟩ (by simp) (by unfold CrB at HLB; exact HLB))
      have HASK : Hid (rayAsk ⟨[⟨xx, xy, xz⟩], [], [], 0⟩ ⟨yx, yy, yz⟩ d = ((castF ⟨[⟨xx, xy, xz⟩], [], [], 0⟩ ⟨yx, yy, yz⟩ d).1.1, (castF ⟨[⟨xx, xy, xz⟩], [], [], 0⟩ ⟨yx, yy, yz⟩ d).2 && (decide ((castF ⟨[⟨xx, xy, xz⟩], [], [], 0⟩ ⟨yx, yy, yz⟩ d).1.1 < 16) || decide ((castF ⟨[⟨xx, xy, xz⟩], [], [], 0⟩ ⟨yx, yy, yz⟩ d).1.2.2 < 0)))) := Lh rfl
      rw [HASK.out, hFi.out] at HTI
      obtain ⟨R, hR⟩ : ∃ R, castF ⟨[⟨xx, xy, xz⟩], [], [], 0⟩ ⟨yx, yy, yz⟩ d = R := ⟨_, rfl⟩
      rw [hR] at HCA HTI
      obtain ⟨⟨k, ⟨Xx, Xy, Xz⟩, Xg⟩, Xo⟩ := R
      (try simp only at HCA)
      (try simp only at HTI)
      have ti : (i : Int) < (n : Int) := by omega
      have G1q := Lh ((hB.out.block _ (blk_lt G1.out)).trans G1.out)
      have G3q := Lh ((hB.out.block _ (blk_lt G3.out)).trans G3.out)
      have x0 : wq.cell? ⟨w.heap.size + 1 + 1 + 1, 0, none⟩ = some (.slice (some ⟨w.heap.size + 1 + 1, 0, none⟩) 1 1) := (blk_cell G3q.out 0).trans rfl
      have x1 : wq.cell? ⟨w.heap.size + 1 + 1 + 1, 1, none⟩ = some (.slice none 0 0) := (blk_cell G3q.out 1).trans rfl
      have x2 : wq.cell? ⟨w.heap.size + 1 + 1 + 1, 2, none⟩ = some (.slice none 0 0) := (blk_cell G3q.out 2).trans rfl
      have x3 : wq.cell? ⟨w.heap.size + 1 + 1 + 1, 3, none⟩ = some (.int .i64 0) := (blk_cell G3q.out 3).trans rfl
      have xl : w.heap.size + 1 + 1 + 1 < wq.heap.size := blk_lt G3q.out
      have y0 : wq.cell? ⟨w.heap.size + 1, 0, none⟩ = some (.int .i64 yx) := (blk_cell G1q.out 0).trans rfl
      have y1 : wq.cell? ⟨w.heap.size + 1, 1, none⟩ = some (.int .i64 yy) := (blk_cell G1q.out 1).trans rfl
      have y2 : wq.cell? ⟨w.heap.size + 1, 2, none⟩ = some (.int .i64 yz) := (blk_cell G1q.out 2).trans rfl
      have yl : w.heap.size + 1 < wq.heap.size := blk_lt G1q.out
      clear hE hR hd hrd hil HASK HLB
      go_wp2_with fail
      have HB := Lh ((Below.refl (wq.heap.size) wq).drew)
      have FF := Lh (show ∀ V, Hid (Below (wq.heap.size) wq V) → V.cell? ⟨w.heap.size + 1 + 1 + 1, 0, none⟩ = some (.slice (some ⟨w.heap.size + 1 + 1, 0, none⟩) 1 1) ∧ V.cell? ⟨w.heap.size + 1 + 1 + 1, 1, none⟩ = some (.slice none 0 0) ∧ V.cell? ⟨w.heap.size + 1 + 1 + 1, 2, none⟩ = some (.slice none 0 0) ∧ V.cell? ⟨w.heap.size + 1 + 1 + 1, 3, none⟩ = some (.int .i64 0) ∧ V.cell? ⟨w.heap.size + 1, 0, none⟩ = some (.int .i64 yx) ∧ V.cell? ⟨w.heap.size + 1, 1, none⟩ = some (.int .i64 yy) ∧ V.cell? ⟨w.heap.size + 1, 2, none⟩ = some (.int .i64 yz) ∧ V.cell? ⟨eb, eo + i * 4, none⟩ = some (.slice E0 m0 g0) ∧ V.cell? ⟨eb, eo + i * 4 + 1, none⟩ = some (.slice E1_ m1 g1) ∧ V.cell? ⟨eb, eo + i * 4 + 2, none⟩ = some (.slice E2_ m2 g2) ∧ V.cell? ⟨eb, eo + i * 4 + 3, none⟩ = some (.int .i64 rd) from fun V HB => ⟨(HB.out.cell (p := ⟨w.heap.size + 1 + 1 + 1, 0, none⟩) (xl)).trans x0, (HB.out.cell (p := ⟨w.heap.size + 1 + 1 + 1, 1, none⟩) (xl)).trans x1, (HB.out.cell (p := ⟨w.heap.size + 1 + 1 + 1, 2, none⟩) (xl)).trans x2, (HB.out.cell (p := ⟨w.heap.size + 1 + 1 + 1, 3, none⟩) (xl)).trans x3, (HB.out.cell (p := ⟨w.heap.size + 1, 0, none⟩) (yl)).trans y0, (HB.out.cell (p := ⟨w.heap.size + 1, 1, none⟩) (yl)).trans y1, (HB.out.cell (p := ⟨w.heap.size + 1, 2, none⟩) (yl)).trans y2, (HB.out.cell (p := ⟨eb, eo + i * 4, none⟩) (el)).trans e0, (HB.out.cell (p := ⟨eb, eo + i * 4 + 1, none⟩) (el)).trans e1, (HB.out.cell (p := ⟨eb, eo + i * 4 + 2, none⟩) (el)).trans e2, (HB.out.cell (p := ⟨eb, eo + i * 4 + 3, none⟩) (el)).trans e3⟩)
      refine start_ (n := 15) (S := fun w' => w'.cell? ⟨w.heap.size + 1 + 1 + 1, 0, none⟩ = some (.slice (some ⟨w.heap.size + 1 + 1, 0, none⟩) 1 1) ∧ w'.cell? ⟨w.heap.size + 1 + 1 + 1, 1, none⟩ = some (.slice none 0 0) ∧ w'.cell? ⟨w.heap.size + 1 + 1 + 1, 2, none⟩ = some (.slice none 0 0) ∧ w'.cell? ⟨w.heap.size + 1 + 1 + 1, 3, none⟩ = some (.int .i64 0) ∧ w'.cell? ⟨w.heap.size + 1, 0, none⟩ = some (.int .i64 yx) ∧ w'.cell? ⟨w.heap.size + 1, 1, none⟩ = some (.int .i64 yy) ∧ w'.cell? ⟨w.heap.size + 1, 2, none⟩ = some (.int .i64 yz) ∧ w'.cell? ⟨eb, eo + i * 4, none⟩ = some (.slice E0 m0 g0) ∧ w'.cell? ⟨eb, eo + i * 4 + 1, none⟩ = some (.slice E1_ m1 g1) ∧ w'.cell? ⟨eb, eo + i * 4 + 2, none⟩ = some (.slice E2_ m2 g2) ∧ w'.cell? ⟨eb, eo + i * 4 + 3, none⟩ = some (.int .i64 rd)) (ds := []) (MT 0 15) (by kernel_rfl) rfl rfl (FF.out _ HB) (fun hHeld => ?_)
      obtain ⟨wd, hwd⟩ : ∃ x, wq.drew = x := ⟨_, rfl⟩
      rw [hwd] at HB hHeld ⊢
      clear hwd
      refine pu_ 2 40 (h := ?_)
      refine pu_ 3 41 (h := ?_)
      refine pu_ 4 42 (h := ?_)
      refine ta_ 0 38 hHeld (h := ?_)
      refine ta_ 1 39 hHeld (h := ?_)
      refine ta_ 5 43 hHeld (h := ?_)
      refine join_ (σ := Nat) 3 (MT 12 3) (fun s => [(16, .pointer (some ⟨s, 0, none⟩)), (44, .tuple #[.int .i64 (k : Int), .agg #[.int .i64 Xx, .int .i64 Xy, .int .i64 Xz, .int .i64 Xg], .bool Xo]), (37, .tuple #[.int .i64 (k : Int), .agg #[.int .i64 Xx, .int .i64 Xy, .int .i64 Xz, .int .i64 Xg], .bool Xo]), (45, .int .i64 (k : Int)), (46, .agg #[.int .i64 Xx, .int .i64 Xy, .int .i64 Xz, .int .i64 Xg]), (47, .bool Xo)]) (fun s w' => wq.heap.size ≤ s ∧ w'.heap[s]? = some (.cells #[.int .i64 0, .int .i64 0, .int .i64 0, .int .i64 0] 40 (0, 0)) ∧ Below (wq.heap.size) wq w') ?_ ?_
      rotate_left
      · intro hCont
        refine two_ (i := 6) (j := 11) (Ni := some 44) (Nj := some 16) (MT 7 8) #[true, true, true, true, true, true, false, false, false, false, false, true, false, false, false] rfl rfl rfl rfl (by kernel_rfl) (by decide) (by decide) (fun K hK => ?_) (fun K hK => ?_)
        · skip
          refine gs_ Try.func39 #[.agg #[.slice (some ⟨w.heap.size + 1 + 1, 0, none⟩) 1 1, .slice none 0 0, .slice none 0 0, .int .i64 0], aP ⟨yx, yy, yz⟩, .agg #[.slice E0 m0 g0, .slice E1_ m1 g1, .slice E2_ m2 g2, .int .i64 rd]] ?_
          with_reducible refine (HCA.out _ (HV.out.below (bthen hB.out HB.out)) (HE.out.below HB.out)).mono ?_
          rintro en w7 ⟨rfl, hb⟩
          have HB := Lh (HB.out.trans (hb.mono HB.out.size))
          clear hb
          refine ⟨_, rfl, ?_⟩
          refine hK.out _ _ (FF.out _ HB) (fun hHeld => ?_)
          clear hK K
          refine no_ (h := ?_)
          refine pu_ 7 37 (h := ?_)
          refine pu_ 8 45 (h := ?_)
          refine pu_ 9 46 (h := ?_)
          refine pu_ 10 47 (h := ?_)
          refine on_ 11 (some 16) (h := fun K hK => ?_)
          refine value_ (w1 := ?_) (v := ?_) (by rfl) rfl ?_ ?_
          rotate_left 2
          · go_simp
            constructor
            · rfl
            · rfl
          have HA := Lh (ha_new HB.out (.cells #[.int .i64 0, .int .i64 0, .int .i64 0, .int .i64 0] 40))
          have hge := HB.out.size
          have HB := Lh (HB.out.alloc (Nat.le_trans (Nat.le_refl _) HB.out.size) (.cells #[.int .i64 0, .int .i64 0, .int .i64 0, .int .i64 0] 40))
          refine hK.out _ _ (FF.out _ HB) (fun hHeld => ?_)
          clear hK K
          refine no_ (h := ?_)
          exact norm_ (by simp only [putAll, Act.put, List.setIfInBounds_toArray, List.set_cons_zero, List.set_cons_succ]) (hCont _ _ ⟨hge, HA.out, HB.out⟩)
        · skip
          refine value_ (w1 := ?_) (v := ?_) (by rfl) rfl ?_ ?_
          rotate_left 2
          · go_simp
            constructor
            · rfl
            · rfl
          have HA := Lh (ha_new HB.out (.cells #[.int .i64 0, .int .i64 0, .int .i64 0, .int .i64 0] 40))
          have hge := HB.out.size
          have HB := Lh (HB.out.alloc (Nat.le_trans (Nat.le_refl _) HB.out.size) (.cells #[.int .i64 0, .int .i64 0, .int .i64 0, .int .i64 0] 40))
          refine hK.out _ _ (FF.out _ HB) (fun hHeld => ?_)
          clear hK K
          refine no_ (h := ?_)
          refine on_ 6 (some 44) (h := fun K hK => ?_)
          refine gs_ Try.func39 #[.agg #[.slice (some ⟨w.heap.size + 1 + 1, 0, none⟩) 1 1, .slice none 0 0, .slice none 0 0, .int .i64 0], aP ⟨yx, yy, yz⟩, .agg #[.slice E0 m0 g0, .slice E1_ m1 g1, .slice E2_ m2 g2, .int .i64 rd]] ?_
          with_reducible refine (HCA.out _ (HV.out.below (bthen hB.out HB.out)) (HE.out.below HB.out)).mono ?_
          rintro en w7 ⟨rfl, hb⟩
          have HB := Lh (HB.out.trans (hb.mono HB.out.size))
          have HA := Lh ((hb.block _ (blk_lt HA.out)).trans HA.out)
          clear hb
          refine ⟨_, rfl, ?_⟩
          refine hK.out _ _ (FF.out _ HB) (fun hHeld => ?_)
          clear hK K
          refine no_ (h := ?_)
          refine pu_ 7 37 (h := ?_)
          refine pu_ 8 45 (h := ?_)
          refine pu_ 9 46 (h := ?_)
          refine pu_ 10 47 (h := ?_)
          exact norm_ (by simp only [putAll, Act.put, List.setIfInBounds_toArray, List.set_cons_zero, List.set_cons_succ]) (hCont _ _ ⟨hge, HA.out, HB.out⟩)
      rintro AB wj ⟨hge, HA, HB⟩
      have HA := Lh HA
      have HB := Lh HB
      have hHeld := FF.out _ HB
      refine no_ (h := ?_)
      refine pu_ 12 15 (h := ?_)
      refine on_ 13 (none) (h := fun K hK => ?_)
      have sc0 : World.cell? _ ⟨AB, 0, none⟩ = some (.int .i64 0) := (blk_cell HA.out 0).trans rfl
      have sf0 := blk_frozen HA.out 0
      have sc1 : World.cell? _ ⟨AB, 1, none⟩ = some (.int .i64 0) := (blk_cell HA.out 1).trans rfl
      have sf1 := blk_frozen HA.out 1
      have sc2 : World.cell? _ ⟨AB, 2, none⟩ = some (.int .i64 0) := (blk_cell HA.out 2).trans rfl
      have sf2 := blk_frozen HA.out 2
      have sc3 : World.cell? _ ⟨AB, 3, none⟩ = some (.int .i64 0) := (blk_cell HA.out 3).trans rfl
      have sf3 := blk_frozen HA.out 3
      refine skip_ (w1 := ?_) (by rfl) rfl ?_ ?_
      rotate_left
      · go_simp
        rfl
      have HA := Lh (bs4 HA.out (.int .i64 Xx) (.int .i64 Xy) (.int .i64 Xz) (.int .i64 Xg))
      have HB := Lh (bb4 HB.out (Nat.le_trans (Nat.le_refl _) hge) (.int .i64 Xx) (.int .i64 Xy) (.int .i64 Xz) (.int .i64 Xg))
      clear sc0 sf0 sc1 sf1 sc2 sf2 sc3 sf3
      refine hK.out _ _ (FF.out _ HB) (fun hHeld => ?_)
      clear hK K
      refine pu_ 14 17 (h := ?_)
      refine done_ (by kernel_rfl) ?_
      obtain ⟨w4, hwn⟩ : ∃ V, ((((wj.setCell ⟨AB, 0, none⟩ (.int .i64 Xx)).setCell ⟨AB, 1, none⟩ (.int .i64 Xy)).setCell ⟨AB, 2, none⟩ (.int .i64 Xz)).setCell ⟨AB, 3, none⟩ (.int .i64 Xg)) = V := ⟨_, rfl⟩
      rw [hwn] at HA HB ⊢
      clear hwn
      replace hB := Lh (bthen hB.out HB.out)
      have u3 : w4.cell? ⟨AB, 3, none⟩ = some (.int .i64 Xg) := (blk_cell HA.out 3).trans rfl
      have ul : AB < w4.heap.size := blk_lt HA.out
      clear HB hge hHeld HCA HE x0 x1 x2 x3 xl y0 y1 y2 yl e0 e1 e2 e3 HA
      cases Xo with
      | false =>
        have HTJ : Hid (F (i + 1) = (at_, be)) := Lh (by rw [HTI.out]; simp)
        clear HTI
        go_wp2
        go_roundw
        case rel => exact ⟨i + 1, at_, be, br, by omega, by go_num, rfl, rfl, HTJ, hb0, hb1, hB⟩
        case measure => simp [intOf]; omega
      | true =>
        by_cases t8 : k < 16
        · have d8 : decide ((k : Int) < 16) = true := decide_eq_true (by omega)
          by_cases t0 : at_ < 0
          · have d0 : decide (at_ < 0) = true := decide_eq_true t0
            have HTJ : Hid (F (i + 1) = ((i : Int), k)) := Lh (by rw [HTI.out]; simp [t0, t8])
            clear HTI t0
            go_wp2
            go_roundw
            case rel => exact ⟨i + 1, i, k, k, by omega, by go_num, rfl, rfl, HTJ, Lh (fun h => by omega), Lh (fun _ => rfl), hB⟩
            case measure => simp [intOf]; omega
          · have d0 : decide (at_ < 0) = false := decide_eq_false t0
            obtain rfl := hb1.out (by omega)
            by_cases t1 : k < br
            · have d1 : decide ((k : Int) < (br : Int)) = true := decide_eq_true (by omega)
              have HTJ : Hid (F (i + 1) = ((i : Int), k)) := Lh (by rw [HTI.out]; simp [t1, t8])
              clear HTI t0
              go_wp2
              go_roundw
              case rel => exact ⟨i + 1, i, k, k, by omega, by go_num, rfl, rfl, HTJ, Lh (fun h => by omega), Lh (fun _ => rfl), hB⟩
              case measure => simp [intOf]; omega
            · have d1 : decide ((k : Int) < (br : Int)) = false := decide_eq_false (by omega)
              have HTJ : Hid (F (i + 1) = (at_, br)) := Lh (by rw [HTI.out]; simp [t0, t1])
              clear HTI
              go_wp2
              go_roundw
              case rel => exact ⟨i + 1, at_, br, br, by omega, by go_num, rfl, rfl, HTJ, hb0, hb1, hB⟩
              case measure => simp [intOf]; omega
        · have d8 : decide ((k : Int) < 16) = false := decide_eq_false (by omega)
          by_cases t9 : Xg < 0
          · have d9 : decide (Xg < 0) = true := decide_eq_true t9
            by_cases t0 : at_ < 0
            · have d0 : decide (at_ < 0) = true := decide_eq_true t0
              have HTJ : Hid (F (i + 1) = ((i : Int), k)) := Lh (by rw [HTI.out]; simp [t0, t9])
              clear HTI t0
              go_wp2
              go_roundw
              case rel => exact ⟨i + 1, i, k, k, by omega, by go_num, rfl, rfl, HTJ, Lh (fun h => by omega), Lh (fun _ => rfl), hB⟩
              case measure => simp [intOf]; omega
            · have d0 : decide (at_ < 0) = false := decide_eq_false t0
              obtain rfl := hb1.out (by omega)
              by_cases t1 : k < br
              · have d1 : decide ((k : Int) < (br : Int)) = true := decide_eq_true (by omega)
                have HTJ : Hid (F (i + 1) = ((i : Int), k)) := Lh (by rw [HTI.out]; simp [t1, t9])
                clear HTI t0
                go_wp2
                go_roundw
                case rel => exact ⟨i + 1, i, k, k, by omega, by go_num, rfl, rfl, HTJ, Lh (fun h => by omega), Lh (fun _ => rfl), hB⟩
                case measure => simp [intOf]; omega
              · have d1 : decide ((k : Int) < (br : Int)) = false := decide_eq_false (by omega)
                have HTJ : Hid (F (i + 1) = (at_, br)) := Lh (by rw [HTI.out]; simp [t0, t1])
                clear HTI
                go_wp2
                go_roundw
                case rel => exact ⟨i + 1, at_, br, br, by omega, by go_num, rfl, rfl, HTJ, hb0, hb1, hB⟩
                case measure => simp [intOf]; omega
          · have d9 : decide (Xg < 0) = false := decide_eq_false t9
            have HTJ : Hid (F (i + 1) = (at_, be)) := Lh (by rw [HTI.out]; simp [t8, t9])
            clear HTI
            go_wp2
            go_roundw
            case rel => exact ⟨i + 1, at_, be, br, by omega, by go_num, rfl, rfl, HTJ, hb0, hb1, hB⟩
            case measure => simp [intOf]; omega
    · obtain rfl : n = i := by omega
      rw [hFi.out] at HR
      have W9 := Lh (bthen W.out hB.out)
      by_cases t0 : at_ < 0
      · have d0 : decide (0 ≤ at_) = false := decide_eq_false (by omega)
        have HR := Lh (HR.out.trans (if_pos t0))
        obtain rfl := hb0.out t0
        have hm1 : at_ = -1 := by have := HBD.out n; rw [hFi.out] at this; simp only at this; omega
        subst hm1
        clear t0
        go_wp2
        exact bodyPost_ret (v := .tuple #[.int .i64 (-1), .int .i64 16, .bool false]) (by simp [results, Try.results45, go_sem]) rfl ⟨by rw [HR.out]; rfl, W9.out⟩
      · have d0 : decide (0 ≤ at_) = true := decide_eq_true (by omega)
        have HR := Lh (HR.out.trans (if_neg t0))
        obtain rfl := hb1.out (by omega)
        clear t0
        go_wp2
        exact bodyPost_ret (v := .tuple #[.int .i64 at_, .int .i64 (br : Int), .bool true]) (by simp [results, Try.results45, go_sem]) rfl ⟨by rw [HR.out] <;> rfl, W9.out⟩
end Go.Proofs.Ytckdhahceelckaa.G
namespace Go.Proofs.Ytckdhahceelckaa.G
open Go.RowKit Go.Proofs.YtckdhahceelckaaW.PrintWords Go.Proofs.YtckdhahceelckaaW.PrintLast Go.Proofs.YtckdhahceelckaaW.PrintMore
attribute [local go_sem] max2_mx min2_mn max_two min_two max_three min_three max_four min_four
attribute [local go_sem high] eqA23 eqA40
set_option linter.unusedVariables false
set_option linter.unusedSimpArgs false
set_option maxHeartbeats 4000000 in
theorem numbers_calls (l : List Nat) (A B : Option Addr) (n c d : Nat) (w : World) (hA : RdNn w A l) (hB : RdNn w B l) (hn : l.length = n) (hnb : n ≤ 140737488355328) :
    Calls Try.prog 40 #[.slice A n c, .slice B n d] w fun e w' => e = .returned (.bool true) ∧ Below w.heap.size w w' := by
  have HN := Lh hn
  have HA := Lh hA
  have HB := Lh hB
  clear hA hB hn
  go_enter Try.func40, Try.ntmps40
  go_wp2_with fail
  go_loopw [5] (fun v5 wr => ∃ i : Nat, i ≤ n ∧ v5 = .int .i64 i ∧ Hid (Below w.heap.size w wr)) (fun i _ => n - (intOf i).toNat)
  case atStart => exact ⟨0, by omega, rfl, Lh (Below.refl _ _)⟩
  case round =>
    obtain ⟨i, hi, rfl, hb⟩ := hrel
    obtain ⟨wq, hwq⟩ : ∃ x : World, x = wr := ⟨_, rfl⟩
    subst hwq
    by_cases hlt : i < n
    · obtain ⟨x, hx⟩ : ∃ x, l[i]? = some x := ⟨l[i]'(by rw [HN.out]; exact hlt), List.getElem?_eq_getElem _⟩
      obtain ⟨a1, o1, rfl, la, e1⟩ := (HA.out.below hb.out) i x hx
      obtain ⟨a2, o2, rfl, lb, e2⟩ := (HB.out.below hb.out) i x hx
      have ti : (i : Int) < (n : Int) := by omega
      clear hx
      go_wp2_with fail
      go_quiet (fail)
      go_wp2
      go_roundw
      case rel => exact ⟨i + 1, by omega, by go_num, Lh (pw_below_drewN hb.out _)⟩
      case measure => simp [intOf]; omega
    · obtain rfl : n = i := by omega
      go_wp2
      go_ret
      exact ⟨rfl, hb.out⟩
set_option maxHeartbeats 4000000 in
theorem points76_calls (l : List P3) (A B : Option Addr) (n c d : Nat) (w : World) (hA : Rd w A l) (hB : Rd w B l) (hn : l.length = n) (hnb : n ≤ 140737488355328) :
    Calls Try.prog 76 #[.slice A n c, .slice B n d] w fun e w' => e = .returned (.bool true) ∧ Below w.heap.size w w' := by
  have HN := Lh hn
  have HA := Lh hA
  have HB := Lh hB
  clear hA hB hn
  go_enter Try.func76, Try.ntmps76
  go_wp2_with fail
  go_loopw [5] (fun v5 wr => ∃ i : Nat, i ≤ n ∧ v5 = .int .i64 i ∧ Hid (Below w.heap.size w wr)) (fun i _ => n - (intOf i).toNat)
  case atStart => exact ⟨0, by omega, rfl, Lh (Below.refl _ _)⟩
  case round =>
    obtain ⟨i, hi, rfl, hb⟩ := hrel
    obtain ⟨wq, hwq⟩ : ∃ x : World, x = wr := ⟨_, rfl⟩
    subst hwq
    by_cases hlt : i < n
    · have hil : i < l.length := by rw [HN.out]; exact hlt
      obtain ⟨a1, o1, rfl, la, e0, e1, e2⟩ := (HA.out.below hb.out).get i hil
      obtain ⟨a2, o2, rfl, lb, g0, g1, g2⟩ := (HB.out.below hb.out).get i hil
      obtain ⟨x, hx⟩ : ∃ x, l[i] = x := ⟨_, rfl⟩
      rw [hx] at e0 e1 e2 g0 g1 g2
      obtain ⟨xx, xy, xz⟩ := x
      simp only at e0 e1 e2 g0 g1 g2
      have heq : eqP xx xy xz xx xy xz = true := eqP_yes rfl
      have ti : (i : Int) < (n : Int) := by omega
      clear hx hil
      go_wp2_with fail
      go_quiet (fail)
      go_wp2
      go_roundw
      case rel => exact ⟨i + 1, by omega, by go_num, Lh (pw_below_drewN hb.out _)⟩
      case measure => simp [intOf]; omega
    · obtain rfl : n = i := by omega
      go_wp2
      go_ret
      exact ⟨rfl, hb.out⟩
set_option maxHeartbeats 4000000 in
/-- few: it says something; where it says yes, the list is short -/
theorem few_calls (l : List Cr) (A : Option Addr) (n c : Nat) (w : World) (hA : RdC w A l) (hn : l.length = n) (hnb : n ≤ 140737488355328) :
    Calls Try.prog 35 #[.slice A n c] w fun e w' => ∃ b, e = .returned (.bool b) ∧ (b = true → n ≤ 20) ∧ Below w.heap.size w w' := by
  have HN := Lh hn
  have HA := Lh hA
  clear hA hn
  by_cases h20 : 20 < n
  · have d20 : decide (20 < (n : Int)) = true := decide_eq_true (by omega)
    go_enter Try.func35, Try.ntmps35
    go_wp2
    go_ret
    exact ⟨false, rfl, (fun h => by cases h), Below.refl _ _⟩
  have d20 : decide (20 < (n : Int)) = false := decide_eq_false (by omega)
  go_enter Try.func35, Try.ntmps35
  go_wp2_with fail
  go_loopw [3] (fun v3 wr => ∃ i : Nat, i ≤ n ∧ v3 = .int .i64 i ∧ Hid (Below w.heap.size w wr)) (fun i _ => n - (intOf i).toNat)
  case atStart => exact ⟨0, by omega, rfl, Lh (Below.refl _ _)⟩
  case round =>
    obtain ⟨i, hi, rfl, hb⟩ := hrel
    obtain ⟨wq, hwq⟩ : ∃ x : World, x = wr := ⟨_, rfl⟩
    subst hwq
    by_cases hlt : i < n
    · have hil : i < l.length := by rw [HN.out]; exact hlt
      obtain ⟨b, o, A0, A1, A2, n0, n1, n2, c0, c1, c2, rfl, lb, e0, e1, e2, e3, hd⟩ := (HA.out.below hb.out).get i hil
      have ti : (i : Int) < (n : Int) := by omega
      clear hd e3 hil
      have out : ∀ b, (b = true → n ≤ 20) := fun _ _ => by omega
      by_cases t0 : 40 < n0
      · have d0 : decide (40 < (n0 : Int)) = true := decide_eq_true (by omega)
        go_wp2
        go_ret
        exact ⟨false, rfl, out _, hb.out⟩
      have d0 : decide (40 < (n0 : Int)) = false := decide_eq_false (by omega)
      by_cases t1 : 80 < n1
      · have d1 : decide (80 < (n1 : Int)) = true := decide_eq_true (by omega)
        go_wp2
        go_ret
        exact ⟨false, rfl, out _, hb.out⟩
      have d1 : decide (80 < (n1 : Int)) = false := decide_eq_false (by omega)
      by_cases t2 : 16 < n2
      · have d2 : decide (16 < (n2 : Int)) = true := decide_eq_true (by omega)
        go_wp2
        go_ret
        exact ⟨false, rfl, out _, hb.out⟩
      have d2 : decide (16 < (n2 : Int)) = false := decide_eq_false (by omega)
      go_wp2
      go_roundw
      case rel => exact ⟨i + 1, by omega, by go_num, hb⟩
      case measure => simp [intOf]; omega
    · obtain rfl : n = i := by omega
      go_wp2
      go_ret
      exact ⟨true, rfl, fun _ => by omega, hb.out⟩
set_option maxHeartbeats 4000000 in
/-- two values of one core -/
theorem cores36_calls {w : World} {va vb : Value} {c : Cr} (ha : CrV w va c) (hb : CrV w vb c) (hc : CrB c) : Calls Try.prog 36 #[va, vb] w fun e w' => e = .returned (.bool true) ∧ Below w.heap.size w w' := by
  unfold CrB at hc
  obtain ⟨A0, A1, A2, c0, c1, c2, rfl, p0, p1, p2, _⟩ := ha.out
  obtain ⟨B0, B1, B2, d0, d1, d2, rfl, q0, q1, q2, _⟩ := hb.out
  have H0 := Lh (fun (W : World) (hW : Below w.heap.size w W) => points76_calls c.p A0 B0 _ c0 d0 W (p0.1.below hW) (q0.1.below hW) rfl hc.1)
  have H1 := Lh (fun (W : World) (hW : Below w.heap.size w W) => points76_calls c.a A1 B1 _ c1 d1 W (p1.1.below hW) (q1.1.below hW) rfl hc.2.1)
  have H2 := Lh (fun (W : World) (hW : Below w.heap.size w W) => points76_calls c.e A2 B2 _ c2 d2 W (p2.1.below hW) (q2.1.below hW) rfl hc.2.2)
  obtain ⟨n0, hn0⟩ : ∃ n, c.p.length = n := ⟨_, rfl⟩
  obtain ⟨n1, hn1⟩ : ∃ n, c.a.length = n := ⟨_, rfl⟩
  obtain ⟨n2, hn2⟩ : ∃ n, c.e.length = n := ⟨_, rfl⟩
  obtain ⟨r, hr⟩ : ∃ n, c.r = n := ⟨_, rfl⟩
  rw [hn0] at H0
  rw [hn1] at H1
  rw [hn2] at H2
  rw [hn0, hn1, hn2, hr]
  clear hn0 hn1 hn2 hr p0 p1 p2 q0 q1 q2 ha hb hc
  have g0 := (Below.heap_alloc _ (.cells #[.slice B0 n0 d0, .slice B1 n1 d1, .slice B2 n2 d2, .int .i64 r] 36) _ (by simp)).trans (heap_alloc_new w (.cells #[.slice A0 n0 c0, .slice A1 n1 c1, .slice A2 n2 c2, .int .i64 r] 36))
  have g1 := heap_alloc_new (w.alloc (.cells #[.slice A0 n0 c0, .slice A1 n1 c1, .slice A2 n2 c2, .int .i64 r] 36)) (.cells #[.slice B0 n0 d0, .slice B1 n1 d1, .slice B2 n2 d2, .int .i64 r] 36)
  have gb := ((Below.refl _ w).alloc (Nat.le_refl _) (.cells #[.slice A0 n0 c0, .slice A1 n1 c1, .slice A2 n2 c2, .int .i64 r] 36)).alloc (by simp) (.cells #[.slice B0 n0 d0, .slice B1 n1 d1, .slice B2 n2 d2, .int .i64 r] 36)
  simp only [World.size_alloc] at g1
  go_enter Try.func36, Try.ntmps36
  go_wp2_with fail
  obtain ⟨w1, hw1⟩ : ∃ V, (w.alloc (.cells #[.slice A0 n0 c0, .slice A1 n1 c1, .slice A2 n2 c2, .int .i64 r] 36)).alloc (.cells #[.slice B0 n0 d0, .slice B1 n1 d1, .slice B2 n2 d2, .int .i64 r] 36) = V := ⟨_, rfl⟩
  (try rw [hw1] at g0 g1 gb ⊢)
  have Z0 := Lh g0
  have Z1 := Lh g1
  have W := Lh gb
  clear g0 g1 gb hw1
  have x0 : w1.cell? ⟨w.heap.size, 0, none⟩ = some (.slice A0 n0 c0) := (blk_cell Z0.out 0).trans rfl
  have x1 : w1.cell? ⟨w.heap.size, 1, none⟩ = some (.slice A1 n1 c1) := (blk_cell Z0.out 1).trans rfl
  have x2 : w1.cell? ⟨w.heap.size, 2, none⟩ = some (.slice A2 n2 c2) := (blk_cell Z0.out 2).trans rfl
  have x3 : w1.cell? ⟨w.heap.size, 3, none⟩ = some (.int .i64 r) := (blk_cell Z0.out 3).trans rfl
  have xl : w.heap.size < w1.heap.size := blk_lt Z0.out
  have y0 : w1.cell? ⟨w.heap.size + 1, 0, none⟩ = some (.slice B0 n0 d0) := (blk_cell Z1.out 0).trans rfl
  have y1 : w1.cell? ⟨w.heap.size + 1, 1, none⟩ = some (.slice B1 n1 d1) := (blk_cell Z1.out 1).trans rfl
  have y2 : w1.cell? ⟨w.heap.size + 1, 2, none⟩ = some (.slice B2 n2 d2) := (blk_cell Z1.out 2).trans rfl
  have y3 : w1.cell? ⟨w.heap.size + 1, 3, none⟩ = some (.int .i64 r) := (blk_cell Z1.out 3).trans rfl
  have yl : w.heap.size + 1 < w1.heap.size := blk_lt Z1.out
  go_wp2_with fail
  with_reducible refine (H0.out _ W.out).mono ?_
  rintro en w2 ⟨rfl, hb⟩
  replace Z0 := Lh ((hb.block _ (blk_lt Z0.out)).trans Z0.out)
  replace Z1 := Lh ((hb.block _ (blk_lt Z1.out)).trans Z1.out)
  replace W := Lh (bthen W.out hb)
  clear hb x0 x1 x2 x3 xl y0 y1 y2 y3 yl
  have x0 : w2.cell? ⟨w.heap.size, 0, none⟩ = some (.slice A0 n0 c0) := (blk_cell Z0.out 0).trans rfl
  have x1 : w2.cell? ⟨w.heap.size, 1, none⟩ = some (.slice A1 n1 c1) := (blk_cell Z0.out 1).trans rfl
  have x2 : w2.cell? ⟨w.heap.size, 2, none⟩ = some (.slice A2 n2 c2) := (blk_cell Z0.out 2).trans rfl
  have x3 : w2.cell? ⟨w.heap.size, 3, none⟩ = some (.int .i64 r) := (blk_cell Z0.out 3).trans rfl
  have xl : w.heap.size < w2.heap.size := blk_lt Z0.out
  have y0 : w2.cell? ⟨w.heap.size + 1, 0, none⟩ = some (.slice B0 n0 d0) := (blk_cell Z1.out 0).trans rfl
  have y1 : w2.cell? ⟨w.heap.size + 1, 1, none⟩ = some (.slice B1 n1 d1) := (blk_cell Z1.out 1).trans rfl
  have y2 : w2.cell? ⟨w.heap.size + 1, 2, none⟩ = some (.slice B2 n2 d2) := (blk_cell Z1.out 2).trans rfl
  have y3 : w2.cell? ⟨w.heap.size + 1, 3, none⟩ = some (.int .i64 r) := (blk_cell Z1.out 3).trans rfl
  have yl : w.heap.size + 1 < w2.heap.size := blk_lt Z1.out
  go_wp2_with fail
  with_reducible refine (H1.out _ W.out).mono ?_
  rintro en w3 ⟨rfl, hb⟩
  replace Z0 := Lh ((hb.block _ (blk_lt Z0.out)).trans Z0.out)
  replace Z1 := Lh ((hb.block _ (blk_lt Z1.out)).trans Z1.out)
  replace W := Lh (bthen W.out hb)
  clear hb x0 x1 x2 x3 xl y0 y1 y2 y3 yl
  have x0 : w3.cell? ⟨w.heap.size, 0, none⟩ = some (.slice A0 n0 c0) := (blk_cell Z0.out 0).trans rfl
  have x1 : w3.cell? ⟨w.heap.size, 1, none⟩ = some (.slice A1 n1 c1) := (blk_cell Z0.out 1).trans rfl
  have x2 : w3.cell? ⟨w.heap.size, 2, none⟩ = some (.slice A2 n2 c2) := (blk_cell Z0.out 2).trans rfl
  have x3 : w3.cell? ⟨w.heap.size, 3, none⟩ = some (.int .i64 r) := (blk_cell Z0.out 3).trans rfl
  have xl : w.heap.size < w3.heap.size := blk_lt Z0.out
  have y0 : w3.cell? ⟨w.heap.size + 1, 0, none⟩ = some (.slice B0 n0 d0) := (blk_cell Z1.out 0).trans rfl
  have y1 : w3.cell? ⟨w.heap.size + 1, 1, none⟩ = some (.slice B1 n1 d1) := (blk_cell Z1.out 1).trans rfl
  have y2 : w3.cell? ⟨w.heap.size + 1, 2, none⟩ = some (.slice B2 n2 d2) := (blk_cell Z1.out 2).trans rfl
  have y3 : w3.cell? ⟨w.heap.size + 1, 3, none⟩ = some (.int .i64 r) := (blk_cell Z1.out 3).trans rfl
  have yl : w.heap.size + 1 < w3.heap.size := blk_lt Z1.out
  go_wp2_with fail
  with_reducible refine (H2.out _ W.out).mono ?_
  rintro en w4 ⟨rfl, hb⟩
  replace Z0 := Lh ((hb.block _ (blk_lt Z0.out)).trans Z0.out)
  replace Z1 := Lh ((hb.block _ (blk_lt Z1.out)).trans Z1.out)
  replace W := Lh (bthen W.out hb)
  clear hb x0 x1 x2 x3 xl y0 y1 y2 y3 yl
  go_wp2
  go_ret
  exact ⟨rfl, W.out⟩
end Go.Proofs.Ytckdhahceelckaa.G
namespace Go.Proofs.Ytckdhahceelckaa.G
open Go.RowKit Go.Proofs.YtckdhahceelckaaW.PrintWords Go.Proofs.YtckdhahceelckaaW.PrintLast Go.Proofs.YtckdhahceelckaaW.PrintMore
attribute [local go_sem] max2_mx min2_mn max_two min_two max_three min_three max_four min_four
attribute [local go_sem high] eqA23 eqA40
set_option linter.unusedVariables false
set_option linter.unusedSimpArgs false
theorem info36 : (Try.prog.info? 36).map (fun i => (i.zero, i.size, i.bytes)) = some (some (.agg #[.slice none 0 0, .slice none 0 0, .slice none 0 0, .int .i64 0]), 4, 80) := by kernel_rfl
/-- a row of cells holds these cores -/
def RowC (w : World) (news : List Value) (l : List Cr) : Prop := ∀ i d, l[i]? = some d → ∃ A0 A1 A2 n0 n1 n2 c0 c1 c2, news[i * 4]? = some (.slice A0 n0 c0) ∧ news[i * 4 + 1]? = some (.slice A1 n1 c1) ∧ news[i * 4 + 2]? = some (.slice A2 n2 c2) ∧ news[i * 4 + 3]? = some (.int .i64 d.r) ∧ CrV w (.agg #[.slice A0 n0 c0, .slice A1 n1 c1, .slice A2 n2 c2, .int .i64 d.r]) d
theorem RdC.tail {w : World} {b o : Nat} {a : Cr} {l : List Cr} (h : RdC w (some ⟨b, o, none⟩) (a :: l)) : RdC w (some ⟨b, o + 4, none⟩) l := fun i d hd => by
  obtain ⟨b', o', A0, A1, A2, n0, n1, n2, c0, c1, c2, e, hlt, h0, h1, h2, h3, h4⟩ := h (i + 1) d (by simpa using hd)
  simp only [Option.some.injEq, Addr.mk.injEq, and_true] at e
  obtain ⟨rfl, rfl⟩ := e
  have ee : o + (i + 1) * 4 = o + 4 + i * 4 := by omega
  rw [ee] at h0 h1 h2 h3
  exact ⟨b, o + 4, A0, A1, A2, n0, n1, n2, c0, c1, c2, rfl, hlt, h0, h1, h2, h3, h4⟩
theorem RowC.cons {w : World} {news : List Value} {l : List Cr} {d : Cr} {A0 A1 A2 : Option Addr} {n0 n1 n2 c0 c1 c2 : Nat} (h : RowC w news l) (hd : CrV w (.agg #[.slice A0 n0 c0, .slice A1 n1 c1, .slice A2 n2 c2, .int .i64 d.r]) d) :
    RowC w ([.slice A0 n0 c0, .slice A1 n1 c1, .slice A2 n2 c2, .int .i64 d.r] ++ news) (d :: l) := fun i e he => by
  cases i with
  | zero =>
    simp only [List.getElem?_cons_zero, Option.some.injEq] at he
    subst he
    exact ⟨A0, A1, A2, n0, n1, n2, c0, c1, c2, rfl, rfl, rfl, rfl, hd⟩
  | succ i =>
    obtain ⟨B0, B1, B2, m0, m1, m2, d0, d1, d2, h0, h1, h2, h3, h4⟩ := h i e (by simpa using he)
    refine ⟨B0, B1, B2, m0, m1, m2, d0, d1, d2, ?_, ?_, ?_, ?_, h4⟩
    · rw [show (i + 1) * 4 = i * 4 + 4 from by omega]; exact h0
    · rw [show (i + 1) * 4 + 1 = i * 4 + 1 + 4 from by omega]; exact h1
    · rw [show (i + 1) * 4 + 2 = i * 4 + 2 + 4 from by omega]; exact h2
    · rw [show (i + 1) * 4 + 3 = i * 4 + 3 + 4 from by omega]; exact h3
theorem RdC.news {w : World} {b : Nat} : ∀ {l : List Cr} {o : Nat}, RdC w (some ⟨b, o, none⟩) l → ∃ news : List Value, news.length = l.length * 4 ∧ (∀ j u, news[j]? = some u → w.cell? ⟨b, o + j, none⟩ = some u) ∧ (∀ u ∈ news, u.oneCell' = true) ∧ RowC w news l
  | [], o, _ => ⟨[], rfl, fun j u hj => by simp at hj, fun u hu => by simp at hu, fun i d hd => by simp at hd⟩
  | d :: l, o, h => by
    obtain ⟨news, e1, e2, e3, e4⟩ := RdC.news h.tail
    obtain ⟨b', o', A0, A1, A2, n0, n1, n2, c0, c1, c2, e, hlt, h0, h1, h2, h3, h4⟩ := h 0 d rfl
    simp only [Option.some.injEq, Addr.mk.injEq, and_true] at e
    obtain ⟨rfl, rfl⟩ := e
    refine ⟨[.slice A0 n0 c0, .slice A1 n1 c1, .slice A2 n2 c2, .int .i64 d.r] ++ news, by simp [e1]; omega, fun j u hj => ?_, fun u hu => ?_, e4.cons h4⟩
    · match j with
      | 0 => simp at hj; subst hj; simpa using h0
      | 1 => simp at hj; subst hj; simpa using h1
      | 2 => simp at hj; subst hj; simpa using h2
      | 3 => simp at hj; subst hj; simpa using h3
      | j + 4 =>
        have := e2 j u (by simpa using hj)
        rwa [show o + 4 + j = o + (j + 4) from by omega] at this
    · rcases List.mem_append.1 hu with hu | hu
      · simp at hu
        rcases hu with rfl | rfl | rfl | rfl <;> rfl
      · exact e3 u hu
theorem RowC.below {w w1 : World} {news : List Value} {l : List Cr} (h : RowC w news l) (hb : Below w.heap.size w w1) : RowC w1 news l := fun i d hd => by
  obtain ⟨A0, A1, A2, n0, n1, n2, c0, c1, c2, h0, h1, h2, h3, h4⟩ := h i d hd
  exact ⟨A0, A1, A2, n0, n1, n2, c0, c1, c2, h0, h1, h2, h3, h4.below hb⟩
theorem RowC.rd {w : World} {news : List Value} {l : List Cr} {g : Nat} (h : RowC w news l) (hg : g < w.heap.size) (hc : ∀ j u, news[j]? = some u → w.cell? ⟨g, j, none⟩ = some u) : RdC w (some ⟨g, 0, none⟩) l := fun i d hd => by
  obtain ⟨A0, A1, A2, n0, n1, n2, c0, c1, c2, h0, h1, h2, h3, h4⟩ := h i d hd
  exact ⟨g, 0, A0, A1, A2, n0, n1, n2, c0, c1, c2, rfl, hg, by rw [Nat.zero_add]; exact hc _ _ h0, by rw [Nat.zero_add]; exact hc _ _ h1, by rw [Nat.zero_add]; exact hc _ _ h2, by rw [Nat.zero_add]; exact hc _ _ h3, h4⟩
set_option maxHeartbeats 2000000 in
set_option maxRecDepth 100000 in
theorem app_cores {W : World} (ty : TypeId) {d : Cr} {l : List Cr} {A : Option Addr} {n c : Nat} {A0 A1 A2 : Option Addr} {n0 n1 n2 c0 c1 c2 : Nat} (hd : CrV W (.agg #[.slice A0 n0 c0, .slice A1 n1 c1, .slice A2 n2 c2, .int .i64 d.r]) d) (hl : RdC W A l) (hn : l.length = n) (hb : n * 80 ≤ 140737488351232) (o : Obj) (ho : o = .cells #[.slice A0 n0 c0, .slice A1 n1 c1, .slice A2 n2 c2, .int .i64 d.r] 36) :
    ∃ A' c' w', (Builtin.append_ #[57, 57] ty #[.slice (some ⟨W.heap.size, 0, none⟩) 1 1, .slice A n c]).run Try.prog (W.alloc o) = .ok (.slice A' (n + 1) c') w' ∧ RdC w' A' (d :: l) ∧ Below W.heap.size W w' := by
  subst ho
  obtain ⟨i0, hi, hz0, hz1, hz2⟩ := info_parts info36
  have bz := (Below.refl _ W).alloc (Nat.le_refl _) (.cells #[.slice A0 n0 c0, .slice A1 n1 c1, .slice A2 n2 c2, .int .i64 d.r] 36)
  have hown := World.ownsRow_lit (base := W.heap.size) (e := 36) (size := 4) W #[.slice A0 n0 c0, .slice A1 n1 c1, .slice A2 n2 c2, .int .i64 d.r] 1 (Nat.le_refl _) (by unfold maxLen; omega) rfl
  obtain ⟨w, hw⟩ : ∃ V, W.alloc (.cells #[.slice A0 n0 c0, .slice A1 n1 c1, .slice A2 n2 c2, .int .i64 d.r] 36) = V := ⟨_, rfl⟩
  have hsz : W.heap.size < w.heap.size := by rw [← hw]; simp
  rw [hw] at bz hown ⊢
  have row0 : RowC W [.slice A0 n0 c0, .slice A1 n1 c1, .slice A2 n2 c2, .int .i64 d.r] [d] := by
    have := RowC.cons (news := []) (l := []) (w := W) (fun i e he => by simp at he) hd
    simpa using this
  cases A with
  | none =>
    have h0 : l = [] := by
      cases l with
      | nil => rfl
      | cons p l => obtain ⟨b, o', _, _, _, _, _, _, _, _, _, e, _⟩ := hl 0 p rfl; cases e
    subst h0
    simp only [List.length_nil] at hn
    subst hn
    refine ⟨some ⟨W.heap.size, 0, none⟩, 1, w, ?_, ?_, bz⟩
    · simp [Builtin.append_, run_underlying Try.underlying57, sizeOf, typeInfo, hi, Builtin.lenOf, Builtin.firstCells, storeCells]
    · exact (row0.below bz).rd hsz fun j u hj => by
        have := hown.cells (g := W.heap.size) rfl j u hj
        rwa [add_at, Nat.zero_add] at this
  | some ad =>
    obtain ⟨news, e1, e2, e3, e4⟩ : ∃ news : List Value, news.length = n * 4 ∧ (∀ j u, news[j]? = some u → w.cell? (ad.add j) = some u) ∧ (∀ u ∈ news, u.oneCell' = true) ∧ RowC W news l := by
      cases l with
      | nil =>
        simp only [List.length_nil] at hn
        subst hn
        exact ⟨[], rfl, fun j u hj => by simp at hj, fun u hu => by simp at hu, fun i d hd => by simp at hd⟩
      | cons p l =>
        obtain ⟨b, o', _, _, _, _, _, _, _, _, _, e, hlt, _⟩ := hl 0 p rfl
        simp only [Option.some.injEq] at e
        subst e
        obtain ⟨news, e1, e2, e3, e4⟩ := hl.news
        exact ⟨news, by rw [e1, hn], fun j u hj => by rw [add_at]; exact (bz.cell (p := ⟨b, o' + j, none⟩) hlt).trans (e2 j u hj), e3, e4⟩
    obtain ⟨v', w', h0, h1, h2, h3, h4⟩ := Go.run_append_own_at (P := Try.prog) w W.heap.size 57 ty 36 i0 _ 4 80 Try.underlying57 hi hz0 hz1 hz2 rfl (by omega) _ 1 _ hown ad n c news e1 e2 e3 (by unfold maxLen; omega) (by omega) (Nat.le_of_lt hsz)
    have hB : Below W.heap.size W w' := bz.grown h2 (Nat.le_of_lt hsz) (fun k hk => by
      simp only [Value.ownBlock, Option.some.injEq] at hk
      omega)
    have hcons := (e4.cons hd).below hB
    have h1' := h1
    rcases h1.2 with ⟨_, hz⟩ | ⟨g, cap, cur, rfl, _, hg, _⟩
    · omega
    · refine ⟨some ⟨g, 0, none⟩, cap, w', ?_, ?_, hB⟩
      · rw [h0, Nat.add_comm 1 n]
      · exact hcons.rd (Array.getElem?_eq_some_iff.1 hg).1 fun j u hj => by
          have := h1'.cells (g := g) rfl j u (by simpa using hj)
          rwa [add_at, Nat.zero_add] at this
end Go.Proofs.Ytckdhahceelckaa.G
