/- What the laws of this claim lean on: contracts of the functions that they reach, and plain lemmas; no condition of its own (part 3 of 6; the texts XR6, XR7, XR13, XR14, XR15, XV6, XV9, XM5, XW37, XG8, XG17, XV7, XG11, XG12, XG13, XG14, XG16, XV10, XV11, XV12, XV13, XV15, XV16, XV24). -/
import Derived.Test.YtckdhahceelckaaKCT2
namespace Go.Proofs.Ytckdhahceelckaa.G
open Go.RowKit Go.Proofs.YtckdhahceelckaaW.PrintWords Go.Proofs.YtckdhahceelckaaW.PrintLast Go.Proofs.YtckdhahceelckaaW.PrintMore
attribute [local go_sem] max2_mx min2_mn max_two min_two max_three min_three max_four min_four
attribute [local go_sem high] eqA23
set_option linter.unusedVariables false
set_option linter.unusedSimpArgs false
set_option maxHeartbeats 4000000 in
set_option maxRecDepth 100000 in
theorem may_F (p a e : List P3) (r : Int) (A0 A1 A2 : Option Addr) (c0 c1 c2 : Nat) (w : World) (h0 : Rd w A0 p) (h1 : Rd w A1 a) (h2 : Rd w A2 e) (k0 : p.length ≤ c0) (k1 : a.length ≤ c1) (k2 : e.length ≤ c2)
    (hp1 : 0 < p.length) (hp2 : p.length ≤ 32) (ha : a.length ≤ 128) (he : e.length ≤ 128) (hr1 : 0 ≤ r) (hr2 : r ≤ 65536) (hF : p.any (far3 16777216) = true) :
    Calls Try.prog 57 #[.agg #[.slice A0 p.length c0, .slice A1 a.length c1, .slice A2 e.length c2, .int .i64 r]] w fun e w' => e = .returned (.bool false) ∧ Below w.heap.size w w' := by
  have H0 := Lh h0
  have H1 := Lh h1
  have H2 := Lh h2
  have HF := Lh hF
  clear h0 h1 h2 hF 
  obtain ⟨np, hnp⟩ : ∃ n, p.length = n := ⟨_, rfl⟩
  obtain ⟨na, hna⟩ : ∃ n, a.length = n := ⟨_, rfl⟩
  obtain ⟨ne, hne⟩ : ∃ n, e.length = n := ⟨_, rfl⟩
  rw [hnp] at hp1 hp2 k0 ⊢
  rw [hna] at ha k1 ⊢
  rw [hne] at he k2 ⊢
  have HNP := Lh hnp
  have HNA := Lh hna
  have HNE := Lh hne
  clear hnp hna hne
  have t1 : decide ((0 : Int) < (np : Int)) = true := by simp; omega
  have t2 : decide ((np : Int) ≤ 32) = true := by simp; omega
  have t3 : decide (mx (na : Int) (ne : Int) ≤ 128) = true := by simp [mx]; split <;> omega
  have t4 : decide (0 ≤ r) = true := by simp; omega
  have t5 : decide (r ≤ 65536) = true := by simp; omega
  have z := heap_alloc_new w (.cells #[.slice A0 np c0, .slice A1 na c1, .slice A2 ne c2, .int .i64 r] 36)
  have zb := (Below.refl _ w).alloc (Nat.le_refl _) (.cells #[.slice A0 np c0, .slice A1 na c1, .slice A2 ne c2, .int .i64 r] 36)
  obtain ⟨w1, hw1⟩ : ∃ V, w.alloc (.cells #[.slice A0 np c0, .slice A1 na c1, .slice A2 ne c2, .int .i64 r] 36) = V := ⟨_, rfl⟩
  rw [hw1] at z zb
  have hw1' := Lh hw1
  have ZB := Lh zb
  have lt0 : w.heap.size < w1.heap.size := blk_lt z
  clear hw1 zb
  go_enter Try.func57, Try.ntmps57
  go_wp2
  rw [hw1'.out]
  clear hw1'
  have x0 : w1.cell? ⟨w.heap.size, 0, none⟩ = some (.slice A0 np c0) := (blk_cell z 0).trans rfl
  have x1 : w1.cell? ⟨w.heap.size, 1, none⟩ = some (.slice A1 na c1) := (blk_cell z 1).trans rfl
  have x2 : w1.cell? ⟨w.heap.size, 2, none⟩ = some (.slice A2 ne c2) := (blk_cell z 2).trans rfl
  have x3 : w1.cell? ⟨w.heap.size, 3, none⟩ = some (.int .i64 r) := (blk_cell z 3).trans rfl
  have HB := Lh ((Below.refl (w1.heap.size) w1).drew)
  have FF := Lh (show ∀ V, Hid (Below (w1.heap.size) w1 V) → V.cell? ⟨w.heap.size, 0, none⟩ = some (.slice A0 np c0) ∧ V.cell? ⟨w.heap.size, 1, none⟩ = some (.slice A1 na c1) ∧ V.cell? ⟨w.heap.size, 2, none⟩ = some (.slice A2 ne c2) ∧ V.cell? ⟨w.heap.size, 3, none⟩ = some (.int .i64 r) from fun V HB => ⟨(HB.out.cell (p := ⟨w.heap.size, 0, none⟩) (lt0)).trans x0, (HB.out.cell (p := ⟨w.heap.size, 1, none⟩) (lt0)).trans x1, (HB.out.cell (p := ⟨w.heap.size, 2, none⟩) (lt0)).trans x2, (HB.out.cell (p := ⟨w.heap.size, 3, none⟩) (lt0)).trans x3⟩)
  refine start_ (n := 52) (S := fun w' => w'.cell? ⟨w.heap.size, 0, none⟩ = some (.slice A0 np c0) ∧ w'.cell? ⟨w.heap.size, 1, none⟩ = some (.slice A1 na c1) ∧ w'.cell? ⟨w.heap.size, 2, none⟩ = some (.slice A2 ne c2) ∧ w'.cell? ⟨w.heap.size, 3, none⟩ = some (.int .i64 r)) (ds := []) (MT 0 52) (by kernel_rfl) rfl rfl (FF.out _ HB) (fun hHeld => ?_)
  obtain ⟨wd, hwd⟩ : ∃ x, w1.drew = x := ⟨_, rfl⟩
  rw [hwd] at HB hHeld ⊢
  clear hwd
  refine pu_ 0 3 (h := ?_)
  refine ta_ 1 4 hHeld (h := ?_)
  refine pu_ 2 5 (h := ?_)
  refine pu_ 3 6 (h := ?_)
  refine pu_ 4 7 (h := ?_)
  refine pu_ 5 8 (h := ?_)
  refine ta_ 6 9 hHeld (h := ?_)
  refine pu_ 7 10 (h := ?_)
  refine pu_ 8 11 (h := ?_)
  refine pu_ 9 12 (h := ?_)
  refine pu_ 10 13 (h := ?_)
  refine pu_ 11 14 (h := ?_)
  refine pu_ 14 17 (h := ?_)
  refine ta_ 12 15 hHeld (h := ?_)
  refine pu_ 13 16 (h := ?_)
  refine ta_ 15 18 hHeld (h := ?_)
  refine pu_ 16 19 (h := ?_)
  refine pu_ 17 20 (h := ?_)
  refine pu_ 18 21 (h := ?_)
  refine pu_ 19 22 (h := ?_)
  refine pu_ 20 23 (h := ?_)
  refine pu_ 21 24 (h := ?_)
  refine ta_ 22 25 hHeld (h := ?_)
  refine pu_ 23 26 (h := ?_)
  refine pu_ 24 27 (h := ?_)
  refine pu_ 25 28 (h := ?_)
  refine pu_ 26 29 (h := ?_)
  refine ta_ 27 30 hHeld (h := ?_)
  refine pu_ 28 31 (h := ?_)
  refine pu_ 29 32 (h := ?_)
  refine pu_ 30 33 (h := ?_)
  refine pu_ 31 34 (h := ?_)
  refine ta_ 32 35 hHeld (h := ?_)
  refine on_ 33 (some 36) (h := fun K hK => ?_)
  refine gs_ Try.func65 #[.int .i64 16777216] ?_
  with_reducible refine (beyondE_calls _ _).mono ?_
  rintro e' w2 ⟨g, rfl, kg_, hb⟩
  have HB := Lh (HB.out.trans (hb.mono HB.out.size))
  have HGc := Lh kg_
  clear kg_
  clear hb
  refine ⟨_, rfl, ?_⟩
  refine hK.out _ _ (FF.out _ HB) (fun hHeld => ?_)
  clear hK K
  refine no_ (h := ?_)
  refine on_ 34 (some 37) (h := fun K hK => ?_)
  refine gs_ Try.func68 #[.slice A0 np c0, .func (.func 121) #[] #[.pointer (some ⟨g, 0, none⟩)]] ?_
  with_reducible refine (contains_calls' p _ _ _ 16777216 _ true _ HNP.out HF.out (H0.out.below (bthen ZB.out HB.out)) k0 (by omega) HGc.out (by decide) (by decide)).mono ?_
  rintro e' w2 ⟨rfl, hb⟩
  have HB := Lh (HB.out.trans (hb.mono HB.out.size))
  clear HGc
  clear hb
  refine ⟨_, rfl, ?_⟩
  refine hK.out _ _ (FF.out _ HB) (fun hHeld => ?_)
  clear hK K
  refine no_ (h := ?_)
  refine pu_ 35 38 (h := ?_)
  refine pu_ 36 39 (h := ?_)
  refine pu_ 37 40 (h := ?_)
  refine of_ 38 41 (h := ?_)
  refine of_ 39 42 (h := ?_)
  refine of_ 40 43 (h := ?_)
  refine of_ 41 44 (h := ?_)
  refine of_ 42 45 (h := ?_)
  refine pu_ 43 46 (h := ?_)
  refine pu_ 44 47 (h := ?_)
  refine of_ 45 48 (h := ?_)
  refine of_ 46 49 (h := ?_)
  refine of_ 47 50 (h := ?_)
  refine of_ 48 51 (h := ?_)
  refine of_ 49 52 (h := ?_)
  refine pu_ 50 53 (h := ?_)
  refine pu_ 51 2 (h := ?_)
  refine done_ (by kernel_rfl) ?_
  have ZF := Lh (bthen ZB.out HB.out)
  go_wp2
  go_ret
  exact ⟨rfl, ZF.out⟩
set_option maxHeartbeats 4000000 in
set_option maxRecDepth 100000 in
theorem may_G (p a e : List P3) (r : Int) (A0 A1 A2 : Option Addr) (c0 c1 c2 : Nat) (w : World) (h0 : Rd w A0 p) (h1 : Rd w A1 a) (h2 : Rd w A2 e) (k0 : p.length ≤ c0) (k1 : a.length ≤ c1) (k2 : e.length ≤ c2)
    (hp1 : 0 < p.length) (hp2 : p.length ≤ 32) (ha : a.length ≤ 128) (he : e.length ≤ 128) (hr1 : 0 ≤ r) (hr2 : r ≤ 65536) (hF : p.any (far3 16777216) = false) (hG : a.any (far3 1048576) = true) :
    Calls Try.prog 57 #[.agg #[.slice A0 p.length c0, .slice A1 a.length c1, .slice A2 e.length c2, .int .i64 r]] w fun e w' => e = .returned (.bool false) ∧ Below w.heap.size w w' := by
  have H0 := Lh h0
  have H1 := Lh h1
  have H2 := Lh h2
  have HF := Lh hF
  have HG := Lh hG
  clear h0 h1 h2 hF hG
  obtain ⟨np, hnp⟩ : ∃ n, p.length = n := ⟨_, rfl⟩
  obtain ⟨na, hna⟩ : ∃ n, a.length = n := ⟨_, rfl⟩
  obtain ⟨ne, hne⟩ : ∃ n, e.length = n := ⟨_, rfl⟩
  rw [hnp] at hp1 hp2 k0 ⊢
  rw [hna] at ha k1 ⊢
  rw [hne] at he k2 ⊢
  have HNP := Lh hnp
  have HNA := Lh hna
  have HNE := Lh hne
  clear hnp hna hne
  have t1 : decide ((0 : Int) < (np : Int)) = true := by simp; omega
  have t2 : decide ((np : Int) ≤ 32) = true := by simp; omega
  have t3 : decide (mx (na : Int) (ne : Int) ≤ 128) = true := by simp [mx]; split <;> omega
  have t4 : decide (0 ≤ r) = true := by simp; omega
  have t5 : decide (r ≤ 65536) = true := by simp; omega
  have z := heap_alloc_new w (.cells #[.slice A0 np c0, .slice A1 na c1, .slice A2 ne c2, .int .i64 r] 36)
  have zb := (Below.refl _ w).alloc (Nat.le_refl _) (.cells #[.slice A0 np c0, .slice A1 na c1, .slice A2 ne c2, .int .i64 r] 36)
  obtain ⟨w1, hw1⟩ : ∃ V, w.alloc (.cells #[.slice A0 np c0, .slice A1 na c1, .slice A2 ne c2, .int .i64 r] 36) = V := ⟨_, rfl⟩
  rw [hw1] at z zb
  have hw1' := Lh hw1
  have ZB := Lh zb
  have lt0 : w.heap.size < w1.heap.size := blk_lt z
  clear hw1 zb
  go_enter Try.func57, Try.ntmps57
  go_wp2
  rw [hw1'.out]
  clear hw1'
  have x0 : w1.cell? ⟨w.heap.size, 0, none⟩ = some (.slice A0 np c0) := (blk_cell z 0).trans rfl
  have x1 : w1.cell? ⟨w.heap.size, 1, none⟩ = some (.slice A1 na c1) := (blk_cell z 1).trans rfl
  have x2 : w1.cell? ⟨w.heap.size, 2, none⟩ = some (.slice A2 ne c2) := (blk_cell z 2).trans rfl
  have x3 : w1.cell? ⟨w.heap.size, 3, none⟩ = some (.int .i64 r) := (blk_cell z 3).trans rfl
  have HB := Lh ((Below.refl (w1.heap.size) w1).drew)
  have FF := Lh (show ∀ V, Hid (Below (w1.heap.size) w1 V) → V.cell? ⟨w.heap.size, 0, none⟩ = some (.slice A0 np c0) ∧ V.cell? ⟨w.heap.size, 1, none⟩ = some (.slice A1 na c1) ∧ V.cell? ⟨w.heap.size, 2, none⟩ = some (.slice A2 ne c2) ∧ V.cell? ⟨w.heap.size, 3, none⟩ = some (.int .i64 r) from fun V HB => ⟨(HB.out.cell (p := ⟨w.heap.size, 0, none⟩) (lt0)).trans x0, (HB.out.cell (p := ⟨w.heap.size, 1, none⟩) (lt0)).trans x1, (HB.out.cell (p := ⟨w.heap.size, 2, none⟩) (lt0)).trans x2, (HB.out.cell (p := ⟨w.heap.size, 3, none⟩) (lt0)).trans x3⟩)
  refine start_ (n := 52) (S := fun w' => w'.cell? ⟨w.heap.size, 0, none⟩ = some (.slice A0 np c0) ∧ w'.cell? ⟨w.heap.size, 1, none⟩ = some (.slice A1 na c1) ∧ w'.cell? ⟨w.heap.size, 2, none⟩ = some (.slice A2 ne c2) ∧ w'.cell? ⟨w.heap.size, 3, none⟩ = some (.int .i64 r)) (ds := []) (MT 0 52) (by kernel_rfl) rfl rfl (FF.out _ HB) (fun hHeld => ?_)
  obtain ⟨wd, hwd⟩ : ∃ x, w1.drew = x := ⟨_, rfl⟩
  rw [hwd] at HB hHeld ⊢
  clear hwd
  refine pu_ 0 3 (h := ?_)
  refine ta_ 1 4 hHeld (h := ?_)
  refine pu_ 2 5 (h := ?_)
  refine pu_ 3 6 (h := ?_)
  refine pu_ 4 7 (h := ?_)
  refine pu_ 5 8 (h := ?_)
  refine ta_ 6 9 hHeld (h := ?_)
  refine pu_ 7 10 (h := ?_)
  refine pu_ 8 11 (h := ?_)
  refine pu_ 9 12 (h := ?_)
  refine pu_ 10 13 (h := ?_)
  refine pu_ 11 14 (h := ?_)
  refine pu_ 14 17 (h := ?_)
  refine ta_ 12 15 hHeld (h := ?_)
  refine pu_ 13 16 (h := ?_)
  refine ta_ 15 18 hHeld (h := ?_)
  refine pu_ 16 19 (h := ?_)
  refine pu_ 17 20 (h := ?_)
  refine pu_ 18 21 (h := ?_)
  refine pu_ 19 22 (h := ?_)
  refine pu_ 20 23 (h := ?_)
  refine pu_ 21 24 (h := ?_)
  refine ta_ 22 25 hHeld (h := ?_)
  refine pu_ 23 26 (h := ?_)
  refine pu_ 24 27 (h := ?_)
  refine pu_ 25 28 (h := ?_)
  refine pu_ 26 29 (h := ?_)
  refine ta_ 27 30 hHeld (h := ?_)
  refine pu_ 28 31 (h := ?_)
  refine pu_ 29 32 (h := ?_)
  refine pu_ 30 33 (h := ?_)
  refine pu_ 31 34 (h := ?_)
  refine ta_ 32 35 hHeld (h := ?_)
  refine on_ 33 (some 36) (h := fun K hK => ?_)
  refine gs_ Try.func65 #[.int .i64 16777216] ?_
  with_reducible refine (beyondE_calls _ _).mono ?_
  rintro e' w2 ⟨g, rfl, kg_, hb⟩
  have HB := Lh (HB.out.trans (hb.mono HB.out.size))
  have HGc := Lh kg_
  clear kg_
  clear hb
  refine ⟨_, rfl, ?_⟩
  refine hK.out _ _ (FF.out _ HB) (fun hHeld => ?_)
  clear hK K
  refine no_ (h := ?_)
  refine on_ 34 (some 37) (h := fun K hK => ?_)
  refine gs_ Try.func68 #[.slice A0 np c0, .func (.func 121) #[] #[.pointer (some ⟨g, 0, none⟩)]] ?_
  with_reducible refine (contains_calls' p _ _ _ 16777216 _ false _ HNP.out HF.out (H0.out.below (bthen ZB.out HB.out)) k0 (by omega) HGc.out (by decide) (by decide)).mono ?_
  rintro e' w2 ⟨rfl, hb⟩
  have HB := Lh (HB.out.trans (hb.mono HB.out.size))
  clear HGc
  clear hb
  refine ⟨_, rfl, ?_⟩
  refine hK.out _ _ (FF.out _ HB) (fun hHeld => ?_)
  clear hK K
  refine no_ (h := ?_)
  refine pu_ 35 38 (h := ?_)
  refine pu_ 36 39 (h := ?_)
  refine pu_ 37 40 (h := ?_)
  refine pu_ 38 41 (h := ?_)
  refine ta_ 39 42 hHeld (h := ?_)
  refine on_ 40 (some 43) (h := fun K hK => ?_)
  refine gs_ Try.func65 #[.int .i64 1048576] ?_
  with_reducible refine (beyondE_calls _ _).mono ?_
  rintro e' w2 ⟨g2, rfl, kg_, hb⟩
  have HB := Lh (HB.out.trans (hb.mono HB.out.size))
  have HGc := Lh kg_
  clear kg_
  clear hb
  refine ⟨_, rfl, ?_⟩
  refine hK.out _ _ (FF.out _ HB) (fun hHeld => ?_)
  clear hK K
  refine no_ (h := ?_)
  refine on_ 41 (some 44) (h := fun K hK => ?_)
  refine gs_ Try.func68 #[.slice A1 na c1, .func (.func 121) #[] #[.pointer (some ⟨g2, 0, none⟩)]] ?_
  with_reducible refine (contains_calls' a _ _ _ 1048576 _ true _ HNA.out HG.out (H1.out.below (bthen ZB.out HB.out)) k1 (by omega) HGc.out (by decide) (by decide)).mono ?_
  rintro e' w2 ⟨rfl, hb⟩
  have HB := Lh (HB.out.trans (hb.mono HB.out.size))
  clear HGc
  clear hb
  refine ⟨_, rfl, ?_⟩
  refine hK.out _ _ (FF.out _ HB) (fun hHeld => ?_)
  clear hK K
  refine no_ (h := ?_)
  refine pu_ 42 45 (h := ?_)
  refine pu_ 43 46 (h := ?_)
  refine pu_ 44 47 (h := ?_)
  refine of_ 45 48 (h := ?_)
  refine of_ 46 49 (h := ?_)
  refine of_ 47 50 (h := ?_)
  refine of_ 48 51 (h := ?_)
  refine of_ 49 52 (h := ?_)
  refine pu_ 50 53 (h := ?_)
  refine pu_ 51 2 (h := ?_)
  refine done_ (by kernel_rfl) ?_
  have ZF := Lh (bthen ZB.out HB.out)
  go_wp2
  go_ret
  exact ⟨rfl, ZF.out⟩
end Go.Proofs.Ytckdhahceelckaa.G
namespace Go.Proofs.Ytckdhahceelckaa.G
open Go.RowKit Go.Proofs.YtckdhahceelckaaW.PrintWords Go.Proofs.YtckdhahceelckaaW.PrintLast Go.Proofs.YtckdhahceelckaaW.PrintMore
attribute [local go_sem] max2_mx min2_mn max_two min_two max_three min_three max_four min_four
attribute [local go_sem high] eqA23
set_option linter.unusedVariables false
set_option linter.unusedSimpArgs false
theorem mayF_iff (p a e : List P3) (r : Int) : mayF p a e r = true ↔ MayP p a e r := by
  unfold mayF
  simp only [Bool.and_eq_true, decide_eq_true_eq, Bool.not_eq_true']
  constructor
  · rintro ⟨⟨⟨⟨⟨⟨⟨⟨h1, h2⟩, h3⟩, h4⟩, h5⟩, h6⟩, h7⟩, h8⟩, h9⟩
    exact ⟨List.length_pos_iff.1 h1, h2, h3, h4, h5, h6, h7, h8, h9⟩
  · rintro ⟨h1, h2, h3, h4, h5, h6, h7, h8, h9⟩
    exact ⟨⟨⟨⟨⟨⟨⟨⟨List.length_pos_iff.2 h1, h2⟩, h3⟩, h4⟩, h5⟩, h6⟩, h7⟩, h8⟩, h9⟩
theorem may_all {w : World} {v : Value} {p a e : List P3} {r : Int} (h : CoreV w v p a e r) : MaySays w v (mayF p a e r) := fun w' hb => by
  obtain ⟨A0, A1, A2, c0, c1, c2, rfl, h0, h1, h2, h3, h4, h5⟩ := (h.below hb).out
  have no : ∀ (P : Prop), P → (MayP p a e r → ¬P) → mayF p a e r = false := fun P hP hn => by
    cases hm : mayF p a e r with
    | false => rfl
    | true => exact absurd hP (hn ((mayF_iff p a e r).1 hm))
  rcases Nat.eq_zero_or_pos p.length with e0 | p0
  · rw [no _ e0 (fun m => by have := List.length_pos_iff.2 m.p0; omega)]
    exact may_A p a e r A0 A1 A2 c0 c1 c2 w' h0.1 h1.1 h2.1 h3 h4 h5 false false false e0
  rcases Nat.lt_or_ge 32 p.length with e1 | p1
  · rw [no _ e1 (fun m => by have := m.p1; omega)]
    exact may_B p a e r A0 A1 A2 c0 c1 c2 w' h0.1 h1.1 h2.1 h3 h4 h5 false false false p0 e1
  by_cases e2 : 128 < a.length ∨ 128 < e.length
  · rw [no _ e2 (fun m => by have := m.a1; have := m.e1; omega)]
    exact may_C p a e r A0 A1 A2 c0 c1 c2 w' h0.1 h1.1 h2.1 h3 h4 h5 false false false p0 p1 e2
  have a1 : a.length ≤ 128 := by omega
  have e1 : e.length ≤ 128 := by omega
  rcases Int.lt_or_le r 0 with e3 | r0
  · rw [no _ e3 (fun m => by have := m.r0; omega)]
    exact may_D p a e r A0 A1 A2 c0 c1 c2 w' h0.1 h1.1 h2.1 h3 h4 h5 false false false p0 p1 a1 e1 e3
  rcases Int.lt_or_le 65536 r with e4 | r1
  · rw [no _ e4 (fun m => by have := m.r1; omega)]
    exact may_E p a e r A0 A1 A2 c0 c1 c2 w' h0.1 h1.1 h2.1 h3 h4 h5 false false false p0 p1 a1 e1 r0 e4
  cases hF : p.any (far3 16777216) with
  | true =>
    rw [no _ hF (fun m => by rw [m.pf]; decide)]
    exact may_F p a e r A0 A1 A2 c0 c1 c2 w' h0.1 h1.1 h2.1 h3 h4 h5 p0 p1 a1 e1 r0 r1 hF
  | false =>
    cases hG : a.any (far3 1048576) with
    | true =>
      rw [no _ hG (fun m => by rw [m.af]; decide)]
      exact may_G p a e r A0 A1 A2 c0 c1 c2 w' h0.1 h1.1 h2.1 h3 h4 h5 p0 p1 a1 e1 r0 r1 hF hG
    | false =>
      have hB : mayF p a e r = !(e.any (far3 1048576)) := by
        unfold mayF
        rw [hF, hG, decide_eq_true p0, decide_eq_true p1, decide_eq_true a1, decide_eq_true e1, decide_eq_true r0, decide_eq_true r1]
        rfl
      rw [hB]
      exact may_yes p a e r A0 A1 A2 c0 c1 c2 w' h0.1 h1.1 h2.1 h3 h4 h5 _ false false p0 p1 a1 e1 r0 r1 hF hG rfl
set_option maxHeartbeats 4000000 in
set_option maxRecDepth 100000 in
theorem rmay_calls {w : World} {v : Value} {p a e : List P3} {r : Int} (h : CoreV w v p a e r) (hp : p.length < 9223372036854775807) (ha : a.length < 9223372036854775807) (he : e.length < 9223372036854775807) :
    Calls Try.prog 62 #[v] w fun en w' => en = .returned (.bool (mayF p a e r)) ∧ Below w.heap.size w w' := by
  obtain ⟨A0, A1, A2, c0, c1, c2, rfl, h0, h1, h2, _⟩ := h.out
  have H0 := Lh (fun W (hW : RdB W A0 p) => all_calls p A0 c0 16777216 W hW.1 hp (by decide) (by decide))
  have H1 := Lh (fun W (hW : RdB W A1 a) => all_calls a A1 c1 1048576 W hW.1 ha (by decide) (by decide))
  have H2 := Lh (fun W (hW : RdB W A2 e) => all_calls e A2 c2 1048576 W hW.1 he (by decide) (by decide))
  rw [allIn_far _ (by decide) (by decide)] at H0 H1 H2
  have hm : mayF p a e r = mayF p a e r := rfl
  conv at hm => lhs; unfold mayF
  obtain ⟨B, hB⟩ : ∃ B, mayF p a e r = B := ⟨_, rfl⟩
  rw [hB] at hm ⊢
  obtain ⟨b0, hb0⟩ : ∃ b, (!(p.any (far3 16777216))) = b := ⟨_, rfl⟩
  obtain ⟨b1, hb1⟩ : ∃ b, (!(a.any (far3 1048576))) = b := ⟨_, rfl⟩
  obtain ⟨b2, hb2⟩ : ∃ b, (!(e.any (far3 1048576))) = b := ⟨_, rfl⟩
  rw [hb0] at H0 hm
  rw [hb1] at H1 hm
  rw [hb2] at H2 hm
  have G0 := Lh h0
  have G1 := Lh h1
  have G2 := Lh h2
  obtain ⟨np, hnp⟩ : ∃ n, p.length = n := ⟨_, rfl⟩
  obtain ⟨na, hna⟩ : ∃ n, a.length = n := ⟨_, rfl⟩
  obtain ⟨ne, hne⟩ : ∃ n, e.length = n := ⟨_, rfl⟩
  rw [hnp] at H0 hm hp ⊢
  rw [hna] at H1 hm ha ⊢
  rw [hne] at H2 hm he ⊢
  clear h h0 h1 h2 hB hb0 hb1 hb2 hnp hna hne
  have HM := Lh hm
  clear hm
  have z := heap_alloc_new w (.cells #[.slice A0 np c0, .slice A1 na c1, .slice A2 ne c2, .int .i64 r] 36)
  have zb := (Below.refl _ w).alloc (Nat.le_refl _) (.cells #[.slice A0 np c0, .slice A1 na c1, .slice A2 ne c2, .int .i64 r] 36)
  obtain ⟨w1, hw1⟩ : ∃ V, w.alloc (.cells #[.slice A0 np c0, .slice A1 na c1, .slice A2 ne c2, .int .i64 r] 36) = V := ⟨_, rfl⟩
  rw [hw1] at z zb
  have hw1' := Lh hw1
  have Z := Lh z
  have ZB := Lh zb
  clear hw1 z zb
  by_cases t0 : (np : Int) < 1
  · have E : Hid (B = false) := Lh (by rw [← HM.out, decide_eq_false (show ¬ 0 < np by omega)]; simp)
    have d0 : decide ((np : Int) < 1) = true := decide_eq_true t0
    clear t0
    go_enter Try.func62, Try.ntmps62
    go_wp2
    go_ret
    exact ⟨by rw [E.out]; rfl, (Below.refl _ w).alloc (Nat.le_refl _) _⟩
  by_cases t1 : 32 < (np : Int)
  · have E : Hid (B = false) := Lh (by rw [← HM.out, decide_eq_false (show ¬ np ≤ 32 by omega)]; simp)
    have d0 : decide ((np : Int) < 1) = false := decide_eq_false t0
    have d1 : decide (32 < (np : Int)) = true := decide_eq_true t1
    clear t0 t1
    go_enter Try.func62, Try.ntmps62
    go_wp2
    go_ret
    exact ⟨by rw [E.out]; rfl, (Below.refl _ w).alloc (Nat.le_refl _) _⟩
  by_cases t2 : 128 < (na : Int)
  · have E : Hid (B = false) := Lh (by rw [← HM.out, decide_eq_false (show ¬ na ≤ 128 by omega)]; simp)
    have d0 : decide ((np : Int) < 1) = false := decide_eq_false t0
    have d1 : decide (32 < (np : Int)) = false := decide_eq_false t1
    have d2 : decide (128 < (na : Int)) = true := decide_eq_true t2
    clear t0 t1 t2
    go_enter Try.func62, Try.ntmps62
    go_wp2
    go_ret
    exact ⟨by rw [E.out]; rfl, (Below.refl _ w).alloc (Nat.le_refl _) _⟩
  by_cases t3 : 128 < (ne : Int)
  · have E : Hid (B = false) := Lh (by rw [← HM.out, decide_eq_false (show ¬ ne ≤ 128 by omega)]; simp)
    have d0 : decide ((np : Int) < 1) = false := decide_eq_false t0
    have d1 : decide (32 < (np : Int)) = false := decide_eq_false t1
    have d2 : decide (128 < (na : Int)) = false := decide_eq_false t2
    have d3 : decide (128 < (ne : Int)) = true := decide_eq_true t3
    clear t0 t1 t2 t3
    go_enter Try.func62, Try.ntmps62
    go_wp2
    go_ret
    exact ⟨by rw [E.out]; rfl, (Below.refl _ w).alloc (Nat.le_refl _) _⟩
  by_cases t4 : r < 0
  · have E : Hid (B = false) := Lh (by rw [← HM.out, decide_eq_false (show ¬ 0 ≤ r by omega)]; simp)
    have d0 : decide ((np : Int) < 1) = false := decide_eq_false t0
    have d1 : decide (32 < (np : Int)) = false := decide_eq_false t1
    have d2 : decide (128 < (na : Int)) = false := decide_eq_false t2
    have d3 : decide (128 < (ne : Int)) = false := decide_eq_false t3
    have d4 : decide (r < 0) = true := decide_eq_true t4
    clear t0 t1 t2 t3 t4
    go_enter Try.func62, Try.ntmps62
    go_wp2
    go_ret
    exact ⟨by rw [E.out]; rfl, (Below.refl _ w).alloc (Nat.le_refl _) _⟩
  by_cases t5 : 65536 < r
  · have E : Hid (B = false) := Lh (by rw [← HM.out, decide_eq_false (show ¬ r ≤ 65536 by omega)]; simp)
    have d0 : decide ((np : Int) < 1) = false := decide_eq_false t0
    have d1 : decide (32 < (np : Int)) = false := decide_eq_false t1
    have d2 : decide (128 < (na : Int)) = false := decide_eq_false t2
    have d3 : decide (128 < (ne : Int)) = false := decide_eq_false t3
    have d4 : decide (r < 0) = false := decide_eq_false t4
    have d5 : decide (65536 < r) = true := decide_eq_true t5
    clear t0 t1 t2 t3 t4 t5
    go_enter Try.func62, Try.ntmps62
    go_wp2
    go_ret
    exact ⟨by rw [E.out]; rfl, (Below.refl _ w).alloc (Nat.le_refl _) _⟩
  have E : Hid (B = (b0 && b1 && b2)) := Lh (by rw [← HM.out, decide_eq_true (show 0 < np by omega), decide_eq_true (show np ≤ 32 by omega), decide_eq_true (show na ≤ 128 by omega), decide_eq_true (show ne ≤ 128 by omega), decide_eq_true (show 0 ≤ r by omega), decide_eq_true (show r ≤ 65536 by omega)]; rfl)
  have d0 : decide ((np : Int) < 1) = false := decide_eq_false t0
  have d1 : decide (32 < (np : Int)) = false := decide_eq_false t1
  have d2 : decide (128 < (na : Int)) = false := decide_eq_false t2
  have d3 : decide (128 < (ne : Int)) = false := decide_eq_false t3
  have d4 : decide (r < 0) = false := decide_eq_false t4
  have d5 : decide (65536 < r) = false := decide_eq_false t5
  clear t0 t1 t2 t3 t4 t5 HM
  have E' := E.out
  clear E
  subst E'
  go_enter Try.func62, Try.ntmps62
  go_wp2_with fail
  rw [hw1'.out]
  refine (H0.out w1 (G0.out.below ZB.out)).mono ?_
  rintro en w2 ⟨rfl, hb⟩
  have Z2 := Lh ((hb.block _ (blk_lt Z.out)).trans Z.out)
  have ZB2 := Lh (bthen ZB.out hb)
  clear hb
  have x1 : w2.cell? ⟨w.heap.size, 1, none⟩ = some (.slice A1 na c1) := (blk_cell Z2.out 1).trans rfl
  have l0 : w.heap.size < w2.heap.size := blk_lt Z2.out
  go_wp2_with fail
  refine (H1.out w2 (G1.out.below ZB2.out)).mono ?_
  rintro en w3 ⟨rfl, hb⟩
  have Z3 := Lh ((hb.block _ (blk_lt Z2.out)).trans Z2.out)
  have ZB3 := Lh (bthen ZB2.out hb)
  clear hb x1 l0
  have x2 : w3.cell? ⟨w.heap.size, 2, none⟩ = some (.slice A2 ne c2) := (blk_cell Z3.out 2).trans rfl
  have l0 : w.heap.size < w3.heap.size := blk_lt Z3.out
  go_wp2_with fail
  refine (H2.out w3 (G2.out.below ZB3.out)).mono ?_
  rintro en w4 ⟨rfl, hb⟩
  have ZB4 := Lh (bthen ZB3.out hb)
  clear hb x2 l0
  clear d0 d1 d2 d3 d4 d5
  cases b0
  · go_wp2
    go_ret
    exact ⟨rfl, ZB4.out⟩
  cases b1
  · go_wp2
    go_ret
    exact ⟨rfl, ZB4.out⟩
  go_wp2
  go_ret
  exact ⟨by cases b2 <;> rfl, ZB4.out⟩
end Go.Proofs.Ytckdhahceelckaa.G
namespace Go.Proofs.Ytckdhahceelckaa.G
open Go.RowKit Go.Proofs.YtckdhahceelckaaW.PrintWords Go.Proofs.YtckdhahceelckaaW.PrintLast Go.Proofs.YtckdhahceelckaaW.PrintMore
attribute [local go_sem] max2_mx min2_mn max_two min_two max_three min_three max_four min_four
attribute [local go_sem high] eqA23
set_option linter.unusedVariables false
set_option linter.unusedSimpArgs false
def rapStep (a0 : P3) (ar : List P3) (ra : Int) (b0 : P3) (br : List P3) (rb : Int) (s : (P3 × Int) × Bool) (n : P3) : (P3 × Int) × Bool :=
  (if s.2 = true ∨ s.1.2 < (gapsF n a0 ar ra b0 br rb).1 then (n, (gapsF n a0 ar ra b0 br rb).1) else s.1, false)
def rapF (a0 : P3) (ar : List P3) (ra : Int) (b0 : P3) (br : List P3) (rb : Int) (l : List P3) : (P3 × Int) × Bool :=
  l.foldl (rapStep a0 ar ra b0 br rb) ((⟨0, 0, 1048576⟩, -ra - rb), true)
theorem rapF_snoc (a0 : P3) (ar : List P3) (ra : Int) (b0 : P3) (br : List P3) (rb : Int) (l : List P3) (k : Nat) (h : k < l.length) : rapF a0 ar ra b0 br rb (l.take (k + 1)) = rapStep a0 ar ra b0 br rb (rapF a0 ar ra b0 br rb (l.take k)) l[k] := by
  unfold rapF
  rw [List.take_succ_eq_append_getElem h, List.foldl_append]; rfl
theorem rapF_first (a0 : P3) (ar : List P3) (ra : Int) (b0 : P3) (br : List P3) (rb : Int) (l : List P3) (k : Nat) (h : k ≤ l.length) : (rapF a0 ar ra b0 br rb (l.take k)).2 = decide (k = 0) := by
  cases k with
  | zero => rfl
  | succ k => rw [rapF_snoc _ _ _ _ _ _ _ _ (by omega)]; rfl
theorem ng3_neg (n : P3) : ng3 (ng3 n) = n := by unfold ng3; simp
theorem ng3_in {n : P3} {m : Int} (h : in3 m n) : in3 m (ng3 n) := by unfold in3 ng3 at *; simp only; omega
theorem ng3_ne {n : P3} (h : n ≠ ⟨0, 0, 0⟩) : ng3 n ≠ ⟨0, 0, 0⟩ := fun e => h (by rw [← ng3_neg n, e]; rfl)
theorem fl3_neg (n : P3) : fl3 (ng3 n) = fl3 n ∧ ce3 (ng3 n) = ce3 n := by
  have e : dotI (ng3 n) (ng3 n) = dotI n n := by unfold dotI ng3; simp only [Int.neg_mul_neg]
  unfold ce3 fl3
  rw [e]
  exact ⟨rfl, rfl⟩
theorem reach_neg {n p0 : P3} {r : List P3} (hn : in3 1048576 n) (hp : ∀ p ∈ p0 :: r, in3 16777216 p) : (reachF (ng3 n) p0 r).2 = -(reachF n p0 r).1 ∧ (reachF (ng3 n) p0 r).1 = -(reachF n p0 r).2 := by
  have h1 := farF_neg n p0 r hn hp
  have h2 := farF_neg (ng3 n) p0 r (ng3_in hn) hp
  rw [farF_reach] at h1 h2
  have e : (⟨-(ng3 n).x, -(ng3 n).y, -(ng3 n).z⟩ : P3) = n := ng3_neg n
  rw [e] at h2
  refine ⟨h1, by omega⟩
theorem gaps_neg {n a0 b0 : P3} {ar br : List P3} (ra rb : Int) (hn : in3 1048576 n) (ha : ∀ p ∈ a0 :: ar, in3 16777216 p) (hb : ∀ p ∈ b0 :: br, in3 16777216 p) : (gapsF (ng3 n) a0 ar ra b0 br rb).1 = (gapsF n a0 ar ra b0 br rb).2 := by
  unfold gapsF
  simp only
  rw [(reach_neg hn ha).1, (reach_neg hn hb).2, (fl3_neg n).1, (fl3_neg n).2]
  congr 1
  omega
theorem minus_zero {n : P3} (h : in3 1048576 n) : minus3 ⟨0, 0, 0⟩ n = ng3 n := by
  rw [minus3_eq _ _ (by unfold in3; simp) (in3_le (by decide) h)]
  unfold ng3
  simp
/-- the two tellings of the candidates are one -/
theorem rapF_eq {a0 b0 : P3} {ar br : List P3} (ra rb : Int) (ha : ∀ p ∈ a0 :: ar, in3 16777216 p) (hb : ∀ p ∈ b0 :: br, in3 16777216 p) (l : List P3) : rapF a0 ar ra b0 br rb (candF l) = apF a0 ar ra b0 br rb l := by
  have gen : ∀ (l : List P3) (s : (P3 × Int) × Bool), (candF l).foldl (rapStep a0 ar ra b0 br rb) s = l.foldl (apStep a0 ar ra b0 br rb) s := by
    intro l
    induction l with
    | nil => intro s; rfl
    | cons x l ih =>
      intro s
      have e : candF (x :: l) = (if long3 x = ⟨0, 0, 0⟩ then [] else [long3 x, ng3 (long3 x)]) ++ candF l := rfl
      rw [e, List.foldl_append, List.foldl_cons, ih]
      congr 1
      unfold apStep
      by_cases h : long3 x = ⟨0, 0, 0⟩
      · rw [if_pos h, if_pos h]; rfl
      · rw [if_neg h, if_neg h, minus_zero (long3_in x)]
        simp only [List.foldl_cons, List.foldl_nil, rapStep]
        rw [gaps_neg ra rb (long3_in x) ha hb]
        simp only [Bool.false_eq_true, false_or]
  exact gen l _
theorem candF_mem {l : List P3} {n : P3} (h : n ∈ candF l) : in3 1048576 n ∧ n ≠ ⟨0, 0, 0⟩ := by
  unfold candF at h
  obtain ⟨x, _, h⟩ := List.mem_flatMap.1 h
  split at h
  · simp at h
  · rename_i h0
    simp only [List.mem_cons, List.not_mem_nil, or_false] at h
    rcases h with rfl | rfl
    · exact ⟨long3_in x, h0⟩
    · exact ⟨ng3_in (long3_in x), ng3_ne h0⟩
end Go.Proofs.Ytckdhahceelckaa.G
namespace Go.Proofs.Ytckdhahceelckaa.G
open Go.RowKit Go.Proofs.YtckdhahceelckaaW.PrintWords Go.Proofs.YtckdhahceelckaaW.PrintLast Go.Proofs.YtckdhahceelckaaW.PrintMore
attribute [local go_sem] max2_mx min2_mn max_two min_two max_three min_three max_four min_four
attribute [local go_sem high] eqA23
set_option linter.unusedVariables false
set_option linter.unusedSimpArgs false
theorem RdB.set4' {w : World} {A : Option Addr} {l : List P3} (h : RdB w A l) {g : Nat} (hne : ∀ ad, A = some ad → ad.block ≠ g) (x y z u : Value) : RdB (set4 w g x y z u) A l :=
  h.blk (by simp) fun ad e _ => heap_set4 w g ad.block (hne ad e) x y z u
/-- the state of Apart's loop: two cores, the answer's block, the best so far, the candidates -/
structure ASt (w W : World) (ca cb : Array Value) (OB : Nat) (o : P3 × Int) (A : Option Addr) (C : List P3) : Prop where
  below : Below w.heap.size w W
  z0 : W.heap[w.heap.size]? = some (.cells ca 36 (0, 0))
  z1 : W.heap[w.heap.size + 1]? = some (.cells cb 36 (0, 0))
  z2 : W.heap[w.heap.size + 2]? = some (.cells #[.int .i64 0, .int .i64 0, .int .i64 0, .int .i64 0] 40 (0, 0))
  ob : W.heap[OB]? = some (.cells #[.int .i64 o.1.x, .int .i64 o.1.y, .int .i64 o.1.z, .int .i64 o.2] 40 (0, 0))
  rd : RdB W A C
  lo : w.heap.size + 2 < OB
  ne : ∀ ad, A = some ad → ad.block ≠ OB
theorem ASt.then {w W V : World} {ca cb : Array Value} {OB : Nat} {o : P3 × Int} {A : Option Addr} {C : List P3} (h : ASt w W ca cb OB o A C) (hb : Below W.heap.size W V) : ASt w V ca cb OB o A C :=
  ⟨bthen h.below hb, (hb.block _ (blk_lt h.z0)).trans h.z0, (hb.block _ (blk_lt h.z1)).trans h.z1, (hb.block _ (blk_lt h.z2)).trans h.z2, (hb.block _ (blk_lt h.ob)).trans h.ob, h.rd.below hb, h.lo, h.ne⟩
theorem ASt.put {w W : World} {ca cb : Array Value} {OB : Nat} {o : P3 × Int} {A : Option Addr} {C : List P3} (h : ASt w W ca cb OB o A C) (x y z g : Int) : ASt w (set4 W OB (.int .i64 x) (.int .i64 y) (.int .i64 z) (.int .i64 g)) ca cb OB (⟨x, y, z⟩, g) A C := by
  have lo := h.lo
  exact ⟨below_set4 h.below (by omega) _ _ _ _, (heap_set4 W OB _ (by omega) _ _ _ _).trans h.z0, (heap_set4 W OB _ (by omega) _ _ _ _).trans h.z1, (heap_set4 W OB _ (by omega) _ _ _ _).trans h.z2, blk4_set h.ob _ _ _ _, h.rd.set4' h.ne _ _ _ _, h.lo, h.ne⟩
set_option maxHeartbeats 8000000 in
set_option maxRecDepth 100000 in
theorem rapart_yes {w : World} {v u : Value} {p a e : List P3} {r : Int} {q b f : List P3} {s : Int} (hv : CoreV w v p a e r) (hu : CoreV w u q b f s) (m : MayP p a e r) (k : MayP q b f s) (R : P3 × Int) (hR : apartF p a e r q b f s = R) :
    Calls Try.prog 25 #[v, u] w fun en w' => en = .returned (.tuple #[.agg #[.int .i64 R.1.x, .int .i64 R.1.y, .int .i64 R.1.z, .int .i64 R.2], .bool true]) ∧ Below w.heap.size w w' := by
  have HMa := Lh (fun W (hW : CoreV W v p a e r) => rmay_calls hW (by have := m.p1; omega) (by have := m.a1; omega) (by have := m.e1; omega))
  have HMb := Lh (fun W (hW : CoreV W u q b f s) => rmay_calls hW (by have := k.p1; omega) (by have := k.a1; omega) (by have := k.e1; omega))
  rw [(mayF_iff p a e r).2 m] at HMa
  rw [(mayF_iff q b f s).2 k] at HMb
  have HV := Lh hv
  have HU := Lh hu
  obtain ⟨A0, A1, A2, c0, c1, c2, rfl, a0, a1, a2, _⟩ := hv.out
  obtain ⟨B0, B1, B2, d0, d1, d2, rfl, b0, b1, b2, _⟩ := hu.out
  have HC := Lh (fun W (h0 : RdB W A0 p) (h1 : RdB W A1 a) (h2 : RdB W A2 e) (g0 : RdB W B0 q) (g1 : RdB W B1 b) (g2 : RdB W B2 f) => rcand_calls p a e q b f r s A0 A1 A2 B0 B1 B2 c0 c1 c2 d0 d1 d2 W h0 h1 h2 g0 g1 g2 m k)
  have HLC : Hid ((candF (rawC p a e q b f)).length ≤ 68000) := Lh (by have := candF_len (rawC p a e q b f); have := rawC_len p a e q b f r s m k; omega)
  obtain ⟨p0, pr, rfl, hpI⟩ := m.pts
  obtain ⟨q0, qr, rfl, hqI⟩ := k.pts
  have hra0 := m.r0
  have hra1 := m.r1
  have hsb0 := k.r0
  have hsb1 := k.r1
  have hRap : (rapF p0 pr r q0 qr s (candF (rawC (p0 :: pr) a e (q0 :: qr) b f))).1 = R := by
    rw [rapF_eq r s hpI hqI]; exact hR
  have HG := Lh (fun (n : P3) (hn : in3 1048576 n ∧ n ≠ ⟨0, 0, 0⟩) W (h0 : RdB W A0 (p0 :: pr)) (g0 : RdB W B0 (q0 :: qr)) => rgap_calls p0 pr r q0 qr s A0 A1 A2 B0 B1 B2 a.length e.length b.length f.length c0 c1 c2 d0 d1 d2 n W h0 g0 (by have := m.p1; simp at this; omega) (by have := k.p1; simp at this; omega) hn.1 hn.2 hpI hqI hra0 hra1 hsb0 hsb1 _ rfl)
  have HCM := Lh (fun n (hn : n ∈ candF (rawC (p0 :: pr) a e (q0 :: qr) b f)) => candF_mem hn)
  obtain ⟨C, hC⟩ : ∃ C, candF (rawC (p0 :: pr) a e (q0 :: qr) b f) = C := ⟨_, rfl⟩
  rw [hC] at HC HLC hRap HCM
  have HRap := Lh hRap
  have H0 := Lh a0
  have H1 := Lh a1
  have H2 := Lh a2
  have G0 := Lh b0
  have G1 := Lh b1
  have G2 := Lh b2
  obtain ⟨np, hnp⟩ : ∃ n, (p0 :: pr).length = n := ⟨_, rfl⟩
  obtain ⟨na, hna⟩ : ∃ n, a.length = n := ⟨_, rfl⟩
  obtain ⟨ne, hne⟩ : ∃ n, e.length = n := ⟨_, rfl⟩
  obtain ⟨mp, hmp⟩ : ∃ n, (q0 :: qr).length = n := ⟨_, rfl⟩
  obtain ⟨ma, hma⟩ : ∃ n, b.length = n := ⟨_, rfl⟩
  obtain ⟨me, hme⟩ : ∃ n, f.length = n := ⟨_, rfl⟩
  have hnp' : pr.length + 1 = np := hnp
  have hmp' : qr.length + 1 = mp := hmp
  rw [hnp', hmp'] at HG
  rw [hnp] at HC HMa HV ⊢
  rw [hmp] at HC HMb HU ⊢
  rw [hna] at HC HG HMa HV ⊢
  rw [hne] at HC HG HMa HV ⊢
  rw [hma] at HC HG HMb HU ⊢
  rw [hme] at HC HG HMb HU ⊢
  clear hv hu m k hR hRap hC a0 a1 a2 b0 b1 b2 hnp hna hne hmp hma hme hnp' hmp' hpI hqI
  obtain ⟨⟨Rx, Ry, Rz⟩, Rg⟩ := R
  have z0 := three0 w (.cells #[.slice A0 np c0, .slice A1 na c1, .slice A2 ne c2, .int .i64 r] 36) (.cells #[.slice B0 mp d0, .slice B1 ma d1, .slice B2 me d2, .int .i64 s] 36) (.cells #[.int .i64 0, .int .i64 0, .int .i64 0, .int .i64 0] 40)
  have z1 := three1 w (.cells #[.slice A0 np c0, .slice A1 na c1, .slice A2 ne c2, .int .i64 r] 36) (.cells #[.slice B0 mp d0, .slice B1 ma d1, .slice B2 me d2, .int .i64 s] 36) (.cells #[.int .i64 0, .int .i64 0, .int .i64 0, .int .i64 0] 40)
  have z2 := three2 w (.cells #[.slice A0 np c0, .slice A1 na c1, .slice A2 ne c2, .int .i64 r] 36) (.cells #[.slice B0 mp d0, .slice B1 ma d1, .slice B2 me d2, .int .i64 s] 36) (.cells #[.int .i64 0, .int .i64 0, .int .i64 0, .int .i64 0] 40)
  have zb := Go.Joins.below_alloc3 w (.cells #[.slice A0 np c0, .slice A1 na c1, .slice A2 ne c2, .int .i64 r] 36) (.cells #[.slice B0 mp d0, .slice B1 ma d1, .slice B2 me d2, .int .i64 s] 36) (.cells #[.int .i64 0, .int .i64 0, .int .i64 0, .int .i64 0] 40)
  obtain ⟨w1, hw1⟩ : ∃ V, ((w.alloc (.cells #[.slice A0 np c0, .slice A1 na c1, .slice A2 ne c2, .int .i64 r] 36)).alloc (.cells #[.slice B0 mp d0, .slice B1 ma d1, .slice B2 me d2, .int .i64 s] 36)).alloc (.cells #[.int .i64 0, .int .i64 0, .int .i64 0, .int .i64 0] 40) = V := ⟨_, rfl⟩
  rw [hw1] at z0 z1 z2 zb
  have hw1' := Lh hw1
  have Z0 := Lh z0
  have Z1 := Lh z1
  have Z2 := Lh z2
  have ZB := Lh zb
  clear hw1 z0 z1 z2 zb
  go_enter Try.func25, Try.ntmps25
  go_wp2_with fail
  rw [hw1'.out]
  refine (HMa.out w1 (HV.out.below ZB.out)).mono ?_
  rintro en w2 ⟨rfl, hb⟩
  have Y0 := Lh ((hb.block _ (blk_lt Z0.out)).trans Z0.out)
  have Y1 := Lh ((hb.block _ (blk_lt Z1.out)).trans Z1.out)
  have Y2 := Lh ((hb.block _ (blk_lt Z2.out)).trans Z2.out)
  have YB := Lh (bthen ZB.out hb)
  clear hb Z0 Z1 Z2
  have x0 : w2.cell? ⟨w.heap.size + 1, 0, none⟩ = some (.slice B0 mp d0) := (blk_cell Y1.out 0).trans rfl
  have x1 : w2.cell? ⟨w.heap.size + 1, 1, none⟩ = some (.slice B1 ma d1) := (blk_cell Y1.out 1).trans rfl
  have x2 : w2.cell? ⟨w.heap.size + 1, 2, none⟩ = some (.slice B2 me d2) := (blk_cell Y1.out 2).trans rfl
  have x3 : w2.cell? ⟨w.heap.size + 1, 3, none⟩ = some (.int .i64 s) := (blk_cell Y1.out 3).trans rfl
  have l1 : w.heap.size + 1 < w2.heap.size := blk_lt Y1.out
  go_wp2_with fail
  refine (HMb.out w2 (HU.out.below YB.out)).mono ?_
  rintro en w3 ⟨rfl, hb⟩
  have Z0 := Lh ((hb.block _ (blk_lt Y0.out)).trans Y0.out)
  have Z1 := Lh ((hb.block _ (blk_lt Y1.out)).trans Y1.out)
  have Z2 := Lh ((hb.block _ (blk_lt Y2.out)).trans Y2.out)
  have ZB := Lh (bthen YB.out hb)
  clear hb Y0 Y1 Y2 YB x0 x1 x2 x3 l1
  have x0 : w3.cell? ⟨w.heap.size, 0, none⟩ = some (.slice A0 np c0) := (blk_cell Z0.out 0).trans rfl
  have x1 : w3.cell? ⟨w.heap.size, 1, none⟩ = some (.slice A1 na c1) := (blk_cell Z0.out 1).trans rfl
  have x2 : w3.cell? ⟨w.heap.size, 2, none⟩ = some (.slice A2 ne c2) := (blk_cell Z0.out 2).trans rfl
  have x3 : w3.cell? ⟨w.heap.size, 3, none⟩ = some (.int .i64 r) := (blk_cell Z0.out 3).trans rfl
  have y0 : w3.cell? ⟨w.heap.size + 1, 0, none⟩ = some (.slice B0 mp d0) := (blk_cell Z1.out 0).trans rfl
  have y1 : w3.cell? ⟨w.heap.size + 1, 1, none⟩ = some (.slice B1 ma d1) := (blk_cell Z1.out 1).trans rfl
  have y2 : w3.cell? ⟨w.heap.size + 1, 2, none⟩ = some (.slice B2 me d2) := (blk_cell Z1.out 2).trans rfl
  have y3 : w3.cell? ⟨w.heap.size + 1, 3, none⟩ = some (.int .i64 s) := (blk_cell Z1.out 3).trans rfl
  have l0 : w.heap.size < w3.heap.size := blk_lt Z0.out
  have l1 : w.heap.size + 1 < w3.heap.size := blk_lt Z1.out
  have e1 : IntKind.i64.wrap (-r) = -r := iw_id _ (by omega) (by omega)
  have e2 : IntKind.i64.wrap (-r - s) = -r - s := iw_id _ (by omega) (by omega)
  have e3 : wrap64 (-r) = -r := by unfold wrap64; omega
  have e4 : wrap64 (-r - s) = -r - s := by unfold wrap64; omega
  have b4 := (Below.refl w3.heap.size w3).alloc (Nat.le_refl _) (.cells #[.int .i64 0, .int .i64 0, .int .i64 1048576, .int .i64 (-r - s)] 40)
  have a4 := heap_alloc_new w3 (.cells #[.int .i64 0, .int .i64 0, .int .i64 1048576, .int .i64 (-r - s)] 40)
  obtain ⟨w4, hw4⟩ : ∃ V, w3.alloc (.cells #[.int .i64 0, .int .i64 0, .int .i64 1048576, .int .i64 (-r - s)] 40) = V := ⟨_, rfl⟩
  rw [hw4] at b4 a4
  have hw4' := Lh hw4
  obtain ⟨OB, hOB⟩ : ∃ g, w3.heap.size = g := ⟨_, rfl⟩
  rw [hOB] at a4
  have hlo : w.heap.size + 2 < OB := by rw [← hOB]; exact blk_lt Z2.out
  have hOB' := Lh hOB
  have V0 := Lh ((b4.block _ (blk_lt Z0.out)).trans Z0.out)
  have V1 := Lh ((b4.block _ (blk_lt Z1.out)).trans Z1.out)
  have V2 := Lh ((b4.block _ (blk_lt Z2.out)).trans Z2.out)
  have V4 := Lh a4
  have VB := Lh (bthen ZB.out b4)
  clear hw4 hOB b4 a4
  go_wp2_with fail
  rw [hw4'.out, hOB'.out]
  refine (HC.out w4 (H0.out.below VB.out) (H1.out.below VB.out) (H2.out.below VB.out) (G0.out.below VB.out) (G1.out.below VB.out) (G2.out.below VB.out)).mono ?_
  rintro en w5 ⟨A9, c9, rfl, hr9, hb, hk9⟩
  have S5 := Lh (show ASt w w5 #[.slice A0 np c0, .slice A1 na c1, .slice A2 ne c2, .int .i64 r] #[.slice B0 mp d0, .slice B1 ma d1, .slice B2 me d2, .int .i64 s] OB ((⟨0, 0, 1048576⟩ : P3), -r - s) A9 C from
    ⟨bthen VB.out hb, (hb.block _ (blk_lt V0.out)).trans V0.out, (hb.block _ (blk_lt V1.out)).trans V1.out, (hb.block _ (blk_lt V2.out)).trans V2.out, (hb.block _ (blk_lt V4.out)).trans V4.out, hr9, hlo, fun ad e => by have := hk9 ad e; have := blk_lt V4.out; omega⟩)
  obtain ⟨nc, hnc⟩ : ∃ n, C.length = n := ⟨_, rfl⟩
  have NC := Lh hnc
  have hnl : nc ≤ 68000 := by rw [← hnc]; exact HLC.out
  rw [hnc]
  have hI : Hid (rapF p0 pr r q0 qr s (C.take 0) = (((⟨0, 0, 1048576⟩ : P3), -r - s), true)) := Lh rfl
  clear hb hr9 hk9 hnc x0 x1 x2 x3 y0 y1 y2 y3 l0 l1 e1 e2 e3 e4 Z0 Z1 Z2 ZB V0 V1 V2 V4 VB HMa HMb HC
  go_wp2
  go_loopw [10, 11] (fun v10 v11 wr => ∃ j : Nat, j ≤ nc ∧ v10 = .int .i64 j ∧ Hid (ASt w wr #[.slice A0 np c0, .slice A1 na c1, .slice A2 ne c2, .int .i64 r] #[.slice B0 mp d0, .slice B1 ma d1, .slice B2 me d2, .int .i64 s] OB (rapF p0 pr r q0 qr s (C.take j)).1 A9 C)) (fun i _ _ => nc - (intOf i).toNat)
  case atStart => exact ⟨0, by omega, rfl, by rw [hI.out]; exact S5⟩
  case round =>
    clear S5
    obtain ⟨j, hj, rfl, hS⟩ := hrel
    obtain ⟨wq, hwq⟩ : ∃ x : World, x = wr := ⟨_, rfl⟩
    subst hwq
    by_cases hlj : j < nc
    · have hjl : j < C.length := by rw [NC.out]; exact hlj
      obtain ⟨gn, on, rfl, lgn, f0, f1, f2⟩ := hS.out.rd.1.get j hjl
      have hn := HCM.out _ (List.getElem_mem hjl)
      have hST := rapF_snoc p0 pr r q0 qr s C j hjl
      have hfi := rapF_first p0 pr r q0 qr s C j (by omega)
      obtain ⟨n, hnn⟩ : ∃ n, C[j] = n := ⟨_, rfl⟩
      rw [hnn] at f0 f1 f2 hn hST
      have HGn := HG.out n hn
      obtain ⟨g, hg⟩ : ∃ g, (gapsF n p0 pr r q0 qr s).1 = g := ⟨_, rfl⟩
      rw [hg] at HGn
      unfold rapStep at hST
      rw [hg] at hST
      obtain ⟨o, ho⟩ : ∃ o, rapF p0 pr r q0 qr s (C.take j) = o := ⟨_, rfl⟩
      rw [ho] at hS hST hfi
      obtain ⟨⟨⟨ox, oy, oz⟩, og⟩, ofi⟩ := o
      simp only at hfi hST
      subst hfi
      obtain ⟨nx, ny, nz⟩ := n
      simp only at f0 f1 f2
      have HST := Lh hST
      have HGn := Lh HGn
      have x0 : wq.cell? ⟨w.heap.size, 0, none⟩ = some (.slice A0 np c0) := (blk_cell hS.out.z0 0).trans rfl
      have x1 : wq.cell? ⟨w.heap.size, 1, none⟩ = some (.slice A1 na c1) := (blk_cell hS.out.z0 1).trans rfl
      have x2 : wq.cell? ⟨w.heap.size, 2, none⟩ = some (.slice A2 ne c2) := (blk_cell hS.out.z0 2).trans rfl
      have x3 : wq.cell? ⟨w.heap.size, 3, none⟩ = some (.int .i64 r) := (blk_cell hS.out.z0 3).trans rfl
      have y0 : wq.cell? ⟨w.heap.size + 1, 0, none⟩ = some (.slice B0 mp d0) := (blk_cell hS.out.z1 0).trans rfl
      have y1 : wq.cell? ⟨w.heap.size + 1, 1, none⟩ = some (.slice B1 ma d1) := (blk_cell hS.out.z1 1).trans rfl
      have y2 : wq.cell? ⟨w.heap.size + 1, 2, none⟩ = some (.slice B2 me d2) := (blk_cell hS.out.z1 2).trans rfl
      have y3 : wq.cell? ⟨w.heap.size + 1, 3, none⟩ = some (.int .i64 s) := (blk_cell hS.out.z1 3).trans rfl
      have l0 : w.heap.size < wq.heap.size := blk_lt hS.out.z0
      have l1 : w.heap.size + 1 < wq.heap.size := blk_lt hS.out.z1
      have t1 : (j : Int) < (nc : Int) := by omega
      have K0 := Lh ((Below.refl wq.heap.size wq).drew)
      clear hnn hn hg ho hST
      go_wp2
      go_region_held3 (fun w' => w'.cell? ⟨w.heap.size, 0, none⟩ = some (.slice A0 np c0) ∧ w'.cell? ⟨w.heap.size, 1, none⟩ = some (.slice A1 na c1) ∧ w'.cell? ⟨w.heap.size, 2, none⟩ = some (.slice A2 ne c2) ∧ w'.cell? ⟨w.heap.size, 3, none⟩ = some (.int .i64 r) ∧ w'.cell? ⟨w.heap.size + 1, 0, none⟩ = some (.slice B0 mp d0) ∧ w'.cell? ⟨w.heap.size + 1, 1, none⟩ = some (.slice B1 ma d1) ∧ w'.cell? ⟨w.heap.size + 1, 2, none⟩ = some (.slice B2 me d2) ∧ w'.cell? ⟨w.heap.size + 1, 3, none⟩ = some (.int .i64 s) ∧ w'.cell? ⟨gn, on + j * 3, none⟩ = some (.int .i64 nx) ∧ w'.cell? ⟨gn, on + j * 3 + 1, none⟩ = some (.int .i64 ny) ∧ w'.cell? ⟨gn, on + j * 3 + 2, none⟩ = some (.int .i64 nz))
        (first | (go_keep; done) | exact ⟨(KB.out.cell (p := ⟨_, _, none⟩) l0).trans x0, (KB.out.cell (p := ⟨_, _, none⟩) l0).trans x1, (KB.out.cell (p := ⟨_, _, none⟩) l0).trans x2, (KB.out.cell (p := ⟨_, _, none⟩) l0).trans x3, (KB.out.cell (p := ⟨_, _, none⟩) l1).trans y0, (KB.out.cell (p := ⟨_, _, none⟩) l1).trans y1, (KB.out.cell (p := ⟨_, _, none⟩) l1).trans y2, (KB.out.cell (p := ⟨_, _, none⟩) l1).trans y3, (KB.out.cell (p := ⟨_, _, none⟩) lgn).trans f0, (KB.out.cell (p := ⟨_, _, none⟩) lgn).trans f1, (KB.out.cell (p := ⟨_, _, none⟩) lgn).trans f2⟩)
        ((go_at_call 64; refine (HGn.out _ (H0.out.below (bthen hS.out.below K0.out)) (G0.out.below (bthen hS.out.below K0.out))).mono ?_; rintro en w6 ⟨rfl, hb⟩; have KB := Lh (K0.out.trans (hb.mono (Nat.le_refl _)))))
      have hS6 := Lh (hS.out.then KB.out)
      have f0' := (KB.out.cell (p := ⟨_, _, none⟩) lgn).trans f0
      have f1' := (KB.out.cell (p := ⟨_, _, none⟩) lgn).trans f1
      have f2' := (KB.out.cell (p := ⟨_, _, none⟩) lgn).trans f2
      clear x0 x1 x2 x3 y0 y1 y2 y3 l0 l1 f0 f1 f2 lgn hS K0 KB hb HGn
      have g0 : w6.cell? ⟨OB, 0, none⟩ = some (.int .i64 ox) := (blk_cell hS6.out.ob 0).trans rfl
      have g1 : w6.cell? ⟨OB, 1, none⟩ = some (.int .i64 oy) := (blk_cell hS6.out.ob 1).trans rfl
      have g2 : w6.cell? ⟨OB, 2, none⟩ = some (.int .i64 oz) := (blk_cell hS6.out.ob 2).trans rfl
      have g3 : w6.cell? ⟨OB, 3, none⟩ = some (.int .i64 og) := (blk_cell hS6.out.ob 3).trans rfl
      have h0 : w6.frozen? ⟨OB, 0, none⟩ = false := blk_frozen hS6.out.ob 0
      have h1 : w6.frozen? ⟨OB, 1, none⟩ = false := blk_frozen hS6.out.ob 1
      have h2 : w6.frozen? ⟨OB, 2, none⟩ = false := blk_frozen hS6.out.ob 2
      have h3 : w6.frozen? ⟨OB, 3, none⟩ = false := blk_frozen hS6.out.ob 3
      have lOB : OB < w6.heap.size := blk_lt hS6.out.ob
      by_cases hj0 : j = 0
      · have d0 : ((j : Int) == 0) = true := by simp; omega
        have hE := Lh (show (rapF p0 pr r q0 qr s (C.take (j + 1))).1 = ((⟨nx, ny, nz⟩ : P3), g) by rw [HST.out, if_pos (.inl (decide_eq_true hj0))])
        have hS7 := Lh (hS6.out.put nx ny nz g)
        clear hj0
        go_wp2
        go_roundw
        case rel => exact ⟨j + 1, by omega, by go_num, by rw [hE.out]; exact hS7⟩
        case measure => simp [intOf]; omega
      · have d0 : ((j : Int) == 0) = false := by simp; omega
        by_cases hgt : og < g
        · have d1 : decide (og < g) = true := decide_eq_true hgt
          have hE := Lh (show (rapF p0 pr r q0 qr s (C.take (j + 1))).1 = ((⟨nx, ny, nz⟩ : P3), g) by rw [HST.out, if_pos (.inr hgt)])
          have hS7 := Lh (hS6.out.put nx ny nz g)
          clear hj0 hgt
          go_wp2
          go_roundw
          case rel => exact ⟨j + 1, by omega, by go_num, by rw [hE.out]; exact hS7⟩
          case measure => simp [intOf]; omega
        · have d1 : decide (og < g) = false := decide_eq_false hgt
          have hE := Lh (show (rapF p0 pr r q0 qr s (C.take (j + 1))).1 = ((⟨ox, oy, oz⟩ : P3), og) by rw [HST.out, if_neg (by rintro (h | h); exact hj0 (of_decide_eq_true h); exact hgt h)])
          clear hj0 hgt
          go_wp2
          go_roundw
          case rel => exact ⟨j + 1, by omega, by go_num, by rw [hE.out]; exact hS6⟩
          case measure => simp [intOf]; omega
    · obtain rfl : j = nc := by omega
      have hE := (show (rapF p0 pr r q0 qr s (C.take j)).1 = ((⟨Rx, Ry, Rz⟩ : P3), Rg) by rw [List.take_of_length_le (by rw [NC.out]; exact Nat.le_refl _)]; exact HRap.out)
      rw [hE] at hS
      clear hE
      have g0 : wq.cell? ⟨OB, 0, none⟩ = some (.int .i64 Rx) := (blk_cell hS.out.ob 0).trans rfl
      have g1 : wq.cell? ⟨OB, 1, none⟩ = some (.int .i64 Ry) := (blk_cell hS.out.ob 1).trans rfl
      have g2 : wq.cell? ⟨OB, 2, none⟩ = some (.int .i64 Rz) := (blk_cell hS.out.ob 2).trans rfl
      have g3 : wq.cell? ⟨OB, 3, none⟩ = some (.int .i64 Rg) := (blk_cell hS.out.ob 3).trans rfl
      have lOB : OB < wq.heap.size := blk_lt hS.out.ob
      have v0 : wq.cell? ⟨w.heap.size + 1 + 1, 0, none⟩ = some (.int .i64 0) := (blk_cell hS.out.z2 0).trans rfl
      have v1 : wq.cell? ⟨w.heap.size + 1 + 1, 1, none⟩ = some (.int .i64 0) := (blk_cell hS.out.z2 1).trans rfl
      have v2 : wq.cell? ⟨w.heap.size + 1 + 1, 2, none⟩ = some (.int .i64 0) := (blk_cell hS.out.z2 2).trans rfl
      have v3 : wq.cell? ⟨w.heap.size + 1 + 1, 3, none⟩ = some (.int .i64 0) := (blk_cell hS.out.z2 3).trans rfl
      have e0 : wq.frozen? ⟨w.heap.size + 1 + 1, 0, none⟩ = false := blk_frozen hS.out.z2 0
      have e1 : wq.frozen? ⟨w.heap.size + 1 + 1, 1, none⟩ = false := blk_frozen hS.out.z2 1
      have e2 : wq.frozen? ⟨w.heap.size + 1 + 1, 2, none⟩ = false := blk_frozen hS.out.z2 2
      have e3 : wq.frozen? ⟨w.heap.size + 1 + 1, 3, none⟩ = false := blk_frozen hS.out.z2 3
      have l2 : w.heap.size + 1 + 1 < wq.heap.size := blk_lt hS.out.z2
      obtain ⟨V, hV⟩ : ∃ V, set4 wq (w.heap.size + 1 + 1) (.int .i64 Rx) (.int .i64 Ry) (.int .i64 Rz) (.int .i64 Rg) = V := ⟨_, rfl⟩
      have HV2 : V.heap[w.heap.size + 1 + 1]? = some (.cells #[.int .i64 Rx, .int .i64 Ry, .int .i64 Rz, .int .i64 Rg] 40 (0, 0)) := by rw [← hV]; exact blk4_set hS.out.z2 _ _ _ _
      have HBV : Below w.heap.size w V := by rw [← hV]; exact below_set4 hS.out.below (by omega) _ _ _ _
      have HBV := Lh HBV
      have t0 : V.cell? ⟨w.heap.size + 1 + 1, 0, none⟩ = some (.int .i64 Rx) := (blk_cell HV2 0).trans rfl
      have t1 : V.cell? ⟨w.heap.size + 1 + 1, 1, none⟩ = some (.int .i64 Ry) := (blk_cell HV2 1).trans rfl
      have t2 : V.cell? ⟨w.heap.size + 1 + 1, 2, none⟩ = some (.int .i64 Rz) := (blk_cell HV2 2).trans rfl
      have t3 : V.cell? ⟨w.heap.size + 1 + 1, 3, none⟩ = some (.int .i64 Rg) := (blk_cell HV2 3).trans rfl
      clear HV2 hS
      go_wp2
      (try rw [hV])
      exact bodyPost_ret (v := .tuple #[.agg #[.int .i64 Rx, .int .i64 Ry, .int .i64 Rz, .int .i64 Rg], .bool true]) (by simp [results, Try.results25, go_sem, t0, t1, t2, t3]) rfl ⟨rfl, HBV.out⟩
end Go.Proofs.Ytckdhahceelckaa.G
namespace Go.Proofs.Ytckdhahceelckaa.G
open Go.RowKit Go.Proofs.YtckdhahceelckaaW.PrintWords Go.Proofs.YtckdhahceelckaaW.PrintLast Go.Proofs.YtckdhahceelckaaW.PrintMore
attribute [local go_sem] max2_mx min2_mn max_two min_two max_three min_three max_four min_four
attribute [local go_sem high] eqA23
set_option linter.unusedVariables false
set_option linter.unusedSimpArgs false
set_option maxHeartbeats 2000000 in
theorem apart_noa (v0 v1 v2 v3 u0 u1 u2 u3 : Value) (w : World) (ha : MaySays w (.agg #[v0, v1, v2, v3]) false) :
    Calls Try.prog 20 #[.agg #[v0, v1, v2, v3], .agg #[u0, u1, u2, u3]] w fun e w' => e = .returned (.tuple #[.agg #[.int .i64 0, .int .i64 0, .int .i64 0, .int .i64 0], .bool false]) ∧ Below w.heap.size w w' := by
  have HA := Lh ha
  clear ha
  have Hb0 := three1 w (.cells #[v0, v1, v2, v3] 36) (.cells #[u0, u1, u2, u3] 36) (.cells #[.int .i64 0, .int .i64 0, .int .i64 0, .int .i64 0] 40)
  have Hr0 := three2 w (.cells #[v0, v1, v2, v3] 36) (.cells #[u0, u1, u2, u3] 36) (.cells #[.int .i64 0, .int .i64 0, .int .i64 0, .int .i64 0] 40)
  have HW3 : Below w.heap.size w (((w.alloc (.cells #[v0, v1, v2, v3] 36)).alloc (.cells #[u0, u1, u2, u3] 36)).alloc (.cells #[.int .i64 0, .int .i64 0, .int .i64 0, .int .i64 0] 40)) := (((Below.refl _ w).alloc (Nat.le_refl _) _).alloc (by simp) _).alloc (by simp; omega) _
  have HB0 := Lh Hb0
  have HR0 := Lh Hr0
  clear Hb0 Hr0
  go_enter Try.func20, Try.ntmps20
  go_wp2_with fail
  obtain ⟨w3, hw3⟩ : ∃ w3, ((w.alloc (.cells #[v0, v1, v2, v3] 36)).alloc (.cells #[u0, u1, u2, u3] 36)).alloc (.cells #[.int .i64 0, .int .i64 0, .int .i64 0, .int .i64 0] 40) = w3 := ⟨_, rfl⟩
  rw [hw3] at HB0 HR0 HW3 ⊢
  clear hw3
  refine (HA.out _ HW3).mono ?_
  rintro e w4 ⟨rfl, hb4⟩
  have Hr4 := (hb4.block _ (blk_lt HR0.out)).trans HR0.out
  have HW4 := bthen HW3 hb4
  clear HB0 HR0 HW3 hb4
  have v0 : w4.cell? ⟨w.heap.size + 1 + 1, 0, none⟩ = some (.int .i64 0) := (blk_cell Hr4 0).trans rfl
  have v1 : w4.cell? ⟨w.heap.size + 1 + 1, 1, none⟩ = some (.int .i64 0) := (blk_cell Hr4 1).trans rfl
  have v2 : w4.cell? ⟨w.heap.size + 1 + 1, 2, none⟩ = some (.int .i64 0) := (blk_cell Hr4 2).trans rfl
  have v3 : w4.cell? ⟨w.heap.size + 1 + 1, 3, none⟩ = some (.int .i64 0) := (blk_cell Hr4 3).trans rfl
  have f0 : w4.frozen? ⟨w.heap.size + 1 + 1, 0, none⟩ = false := blk_frozen Hr4 0
  have f1 : w4.frozen? ⟨w.heap.size + 1 + 1, 1, none⟩ = false := blk_frozen Hr4 1
  have f2 : w4.frozen? ⟨w.heap.size + 1 + 1, 2, none⟩ = false := blk_frozen Hr4 2
  have f3 : w4.frozen? ⟨w.heap.size + 1 + 1, 3, none⟩ = false := blk_frozen Hr4 3
  obtain ⟨V, hV⟩ : ∃ V, set4 w4 (w.heap.size + 1 + 1) (.int .i64 0) (.int .i64 0) (.int .i64 0) (.int .i64 0) = V := ⟨_, rfl⟩
  have HV : V.heap[w.heap.size + 1 + 1]? = some (.cells #[.int .i64 0, .int .i64 0, .int .i64 0, .int .i64 0] 40 (0, 0)) := by rw [← hV]; exact blk4_set Hr4 _ _ _ _
  have HBV : Below w.heap.size w V := by rw [← hV]; exact below_set4 HW4 (by omega) _ _ _ _
  have t0 : V.cell? ⟨w.heap.size + 1 + 1, 0, none⟩ = some (.int .i64 0) := (blk_cell HV 0).trans rfl
  have t1 : V.cell? ⟨w.heap.size + 1 + 1, 1, none⟩ = some (.int .i64 0) := (blk_cell HV 1).trans rfl
  have t2 : V.cell? ⟨w.heap.size + 1 + 1, 2, none⟩ = some (.int .i64 0) := (blk_cell HV 2).trans rfl
  have t3 : V.cell? ⟨w.heap.size + 1 + 1, 3, none⟩ = some (.int .i64 0) := (blk_cell HV 3).trans rfl
  go_wp2
  (try rw [hV])
  exact bodyPost_ret (v := .tuple #[.agg #[.int .i64 0, .int .i64 0, .int .i64 0, .int .i64 0], .bool false]) (by simp [results, Try.results20, go_sem, t0, t1, t2, t3]) rfl ⟨rfl, HBV⟩
/-- May's answer in every later world -/
def RMaySays (w : World) (v : Value) (b : Bool) : Prop := ∀ w', Below w.heap.size w w' → Calls Try.prog 62 #[v] w' fun e w'' => e = .returned (.bool b) ∧ Below w'.heap.size w' w''
set_option maxHeartbeats 2000000 in
theorem rapart_no (v0 v1 v2 v3 u0 u1 u2 u3 : Value) (w : World) (ba bb : Bool) (hab : (ba && bb) = false) (ha : RMaySays w (.agg #[v0, v1, v2, v3]) ba) (hb : RMaySays w (.agg #[u0, u1, u2, u3]) bb) :
    Calls Try.prog 25 #[.agg #[v0, v1, v2, v3], .agg #[u0, u1, u2, u3]] w fun e w' => e = .returned (.tuple #[.agg #[.int .i64 0, .int .i64 0, .int .i64 0, .int .i64 0], .bool false]) ∧ Below w.heap.size w w' := by
  have HA := Lh ha
  have HB := Lh hb
  clear ha hb
  have Hb0 := three1 w (.cells #[v0, v1, v2, v3] 36) (.cells #[u0, u1, u2, u3] 36) (.cells #[.int .i64 0, .int .i64 0, .int .i64 0, .int .i64 0] 40)
  have Hr0 := three2 w (.cells #[v0, v1, v2, v3] 36) (.cells #[u0, u1, u2, u3] 36) (.cells #[.int .i64 0, .int .i64 0, .int .i64 0, .int .i64 0] 40)
  have HW3 : Below w.heap.size w (((w.alloc (.cells #[v0, v1, v2, v3] 36)).alloc (.cells #[u0, u1, u2, u3] 36)).alloc (.cells #[.int .i64 0, .int .i64 0, .int .i64 0, .int .i64 0] 40)) := (((Below.refl _ w).alloc (Nat.le_refl _) _).alloc (by simp) _).alloc (by simp; omega) _
  have HB0 := Lh Hb0
  have HR0 := Lh Hr0
  clear Hb0 Hr0
  go_enter Try.func25, Try.ntmps25
  go_wp2_with fail
  obtain ⟨w3, hw3⟩ : ∃ w3, ((w.alloc (.cells #[v0, v1, v2, v3] 36)).alloc (.cells #[u0, u1, u2, u3] 36)).alloc (.cells #[.int .i64 0, .int .i64 0, .int .i64 0, .int .i64 0] 40) = w3 := ⟨_, rfl⟩
  rw [hw3] at HB0 HR0 HW3 ⊢
  clear hw3
  refine (HA.out _ HW3).mono ?_
  rintro e w4 ⟨rfl, hb4⟩
  have Hb4 := (hb4.block _ (blk_lt HB0.out)).trans HB0.out
  have Hr4 := (hb4.block _ (blk_lt HR0.out)).trans HR0.out
  have HW4 := bthen HW3 hb4
  clear HB0 HR0 HW3 hb4
  have x0 : w4.cell? ⟨w.heap.size + 1, 0, none⟩ = some u0 := (blk_cell Hb4 0).trans rfl
  have x1 : w4.cell? ⟨w.heap.size + 1, 1, none⟩ = some u1 := (blk_cell Hb4 1).trans rfl
  have x2 : w4.cell? ⟨w.heap.size + 1, 2, none⟩ = some u2 := (blk_cell Hb4 2).trans rfl
  have x3 : w4.cell? ⟨w.heap.size + 1, 3, none⟩ = some u3 := (blk_cell Hb4 3).trans rfl
  go_wp2_with fail
  refine (HB.out _ HW4).mono ?_
  rintro e w5 ⟨rfl, hb5⟩
  have Hr5 := (hb5.block _ (blk_lt Hr4)).trans Hr4
  have HW5 := bthen HW4 hb5
  clear Hb4 Hr4 HW4 hb5 x0 x1 x2 x3
  have v0 : w5.cell? ⟨w.heap.size + 1 + 1, 0, none⟩ = some (.int .i64 0) := (blk_cell Hr5 0).trans rfl
  have v1 : w5.cell? ⟨w.heap.size + 1 + 1, 1, none⟩ = some (.int .i64 0) := (blk_cell Hr5 1).trans rfl
  have v2 : w5.cell? ⟨w.heap.size + 1 + 1, 2, none⟩ = some (.int .i64 0) := (blk_cell Hr5 2).trans rfl
  have v3 : w5.cell? ⟨w.heap.size + 1 + 1, 3, none⟩ = some (.int .i64 0) := (blk_cell Hr5 3).trans rfl
  have f0 : w5.frozen? ⟨w.heap.size + 1 + 1, 0, none⟩ = false := blk_frozen Hr5 0
  have f1 : w5.frozen? ⟨w.heap.size + 1 + 1, 1, none⟩ = false := blk_frozen Hr5 1
  have f2 : w5.frozen? ⟨w.heap.size + 1 + 1, 2, none⟩ = false := blk_frozen Hr5 2
  have f3 : w5.frozen? ⟨w.heap.size + 1 + 1, 3, none⟩ = false := blk_frozen Hr5 3
  obtain ⟨V, hV⟩ : ∃ V, set4 w5 (w.heap.size + 1 + 1) (.int .i64 0) (.int .i64 0) (.int .i64 0) (.int .i64 0) = V := ⟨_, rfl⟩
  have HV : V.heap[w.heap.size + 1 + 1]? = some (.cells #[.int .i64 0, .int .i64 0, .int .i64 0, .int .i64 0] 40 (0, 0)) := by rw [← hV]; exact blk4_set Hr5 _ _ _ _
  have HBV : Below w.heap.size w V := by rw [← hV]; exact below_set4 HW5 (by omega) _ _ _ _
  have t0 : V.cell? ⟨w.heap.size + 1 + 1, 0, none⟩ = some (.int .i64 0) := (blk_cell HV 0).trans rfl
  have t1 : V.cell? ⟨w.heap.size + 1 + 1, 1, none⟩ = some (.int .i64 0) := (blk_cell HV 1).trans rfl
  have t2 : V.cell? ⟨w.heap.size + 1 + 1, 2, none⟩ = some (.int .i64 0) := (blk_cell HV 2).trans rfl
  have t3 : V.cell? ⟨w.heap.size + 1 + 1, 3, none⟩ = some (.int .i64 0) := (blk_cell HV 3).trans rfl
  cases ba
  all_goals cases bb
  all_goals (first | (cases hab; done) | skip)
  all_goals clear hab
  all_goals go_wp2
  all_goals (try rw [hV])
  all_goals exact bodyPost_ret (v := .tuple #[.agg #[.int .i64 0, .int .i64 0, .int .i64 0, .int .i64 0], .bool false]) (by simp [results, Try.results25, go_sem, t0, t1, t2, t3]) rfl ⟨rfl, HBV⟩
/-- Apart's whole answer -/
def apartS (p a e : List P3) (r : Int) (q b f : List P3) (s : Int) : (P3 × Int) × Bool := if (mayF p a e r && mayF q b f s) = true then (apartF p a e r q b f s, true) else ((⟨0, 0, 0⟩, 0), false)
theorem apart_all {w : World} {v u : Value} {p a e : List P3} {r : Int} {q b f : List P3} {s : Int} (hv : CoreV w v p a e r) (hu : CoreV w u q b f s) (R : (P3 × Int) × Bool) (hR : apartS p a e r q b f s = R) :
    Calls Try.prog 20 #[v, u] w fun en w' => en = .returned (.tuple #[.agg #[.int .i64 R.1.1.x, .int .i64 R.1.1.y, .int .i64 R.1.1.z, .int .i64 R.1.2], .bool R.2]) ∧ Below w.heap.size w w' := by
  subst hR
  have ha := may_all hv
  have hb := may_all hu
  obtain ⟨A0, A1, A2, c0, c1, c2, hve, _⟩ := hv.out
  obtain ⟨B0, B1, B2, d0, d1, d2, hue, _⟩ := hu.out
  unfold apartS
  cases h1 : mayF p a e r with
  | false =>
    rw [h1] at ha
    subst hve hue
    exact apart_noa _ _ _ _ _ _ _ _ w ha
  | true =>
    cases h2 : mayF q b f s with
    | false =>
      rw [h1] at ha
      rw [h2] at hb
      subst hve hue
      exact apart_nob _ _ _ _ _ _ _ _ w ha hb
    | true => exact apart_calls p a e r q b f s v u w hv hu ((mayF_iff p a e r).1 h1) ((mayF_iff q b f s).1 h2) _ rfl
theorem rapart_all {w : World} {v u : Value} {p a e : List P3} {r : Int} {q b f : List P3} {s : Int} (hv : CoreV w v p a e r) (hu : CoreV w u q b f s) (hl : p.length < 9223372036854775807 ∧ a.length < 9223372036854775807 ∧ e.length < 9223372036854775807) (hk : q.length < 9223372036854775807 ∧ b.length < 9223372036854775807 ∧ f.length < 9223372036854775807) (R : (P3 × Int) × Bool) (hR : apartS p a e r q b f s = R) :
    Calls Try.prog 25 #[v, u] w fun en w' => en = .returned (.tuple #[.agg #[.int .i64 R.1.1.x, .int .i64 R.1.1.y, .int .i64 R.1.1.z, .int .i64 R.1.2], .bool R.2]) ∧ Below w.heap.size w w' := by
  subst hR
  have ha : RMaySays w v (mayF p a e r) := fun W hW => rmay_calls (hv.below hW) hl.1 hl.2.1 hl.2.2
  have hb : RMaySays w u (mayF q b f s) := fun W hW => rmay_calls (hu.below hW) hk.1 hk.2.1 hk.2.2
  obtain ⟨A0, A1, A2, c0, c1, c2, hve, _⟩ := hv.out
  obtain ⟨B0, B1, B2, d0, d1, d2, hue, _⟩ := hu.out
  unfold apartS
  cases h : (mayF p a e r && mayF q b f s) with
  | false =>
    subst hve hue
    exact rapart_no _ _ _ _ _ _ _ _ w _ _ h ha hb
  | true =>
    rw [Bool.and_eq_true] at h
    exact rapart_yes hv hu ((mayF_iff p a e r).1 h.1) ((mayF_iff q b f s).1 h.2) _ rfl
end Go.Proofs.Ytckdhahceelckaa.G
namespace Go.Proofs.Ytckdhahceelckaa.G
open Go.RowKit Go.Proofs.YtckdhahceelckaaW.PrintWords Go.Proofs.YtckdhahceelckaaW.PrintLast Go.Proofs.YtckdhahceelckaaW.PrintMore
set_option linter.unusedVariables false
set_option linter.unusedSimpArgs false
/-- a core: points, axes, edges, radius -/
structure Cr where
  p : List P3
  a : List P3
  e : List P3
  r : Int
/-- a value speaks of a core -/
def CrV (w : World) (v : Value) (c : Cr) : Prop := CoreV w v c.p c.a c.e c.r
theorem CrV.below {w w1 : World} {v : Value} {c : Cr} (h : CrV w v c) (hb : Below w.heap.size w w1) : CrV w1 v c := CoreV.below h hb
def Cr.may (c : Cr) : Bool := mayF c.p c.a c.e c.r
abbrev Cr0 : Cr := ⟨[], [], [], 0⟩
/-- narrow.Apart of any two -/
def apS (c d : Cr) : (P3 × Int) × Bool := apartS c.p c.a c.e c.r d.p d.a d.e d.r
theorem apS_may (c d : Cr) : (apS c d).2 = (c.may && d.may) := by
  unfold apS apartS Cr.may
  split
  · rename_i h; exact h.symm
  · rename_i h; simpa using h
theorem apS_val {c d : Cr} (hc : c.may = true) (hd : d.may = true) : apS c d = (apartF c.p c.a c.e c.r d.p d.a d.e d.r, true) := by
  unfold apS apartS Cr.may at *
  rw [hc, hd]; rfl
theorem Cr.mayP {c : Cr} (h : c.may = true) : MayP c.p c.a c.e c.r := (mayF_iff ..).1 h
theorem mayOne {x : P3} (h : in3 16777216 x) {r : Int} (h0 : 0 ≤ r) (h1 : r ≤ 65536) : (⟨[x], [], [], r⟩ : Cr).may = true :=
  (mayF_iff ..).2 ⟨by simp, by simp, by simp, by simp, h0, h1, by simpa using (far3_iff _ _ (by decide) (by decide)).2 h, rfl, rfl⟩
/-- may a way be? -/
def wayOk (y : P3) : Bool := decide (mx (mx y.x y.y) y.z ≤ 4194304) && decide (mn (mn y.x y.y) y.z ≥ -4194304)
theorem wayOk_iff (y : P3) : wayOk y = true ↔ in3 4194304 y := by
  have a := mx_facts y.x y.y
  have b := mx_facts (mx y.x y.y) y.z
  have c := mn_facts y.x y.y
  have d := mn_facts (mn y.x y.y) y.z
  unfold wayOk in3
  simp only [Bool.and_eq_true, decide_eq_true_eq]
  omega
def smay (c : Cr) (y : P3) : Bool := c.may && decide (c.p.length ≤ 16) && wayOk y
theorem smay_iff (c : Cr) (y : P3) : smay c y = true ↔ c.may = true ∧ c.p.length ≤ 16 ∧ in3 4194304 y := by
  unfold smay
  rw [Bool.and_eq_true, Bool.and_eq_true, decide_eq_true_eq, wayOk_iff, and_assoc]
/-- a part of the way -/
def partP (y : P3) (k : Int) : P3 := ⟨(y.x * k).tdiv 16, (y.y * k).tdiv 16, (y.z * k).tdiv 16⟩
def withF (l m : List P3) : List P3 := ((l ++ m).filter nz).take 128
def acrossF (y : P3) (l : List P3) : List P3 := l.map fun e => short3 (cross3 e (short3 y))
def trailF (c : Cr) (y : P3) (k : Int) : Cr :=
  if smay c y = true ∧ 0 ≤ k ∧ k ≤ 16 then ⟨c.p ++ c.p.map (plusI (partP y k)), withF c.a (acrossF y c.e), withF c.e [short3 y], c.r⟩ else Cr0
theorem trailF_yes {c : Cr} {y : P3} {k : Int} (h : smay c y = true) (h0 : 0 ≤ k) (h1 : k ≤ 16) :
    trailF c y k = ⟨c.p ++ c.p.map (plusI (partP y k)), withF c.a (acrossF y c.e), withF c.e [short3 y], c.r⟩ := if_pos ⟨h, h0, h1⟩
theorem tdiv16 (x k : Int) (h0 : 0 ≤ k) (h1 : k ≤ 16) : (0 ≤ x → 0 ≤ (x * k).tdiv 16 ∧ (x * k).tdiv 16 ≤ x) ∧ (x ≤ 0 → x ≤ (x * k).tdiv 16 ∧ (x * k).tdiv 16 ≤ 0) := by
  constructor
  · intro hx
    have e0 := Int.mul_nonneg hx h0
    have e1 := Int.mul_le_mul_of_nonneg_left h1 hx
    rw [Int.tdiv_eq_ediv_of_nonneg e0]
    omega
  · intro hx
    have e0 := Int.mul_nonneg (show 0 ≤ -x by omega) h0
    have e1 := Int.mul_le_mul_of_nonneg_left h1 (show 0 ≤ -x by omega)
    rw [Int.neg_mul] at e0 e1
    rw [← Int.neg_neg (x * k), Int.neg_tdiv, Int.tdiv_eq_ediv_of_nonneg e0]
    omega
theorem partP_bd (y : P3) (k : Int) (h0 : 0 ≤ k) (h1 : k ≤ 16) (B : Int) (hy : in3 B y) (hB : 0 ≤ B) : in3 B (partP y k) := by
  have a := tdiv16 y.x k h0 h1
  have b := tdiv16 y.y k h0 h1
  have c := tdiv16 y.z k h0 h1
  unfold in3 partP at *
  simp only
  omega
theorem partP_16 (y : P3) : partP y 16 = y := by
  unfold partP
  simp
theorem withF_len (l m : List P3) : (withF l m).length ≤ 128 := by
  unfold withF; rw [List.length_take]; exact Nat.min_le_left _ _
theorem withF_in {l m : List P3} {B : Int} (hl : ∀ x ∈ l, in3 B x) (hm : ∀ x ∈ m, in3 B x) : ∀ x ∈ withF l m, in3 B x := by
  intro x hx
  have h := List.mem_of_mem_take hx
  rcases List.mem_append.1 (List.mem_filter.1 h).1 with h | h
  · exact hl x h
  · exact hm x h
theorem acrossF_in (y : P3) (l : List P3) : ∀ x ∈ acrossF y l, in3 1048576 x := by
  intro x hx
  obtain ⟨e, _, rfl⟩ := List.mem_map.1 hx
  exact short3_in _
theorem any_far_of {l : List P3} {n : Int} (h0 : 0 ≤ n) (h1 : n ≤ 9223372036854775807) (h : ∀ x ∈ l, in3 n x) : l.any (far3 n) = false := by
  rw [List.any_eq_false]
  intro x hx
  rw [(far3_iff _ _ h0 h1).2 (h x hx)]; simp
/-- what a core takes up on its way may be, where its last place may -/
theorem trail_may {c : Cr} {y : P3} (h : smay c y = true) {k : Int} (h0 : 0 ≤ k) (h1 : k ≤ 16) (hp : ∀ x ∈ c.p, in3 16777216 (plusI (partP y k) x)) : (trailF c y k).may = true := by
  rw [trailF_yes h h0 h1]
  obtain ⟨hm, hl, hy⟩ := (smay_iff ..).1 h
  have m := Cr.mayP hm
  refine (mayF_iff ..).2 ⟨?_, ?_, withF_len _ _, withF_len _ _, m.r0, m.r1, ?_, ?_, ?_⟩
  · have := m.p0
    simp [this]
  · simp only [List.length_append, List.length_map]; omega
  · refine any_far_of (by decide) (by decide) ?_
    intro x hx
    rcases List.mem_append.1 hx with hx | hx
    · exact far_in (by decide) (by decide) m.pf x hx
    · obtain ⟨z, hz, rfl⟩ := List.mem_map.1 hx
      exact hp z hz
  · exact any_far_of (by decide) (by decide) (withF_in (far_in (by decide) (by decide) m.af) (acrossF_in _ _))
  · refine any_far_of (by decide) (by decide) (withF_in (far_in (by decide) (by decide) m.ef) ?_)
    intro x hx
    rw [List.mem_singleton] at hx
    subst hx
    exact short3_in _
theorem trail_pts {c : Cr} {y : P3} (h : smay c y = true) {k : Int} (h0 : 0 ≤ k) (h1 : k ≤ 16) (ht : (trailF c y k).may = true) : ∀ x ∈ c.p, in3 16777216 (plusI (partP y k) x) := by
  rw [trailF_yes h h0 h1] at ht
  intro x hx
  exact far_in (by decide) (by decide) (Cr.mayP ht).pf _ (List.mem_append_right _ (List.mem_map_of_mem hx))
/-- the last one has the furthest points -/
theorem trail_last {c : Cr} {y : P3} (h : smay c y = true) (ht : (trailF c y 16).may = true) {k : Int} (h0 : 0 ≤ k) (h1 : k ≤ 16) : (trailF c y k).may = true := by
  refine trail_may h h0 h1 fun x hx => ?_
  have e := trail_pts h (by decide) (by decide) ht x hx
  rw [partP_16] at e
  have f := far_in (by decide) (by decide) (Cr.mayP ((smay_iff ..).1 h).1).pf x hx
  have a := tdiv16 y.x k h0 h1
  have b := tdiv16 y.y k h0 h1
  have c := tdiv16 y.z k h0 h1
  unfold in3 plusI partP at *
  simp only at *
  omega
/-- the search for the last free part -/
def castL (c : Cr) (y : P3) (d : Cr) : Nat → Nat → P3 × Int → Nat × (P3 × Int)
  | 0, k, x => (k, x)
  | n + 1, k, x => if x.2 < 0 then (k, x) else if (apS (trailF c y ((k : Int) + 1)) d).1.2 < 0 then (k, x) else castL c y d n (k + 1) (apS (trailF c y ((k : Int) + 1)) d).1
def castOk (c : Cr) (y : P3) (d : Cr) : Bool := (apS c d).2 && smay c y && (apS (trailF c y 16) d).2
def castF (c : Cr) (y : P3) (d : Cr) : (Nat × (P3 × Int)) × Bool :=
  if castOk c y d = true then (castL c y d 16 0 (apS c d).1, true) else ((0, (⟨0, 0, 0⟩, 0)), false)
theorem castOk_iff (c : Cr) (y : P3) (d : Cr) : castOk c y d = true ↔ c.may = true ∧ d.may = true ∧ smay c y = true ∧ (trailF c y 16).may = true := by
  unfold castOk
  rw [apS_may, apS_may]
  simp only [Bool.and_eq_true]
  constructor
  · rintro ⟨⟨⟨a, b⟩, c⟩, d, e⟩; exact ⟨a, b, c, d⟩
  · rintro ⟨a, b, c, d⟩; exact ⟨⟨⟨a, b⟩, c⟩, d, b⟩
/-- what the last free part is: its answer is that of the trail up to there -/
theorem castL_spec (c : Cr) (y : P3) (d : Cr) (n : Nat) : ∀ (k : Nat) (x : P3 × Int), 
    (castL c y d n k x = (k, x)) ∨ (0 ≤ (castL c y d n k x).2.2 ∧ k < (castL c y d n k x).1 ∧ (castL c y d n k x).2 = (apS (trailF c y ((castL c y d n k x).1 : Int)) d).1) := by
  induction n with
  | zero => intro k x; exact .inl rfl
  | succ n ih =>
    intro k x
    rw [castL]
    split
    · exact .inl rfl
    · split
      · exact .inl rfl
      · rename_i h1 h2
        right
        rcases ih (k + 1) (apS (trailF c y ((k : Int) + 1)) d).1 with h | ⟨h3, h4, h5⟩
        · rw [h]
          refine ⟨by simpa using h2, Nat.lt_succ_self k, ?_⟩
          simp
        · exact ⟨h3, by omega, h5⟩
end Go.Proofs.Ytckdhahceelckaa.G
namespace Go.Proofs.Ytckdhahceelckaa.G
open Go.RowKit Go.Proofs.YtckdhahceelckaaW.PrintWords Go.Proofs.YtckdhahceelckaaW.PrintLast Go.Proofs.YtckdhahceelckaaW.PrintMore
attribute [local go_sem] max2_mx min2_mn max_two min_two max_three min_three max_four min_four
attribute [local go_sem high] eqA23
set_option linter.unusedVariables false
set_option linter.unusedSimpArgs false
/-- a list of its own -/
def OwnPost (l : List P3) (w : World) (e : Ending) (w' : World) : Prop := ∃ v, e = .returned v ∧ OwnP w' w.heap.size v l ∧ Below w.heap.size w w'
set_option maxHeartbeats 2000000 in
set_option maxRecDepth 100000 in
theorem concat_own (l0 l1 : List P3) (n0 n1 : Nat) (A0 A1 : Option Addr) (c0 c1 g : Nat) (w : World) (hn0 : l0.length = n0) (hn1 : l1.length = n1) (hg0 : w.cell? ⟨g, 0, none⟩ = some (.slice A0 n0 c0)) (hg1 : w.cell? ⟨g, 1, none⟩ = some (.slice A1 n1 c1)) (h0 : Rd w A0 l0) (h1 : Rd w A1 l1) (hb0 : n0 ≤ 40000) (hb1 : n1 ≤ 40000) :
    Calls Try.prog 116 #[.slice (some ⟨g, 0, none⟩) 2 2] w (OwnPost (l0 ++ l1) w) := by
  have H0 := Lh h0
  have H1 := Lh h1
  have N0 := Lh hn0
  have N1 := Lh hn1
  have hgl := World.block_lt_of_cell? w _ hg0
  have HG0 := Lh hg0
  have HG1 := Lh hg1
  clear h0 h1 hn0 hn1 hg0 hg1
  go_enter Try.func116, Try.ntmps116
  go_wp2
  go_loopw [3, 5, 11] (fun v3 v5 v11 wr => ∃ k : Nat, k ≤ 2 ∧ v11 = .int .i64 k ∧ v3 = .int .i64 (csz n0 n1 k) ∧ Below w.heap.size w wr) (fun _ _ i _ => 2 - (intOf i).toNat)
  case atStart => exact ⟨0, by omega, rfl, rfl, Below.refl _ _⟩
  case round =>
    obtain ⟨k, hk, rfl, rfl, hbr⟩ := hrel
    have e0 := (hbr.cell (p := ⟨g, 0, none⟩) hgl).trans HG0.out
    have e1 := (hbr.cell (p := ⟨g, 1, none⟩) hgl).trans HG1.out
    have hc : k = 0 ∨ k = 1 ∨ k = 2 := by omega
    rcases hc with rfl | rfl | rfl
    · simp only [csz, if_true]
      go_wp2
      go_roundw
      case rel => exact ⟨1, by omega, rfl, by simp [csz], hbr⟩
      case measure => simp [intOf]
    · simp only [csz, if_true, if_neg (show ¬ (1 : Nat) = 0 by omega)]
      go_wp2
      go_roundw
      case rel => exact ⟨2, by omega, rfl, by simp [csz], hbr⟩
      case measure => simp [intOf]
    · simp only [csz, if_neg (show ¬ (2 : Nat) = 0 by omega), if_neg (show ¬ (2 : Nat) = 1 by omega)]
      clear e0 e1
      go_wp2_with fail
      have hgr := grow_calls (n0 + n1) wr (by omega)
      rw [Int.natCast_add] at hgr
      refine hgr.mono ?_
      rintro e w2 ⟨v, rfl, hv, hb2⟩
      have hB2 : Below w.heap.size w w2 := bthen hbr hb2
      have hv0 : OwnP w2 w.heap.size v [] := own_weaken hv hbr.size
      clear hgr hv hb2
      go_wp2
      clear hbr
      go_loopw [6, 8, 27] (fun v6 v8 v27 wr => ∃ k : Nat, k ≤ 2 ∧ v27 = .int .i64 k ∧ Hid (OwnP wr w.heap.size v6 (cpt l0 l1 k)) ∧ Hid (Below w.heap.size w wr)) (fun _ _ i _ => 2 - (intOf i).toNat)
      case atStart => exact ⟨0, by omega, rfl, hv0, hB2⟩
      case round =>
        clear hv0 hB2
        obtain ⟨k, hk, rfl, hv, hbr⟩ := hrel
        have hbr2 := hbr.out
        have e0 := (hbr2.cell (p := ⟨g, 0, none⟩) hgl).trans HG0.out
        have e1 := (hbr2.cell (p := ⟨g, 1, none⟩) hgl).trans HG1.out
        have hc : k = 0 ∨ k = 1 ∨ k = 2 := by omega
        rcases hc with rfl | rfl | rfl
        · go_wp2_with (at_builtin; refine append_pts w.heap.size rfl _ _ rfl _ [] l0 A0 _ _ rfl rfl hv.out (H0.out.below hbr2) N0.out (by simp; omega) hbr2.size ?_; intro v2 w3 hv2 hg2)
          go_roundw
          case rel => exact ⟨1, by omega, rfl, hv2, hbr2.grown hg2 hbr2.size (fun k hk => hv.out.base_ k hk)⟩
          case measure => simp [intOf]
        · go_wp2_with (at_builtin; refine append_pts w.heap.size rfl _ _ rfl _ l0 l1 A1 _ _ rfl rfl hv.out (H1.out.below hbr2) N1.out (by rw [N0.out]; omega) hbr2.size ?_; intro v2 w3 hv2 hg2)
          go_roundw
          case rel => exact ⟨2, by omega, rfl, hv2, hbr2.grown hg2 hbr2.size (fun k hk => hv.out.base_ k hk)⟩
          case measure => simp [intOf]
        · clear e0 e1
          go_wp2
          go_ret
          exact ⟨_, rfl, hv.out, hbr2⟩
set_option maxHeartbeats 2000000 in
/-- slices.DeleteFunc of a slice that is none -/
theorem delete_none (w : World) : Calls Try.prog 126 #[.slice none 0 0, .func (.func 127) #[] #[]] w fun e w' => e = .returned (.slice none 0 0) ∧ Below w.heap.size w w' := by
  have HI := Lh (index0_calls [] none 0 w (Rd.nil _ _) (Nat.le_refl _) (by decide))
  have hx : idx0 [] = -1 := rfl
  rw [hx, List.length_nil] at HI
  go_enter Try.func126, Try.ntmps126
  go_wp2_with fail
  with_reducible refine HI.out.mono ?_
  rintro e w1 ⟨rfl, hb⟩
  go_wp2
  go_ret
  exact ⟨rfl, hb⟩
theorem OwnP.lenB {w : World} {base : Nat} {v : Value} {l : List P3} (h : OwnP w base v l) : (v = .slice none 0 0 ∧ l = []) ∨ ∃ g c, v = .slice (some ⟨g, 0, none⟩) l.length c ∧ l.length ≤ c := by
  obtain ⟨hx, h2⟩ := h
  rcases h2 with ⟨e, hn⟩ | ⟨g', cap, cur, e, hb, hg, hnc, hm, hsz, ht⟩
  · exact .inl ⟨e, List.eq_nil_of_length_eq_zero hn⟩
  · exact .inr ⟨g', cap, e, hnc⟩
theorem delete_own (l : List P3) (base : Nat) (v : Value) (w : World) (h : OwnP w base v l) (hl : l.length ≤ 40000) (hb : base ≤ w.heap.size) :
    Calls Try.prog 126 #[v, .func (.func 127) #[] #[]] w fun e w' => ∃ u, e = .returned u ∧ OwnP w' base u (l.filter nz) ∧ Below base w w' := by
  rcases h.lenB with ⟨rfl, rfl⟩ | ⟨g, c, rfl, hc⟩
  · refine (delete_none w).mono ?_
    rintro e w' ⟨rfl, hb2⟩
    exact ⟨_, rfl, OwnP.nil _ _, hb2.mono hb⟩
  · have hz := h.fz
    refine (delete_calls l g _ c base w h hl).mono ?_
    rintro e w' ⟨m, rfl, ho, hg⟩
    exact ⟨_, rfl, ho, below_gb (Below.refl _ _) hg hz.2.2.1 hb⟩
theorem filter_len (l : List P3) : (l.filter nz).length ≤ l.length := List.length_filter_le _ _
set_option maxHeartbeats 4000000 in
set_option maxRecDepth 100000 in
theorem with_calls (l m : List P3) (n k : Nat) (A B : Option Addr) (c d : Nat) (w : World) (hn : l.length = n) (hk : m.length = k) (hA : Rd w A l) (hB : Rd w B m) (hn1 : n ≤ 10000) (hk1 : k ≤ 10000) :
    Calls Try.prog 79 #[.slice A n c, .slice B k d] w (PtsPostB (withF l m) w) := by
  have HC := Lh (concat_own l m n k A B c d w.heap.size (w.alloc (.cells #[.slice A n c, .slice B k d] 24)) hn hk (by simp) (by simp) (hA.alloc _) (hB.alloc _) (by omega) (by omega))
  have HL : Hid ((l ++ m).length ≤ 20000) := Lh (by rw [List.length_append]; omega)
  have HW : Hid (withF l m = ((l ++ m).filter nz).take 128) := Lh rfl
  obtain ⟨L, hL⟩ : ∃ L, l ++ m = L := ⟨_, rfl⟩
  rw [hL] at HC HL HW
  clear hn hk hL hA hB
  go_enter Try.func79, Try.ntmps79
  go_wp2_with fail
  with_reducible refine HC.out.mono ?_
  rintro e w1 ⟨v, rfl, ho, hb⟩
  have hsz : w.heap.size ≤ w1.heap.size := by have := hb.size; simp at this; omega
  have HB := Lh (((Below.refl _ w).alloc (Nat.le_refl _) (.cells #[.slice A n c, .slice B k d] 24)).trans (hb.mono (by simp)))
  have HO : Hid (OwnP w1 w.heap.size v L) := Lh (own_weaken ho (by simp))
  clear hb ho HC
  go_wp2_with fail
  with_reducible refine (delete_own L w.heap.size v w1 HO.out (by have := HL.out; omega) hsz).mono ?_
  rintro e w2 ⟨u, rfl, ho, hb⟩
  have HB := Lh (HB.out.trans hb)
  have HF := Lh (filter_len L)
  obtain ⟨F, hF⟩ : ∃ F, L.filter nz = F := ⟨_, rfl⟩
  rw [hF] at ho HW HF
  have hsz2 : w.heap.size ≤ w2.heap.size := HB.out.size
  have HO := Lh ho
  clear ho hb hF hsz
  rcases HO.out.lenB with ⟨rfl, rfl⟩ | ⟨g, cc, rfl, hcc⟩
  · have hr : withF l m = [] := by rw [HW.out]; rfl
    have HRR := Lh hr
    clear hr
    go_wp2_with (go_at_call 128; refine (clip_calls none 0 0 _ (Nat.le_refl _) (by decide) (fun _ => rfl)).mono ?_; rintro e w3 ⟨rfl, rfl⟩)
    go_ret
    rw [HRR.out]
    exact ⟨none, 0, rfl, Nat.le_refl _, RdB.nil _, HB.out, fun ad e => by cases e⟩
  · obtain ⟨q, hq⟩ : ∃ q, F.length = q := ⟨_, rfl⟩
    have hq2 : q ≤ 20000 := by have := HF.out; have := HL.out; omega
    rw [hq] at HO hcc ⊢
    by_cases t : q ≤ 128
    · have hm : mn (q : Int) 128 = (q : Int) := by unfold mn; split <;> omega
      have hr : withF l m = F := by rw [HW.out, List.take_of_length_le (by omega)]
      have HRR := Lh hr
      have HQ := Lh hq
      clear hq hr
      go_wp2_with (go_at_call 128; refine (clip_calls (some ⟨g, 0, none⟩) q cc _ hcc (by omega) (fun e => by cases e)).mono ?_; rintro e w3 ⟨rfl, rfl⟩)
      go_ret
      obtain ⟨A', c', e, h1, h2, h3⟩ := HO.out.rdB2
      injection e with e1 e2 e3
      subst e1
      rw [HRR.out]
      exact ⟨some ⟨g, 0, none⟩, q, by rw [HQ.out]; rfl, by rw [HQ.out]; exact Nat.le_refl _, h2, HB.out, fun ad e => by cases e; exact HO.out.fz.2.2.1⟩
    · have hm : mn (q : Int) 128 = ((128 : Nat) : Int) := by unfold mn; split <;> omega
      have hr : (withF l m).length = 128 := by rw [HW.out, List.length_take]; omega
      have ho := HO.out.cut 128 (by rw [hq]; omega)
      rw [← HW.out] at ho
      have HR := Lh hr
      have HOC := Lh ho
      clear hq hr ho
      go_wp2_with (go_at_call 128; refine (clip_calls (some ⟨g, 0, none⟩) 128 cc _ (by omega) (by omega) (fun e => by cases e)).mono ?_; rintro e w3 ⟨rfl, rfl⟩)
      go_ret
      obtain ⟨A', c', e, h1, h2, h3⟩ := HOC.out.rdB2
      injection e with e1 e2 e3
      subst e1
      exact ⟨some ⟨g, 0, none⟩, 128, by rw [HR.out]; rfl, by rw [HR.out]; exact Nat.le_refl _, h2, HB.out, fun ad e => by cases e; exact HOC.out.fz.2.2.1⟩
end Go.Proofs.Ytckdhahceelckaa.G
namespace Go.Proofs.Ytckdhahceelckaa.G
open Go.RowKit Go.Proofs.YtckdhahceelckaaW.PrintWords Go.Proofs.YtckdhahceelckaaW.PrintLast Go.Proofs.YtckdhahceelckaaW.PrintMore
attribute [local go_sem] max2_mx min2_mn max_two min_two max_three min_three max_four min_four
attribute [local go_sem high] eqA23
set_option linter.unusedVariables false
set_option linter.unusedSimpArgs false
theorem CSt.set {w1 W : World} {v : Value} {l : List P3} {keep : List Nat} (h : CSt w1 W v l keep) {g : Nat} (hm : g ∈ keep) (hg : w1.heap.size ≤ g) (j : Nat) (u : Value) : CSt w1 (W.setCell ⟨g, j, none⟩ u) v l keep :=
  ⟨own_setCell h.own (fun e => (h.ne g hm).1 e.symm) u, h.below.setCell (p := ⟨g, j, none⟩) hg u, fun k hk => ⟨(h.ne k hk).1, by simpa using (h.ne k hk).2⟩⟩
end Go.Proofs.Ytckdhahceelckaa.G
namespace Go.Proofs.Ytckdhahceelckaa.G
open Go.RowKit Go.Proofs.YtckdhahceelckaaW.PrintWords Go.Proofs.YtckdhahceelckaaW.PrintLast Go.Proofs.YtckdhahceelckaaW.PrintMore
attribute [local go_sem] max2_mx min2_mn max_two min_two max_three min_three max_four min_four
attribute [local go_sem high] eqA23
set_option linter.unusedVariables false
set_option linter.unusedSimpArgs false
def CoreAt (s : Shp) (q : P7) (w : World) (v : Value) : Prop := ∃ p a e, CoreIs s p a e ∧ CoreV w v (p.map (placePt (rowsF q.turn) q.at_)) (waysF (rowsF q.turn) a) (waysF (rowsF q.turn) e) s.radius
theorem CoreAt.below {s : Shp} {q : P7} {w w1 : World} {v : Value} (h : CoreAt s q w v) (hb : Below w.heap.size w w1) : CoreAt s q w1 v := by
  obtain ⟨p, a, e, h1, h2⟩ := h
  exact ⟨p, a, e, h1, h2.below hb⟩
theorem CoreAt.setS {s : Shp} {q : P7} {w : World} {v : Value} (h : CoreAt s q w v) {g : Nat} {A0 A1 A2 : Option Addr} {n0 n1 n2 m0 m1 m2 : Nat} {x : Value} {t : TypeId} (hg : w.heap[g]? = some (.cells #[.slice A0 n0 m0, .slice A1 n1 m1, .slice A2 n2 m2, x] t (0, 0))) (u0 u1 u2 u3 : Value) :
    CoreAt s q ((((w.setCell ⟨g, 0, none⟩ u0).setCell ⟨g, 1, none⟩ u1).setCell ⟨g, 2, none⟩ u2).setCell ⟨g, 3, none⟩ u3) v := by
  obtain ⟨p, a, e, h1, h2⟩ := h
  obtain ⟨B0, B1, B2, c0, c1, c2, e1, g0, g1, g2, k⟩ := h2.out
  exact ⟨p, a, e, h1, ⟨B0, B1, B2, c0, c1, c2, e1, g0.setS hg u0 u1 u2 u3, g1.setS hg u0 u1 u2 u3, g2.setS hg u0 u1 u2 u3, k⟩⟩
end Go.Proofs.Ytckdhahceelckaa.G
namespace Go.Proofs.Ytckdhahceelckaa.G
open Go.RowKit Go.Proofs.YtckdhahceelckaaW.PrintWords Go.Proofs.YtckdhahceelckaaW.PrintLast Go.Proofs.YtckdhahceelckaaW.PrintMore
set_option linter.unusedVariables false
set_option linter.unusedSimpArgs false
theorem any_far {n : Int} (h0 : 0 ≤ n) (h1 : n ≤ 9223372036854775807) {l : List P3} (h : ∀ x ∈ l, in3 n x) : l.any (far3 n) = false := by
  rw [List.any_eq_false]
  intro x hx
  rw [(far3_iff n x h0 h1).2 (h x hx)]
  decide
theorem place_in3 {m : M3} {at_ x : P3} (hm : mOk m) (ha : atOk at_) (hx : in3 65536 x) : in3 8388608 (placePt m at_ x) := by
  obtain ⟨_, _, _, h⟩ := turn_ok2 hm (times_in2 hx)
  obtain ⟨_, _, _, h2⟩ := add_in h ha
  exact down_in h2
theorem waysF_in (m : M3) (l : List P3) : ∀ x ∈ waysF m l, in3 1048576 x := by
  intro x hx
  unfold waysF at hx
  obtain ⟨h1, _⟩ := List.mem_filter.1 hx
  obtain ⟨y, _, rfl⟩ := List.mem_map.1 h1
  exact short3_in _
theorem CoreIs.may {s : Shp} (hs : ShpOk s) {p a e : List P3} (h : CoreIs s p a e) {q : P7} (hm : mOk (rowsF q.turn)) (ha : atOk q.at_) :
    MayP (p.map (placePt (rowsF q.turn) q.at_)) (waysF (rowsF q.turn) a) (waysF (rowsF q.turn) e) s.radius := by
  have hB := h.bounds hs
  refine ⟨fun e' => ?_, ?_, ?_, ?_, ?_, ?_, any_far (by decide) (by decide) fun x hx => ?_, any_far (by decide) (by decide) (waysF_in _ _), any_far (by decide) (by decide) (waysF_in _ _)⟩
  · have := hB.p0
    rw [List.map_eq_nil_iff] at e'
    rw [e'] at this
    simp at this
  · rw [List.length_map]; have := hB.p1; omega
  · have := hB.a1; have := waysF_len (rowsF q.turn) a; omega
  · have := hB.e1; have := waysF_len (rowsF q.turn) e; omega
  · have := hs.r0; omega
  · have := hs.r1; omega
  · obtain ⟨y, hy, rfl⟩ := List.mem_map.1 hx
    exact in3_le (by decide) (place_in3 hm ha (hB.pin y hy))
/-- both of Cores' answers may be -/
theorem rightPose_ok (p : P7) : mOk (rowsF (rightPose p).turn) ∧ atOk (rightPose p).at_ := by
  simp only [rightPose]
  exact ⟨rows_mOk (wholeF_q32 (partQ p.turn)), partV_at p.at_⟩
/-- what a value of Cores is for Apart -/
theorem CoreAt.may {s : Shp} (hs : ShpOk s) {q : P7} (hm : mOk (rowsF q.turn)) (ha : atOk q.at_) {w : World} {v : Value} (h : CoreAt s q w v) : ∃ p a e, CoreV w v p a e s.radius ∧ MayP p a e s.radius := by
  obtain ⟨p, a, e, h1, h2⟩ := h
  exact ⟨_, _, _, h2, h1.may hs hm ha⟩
end Go.Proofs.Ytckdhahceelckaa.G
namespace Go.Proofs.Ytckdhahceelckaa.G
open Go.RowKit Go.Proofs.YtckdhahceelckaaW.PrintWords
set_option linter.unusedVariables false
set_option linter.unusedSimpArgs false
theorem dblS {p : P3} (h : in3 524288 p) (h0 : p ≠ ⟨0, 0, 0⟩) : dbl3 p = dbl3 (two3 p) := by
  rw [dbl3, dif_neg]
  rintro (h1 | h1)
  · rw [(far3_iff _ _ (by omega) (by omega)).2 h] at h1; cases h1
  · exact h0 h1
theorem dbl_end {p : P3} (h : ¬ in3 524288 p) : dbl3 p = p := by
  rw [dbl3, dif_pos]
  left
  cases hf : far3 524288 p
  · exact absurd ((far3_iff _ _ (by omega) (by omega)).1 hf) h
  · rfl
abbrev E1 : P3 := ⟨1048576, 0, 0⟩
abbrev E2 : P3 := ⟨0, 1048576, 0⟩
theorem long_1 : long3 ⟨1, 0, 0⟩ = E1 := by
  have e : short3 ⟨1, 0, 0⟩ = ⟨1, 0, 0⟩ := by
    have b : bare3 ⟨1, 0, 0⟩ = ⟨1, 0, 0⟩ := by unfold bare3 div3 gcd3; simp
    rw [short3_eq _ (by unfold in3; simp) (by simp), b, halve3_id _ (by unfold in3; simp), b]
  have s : ∀ x : Int, 1 ≤ x → x ≤ 524288 → dbl3 ⟨x, 0, 0⟩ = dbl3 ⟨2 * x, 0, 0⟩ := fun x h1 h2 => by
    have := dblS (p := ⟨x, 0, 0⟩) (by unfold in3; simp only; omega) (by simp; omega)
    rw [this]; unfold two3; simp
  unfold long3
  rw [e]
  refine (s 1 (by omega) (by omega)).trans ?_
  refine (s 2 (by omega) (by omega)).trans ?_
  refine (s 4 (by omega) (by omega)).trans ?_
  refine (s 8 (by omega) (by omega)).trans ?_
  refine (s 16 (by omega) (by omega)).trans ?_
  refine (s 32 (by omega) (by omega)).trans ?_
  refine (s 64 (by omega) (by omega)).trans ?_
  refine (s 128 (by omega) (by omega)).trans ?_
  refine (s 256 (by omega) (by omega)).trans ?_
  refine (s 512 (by omega) (by omega)).trans ?_
  refine (s 1024 (by omega) (by omega)).trans ?_
  refine (s 2048 (by omega) (by omega)).trans ?_
  refine (s 4096 (by omega) (by omega)).trans ?_
  refine (s 8192 (by omega) (by omega)).trans ?_
  refine (s 16384 (by omega) (by omega)).trans ?_
  refine (s 32768 (by omega) (by omega)).trans ?_
  refine (s 65536 (by omega) (by omega)).trans ?_
  refine (s 131072 (by omega) (by omega)).trans ?_
  refine (s 262144 (by omega) (by omega)).trans ?_
  refine (s 524288 (by omega) (by omega)).trans ?_
  exact dbl_end (by unfold in3; simp)
theorem sizes_x : fl3 E1 = 1048576 ∧ ce3 E1 = 1048576 := by
  have e : dotI E1 E1 = 1099511627776 := by unfold dotI; simp
  have a : fl3 E1 = 1048576 := by
    unfold fl3
    rw [e]
    have := isq_unique (1099511627776 : Int).toNat 1048576 (by decide) (by decide)
    rw [← this]; rfl
  refine ⟨a, ?_⟩
  unfold ce3
  rw [a, e]
  simp
theorem long_zero : long3 ⟨0, 0, 0⟩ = ⟨0, 0, 0⟩ := by
  unfold long3
  rw [short3_zero, dbl3, dif_pos (.inr rfl)]
end Go.Proofs.Ytckdhahceelckaa.G
namespace Go.Proofs.Ytckdhahceelckaa.G
open Go.RowKit Go.Proofs.YtckdhahceelckaaW.PrintWords Go.Proofs.YtckdhahceelckaaW.PrintLast Go.Proofs.YtckdhahceelckaaW.PrintMore
set_option linter.unusedVariables false
set_option linter.unusedSimpArgs false
theorem p3_of {p : P3} {a b c : Int} (h : p.x = a ∧ p.y = b ∧ p.z = c) : p = ⟨a, b, c⟩ := by
  cases p
  simp_all
theorem short_b (n : Int) (h0 : 1 ≤ n) (h1 : n ≤ 1000) (hbn : bare3 ⟨n, 0, 0⟩ = ⟨1, 0, 0⟩) : short3 ⟨n, 0, 0⟩ = ⟨1, 0, 0⟩ := by
  have h3 : halve3 ⟨1, 0, 0⟩ = ⟨1, 0, 0⟩ := by rw [halve3, dif_neg (by decide +kernel)]
  have b2 : bare3 ⟨1, 0, 0⟩ = ⟨1, 0, 0⟩ := p3_of (by decide +kernel)
  have hf : far3 4398046511104 ⟨n, 0, 0⟩ = false := (far3_iff _ _ (by decide) (by decide)).2 (by unfold in3; simp only; omega)
  unfold short3
  rw [if_neg (by
    rw [hf]
    rintro (h | h)
    · cases h
    · injection h with h _ _; omega), hbn, h3, b2]
theorem short_x (n : Int) (h0 : 1 ≤ n) (h1 : n ≤ 20) : short3 ⟨n, 0, 0⟩ = ⟨1, 0, 0⟩ := by
  have hb : ∀ m ∈ List.range 20, (bare3 ⟨((m + 1 : Nat) : Int), 0, 0⟩).x = 1 ∧ (bare3 ⟨((m + 1 : Nat) : Int), 0, 0⟩).y = 0 ∧ (bare3 ⟨((m + 1 : Nat) : Int), 0, 0⟩).z = 0 := by decide +kernel
  have hbn : bare3 ⟨n, 0, 0⟩ = ⟨1, 0, 0⟩ := by
    have := p3_of (hb (n.toNat - 1) (List.mem_range.2 (by omega)))
    have e : ((n.toNat - 1 + 1 : Nat) : Int) = n := by omega
    rwa [e] at this
  exact short_b n h0 (by omega) hbn
theorem short_zero : short3 ⟨0, 0, 0⟩ = ⟨0, 0, 0⟩ := by unfold short3; rw [if_pos (.inr rfl)]
def exB : Cr := ⟨[⟨20, 0, 0⟩], [], [], 2⟩
theorem ex_gaps (m ra : Int) (l : List P3) (hl : l = [] ∧ m = 0 ∨ l = [⟨m, 0, 0⟩]) (h0 : 0 ≤ m) (h1 : m ≤ 20) : gapsF E1 ⟨0, 0, 0⟩ l ra ⟨20, 0, 0⟩ [] 2 = (20 - m - ra - 2, -20 - ra - 2) := by
  have d0 : dot3 E1 ⟨0, 0, 0⟩ = 0 := by decide +kernel
  have dm : dot3 E1 ⟨m, 0, 0⟩ = 1048576 * m := by
    rw [dot3_eq E1 ⟨m, 0, 0⟩ 1048576 1048576 (by unfold in3 E1; decide) (by unfold in3; simp only; omega) (by decide)]
    unfold dotI E1
    simp only
    omega
  have d20 : dot3 E1 ⟨20, 0, 0⟩ = 20971520 := by decide +kernel
  have ha : reachF E1 ⟨0, 0, 0⟩ l = (0, 1048576 * m) := by
    rcases hl with ⟨rfl, rfl⟩ | rfl
    · simp [reachF, d0]
    · simp only [reachF, List.foldl_cons, List.foldl_nil, rstep, d0, dm, mn, mx, Prod.mk.injEq]
      constructor <;> split <;> omega
  have hb : reachF E1 ⟨20, 0, 0⟩ [] = (20971520, 20971520) := by simp [reachF, d20]
  obtain ⟨hf, hc⟩ := sizes_x
  unfold gapsF
  rw [ha, hb, hf, hc]
  unfold gapV
  simp only
  rw [if_pos (by omega), if_neg (by omega)]
  simp only [Prod.mk.injEq]
  omega
theorem ex_step {m ra : Int} {l L : List P3} (hl : l = [] ∧ m = 0 ∨ l = [⟨m, 0, 0⟩]) (h0 : 0 ≤ m) (h1 : m ≤ 20) (hL : ∀ x ∈ L, long3 x = E1 ∨ long3 x = ⟨0, 0, 0⟩) :
    (apF ⟨0, 0, 0⟩ l ra ⟨20, 0, 0⟩ [] 2 (⟨1, 0, 0⟩ :: L)).1 = (E1, 20 - m - ra - 2) := by
  have g := ex_gaps m ra l hl h0 h1
  have hE : E1 ≠ ⟨0, 0, 0⟩ := by
    intro e
    have : E1.x = 0 := by rw [e]
    revert this
    decide +kernel
  have s1 : ∀ s : (P3 × Int) × Bool, (s.2 = true ∨ s = ((E1, 20 - m - ra - 2), false)) → ∀ x, long3 x = E1 → apStep ⟨0, 0, 0⟩ l ra ⟨20, 0, 0⟩ [] 2 s x = ((E1, 20 - m - ra - 2), false) := by
    intro s hs x hx
    unfold apStep
    rw [hx, if_neg hE, g]
    rcases hs with hs | rfl
    · simp only [hs, true_or, if_true]
      rw [if_neg (by omega)]
    · simp only [Bool.false_eq_true, false_or, Int.lt_irrefl, if_false]
      rw [if_neg (by omega)]
  have all : ∀ L : List P3, (∀ x ∈ L, long3 x = E1 ∨ long3 x = ⟨0, 0, 0⟩) → L.foldl (apStep ⟨0, 0, 0⟩ l ra ⟨20, 0, 0⟩ [] 2) ((E1, 20 - m - ra - 2), false) = ((E1, 20 - m - ra - 2), false) := by
    intro L
    induction L with
    | nil => intro _; rfl
    | cons x L ih =>
      intro h
      rw [List.foldl_cons]
      have : apStep ⟨0, 0, 0⟩ l ra ⟨20, 0, 0⟩ [] 2 ((E1, 20 - m - ra - 2), false) x = ((E1, 20 - m - ra - 2), false) := by
        rcases h x (by simp) with hx | hx
        · exact s1 _ (.inr rfl) x hx
        · unfold apStep; rw [hx, if_pos rfl]
      rw [this]
      exact ih fun y hy => h y (by simp [hy])
  unfold apF
  rw [List.foldl_cons, s1 _ (.inl rfl) _ long_1, all L hL]
theorem long_E (x : P3) (h : x = ⟨1, 0, 0⟩ ∨ x = ⟨0, 0, 0⟩) : long3 x = E1 ∨ long3 x = ⟨0, 0, 0⟩ := by
  rcases h with rfl | rfl
  · exact .inl long_1
  · exact .inr long_zero
theorem exB_may : exB.may = true := mayOne (by unfold in3; decide) (by decide) (by decide)
theorem ex_first (ra : Int) (h0 : 0 ≤ ra) (h1 : ra ≤ 2) : apS ⟨[⟨0, 0, 0⟩], [], [], ra⟩ exB = ((E1, 18 - ra), true) := by
  rw [apS_val (mayOne (by unfold in3; decide) h0 (by omega)) exB_may]
  have hr : rawC [⟨0, 0, 0⟩] [] [] [⟨20, 0, 0⟩] [] [] = [⟨1, 0, 0⟩] := by
    rw [rawC_balls, show minus3 ⟨20, 0, 0⟩ ⟨0, 0, 0⟩ = ⟨20, 0, 0⟩ from p3_of (by decide +kernel), short_x 20 (by decide) (by decide)]
  show (apartF [⟨0, 0, 0⟩] [] [] ra [⟨20, 0, 0⟩] [] [] 2, true) = _
  unfold apartF
  rw [hr]
  have := ex_step (m := 0) (ra := ra) (l := []) (L := []) (.inl ⟨rfl, rfl⟩) (by decide) (by decide) (fun x hx => by cases hx)
  rw [show [(⟨0, 0, 0⟩ : P3)].tail = [] from rfl, show [(⟨0, 0, 0⟩ : P3)].headD ⟨0, 0, 0⟩ = ⟨0, 0, 0⟩ from rfl, show [(⟨20, 0, 0⟩ : P3)].tail = [] from rfl, show [(⟨20, 0, 0⟩ : P3)].headD ⟨0, 0, 0⟩ = ⟨20, 0, 0⟩ from rfl, this]
  simp only [Prod.mk.injEq, and_true, true_and]
  omega
theorem ex_smay (s ra : Int) (h0 : 0 ≤ ra) (h1 : ra ≤ 2) (hs0 : 1 ≤ s) (hs1 : s ≤ 10) : smay ⟨[⟨0, 0, 0⟩], [], [], ra⟩ ⟨16 * s, 0, 0⟩ = true :=
  (smay_iff ..).2 ⟨mayOne (by unfold in3; decide) h0 (by omega), by simp, by unfold in3; simp only; omega⟩
theorem ex_part (s k : Int) : partP ⟨16 * s, 0, 0⟩ k = ⟨s * k, 0, 0⟩ := by
  unfold partP
  rw [Int.mul_assoc, Int.mul_tdiv_cancel_left _ (by decide)]
  simp
theorem ex_may (s ra : Int) (h0 : 0 ≤ ra) (h1 : ra ≤ 2) (hs0 : 1 ≤ s) (hs1 : s ≤ 10) (k : Int) (hk0 : 0 ≤ k) (hk1 : k ≤ 16) : (trailF ⟨[⟨0, 0, 0⟩], [], [], ra⟩ ⟨16 * s, 0, 0⟩ k).may = true := by
  refine trail_may (ex_smay s ra h0 h1 hs0 hs1) hk0 hk1 fun x hx => ?_
  have : x = ⟨0, 0, 0⟩ := by simpa using hx
  subst this
  have e1 := Int.mul_le_mul hs1 hk1 hk0 (by decide)
  have e0 := Int.mul_nonneg (show 0 ≤ s by omega) hk0
  rw [ex_part]
  unfold in3 plusI
  simp only
  omega
theorem ex_raw (m ra : Int) (h0 : 0 ≤ m) (h1 : m ≤ 20) : apartF [⟨0, 0, 0⟩, ⟨m, 0, 0⟩] [] [⟨1, 0, 0⟩] ra [⟨20, 0, 0⟩] [] [] 2 = (E1, 18 - m - ra) := by
  have hx : cross3 (short3 (cross3 ⟨1, 0, 0⟩ ⟨1, 0, 0⟩)) ⟨1, 0, 0⟩ = ⟨0, 0, 0⟩ := by
    rw [show cross3 ⟨1, 0, 0⟩ ⟨1, 0, 0⟩ = ⟨0, 0, 0⟩ from p3_of (by decide +kernel), short_zero]; exact p3_of (by decide +kernel)
  have hx0 : cross3 (short3 (cross3 ⟨1, 0, 0⟩ ⟨0, 0, 0⟩)) ⟨1, 0, 0⟩ = ⟨0, 0, 0⟩ := by
    rw [show cross3 ⟨1, 0, 0⟩ ⟨0, 0, 0⟩ = ⟨0, 0, 0⟩ from p3_of (by decide +kernel), short_zero]; exact p3_of (by decide +kernel)
  have e1 : short3 (minus3 ⟨20, 0, 0⟩ ⟨0, 0, 0⟩) = ⟨1, 0, 0⟩ := by rw [show minus3 ⟨20, 0, 0⟩ ⟨0, 0, 0⟩ = ⟨20, 0, 0⟩ from p3_of (by decide +kernel), short_x 20 (by decide) (by decide)]
  have e2 : short3 (minus3 ⟨20, 0, 0⟩ ⟨m, 0, 0⟩) = ⟨1, 0, 0⟩ ∨ short3 (minus3 ⟨20, 0, 0⟩ ⟨m, 0, 0⟩) = ⟨0, 0, 0⟩ := by
    rw [minus3_eq _ _ (by unfold in3; decide) (by unfold in3; simp only; omega)]
    by_cases h : m = 20
    · subst h; right; exact short_zero
    · left; exact short_x (20 - m) (by omega) (by omega)
  obtain ⟨u, hu⟩ : ∃ u, short3 (minus3 ⟨20, 0, 0⟩ ⟨m, 0, 0⟩) = u := ⟨_, rfl⟩
  rw [hu] at e2
  have hr : rawC [⟨0, 0, 0⟩, ⟨m, 0, 0⟩] [] [⟨1, 0, 0⟩] [⟨20, 0, 0⟩] [] [] = [⟨1, 0, 0⟩, ⟨0, 0, 0⟩, u, cross3 (short3 (cross3 ⟨1, 0, 0⟩ u)) ⟨1, 0, 0⟩] := by
    unfold rawC edgeW pointW roundW
    rw [if_neg (by simp [mn])]
    simp only [List.cons_append, List.nil_append, List.append_nil, List.flatMap_cons, List.flatMap_nil, List.map_cons, List.map_nil, e1, hx, hu]
  unfold apartF
  rw [hr]
  have := ex_step (m := m) (ra := ra) (l := [⟨m, 0, 0⟩]) (L := [⟨0, 0, 0⟩, u, cross3 (short3 (cross3 ⟨1, 0, 0⟩ u)) ⟨1, 0, 0⟩]) (.inr rfl) h0 h1 (fun x hx' => by
    simp only [List.mem_cons, List.not_mem_nil, or_false] at hx'
    rcases hx' with rfl | rfl | rfl
    · exact long_E _ (.inr rfl)
    · exact long_E _ e2
    · rcases e2 with e | e
      · rw [e, hx]; exact long_E _ (.inr rfl)
      · rw [e, hx0]; exact long_E _ (.inr rfl))
  simp only [List.headD_cons, List.tail_cons]
  rw [this]
  simp only [Prod.mk.injEq, true_and]
  omega
theorem ex_trail (s ra : Int) (h0 : 0 ≤ ra) (h1 : ra ≤ 2) (hs0 : 1 ≤ s) (hs1 : s ≤ 10) (y : P3) (hy : y = ⟨16 * s, 0, 0⟩) (hsh : short3 y = ⟨1, 0, 0⟩) (k : Int) (hk0 : 0 ≤ k) (hk1 : k ≤ 16) (hm : s * k ≤ 20) : apS (trailF ⟨[⟨0, 0, 0⟩], [], [], ra⟩ y k) exB = ((E1, 18 - s * k - ra), true) := by
  have hsm : smay ⟨[⟨0, 0, 0⟩], [], [], ra⟩ y = true := by rw [hy]; exact ex_smay s ra h0 h1 hs0 hs1
  have hmay : (trailF ⟨[⟨0, 0, 0⟩], [], [], ra⟩ y k).may = true := by rw [hy]; exact ex_may s ra h0 h1 hs0 hs1 k hk0 hk1
  have hpart : partP y k = ⟨s * k, 0, 0⟩ := by rw [hy]; exact ex_part s k
  rw [apS_val hmay exB_may, trailF_yes hsm hk0 hk1, hpart]
  have hm0 := Int.mul_nonneg (show 0 ≤ s by omega) hk0
  obtain ⟨m, hmm⟩ : ∃ m, s * k = m := ⟨_, rfl⟩
  rw [hmm] at hm hm0 ⊢
  have hw : withF [] [(⟨1, 0, 0⟩ : P3)] = [⟨1, 0, 0⟩] := by
    have : nz ⟨1, 0, 0⟩ = true := by decide +kernel
    unfold withF
    simp [this]
  have ha : withF [] (acrossF y []) = [] := rfl
  have hp : plusI ⟨m, 0, 0⟩ ⟨0, 0, 0⟩ = ⟨m, 0, 0⟩ := by unfold plusI; simp
  simp only [List.map_cons, List.map_nil, List.cons_append, List.nil_append, hsh, hw, ha, hp, exB]
  rw [ex_raw m ra hm0 hm]
theorem castL_go {c d : Cr} {y : P3} {n k : Nat} {x z : P3 × Int} (hx : 0 ≤ x.2) (hz : (apS (trailF c y ((k : Int) + 1)) d).1 = z) (h : 0 ≤ z.2) : castL c y d (n + 1) k x = castL c y d n (k + 1) z := by
  rw [castL, if_neg (by omega), hz, if_neg (by omega)]
theorem castL_stop {c d : Cr} {y : P3} {n k : Nat} {x z : P3 × Int} (hz : (apS (trailF c y ((k : Int) + 1)) d).1 = z) (h : z.2 < 0) : castL c y d (n + 1) k x = (k, x) := by
  rw [castL, hz, if_pos h]
  split <;> rfl
def exA : Cr := ⟨[⟨0, 0, 0⟩], [], [], 2⟩
theorem ex_castA : castF exA ⟨32, 0, 0⟩ exB = ((8, (E1, 0)), true) := by
  have hsh : short3 ⟨32, 0, 0⟩ = ⟨1, 0, 0⟩ := by
    exact short_b 32 (by decide) (by decide) (p3_of (by decide +kernel))
  have hok : castOk exA ⟨32, 0, 0⟩ exB = true := (castOk_iff ..).2 ⟨mayOne (by unfold in3; decide) (by decide) (by decide), exB_may, ex_smay 2 2 (by decide) (by decide) (by decide) (by decide), ex_may 2 2 (by decide) (by decide) (by decide) (by decide) 16 (by decide) (by decide)⟩
  have ht : ∀ k : Nat, k ≤ 8 → (apS (trailF exA ⟨32, 0, 0⟩ ((k : Int) + 1)) exB).1 = (E1, 14 - 2 * (k : Int)) := by
    intro k hk
    have := ex_trail 2 2 (by decide) (by decide) (by decide) (by decide) ⟨32, 0, 0⟩ rfl hsh ((k : Int) + 1) (by omega) (by omega) (by omega)
    show (apS (trailF ⟨[⟨0, 0, 0⟩], [], [], 2⟩ ⟨32, 0, 0⟩ ((k : Int) + 1)) exB).1 = _
    rw [this]
    simp only [Prod.mk.injEq, true_and]
    omega
  have gen : ∀ j k : Nat, j + k = 8 → castL exA ⟨32, 0, 0⟩ exB (j + 8) k (E1, 16 - 2 * (k : Int)) = (8, (E1, 0)) := by
    intro j
    induction j with
    | zero =>
      intro k hk
      have : k = 8 := by omega
      subst this
      exact (castL_stop (ht 8 (by decide)) (by decide)).trans rfl
    | succ j ih =>
      intro k hk
      rw [show j + 1 + 8 = (j + 8) + 1 by omega, castL_go (by simp only; omega) (ht k (by omega)) (by simp only; omega)]
      have := ih (k + 1) (by omega)
      rw [← this]
      congr 1
      simp only [Prod.mk.injEq, true_and]
      omega
  unfold castF
  rw [if_pos hok, show (apS exA exB).1 = (E1, 16) from by show (apS ⟨[⟨0, 0, 0⟩], [], [], 2⟩ exB).1 = _; rw [ex_first 2 (by decide) (by decide)]; rfl]
  have := gen 8 0 (by decide)
  rw [← this]
  rfl
end Go.Proofs.Ytckdhahceelckaa.G
namespace Go.Proofs.Ytckdhahceelckaa.G
open Go.RowKit Go.Proofs.YtckdhahceelckaaW.PrintWords
set_option linter.unusedVariables false
theorem min_ratio (f g : P3 → Int) : ∀ (l : List P3), (∀ p ∈ l, 0 ≤ f p) → (∃ p ∈ l, g p < 0) → ∃ p ∈ l, g p < 0 ∧ ∀ o ∈ l, g o < 0 → f p * (-(g o)) ≤ f o * (-(g p))
  | [], _, h => by obtain ⟨p, hp, _⟩ := h; simp at hp
  | x :: l, hf, h => by
    have hf' : ∀ p ∈ l, 0 ≤ f p := fun p hp => hf p (List.mem_cons_of_mem _ hp)
    by_cases hl : ∃ p ∈ l, g p < 0
    · obtain ⟨p, hp, gp, hmin⟩ := min_ratio f g l hf' hl
      by_cases hx : g x < 0 ∧ f x * (-(g p)) ≤ f p * (-(g x))
      · refine ⟨x, List.mem_cons_self, hx.1, fun o ho go => ?_⟩
        rcases List.mem_cons.1 ho with rfl | ho
        · exact Int.le_refl _
        · have h1 := Int.mul_le_mul_of_nonneg_right hx.2 (show 0 ≤ -(g o) by omega)
          have h2 := Int.mul_le_mul_of_nonneg_right (hmin o ho go) (show 0 ≤ -(g x) by omega)
          refine Int.le_of_mul_le_mul_right (a := -(g p)) ?_ (by omega)
          have e1 : f x * -(g o) * -(g p) = f x * -(g p) * -(g o) := by grind
          have e2 : f p * -(g x) * -(g o) = f p * -(g o) * -(g x) := by grind
          have e3 : f o * -(g x) * -(g p) = f o * -(g p) * -(g x) := by grind
          omega
      · refine ⟨p, List.mem_cons_of_mem _ hp, gp, fun o ho go => ?_⟩
        rcases List.mem_cons.1 ho with rfl | ho
        · have : ¬ (f o * (-(g p)) ≤ f p * (-(g o))) := fun h' => hx ⟨go, h'⟩
          omega
        · exact hmin o ho go
    · obtain ⟨p, hp, gp⟩ := h
      rcases List.mem_cons.1 hp with rfl | hp
      · refine ⟨p, List.mem_cons_self, gp, fun o ho go => ?_⟩
        rcases List.mem_cons.1 ho with rfl | ho
        · exact Int.le_refl _
        · exact absurd ⟨o, ho, go⟩ hl
      · exact absurd ⟨p, hp, gp⟩ hl
def combI (α β : Int) (n m : P3) : P3 := ⟨α * n.x + β * m.x, α * n.y + β * m.y, α * n.z + β * m.z⟩
theorem dot_comb (α β : Int) (n m v : P3) : dotI (combI α β n m) v = α * dotI n v + β * dotI m v := by unfold dotI combI; grind
theorem rotate_ (l : List P3) (a n m : P3) (hn : ∀ p ∈ l, 0 ≤ dotI n (subI p a)) (hz : ∀ p ∈ l, dotI n (subI p a) = 0 → dotI m (subI p a) = 0) (hex : ∃ p ∈ l, dotI m (subI p a) ≠ 0) :
    ∃ α β p, 0 < α ∧ p ∈ l ∧ dotI m (subI p a) ≠ 0 ∧ (∀ o ∈ l, 0 ≤ dotI (combI α β n m) (subI o a)) ∧ dotI (combI α β n m) (subI p a) = 0 := by
  obtain ⟨t, ht, hneg⟩ : ∃ t : Int, (t = 1 ∨ t = -1) ∧ ∃ p ∈ l, t * dotI m (subI p a) < 0 := by
    obtain ⟨p, hp, h⟩ := hex
    rcases Int.lt_or_gt_of_ne h with h | h
    · exact ⟨1, .inl rfl, p, hp, by omega⟩
    · exact ⟨-1, .inr rfl, p, hp, by omega⟩
  obtain ⟨p, hp, gp, hmin⟩ := min_ratio (fun o => dotI n (subI o a)) (fun o => t * dotI m (subI o a)) l hn hneg
  (try simp only at gp hmin)
  refine ⟨-(t * dotI m (subI p a)), t * dotI n (subI p a), p, by omega, hp, ?_, ?_, ?_⟩
  · intro e
    rw [e, Int.mul_zero] at gp
    omega
  · intro o ho
    rw [dot_comb]
    have hfo := hn o ho
    have hfp := hn p hp
    by_cases hg : t * dotI m (subI o a) < 0
    · have := hmin o ho hg
      have e1 : -(t * dotI m (subI p a)) * dotI n (subI o a) = dotI n (subI o a) * -(t * dotI m (subI p a)) := by grind
      have e2 : t * dotI n (subI p a) * dotI m (subI o a) = -(dotI n (subI p a) * -(t * dotI m (subI o a))) := by grind
      rw [e1, e2]
      omega
    · have h1 := Int.mul_nonneg (show 0 ≤ -(t * dotI m (subI p a)) by omega) hfo
      have h2 := Int.mul_nonneg hfp (show 0 ≤ t * dotI m (subI o a) by omega)
      have e2 : t * dotI n (subI p a) * dotI m (subI o a) = dotI n (subI p a) * (t * dotI m (subI o a)) := by grind
      rw [e2]
      omega
  · rw [dot_comb]
    grind
theorem min_at (f : P3 → Int) : ∀ (l : List P3), l ≠ [] → ∃ p ∈ l, ∀ o ∈ l, f p ≤ f o
  | [], h => absurd rfl h
  | [x], _ => ⟨x, by simp, fun o ho => by simp at ho; rw [ho]; exact Int.le_refl _⟩
  | x :: y :: l, _ => by
    obtain ⟨p, hp, h⟩ := min_at f (y :: l) (by simp)
    by_cases hx : f x ≤ f p
    · refine ⟨x, List.mem_cons_self, fun o ho => ?_⟩
      rcases List.mem_cons.1 ho with rfl | ho
      · exact Int.le_refl _
      · exact Int.le_trans hx (h o ho)
    · refine ⟨p, List.mem_cons_of_mem _ hp, fun o ho => ?_⟩
      rcases List.mem_cons.1 ho with rfl | ho
      · omega
      · exact h o ho
theorem sub_ne {a b : P3} (h : b ≠ a) : subI b a ≠ ⟨0, 0, 0⟩ := fun e => h (by
  unfold subI at e
  simp only [P3.mk.injEq] at e
  cases a; cases b
  simp only [P3.mk.injEq]
  simp only at e
  omega)
/-- a plane that all points lie on one side of, and three points in it -/
theorem support {l : List P3} (hin : ∀ p ∈ l, in3 65536 p) (hf : ¬ FlatP l) : ∃ a b c n, a ∈ l ∧ b ∈ l ∧ c ∈ l ∧ n ≠ ⟨0, 0, 0⟩ ∧ (∀ p ∈ l, 0 ≤ dotI n (subI p a)) ∧ dotI n (subI b a) = 0 ∧ dotI n (subI c a) = 0 ∧ crossI (subI b a) (subI c a) ≠ ⟨0, 0, 0⟩ := by
  have hne : l ≠ [] := by
    rintro rfl
    exact hf (flat_of (l := []) (n := ⟨1, 0, 0⟩) (a := ⟨0, 0, 0⟩) (by simp) (by simp) (by simp))
  obtain ⟨a, ha, hmin⟩ := min_at (fun p => p.x) l hne
  (try simp only at hmin)
  -- an edge
  obtain ⟨n1, b, hn1, hb, hba, hs1, hz1⟩ : ∃ n1 b, n1 ≠ (⟨0, 0, 0⟩ : P3) ∧ b ∈ l ∧ b ≠ a ∧ (∀ p ∈ l, 0 ≤ dotI n1 (subI p a)) ∧ dotI n1 (subI b a) = 0 := by
    have d0 : ∀ p : P3, dotI ⟨1, 0, 0⟩ (subI p a) = p.x - a.x := fun p => by unfold dotI subI; simp only; omega
    have d1 : ∀ p : P3, dotI ⟨0, 1, 0⟩ (subI p a) = p.y - a.y := fun p => by unfold dotI subI; simp only; omega
    by_cases h : ∃ b ∈ l, b ≠ a ∧ dotI ⟨1, 0, 0⟩ (subI b a) = 0
    · obtain ⟨b, hb, hba, hz⟩ := h
      exact ⟨⟨1, 0, 0⟩, b, by simp, hb, hba, fun p hp => by rw [d0]; have := hmin p hp; omega, hz⟩
    · obtain ⟨α, β, b, hα, hb, hm, hs, hz⟩ := rotate_ l a ⟨1, 0, 0⟩ ⟨0, 1, 0⟩ (fun p hp => by rw [d0]; have := hmin p hp; omega)
        (fun p hp h0 => by
          by_cases e : p = a
          · rw [e, d1]; omega
          · exact absurd ⟨p, hp, e, h0⟩ h)
        (by
          by_cases hx : ∃ p ∈ l, dotI ⟨0, 1, 0⟩ (subI p a) ≠ 0
          · exact hx
          · refine absurd (flat_of hin (n := ⟨0, 1, 0⟩) (a := a) (by simp) fun o ho => ?_) hf
            by_cases e : dotI ⟨0, 1, 0⟩ (subI o a) = 0
            · exact e
            · exact absurd ⟨o, ho, e⟩ hx)
      refine ⟨combI α β ⟨1, 0, 0⟩ ⟨0, 1, 0⟩, b, ?_, hb, ?_, hs, hz⟩
      · intro e
        unfold combI at e
        simp only [P3.mk.injEq] at e
        omega
      · rintro rfl
        rw [d1] at hm
        omega
  -- a face
  have hU := sub_ne hba
  by_cases h : ∃ c ∈ l, dotI n1 (subI c a) = 0 ∧ crossI (subI b a) (subI c a) ≠ ⟨0, 0, 0⟩
  · obtain ⟨c, hc, hz, hx⟩ := h
    exact ⟨a, b, c, n1, ha, hb, hc, hn1, hs1, hz1, hz, hx⟩
  · have hm : ∀ v, dotI (crossI n1 (subI b a)) v = dotI n1 (crossI (subI b a) v) := fun v => by unfold dotI crossI; grind
    have z0 : ∀ n : P3, dotI n ⟨0, 0, 0⟩ = 0 := fun n => by unfold dotI; simp
    have hmn : crossI n1 (subI b a) ≠ ⟨0, 0, 0⟩ := by
      intro e
      have h1 := lagI n1 (subI b a)
      rw [crI_cross, e, z0, hz1] at h1
      have h2 := Int.mul_pos (dotI_pos _ hn1) (dotI_pos _ hU)
      omega
    obtain ⟨α, β, c, hα, hc, hmc, hs, hz⟩ := rotate_ l a n1 (crossI n1 (subI b a)) hs1
      (fun p hp h0 => by
        rw [hm]
        by_cases e : crossI (subI b a) (subI p a) = ⟨0, 0, 0⟩
        · rw [e, z0]
        · exact absurd ⟨p, hp, h0, e⟩ h)
      (by
        by_cases hx : ∃ p ∈ l, dotI (crossI n1 (subI b a)) (subI p a) ≠ 0
        · exact hx
        · refine absurd (flat_of hin (a := a) hmn fun o ho => ?_) hf
          by_cases e : dotI (crossI n1 (subI b a)) (subI o a) = 0
          · exact e
          · exact absurd ⟨o, ho, e⟩ hx)
    refine ⟨a, b, c, combI α β n1 (crossI n1 (subI b a)), ha, hb, hc, ?_, hs, ?_, hz, ?_⟩
    · intro e
      have h1 := dot_comb α β n1 (crossI n1 (subI b a)) n1
      have h2 : dotI (crossI n1 (subI b a)) n1 = 0 := by unfold dotI crossI; grind
      rw [e, h2, Int.mul_zero, Int.add_zero] at h1
      have h3 : dotI (⟨0, 0, 0⟩ : P3) n1 = 0 := by unfold dotI; simp
      have h4 := Int.mul_pos hα (dotI_pos _ hn1)
      omega
    · rw [dot_comb, hz1]
      have h2 : dotI (crossI n1 (subI b a)) (subI b a) = 0 := by unfold dotI crossI; grind
      rw [h2]
      simp
    · intro e
      rw [hm, e, z0] at hmc
      exact hmc rfl
theorem fold_side (n a : P3) : ∀ (l : List P3) (s : Int × Int), ((∀ o ∈ l, 0 ≤ dot3 n (minus3 o a)) → 0 ≤ s.1 → 0 ≤ (l.foldl (sdStep n a) s).1) ∧ ((∀ o ∈ l, dot3 n (minus3 o a) ≤ 0) → s.2 ≤ 0 → (l.foldl (sdStep n a) s).2 ≤ 0)
  | [], s => ⟨fun _ h => h, fun _ h => h⟩
  | x :: l, s => by
    obtain ⟨h1, h2⟩ := fold_side n a l (sdStep n a s x)
    rw [List.foldl_cons]
    refine ⟨fun h hs => h1 (fun o ho => h o (List.mem_cons_of_mem _ ho)) ?_, fun h hs => h2 (fun o ho => h o (List.mem_cons_of_mem _ ho)) ?_⟩
    · have := h x List.mem_cons_self
      unfold sdStep mn
      simp only
      split <;> omega
    · have := h x List.mem_cons_self
      unfold sdStep mx
      simp only
      split <;> omega
theorem side_of {l : List P3} (hin : ∀ p ∈ l, in3 65536 p) {a n x y z : P3} (hn : n ≠ ⟨0, 0, 0⟩) (hs : ∀ p ∈ l, 0 ≤ dotI n (subI p a)) (mx_ : x ∈ l) (my_ : y ∈ l) (mz_ : z ∈ l) (hx : dotI n (subI x a) = 0) (hy : dotI n (subI y a) = 0) (hz : dotI n (subI z a) = 0) : sideF l (nrm3 x y z) x ≠ 0 := by
  obtain ⟨e, i1⟩ := nrm_at (hin _ mx_) (hin _ my_) (hin _ mz_)
  rw [e]
  have hv : ∀ o, dotI n (subI o x) = dotI n (subI o a) := fun o => by unfold dotI subI at *; grind
  have key : ∀ v, dotI n n * dotI (crossI (subI y x) (subI z x)) v = dotI n (crossI (subI y x) (subI z x)) * dotI n v := fun v => by
    have h1 := hv y
    have h2 := hv z
    rw [hy] at h1
    rw [hz] at h2
    generalize subI y x = Y at h1 h2
    generalize subI z x = Z at h1 h2
    unfold dotI crossI at *
    grind
  have hpos := dotI_pos n hn
  have hd : ∀ o ∈ l, dot3 (crossI (subI y x) (subI z x)) (minus3 o x) = dotI (crossI (subI y x) (subI z x)) (subI o x) := fun o ho => dot_in i1 (hin _ ho) (hin _ mx_)
  generalize crossI (subI y x) (subI z x) = N at key hd
  have h0 : ∀ o ∈ l, 0 ≤ dotI n (subI o x) := fun o ho => by rw [hv]; exact hs o ho
  unfold sideF sdF sideV
  obtain ⟨f1, f2⟩ := fold_side N x l (0, 0)
  rcases Int.le_total 0 (dotI n N) with hN | hN
  · have := f1 (fun o ho => by
      rw [hd o ho]
      have k := key (subI o x)
      have p := Int.mul_nonneg hN (h0 o ho)
      rw [← k] at p
      rcases Int.lt_or_le (dotI N (subI o x)) 0 with q | q
      · have := Int.mul_neg_of_pos_of_neg hpos q
        omega
      · exact q) (Int.le_refl _)
    split
    · decide
    · (try rw [if_pos this]); decide
  · have := f2 (fun o ho => by
      rw [hd o ho]
      have k := key (subI o x)
      have p := Int.mul_nonpos_of_nonpos_of_nonneg hN (h0 o ho)
      rw [← k] at p
      rcases Int.lt_or_le 0 (dotI N (subI o x)) with q | q
      · have := Int.mul_pos hpos q
        omega
      · exact q) (Int.le_refl _)
    rw [if_pos this]; decide
end Go.Proofs.Ytckdhahceelckaa.G
namespace Go.Proofs.Ytckdhahceelckaa.G
open Go.RowKit Go.Proofs.YtckdhahceelckaaW.PrintWords
set_option linter.unusedVariables false
theorem sort3 {l : List P3} {Q : P3 → P3 → P3 → Prop} (s12 : ∀ x y z, Q x y z → Q y x z) (s23 : ∀ x y z, Q x y z → Q x z y) (hne : ∀ x y z, Q x y z → x ≠ y) {a b c : P3} {i j k : Nat} (ha : l[i]? = some a) (hb : l[j]? = some b) (hc : l[k]? = some c) (h : Q a b c) :
    ∃ (i j k : Nat) (x y z : P3), i < j ∧ j < k ∧ l[i]? = some x ∧ l[j]? = some y ∧ l[k]? = some z ∧ Q x y z := by
  have hij : i ≠ j := fun e => by rw [e, hb] at ha; cases ha; exact hne _ _ _ h rfl
  have hik : i ≠ k := fun e => by rw [e, hc] at ha; cases ha; exact hne _ _ _ (s23 _ _ _ h) rfl
  have hjk : j ≠ k := fun e => by rw [e, hc] at hb; cases hb; exact hne _ _ _ (s23 _ _ _ (s12 _ _ _ h)) rfl
  rcases Nat.lt_or_gt_of_ne hij with h1 | h1 <;> rcases Nat.lt_or_gt_of_ne hik with h2 | h2 <;> rcases Nat.lt_or_gt_of_ne hjk with h3 | h3
  · exact ⟨i, j, k, a, b, c, h1, h3, ha, hb, hc, h⟩
  · exact ⟨i, k, j, a, c, b, h2, h3, ha, hc, hb, s23 _ _ _ h⟩
  · omega
  · exact ⟨k, i, j, c, a, b, h2, h1, hc, ha, hb, s12 _ _ _ (s23 _ _ _ h)⟩
  · exact ⟨j, i, k, b, a, c, h1, h2, hb, ha, hc, s12 _ _ _ h⟩
  · omega
  · exact ⟨j, k, i, b, c, a, h3, h2, hb, hc, ha, s23 _ _ _ (s12 _ _ _ h)⟩
  · exact ⟨k, j, i, c, b, a, h3, h1, hc, hb, ha, s23 _ _ _ (s12 _ _ _ (s23 _ _ _ h))⟩
theorem cross12 {x y z : P3} (h : crossI (subI y x) (subI z x) ≠ ⟨0, 0, 0⟩) : crossI (subI x y) (subI z y) ≠ ⟨0, 0, 0⟩ := fun e => h (by
  unfold crossI subI at *
  simp only [P3.mk.injEq] at *
  refine ⟨?_, ?_, ?_⟩ <;> grind)
theorem cross23 {x y z : P3} (h : crossI (subI y x) (subI z x) ≠ ⟨0, 0, 0⟩) : crossI (subI z x) (subI y x) ≠ ⟨0, 0, 0⟩ := fun e => h (by
  unfold crossI subI at *
  simp only [P3.mk.injEq] at *
  refine ⟨?_, ?_, ?_⟩ <;> grind)
theorem hull_axis {l axes edges : List P3} (hin : ∀ p ∈ l, in3 65536 p) (hf : ¬ FlatP l) (h : HullOk l axes edges) : ∃ x ∈ axes, x ≠ ⟨0, 0, 0⟩ ∧ in3 1048576 x := by
  obtain ⟨a, b, c, n, ha, hb, hc, hn, hs, hzb, hzc, hx⟩ := support hin hf
  have hza : dotI n (subI a a) = 0 := by unfold dotI subI; simp
  obtain ⟨ia, hia⟩ := List.getElem?_of_mem ha
  obtain ⟨ib, hib⟩ := List.getElem?_of_mem hb
  obtain ⟨ic, hic⟩ := List.getElem?_of_mem hc
  obtain ⟨i, j, k, x, y, z, hij, hjk, hxi, hyj, hzk, ⟨zx, zy, zz⟩, hcr⟩ := sort3 (l := l) (Q := fun x y z => (dotI n (subI x a) = 0 ∧ dotI n (subI y a) = 0 ∧ dotI n (subI z a) = 0) ∧ crossI (subI y x) (subI z x) ≠ ⟨0, 0, 0⟩)
    (fun x y z h => ⟨⟨h.1.2.1, h.1.1, h.1.2.2⟩, cross12 h.2⟩) (fun x y z h => ⟨⟨h.1.1, h.1.2.2, h.1.2.1⟩, cross23 h.2⟩)
    (fun x y z h e => h.2 (by subst e; unfold crossI subI; simp)) hia hib hic ⟨⟨hza, hzb, hzc⟩, hx⟩
  have mx_ := List.mem_of_getElem? hxi
  have my_ := List.mem_of_getElem? hyj
  have mz_ := List.mem_of_getElem? hzk
  have hsd := side_of hin hn hs mx_ my_ mz_ zx zy zz
  obtain ⟨e, i1⟩ := nrm_at (hin _ mx_) (hin _ my_) (hin _ mz_)
  have hnn : nrm3 x y z ≠ ⟨0, 0, 0⟩ := by rw [e]; exact hcr
  have hil : i < l.length := (List.getElem?_eq_some_iff.1 hxi).1
  have hmem := h.done i j k _ hij hjk (.inl hil) ⟨x, y, z, hxi, hyj, hzk, hnn, hsd, rfl⟩
  obtain ⟨hs1, _⟩ := side_spec hsd
  refine ⟨_, hmem, ?_, ?_⟩
  · unfold axisF
    refine short3_ne _ ?_ (sgn_ne hs1 hnn)
    rw [e]
    exact sgn_in (by rw [← e]; exact hs1) i1
  · unfold axisF
    exact short3_in _
end Go.Proofs.Ytckdhahceelckaa.G
namespace Go.Proofs.Ytckdhahceelckaa.G
open Go.RowKit Go.Proofs.YtckdhahceelckaaW.PrintWords
set_option linter.unusedVariables false
theorem abs_mul {a b A B : Int} (ha : -A ≤ a ∧ a ≤ A) (hb : -B ≤ b ∧ b ≤ B) : -(A * B) ≤ a * b ∧ a * b ≤ A * B := by
  have h : (a * b).natAbs ≤ A.natAbs * B.natAbs := by rw [Int.natAbs_mul]; exact Nat.mul_le_mul (by omega) (by omega)
  have e : ((A.natAbs * B.natAbs : Nat) : Int) = A * B := by rw [Int.natCast_mul, Int.natAbs_of_nonneg (by omega), Int.natAbs_of_nonneg (by omega)]
  omega
/-- one row of the rounded turn and of the turn itself -/
theorem row_bd {a1 a2 a3 c1 c2 c3 X Y Z : Int} (h1 : -4294967296 ≤ 4294967296 * a1 - c1 ∧ 4294967296 * a1 - c1 ≤ 4294967296) (h2 : -4294967296 ≤ 4294967296 * a2 - c2 ∧ 4294967296 * a2 - c2 ≤ 4294967296) (h3 : -4294967296 ≤ 4294967296 * a3 - c3 ∧ 4294967296 * a3 - c3 ≤ 4294967296)
    (hX : -4294967296 ≤ X ∧ X ≤ 4294967296) (hY : -4294967296 ≤ Y ∧ Y ≤ 4294967296) (hZ : -4294967296 ≤ Z ∧ Z ≤ 4294967296) (hv : -4096 < (a1 * X + a2 * Y + a3 * Z) / 4294967296 ∧ (a1 * X + a2 * Y + a3 * Z) / 4294967296 < 4096) :
    -75613203958135452073984 ≤ c1 * X + c2 * Y + c3 * Z ∧ c1 * X + c2 * Y + c3 * Z ≤ 75613203958135452073984 := by
  have k1 := abs_mul h1 hX
  have k2 := abs_mul h2 hY
  have k3 := abs_mul h3 hZ
  have e : c1 * X + c2 * Y + c3 * Z = 4294967296 * (a1 * X + a2 * Y + a3 * Z) - ((4294967296 * a1 - c1) * X + (4294967296 * a2 - c2) * Y + (4294967296 * a3 - c3) * Z) := by grind
  rw [e]
  generalize (4294967296 * a1 - c1) * X = e1 at k1
  generalize (4294967296 * a2 - c2) * Y = e2 at k2
  generalize (4294967296 * a3 - c3) * Z = e3 at k3
  generalize a1 * X + a2 * Y + a3 * Z = r at hv
  omega
theorem rot_norm (w x y z X Y Z T : Int) :
    ((T - ((y + y) * y + (z + z) * z)) * X + ((x + x) * y + (w + w) * -z) * Y + ((x + x) * z + (w + w) * y) * Z - (T - (w * w + x * x + y * y + z * z)) * X) * ((T - ((y + y) * y + (z + z) * z)) * X + ((x + x) * y + (w + w) * -z) * Y + ((x + x) * z + (w + w) * y) * Z - (T - (w * w + x * x + y * y + z * z)) * X) +
    (((x + x) * y + (w + w) * z) * X + (T - ((x + x) * x + (z + z) * z)) * Y + ((y + y) * z + (w + w) * -x) * Z - (T - (w * w + x * x + y * y + z * z)) * Y) * (((x + x) * y + (w + w) * z) * X + (T - ((x + x) * x + (z + z) * z)) * Y + ((y + y) * z + (w + w) * -x) * Z - (T - (w * w + x * x + y * y + z * z)) * Y) +
    (((x + x) * z + (w + w) * -y) * X + ((y + y) * z + (w + w) * x) * Y + (T - ((x + x) * x + (y + y) * y)) * Z - (T - (w * w + x * x + y * y + z * z)) * Z) * (((x + x) * z + (w + w) * -y) * X + ((y + y) * z + (w + w) * x) * Y + (T - ((x + x) * x + (y + y) * y)) * Z - (T - (w * w + x * x + y * y + z * z)) * Z) =
    (w * w + x * x + y * y + z * z) * (w * w + x * x + y * y + z * z) * (X * X + Y * Y + Z * Z) := by grind
theorem rot_alg (S T m1 m2 m3 X Y Z : Int) (h : (m1 - (T - S) * X) * (m1 - (T - S) * X) + (m2 - (T - S) * Y) * (m2 - (T - S) * Y) + (m3 - (T - S) * Z) * (m3 - (T - S) * Z) = S * S * (X * X + Y * Y + Z * Z)) :
    T * (2 * S - T) * (X * X + Y * Y + Z * Z) = m1 * m1 + m2 * m2 + m3 * m3 - 2 * ((T - S) * (m1 * X + m2 * Y + m3 * Z)) := by grind
theorem d2_near (a b c d : Int) : -4294967296 ≤ 4294967296 * D2 a b c d - (a * c + b * d) ∧ 4294967296 * D2 a b c d - (a * c + b * d) ≤ 4294967296 := by
  unfold D2
  generalize a * c + b * d = n
  omega
theorem d2_near' (a b c d : Int) : -4294967296 ≤ 4294967296 * (4294967296 - D2 a b c d) - (18446744073709551616 - (a * c + b * d)) ∧ 4294967296 * (4294967296 - D2 a b c d) - (18446744073709551616 - (a * c + b * d)) ≤ 4294967296 := by
  unfold D2
  generalize a * c + b * d = n
  omega
/-- a unit quaternion turns a long vector into one that is not short -/
theorem turn_long {q : Q4} (hq : q32 q) (hS : 18446744039349813248 ≤ q.w * q.w + q.x * q.x + q.y * q.y + q.z * q.z) {V : P3} (hV : in3 4294967296 V) (hN : 4611686018427387904 ≤ dotI V V)
    (h1 : -4096 < vdotF (rowsF q).a V ∧ vdotF (rowsF q).a V < 4096) (h2 : -4096 < vdotF (rowsF q).b V ∧ vdotF (rowsF q).b V < 4096) (h3 : -4096 < vdotF (rowsF q).c V ∧ vdotF (rowsF q).c V < 4096) : False := by
  obtain ⟨w, x, y, z⟩ := q
  obtain ⟨X, Y, Z⟩ := V
  obtain ⟨v1, v2, v3, v4, v5, v6⟩ := hV
  obtain ⟨bw, bx, by_, bz⟩ := hq
  simp only at hS v1 v2 v3 v4 v5 v6 bw bx by_ bz
  unfold vdotF dotI rowsF at h1 h2 h3
  unfold dotI at hN
  simp only at h1 h2 h3 hN
  have r1 := row_bd (d2_near' (y + y) (z + z) y z) (d2_near (x + x) (w + w) y (-z)) (d2_near (x + x) (w + w) z y) ⟨v1, v2⟩ ⟨v3, v4⟩ ⟨v5, v6⟩ h1
  have r2 := row_bd (d2_near (x + x) (w + w) y z) (d2_near' (x + x) (z + z) x z) (d2_near (y + y) (w + w) z (-x)) ⟨v1, v2⟩ ⟨v3, v4⟩ ⟨v5, v6⟩ h2
  have r3 := row_bd (d2_near (x + x) (w + w) z (-y)) (d2_near (y + y) (w + w) z x) (d2_near' (x + x) (y + y) x y) ⟨v1, v2⟩ ⟨v3, v4⟩ ⟨v5, v6⟩ h3
  have hn := rot_norm w x y z X Y Z 18446744073709551616
  have sw := abs_mul bw bw
  have sx := abs_mul bx bx
  have sy := abs_mul by_ by_
  have sz := abs_mul bz bz
  have hSu : w * w + x * x + y * y + z * z ≤ 73786976294838206464 := by omega
  clear sw sx sy sz
  generalize w * w + x * x + y * y + z * z = S at hS hSu hn
  generalize (18446744073709551616 - ((y + y) * y + (z + z) * z)) * X + ((x + x) * y + (w + w) * -z) * Y + ((x + x) * z + (w + w) * y) * Z = m1 at r1 hn
  generalize ((x + x) * y + (w + w) * z) * X + (18446744073709551616 - ((x + x) * x + (z + z) * z)) * Y + ((y + y) * z + (w + w) * -x) * Z = m2 at r2 hn
  generalize ((x + x) * z + (w + w) * -y) * X + ((y + y) * z + (w + w) * x) * Y + (18446744073709551616 - ((x + x) * x + (y + y) * y)) * Z = m3 at r3 hn
  have alg := rot_alg S 18446744073709551616 m1 m2 m3 X Y Z hn
  generalize X * X + Y * Y + Z * Z = N at hN alg
  have k1 := Int.mul_le_mul_of_nonneg_right (show (170141183460469231731687303715884105728 : Int) ≤ 18446744073709551616 * (2 * S - 18446744073709551616) by omega) (show 0 ≤ N by omega)
  have q1 := abs_mul r1 r1
  have q2 := abs_mul r2 r2
  have q3 := abs_mul r3 r3
  have p1 := abs_mul r1 (⟨v1, v2⟩ : -4294967296 ≤ X ∧ X ≤ 4294967296)
  have p2 := abs_mul r2 (⟨v3, v4⟩ : -4294967296 ≤ Y ∧ Y ≤ 4294967296)
  have p3 := abs_mul r3 (⟨v5, v6⟩ : -4294967296 ≤ Z ∧ Z ≤ 4294967296)
  have p4 : -(3 * (75613203958135452073984 * 4294967296)) ≤ m1 * X + m2 * Y + m3 * Z ∧ m1 * X + m2 * Y + m3 * Z ≤ 3 * (75613203958135452073984 * 4294967296) := by omega
  have p5 := abs_mul (⟨by omega, by omega⟩ : -(55340232221128654848 : Int) ≤ 18446744073709551616 - S ∧ 18446744073709551616 - S ≤ 55340232221128654848) p4
  generalize (18446744073709551616 - S) * (m1 * X + m2 * Y + m3 * Z) = D at alg p5
  generalize 18446744073709551616 * (2 * S - 18446744073709551616) * N = E at alg k1
  generalize m1 * m1 = M1 at alg q1
  generalize m2 * m2 = M2 at alg q2
  generalize m3 * m3 = M3 at alg q3
  clear p1 p2 p3 p4 r1 r2 r3 hn h1 h2 h3 bw bx by_ bz
  omega
theorem unit_norm (q : Q4) (h : 0 < lenF q) : 18446744039349813248 ≤ (unitF q).w * (unitF q).w + (unitF q).x * (unitF q).x + (unitF q).y * (unitF q).y + (unitF q).z * (unitF q).z := by
  obtain ⟨w, x, y, z⟩ := q
  have hw := sq_nonneg w
  have hx := sq_nonneg x
  have hy := sq_nonneg y
  have hz := sq_nonneg z
  obtain ⟨h0, h2, h1⟩ := rtI_spec (v := w * w + x * x + y * y + z * z) (by omega)
  have e : lenF ⟨w, x, y, z⟩ = rtI (w * w + x * x + y * y + z * z) := rfl
  rw [← e] at h0 h1 h2
  have bw := sq_le_bd (a := w) h0 (by omega)
  have bx := sq_le_bd (a := x) h0 (by omega)
  have by_ := sq_le_bd (a := y) h0 (by omega)
  have bz := sq_le_bd (a := z) h0 (by omega)
  unfold unitF
  simp only
  generalize lenF ⟨w, x, y, z⟩ = L at h h0 h1 h2 bw bx by_ bz
  have one : ∀ a : Int, -L ≤ a → a ≤ L → 18446744073709551616 * (a * a) - 8589934592 * (L * L) ≤ L * L * ((a * 4294967296 / L) * (a * 4294967296 / L)) := by
    intro a ha1 ha2
    have d1 := Int.emod_add_mul_ediv (a * 4294967296) L
    have d2 := Int.emod_nonneg (a * 4294967296) (show L ≠ 0 by omega)
    have d3 := Int.emod_lt_of_pos (a * 4294967296) h
    generalize a * 4294967296 / L = c at d1
    generalize a * 4294967296 % L = r at d1 d2 d3
    have e1 : L * c = 4294967296 * a - r := by omega
    have e2 : L * L * (c * c) = (4294967296 * a - r) * (4294967296 * a - r) := by rw [← e1]; grind
    have e3 : (4294967296 * a - r) * (4294967296 * a - r) = 18446744073709551616 * (a * a) - 8589934592 * (a * r) + r * r := by grind
    have k1 := abs_mul (⟨ha1, ha2⟩ : -L ≤ a ∧ a ≤ L) (⟨by omega, by omega⟩ : -L ≤ r ∧ r ≤ L)
    have k2 := sq_nonneg r
    rw [e2, e3]
    omega
  have o1 := one w bw.1 bw.2
  have o2 := one x bx.1 bx.2
  have o3 := one y by_.1 by_.2
  have o4 := one z bz.1 bz.2
  generalize w * 4294967296 / L = c1 at o1
  generalize x * 4294967296 / L = c2 at o2
  generalize y * 4294967296 / L = c3 at o3
  generalize z * 4294967296 / L = c4 at o4
  refine Int.le_of_mul_le_mul_left (a := L * L) ?_ (Int.mul_pos h h)
  have e1 : L * L * (c1 * c1 + c2 * c2 + c3 * c3 + c4 * c4) = L * L * (c1 * c1) + L * L * (c2 * c2) + L * L * (c3 * c3) + L * L * (c4 * c4) := by grind
  have e2 : L * L * 18446744039349813248 = 18446744039349813248 * (L * L) := Int.mul_comm _ _
  rw [e1, e2]
  omega
theorem whole_norm (q : Q4) : 18446744039349813248 ≤ (wholeF q).w * (wholeF q).w + (wholeF q).x * (wholeF q).x + (wholeF q).y * (wholeF q).y + (wholeF q).z * (wholeF q).z := by
  unfold wholeF
  split
  · simp
  · exact unit_norm q (by omega)
/-- a right pose turns no way into nought -/
theorem way_turned (p : P7) (x : P3) (hx : in3 1048576 x) (h0 : x ≠ ⟨0, 0, 0⟩) : wayF (rowsF (rightPose p).turn) x ≠ ⟨0, 0, 0⟩ := by
  have hq := wholeF_q32 (partQ p.turn)
  have hS := whole_norm (partQ p.turn)
  have hm := rows_mOk hq
  have hD := dbl3_in x hx
  have hf := dbl3_far x h0
  simp only [rightPose]
  generalize wholeF (partQ p.turn) = q at hq hS hm
  unfold wayF
  generalize dbl3 x = D at hD hf
  have hV := times_in hD
  obtain ⟨_, _, _, ht⟩ := turn_ok hm hV
  have hfar : ¬ in3 524288 D := fun h => by rw [(far3_iff _ _ (by decide) (by decide)).2 h] at hf; cases hf
  have hd := dotI_far D 524288 (by decide) (by unfold in3 at hfar; omega)
  have hN : 4611686018427387904 ≤ dotI (timesF D 4096) (timesF D 4096) := by
    have e : dotI (timesF D 4096) (timesF D 4096) = 16777216 * dotI D D := by unfold dotI timesF; grind
    rw [e]
    omega
  refine short3_ne _ (tdv_in ht) fun e => ?_
  unfold tdv3 at e
  simp only [P3.mk.injEq] at e
  obtain ⟨e1, e2, e3⟩ := e
  have zero : ∀ a : Int, a.tdiv 4096 = 0 → -4096 < a ∧ a < 4096 := fun a ha => by
    rcases Int.le_total 0 a with h | h
    · rw [Int.tdiv_eq_ediv_of_nonneg h] at ha; omega
    · have : a.tdiv 4096 = -((-a).tdiv 4096) := by rw [Int.neg_tdiv, Int.neg_neg]
      rw [this, Int.tdiv_eq_ediv_of_nonneg (by omega)] at ha
      omega
  exact turn_long hq hS hV hN (zero _ e1) (zero _ e2) (zero _ e3)
end Go.Proofs.Ytckdhahceelckaa.G
namespace Go.Proofs.Ytckdhahceelckaa.G
open Go.RowKit Go.Proofs.YtckdhahceelckaaW.PrintWords
set_option linter.unusedVariables false
theorem ways_turned (p : P7) {l : List P3} {x : P3} (hx : x ∈ l) (hi : in3 1048576 x) (h0 : x ≠ ⟨0, 0, 0⟩) : ∃ y ∈ waysF (rowsF (rightPose p).turn) l, long3 y ≠ ⟨0, 0, 0⟩ := by
  have h1 := way_turned p x hi h0
  refine ⟨wayF (rowsF (rightPose p).turn) x, ?_, ?_⟩
  · unfold waysF
    exact List.mem_filter.2 ⟨List.mem_map_of_mem hx, by simpa using h1⟩
  · exact (long3_short _ (by unfold wayF; exact short3_in _) h1).2.1
/-- what a value of Cores is for Sound -/
theorem CoreAt.way {s : Shp} (hs : ShpOk s) (A : P3) (p7 : P7) (ha : atOk A) {w : World} {v : Value} (h : CoreAt s ⟨A, (rightPose p7).turn⟩ w v) : ∃ p a e, CoreV w v p a e s.radius ∧ MayP p a e s.radius ∧ Ways p a := by
  have hm := (rightPose_ok p7).1
  have hw : ∀ (l : List P3) (x : P3), x ∈ l → in3 1048576 x → x ≠ ⟨0, 0, 0⟩ → ∃ y ∈ waysF (rowsF (rightPose p7).turn) l, long3 y ≠ ⟨0, 0, 0⟩ := fun l x hx hi h0 => ways_turned p7 hx hi h0
  obtain ⟨t, ht⟩ : ∃ t, (rightPose p7).turn = t := ⟨_, rfl⟩
  rw [ht] at h hm hw
  obtain ⟨p, a, e, h1, h2⟩ := h
  refine ⟨p.map (placePt (rowsF t) A), waysF (rowsF t) a, waysF (rowsF t) e, h2, CoreIs.may (q := ⟨A, t⟩) hs h1 hm ha, ?_⟩
  unfold Ways
  rcases h1 with ⟨_, rfl, rfl, rfl⟩ | ⟨_, rfl, rfl, rfl⟩ | ⟨_, rfl, rfl, rfl⟩ | ⟨hk, rfl, hh⟩
  · left; simp
  · left; simp
  · right
    exact hw _ ⟨1, 0, 0⟩ (by simp) (by unfold in3; simp) (by simp)
  · right
    obtain ⟨x, hx, h0, hi⟩ := hull_axis hs.pts (hs.hull hk).2 hh
    exact hw _ x hx hi h0
end Go.Proofs.Ytckdhahceelckaa.G
namespace Go.Proofs.Ytckdhahceelckaa.G
open Go.RowKit Go.Proofs.YtckdhahceelckaaW.PrintWords
set_option linter.unusedVariables false
theorem CoreIs.in8 {s : Shp} (hs : ShpOk s) {p a e : List P3} (h : CoreIs s p a e) {q : P7} (hm : mOk (rowsF q.turn)) (ha : atOk q.at_) : ∀ x ∈ p.map (placePt (rowsF q.turn) q.at_), in3 8388608 x := by
  intro x hx
  obtain ⟨y, hy, rfl⟩ := List.mem_map.1 hx
  exact place_in3 hm ha ((h.bounds hs).pin y hy)
theorem CoreAt.nearW {s : Shp} (hs : ShpOk s) (q : P7) (hm : mOk (rowsF q.turn)) (ha : atOk q.at_) (hw : ∀ (l : List P3) (x : P3), x ∈ l → in3 1048576 x → x ≠ ⟨0, 0, 0⟩ → ∃ y ∈ waysF (rowsF q.turn) l, long3 y ≠ ⟨0, 0, 0⟩)
    {w : World} {v : Value} (h : CoreAt s q w v) : ∃ p a e, CoreV w v p a e s.radius ∧ MayP p a e s.radius ∧ Ways p a ∧ ∀ x ∈ p, in3 8388608 x := by
  obtain ⟨p, a, e, h1, h2⟩ := h
  refine ⟨_, _, _, h2, h1.may hs hm ha, ?_, h1.in8 hs hm ha⟩
  unfold Ways
  rcases h1 with ⟨_, rfl, rfl, rfl⟩ | ⟨_, rfl, rfl, rfl⟩ | ⟨_, rfl, rfl, rfl⟩ | ⟨hk, rfl, hh⟩
  · left; simp
  · left; simp
  · right
    exact hw _ ⟨1, 0, 0⟩ (by simp) (by unfold in3; simp) (by simp)
  · right
    obtain ⟨x, hx, h0, hi⟩ := hull_axis hs.pts (hs.hull hk).2 hh
    exact hw _ x hx hi h0
theorem CoreAt.near {s : Shp} (hs : ShpOk s) (A : P3) (p7 : P7) (ha : atOk A) {w : World} {v : Value} (h : CoreAt s ⟨A, (rightPose p7).turn⟩ w v) : ∃ p a e, CoreV w v p a e s.radius ∧ MayP p a e s.radius ∧ Ways p a ∧ ∀ x ∈ p, in3 8388608 x := by
  have hm := (rightPose_ok p7).1
  have hw : ∀ (l : List P3) (x : P3), x ∈ l → in3 1048576 x → x ≠ ⟨0, 0, 0⟩ → ∃ y ∈ waysF (rowsF (rightPose p7).turn) l, long3 y ≠ ⟨0, 0, 0⟩ := fun l x hx hi h0 => ways_turned p7 hx hi h0
  obtain ⟨t, ht⟩ : ∃ t, (rightPose p7).turn = t := ⟨_, rfl⟩
  rw [ht] at h hm hw
  exact CoreAt.nearW hs ⟨A, t⟩ hm ha hw h
end Go.Proofs.Ytckdhahceelckaa.G
namespace Go.Proofs.Ytckdhahceelckaa.G
open Go.RowKit Go.Proofs.YtckdhahceelckaaW.PrintWords Go.Proofs.YtckdhahceelckaaW.PrintLast Go.Proofs.YtckdhahceelckaaW.PrintMore
attribute [local go_sem] max2_mx min2_mn max_two min_two max_three min_three max_four min_four
attribute [local go_sem high] eqA23 eqA40
set_option linter.unusedVariables false
set_option linter.unusedSimpArgs false
set_option maxHeartbeats 4000000 in
set_option maxRecDepth 100000 in
theorem smay_calls {w : World} {v : Value} {c : Cr} (h : CrV w v c) (y : P3) (hl : c.p.length ≤ 140737488355328) : Calls Try.prog 72 #[v, aP y] w fun e w' => e = .returned (.bool (smay c y)) ∧ Below w.heap.size w w' := by
  obtain ⟨p, a, e, r⟩ := c
  obtain ⟨yx, yy, yz⟩ := y
  obtain ⟨A0, A1, A2, c0, c1, c2, rfl, h0, h1, h2, k0, k1, k2⟩ := id h.out
  have hm : (apartS p a e r [⟨0, 0, 0⟩] [] [] 0).2 = mayF p a e r := by
    have := apS_may ⟨p, a, e, r⟩ ⟨[⟨0, 0, 0⟩], [], [], 0⟩
    rw [mayOne (x := ⟨0, 0, 0⟩) (by unfold in3; decide) (by decide) (by decide), Bool.and_true] at this
    exact this
  obtain ⟨R, hR⟩ : ∃ R, apartS p a e r [⟨0, 0, 0⟩] [] [] 0 = R := ⟨_, rfl⟩
  have HA := Lh (fun (W : World) (u v : Value) (h1 : CoreV W v p a e r) (h2 : CoreV W u [⟨0, 0, 0⟩] [] [] 0) => apart_all h1 h2 R hR)
  rw [hR] at hm
  obtain ⟨⟨⟨Rx, Ry, Rz⟩, Rg⟩, Ro⟩ := R
  simp only at HA hm
  obtain ⟨NP, hNP⟩ : ∃ n, p.length = n := ⟨_, rfl⟩
  obtain ⟨NA, hNA⟩ : ∃ n, a.length = n := ⟨_, rfl⟩
  obtain ⟨NE, hNE⟩ : ∃ n, e.length = n := ⟨_, rfl⟩
  have HS : Hid (smay ⟨p, a, e, r⟩ ⟨yx, yy, yz⟩ = (Ro && decide ((NP : Int) ≤ 16) && (decide (mx (mx yx yy) yz ≤ 4194304) && decide (-4194304 ≤ mn (mn yx yy) yz)))) := Lh (by
    unfold smay Cr.may wayOk
    rw [hm]
    simp only
    rw [hNP]
    have : decide (NP ≤ 16) = decide ((NP : Int) ≤ 16) := by by_cases t : NP ≤ 16 <;> simp [t] <;> omega
    rw [this])
  have HV := Lh (show CoreV w (.agg #[.slice A0 p.length c0, .slice A1 a.length c1, .slice A2 e.length c2, .int .i64 r]) p a e r from h)
  simp only at hl
  rw [hNP, hNA, hNE] at HV ⊢
  rw [hNP] at hl
  clear hNP hNA hNE hm hR h h0 h1 h2 k0 k1 k2
  have Z0 := Lh (three0 w (.cells #[.slice A0 NP c0, .slice A1 NA c1, .slice A2 NE c2, .int .i64 r] 36) (.cells #[.int .i64 yx, .int .i64 yy, .int .i64 yz] 23) (.cells #[.int .i64 0, .int .i64 0, .int .i64 0] 23))
  have Z1 := Lh (three1 w (.cells #[.slice A0 NP c0, .slice A1 NA c1, .slice A2 NE c2, .int .i64 r] 36) (.cells #[.int .i64 yx, .int .i64 yy, .int .i64 yz] 23) (.cells #[.int .i64 0, .int .i64 0, .int .i64 0] 23))
  have Z2 := Lh (three2 w (.cells #[.slice A0 NP c0, .slice A1 NA c1, .slice A2 NE c2, .int .i64 r] 36) (.cells #[.int .i64 yx, .int .i64 yy, .int .i64 yz] 23) (.cells #[.int .i64 0, .int .i64 0, .int .i64 0] 23))
  have ZB := Lh (Go.Joins.below_alloc3 w (.cells #[.slice A0 NP c0, .slice A1 NA c1, .slice A2 NE c2, .int .i64 r] 36) (.cells #[.int .i64 yx, .int .i64 yy, .int .i64 yz] 23) (.cells #[.int .i64 0, .int .i64 0, .int .i64 0] 23))
  go_enter Try.func72, Try.ntmps72
  go_wp2_with fail
  obtain ⟨w1, hw1⟩ : ∃ V, ((w.alloc (.cells #[.slice A0 NP c0, .slice A1 NA c1, .slice A2 NE c2, .int .i64 r] 36)).alloc (.cells #[.int .i64 yx, .int .i64 yy, .int .i64 yz] 23)).alloc (.cells #[.int .i64 0, .int .i64 0, .int .i64 0] 23) = V := ⟨_, rfl⟩
  rw [hw1] at Z0 Z1 Z2 ZB ⊢
  clear hw1
  with_reducible refine (HA.out w1 _ _ (HV.out.below ZB.out) (ball_core w1 _ 0 0 0 0 1 (Nat.le_refl _) Z2.out)).mono ?_
  rintro e w2 ⟨rfl, hb⟩
  have Z0 := Lh ((hb.block _ (blk_lt Z0.out)).trans Z0.out)
  have Z1 := Lh ((hb.block _ (blk_lt Z1.out)).trans Z1.out)
  have ZB := Lh (bthen ZB.out hb)
  have x0 : w2.cell? ⟨w.heap.size, 0, none⟩ = some (.slice A0 NP c0) := (blk_cell Z0.out 0).trans rfl
  have y0 : w2.cell? ⟨w.heap.size + 1, 0, none⟩ = some (.int .i64 yx) := (blk_cell Z1.out 0).trans rfl
  have y1 : w2.cell? ⟨w.heap.size + 1, 1, none⟩ = some (.int .i64 yy) := (blk_cell Z1.out 1).trans rfl
  have y2 : w2.cell? ⟨w.heap.size + 1, 2, none⟩ = some (.int .i64 yz) := (blk_cell Z1.out 2).trans rfl
  have l0 : w.heap.size < w2.heap.size := blk_lt Z0.out
  have l1 : w.heap.size + 1 < w2.heap.size := blk_lt Z1.out
  have ZB2 := Lh (bthen ZB.out ((Below.refl _ w2).alloc (Nat.le_refl _) (.cells #[.int .i64 Rx, .int .i64 Ry, .int .i64 Rz, .int .i64 Rg] 40)))
  clear hb HA HV Z2
  cases Ro with
  | false =>
    have HS2 := Lh (HS.out.trans (by simp : _ = false))
    clear HS
    go_wp2
    go_ret
    exact ⟨by rw [HS2.out]; rfl, ZB2.out⟩
  | true =>
    by_cases t1 : (NP : Int) ≤ 16
    · have e1 : decide ((NP : Int) ≤ 16) = true := decide_eq_true t1
      by_cases t2 : mx (mx yx yy) yz ≤ 4194304
      · have e2 : decide (mx (mx yx yy) yz ≤ 4194304) = true := decide_eq_true t2
        by_cases t3 : -4194304 ≤ mn (mn yx yy) yz
        · have e3 : decide (-4194304 ≤ mn (mn yx yy) yz) = true := decide_eq_true t3
          have HS2 := Lh (HS.out.trans (by rw [e1, e2, e3]; rfl : _ = true))
          clear HS t1 t2 t3
          go_wp2
          go_ret
          exact ⟨by rw [HS2.out]; rfl, ZB2.out⟩
        · have e3 : decide (-4194304 ≤ mn (mn yx yy) yz) = false := decide_eq_false t3
          have HS2 := Lh (HS.out.trans (by rw [e1, e2, e3]; rfl : _ = false))
          clear HS t1 t2 t3
          go_wp2
          go_ret
          exact ⟨by rw [HS2.out]; rfl, ZB2.out⟩
      · have e2 : decide (mx (mx yx yy) yz ≤ 4194304) = false := decide_eq_false t2
        have HS2 := Lh (HS.out.trans (by rw [e1, e2]; rfl : _ = false))
        clear HS t1 t2
        go_wp2
        go_ret
        exact ⟨by rw [HS2.out]; rfl, ZB2.out⟩
    · have e1 : decide ((NP : Int) ≤ 16) = false := decide_eq_false t1
      have HS2 := Lh (HS.out.trans (by rw [e1]; rfl : _ = false))
      clear HS t1
      go_wp2
      go_ret
      exact ⟨by rw [HS2.out]; rfl, ZB2.out⟩
end Go.Proofs.Ytckdhahceelckaa.G
namespace Go.Proofs.Ytckdhahceelckaa.G
open Go.RowKit Go.Proofs.YtckdhahceelckaaW.PrintWords Go.Proofs.YtckdhahceelckaaW.PrintLast Go.Proofs.YtckdhahceelckaaW.PrintMore
attribute [local go_sem] max2_mx min2_mn max_two min_two max_three min_three max_four min_four
attribute [local go_sem high] eqA23 eqA40
set_option linter.unusedVariables false
set_option linter.unusedSimpArgs false
attribute [local go_sem high] eqSn eqSs
set_option maxHeartbeats 2000000 in
set_option maxRecDepth 100000 in
theorem clone_own (l : List P3) (n : Nat) (A : Option Addr) (c : Nat) (w : World) (hn : l.length = n) (hr : Rd w A l) (hb : n ≤ 40000) :
    Calls Try.prog 71 #[.slice A n c] w (OwnPost l w) := by
  have HR := Lh hr
  have HN := Lh hn
  cases A with
  | none =>
    have h0 : l = [] := by
      cases l with
      | nil => rfl
      | cons p l => obtain ⟨b, o', e, _⟩ := hr 0 p rfl; cases e
    subst h0
    clear hn hr
    go_enter Try.func71, Try.ntmps71
    go_wp2
    go_ret
    exact ⟨_, rfl, OwnP.nil _ _, Below.refl _ _⟩
  | some ad =>
    clear hn hr
    go_enter Try.func71, Try.ntmps71
    have hown : OwnP (w.alloc (.cells #[] 23)) w.heap.size (.slice (some ⟨w.heap.size, 0, none⟩) 0 0) [] := ⟨rfl, .inr ⟨w.heap.size, 0, #[], rfl, Nat.le_refl _, heap_alloc_new w (.cells #[] 23), Nat.le_refl _, by decide, rfl, rfl⟩⟩
    have hB := (Below.refl w.heap.size w).alloc (Nat.le_refl _) (.cells #[] 23)
    have HOWN := Lh hown
    have HB := Lh hB
    clear hown hB
    go_wp2_with (at_builtin; refine appL_ w.heap.size rfl _ _ rfl _ [] l (some ad) _ _ rfl rfl HOWN.out (HR.out.below HB.out) HN.out (by simp; omega) HB.out.size ?_; intro v2 w3 hv hg hat)
    go_ret
    exact ⟨_, rfl, by simpa using hv, HB.out.grown hg HB.out.size (fun k hk => HOWN.out.base_ k hk)⟩
theorem CSt.setKeep {w1 W : World} {v : Value} {l : List P3} {keep : List Nat} (h : CSt w1 W v l keep) {k : Nat} (hk : k ∈ keep) (hw : w1.heap.size ≤ k) (j : Nat) (u : Value) : CSt w1 (W.setCell ⟨k, j, none⟩ u) v l keep :=
  ⟨own_setCell h.own (fun e => (h.ne k hk).1 e.symm) u, h.below.setCell (p := ⟨k, j, none⟩) hw u, fun i hi => ⟨(h.ne i hi).1, by simpa using (h.ne i hi).2⟩⟩
theorem blk_s1 {w : World} {g : Nat} {a b c d : Value} {t : TypeId} (h : w.heap[g]? = some (.cells #[a, b, c, d] t (0, 0))) (u : Value) : (w.setCell ⟨g, 1, none⟩ u).heap[g]? = some (.cells #[a, u, c, d] t (0, 0)) := by
  simp [World.setCell, Array.getElem?_modify, h]
theorem blk_s2 {w : World} {g : Nat} {a b c d : Value} {t : TypeId} (h : w.heap[g]? = some (.cells #[a, b, c, d] t (0, 0))) (u : Value) : (w.setCell ⟨g, 2, none⟩ u).heap[g]? = some (.cells #[a, b, u, d] t (0, 0)) := by
  simp [World.setCell, Array.getElem?_modify, h]
/-- a list of its own from a world on -/
def RdV (W : World) (b : Nat) (v : Value) (l : List P3) : Prop := ∃ A c, v = .slice A l.length c ∧ l.length ≤ c ∧ RdB W A l ∧ ∀ ad, A = some ad → b ≤ ad.block
theorem RdV.below {W W1 : World} {b : Nat} {v : Value} {l : List P3} (h : RdV W b v l) (hb : Below W.heap.size W W1) : RdV W1 b v l := by
  obtain ⟨A, c, e, h1, h2, h3⟩ := h
  exact ⟨A, c, e, h1, h2.below hb, h3⟩
theorem wmul16 (x k : Int) (hx : -4194304 ≤ x ∧ x ≤ 4194304) (h0 : 0 ≤ k) (h1 : k ≤ 16) : wrap64 (x * k) = x * k ∧ wrap64 ((x * k).tdiv 16) = (x * k).tdiv 16 := by
  have a := tdiv16 x k h0 h1
  have hb : -67108864 ≤ x * k ∧ x * k ≤ 67108864 := by
    have e1 := Int.mul_nonneg (show 0 ≤ x + 4194304 by omega) h0
    have e2 := Int.mul_nonneg (show 0 ≤ 4194304 - x by omega) h0
    rw [Int.add_mul] at e1
    rw [Int.sub_mul] at e2
    omega
  unfold wrap64
  omega
def TrailPost (t : Cr) (w : World) (en : Ending) (w' : World) : Prop := ∃ v, en = .returned v ∧ CrV w' v t ∧ Below w.heap.size w w'
set_option maxHeartbeats 16000000 in
set_option maxRecDepth 100000 in
theorem trail_in (p a e : List P3) (r : Int) (A0 A1 A2 : Option Addr) (c0 c1 c2 : Nat) (y : P3) (K : Int) (w : World) (hv : CoreV w (.agg #[.slice A0 p.length c0, .slice A1 a.length c1, .slice A2 e.length c2, .int .i64 r]) p a e r) (h0 : RdB w A0 p) (h1 : RdB w A1 a) (h2 : RdB w A2 e) (hl : p.length ≤ 140737488355328) :
    Calls Try.prog 37 #[.agg #[.slice A0 p.length c0, .slice A1 a.length c1, .slice A2 e.length c2, .int .i64 r], aP y, .int .i64 K] w (TrailPost (trailF ⟨p, a, e, r⟩ y K) w) := by
  have HM := Lh (fun (W : World) (hW : CoreV W (.agg #[.slice A0 p.length c0, .slice A1 a.length c1, .slice A2 e.length c2, .int .i64 r]) p a e r) => smay_calls (c := ⟨p, a, e, r⟩) hW y hl)
  have HYES := Lh (fun (h : smay ⟨p, a, e, r⟩ y = true) => (smay_iff ⟨p, a, e, r⟩ y).1 h)
  have HT1 := Lh (fun (h : smay ⟨p, a, e, r⟩ y = true) (g0 : 0 ≤ K) (g1 : K ≤ 16) => trailF_yes (c := ⟨p, a, e, r⟩) h g0 g1)
  have HT0 := Lh (fun (h : smay ⟨p, a, e, r⟩ y = false ∨ K < 0 ∨ 16 < K) => show trailF ⟨p, a, e, r⟩ y K = Cr0 from if_neg (by
    rintro ⟨q0, q1, q2⟩
    rcases h with h | h | h
    · rw [h] at q0; cases q0
    · omega
    · omega))
  obtain ⟨S, hS⟩ : ∃ S, smay ⟨p, a, e, r⟩ y = S := ⟨_, rfl⟩
  rw [hS] at HM HYES HT0 HT1
  obtain ⟨T, hT⟩ : ∃ T, trailF ⟨p, a, e, r⟩ y K = T := ⟨_, rfl⟩
  rw [hT] at HT0 HT1 ⊢
  obtain ⟨yx, yy, yz⟩ := y
  obtain ⟨NP, hNP⟩ : ∃ N, p.length = N := ⟨_, rfl⟩
  obtain ⟨NA, hNA⟩ : ∃ N, a.length = N := ⟨_, rfl⟩
  obtain ⟨NE, hNE⟩ : ∃ N, e.length = N := ⟨_, rfl⟩
  have HNP := Lh hNP
  have HNA := Lh hNA
  have HNE := Lh hNE
  rw [hNP, hNA, hNE] at hv HM ⊢
  rw [hNP] at hl
  have HV := Lh hv
  have H0 := Lh h0
  have H1 := Lh h1
  have H2 := Lh h2
  clear h0 h1 h2 hv hS hT hNP hNA hNE hl
  have z0 := three0 w (.cells #[.slice A0 NP c0, .slice A1 NA c1, .slice A2 NE c2, .int .i64 r] 36) (.cells #[.int .i64 yx, .int .i64 yy, .int .i64 yz] 23) (.cells #[.slice none 0 0, .slice none 0 0, .slice none 0 0, .int .i64 0] 36)
  have z1 := three1 w (.cells #[.slice A0 NP c0, .slice A1 NA c1, .slice A2 NE c2, .int .i64 r] 36) (.cells #[.int .i64 yx, .int .i64 yy, .int .i64 yz] 23) (.cells #[.slice none 0 0, .slice none 0 0, .slice none 0 0, .int .i64 0] 36)
  have z2 := three2 w (.cells #[.slice A0 NP c0, .slice A1 NA c1, .slice A2 NE c2, .int .i64 r] 36) (.cells #[.int .i64 yx, .int .i64 yy, .int .i64 yz] 23) (.cells #[.slice none 0 0, .slice none 0 0, .slice none 0 0, .int .i64 0] 36)
  have zb := Go.Joins.below_alloc3 w (.cells #[.slice A0 NP c0, .slice A1 NA c1, .slice A2 NE c2, .int .i64 r] 36) (.cells #[.int .i64 yx, .int .i64 yy, .int .i64 yz] 23) (.cells #[.slice none 0 0, .slice none 0 0, .slice none 0 0, .int .i64 0] 36)
  go_enter Try.func37, Try.ntmps37
  go_wp2_with fail
  obtain ⟨w1, hw1⟩ : ∃ V, ((w.alloc (.cells #[.slice A0 NP c0, .slice A1 NA c1, .slice A2 NE c2, .int .i64 r] 36)).alloc (.cells #[.int .i64 yx, .int .i64 yy, .int .i64 yz] 23)).alloc (.cells #[.slice none 0 0, .slice none 0 0, .slice none 0 0, .int .i64 0] 36) = V := ⟨_, rfl⟩
  rw [hw1] at z0 z1 z2 zb ⊢
  clear hw1
  with_reducible refine (HM.out w1 (HV.out.below zb)).mono ?_
  rintro en w2 ⟨rfl, hb⟩
  have Z0 := Lh ((hb.block _ (blk_lt z0)).trans z0)
  have Z1 := Lh ((hb.block _ (blk_lt z1)).trans z1)
  have Z2 := Lh ((hb.block _ (blk_lt z2)).trans z2)
  have ZB := Lh (bthen zb hb)
  have H0 := Lh (H0.out.below ZB.out)
  have H1 := Lh (H1.out.below ZB.out)
  have H2 := Lh (H2.out.below ZB.out)
  clear zb z0 z1 z2 hb HM HV
  cases S with
  | false =>
    have HT := Lh (HT0.out (.inl rfl))
    clear HT0 HT1 HYES
    have f0 : w2.frozen? ⟨w.heap.size + 2, 0, none⟩ = false := blk_frozen Z2.out 0
    have f1 : w2.frozen? ⟨w.heap.size + 2, 1, none⟩ = false := blk_frozen Z2.out 1
    have f2 : w2.frozen? ⟨w.heap.size + 2, 2, none⟩ = false := blk_frozen Z2.out 2
    have f3 : w2.frozen? ⟨w.heap.size + 2, 3, none⟩ = false := blk_frozen Z2.out 3
    have r0 : w2.cell? ⟨w.heap.size + 2, 0, none⟩ = some (.slice none 0 0) := (blk_cell Z2.out 0).trans rfl
    have r1 : w2.cell? ⟨w.heap.size + 2, 1, none⟩ = some (.slice none 0 0) := (blk_cell Z2.out 1).trans rfl
    have r2 : w2.cell? ⟨w.heap.size + 2, 2, none⟩ = some (.slice none 0 0) := (blk_cell Z2.out 2).trans rfl
    have r3 : w2.cell? ⟨w.heap.size + 2, 3, none⟩ = some (.int .i64 0) := (blk_cell Z2.out 3).trans rfl
    obtain ⟨V, hV⟩ : ∃ V, set4 w2 (w.heap.size + 1 + 1) (.slice none 0 0) (.slice none 0 0) (.slice none 0 0) (.int .i64 0) = V := ⟨_, rfl⟩
    have HV : V.heap[w.heap.size + 2]? = some (.cells #[.slice none 0 0, .slice none 0 0, .slice none 0 0, .int .i64 0] 36 (0, 0)) := by rw [← hV]; exact blk4_set Z2.out _ _ _ _
    have HBV : Below w.heap.size w V := by rw [← hV]; exact below_set4 ZB.out (by omega) _ _ _ _
    have t0 : V.cell? ⟨w.heap.size + 1 + 1, 0, none⟩ = some (.slice none 0 0) := (blk_cell HV 0).trans rfl
    have t1 : V.cell? ⟨w.heap.size + 1 + 1, 1, none⟩ = some (.slice none 0 0) := (blk_cell HV 1).trans rfl
    have t2 : V.cell? ⟨w.heap.size + 1 + 1, 2, none⟩ = some (.slice none 0 0) := (blk_cell HV 2).trans rfl
    have t3 : V.cell? ⟨w.heap.size + 1 + 1, 3, none⟩ = some (.int .i64 0) := (blk_cell HV 3).trans rfl
    go_wp2
    (try rw [hV])
    exact bodyPost_ret (v := .agg #[.slice none 0 0, .slice none 0 0, .slice none 0 0, .int .i64 0]) (by simp [results, Try.results37, go_sem, t0, t1, t2, t3]) rfl ⟨_, rfl, by rw [HT.out]; exact ⟨none, none, none, 0, 0, 0, rfl, RdB.nil _, RdB.nil _, RdB.nil _, Nat.le_refl _, Nat.le_refl _, Nat.le_refl _⟩, HBV⟩
  | true =>
    by_cases tk0 : K < 0
    · have ek0 : decide (K < 0) = true := decide_eq_true tk0
      have HT := Lh (HT0.out (.inr (.inl tk0)))
      clear HT0 HT1 HYES
      have f0 : w2.frozen? ⟨w.heap.size + 2, 0, none⟩ = false := blk_frozen Z2.out 0
      have f1 : w2.frozen? ⟨w.heap.size + 2, 1, none⟩ = false := blk_frozen Z2.out 1
      have f2 : w2.frozen? ⟨w.heap.size + 2, 2, none⟩ = false := blk_frozen Z2.out 2
      have f3 : w2.frozen? ⟨w.heap.size + 2, 3, none⟩ = false := blk_frozen Z2.out 3
      have r0 : w2.cell? ⟨w.heap.size + 2, 0, none⟩ = some (.slice none 0 0) := (blk_cell Z2.out 0).trans rfl
      have r1 : w2.cell? ⟨w.heap.size + 2, 1, none⟩ = some (.slice none 0 0) := (blk_cell Z2.out 1).trans rfl
      have r2 : w2.cell? ⟨w.heap.size + 2, 2, none⟩ = some (.slice none 0 0) := (blk_cell Z2.out 2).trans rfl
      have r3 : w2.cell? ⟨w.heap.size + 2, 3, none⟩ = some (.int .i64 0) := (blk_cell Z2.out 3).trans rfl
      obtain ⟨V, hV⟩ : ∃ V, set4 w2 (w.heap.size + 1 + 1) (.slice none 0 0) (.slice none 0 0) (.slice none 0 0) (.int .i64 0) = V := ⟨_, rfl⟩
      have HV : V.heap[w.heap.size + 2]? = some (.cells #[.slice none 0 0, .slice none 0 0, .slice none 0 0, .int .i64 0] 36 (0, 0)) := by rw [← hV]; exact blk4_set Z2.out _ _ _ _
      have HBV : Below w.heap.size w V := by rw [← hV]; exact below_set4 ZB.out (by omega) _ _ _ _
      have t0 : V.cell? ⟨w.heap.size + 1 + 1, 0, none⟩ = some (.slice none 0 0) := (blk_cell HV 0).trans rfl
      have t1 : V.cell? ⟨w.heap.size + 1 + 1, 1, none⟩ = some (.slice none 0 0) := (blk_cell HV 1).trans rfl
      have t2 : V.cell? ⟨w.heap.size + 1 + 1, 2, none⟩ = some (.slice none 0 0) := (blk_cell HV 2).trans rfl
      have t3 : V.cell? ⟨w.heap.size + 1 + 1, 3, none⟩ = some (.int .i64 0) := (blk_cell HV 3).trans rfl
      go_wp2
      (try rw [hV])
      exact bodyPost_ret (v := .agg #[.slice none 0 0, .slice none 0 0, .slice none 0 0, .int .i64 0]) (by simp [results, Try.results37, go_sem, t0, t1, t2, t3]) rfl ⟨_, rfl, by rw [HT.out]; exact ⟨none, none, none, 0, 0, 0, rfl, RdB.nil _, RdB.nil _, RdB.nil _, Nat.le_refl _, Nat.le_refl _, Nat.le_refl _⟩, HBV⟩
    have ek0 : decide (K < 0) = false := decide_eq_false tk0
    by_cases tk1 : 16 < K
    · have ek1 : decide (16 < K) = true := decide_eq_true tk1
      have HT := Lh (HT0.out (.inr (.inr tk1)))
      clear HT0 HT1 HYES
      have f0 : w2.frozen? ⟨w.heap.size + 2, 0, none⟩ = false := blk_frozen Z2.out 0
      have f1 : w2.frozen? ⟨w.heap.size + 2, 1, none⟩ = false := blk_frozen Z2.out 1
      have f2 : w2.frozen? ⟨w.heap.size + 2, 2, none⟩ = false := blk_frozen Z2.out 2
      have f3 : w2.frozen? ⟨w.heap.size + 2, 3, none⟩ = false := blk_frozen Z2.out 3
      have r0 : w2.cell? ⟨w.heap.size + 2, 0, none⟩ = some (.slice none 0 0) := (blk_cell Z2.out 0).trans rfl
      have r1 : w2.cell? ⟨w.heap.size + 2, 1, none⟩ = some (.slice none 0 0) := (blk_cell Z2.out 1).trans rfl
      have r2 : w2.cell? ⟨w.heap.size + 2, 2, none⟩ = some (.slice none 0 0) := (blk_cell Z2.out 2).trans rfl
      have r3 : w2.cell? ⟨w.heap.size + 2, 3, none⟩ = some (.int .i64 0) := (blk_cell Z2.out 3).trans rfl
      obtain ⟨V, hV⟩ : ∃ V, set4 w2 (w.heap.size + 1 + 1) (.slice none 0 0) (.slice none 0 0) (.slice none 0 0) (.int .i64 0) = V := ⟨_, rfl⟩
      have HV : V.heap[w.heap.size + 2]? = some (.cells #[.slice none 0 0, .slice none 0 0, .slice none 0 0, .int .i64 0] 36 (0, 0)) := by rw [← hV]; exact blk4_set Z2.out _ _ _ _
      have HBV : Below w.heap.size w V := by rw [← hV]; exact below_set4 ZB.out (by omega) _ _ _ _
      have t0 : V.cell? ⟨w.heap.size + 1 + 1, 0, none⟩ = some (.slice none 0 0) := (blk_cell HV 0).trans rfl
      have t1 : V.cell? ⟨w.heap.size + 1 + 1, 1, none⟩ = some (.slice none 0 0) := (blk_cell HV 1).trans rfl
      have t2 : V.cell? ⟨w.heap.size + 1 + 1, 2, none⟩ = some (.slice none 0 0) := (blk_cell HV 2).trans rfl
      have t3 : V.cell? ⟨w.heap.size + 1 + 1, 3, none⟩ = some (.int .i64 0) := (blk_cell HV 3).trans rfl
      go_wp2
      (try rw [hV])
      exact bodyPost_ret (v := .agg #[.slice none 0 0, .slice none 0 0, .slice none 0 0, .int .i64 0]) (by simp [results, Try.results37, go_sem, t0, t1, t2, t3]) rfl ⟨_, rfl, by rw [HT.out]; exact ⟨none, none, none, 0, 0, 0, rfl, RdB.nil _, RdB.nil _, RdB.nil _, Nat.le_refl _, Nat.le_refl _, Nat.le_refl _⟩, HBV⟩
    have ek1 : decide (16 < K) = false := decide_eq_false tk1
    obtain ⟨hm, hl16, hy⟩ := HYES.out rfl
    have m := Cr.mayP hm
    have g0 : 0 ≤ K := by omega
    have g1 : K ≤ 16 := by omega
    have hl1 : NP ≤ 16 := by rw [← HNP.out]; exact hl16
    have hl2 : NA ≤ 128 := by rw [← HNA.out]; exact m.a1
    have hl3 : NE ≤ 128 := by rw [← HNE.out]; exact m.e1
    have HT := Lh (HT1.out rfl g0 g1)
    have HEI := Lh (far_in (by decide) (by decide) m.ef)
    have hpi := far_in (by decide) (by decide) m.pf
    have hBB := partP_bd ⟨yx, yy, yz⟩ K g0 g1 4194304 hy (by decide)
    have ⟨mx1, mx2⟩ := wmul16 yx K ⟨hy.1, hy.2.1⟩ g0 g1
    have ⟨my1, my2⟩ := wmul16 yy K ⟨hy.2.2.1, hy.2.2.2.1⟩ g0 g1
    have ⟨mz1, mz2⟩ := wmul16 yz K ⟨hy.2.2.2.2.1, hy.2.2.2.2.2⟩ g0 g1
    have HPX := Lh (fun k (hk : k < p.length) => show plusI (partP ⟨yx, yy, yz⟩ K) p[k] = ⟨wrap64 (p[k].x + wrap64 ((wrap64 (yx * K)).tdiv 16)), wrap64 (p[k].y + wrap64 ((wrap64 (yy * K)).tdiv 16)), wrap64 (p[k].z + wrap64 ((wrap64 (yz * K)).tdiv 16))⟩ by
      have := hpi p[k] (List.getElem_mem hk)
      rw [mx1, my1, mz1, mx2, my2, mz2]
      unfold in3 partP at hBB
      unfold in3 at this
      unfold plusI partP wrap64
      simp only [P3.mk.injEq] at this hBB ⊢
      omega)
    have HLM := Lh (fun k (hk : k < p.length) => show (p ++ p.map (plusI (partP ⟨yx, yy, yz⟩ K))).take (NP + (k + 1)) = (p ++ p.map (plusI (partP ⟨yx, yy, yz⟩ K))).take (NP + k) ++ [plusI (partP ⟨yx, yy, yz⟩ K) p[k]] by
      have h9 := HNP.out
      rw [show NP + (k + 1) = NP + k + 1 from rfl, List.take_succ_eq_append_getElem (by rw [List.length_append, List.length_map, HNP.out]; omega), List.getElem_append_right (by rw [HNP.out]; omega)]
      simp [HNP.out])
    have HLM0 : Hid ((p ++ p.map (plusI (partP ⟨yx, yy, yz⟩ K))).take (NP + 0) = p) := Lh (by rw [Nat.add_zero, ← HNP.out, List.take_left])
    have HLM1 : Hid ((p ++ p.map (plusI (partP ⟨yx, yy, yz⟩ K))).take (NP + NP) = p ++ p.map (plusI (partP ⟨yx, yy, yz⟩ K))) := Lh (List.take_of_length_le (by rw [List.length_append, List.length_map, HNP.out]; exact Nat.le_refl _))
    have HLL : Hid ((p ++ p.map (plusI (partP ⟨yx, yy, yz⟩ K))).length ≤ 32) := Lh (by rw [List.length_append, List.length_map, HNP.out]; omega)
    obtain ⟨LM, hLM⟩ : ∃ L, p ++ p.map (plusI (partP ⟨yx, yy, yz⟩ K)) = L := ⟨_, rfl⟩
    rw [hLM] at HLM HLM0 HLM1 HLL HT
    have HSH := Lh (fun W => short_calls yx yy yz W)
    obtain ⟨s, hs⟩ : ∃ s, short3 ⟨yx, yy, yz⟩ = s := ⟨_, rfl⟩
    rw [hs] at HSH HT
    have HLA := Lh (fun k (hk : k < e.length) => show (acrossF ⟨yx, yy, yz⟩ e).take (k + 1) = (acrossF ⟨yx, yy, yz⟩ e).take k ++ [short3 (cross3 e[k] s)] by
      unfold acrossF
      rw [List.take_succ_eq_append_getElem (by rw [List.length_map]; exact hk), List.getElem_map, hs])
    have HLAL : Hid ((acrossF ⟨yx, yy, yz⟩ e).length = NE) := Lh (by unfold acrossF; rw [List.length_map]; exact HNE.out)
    obtain ⟨LA, hLA⟩ : ∃ L, acrossF ⟨yx, yy, yz⟩ e = L := ⟨_, rfl⟩
    rw [hLA] at HLA HLAL HT
    obtain ⟨sx, sy, sz⟩ := s
    simp only at HSH
    have HCL := Lh (fun (W : World) (hW : RdB W A0 p) => clone_own p NP A0 c0 W HNP.out hW.1 (by omega))
    have HW1 := Lh (fun (W : World) (va : Option Addr) (ca : Nat) (hA : RdB W A1 a) (hB : RdB W va LA) => with_calls a LA NA NE A1 va c1 ca W HNA.out HLAL.out hA.1 hB.1 (by omega) (by omega))
    have HW2 := Lh (fun (W : World) (vb : Option Addr) (hA : RdB W A2 e) (hB : RdB W vb [⟨sx, sy, sz⟩]) => with_calls e [⟨sx, sy, sz⟩] NE 1 A2 vb c2 1 W HNE.out rfl hA.1 hB.1 (by omega) (by omega))
    clear HT0 HT1 HYES hm hl16 m hpi hBB hLM hs hLA tk0 tk1 hy g0 g1 mx1 mx2 my1 my2 mz1 mz2
    have x0 : w2.cell? ⟨w.heap.size, 0, none⟩ = some (.slice A0 NP c0) := (blk_cell Z0.out 0).trans rfl
    have x3 : w2.cell? ⟨w.heap.size, 3, none⟩ = some (.int .i64 r) := (blk_cell Z0.out 3).trans rfl
    have l0 : w.heap.size < w2.heap.size := blk_lt Z0.out
    go_wp2_with fail
    have HB := Lh ((Below.refl w2.heap.size w2).drew)
    have FF := Lh (show ∀ V, Hid (Below (w2.heap.size) w2 V) → V.cell? ⟨w.heap.size, 0, none⟩ = some (.slice A0 NP c0) ∧ V.cell? ⟨w.heap.size, 3, none⟩ = some (.int .i64 r) from fun V HB => ⟨(HB.out.cell (p := ⟨w.heap.size, 0, none⟩) (l0)).trans x0, (HB.out.cell (p := ⟨w.heap.size, 3, none⟩) (l0)).trans x3⟩)
    refine start_ (n := 8) (S := fun w' => w'.cell? ⟨w.heap.size, 0, none⟩ = some (.slice A0 NP c0) ∧ w'.cell? ⟨w.heap.size, 3, none⟩ = some (.int .i64 r)) (ds := []) (MT 0 8) (by kernel_rfl) rfl rfl (FF.out _ HB) (fun hHeld => ?_)
    obtain ⟨wd, hwd⟩ : ∃ x, w2.drew = x := ⟨_, rfl⟩
    rw [hwd] at HB hHeld ⊢
    clear hwd
    refine pu_ 0 27 (h := ?_)
    refine pu_ 2 29 (h := ?_)
    refine ta_ 1 28 hHeld (h := ?_)
    refine ta_ 3 30 hHeld (h := ?_)
    refine join_ (σ := Nat × Value) 1 (MT 7 1) (fun s => [(31, s.2), (32, .agg #[s.2, .slice none 0 0, .slice none 0 0, .int .i64 r]), (7, .pointer (some ⟨s.1, 0, none⟩))]) (fun (s : Nat × Value) w' => match s with | (s1, s2) => w2.heap.size ≤ s1 ∧ w'.heap[s1]? = some (.cells #[.slice none 0 0, .slice none 0 0, .slice none 0 0, .int .i64 0] 36 (0, 0)) ∧ Below (w2.heap.size) w2 w' ∧ OwnP w' w2.heap.size s2 p ∧ s2.ownBlock ≠ some s1) ?_ ?_
    rotate_left
    · intro hCont
      refine two_ (i := 4) (j := 6) (Ni := some 31) (Nj := some 7) (MT 5 3) #[true, true, true, true, false, false, true, false] rfl rfl rfl rfl (by kernel_rfl) (by decide) (by decide) (fun K hK => ?_) (fun K hK => ?_)
      · skip
        refine gs_ Try.func71 #[.slice A0 NP c0] ?_
        with_reducible refine (HCL.out _ (H0.out.below HB.out)).mono ?_
        rintro en w3 ⟨vc, rfl, ho, hb⟩
        obtain ⟨Av, nv, cv, hvv⟩ : ∃ A n c, vc = .slice A n c := (by obtain ⟨A, c, h, _⟩ := OwnP.rd ho; exact ⟨A, _, c, h⟩)
        subst hvv
        have HO : Hid (OwnP _ w2.heap.size (.slice Av nv cv) p) := Lh (own_weaken ho HB.out.size)
        have HB := Lh (HB.out.trans (hb.mono HB.out.size))
        clear hb ho
        refine ⟨_, rfl, ?_⟩
        refine hK.out _ _ (FF.out _ HB) (fun hHeld => ?_)
        clear hK K
        refine no_ (h := ?_)
        refine pu_ 5 32 (h := ?_)
        refine on_ 6 (some 7) (h := fun K hK => ?_)
        refine value_ (w1 := ?_) (v := ?_) (by rfl) rfl ?_ ?_
        rotate_left 2
        · go_simp
          constructor
          · rfl
          · rfl
        have HA := Lh (ha_new HB.out (.cells #[.slice none 0 0, .slice none 0 0, .slice none 0 0, .int .i64 0] 36))
        have hge := HB.out.size
        have NE_ := Lh (fun (e0 : _ = some _) => Nat.lt_irrefl _ (World.ownsRow.lt HO.out _ e0).2)
        have HO := Lh (HO.out.grown ((Below.refl _ _).alloc (Nat.le_refl _) (.cells #[.slice none 0 0, .slice none 0 0, .slice none 0 0, .int .i64 0] 36)))
        have HB := Lh (HB.out.alloc (Nat.le_trans (Nat.le_refl _) HB.out.size) (.cells #[.slice none 0 0, .slice none 0 0, .slice none 0 0, .int .i64 0] 36))
        refine hK.out _ _ (FF.out _ HB) (fun hHeld => ?_)
        clear hK K
        refine no_ (h := ?_)
        exact norm_ (by simp only [putAll, Act.put, List.setIfInBounds_toArray, List.set_cons_zero, List.set_cons_succ]) (hCont (_, _) _ ⟨hge, HA.out, HB.out, HO.out, NE_.out⟩)
      · skip
        refine value_ (w1 := ?_) (v := ?_) (by rfl) rfl ?_ ?_
        rotate_left 2
        · go_simp
          constructor
          · rfl
          · rfl
        have HA := Lh (ha_new HB.out (.cells #[.slice none 0 0, .slice none 0 0, .slice none 0 0, .int .i64 0] 36))
        have hge := HB.out.size
        have HB := Lh (HB.out.alloc (Nat.le_trans (Nat.le_refl _) HB.out.size) (.cells #[.slice none 0 0, .slice none 0 0, .slice none 0 0, .int .i64 0] 36))
        refine hK.out _ _ (FF.out _ HB) (fun hHeld => ?_)
        clear hK K
        refine no_ (h := ?_)
        refine on_ 4 (some 31) (h := fun K hK => ?_)
        refine gs_ Try.func71 #[.slice A0 NP c0] ?_
        with_reducible refine (HCL.out _ (H0.out.below HB.out)).mono ?_
        rintro en w3 ⟨vc, rfl, ho, hb⟩
        obtain ⟨Av, nv, cv, hvv⟩ : ∃ A n c, vc = .slice A n c := (by obtain ⟨A, c, h, _⟩ := OwnP.rd ho; exact ⟨A, _, c, h⟩)
        subst hvv
        have NE_ := Lh (fun (e0 : (Value.slice Av nv cv).ownBlock = some _) => Nat.lt_irrefl _ (Nat.lt_of_lt_of_le (blk_lt HA.out) (ho.base_ _ e0)))
        have HA := Lh ((hb.block _ (blk_lt HA.out)).trans HA.out)
        have HO : Hid (OwnP _ w2.heap.size (.slice Av nv cv) p) := Lh (own_weaken ho HB.out.size)
        have HB := Lh (HB.out.trans (hb.mono HB.out.size))
        clear hb ho
        refine ⟨_, rfl, ?_⟩
        refine hK.out _ _ (FF.out _ HB) (fun hHeld => ?_)
        clear hK K
        refine no_ (h := ?_)
        refine pu_ 5 32 (h := ?_)
        exact norm_ (by simp only [putAll, Act.put, List.setIfInBounds_toArray, List.set_cons_zero, List.set_cons_succ]) (hCont (_, _) _ ⟨hge, HA.out, HB.out, HO.out, NE_.out⟩)
    rintro ⟨AB, vc⟩ wj ⟨hge, HA, HB, HO, NE_⟩
    (try simp only at hge HA HB HO NE_)
    have HA := Lh HA
    have HB := Lh HB
    have NE_ := Lh NE_
    obtain ⟨Av, nv, cv, hvv⟩ : ∃ A n c, vc = .slice A n c := (by obtain ⟨A, c, h, _⟩ := OwnP.rd HO; exact ⟨A, _, c, h⟩)
    subst hvv
    have HO := Lh HO
    have hHeld := FF.out _ HB
    refine no_ (h := ?_)
    refine on_ 7 (none) (h := fun K hK => ?_)
    have sc0 : World.cell? _ ⟨AB, 0, none⟩ = some (.slice none 0 0) := (blk_cell HA.out 0).trans rfl
    have sf0 := blk_frozen HA.out 0
    have sc1 : World.cell? _ ⟨AB, 1, none⟩ = some (.slice none 0 0) := (blk_cell HA.out 1).trans rfl
    have sf1 := blk_frozen HA.out 1
    have sc2 : World.cell? _ ⟨AB, 2, none⟩ = some (.slice none 0 0) := (blk_cell HA.out 2).trans rfl
    have sf2 := blk_frozen HA.out 2
    have sc3 : World.cell? _ ⟨AB, 3, none⟩ = some (.int .i64 0) := (blk_cell HA.out 3).trans rfl
    have sf3 := blk_frozen HA.out 3
    refine skip_ (w1 := ?_) (by rfl) rfl ?_ ?_
    rotate_left
    · go_simp
      rfl
    have HO := Lh (own_setCell (own_setCell (own_setCell (own_setCell HO.out (p := ⟨AB, 0, none⟩) (fun e0 => NE_.out e0.symm) (.slice Av nv cv)) (p := ⟨AB, 1, none⟩) (fun e0 => NE_.out e0.symm) (.slice none 0 0)) (p := ⟨AB, 2, none⟩) (fun e0 => NE_.out e0.symm) (.slice none 0 0)) (p := ⟨AB, 3, none⟩) (fun e0 => NE_.out e0.symm) (.int .i64 r))
    have HA := Lh (bs4 HA.out (.slice Av nv cv) (.slice none 0 0) (.slice none 0 0) (.int .i64 r))
    have HB := Lh (bb4 HB.out (Nat.le_trans (Nat.le_refl _) hge) (.slice Av nv cv) (.slice none 0 0) (.slice none 0 0) (.int .i64 r))
    clear sc0 sf0 sc1 sf1 sc2 sf2 sc3 sf3
    refine hK.out _ _ (FF.out _ HB) (fun hHeld => ?_)
    clear hK K
    refine done_ (by kernel_rfl) ?_
    obtain ⟨w3, hwn⟩ : ∃ V, ((((wj.setCell ⟨AB, 0, none⟩ (.slice Av nv cv)).setCell ⟨AB, 1, none⟩ (.slice none 0 0)).setCell ⟨AB, 2, none⟩ (.slice none 0 0)).setCell ⟨AB, 3, none⟩ (.int .i64 r)) = V := ⟨_, rfl⟩
    rw [hwn] at HA HB HO ⊢
    clear hwn
    have HC3 : Hid (CSt w2 w3 (.slice Av nv cv) p [AB]) := Lh ⟨HO.out, HB.out, fun k hk => by
      rw [List.mem_singleton] at hk
      subst hk
      exact ⟨NE_.out, blk_lt HA.out⟩⟩
    have HC3 := Lh (HC3.out.len HLM0.out.symm)
    have HG := Lh hge
    have C0 := Lh ((HB.out.block _ (blk_lt Z0.out)).trans Z0.out)
    have HA3 := HA
    clear HA HB HO hge x0 x3 l0 HCL HLM0 NE_ FF
    have x0 : w3.cell? ⟨w.heap.size, 0, none⟩ = some (.slice A0 NP c0) := (blk_cell C0.out 0).trans rfl
    go_wp2_with fail
    go_loopw [36] (fun v36 wr => ∃ k : Nat, ∃ v : Value, k ≤ NP ∧ v36 = .int .i64 k ∧ Hid (CSt w2 wr v (LM.take (NP + k)) [AB]) ∧ Hid (wr.heap[AB]? = some (.cells #[v, .slice none 0 0, .slice none 0 0, .int .i64 r] 36 (0, 0)))) (fun i _ => NP - (intOf i).toNat)
    case atStart => exact ⟨0, _, by omega, rfl, HC3, HA3⟩
    case round =>
      obtain ⟨k, v, hk, rfl, hS, hT⟩ := hrel
      clear x0 HC3 HA3
      by_cases hlt : k < NP
      · have hkl : k < p.length := by rw [HNP.out]; exact hlt
        obtain ⟨b, o, rfl, lb, e0, e1, e2⟩ := (H0.out.below hS.out.below).1.get k hkl
        have HX := Lh (HPX.out k hkl)
        have HM1 := Lh (HLM.out k hkl)
        obtain ⟨x, hx⟩ : ∃ x, p[k] = x := ⟨_, rfl⟩
        rw [hx] at e0 e1 e2 HX HM1
        obtain ⟨xx, xy, xz⟩ := x
        simp only at HX e0 e1 e2
        rw [HX.out] at HM1
        have C1r := Lh (hS.out.old Z1.out)
        have q0 : wr.cell? ⟨w.heap.size + 1, 0, none⟩ = some (.int .i64 yx) := (blk_cell C1r.out 0).trans rfl
        have q1 : wr.cell? ⟨w.heap.size + 1, 1, none⟩ = some (.int .i64 yy) := (blk_cell C1r.out 1).trans rfl
        have q2 : wr.cell? ⟨w.heap.size + 1, 2, none⟩ = some (.int .i64 yz) := (blk_cell C1r.out 2).trans rfl
        have lq : w.heap.size + 1 < wr.heap.size := blk_lt C1r.out
        have t0 : wr.cell? ⟨AB, 0, none⟩ = some v := (blk_cell hT.out 0).trans rfl
        have lt : AB < wr.heap.size := blk_lt hT.out
        have tk : (k : Int) < (NP : Int) := by omega
        clear hx hkl C1r
        have hbA := ((Below.refl _ wr).alloc (Nat.le_refl _) (.cells #[.int .i64 xx, .int .i64 xy, .int .i64 xz] 23)).alloc (by simp) (.cells #[.int .i64 (wrap64 (xx + wrap64 ((wrap64 (yx * K)).tdiv 16))), .int .i64 (wrap64 (xy + wrap64 ((wrap64 (yy * K)).tdiv 16))), .int .i64 (wrap64 (xz + wrap64 ((wrap64 (yz * K)).tdiv 16)))] 23)
        have hS2 := Lh (hS.out.grown hbA)
        have hT2 := Lh ((hbA.block _ lt).trans hT.out)
        have hR2 := (Rd_one (heap_alloc_new (wr.alloc (.cells #[.int .i64 xx, .int .i64 xy, .int .i64 xz] 23)) (.cells #[.int .i64 (wrap64 (xx + wrap64 ((wrap64 (yx * K)).tdiv 16))), .int .i64 (wrap64 (xy + wrap64 ((wrap64 (yy * K)).tdiv 16))), .int .i64 (wrap64 (xz + wrap64 ((wrap64 (yz * K)).tdiv 16)))] 23))).1
        rw [World.size_alloc] at hR2
        clear hbA
        go_wp2_with (at_builtin; refine appL_ w2.heap.size rfl _ _ rfl _ (LM.take (NP + k)) [⟨wrap64 (xx + wrap64 ((wrap64 (yx * K)).tdiv 16)), wrap64 (xy + wrap64 ((wrap64 (yy * K)).tdiv 16)), wrap64 (xz + wrap64 ((wrap64 (yz * K)).tdiv 16))⟩] _ _ _ rfl rfl hS2.out.own hR2 rfl (by have := List.length_take_le (NP + k) LM; simp; omega) hS2.out.below.size ?_; intro v2 w4 hv2 hg2 hat; obtain ⟨Av2, nv2, cv2, hvv⟩ : ∃ A n c, v2 = .slice A n c := (by obtain ⟨A, c, h, _⟩ := OwnP.rd hv2; exact ⟨A, _, c, h⟩); subst hvv; have hT4 := Lh (hS2.out.blk hg2 (List.mem_singleton.2 rfl) hT2.out); have hS4 := Lh ((hS2.out.app hv2 hg2 hat).len HM1.out.symm); have u0 : w4.cell? ⟨AB, 0, none⟩ = some v := (blk_cell hT4.out 0).trans rfl; have u1 : w4.frozen? ⟨AB, 0, none⟩ = false := blk_frozen hT4.out 0; have lA4 : AB < w4.heap.size := blk_lt hT4.out; clear hv2 hg2 hat)
        go_roundw
        case rel => exact ⟨k + 1, .slice Av2 nv2 cv2, by omega, by go_num, Lh (hS4.out.setKeep (List.mem_singleton.2 rfl) HG.out 0 _), Lh (blk40 hT4.out (.slice Av2 nv2 cv2))⟩
        case measure => simp [intOf]; omega
      · obtain rfl : NP = k := by omega
        have hS := Lh (hS.out.len HLM1.out)
        clear HLM HLM1 HPX
        obtain ⟨nP, hnP⟩ : ∃ n, LM.length = n := ⟨_, rfl⟩
        obtain ⟨Ap, cp, hvp, hlp, hrp, hbp⟩ := hS.out.own.rdB2
        subst hvp
        rw [hnP] at hT hlp
        have HNM := Lh hnP
        have HLP := Lh hlp
        have HRP := Lh hrp
        have HBP := Lh (fun (ad : Addr) (ea : Ap = some ad) => show ad.block ≠ AB from fun e0 => (hS.out.ne AB (List.mem_singleton.2 rfl)).1 (by rw [ea]; show some ad.block = some AB; rw [e0]))
        have HBW := Lh hS.out.below
        have C0 := Lh (hS.out.old Z0.out)
        have C1 := Lh (hS.out.old Z1.out)
        have C2 := Lh (hS.out.old Z2.out)
        have H1 := Lh (H1.out.below HBW.out)
        have H2 := Lh (H2.out.below HBW.out)
        have ZB := Lh (bthen ZB.out HBW.out)
        have HGW := HG
        have q0 : wr.cell? ⟨w.heap.size + 1, 0, none⟩ = some (.int .i64 yx) := (blk_cell C1.out 0).trans rfl
        have q1 : wr.cell? ⟨w.heap.size + 1, 1, none⟩ = some (.int .i64 yy) := (blk_cell C1.out 1).trans rfl
        have q2 : wr.cell? ⟨w.heap.size + 1, 2, none⟩ = some (.int .i64 yz) := (blk_cell C1.out 2).trans rfl
        have lq : w.heap.size + 1 < wr.heap.size := blk_lt C1.out
        clear hnP hlp hrp hbp hS C1 H0 HNP
        go_wp2_with fail
        with_reducible refine (HSH.out _).mono ?_
        rintro en w5 ⟨rfl, hb⟩
        have HTA := Lh ((hb.block _ (blk_lt hT.out)).trans hT.out)
        have C0 := Lh ((hb.block _ (blk_lt C0.out)).trans C0.out)
        have C2 := Lh ((hb.block _ (blk_lt C2.out)).trans C2.out)
        have HRP := Lh (HRP.out.below hb)
        have H1 := Lh (H1.out.below hb)
        have H2 := Lh (H2.out.below hb)
        have ZB := Lh (bthen ZB.out hb)
        clear hb hT q0 q1 q2 lq HBW
        have x2 : w5.cell? ⟨w.heap.size, 2, none⟩ = some (.slice A2 NE c2) := (blk_cell C0.out 2).trans rfl
        have l0 : w.heap.size < w5.heap.size := blk_lt C0.out
        have zb6 := (Below.refl _ w5).alloc (Nat.le_refl _) (.cells #[.int .i64 sx, .int .i64 sy, .int .i64 sz] 23)
        have C5 := Lh (heap_alloc_new w5 (.cells #[.int .i64 sx, .int .i64 sy, .int .i64 sz] 23))
        have HTA := Lh ((zb6.block _ (blk_lt HTA.out)).trans HTA.out)
        have C0 := Lh ((zb6.block _ (blk_lt C0.out)).trans C0.out)
        have C2 := Lh ((zb6.block _ (blk_lt C2.out)).trans C2.out)
        have HRP := Lh (HRP.out.below zb6)
        have H1 := Lh (H1.out.below zb6)
        have H2 := Lh (H2.out.below zb6)
        have ZB := Lh (bthen ZB.out zb6)
        obtain ⟨w6, hw6⟩ : ∃ V, w5.alloc (.cells #[.int .i64 sx, .int .i64 sy, .int .i64 sz] 23) = V := ⟨_, rfl⟩
        rw [hw6] at HTA C0 C2 C5 HRP H1 H2 ZB zb6
        have hw6' := Lh hw6
        obtain ⟨SB, hSB⟩ : ∃ n, w5.heap.size = n := ⟨_, rfl⟩
        rw [hSB] at C5
        have HSB := Lh hSB
        have hls : SB < w6.heap.size := blk_lt C5.out
        clear hw6 zb6 hSB
        go_wp2_with fail
        (try rw [hw6'.out])
        (try rw [HSB.out])
        go_loopw [76, 11] (fun v76 v11 wr => ∃ k : Nat, k ≤ NE ∧ v76 = .int .i64 k ∧ Hid (CSt w6 wr v11 (LA.take k) [])) (fun i _ _ => NE - (intOf i).toNat)
        case atStart => exact ⟨0, by omega, rfl, Lh (CSt.start w6)⟩
        case round =>
          obtain ⟨k, hk, rfl, hS⟩ := hrel
          clear x2 l0
          obtain ⟨wq, hwq⟩ : ∃ x : World, x = wr := ⟨_, rfl⟩
          subst hwq
          by_cases hlt : k < NE
          · have hkl : k < e.length := by rw [HNE.out]; exact hlt
            obtain ⟨b, o, rfl, lb, e0, e1, e2⟩ := (H2.out.below hS.out.below).1.get k hkl
            have HM1 := Lh (HLA.out k hkl)
            obtain ⟨x, hx⟩ : ∃ x, e[k] = x := ⟨_, rfl⟩
            rw [hx] at e0 e1 e2 HM1
            obtain ⟨xx, xy, xz⟩ := x
            simp only at e0 e1 e2
            have HX1 := Lh (fun W => scross_calls xx xy xz sx sy sz W)
            obtain ⟨u, hu⟩ : ∃ u, cross3 ⟨xx, xy, xz⟩ ⟨sx, sy, sz⟩ = u := ⟨_, rfl⟩
            rw [hu] at HX1 HM1
            obtain ⟨ux, uy, uz⟩ := u
            simp only at HX1
            have HX2 := Lh (fun W => short_calls ux uy uz W)
            obtain ⟨d, hd⟩ : ∃ u, short3 ⟨ux, uy, uz⟩ = u := ⟨_, rfl⟩
            rw [hd] at HX2 HM1
            obtain ⟨dx, dy, dz⟩ := d
            simp only at HX2
            have C5q := Lh (hS.out.old C5.out)
            have s0 : wq.cell? ⟨SB, 0, none⟩ = some (.int .i64 sx) := (blk_cell C5q.out 0).trans rfl
            have s1 : wq.cell? ⟨SB, 1, none⟩ = some (.int .i64 sy) := (blk_cell C5q.out 1).trans rfl
            have s2 : wq.cell? ⟨SB, 2, none⟩ = some (.int .i64 sz) := (blk_cell C5q.out 2).trans rfl
            have ls : SB < wq.heap.size := blk_lt C5q.out
            have tk : (k : Int) < (NE : Int) := by omega
            clear hx hu hd hkl
            go_wp2_with fail
            with_reducible refine (HX1.out _).mono ?_
            rintro en w7 ⟨rfl, hb7⟩
            have hB7 := Lh (((Below.refl _ wq).alloc (Nat.le_refl _) (.cells #[.int .i64 xx, .int .i64 xy, .int .i64 xz] 23)).trans (hb7.mono (by simp)))
            clear hb7 e0 e1 e2 s0 s1 s2
            go_wp2_with fail
            with_reducible refine (HX2.out _).mono ?_
            rintro en w8 ⟨rfl, hb8⟩
            have hB8 := Lh (bthen hB7.out hb8)
            have hB9 := Lh (hB8.out.alloc hB8.out.size (.cells #[.int .i64 dx, .int .i64 dy, .int .i64 dz] 23))
            have hS9 := Lh (hS.out.grown hB9.out)
            have hR9 := (Rd_one (heap_alloc_new w8 (.cells #[.int .i64 dx, .int .i64 dy, .int .i64 dz] 23))).1
            clear hb8 hB7 hB8 hS
            go_wp2_with (at_builtin; refine appL_ w6.heap.size rfl _ _ rfl _ (LA.take k) [⟨dx, dy, dz⟩] _ _ _ rfl rfl hS9.out.own hR9 rfl (by have := List.length_take_le k LA; simp; omega) hS9.out.below.size ?_; intro v2 w4 hv2 hg2 hat; have hS4 := Lh ((hS9.out.app hv2 hg2 hat).len HM1.out.symm); clear hv2 hg2 hat)
            go_roundw
            case rel => exact ⟨k + 1, by omega, by go_num, hS4⟩
            case measure => simp [intOf]; omega
          · obtain rfl : NE = k := by omega
            have hS := Lh (hS.out.len (List.take_of_length_le (Nat.le_of_eq HLAL.out)))
            obtain ⟨Aa, ca, hva, hla, hra, hba⟩ := hS.out.own.rdB2
            subst hva
            rw [HLAL.out]
            have HRA := Lh hra
            have HB6 := Lh hS.out.below
            have HTA := Lh (hS.out.old HTA.out)
            have C0 := Lh (hS.out.old C0.out)
            have C2 := Lh (hS.out.old C2.out)
            have C5 := Lh (hS.out.old C5.out)
            have HRP := Lh (HRP.out.below HB6.out)
            have H1 := Lh (H1.out.below HB6.out)
            have H2 := Lh (H2.out.below HB6.out)
            have ZB := Lh (bthen ZB.out HB6.out)
            have x1 : wq.cell? ⟨w.heap.size, 1, none⟩ = some (.slice A1 NA c1) := (blk_cell C0.out 1).trans rfl
            have x2 : wq.cell? ⟨w.heap.size, 2, none⟩ = some (.slice A2 NE c2) := (blk_cell C0.out 2).trans rfl
            have s0 : wq.cell? ⟨SB, 0, none⟩ = some (.int .i64 sx) := (blk_cell C5.out 0).trans rfl
            have s1 : wq.cell? ⟨SB, 1, none⟩ = some (.int .i64 sy) := (blk_cell C5.out 1).trans rfl
            have s2 : wq.cell? ⟨SB, 2, none⟩ = some (.int .i64 sz) := (blk_cell C5.out 2).trans rfl
            have l0 : w.heap.size < wq.heap.size := blk_lt C0.out
            have ls : SB < wq.heap.size := blk_lt C5.out
            have lA : AB < wq.heap.size := blk_lt HTA.out
            clear hS hla hra hba hw6' HLA HSH
            go_wp2_with fail
            have HB := Lh ((Below.refl wq.heap.size wq).drew)
            have FF := Lh (show ∀ V, Hid (Below (wq.heap.size) wq V) → V.cell? ⟨w.heap.size, 1, none⟩ = some (.slice A1 NA c1) ∧ V.cell? ⟨w.heap.size, 2, none⟩ = some (.slice A2 NE c2) ∧ V.cell? ⟨SB, 0, none⟩ = some (.int .i64 sx) ∧ V.cell? ⟨SB, 1, none⟩ = some (.int .i64 sy) ∧ V.cell? ⟨SB, 2, none⟩ = some (.int .i64 sz) from fun V HB => ⟨(HB.out.cell (p := ⟨w.heap.size, 1, none⟩) (l0)).trans x1, (HB.out.cell (p := ⟨w.heap.size, 2, none⟩) (l0)).trans x2, (HB.out.cell (p := ⟨SB, 0, none⟩) (ls)).trans s0, (HB.out.cell (p := ⟨SB, 1, none⟩) (ls)).trans s1, (HB.out.cell (p := ⟨SB, 2, none⟩) (ls)).trans s2⟩)
            refine start_ (n := 13) (S := fun w' => w'.cell? ⟨w.heap.size, 1, none⟩ = some (.slice A1 NA c1) ∧ w'.cell? ⟨w.heap.size, 2, none⟩ = some (.slice A2 NE c2) ∧ w'.cell? ⟨SB, 0, none⟩ = some (.int .i64 sx) ∧ w'.cell? ⟨SB, 1, none⟩ = some (.int .i64 sy) ∧ w'.cell? ⟨SB, 2, none⟩ = some (.int .i64 sz)) (ds := [10, 12]) (MT 0 13) (by kernel_rfl) rfl rfl (FF.out _ HB) (fun hHeld => ?_)
            obtain ⟨wd, hwd⟩ : ∃ x, wq.drew = x := ⟨_, rfl⟩
            rw [hwd] at HB hHeld ⊢
            clear hwd
            refine pu_ 0 88 (h := ?_)
            refine pu_ 2 90 (h := ?_)
            refine pu_ 4 92 (h := ?_)
            refine ta_ 1 89 hHeld (h := ?_)
            refine ta_ 5 93 hHeld (h := ?_)
            refine ta_ 6 94 hHeld (h := ?_)
            refine join_ (σ := Nat × Value) 4 #[true, true, true, true, true, true, true, true, false, true, false, false, false] (fun s => [(91, s.2), (95, .slice (some ⟨s.1, 0, none⟩) 1 1), (97, .pointer (some ⟨AB, 1, none⟩))]) (fun (s : Nat × Value) w' => match s with | (s1, s2) => w'.heap[s1]? = some (.cells #[.int .i64 sx, .int .i64 sy, .int .i64 sz] 23 (0, 0)) ∧ Below (wq.heap.size) wq w' ∧ RdV w' wq.heap.size s2 (withF a LA)) ?_ ?_
            rotate_left
            · intro hCont
              refine two_ (i := 3) (j := 7) (Ni := some 91) (Nj := some 95) (MT 7 6) #[true, true, true, false, true, true, true, true, false, false, false, false, false] rfl rfl rfl rfl (by kernel_rfl) (by decide) (by decide) (fun K hK => ?_) (fun K hK => ?_)
              · skip
                refine gs_ Try.func79 #[.slice A1 NA c1, .slice Aa NE ca] ?_
                with_reducible refine (HW1.out _ _ _ (H1.out.below HB.out) (HRA.out.below HB.out)).mono ?_
                rintro en w7 ⟨A7, c7, rfl, hlc, hrd, hb, hbs⟩
                have HR1 : Hid (RdV _ wq.heap.size (.slice A7 (withF a LA).length c7) (withF a LA)) := Lh ⟨A7, c7, rfl, hlc, hrd, fun ad ea => Nat.le_trans HB.out.size (hbs ad ea)⟩
                have HB := Lh (HB.out.trans (hb.mono HB.out.size))
                clear hlc hrd hb hbs
                refine ⟨_, rfl, ?_⟩
                refine hK.out _ _ (FF.out _ HB) (fun hHeld => ?_)
                clear hK K
                refine no_ (h := ?_)
                refine pu_ 9 97 (h := ?_)
                refine on_ 7 (some 95) (h := fun K hK => ?_)
                refine value_ (w1 := ?_) (v := ?_) (by rfl) rfl ?_ ?_
                rotate_left 2
                · go_simp
                  constructor
                  · rfl
                  · rfl
                have HA := Lh (ha_new HB.out (.cells #[.int .i64 sx, .int .i64 sy, .int .i64 sz] 23))
                have HR1 := Lh (HR1.out.below ((Below.refl _ _).alloc (Nat.le_refl _) (.cells #[.int .i64 sx, .int .i64 sy, .int .i64 sz] 23)))
                have HB := Lh (HB.out.alloc (Nat.le_trans (Nat.le_refl _) HB.out.size) (.cells #[.int .i64 sx, .int .i64 sy, .int .i64 sz] 23))
                refine hK.out _ _ (FF.out _ HB) (fun hHeld => ?_)
                clear hK K
                refine no_ (h := ?_)
                exact norm_ (by simp only [putAll, Act.put, List.setIfInBounds_toArray, List.set_cons_zero, List.set_cons_succ]) (hCont (_, _) _ ⟨HA.out, HB.out, HR1.out⟩)
              · skip
                refine value_ (w1 := ?_) (v := ?_) (by rfl) rfl ?_ ?_
                rotate_left 2
                · go_simp
                  constructor
                  · rfl
                  · rfl
                have HA := Lh (ha_new HB.out (.cells #[.int .i64 sx, .int .i64 sy, .int .i64 sz] 23))
                have HB := Lh (HB.out.alloc (Nat.le_trans (Nat.le_refl _) HB.out.size) (.cells #[.int .i64 sx, .int .i64 sy, .int .i64 sz] 23))
                refine hK.out _ _ (FF.out _ HB) (fun hHeld => ?_)
                clear hK K
                refine no_ (h := ?_)
                refine on_ 3 (some 91) (h := fun K hK => ?_)
                refine gs_ Try.func79 #[.slice A1 NA c1, .slice Aa NE ca] ?_
                with_reducible refine (HW1.out _ _ _ (H1.out.below HB.out) (HRA.out.below HB.out)).mono ?_
                rintro en w7 ⟨A7, c7, rfl, hlc, hrd, hb, hbs⟩
                have HA := Lh ((hb.block _ (blk_lt HA.out)).trans HA.out)
                have HR1 : Hid (RdV _ wq.heap.size (.slice A7 (withF a LA).length c7) (withF a LA)) := Lh ⟨A7, c7, rfl, hlc, hrd, fun ad ea => Nat.le_trans HB.out.size (hbs ad ea)⟩
                have HB := Lh (HB.out.trans (hb.mono HB.out.size))
                clear hlc hrd hb hbs
                refine ⟨_, rfl, ?_⟩
                refine hK.out _ _ (FF.out _ HB) (fun hHeld => ?_)
                clear hK K
                refine no_ (h := ?_)
                refine pu_ 9 97 (h := ?_)
                exact norm_ (by simp only [putAll, Act.put, List.setIfInBounds_toArray, List.set_cons_zero, List.set_cons_succ]) (hCont (_, _) _ ⟨HA.out, HB.out, HR1.out⟩)
            rintro ⟨sb, va⟩ wj ⟨HA, HB, HR1⟩
            (try simp only at HA HB HR1)
            have HA := Lh HA
            have HB := Lh HB
            obtain ⟨A7, c7, rfl, hl7, hr7, hb7⟩ := HR1
            have HR7 := Lh hr7
            have HL7 := Lh hl7
            have HB7 := Lh hb7
            obtain ⟨n7, hn7⟩ : ∃ n, (withF a LA).length = n := ⟨_, rfl⟩
            rw [hn7] at HL7 ⊢
            have HN7 := Lh hn7
            clear hl7 hr7 hb7 hn7
            have hHeld := FF.out _ HB
            refine no_ (h := ?_)
            refine on_ 8 (some 96) (h := fun K hK => ?_)
            refine gs_ Try.func79 #[.slice A2 NE c2, .slice (some ⟨sb, 0, none⟩) 1 1] ?_
            with_reducible refine (HW2.out _ _ (H2.out.below HB.out) (Rd_one HA.out)).mono ?_
            rintro en w8 ⟨A8, c8, rfl, hlc, hrd, hb, hbs⟩
            have HR7 := Lh (HR7.out.below hb)
            have HB8 := Lh (fun (ad : Addr) (ea : A8 = some ad) => Nat.le_trans HB.out.size (hbs ad ea))
            have HB := Lh (HB.out.trans (hb.mono HB.out.size))
            have HR8 := Lh hrd
            have HL8 := Lh hlc
            obtain ⟨n8, hn8⟩ : ∃ n, (withF e [⟨sx, sy, sz⟩]).length = n := ⟨_, rfl⟩
            rw [hn8] at HL8 ⊢
            have HN8 := Lh hn8
            clear hlc hrd hb hbs hn8 HA
            refine ⟨_, rfl, ?_⟩
            refine hK.out _ _ (FF.out _ HB) (fun hHeld => ?_)
            clear hK K
            refine no_ (h := ?_)
            refine last_ (i := 10) (N := none) (MT 11 2) rfl rfl (by kernel_rfl) (by decide) (fun K hK => ?_)
            have HTB := Lh ((HB.out.block _ lA).trans HTA.out)
            have u1 : w8.cell? ⟨AB, 1, none⟩ = some (.slice none 0 0) := (blk_cell HTB.out 1).trans rfl
            have f1 : w8.frozen? ⟨AB, 1, none⟩ = false := blk_frozen HTB.out 1
            refine skip_ (w1 := ?_) (by rfl) rfl ?_ ?_
            rotate_left
            · go_simp
              rfl
            clear u1 f1
            refine hK.out _ _ ?_
            clear hK K
            refine pu_ 11 98 (h := ?_)
            refine last_ (i := 12) (N := none) (MT 13 0) rfl rfl (by kernel_rfl) (by decide) (fun K hK => ?_)
            have HTC := Lh (blk_s1 HTB.out (.slice A7 n7 c7))
            obtain ⟨w9, hw9⟩ : ∃ V, w8.setCell ⟨AB, 1, none⟩ (.slice A7 n7 c7) = V := ⟨_, rfl⟩
            rw [hw9] at HTC
            have hw9' := Lh hw9
            (try rw [hw9])
            clear hw9
            have u2 : w9.cell? ⟨AB, 2, none⟩ = some (.slice none 0 0) := (blk_cell HTC.out 2).trans rfl
            have f2 : w9.frozen? ⟨AB, 2, none⟩ = false := blk_frozen HTC.out 2
            refine skip_ (w1 := ?_) (by rfl) rfl ?_ ?_
            rotate_left
            · go_simp
              rfl
            clear u2 f2
            refine hK.out _ _ ?_
            clear hK K
            refine done_ (by kernel_rfl) ?_
            have HTD := Lh (blk_s2 HTC.out (.slice A8 n8 c8))
            have NP7 := Lh (fun (ad : Addr) (ea : A7 = some ad) => show ad.block ≠ AB from fun e0 => by have := HB7.out ad ea; omega)
            have NP8 := Lh (fun (ad : Addr) (ea : A8 = some ad) => show ad.block ≠ AB from fun e0 => by have := HB8.out ad ea; omega)
            have hge : w2.heap.size ≤ AB := HGW.out
            have hzz : w.heap.size + 2 < w2.heap.size := blk_lt Z2.out
            have hAw : w.heap.size ≤ AB := by omega
            have hA2 : w.heap.size + 2 ≠ AB := by omega
            have p9 := ((HRP.out.below HB.out).setc HBP.out 1 (.slice A7 n7 c7)).setc HBP.out 2 (.slice A8 n8 c8)
            have a9 := (HR7.out.setc NP7.out 1 (.slice A7 n7 c7)).setc NP7.out 2 (.slice A8 n8 c8)
            have e9 := (HR8.out.setc NP8.out 1 (.slice A7 n7 c7)).setc NP8.out 2 (.slice A8 n8 c8)
            have R9 := (Below.heap_setCell (w8.setCell ⟨AB, 1, none⟩ (.slice A7 n7 c7)) ⟨AB, 2, none⟩ (.slice A8 n8 c8) (w.heap.size + 2) hA2).trans ((Below.heap_setCell w8 ⟨AB, 1, none⟩ (.slice A7 n7 c7) (w.heap.size + 2) hA2).trans ((HB.out.block _ (blk_lt C2.out)).trans C2.out))
            have B9 := ((bthen ZB.out HB.out).setCell (p := ⟨AB, 1, none⟩) hAw (.slice A7 n7 c7)).setCell (p := ⟨AB, 2, none⟩) hAw (.slice A8 n8 c8)
            rw [hw9'.out] at p9 a9 e9 R9 B9
            obtain ⟨w10, hw10⟩ : ∃ V, w9.setCell ⟨AB, 2, none⟩ (.slice A8 n8 c8) = V := ⟨_, rfl⟩
            rw [hw10] at p9 a9 e9 R9 B9 HTD ⊢
            have d0_ : w10.cell? ⟨AB, 0, none⟩ = some (.slice Ap nP cp) := (blk_cell HTD.out 0).trans rfl
            have d1_ : w10.cell? ⟨AB, 1, none⟩ = some (.slice A7 n7 c7) := (blk_cell HTD.out 1).trans rfl
            have d2_ : w10.cell? ⟨AB, 2, none⟩ = some (.slice A8 n8 c8) := (blk_cell HTD.out 2).trans rfl
            have d3_ : w10.cell? ⟨AB, 3, none⟩ = some (.int .i64 r) := (blk_cell HTD.out 3).trans rfl
            have lA10 : AB < w10.heap.size := blk_lt HTD.out
            have r0 : w10.cell? ⟨w.heap.size + 1 + 1, 0, none⟩ = some (.slice none 0 0) := (blk_cell R9 0).trans rfl
            have r1 : w10.cell? ⟨w.heap.size + 1 + 1, 1, none⟩ = some (.slice none 0 0) := (blk_cell R9 1).trans rfl
            have r2 : w10.cell? ⟨w.heap.size + 1 + 1, 2, none⟩ = some (.slice none 0 0) := (blk_cell R9 2).trans rfl
            have r3 : w10.cell? ⟨w.heap.size + 1 + 1, 3, none⟩ = some (.int .i64 0) := (blk_cell R9 3).trans rfl
            have f0 : w10.frozen? ⟨w.heap.size + 1 + 1, 0, none⟩ = false := blk_frozen R9 0
            have f1 : w10.frozen? ⟨w.heap.size + 1 + 1, 1, none⟩ = false := blk_frozen R9 1
            have f2 : w10.frozen? ⟨w.heap.size + 1 + 1, 2, none⟩ = false := blk_frozen R9 2
            have f3 : w10.frozen? ⟨w.heap.size + 1 + 1, 3, none⟩ = false := blk_frozen R9 3
            have T7 := bs4 R9 (.slice Ap nP cp) (.slice A7 n7 c7) (.slice A8 n8 c8) (.int .i64 r)
            have B7 := bb4 B9 (show w.heap.size ≤ w.heap.size + 2 by omega) (.slice Ap nP cp) (.slice A7 n7 c7) (.slice A8 n8 c8) (.int .i64 r)
            have p7 := p9.setS R9 (.slice Ap nP cp) (.slice A7 n7 c7) (.slice A8 n8 c8) (.int .i64 r)
            have a7 := a9.setS R9 (.slice Ap nP cp) (.slice A7 n7 c7) (.slice A8 n8 c8) (.int .i64 r)
            have e7 := e9.setS R9 (.slice Ap nP cp) (.slice A7 n7 c7) (.slice A8 n8 c8) (.int .i64 r)
            obtain ⟨w11, hw11⟩ : ∃ V, ((((w10.setCell ⟨w.heap.size + 1 + 1, 0, none⟩ (.slice Ap nP cp)).setCell ⟨w.heap.size + 1 + 1, 1, none⟩ (.slice A7 n7 c7)).setCell ⟨w.heap.size + 1 + 1, 2, none⟩ (.slice A8 n8 c8)).setCell ⟨w.heap.size + 1 + 1, 3, none⟩ (.int .i64 r)) = V := ⟨_, rfl⟩
            have hw11b : ((((w10.setCell ⟨w.heap.size + 2, 0, none⟩ (.slice Ap nP cp)).setCell ⟨w.heap.size + 2, 1, none⟩ (.slice A7 n7 c7)).setCell ⟨w.heap.size + 2, 2, none⟩ (.slice A8 n8 c8)).setCell ⟨w.heap.size + 2, 3, none⟩ (.int .i64 r)) = w11 := hw11
            rw [hw11b] at T7 B7 p7 a7 e7
            have hv11 := Lh hw11
            have T7 := Lh T7
            have B7 := Lh B7
            have HVF : Hid (CrV w11 (.agg #[.slice Ap nP cp, .slice A7 n7 c7, .slice A8 n8 c8, .int .i64 r]) T) := Lh (by
              rw [HT.out]
              exact ⟨Ap, A7, A8, cp, c7, c8, by rw [HNM.out, HN7.out, HN8.out], p7, a7, e7, by rw [HNM.out]; exact HLP.out, by rw [HN7.out]; exact HL7.out, by rw [HN8.out]; exact HL8.out⟩)
            clear hw11 hw11b p7 a7 e7 p9 a9 e9 R9 B9 hw10 hHeld x1 x2 s0 s1 s2 l0 ls lA HTD HTC HTB HB HR7 HR8 hw9'
            go_wp2
            (try rw [hv11.out])
            have y0 : w11.cell? ⟨w.heap.size + 1 + 1, 0, none⟩ = some (.slice Ap nP cp) := (blk_cell T7.out 0).trans rfl
            have y1 : w11.cell? ⟨w.heap.size + 1 + 1, 1, none⟩ = some (.slice A7 n7 c7) := (blk_cell T7.out 1).trans rfl
            have y2 : w11.cell? ⟨w.heap.size + 1 + 1, 2, none⟩ = some (.slice A8 n8 c8) := (blk_cell T7.out 2).trans rfl
            have y3 : w11.cell? ⟨w.heap.size + 1 + 1, 3, none⟩ = some (.int .i64 r) := (blk_cell T7.out 3).trans rfl
            exact bodyPost_ret (v := .agg #[.slice Ap nP cp, .slice A7 n7 c7, .slice A8 n8 c8, .int .i64 r]) (by simp [results, Try.results37, go_sem, y0, y1, y2, y3]) rfl ⟨_, rfl, HVF.out, B7.out⟩
theorem trail_calls {w : World} {v : Value} {c : Cr} (h : CrV w v c) (y : P3) (K : Int) (hl : c.p.length ≤ 140737488355328) : Calls Try.prog 37 #[v, aP y, .int .i64 K] w (TrailPost (trailF c y K) w) := by
  obtain ⟨p, a, e, r⟩ := c
  obtain ⟨A0, A1, A2, c0, c1, c2, rfl, h0, h1, h2, _⟩ := id h.out
  exact trail_in p a e r A0 A1 A2 c0 c1 c2 y K w h h0 h1 h2 hl
end Go.Proofs.Ytckdhahceelckaa.G
namespace Go.Proofs.Ytckdhahceelckaa.G
open Go.RowKit Go.Proofs.YtckdhahceelckaaW.PrintWords Go.Proofs.YtckdhahceelckaaW.PrintLast Go.Proofs.YtckdhahceelckaaW.PrintMore
attribute [local go_sem] max2_mx min2_mn max_two min_two max_three min_three max_four min_four
attribute [local go_sem high] eqA23 eqA40
set_option linter.unusedVariables false
set_option linter.unusedSimpArgs false
def CastPost (R : (Nat × (P3 × Int)) × Bool) (w : World) (en : Ending) (w' : World) : Prop := en = .returned (.tuple #[.int .i64 R.1.1, .agg #[.int .i64 R.1.2.1.x, .int .i64 R.1.2.1.y, .int .i64 R.1.2.1.z, .int .i64 R.1.2.2], .bool R.2]) ∧ Below w.heap.size w w'
theorem castL_neg {c d : Cr} {y : P3} {n k : Nat} {x : P3 × Int} (h : x.2 < 0) : castL c y d n k x = (k, x) := by
  cases n with
  | zero => rfl
  | succ n => rw [castL, if_pos h]
theorem CrV.form {w : World} {v : Value} {c : Cr} (h : CrV w v c) : ∃ A0 A1 A2 n0 n1 n2 c0 c1 c2, v = .agg #[.slice A0 n0 c0, .slice A1 n1 c1, .slice A2 n2 c2, .int .i64 c.r] := by
  obtain ⟨A0, A1, A2, c0, c1, c2, rfl, _⟩ := h.out
  exact ⟨_, _, _, _, _, _, _, _, _, rfl⟩
theorem four0 (w : World) (o1 o2 o3 o4 : Obj) : ((((w.alloc o1).alloc o2).alloc o3).alloc o4).heap[w.heap.size]? = some o1 := (Below.heap_alloc _ o4 _ (by simp; omega)).trans (three0 w o1 o2 o3)
theorem four1 (w : World) (o1 o2 o3 o4 : Obj) : ((((w.alloc o1).alloc o2).alloc o3).alloc o4).heap[w.heap.size + 1]? = some o2 := (Below.heap_alloc _ o4 _ (by simp)).trans (three1 w o1 o2 o3)
theorem four2 (w : World) (o1 o2 o3 o4 : Obj) : ((((w.alloc o1).alloc o2).alloc o3).alloc o4).heap[w.heap.size + 2]? = some o3 := (Below.heap_alloc _ o4 _ (by simp)).trans (three2 w o1 o2 o3)
theorem four3 (w : World) (o1 o2 o3 o4 : Obj) : ((((w.alloc o1).alloc o2).alloc o3).alloc o4).heap[w.heap.size + 3]? = some o4 := by
  have := heap_alloc_new (((w.alloc o1).alloc o2).alloc o3) o4
  simpa using this
theorem below_alloc4 (w : World) (o1 o2 o3 o4 : Obj) : Below w.heap.size w ((((w.alloc o1).alloc o2).alloc o3).alloc o4) := (Go.Joins.below_alloc3 w o1 o2 o3).alloc (by simp; omega) o4
set_option maxHeartbeats 16000000 in
set_option maxRecDepth 100000 in
theorem cast_calls {w : World} {va vb : Value} {a b : Cr} (ha : CrV w va a) (hb : CrV w vb b) (y : P3) (hl : a.p.length ≤ 140737488355328) : Calls Try.prog 34 #[va, aP y, vb] w (CastPost (castF a y b) w) := by
  have HNO := Lh (fun (h : castOk a y b = false) => show castF a y b = ((0, (⟨0, 0, 0⟩, 0)), false) from if_neg (by rw [h]; decide))
  have HYS := Lh (fun (h : castOk a y b = true) => show castF a y b = (castL a y b 16 0 (apS a b).1, true) from if_pos h)
  have HOK : Hid (castOk a y b = ((apS a b).2 && smay a y && (apS (trailF a y 16) b).2)) := Lh rfl
  have HA1 := Lh (fun (W : World) (h1 : CrV W va a) (h2 : CrV W vb b) => apart_all h1 h2 (apS a b) rfl)
  have HM := Lh (fun (W : World) (h1 : CrV W va a) => smay_calls h1 y hl)
  have HT := Lh (fun (W : World) (K : Int) (h1 : CrV W va a) => trail_calls h1 y K hl)
  have HA2 := Lh (fun (K : Int) (W : World) (u : Value) (h1 : CrV W u (trailF a y K)) (h2 : CrV W vb b) => apart_all h1 h2 (apS (trailF a y K) b) rfl)
  have HGO := Lh (fun n k x z h1 h2 h3 => castL_go (c := a) (d := b) (y := y) (n := n) (k := k) (x := x) (z := z) h1 h2 h3)
  have HSTOP := Lh (fun n k x z h1 h2 => castL_stop (c := a) (d := b) (y := y) (n := n) (k := k) (x := x) (z := z) h1 h2)
  have HNEG := Lh (fun n k x h1 => castL_neg (c := a) (d := b) (y := y) (n := n) (k := k) (x := x) h1)
  have HZ := Lh (fun k x => show castL a y b 0 k x = (k, x) from rfl)
  obtain ⟨CF, hCF⟩ : ∃ R, castF a y b = R := ⟨_, rfl⟩
  obtain ⟨CO, hCO⟩ : ∃ R, castOk a y b = R := ⟨_, rfl⟩
  obtain ⟨S, hS⟩ : ∃ R, smay a y = R := ⟨_, rfl⟩
  obtain ⟨CL, hCL⟩ : ∃ R, castL a y b = R := ⟨_, rfl⟩
  obtain ⟨TR, hTR⟩ : ∃ R, trailF a y = R := ⟨_, rfl⟩
  obtain ⟨X0, hX0⟩ : ∃ R, apS a b = R := ⟨_, rfl⟩
  obtain ⟨AP, hAP⟩ : ∃ R : Cr → (P3 × Int) × Bool, (fun c => apS c b) = R := ⟨_, rfl⟩
  have hAP2 : ∀ c, apS c b = AP c := fun c => by rw [← hAP]
  simp only [hAP2] at HOK HA2 HGO HSTOP HYS
  rw [hCF, hCO] at HNO
  rw [hCF, hCO, hCL, ← hAP2, hX0] at HYS
  rw [hCO, hS, hTR, ← hAP2 a, hX0] at HOK
  rw [hX0] at HA1
  rw [hS] at HM
  rw [hTR] at HT HA2
  simp only [hTR, hCL] at HGO HSTOP
  simp only [hCL] at HNEG HZ
  rw [hCF]
  clear hCF hCO hS hCL hTR hX0 hAP hAP2
  obtain ⟨⟨⟨Xx, Xy, Xz⟩, Xg⟩, Xo⟩ := X0
  obtain ⟨yx, yy, yz⟩ := y
  have HVA := Lh ha
  have HVB := Lh hb
  obtain ⟨A0, A1, A2, n0, n1, n2, c0, c1, c2, rfl⟩ := ha.form
  obtain ⟨B0, B1, B2, m0, m1, m2, d0, d1, d2, rfl⟩ := hb.form
  obtain ⟨ra, hra⟩ : ∃ r, a.r = r := ⟨_, rfl⟩
  obtain ⟨rb, hrb⟩ : ∃ r, b.r = r := ⟨_, rfl⟩
  rw [hra] at HVA HA1 HM HT
  rw [hrb] at HVB HA1 HA2
  rw [hra, hrb]
  simp only at HA1 HYS HOK
  clear ha hb hra hrb hl
  have z0 := four0 w (.cells #[.slice A0 n0 c0, .slice A1 n1 c1, .slice A2 n2 c2, .int .i64 ra] 36) (.cells #[.int .i64 yx, .int .i64 yy, .int .i64 yz] 23) (.cells #[.slice B0 m0 d0, .slice B1 m1 d1, .slice B2 m2 d2, .int .i64 rb] 36) (.cells #[.int .i64 0, .int .i64 0, .int .i64 0, .int .i64 0] 40)
  have z1 := four1 w (.cells #[.slice A0 n0 c0, .slice A1 n1 c1, .slice A2 n2 c2, .int .i64 ra] 36) (.cells #[.int .i64 yx, .int .i64 yy, .int .i64 yz] 23) (.cells #[.slice B0 m0 d0, .slice B1 m1 d1, .slice B2 m2 d2, .int .i64 rb] 36) (.cells #[.int .i64 0, .int .i64 0, .int .i64 0, .int .i64 0] 40)
  have z2 := four2 w (.cells #[.slice A0 n0 c0, .slice A1 n1 c1, .slice A2 n2 c2, .int .i64 ra] 36) (.cells #[.int .i64 yx, .int .i64 yy, .int .i64 yz] 23) (.cells #[.slice B0 m0 d0, .slice B1 m1 d1, .slice B2 m2 d2, .int .i64 rb] 36) (.cells #[.int .i64 0, .int .i64 0, .int .i64 0, .int .i64 0] 40)
  have z3 := four3 w (.cells #[.slice A0 n0 c0, .slice A1 n1 c1, .slice A2 n2 c2, .int .i64 ra] 36) (.cells #[.int .i64 yx, .int .i64 yy, .int .i64 yz] 23) (.cells #[.slice B0 m0 d0, .slice B1 m1 d1, .slice B2 m2 d2, .int .i64 rb] 36) (.cells #[.int .i64 0, .int .i64 0, .int .i64 0, .int .i64 0] 40)
  have zb := below_alloc4 w (.cells #[.slice A0 n0 c0, .slice A1 n1 c1, .slice A2 n2 c2, .int .i64 ra] 36) (.cells #[.int .i64 yx, .int .i64 yy, .int .i64 yz] 23) (.cells #[.slice B0 m0 d0, .slice B1 m1 d1, .slice B2 m2 d2, .int .i64 rb] 36) (.cells #[.int .i64 0, .int .i64 0, .int .i64 0, .int .i64 0] 40)
  go_enter Try.func34, Try.ntmps34
  go_wp2_with fail
  obtain ⟨w1, hw1⟩ : ∃ V, (((w.alloc (.cells #[.slice A0 n0 c0, .slice A1 n1 c1, .slice A2 n2 c2, .int .i64 ra] 36)).alloc (.cells #[.int .i64 yx, .int .i64 yy, .int .i64 yz] 23)).alloc (.cells #[.slice B0 m0 d0, .slice B1 m1 d1, .slice B2 m2 d2, .int .i64 rb] 36)).alloc (.cells #[.int .i64 0, .int .i64 0, .int .i64 0, .int .i64 0] 40) = V := ⟨_, rfl⟩
  rw [hw1] at z0 z1 z2 z3 zb ⊢
  clear hw1
  with_reducible refine (HA1.out w1 (HVA.out.below zb) (HVB.out.below zb)).mono ?_
  rintro en w2 ⟨rfl, hb⟩
  go_upto_region 2 with fail
  have Z0 := (hb.block _ (blk_lt z0)).trans z0
  have Z1 := (hb.block _ (blk_lt z1)).trans z1
  have Z2 := (hb.block _ (blk_lt z2)).trans z2
  have Z3 := (hb.block _ (blk_lt z3)).trans z3
  have ZB := bthen zb hb
  have hs2 : w.heap.size + 3 < w2.heap.size := blk_lt Z3
  clear zb z0 z1 z2 z3 hb HA1
  have ab := (Below.refl _ w2).alloc (Nat.le_refl _) (.cells #[.int .i64 Xx, .int .i64 Xy, .int .i64 Xz, .int .i64 Xg] 40)
  have HX := Lh (heap_alloc_new w2 (.cells #[.int .i64 Xx, .int .i64 Xy, .int .i64 Xz, .int .i64 Xg] 40))
  have Z0 := Lh ((ab.block _ (blk_lt Z0)).trans Z0)
  have Z1 := Lh ((ab.block _ (blk_lt Z1)).trans Z1)
  have Z2 := Lh ((ab.block _ (blk_lt Z2)).trans Z2)
  have Z3 := Lh ((ab.block _ (blk_lt Z3)).trans Z3)
  have ZB := Lh (bthen ZB ab)
  have HB3 := Lh ab
  obtain ⟨w3, hw3⟩ : ∃ V, w2.alloc (.cells #[.int .i64 Xx, .int .i64 Xy, .int .i64 Xz, .int .i64 Xg] 40) = V := ⟨_, rfl⟩
  obtain ⟨XB, hXB⟩ : ∃ n, w2.heap.size = n := ⟨_, rfl⟩
  rw [hw3] at HX Z0 Z1 Z2 Z3 ZB HB3 ⊢
  rw [hXB] at HX hs2 HB3 ⊢
  have hw3' := Lh hw3
  have hXB' := Lh hXB
  clear ab hw3 hXB
  cases Xo with
  | false =>
    have x0 : w3.cell? ⟨w.heap.size, 0, none⟩ = some (.slice A0 n0 c0) := (blk_cell Z0.out 0).trans rfl
    have x1 : w3.cell? ⟨w.heap.size, 1, none⟩ = some (.slice A1 n1 c1) := (blk_cell Z0.out 1).trans rfl
    have x2 : w3.cell? ⟨w.heap.size, 2, none⟩ = some (.slice A2 n2 c2) := (blk_cell Z0.out 2).trans rfl
    have x3 : w3.cell? ⟨w.heap.size, 3, none⟩ = some (.int .i64 ra) := (blk_cell Z0.out 3).trans rfl
    have xl : w.heap.size < w3.heap.size := blk_lt Z0.out
    have y0 : w3.cell? ⟨w.heap.size + 1, 0, none⟩ = some (.int .i64 yx) := (blk_cell Z1.out 0).trans rfl
    have y1 : w3.cell? ⟨w.heap.size + 1, 1, none⟩ = some (.int .i64 yy) := (blk_cell Z1.out 1).trans rfl
    have y2 : w3.cell? ⟨w.heap.size + 1, 2, none⟩ = some (.int .i64 yz) := (blk_cell Z1.out 2).trans rfl
    have yl : w.heap.size + 1 < w3.heap.size := blk_lt Z1.out
    have z0 : w3.cell? ⟨w.heap.size + 2, 0, none⟩ = some (.slice B0 m0 d0) := (blk_cell Z2.out 0).trans rfl
    have z1 : w3.cell? ⟨w.heap.size + 2, 1, none⟩ = some (.slice B1 m1 d1) := (blk_cell Z2.out 1).trans rfl
    have z2 : w3.cell? ⟨w.heap.size + 2, 2, none⟩ = some (.slice B2 m2 d2) := (blk_cell Z2.out 2).trans rfl
    have z3 : w3.cell? ⟨w.heap.size + 2, 3, none⟩ = some (.int .i64 rb) := (blk_cell Z2.out 3).trans rfl
    have zl : w.heap.size + 2 < w3.heap.size := blk_lt Z2.out
    have HR := Lh (HNO.out (HOK.out.trans rfl))
    clear HNO HYS HGO HSTOP HNEG HZ HA2 HT HM
    have r0 : w3.cell? ⟨w.heap.size + 3, 0, none⟩ = some (.int .i64 0) := (blk_cell Z3.out 0).trans rfl
    have f0 : w3.frozen? ⟨w.heap.size + 3, 0, none⟩ = false := blk_frozen Z3.out 0
    have r1 : w3.cell? ⟨w.heap.size + 3, 1, none⟩ = some (.int .i64 0) := (blk_cell Z3.out 1).trans rfl
    have f1 : w3.frozen? ⟨w.heap.size + 3, 1, none⟩ = false := blk_frozen Z3.out 1
    have r2 : w3.cell? ⟨w.heap.size + 3, 2, none⟩ = some (.int .i64 0) := (blk_cell Z3.out 2).trans rfl
    have f2 : w3.frozen? ⟨w.heap.size + 3, 2, none⟩ = false := blk_frozen Z3.out 2
    have r3 : w3.cell? ⟨w.heap.size + 3, 3, none⟩ = some (.int .i64 0) := (blk_cell Z3.out 3).trans rfl
    have f3 : w3.frozen? ⟨w.heap.size + 3, 3, none⟩ = false := blk_frozen Z3.out 3
    obtain ⟨V, hV⟩ : ∃ V, set4 w3 (w.heap.size + 1 + 1 + 1) (.int .i64 0) (.int .i64 0) (.int .i64 0) (.int .i64 0) = V := ⟨_, rfl⟩
    have HV : V.heap[w.heap.size + 3]? = some (.cells #[.int .i64 0, .int .i64 0, .int .i64 0, .int .i64 0] 40 (0, 0)) := by rw [← hV]; exact blk4_set Z3.out _ _ _ _
    have HBV : Below w.heap.size w V := by rw [← hV]; exact below_set4 ZB.out (by omega) _ _ _ _
    have t0 : V.cell? ⟨w.heap.size + 1 + 1 + 1, 0, none⟩ = some (.int .i64 0) := (blk_cell HV 0).trans rfl
    have t1 : V.cell? ⟨w.heap.size + 1 + 1 + 1, 1, none⟩ = some (.int .i64 0) := (blk_cell HV 1).trans rfl
    have t2 : V.cell? ⟨w.heap.size + 1 + 1 + 1, 2, none⟩ = some (.int .i64 0) := (blk_cell HV 2).trans rfl
    have t3 : V.cell? ⟨w.heap.size + 1 + 1 + 1, 3, none⟩ = some (.int .i64 0) := (blk_cell HV 3).trans rfl
    go_wp2
    (try rw [hV])
    exact bodyPost_ret (v := .tuple #[.int .i64 0, .agg #[.int .i64 0, .int .i64 0, .int .i64 0, .int .i64 0], .bool false]) (by simp [results, Try.results34, go_sem, t0, t1, t2, t3]) rfl ⟨by rw [HR.out]; rfl, HBV⟩
  | true =>
    have x0 : w3.cell? ⟨w.heap.size, 0, none⟩ = some (.slice A0 n0 c0) := (blk_cell Z0.out 0).trans rfl
    have x1 : w3.cell? ⟨w.heap.size, 1, none⟩ = some (.slice A1 n1 c1) := (blk_cell Z0.out 1).trans rfl
    have x2 : w3.cell? ⟨w.heap.size, 2, none⟩ = some (.slice A2 n2 c2) := (blk_cell Z0.out 2).trans rfl
    have x3 : w3.cell? ⟨w.heap.size, 3, none⟩ = some (.int .i64 ra) := (blk_cell Z0.out 3).trans rfl
    have xl : w.heap.size < w3.heap.size := blk_lt Z0.out
    have y0 : w3.cell? ⟨w.heap.size + 1, 0, none⟩ = some (.int .i64 yx) := (blk_cell Z1.out 0).trans rfl
    have y1 : w3.cell? ⟨w.heap.size + 1, 1, none⟩ = some (.int .i64 yy) := (blk_cell Z1.out 1).trans rfl
    have y2 : w3.cell? ⟨w.heap.size + 1, 2, none⟩ = some (.int .i64 yz) := (blk_cell Z1.out 2).trans rfl
    have yl : w.heap.size + 1 < w3.heap.size := blk_lt Z1.out
    have z0 : w3.cell? ⟨w.heap.size + 2, 0, none⟩ = some (.slice B0 m0 d0) := (blk_cell Z2.out 0).trans rfl
    have z1 : w3.cell? ⟨w.heap.size + 2, 1, none⟩ = some (.slice B1 m1 d1) := (blk_cell Z2.out 1).trans rfl
    have z2 : w3.cell? ⟨w.heap.size + 2, 2, none⟩ = some (.slice B2 m2 d2) := (blk_cell Z2.out 2).trans rfl
    have z3 : w3.cell? ⟨w.heap.size + 2, 3, none⟩ = some (.int .i64 rb) := (blk_cell Z2.out 3).trans rfl
    have zl : w.heap.size + 2 < w3.heap.size := blk_lt Z2.out
    go_wp2_with fail
    (try rw [hw3'.out])
    with_reducible refine (HM.out w3 (HVA.out.below ZB.out)).mono ?_
    rintro en w4 ⟨rfl, hb⟩
    (try rw [hXB'.out])
    have Z0 := Lh ((hb.block _ (blk_lt Z0.out)).trans Z0.out)
    have Z1 := Lh ((hb.block _ (blk_lt Z1.out)).trans Z1.out)
    have Z2 := Lh ((hb.block _ (blk_lt Z2.out)).trans Z2.out)
    have Z3 := Lh ((hb.block _ (blk_lt Z3.out)).trans Z3.out)
    have HX := Lh ((hb.block _ (blk_lt HX.out)).trans HX.out)
    have ZB := Lh (bthen ZB.out hb)
    clear hb x0 x1 x2 x3 xl y0 y1 y2 yl z0 z1 z2 z3 zl HB3
    cases S with
    | false =>
      have HR := Lh (HNO.out (HOK.out.trans rfl))
      clear HNO HYS HGO HSTOP HNEG HZ HA2 HT HM
      have r0 : w4.cell? ⟨w.heap.size + 3, 0, none⟩ = some (.int .i64 0) := (blk_cell Z3.out 0).trans rfl
      have f0 : w4.frozen? ⟨w.heap.size + 3, 0, none⟩ = false := blk_frozen Z3.out 0
      have r1 : w4.cell? ⟨w.heap.size + 3, 1, none⟩ = some (.int .i64 0) := (blk_cell Z3.out 1).trans rfl
      have f1 : w4.frozen? ⟨w.heap.size + 3, 1, none⟩ = false := blk_frozen Z3.out 1
      have r2 : w4.cell? ⟨w.heap.size + 3, 2, none⟩ = some (.int .i64 0) := (blk_cell Z3.out 2).trans rfl
      have f2 : w4.frozen? ⟨w.heap.size + 3, 2, none⟩ = false := blk_frozen Z3.out 2
      have r3 : w4.cell? ⟨w.heap.size + 3, 3, none⟩ = some (.int .i64 0) := (blk_cell Z3.out 3).trans rfl
      have f3 : w4.frozen? ⟨w.heap.size + 3, 3, none⟩ = false := blk_frozen Z3.out 3
      obtain ⟨V, hV⟩ : ∃ V, set4 w4 (w.heap.size + 1 + 1 + 1) (.int .i64 0) (.int .i64 0) (.int .i64 0) (.int .i64 0) = V := ⟨_, rfl⟩
      have HV : V.heap[w.heap.size + 3]? = some (.cells #[.int .i64 0, .int .i64 0, .int .i64 0, .int .i64 0] 40 (0, 0)) := by rw [← hV]; exact blk4_set Z3.out _ _ _ _
      have HBV : Below w.heap.size w V := by rw [← hV]; exact below_set4 ZB.out (by omega) _ _ _ _
      have t0 : V.cell? ⟨w.heap.size + 1 + 1 + 1, 0, none⟩ = some (.int .i64 0) := (blk_cell HV 0).trans rfl
      have t1 : V.cell? ⟨w.heap.size + 1 + 1 + 1, 1, none⟩ = some (.int .i64 0) := (blk_cell HV 1).trans rfl
      have t2 : V.cell? ⟨w.heap.size + 1 + 1 + 1, 2, none⟩ = some (.int .i64 0) := (blk_cell HV 2).trans rfl
      have t3 : V.cell? ⟨w.heap.size + 1 + 1 + 1, 3, none⟩ = some (.int .i64 0) := (blk_cell HV 3).trans rfl
      go_wp2
      (try rw [hV])
      exact bodyPost_ret (v := .tuple #[.int .i64 0, .agg #[.int .i64 0, .int .i64 0, .int .i64 0, .int .i64 0], .bool false]) (by simp [results, Try.results34, go_sem, t0, t1, t2, t3]) rfl ⟨by rw [HR.out]; rfl, HBV⟩
    | true =>
      have x0 : w4.cell? ⟨w.heap.size, 0, none⟩ = some (.slice A0 n0 c0) := (blk_cell Z0.out 0).trans rfl
      have x1 : w4.cell? ⟨w.heap.size, 1, none⟩ = some (.slice A1 n1 c1) := (blk_cell Z0.out 1).trans rfl
      have x2 : w4.cell? ⟨w.heap.size, 2, none⟩ = some (.slice A2 n2 c2) := (blk_cell Z0.out 2).trans rfl
      have x3 : w4.cell? ⟨w.heap.size, 3, none⟩ = some (.int .i64 ra) := (blk_cell Z0.out 3).trans rfl
      have xl : w.heap.size < w4.heap.size := blk_lt Z0.out
      have y0 : w4.cell? ⟨w.heap.size + 1, 0, none⟩ = some (.int .i64 yx) := (blk_cell Z1.out 0).trans rfl
      have y1 : w4.cell? ⟨w.heap.size + 1, 1, none⟩ = some (.int .i64 yy) := (blk_cell Z1.out 1).trans rfl
      have y2 : w4.cell? ⟨w.heap.size + 1, 2, none⟩ = some (.int .i64 yz) := (blk_cell Z1.out 2).trans rfl
      have yl : w.heap.size + 1 < w4.heap.size := blk_lt Z1.out
      have z0 : w4.cell? ⟨w.heap.size + 2, 0, none⟩ = some (.slice B0 m0 d0) := (blk_cell Z2.out 0).trans rfl
      have z1 : w4.cell? ⟨w.heap.size + 2, 1, none⟩ = some (.slice B1 m1 d1) := (blk_cell Z2.out 1).trans rfl
      have z2 : w4.cell? ⟨w.heap.size + 2, 2, none⟩ = some (.slice B2 m2 d2) := (blk_cell Z2.out 2).trans rfl
      have z3 : w4.cell? ⟨w.heap.size + 2, 3, none⟩ = some (.int .i64 rb) := (blk_cell Z2.out 3).trans rfl
      have zl : w.heap.size + 2 < w4.heap.size := blk_lt Z2.out
      go_wp2_with fail
      have HTT := Lh (fun W h => HT.out W 16 h)
      have HAP := Lh (HA2.out 16)
      have HOK2 := HOK
      obtain ⟨TT, hTT⟩ : ∃ t, TR 16 = t := ⟨_, rfl⟩
      rw [hTT] at HTT HAP HOK2
      obtain ⟨Y, hY⟩ : ∃ t, AP TT = t := ⟨_, rfl⟩
      rw [hY] at HAP HOK2
      obtain ⟨⟨⟨Yx, Yy, Yz⟩, Yg⟩, Yo⟩ := Y
      simp only at HAP HOK2
      clear hTT hY
      have HB := Lh ((Below.refl (w4.heap.size) w4).drew)
      have FF := Lh (show ∀ V, Hid (Below (w4.heap.size) w4 V) → V.cell? ⟨w.heap.size, 0, none⟩ = some (.slice A0 n0 c0) ∧ V.cell? ⟨w.heap.size, 1, none⟩ = some (.slice A1 n1 c1) ∧ V.cell? ⟨w.heap.size, 2, none⟩ = some (.slice A2 n2 c2) ∧ V.cell? ⟨w.heap.size, 3, none⟩ = some (.int .i64 ra) ∧ V.cell? ⟨w.heap.size + 1, 0, none⟩ = some (.int .i64 yx) ∧ V.cell? ⟨w.heap.size + 1, 1, none⟩ = some (.int .i64 yy) ∧ V.cell? ⟨w.heap.size + 1, 2, none⟩ = some (.int .i64 yz) ∧ V.cell? ⟨w.heap.size + 2, 0, none⟩ = some (.slice B0 m0 d0) ∧ V.cell? ⟨w.heap.size + 2, 1, none⟩ = some (.slice B1 m1 d1) ∧ V.cell? ⟨w.heap.size + 2, 2, none⟩ = some (.slice B2 m2 d2) ∧ V.cell? ⟨w.heap.size + 2, 3, none⟩ = some (.int .i64 rb) from fun V HB => ⟨(HB.out.cell (p := ⟨w.heap.size, 0, none⟩) (xl)).trans x0, (HB.out.cell (p := ⟨w.heap.size, 1, none⟩) (xl)).trans x1, (HB.out.cell (p := ⟨w.heap.size, 2, none⟩) (xl)).trans x2, (HB.out.cell (p := ⟨w.heap.size, 3, none⟩) (xl)).trans x3, (HB.out.cell (p := ⟨w.heap.size + 1, 0, none⟩) (yl)).trans y0, (HB.out.cell (p := ⟨w.heap.size + 1, 1, none⟩) (yl)).trans y1, (HB.out.cell (p := ⟨w.heap.size + 1, 2, none⟩) (yl)).trans y2, (HB.out.cell (p := ⟨w.heap.size + 2, 0, none⟩) (zl)).trans z0, (HB.out.cell (p := ⟨w.heap.size + 2, 1, none⟩) (zl)).trans z1, (HB.out.cell (p := ⟨w.heap.size + 2, 2, none⟩) (zl)).trans z2, (HB.out.cell (p := ⟨w.heap.size + 2, 3, none⟩) (zl)).trans z3⟩)
      refine start_ (n := 11) (S := fun w' => w'.cell? ⟨w.heap.size, 0, none⟩ = some (.slice A0 n0 c0) ∧ w'.cell? ⟨w.heap.size, 1, none⟩ = some (.slice A1 n1 c1) ∧ w'.cell? ⟨w.heap.size, 2, none⟩ = some (.slice A2 n2 c2) ∧ w'.cell? ⟨w.heap.size, 3, none⟩ = some (.int .i64 ra) ∧ w'.cell? ⟨w.heap.size + 1, 0, none⟩ = some (.int .i64 yx) ∧ w'.cell? ⟨w.heap.size + 1, 1, none⟩ = some (.int .i64 yy) ∧ w'.cell? ⟨w.heap.size + 1, 2, none⟩ = some (.int .i64 yz) ∧ w'.cell? ⟨w.heap.size + 2, 0, none⟩ = some (.slice B0 m0 d0) ∧ w'.cell? ⟨w.heap.size + 2, 1, none⟩ = some (.slice B1 m1 d1) ∧ w'.cell? ⟨w.heap.size + 2, 2, none⟩ = some (.slice B2 m2 d2) ∧ w'.cell? ⟨w.heap.size + 2, 3, none⟩ = some (.int .i64 rb)) (ds := []) (MT 0 11) (by kernel_rfl) rfl rfl (FF.out _ HB) (fun hHeld => ?_)
      obtain ⟨wd, hwd⟩ : ∃ x, w4.drew = x := ⟨_, rfl⟩
      rw [hwd] at HB hHeld ⊢
      clear hwd
      refine ta_ 0 32 hHeld (h := ?_)
      refine ta_ 1 33 hHeld (h := ?_)
      refine ta_ 3 35 hHeld (h := ?_)
      refine join_ (σ := Nat × Value) 2 (MT 9 2) (fun s => [(11, .pointer (some ⟨s.1, 0, none⟩)), (34, s.2), (36, .tuple #[.agg #[.int .i64 Yx, .int .i64 Yy, .int .i64 Yz, .int .i64 Yg], .bool Yo]), (31, .tuple #[.agg #[.int .i64 Yx, .int .i64 Yy, .int .i64 Yz, .int .i64 Yg], .bool Yo]), (37, .agg #[.int .i64 Yx, .int .i64 Yy, .int .i64 Yz, .int .i64 Yg]), (38, .bool Yo)]) (fun (s : Nat × Value) w' => match s with | (s1, s2) => w4.heap.size ≤ s1 ∧ w'.heap[s1]? = some (.cells #[.int .i64 0, .int .i64 0, .int .i64 0, .int .i64 0] 40 (0, 0)) ∧ Below (w4.heap.size) w4 w' ∧ CrV w' s2 TT) ?_ ?_
      rotate_left
      · intro hCont
        refine two_ (i := 2) (j := 8) (Ni := some 34) (Nj := some 11) (MT 4 7) #[true, true, false, true, false, false, false, false, true, false, false] rfl rfl rfl rfl (by kernel_rfl) (by decide) (by decide) (fun K hK => ?_) (fun K hK => ?_)
        · skip
          refine gs_ Try.func37 #[.agg #[.slice A0 n0 c0, .slice A1 n1 c1, .slice A2 n2 c2, .int .i64 ra], aP ⟨yx, yy, yz⟩, .int .i64 16] ?_
          with_reducible refine (HTT.out _ (HVA.out.below (bthen ZB.out HB.out))).mono ?_
          rintro en w7 ⟨u7, rfl, hv, hb⟩
          have HB := Lh (HB.out.trans (hb.mono HB.out.size))
          have HV := Lh hv
          clear hv
          clear hb
          refine ⟨_, rfl, ?_⟩
          refine hK.out _ _ (FF.out _ HB) (fun hHeld => ?_)
          clear hK K
          refine no_ (h := ?_)
          refine two_ (i := 4) (j := 8) (Ni := some 36) (Nj := some 11) (MT 5 6) #[true, true, true, true, false, false, false, false, true, false, false] rfl rfl rfl rfl (by kernel_rfl) (by decide) (by decide) (fun K hK => ?_) (fun K hK => ?_)
          · skip
            refine gs_ Try.func20 #[u7, .agg #[.slice B0 m0 d0, .slice B1 m1 d1, .slice B2 m2 d2, .int .i64 rb]] ?_
            with_reducible refine (HAP.out _ _ HV.out (HVB.out.below (bthen ZB.out HB.out))).mono ?_
            rintro en w7 ⟨rfl, hb⟩
            have HB := Lh (HB.out.trans (hb.mono HB.out.size))
            have HV := Lh (HV.out.below hb)
            clear hb
            refine ⟨_, rfl, ?_⟩
            refine hK.out _ _ (FF.out _ HB) (fun hHeld => ?_)
            clear hK K
            refine no_ (h := ?_)
            refine pu_ 5 31 (h := ?_)
            refine pu_ 6 37 (h := ?_)
            refine pu_ 7 38 (h := ?_)
            refine on_ 8 (some 11) (h := fun K hK => ?_)
            refine value_ (w1 := ?_) (v := ?_) (by rfl) rfl ?_ ?_
            rotate_left 2
            · go_simp
              constructor
              · rfl
              · rfl
            have HA := Lh (ha_new HB.out (.cells #[.int .i64 0, .int .i64 0, .int .i64 0, .int .i64 0] 40))
            have hge := HB.out.size
            have HB := Lh (HB.out.alloc (Nat.le_trans (Nat.le_refl _) HB.out.size) (.cells #[.int .i64 0, .int .i64 0, .int .i64 0, .int .i64 0] 40))
            have HV := Lh (HV.out.below ((Below.refl _ _).alloc (Nat.le_refl _) (.cells #[.int .i64 0, .int .i64 0, .int .i64 0, .int .i64 0] 40)))
            refine hK.out _ _ (FF.out _ HB) (fun hHeld => ?_)
            clear hK K
            refine no_ (h := ?_)
            exact norm_ (by simp only [putAll, Act.put, List.setIfInBounds_toArray, List.set_cons_zero, List.set_cons_succ]) (hCont (_, _) _ ⟨hge, HA.out, HB.out, HV.out⟩)
          · skip
            refine value_ (w1 := ?_) (v := ?_) (by rfl) rfl ?_ ?_
            rotate_left 2
            · go_simp
              constructor
              · rfl
              · rfl
            have HA := Lh (ha_new HB.out (.cells #[.int .i64 0, .int .i64 0, .int .i64 0, .int .i64 0] 40))
            have hge := HB.out.size
            have HB := Lh (HB.out.alloc (Nat.le_trans (Nat.le_refl _) HB.out.size) (.cells #[.int .i64 0, .int .i64 0, .int .i64 0, .int .i64 0] 40))
            have HV := Lh (HV.out.below ((Below.refl _ _).alloc (Nat.le_refl _) (.cells #[.int .i64 0, .int .i64 0, .int .i64 0, .int .i64 0] 40)))
            refine hK.out _ _ (FF.out _ HB) (fun hHeld => ?_)
            clear hK K
            refine no_ (h := ?_)
            refine on_ 4 (some 36) (h := fun K hK => ?_)
            refine gs_ Try.func20 #[u7, .agg #[.slice B0 m0 d0, .slice B1 m1 d1, .slice B2 m2 d2, .int .i64 rb]] ?_
            with_reducible refine (HAP.out _ _ HV.out (HVB.out.below (bthen ZB.out HB.out))).mono ?_
            rintro en w7 ⟨rfl, hb⟩
            have HB := Lh (HB.out.trans (hb.mono HB.out.size))
            have HA := Lh ((hb.block _ (blk_lt HA.out)).trans HA.out)
            have HV := Lh (HV.out.below hb)
            clear hb
            refine ⟨_, rfl, ?_⟩
            refine hK.out _ _ (FF.out _ HB) (fun hHeld => ?_)
            clear hK K
            refine no_ (h := ?_)
            refine pu_ 5 31 (h := ?_)
            refine pu_ 6 37 (h := ?_)
            refine pu_ 7 38 (h := ?_)
            exact norm_ (by simp only [putAll, Act.put, List.setIfInBounds_toArray, List.set_cons_zero, List.set_cons_succ]) (hCont (_, _) _ ⟨hge, HA.out, HB.out, HV.out⟩)
        · skip
          refine value_ (w1 := ?_) (v := ?_) (by rfl) rfl ?_ ?_
          rotate_left 2
          · go_simp
            constructor
            · rfl
            · rfl
          have HA := Lh (ha_new HB.out (.cells #[.int .i64 0, .int .i64 0, .int .i64 0, .int .i64 0] 40))
          have hge := HB.out.size
          have HB := Lh (HB.out.alloc (Nat.le_trans (Nat.le_refl _) HB.out.size) (.cells #[.int .i64 0, .int .i64 0, .int .i64 0, .int .i64 0] 40))
          refine hK.out _ _ (FF.out _ HB) (fun hHeld => ?_)
          clear hK K
          refine no_ (h := ?_)
          refine on_ 2 (some 34) (h := fun K hK => ?_)
          refine gs_ Try.func37 #[.agg #[.slice A0 n0 c0, .slice A1 n1 c1, .slice A2 n2 c2, .int .i64 ra], aP ⟨yx, yy, yz⟩, .int .i64 16] ?_
          with_reducible refine (HTT.out _ (HVA.out.below (bthen ZB.out HB.out))).mono ?_
          rintro en w7 ⟨u7, rfl, hv, hb⟩
          have HB := Lh (HB.out.trans (hb.mono HB.out.size))
          have HA := Lh ((hb.block _ (blk_lt HA.out)).trans HA.out)
          have HV := Lh hv
          clear hv
          clear hb
          refine ⟨_, rfl, ?_⟩
          refine hK.out _ _ (FF.out _ HB) (fun hHeld => ?_)
          clear hK K
          refine no_ (h := ?_)
          refine on_ 4 (some 36) (h := fun K hK => ?_)
          refine gs_ Try.func20 #[u7, .agg #[.slice B0 m0 d0, .slice B1 m1 d1, .slice B2 m2 d2, .int .i64 rb]] ?_
          with_reducible refine (HAP.out _ _ HV.out (HVB.out.below (bthen ZB.out HB.out))).mono ?_
          rintro en w7 ⟨rfl, hb⟩
          have HB := Lh (HB.out.trans (hb.mono HB.out.size))
          have HA := Lh ((hb.block _ (blk_lt HA.out)).trans HA.out)
          have HV := Lh (HV.out.below hb)
          clear hb
          refine ⟨_, rfl, ?_⟩
          refine hK.out _ _ (FF.out _ HB) (fun hHeld => ?_)
          clear hK K
          refine no_ (h := ?_)
          refine pu_ 5 31 (h := ?_)
          refine pu_ 6 37 (h := ?_)
          refine pu_ 7 38 (h := ?_)
          exact norm_ (by simp only [putAll, Act.put, List.setIfInBounds_toArray, List.set_cons_zero, List.set_cons_succ]) (hCont (_, _) _ ⟨hge, HA.out, HB.out, HV.out⟩)
      rintro ⟨AB, V⟩ wj ⟨hge, HA, HB, HV⟩
      have HA := Lh HA
      have HB := Lh HB
      (try simp only at hge HA HB HV)
      have HV := Lh HV
      have hHeld := FF.out _ HB
      refine no_ (h := ?_)
      refine on_ 9 (none) (h := fun K hK => ?_)
      have sc0 : World.cell? _ ⟨AB, 0, none⟩ = some (.int .i64 0) := (blk_cell HA.out 0).trans rfl
      have sf0 := blk_frozen HA.out 0
      have sc1 : World.cell? _ ⟨AB, 1, none⟩ = some (.int .i64 0) := (blk_cell HA.out 1).trans rfl
      have sf1 := blk_frozen HA.out 1
      have sc2 : World.cell? _ ⟨AB, 2, none⟩ = some (.int .i64 0) := (blk_cell HA.out 2).trans rfl
      have sf2 := blk_frozen HA.out 2
      have sc3 : World.cell? _ ⟨AB, 3, none⟩ = some (.int .i64 0) := (blk_cell HA.out 3).trans rfl
      have sf3 := blk_frozen HA.out 3
      refine skip_ (w1 := ?_) (by rfl) rfl ?_ ?_
      rotate_left
      · go_simp
        rfl
      have HA := Lh (bs4 HA.out (.int .i64 Yx) (.int .i64 Yy) (.int .i64 Yz) (.int .i64 Yg))
      have HB := Lh (bb4 HB.out (Nat.le_trans (Nat.le_refl _) hge) (.int .i64 Yx) (.int .i64 Yy) (.int .i64 Yz) (.int .i64 Yg))
      clear sc0 sf0 sc1 sf1 sc2 sf2 sc3 sf3
      refine hK.out _ _ (FF.out _ HB) (fun hHeld => ?_)
      clear hK K
      refine pu_ 10 12 (h := ?_)
      refine done_ (by kernel_rfl) ?_
      obtain ⟨w5, hwn⟩ : ∃ V, ((((wj.setCell ⟨AB, 0, none⟩ (.int .i64 Yx)).setCell ⟨AB, 1, none⟩ (.int .i64 Yy)).setCell ⟨AB, 2, none⟩ (.int .i64 Yz)).setCell ⟨AB, 3, none⟩ (.int .i64 Yg)) = V := ⟨_, rfl⟩
      rw [hwn] at HA HB ⊢
      clear hwn
      have Z0 := Lh ((HB.out.block _ (blk_lt Z0.out)).trans Z0.out)
      have Z1 := Lh ((HB.out.block _ (blk_lt Z1.out)).trans Z1.out)
      have Z2 := Lh ((HB.out.block _ (blk_lt Z2.out)).trans Z2.out)
      have Z3 := Lh ((HB.out.block _ (blk_lt Z3.out)).trans Z3.out)
      have HX := Lh ((HB.out.block _ (blk_lt HX.out)).trans HX.out)
      have ZB := Lh (bthen ZB.out HB.out)
      clear HA HB hge HV hHeld HTT HAP x0 x1 x2 x3 xl y0 y1 y2 yl z0 z1 z2 z3 zl
      cases Yo with
      | false =>
        have HR := Lh (HNO.out (HOK2.out.trans rfl))
        clear HNO HYS HGO HSTOP HNEG HZ HA2 HT HM
        have r0 : w5.cell? ⟨w.heap.size + 3, 0, none⟩ = some (.int .i64 0) := (blk_cell Z3.out 0).trans rfl
        have f0 : w5.frozen? ⟨w.heap.size + 3, 0, none⟩ = false := blk_frozen Z3.out 0
        have r1 : w5.cell? ⟨w.heap.size + 3, 1, none⟩ = some (.int .i64 0) := (blk_cell Z3.out 1).trans rfl
        have f1 : w5.frozen? ⟨w.heap.size + 3, 1, none⟩ = false := blk_frozen Z3.out 1
        have r2 : w5.cell? ⟨w.heap.size + 3, 2, none⟩ = some (.int .i64 0) := (blk_cell Z3.out 2).trans rfl
        have f2 : w5.frozen? ⟨w.heap.size + 3, 2, none⟩ = false := blk_frozen Z3.out 2
        have r3 : w5.cell? ⟨w.heap.size + 3, 3, none⟩ = some (.int .i64 0) := (blk_cell Z3.out 3).trans rfl
        have f3 : w5.frozen? ⟨w.heap.size + 3, 3, none⟩ = false := blk_frozen Z3.out 3
        obtain ⟨V, hV⟩ : ∃ V, set4 w5 (w.heap.size + 1 + 1 + 1) (.int .i64 0) (.int .i64 0) (.int .i64 0) (.int .i64 0) = V := ⟨_, rfl⟩
        have HV : V.heap[w.heap.size + 3]? = some (.cells #[.int .i64 0, .int .i64 0, .int .i64 0, .int .i64 0] 40 (0, 0)) := by rw [← hV]; exact blk4_set Z3.out _ _ _ _
        have HBV : Below w.heap.size w V := by rw [← hV]; exact below_set4 ZB.out (by omega) _ _ _ _
        have t0 : V.cell? ⟨w.heap.size + 1 + 1 + 1, 0, none⟩ = some (.int .i64 0) := (blk_cell HV 0).trans rfl
        have t1 : V.cell? ⟨w.heap.size + 1 + 1 + 1, 1, none⟩ = some (.int .i64 0) := (blk_cell HV 1).trans rfl
        have t2 : V.cell? ⟨w.heap.size + 1 + 1 + 1, 2, none⟩ = some (.int .i64 0) := (blk_cell HV 2).trans rfl
        have t3 : V.cell? ⟨w.heap.size + 1 + 1 + 1, 3, none⟩ = some (.int .i64 0) := (blk_cell HV 3).trans rfl
        go_wp2
        (try rw [hV])
        exact bodyPost_ret (v := .tuple #[.int .i64 0, .agg #[.int .i64 0, .int .i64 0, .int .i64 0, .int .i64 0], .bool false]) (by simp [results, Try.results34, go_sem, t0, t1, t2, t3]) rfl ⟨by rw [HR.out]; rfl, HBV⟩
      | true =>
        have HYS2 := Lh (HYS.out (HOK2.out.trans rfl))
        clear HNO HYS HOK HOK2 HM
        go_wp2_with fail
        go_loopw [13, 14, 15] (fun v13 v14 v15 wr => ∃ (k : Nat) (X : P3 × Int), k ≤ 16 ∧ v13 = .int .i64 k ∧ Hid (CL (16 - k) k X = CL 16 0 (⟨Xx, Xy, Xz⟩, Xg)) ∧ Hid (wr.heap[XB]? = some (.cells #[.int .i64 X.1.x, .int .i64 X.1.y, .int .i64 X.1.z, .int .i64 X.2] 40 (0, 0))) ∧ Hid (Below XB w5 wr)) (fun v13 _ _ _ => 16 - (intOf v13).toNat)
        case atStart => exact ⟨0, _, by omega, rfl, Lh rfl, HX, Lh (Below.refl _ _)⟩
        case round =>
          obtain ⟨k, X, hk, rfl, hC, hX, hB⟩ := hrel
          clear HX
          obtain ⟨wq, hwq⟩ : ∃ x : World, x = wr := ⟨_, rfl⟩
          subst hwq
          obtain ⟨⟨Px, Py, Pz⟩, Pg⟩ := X
          simp only at hX
          have hX := Lh hX.out
          have hs5 : w5.heap.size ≤ wq.heap.size := hB.out.size
          have Z0 := Lh ((hB.out.block _ (show w.heap.size < XB by omega)).trans Z0.out)
          have Z1 := Lh ((hB.out.block _ (show w.heap.size + 1 < XB by omega)).trans Z1.out)
          have Z2 := Lh ((hB.out.block _ (show w.heap.size + 2 < XB by omega)).trans Z2.out)
          have Z3 := Lh ((hB.out.block _ (show w.heap.size + 3 < XB by omega)).trans Z3.out)
          have ZB := Lh (ZB.out.trans (hB.out.mono (show w.heap.size ≤ XB by omega)))
          have p3 : wq.cell? ⟨XB, 3, none⟩ = some (.int .i64 Pg) := (blk_cell hX.out 3).trans rfl
          have pl : XB < wq.heap.size := blk_lt hX.out
          by_cases t1 : 0 ≤ Pg
          · have e1 : decide (0 ≤ Pg) = true := decide_eq_true t1
            by_cases t2 : (k : Int) < 16
            · have e2 : decide ((k : Int) < 16) = true := decide_eq_true t2
              have hwk : wrap64 ((k : Int) + 1) = (k : Int) + 1 := by unfold wrap64; omega
              have HK := Lh hwk
              have HTT := Lh (fun W h => HT.out W ((k : Int) + 1) h)
              rw [← hwk] at HTT
              have HAP := Lh (HA2.out ((k : Int) + 1))
              have HG := Lh (HGO.out (15 - k) k ((⟨Px, Py, Pz⟩, Pg) : P3 × Int))
              have HS := Lh (HSTOP.out (15 - k) k ((⟨Px, Py, Pz⟩, Pg) : P3 × Int))
              obtain ⟨TT, hTT⟩ : ∃ t, TR ((k : Int) + 1) = t := ⟨_, rfl⟩
              rw [hwk] at HTT
              rw [hTT] at HTT HAP HG HS
              obtain ⟨Y, hY⟩ : ∃ t, AP TT = t := ⟨_, rfl⟩
              rw [hY] at HAP HG HS
              obtain ⟨⟨⟨Yx, Yy, Yz⟩, Yg⟩, Yo⟩ := Y
              simp only at HAP HG HS
              have HTT := Lh (show ∀ W, CrV W (.agg #[.slice A0 n0 c0, .slice A1 n1 c1, .slice A2 n2 c2, .int .i64 ra]) a → Calls Try.prog 37 #[.agg #[.slice A0 n0 c0, .slice A1 n1 c1, .slice A2 n2 c2, .int .i64 ra], aP ⟨yx, yy, yz⟩, .int .i64 (wrap64 ((k : Int) + 1))] W (TrailPost TT W) from by rw [hwk]; exact HTT.out)
              have HE : Hid (16 - k = (15 - k) + 1 ∧ 15 - k = 16 - (k + 1)) := Lh (by omega)
              rw [HE.out.1] at hC
              have hk16 : k < 16 := by omega
              have hP0 : 0 ≤ Pg := t1
              clear hTT hY t1 t2 hwk
              have x0 : wq.cell? ⟨w.heap.size, 0, none⟩ = some (.slice A0 n0 c0) := (blk_cell Z0.out 0).trans rfl
              have x1 : wq.cell? ⟨w.heap.size, 1, none⟩ = some (.slice A1 n1 c1) := (blk_cell Z0.out 1).trans rfl
              have x2 : wq.cell? ⟨w.heap.size, 2, none⟩ = some (.slice A2 n2 c2) := (blk_cell Z0.out 2).trans rfl
              have x3 : wq.cell? ⟨w.heap.size, 3, none⟩ = some (.int .i64 ra) := (blk_cell Z0.out 3).trans rfl
              have xl : w.heap.size < wq.heap.size := blk_lt Z0.out
              have y0 : wq.cell? ⟨w.heap.size + 1, 0, none⟩ = some (.int .i64 yx) := (blk_cell Z1.out 0).trans rfl
              have y1 : wq.cell? ⟨w.heap.size + 1, 1, none⟩ = some (.int .i64 yy) := (blk_cell Z1.out 1).trans rfl
              have y2 : wq.cell? ⟨w.heap.size + 1, 2, none⟩ = some (.int .i64 yz) := (blk_cell Z1.out 2).trans rfl
              have yl : w.heap.size + 1 < wq.heap.size := blk_lt Z1.out
              have z0 : wq.cell? ⟨w.heap.size + 2, 0, none⟩ = some (.slice B0 m0 d0) := (blk_cell Z2.out 0).trans rfl
              have z1 : wq.cell? ⟨w.heap.size + 2, 1, none⟩ = some (.slice B1 m1 d1) := (blk_cell Z2.out 1).trans rfl
              have z2 : wq.cell? ⟨w.heap.size + 2, 2, none⟩ = some (.slice B2 m2 d2) := (blk_cell Z2.out 2).trans rfl
              have z3 : wq.cell? ⟨w.heap.size + 2, 3, none⟩ = some (.int .i64 rb) := (blk_cell Z2.out 3).trans rfl
              have zl : w.heap.size + 2 < wq.heap.size := blk_lt Z2.out
              go_wp2_with fail
              have HB := Lh ((Below.refl (wq.heap.size) wq).drew)
              have FF := Lh (show ∀ V, Hid (Below (wq.heap.size) wq V) → V.cell? ⟨w.heap.size, 0, none⟩ = some (.slice A0 n0 c0) ∧ V.cell? ⟨w.heap.size, 1, none⟩ = some (.slice A1 n1 c1) ∧ V.cell? ⟨w.heap.size, 2, none⟩ = some (.slice A2 n2 c2) ∧ V.cell? ⟨w.heap.size, 3, none⟩ = some (.int .i64 ra) ∧ V.cell? ⟨w.heap.size + 1, 0, none⟩ = some (.int .i64 yx) ∧ V.cell? ⟨w.heap.size + 1, 1, none⟩ = some (.int .i64 yy) ∧ V.cell? ⟨w.heap.size + 1, 2, none⟩ = some (.int .i64 yz) ∧ V.cell? ⟨w.heap.size + 2, 0, none⟩ = some (.slice B0 m0 d0) ∧ V.cell? ⟨w.heap.size + 2, 1, none⟩ = some (.slice B1 m1 d1) ∧ V.cell? ⟨w.heap.size + 2, 2, none⟩ = some (.slice B2 m2 d2) ∧ V.cell? ⟨w.heap.size + 2, 3, none⟩ = some (.int .i64 rb) from fun V HB => ⟨(HB.out.cell (p := ⟨w.heap.size, 0, none⟩) (xl)).trans x0, (HB.out.cell (p := ⟨w.heap.size, 1, none⟩) (xl)).trans x1, (HB.out.cell (p := ⟨w.heap.size, 2, none⟩) (xl)).trans x2, (HB.out.cell (p := ⟨w.heap.size, 3, none⟩) (xl)).trans x3, (HB.out.cell (p := ⟨w.heap.size + 1, 0, none⟩) (yl)).trans y0, (HB.out.cell (p := ⟨w.heap.size + 1, 1, none⟩) (yl)).trans y1, (HB.out.cell (p := ⟨w.heap.size + 1, 2, none⟩) (yl)).trans y2, (HB.out.cell (p := ⟨w.heap.size + 2, 0, none⟩) (zl)).trans z0, (HB.out.cell (p := ⟨w.heap.size + 2, 1, none⟩) (zl)).trans z1, (HB.out.cell (p := ⟨w.heap.size + 2, 2, none⟩) (zl)).trans z2, (HB.out.cell (p := ⟨w.heap.size + 2, 3, none⟩) (zl)).trans z3⟩)
              refine start_ (n := 13) (S := fun w' => w'.cell? ⟨w.heap.size, 0, none⟩ = some (.slice A0 n0 c0) ∧ w'.cell? ⟨w.heap.size, 1, none⟩ = some (.slice A1 n1 c1) ∧ w'.cell? ⟨w.heap.size, 2, none⟩ = some (.slice A2 n2 c2) ∧ w'.cell? ⟨w.heap.size, 3, none⟩ = some (.int .i64 ra) ∧ w'.cell? ⟨w.heap.size + 1, 0, none⟩ = some (.int .i64 yx) ∧ w'.cell? ⟨w.heap.size + 1, 1, none⟩ = some (.int .i64 yy) ∧ w'.cell? ⟨w.heap.size + 1, 2, none⟩ = some (.int .i64 yz) ∧ w'.cell? ⟨w.heap.size + 2, 0, none⟩ = some (.slice B0 m0 d0) ∧ w'.cell? ⟨w.heap.size + 2, 1, none⟩ = some (.slice B1 m1 d1) ∧ w'.cell? ⟨w.heap.size + 2, 2, none⟩ = some (.slice B2 m2 d2) ∧ w'.cell? ⟨w.heap.size + 2, 3, none⟩ = some (.int .i64 rb)) (ds := []) (MT 0 13) (by kernel_rfl) rfl rfl (FF.out _ HB) (fun hHeld => ?_)
              obtain ⟨wd, hwd⟩ : ∃ x, wq.drew = x := ⟨_, rfl⟩
              rw [hwd] at HB hHeld ⊢
              clear hwd
              refine pu_ 2 52 (h := ?_)
              refine pu_ 3 53 (h := ?_)
              refine ta_ 0 50 hHeld (h := ?_)
              refine ta_ 1 51 hHeld (h := ?_)
              refine ta_ 5 55 hHeld (h := ?_)
              refine join_ (σ := Nat × Value) 2 (MT 11 2) (fun s => [(14, .pointer (some ⟨s.1, 0, none⟩)), (54, s.2), (56, .tuple #[.agg #[.int .i64 Yx, .int .i64 Yy, .int .i64 Yz, .int .i64 Yg], .bool Yo]), (49, .tuple #[.agg #[.int .i64 Yx, .int .i64 Yy, .int .i64 Yz, .int .i64 Yg], .bool Yo]), (57, .agg #[.int .i64 Yx, .int .i64 Yy, .int .i64 Yz, .int .i64 Yg]), (58, .bool Yo)]) (fun (s : Nat × Value) w' => match s with | (s1, s2) => wq.heap.size ≤ s1 ∧ w'.heap[s1]? = some (.cells #[.int .i64 0, .int .i64 0, .int .i64 0, .int .i64 0] 40 (0, 0)) ∧ Below (wq.heap.size) wq w' ∧ CrV w' s2 TT) ?_ ?_
              rotate_left
              · intro hCont
                refine two_ (i := 4) (j := 10) (Ni := some 54) (Nj := some 14) (MT 6 7) #[true, true, true, true, false, true, false, false, false, false, true, false, false] rfl rfl rfl rfl (by kernel_rfl) (by decide) (by decide) (fun K hK => ?_) (fun K hK => ?_)
                · skip
                  refine gs_ Try.func37 #[.agg #[.slice A0 n0 c0, .slice A1 n1 c1, .slice A2 n2 c2, .int .i64 ra], aP ⟨yx, yy, yz⟩, .int .i64 (wrap64 ((k : Int) + 1))] ?_
                  with_reducible refine (HTT.out _ (HVA.out.below (bthen ZB.out HB.out))).mono ?_
                  rintro en w7 ⟨u7, rfl, hv, hb⟩
                  have HB := Lh (HB.out.trans (hb.mono HB.out.size))
                  have HV := Lh hv
                  clear hv
                  clear hb
                  refine ⟨_, rfl, ?_⟩
                  refine hK.out _ _ (FF.out _ HB) (fun hHeld => ?_)
                  clear hK K
                  refine no_ (h := ?_)
                  refine two_ (i := 6) (j := 10) (Ni := some 56) (Nj := some 14) (MT 7 6) #[true, true, true, true, true, true, false, false, false, false, true, false, false] rfl rfl rfl rfl (by kernel_rfl) (by decide) (by decide) (fun K hK => ?_) (fun K hK => ?_)
                  · skip
                    refine gs_ Try.func20 #[u7, .agg #[.slice B0 m0 d0, .slice B1 m1 d1, .slice B2 m2 d2, .int .i64 rb]] ?_
                    with_reducible refine (HAP.out _ _ HV.out (HVB.out.below (bthen ZB.out HB.out))).mono ?_
                    rintro en w7 ⟨rfl, hb⟩
                    have HB := Lh (HB.out.trans (hb.mono HB.out.size))
                    have HV := Lh (HV.out.below hb)
                    clear hb
                    refine ⟨_, rfl, ?_⟩
                    refine hK.out _ _ (FF.out _ HB) (fun hHeld => ?_)
                    clear hK K
                    refine no_ (h := ?_)
                    refine pu_ 7 49 (h := ?_)
                    refine pu_ 8 57 (h := ?_)
                    refine pu_ 9 58 (h := ?_)
                    refine on_ 10 (some 14) (h := fun K hK => ?_)
                    refine value_ (w1 := ?_) (v := ?_) (by rfl) rfl ?_ ?_
                    rotate_left 2
                    · go_simp
                      constructor
                      · rfl
                      · rfl
                    have HA := Lh (ha_new HB.out (.cells #[.int .i64 0, .int .i64 0, .int .i64 0, .int .i64 0] 40))
                    have hge := HB.out.size
                    have HB := Lh (HB.out.alloc (Nat.le_trans (Nat.le_refl _) HB.out.size) (.cells #[.int .i64 0, .int .i64 0, .int .i64 0, .int .i64 0] 40))
                    have HV := Lh (HV.out.below ((Below.refl _ _).alloc (Nat.le_refl _) (.cells #[.int .i64 0, .int .i64 0, .int .i64 0, .int .i64 0] 40)))
                    refine hK.out _ _ (FF.out _ HB) (fun hHeld => ?_)
                    clear hK K
                    refine no_ (h := ?_)
                    exact norm_ (by simp only [putAll, Act.put, List.setIfInBounds_toArray, List.set_cons_zero, List.set_cons_succ]) (hCont (_, _) _ ⟨hge, HA.out, HB.out, HV.out⟩)
                  · skip
                    refine value_ (w1 := ?_) (v := ?_) (by rfl) rfl ?_ ?_
                    rotate_left 2
                    · go_simp
                      constructor
                      · rfl
                      · rfl
                    have HA := Lh (ha_new HB.out (.cells #[.int .i64 0, .int .i64 0, .int .i64 0, .int .i64 0] 40))
                    have hge := HB.out.size
                    have HB := Lh (HB.out.alloc (Nat.le_trans (Nat.le_refl _) HB.out.size) (.cells #[.int .i64 0, .int .i64 0, .int .i64 0, .int .i64 0] 40))
                    have HV := Lh (HV.out.below ((Below.refl _ _).alloc (Nat.le_refl _) (.cells #[.int .i64 0, .int .i64 0, .int .i64 0, .int .i64 0] 40)))
                    refine hK.out _ _ (FF.out _ HB) (fun hHeld => ?_)
                    clear hK K
                    refine no_ (h := ?_)
                    refine on_ 6 (some 56) (h := fun K hK => ?_)
                    refine gs_ Try.func20 #[u7, .agg #[.slice B0 m0 d0, .slice B1 m1 d1, .slice B2 m2 d2, .int .i64 rb]] ?_
                    with_reducible refine (HAP.out _ _ HV.out (HVB.out.below (bthen ZB.out HB.out))).mono ?_
                    rintro en w7 ⟨rfl, hb⟩
                    have HB := Lh (HB.out.trans (hb.mono HB.out.size))
                    have HA := Lh ((hb.block _ (blk_lt HA.out)).trans HA.out)
                    have HV := Lh (HV.out.below hb)
                    clear hb
                    refine ⟨_, rfl, ?_⟩
                    refine hK.out _ _ (FF.out _ HB) (fun hHeld => ?_)
                    clear hK K
                    refine no_ (h := ?_)
                    refine pu_ 7 49 (h := ?_)
                    refine pu_ 8 57 (h := ?_)
                    refine pu_ 9 58 (h := ?_)
                    exact norm_ (by simp only [putAll, Act.put, List.setIfInBounds_toArray, List.set_cons_zero, List.set_cons_succ]) (hCont (_, _) _ ⟨hge, HA.out, HB.out, HV.out⟩)
                · skip
                  refine value_ (w1 := ?_) (v := ?_) (by rfl) rfl ?_ ?_
                  rotate_left 2
                  · go_simp
                    constructor
                    · rfl
                    · rfl
                  have HA := Lh (ha_new HB.out (.cells #[.int .i64 0, .int .i64 0, .int .i64 0, .int .i64 0] 40))
                  have hge := HB.out.size
                  have HB := Lh (HB.out.alloc (Nat.le_trans (Nat.le_refl _) HB.out.size) (.cells #[.int .i64 0, .int .i64 0, .int .i64 0, .int .i64 0] 40))
                  refine hK.out _ _ (FF.out _ HB) (fun hHeld => ?_)
                  clear hK K
                  refine no_ (h := ?_)
                  refine on_ 4 (some 54) (h := fun K hK => ?_)
                  refine gs_ Try.func37 #[.agg #[.slice A0 n0 c0, .slice A1 n1 c1, .slice A2 n2 c2, .int .i64 ra], aP ⟨yx, yy, yz⟩, .int .i64 (wrap64 ((k : Int) + 1))] ?_
                  with_reducible refine (HTT.out _ (HVA.out.below (bthen ZB.out HB.out))).mono ?_
                  rintro en w7 ⟨u7, rfl, hv, hb⟩
                  have HB := Lh (HB.out.trans (hb.mono HB.out.size))
                  have HA := Lh ((hb.block _ (blk_lt HA.out)).trans HA.out)
                  have HV := Lh hv
                  clear hv
                  clear hb
                  refine ⟨_, rfl, ?_⟩
                  refine hK.out _ _ (FF.out _ HB) (fun hHeld => ?_)
                  clear hK K
                  refine no_ (h := ?_)
                  refine on_ 6 (some 56) (h := fun K hK => ?_)
                  refine gs_ Try.func20 #[u7, .agg #[.slice B0 m0 d0, .slice B1 m1 d1, .slice B2 m2 d2, .int .i64 rb]] ?_
                  with_reducible refine (HAP.out _ _ HV.out (HVB.out.below (bthen ZB.out HB.out))).mono ?_
                  rintro en w7 ⟨rfl, hb⟩
                  have HB := Lh (HB.out.trans (hb.mono HB.out.size))
                  have HA := Lh ((hb.block _ (blk_lt HA.out)).trans HA.out)
                  have HV := Lh (HV.out.below hb)
                  clear hb
                  refine ⟨_, rfl, ?_⟩
                  refine hK.out _ _ (FF.out _ HB) (fun hHeld => ?_)
                  clear hK K
                  refine no_ (h := ?_)
                  refine pu_ 7 49 (h := ?_)
                  refine pu_ 8 57 (h := ?_)
                  refine pu_ 9 58 (h := ?_)
                  exact norm_ (by simp only [putAll, Act.put, List.setIfInBounds_toArray, List.set_cons_zero, List.set_cons_succ]) (hCont (_, _) _ ⟨hge, HA.out, HB.out, HV.out⟩)
              rintro ⟨AB, V⟩ wj ⟨hge, HA, HB, HV⟩
              have HA := Lh HA
              have HB := Lh HB
              (try simp only at hge HA HB HV)
              have HV := Lh HV
              have hHeld := FF.out _ HB
              refine no_ (h := ?_)
              refine on_ 11 (none) (h := fun K hK => ?_)
              have sc0 : World.cell? _ ⟨AB, 0, none⟩ = some (.int .i64 0) := (blk_cell HA.out 0).trans rfl
              have sf0 := blk_frozen HA.out 0
              have sc1 : World.cell? _ ⟨AB, 1, none⟩ = some (.int .i64 0) := (blk_cell HA.out 1).trans rfl
              have sf1 := blk_frozen HA.out 1
              have sc2 : World.cell? _ ⟨AB, 2, none⟩ = some (.int .i64 0) := (blk_cell HA.out 2).trans rfl
              have sf2 := blk_frozen HA.out 2
              have sc3 : World.cell? _ ⟨AB, 3, none⟩ = some (.int .i64 0) := (blk_cell HA.out 3).trans rfl
              have sf3 := blk_frozen HA.out 3
              refine skip_ (w1 := ?_) (by rfl) rfl ?_ ?_
              rotate_left
              · go_simp
                rfl
              have HA := Lh (bs4 HA.out (.int .i64 Yx) (.int .i64 Yy) (.int .i64 Yz) (.int .i64 Yg))
              have HB := Lh (bb4 HB.out (Nat.le_trans (Nat.le_refl _) hge) (.int .i64 Yx) (.int .i64 Yy) (.int .i64 Yz) (.int .i64 Yg))
              clear sc0 sf0 sc1 sf1 sc2 sf2 sc3 sf3
              refine hK.out _ _ (FF.out _ HB) (fun hHeld => ?_)
              clear hK K
              refine pu_ 12 15 (h := ?_)
              refine done_ (by kernel_rfl) ?_
              obtain ⟨w8, hwn⟩ : ∃ V, ((((wj.setCell ⟨AB, 0, none⟩ (.int .i64 Yx)).setCell ⟨AB, 1, none⟩ (.int .i64 Yy)).setCell ⟨AB, 2, none⟩ (.int .i64 Yz)).setCell ⟨AB, 3, none⟩ (.int .i64 Yg)) = V := ⟨_, rfl⟩
              rw [hwn] at HA HB ⊢
              clear hwn
              have Z3 := Lh ((HB.out.block _ (blk_lt Z3.out)).trans Z3.out)
              have hX := Lh ((HB.out.block _ (blk_lt hX.out)).trans hX.out)
              have ZB := Lh (bthen ZB.out HB.out)
              have hB := Lh (hB.out.trans (HB.out.mono (show XB ≤ wq.heap.size by omega)))
              have HY := HA
              have hYX : Hid (XB < AB) := Lh (Nat.lt_of_lt_of_le pl hge)
              clear HB hge HV hHeld HTT HAP x0 x1 x2 x3 xl y0 y1 y2 yl z0 z1 z2 z3 zl p3 pl HA e1 e2
              have q3 : w8.cell? ⟨AB, 3, none⟩ = some (.int .i64 Yg) := (blk_cell HY.out 3).trans rfl
              have ql : AB < w8.heap.size := blk_lt HY.out
              by_cases t3 : Yg < 0
              · have e3 : decide (Yg < 0) = true := decide_eq_true t3
                have HRES := Lh (show CF = (((k : Nat), ((⟨Px, Py, Pz⟩, Pg) : P3 × Int)), true) from by rw [HYS2.out, ← hC.out, HS.out _ rfl t3])
                clear HGO HSTOP HNEG HZ HA2 HT HYS2 hC
                go_wp2_with fail
                have HB := Lh ((Below.refl w8.heap.size w8).drew)
                have FF := Lh (show ∀ V, Hid (Below w8.heap.size w8 V) → V.cell? ⟨XB, 0, none⟩ = some (.int .i64 Px) ∧ V.cell? ⟨XB, 1, none⟩ = some (.int .i64 Py) ∧ V.cell? ⟨XB, 2, none⟩ = some (.int .i64 Pz) ∧ V.cell? ⟨XB, 3, none⟩ = some (.int .i64 Pg) from fun V HB => have e := (HB.out.block _ (blk_lt hX.out)).trans hX.out; ⟨(blk_cell e 0).trans rfl, (blk_cell e 1).trans rfl, (blk_cell e 2).trans rfl, (blk_cell e 3).trans rfl⟩)
                refine start_ (n := 5) (S := fun w' => w'.cell? ⟨XB, 0, none⟩ = some (.int .i64 Px) ∧ w'.cell? ⟨XB, 1, none⟩ = some (.int .i64 Py) ∧ w'.cell? ⟨XB, 2, none⟩ = some (.int .i64 Pz) ∧ w'.cell? ⟨XB, 3, none⟩ = some (.int .i64 Pg)) (ds := [3]) (MT 0 5) (by kernel_rfl) rfl rfl (FF.out _ HB) (fun hHeld => ?_)
                obtain ⟨wd, hwd⟩ : ∃ x, w8.drew = x := ⟨_, rfl⟩
                rw [hwd] at HB hHeld ⊢
                clear hwd
                refine pu_ 0 65 (h := ?_)
                refine pu_ 2 6 (h := ?_)
                refine ta_ 1 66 hHeld (h := ?_)
                refine last_ (i := 3) (N := none) (MT 4 1) rfl rfl (by kernel_rfl) (by decide) (fun K hK => ?_)
                have R4 := (HB.out.block _ (blk_lt Z3.out)).trans Z3.out
                have sc0 : World.cell? _ ⟨w.heap.size + 3, 0, none⟩ = some (.int .i64 0) := (blk_cell R4 0).trans rfl
                have sf0 : World.frozen? _ ⟨w.heap.size + 3, 0, none⟩ = false := blk_frozen R4 0
                have sc1 : World.cell? _ ⟨w.heap.size + 3, 1, none⟩ = some (.int .i64 0) := (blk_cell R4 1).trans rfl
                have sf1 : World.frozen? _ ⟨w.heap.size + 3, 1, none⟩ = false := blk_frozen R4 1
                have sc2 : World.cell? _ ⟨w.heap.size + 3, 2, none⟩ = some (.int .i64 0) := (blk_cell R4 2).trans rfl
                have sf2 : World.frozen? _ ⟨w.heap.size + 3, 2, none⟩ = false := blk_frozen R4 2
                have sc3 : World.cell? _ ⟨w.heap.size + 3, 3, none⟩ = some (.int .i64 0) := (blk_cell R4 3).trans rfl
                have sf3 : World.frozen? _ ⟨w.heap.size + 3, 3, none⟩ = false := blk_frozen R4 3
                refine skip_ (w1 := ?_) (by rfl) rfl ?_ ?_
                rotate_left
                · go_simp
                  rfl
                refine hK.out _ _ ?_
                clear hK K
                refine pu_ 4 8 (h := ?_)
                refine done_ (by kernel_rfl) ?_
                have HRV := bs4 R4 (.int .i64 Px) (.int .i64 Py) (.int .i64 Pz) (.int .i64 Pg)
                have HBV := bb4 (bthen ZB.out HB.out) (show w.heap.size ≤ w.heap.size + 3 by omega) (.int .i64 Px) (.int .i64 Py) (.int .i64 Pz) (.int .i64 Pg)
                obtain ⟨V, hV⟩ : ∃ V, ((((wd.setCell ⟨w.heap.size + 3, 0, none⟩ (.int .i64 Px)).setCell ⟨w.heap.size + 3, 1, none⟩ (.int .i64 Py)).setCell ⟨w.heap.size + 3, 2, none⟩ (.int .i64 Pz)).setCell ⟨w.heap.size + 3, 3, none⟩ (.int .i64 Pg)) = V := ⟨_, rfl⟩
                rw [hV] at HRV HBV
                (try rw [hV])
                have t0 : V.cell? ⟨w.heap.size + 1 + 1 + 1, 0, none⟩ = some (.int .i64 Px) := (blk_cell HRV 0).trans rfl
                have t1 : V.cell? ⟨w.heap.size + 1 + 1 + 1, 1, none⟩ = some (.int .i64 Py) := (blk_cell HRV 1).trans rfl
                have t2 : V.cell? ⟨w.heap.size + 1 + 1 + 1, 2, none⟩ = some (.int .i64 Pz) := (blk_cell HRV 2).trans rfl
                have t3 : V.cell? ⟨w.heap.size + 1 + 1 + 1, 3, none⟩ = some (.int .i64 Pg) := (blk_cell HRV 3).trans rfl
                clear sc0 sc1 sc2 sc3 sf0 sf1 sf2 sf3 R4 hHeld
                go_wp2
                (try rw [hV])
                exact bodyPost_ret (v := .tuple #[.int .i64 (k : Int), .agg #[.int .i64 Px, .int .i64 Py, .int .i64 Pz, .int .i64 Pg], .bool true]) (by simp [results, Try.results34, go_sem, t0, t1, t2, t3]) rfl ⟨by rw [HRES.out], HBV⟩
              · have e3 : decide (Yg < 0) = false := decide_eq_false t3
                have HG2 := Lh (HG.out _ (by omega) rfl (by omega))
                have q0 : w8.cell? ⟨AB, 0, none⟩ = some (.int .i64 Yx) := (blk_cell HY.out 0).trans rfl
                have q1 : w8.cell? ⟨AB, 1, none⟩ = some (.int .i64 Yy) := (blk_cell HY.out 1).trans rfl
                have q2 : w8.cell? ⟨AB, 2, none⟩ = some (.int .i64 Yz) := (blk_cell HY.out 2).trans rfl
                have p0 : w8.cell? ⟨XB, 0, none⟩ = some (.int .i64 Px) := (blk_cell hX.out 0).trans rfl
                have p1 : w8.cell? ⟨XB, 1, none⟩ = some (.int .i64 Py) := (blk_cell hX.out 1).trans rfl
                have p2 : w8.cell? ⟨XB, 2, none⟩ = some (.int .i64 Pz) := (blk_cell hX.out 2).trans rfl
                have p3 : w8.cell? ⟨XB, 3, none⟩ = some (.int .i64 Pg) := (blk_cell hX.out 3).trans rfl
                have f0 := blk_frozen hX.out 0
                have f1 := blk_frozen hX.out 1
                have f2 := blk_frozen hX.out 2
                have f3 := blk_frozen hX.out 3
                have hNE : AB ≠ XB := Nat.ne_of_gt hYX.out
                have hNX : XB ≠ AB := Nat.ne_of_lt hYX.out
                clear t3
                go_wp2
                go_roundw
                case rel => exact ⟨k + 1, (⟨Yx, Yy, Yz⟩, Yg), by omega, by go_num, Lh (by rw [← HE.out.2, ← HG2.out]; exact hC.out), Lh (bs4 hX.out (.int .i64 Yx) (.int .i64 Yy) (.int .i64 Yz) (.int .i64 Yg)), Lh (bb4 hB.out (Nat.le_refl _) (.int .i64 Yx) (.int .i64 Yy) (.int .i64 Yz) (.int .i64 Yg))⟩
                case measure => simp [intOf]; omega
            · have e2 : decide ((k : Int) < 16) = false := decide_eq_false t2
              obtain rfl : k = 16 := by omega
              clear t1 t2
              have HRES := Lh (show CF = (((16 : Nat), ((⟨Px, Py, Pz⟩, Pg) : P3 × Int)), true) from by rw [HYS2.out, ← hC.out]; exact congrArg (fun t => (t, true)) (HZ.out 16 _))
              clear HGO HSTOP HNEG HZ HA2 HT HYS2 hC
              go_wp2_with fail
              have HB := Lh ((Below.refl wq.heap.size wq).drew)
              have FF := Lh (show ∀ V, Hid (Below wq.heap.size wq V) → V.cell? ⟨XB, 0, none⟩ = some (.int .i64 Px) ∧ V.cell? ⟨XB, 1, none⟩ = some (.int .i64 Py) ∧ V.cell? ⟨XB, 2, none⟩ = some (.int .i64 Pz) ∧ V.cell? ⟨XB, 3, none⟩ = some (.int .i64 Pg) from fun V HB => have e := (HB.out.block _ (blk_lt hX.out)).trans hX.out; ⟨(blk_cell e 0).trans rfl, (blk_cell e 1).trans rfl, (blk_cell e 2).trans rfl, (blk_cell e 3).trans rfl⟩)
              refine start_ (n := 5) (S := fun w' => w'.cell? ⟨XB, 0, none⟩ = some (.int .i64 Px) ∧ w'.cell? ⟨XB, 1, none⟩ = some (.int .i64 Py) ∧ w'.cell? ⟨XB, 2, none⟩ = some (.int .i64 Pz) ∧ w'.cell? ⟨XB, 3, none⟩ = some (.int .i64 Pg)) (ds := [3]) (MT 0 5) (by kernel_rfl) rfl rfl (FF.out _ HB) (fun hHeld => ?_)
              obtain ⟨wd, hwd⟩ : ∃ x, wq.drew = x := ⟨_, rfl⟩
              rw [hwd] at HB hHeld ⊢
              clear hwd
              refine pu_ 0 65 (h := ?_)
              refine pu_ 2 6 (h := ?_)
              refine ta_ 1 66 hHeld (h := ?_)
              refine last_ (i := 3) (N := none) (MT 4 1) rfl rfl (by kernel_rfl) (by decide) (fun K hK => ?_)
              have R4 := (HB.out.block _ (blk_lt Z3.out)).trans Z3.out
              have sc0 : World.cell? _ ⟨w.heap.size + 3, 0, none⟩ = some (.int .i64 0) := (blk_cell R4 0).trans rfl
              have sf0 : World.frozen? _ ⟨w.heap.size + 3, 0, none⟩ = false := blk_frozen R4 0
              have sc1 : World.cell? _ ⟨w.heap.size + 3, 1, none⟩ = some (.int .i64 0) := (blk_cell R4 1).trans rfl
              have sf1 : World.frozen? _ ⟨w.heap.size + 3, 1, none⟩ = false := blk_frozen R4 1
              have sc2 : World.cell? _ ⟨w.heap.size + 3, 2, none⟩ = some (.int .i64 0) := (blk_cell R4 2).trans rfl
              have sf2 : World.frozen? _ ⟨w.heap.size + 3, 2, none⟩ = false := blk_frozen R4 2
              have sc3 : World.cell? _ ⟨w.heap.size + 3, 3, none⟩ = some (.int .i64 0) := (blk_cell R4 3).trans rfl
              have sf3 : World.frozen? _ ⟨w.heap.size + 3, 3, none⟩ = false := blk_frozen R4 3
              refine skip_ (w1 := ?_) (by rfl) rfl ?_ ?_
              rotate_left
              · go_simp
                rfl
              refine hK.out _ _ ?_
              clear hK K
              refine pu_ 4 8 (h := ?_)
              refine done_ (by kernel_rfl) ?_
              have HRV := bs4 R4 (.int .i64 Px) (.int .i64 Py) (.int .i64 Pz) (.int .i64 Pg)
              have HBV := bb4 (bthen ZB.out HB.out) (show w.heap.size ≤ w.heap.size + 3 by omega) (.int .i64 Px) (.int .i64 Py) (.int .i64 Pz) (.int .i64 Pg)
              obtain ⟨V, hV⟩ : ∃ V, ((((wd.setCell ⟨w.heap.size + 3, 0, none⟩ (.int .i64 Px)).setCell ⟨w.heap.size + 3, 1, none⟩ (.int .i64 Py)).setCell ⟨w.heap.size + 3, 2, none⟩ (.int .i64 Pz)).setCell ⟨w.heap.size + 3, 3, none⟩ (.int .i64 Pg)) = V := ⟨_, rfl⟩
              rw [hV] at HRV HBV
              (try rw [hV])
              have t0 : V.cell? ⟨w.heap.size + 1 + 1 + 1, 0, none⟩ = some (.int .i64 Px) := (blk_cell HRV 0).trans rfl
              have t1 : V.cell? ⟨w.heap.size + 1 + 1 + 1, 1, none⟩ = some (.int .i64 Py) := (blk_cell HRV 1).trans rfl
              have t2 : V.cell? ⟨w.heap.size + 1 + 1 + 1, 2, none⟩ = some (.int .i64 Pz) := (blk_cell HRV 2).trans rfl
              have t3 : V.cell? ⟨w.heap.size + 1 + 1 + 1, 3, none⟩ = some (.int .i64 Pg) := (blk_cell HRV 3).trans rfl
              clear sc0 sc1 sc2 sc3 sf0 sf1 sf2 sf3 R4 hHeld
              go_wp2
              (try rw [hV])
              exact bodyPost_ret (v := .tuple #[.int .i64 ((16 : Nat) : Int), .agg #[.int .i64 Px, .int .i64 Py, .int .i64 Pz, .int .i64 Pg], .bool true]) (by simp [results, Try.results34, go_sem, t0, t1, t2, t3]) rfl ⟨by rw [HRES.out], HBV⟩
          · have e1 : decide (0 ≤ Pg) = false := decide_eq_false t1
            have HRES := Lh (show CF = (((k : Nat), ((⟨Px, Py, Pz⟩, Pg) : P3 × Int)), true) from by rw [HYS2.out, ← hC.out, HNEG.out _ k _ (by omega)])
            clear HGO HSTOP HNEG HZ HA2 HT HYS2 hC
            go_wp2_with fail
            have HB := Lh ((Below.refl wq.heap.size wq).drew)
            have FF := Lh (show ∀ V, Hid (Below wq.heap.size wq V) → V.cell? ⟨XB, 0, none⟩ = some (.int .i64 Px) ∧ V.cell? ⟨XB, 1, none⟩ = some (.int .i64 Py) ∧ V.cell? ⟨XB, 2, none⟩ = some (.int .i64 Pz) ∧ V.cell? ⟨XB, 3, none⟩ = some (.int .i64 Pg) from fun V HB => have e := (HB.out.block _ (blk_lt hX.out)).trans hX.out; ⟨(blk_cell e 0).trans rfl, (blk_cell e 1).trans rfl, (blk_cell e 2).trans rfl, (blk_cell e 3).trans rfl⟩)
            refine start_ (n := 5) (S := fun w' => w'.cell? ⟨XB, 0, none⟩ = some (.int .i64 Px) ∧ w'.cell? ⟨XB, 1, none⟩ = some (.int .i64 Py) ∧ w'.cell? ⟨XB, 2, none⟩ = some (.int .i64 Pz) ∧ w'.cell? ⟨XB, 3, none⟩ = some (.int .i64 Pg)) (ds := [3]) (MT 0 5) (by kernel_rfl) rfl rfl (FF.out _ HB) (fun hHeld => ?_)
            obtain ⟨wd, hwd⟩ : ∃ x, wq.drew = x := ⟨_, rfl⟩
            rw [hwd] at HB hHeld ⊢
            clear hwd
            refine pu_ 0 65 (h := ?_)
            refine pu_ 2 6 (h := ?_)
            refine ta_ 1 66 hHeld (h := ?_)
            refine last_ (i := 3) (N := none) (MT 4 1) rfl rfl (by kernel_rfl) (by decide) (fun K hK => ?_)
            have R4 := (HB.out.block _ (blk_lt Z3.out)).trans Z3.out
            have sc0 : World.cell? _ ⟨w.heap.size + 3, 0, none⟩ = some (.int .i64 0) := (blk_cell R4 0).trans rfl
            have sf0 : World.frozen? _ ⟨w.heap.size + 3, 0, none⟩ = false := blk_frozen R4 0
            have sc1 : World.cell? _ ⟨w.heap.size + 3, 1, none⟩ = some (.int .i64 0) := (blk_cell R4 1).trans rfl
            have sf1 : World.frozen? _ ⟨w.heap.size + 3, 1, none⟩ = false := blk_frozen R4 1
            have sc2 : World.cell? _ ⟨w.heap.size + 3, 2, none⟩ = some (.int .i64 0) := (blk_cell R4 2).trans rfl
            have sf2 : World.frozen? _ ⟨w.heap.size + 3, 2, none⟩ = false := blk_frozen R4 2
            have sc3 : World.cell? _ ⟨w.heap.size + 3, 3, none⟩ = some (.int .i64 0) := (blk_cell R4 3).trans rfl
            have sf3 : World.frozen? _ ⟨w.heap.size + 3, 3, none⟩ = false := blk_frozen R4 3
            refine skip_ (w1 := ?_) (by rfl) rfl ?_ ?_
            rotate_left
            · go_simp
              rfl
            refine hK.out _ _ ?_
            clear hK K
            refine pu_ 4 8 (h := ?_)
            refine done_ (by kernel_rfl) ?_
            have HRV := bs4 R4 (.int .i64 Px) (.int .i64 Py) (.int .i64 Pz) (.int .i64 Pg)
            have HBV := bb4 (bthen ZB.out HB.out) (show w.heap.size ≤ w.heap.size + 3 by omega) (.int .i64 Px) (.int .i64 Py) (.int .i64 Pz) (.int .i64 Pg)
            obtain ⟨V, hV⟩ : ∃ V, ((((wd.setCell ⟨w.heap.size + 3, 0, none⟩ (.int .i64 Px)).setCell ⟨w.heap.size + 3, 1, none⟩ (.int .i64 Py)).setCell ⟨w.heap.size + 3, 2, none⟩ (.int .i64 Pz)).setCell ⟨w.heap.size + 3, 3, none⟩ (.int .i64 Pg)) = V := ⟨_, rfl⟩
            rw [hV] at HRV HBV
            (try rw [hV])
            have t0 : V.cell? ⟨w.heap.size + 1 + 1 + 1, 0, none⟩ = some (.int .i64 Px) := (blk_cell HRV 0).trans rfl
            have t1 : V.cell? ⟨w.heap.size + 1 + 1 + 1, 1, none⟩ = some (.int .i64 Py) := (blk_cell HRV 1).trans rfl
            have t2 : V.cell? ⟨w.heap.size + 1 + 1 + 1, 2, none⟩ = some (.int .i64 Pz) := (blk_cell HRV 2).trans rfl
            have t3 : V.cell? ⟨w.heap.size + 1 + 1 + 1, 3, none⟩ = some (.int .i64 Pg) := (blk_cell HRV 3).trans rfl
            clear sc0 sc1 sc2 sc3 sf0 sf1 sf2 sf3 R4 hHeld
            go_wp2
            (try rw [hV])
            exact bodyPost_ret (v := .tuple #[.int .i64 (k : Int), .agg #[.int .i64 Px, .int .i64 Py, .int .i64 Pz, .int .i64 Pg], .bool true]) (by simp [results, Try.results34, go_sem, t0, t1, t2, t3]) rfl ⟨by rw [HRES.out], HBV⟩
end Go.Proofs.Ytckdhahceelckaa.G
namespace Go.Proofs.Ytckdhahceelckaa.G
open Go.RowKit Go.Proofs.YtckdhahceelckaaW.PrintWords Go.Proofs.YtckdhahceelckaaW.PrintLast Go.Proofs.YtckdhahceelckaaW.PrintMore
attribute [local go_sem] max2_mx min2_mn max_two min_two max_three min_three max_four min_four
attribute [local go_sem high] eqA23 eqA40
set_option linter.unusedVariables false
set_option linter.unusedSimpArgs false
/-- a list of cores -/
def RdC (w : World) (A : Option Addr) (l : List Cr) : Prop := ∀ i c, l[i]? = some c → ∃ b o A0 A1 A2 n0 n1 n2 c0 c1 c2, A = some ⟨b, o, none⟩ ∧ b < w.heap.size ∧ w.cell? ⟨b, o + i * 4, none⟩ = some (.slice A0 n0 c0) ∧ w.cell? ⟨b, o + i * 4 + 1, none⟩ = some (.slice A1 n1 c1) ∧ w.cell? ⟨b, o + i * 4 + 2, none⟩ = some (.slice A2 n2 c2) ∧ w.cell? ⟨b, o + i * 4 + 3, none⟩ = some (.int .i64 c.r) ∧ CrV w (.agg #[.slice A0 n0 c0, .slice A1 n1 c1, .slice A2 n2 c2, .int .i64 c.r]) c
theorem RdC.below {w w1 : World} {A : Option Addr} {l : List Cr} (h : RdC w A l) (hb : Below w.heap.size w w1) : RdC w1 A l := fun i c hc => by
  obtain ⟨b, o, A0, A1, A2, n0, n1, n2, c0, c1, c2, e, hlt, h0, h1, h2, h3, h4⟩ := h i c hc
  exact ⟨b, o, A0, A1, A2, n0, n1, n2, c0, c1, c2, e, Nat.lt_of_lt_of_le hlt hb.size, (hb.cell (p := ⟨b, _, none⟩) hlt).trans h0, (hb.cell (p := ⟨b, _, none⟩) hlt).trans h1, (hb.cell (p := ⟨b, _, none⟩) hlt).trans h2, (hb.cell (p := ⟨b, _, none⟩) hlt).trans h3, h4.below hb⟩
theorem RdC.get {w : World} {A : Option Addr} {l : List Cr} (h : RdC w A l) (i : Nat) (hi : i < l.length) : ∃ b o A0 A1 A2 n0 n1 n2 c0 c1 c2, A = some ⟨b, o, none⟩ ∧ b < w.heap.size ∧ w.cell? ⟨b, o + i * 4, none⟩ = some (.slice A0 n0 c0) ∧ w.cell? ⟨b, o + i * 4 + 1, none⟩ = some (.slice A1 n1 c1) ∧ w.cell? ⟨b, o + i * 4 + 2, none⟩ = some (.slice A2 n2 c2) ∧ w.cell? ⟨b, o + i * 4 + 3, none⟩ = some (.int .i64 l[i].r) ∧ CrV w (.agg #[.slice A0 n0 c0, .slice A1 n1 c1, .slice A2 n2 c2, .int .i64 l[i].r]) l[i] := h i _ (List.getElem?_eq_getElem hi)
end Go.Proofs.Ytckdhahceelckaa.G
namespace Go.Proofs.Ytckdhahceelckaa.G
open Go.RowKit Go.Proofs.YtckdhahceelckaaW.PrintWords Go.Proofs.YtckdhahceelckaaW.PrintLast Go.Proofs.YtckdhahceelckaaW.PrintMore
attribute [local go_sem] max2_mx min2_mn max_two min_two max_three min_three max_four min_four
attribute [local go_sem high] eqA23 eqA40
set_option linter.unusedVariables false
set_option linter.unusedSimpArgs false
theorem RdC.nil (w : World) (A : Option Addr) : RdC w A [] := fun i c h => by simp at h
/-- a list of one core, built -/
theorem RdC_one {w : World} {g : Nat} {A0 A1 A2 : Option Addr} {n0 n1 n2 c0 c1 c2 : Nat} {r : Int} {c : Cr} {t : TypeId} (h : w.heap[g]? = some (.cells #[.slice A0 n0 c0, .slice A1 n1 c1, .slice A2 n2 c2, .int .i64 r] t (0, 0))) (hc : CrV w (.agg #[.slice A0 n0 c0, .slice A1 n1 c1, .slice A2 n2 c2, .int .i64 r]) c) (hr : c.r = r) : RdC w (some ⟨g, 0, none⟩) [c] := fun i d hd => by
  match i with
  | 0 =>
    simp at hd
    subst hd
    subst hr
    exact ⟨g, 0, A0, A1, A2, n0, n1, n2, c0, c1, c2, rfl, blk_lt h, (blk_cell h 0).trans rfl, (blk_cell h 1).trans rfl, (blk_cell h 2).trans rfl, (blk_cell h 3).trans rfl, hc⟩
  | i + 1 => simp at hd
end Go.Proofs.Ytckdhahceelckaa.G
namespace Go.Proofs.Ytckdhahceelckaa.G
open Go.RowKit Go.Proofs.YtckdhahceelckaaW.PrintWords Go.Proofs.YtckdhahceelckaaW.PrintLast Go.Proofs.YtckdhahceelckaaW.PrintMore
attribute [local go_sem] max2_mx min2_mn max_two min_two max_three min_three max_four min_four
attribute [local go_sem high] eqA23 eqA40
set_option linter.unusedVariables false
set_option linter.unusedSimpArgs false
/-- a core of a shape that may be, placed -/
structure GoodC (c : Cr) : Prop where
  may : c.may = true
  r0 : 1 ≤ c.r
  r1 : c.r ≤ 16384
  ways : Ways c.p c.a
  near : ∀ x ∈ c.p, in3 8388608 x
  p1 : c.p.length ≤ 12
  a1 : c.a.length ≤ 110
  e1 : c.e.length ≤ 66
theorem GoodC.mp {c : Cr} (h : GoodC c) : MayP c.p c.a c.e c.r := Cr.mayP h.may
/-- a core's first point, read -/
theorem CrV.first {w : World} {B0 : Option Addr} {n0 d0 : Nat} {x1 x2 x3 : Value} {c : Cr} (h : CrV w (.agg #[.slice B0 n0 d0, x1, x2, x3]) c) (hp : c.p ≠ []) : ∃ b o O, ∃ hO : c.p = O :: c.p.tail, B0 = some ⟨b, o, none⟩ ∧ b < w.heap.size ∧ w.cell? ⟨b, o, none⟩ = some (.int .i64 O.x) ∧ w.cell? ⟨b, o + 1, none⟩ = some (.int .i64 O.y) ∧ w.cell? ⟨b, o + 2, none⟩ = some (.int .i64 O.z) ∧ 0 < n0 := by
  obtain ⟨A0, A1, A2, c0, c1, c2, e, q, _⟩ := h.out
  obtain ⟨O, pr, hO⟩ := List.exists_cons_of_ne_nil hp
  rw [hO] at q
  obtain ⟨b, o, hA, lb, p0, p1, p2⟩ := q.1 0 O rfl
  simp only [Nat.zero_mul, Nat.add_zero] at p0 p1 p2
  injection e with e
  have e1 := congrArg (fun t : Array Value => t[0]?) e
  simp only [List.getElem?_toArray, List.getElem?_cons_zero, Option.some.injEq, Value.slice.injEq] at e1
  obtain ⟨e2, e3, _⟩ := e1
  refine ⟨b, o, O, by rw [hO]; rfl, by rw [e2, hA], lb, p0, p1, p2, ?_⟩
  rw [e3, hO]; simp
end Go.Proofs.Ytckdhahceelckaa.G
namespace Go.Proofs.Ytckdhahceelckaa.G
open Go.RowKit Go.Proofs.YtckdhahceelckaaW.PrintWords Go.Proofs.YtckdhahceelckaaW.PrintLast Go.Proofs.YtckdhahceelckaaW.PrintMore
attribute [local go_sem] max2_mx min2_mn max_two min_two max_three min_three max_four min_four
attribute [local go_sem high] eqA23 eqA40
set_option linter.unusedVariables false
set_option linter.unusedSimpArgs false
set_option maxHeartbeats 4000000 in
set_option maxRecDepth 100000 in
theorem rway_calls (y : P3) (w : World) : Calls Try.prog 80 #[aP y] w fun e w' => e = .returned (.bool (wayOk y)) ∧ Below w.heap.size w w' := by
  have HW := Lh (wayOk_iff y)
  obtain ⟨yx, yy, yz⟩ := y
  have HB := Lh ((Below.refl _ w).alloc (Nat.le_refl _) (.cells #[.int .i64 yx, .int .i64 yy, .int .i64 yz] 23))
  by_cases t0 : -4194304 ≤ yx
  · have e0 : decide (-4194304 ≤ yx) = true := decide_eq_true t0
    by_cases t1 : yx ≤ 4194304
    · have e1 : decide (yx ≤ 4194304) = true := decide_eq_true t1
      by_cases t2 : -4194304 ≤ yy
      · have e2 : decide (-4194304 ≤ yy) = true := decide_eq_true t2
        by_cases t3 : yy ≤ 4194304
        · have e3 : decide (yy ≤ 4194304) = true := decide_eq_true t3
          by_cases t4 : -4194304 ≤ yz
          · have e4 : decide (-4194304 ≤ yz) = true := decide_eq_true t4
            by_cases t5 : yz ≤ 4194304
            · have e5 : decide (yz ≤ 4194304) = true := decide_eq_true t5
              have HR : Hid (wayOk ⟨yx, yy, yz⟩ = true) := Lh (HW.out.2 (by unfold in3; simp only; omega))
              rw [HR.out]
              clear HW t0 t1 t2 t3 t4 t5 HR
              go_enter Try.func80, Try.ntmps80
              go_wp2
              go_ret
              exact ⟨rfl, HB.out⟩
            · have e5 : decide (yz ≤ 4194304) = false := decide_eq_false t5
              have HR : Hid (wayOk ⟨yx, yy, yz⟩ = false) := Lh (by
                cases h : wayOk ⟨yx, yy, yz⟩
                · rfl
                · have := HW.out.1 h
                  unfold in3 at this
                  simp only at this
                  omega)
              rw [HR.out]
              clear HW t0 t1 t2 t3 t4 t5 HR
              go_enter Try.func80, Try.ntmps80
              go_wp2
              go_ret
              exact ⟨rfl, HB.out⟩
          · have e4 : decide (-4194304 ≤ yz) = false := decide_eq_false t4
            have HR : Hid (wayOk ⟨yx, yy, yz⟩ = false) := Lh (by
              cases h : wayOk ⟨yx, yy, yz⟩
              · rfl
              · have := HW.out.1 h
                unfold in3 at this
                simp only at this
                omega)
            rw [HR.out]
            clear HW t0 t1 t2 t3 t4 HR
            go_enter Try.func80, Try.ntmps80
            go_wp2
            go_ret
            exact ⟨rfl, HB.out⟩
        · have e3 : decide (yy ≤ 4194304) = false := decide_eq_false t3
          have HR : Hid (wayOk ⟨yx, yy, yz⟩ = false) := Lh (by
            cases h : wayOk ⟨yx, yy, yz⟩
            · rfl
            · have := HW.out.1 h
              unfold in3 at this
              simp only at this
              omega)
          rw [HR.out]
          clear HW t0 t1 t2 t3 HR
          go_enter Try.func80, Try.ntmps80
          go_wp2
          go_ret
          exact ⟨rfl, HB.out⟩
      · have e2 : decide (-4194304 ≤ yy) = false := decide_eq_false t2
        have HR : Hid (wayOk ⟨yx, yy, yz⟩ = false) := Lh (by
          cases h : wayOk ⟨yx, yy, yz⟩
          · rfl
          · have := HW.out.1 h
            unfold in3 at this
            simp only at this
            omega)
        rw [HR.out]
        clear HW t0 t1 t2 HR
        go_enter Try.func80, Try.ntmps80
        go_wp2
        go_ret
        exact ⟨rfl, HB.out⟩
    · have e1 : decide (yx ≤ 4194304) = false := decide_eq_false t1
      have HR : Hid (wayOk ⟨yx, yy, yz⟩ = false) := Lh (by
        cases h : wayOk ⟨yx, yy, yz⟩
        · rfl
        · have := HW.out.1 h
          unfold in3 at this
          simp only at this
          omega)
      rw [HR.out]
      clear HW t0 t1 HR
      go_enter Try.func80, Try.ntmps80
      go_wp2
      go_ret
      exact ⟨rfl, HB.out⟩
  · have e0 : decide (-4194304 ≤ yx) = false := decide_eq_false t0
    have HR : Hid (wayOk ⟨yx, yy, yz⟩ = false) := Lh (by
      cases h : wayOk ⟨yx, yy, yz⟩
      · rfl
      · have := HW.out.1 h
        unfold in3 at this
        simp only at this
        omega)
    rw [HR.out]
    clear HW t0 HR
    go_enter Try.func80, Try.ntmps80
    go_wp2
    go_ret
    exact ⟨rfl, HB.out⟩
theorem take128 (l : List P3) (k : Nat) (h : k < l.length) : ((l.take (k + 1)).filter nz).take 128 = if nz l[k] = true ∧ (((l.take k).filter nz).take 128).length < 128 then ((l.take k).filter nz).take 128 ++ [l[k]] else ((l.take k).filter nz).take 128 := by
  rw [List.take_succ_eq_append_getElem h, List.filter_append]
  obtain ⟨F, hF⟩ : ∃ F, (l.take k).filter nz = F := ⟨_, rfl⟩
  obtain ⟨x, hx⟩ : ∃ x, l[k] = x := ⟨_, rfl⟩
  rw [hF, hx]
  by_cases hz : nz x = true
  · have e1 : [x].filter nz = [x] := by simp [hz]
    rw [e1]
    by_cases hl : F.length < 128
    · have e2 : (F ++ [x]).take 128 = F ++ [x] := List.take_of_length_le (by simp; omega)
      have e3 : F.take 128 = F := List.take_of_length_le (by omega)
      rw [e2, e3, if_pos ⟨hz, hl⟩]
    · have e2 : (F ++ [x]).take 128 = F.take 128 := List.take_append_of_le_length (by omega)
      rw [e2, if_neg (fun t => by have := t.2; rw [List.length_take] at this; omega)]
  · have e1 : [x].filter nz = [] := by simp [hz]
    rw [e1, List.append_nil, if_neg (fun t => hz t.1)]
set_option maxHeartbeats 8000000 in
set_option maxRecDepth 100000 in
theorem rwith_calls (l m : List P3) (n k : Nat) (A B : Option Addr) (c d : Nat) (w : World) (hn : l.length = n) (hk : m.length = k) (hA : Rd w A l) (hB : Rd w B m) (hn1 : n ≤ 10000) (hk1 : k ≤ 10000) :
    Calls Try.prog 83 #[.slice A n c, .slice B k d] w (PtsPostB (withF l m) w) := by
  have HA := Lh hA
  have HB := Lh hB
  have HN := Lh hn
  have HK := Lh hk
  have HLL : Hid ((l ++ m).length = n + k) := Lh (by rw [List.length_append, hn, hk])
  have HTK := Lh (fun i (h : i < (l ++ m).length) => take128 (l ++ m) i h)
  have htw : (l ++ m).take (n + k) = l ++ m := List.take_of_length_le (by rw [HLL.out]; exact Nat.le_refl _)
  have HWF : Hid (withF l m = ((((l ++ m).take (n + k)).filter nz).take 128)) := Lh (by rw [htw]; rfl)
  clear htw
  obtain ⟨L, hL⟩ : ∃ L, l ++ m = L := ⟨_, rfl⟩
  rw [hL] at HLL HTK HWF
  have HL := Lh hL
  rw [HWF.out]
  clear hn hk hA hB hL
  go_enter Try.func83, Try.ntmps83
  go_wp2_with (first
    | (at_builtin; refine appL_ w.heap.size rfl _ _ rfl (.slice none 0 0) [] l A _ _ rfl rfl (OwnP.nil _ _) HA.out HN.out (by simp; omega) (Nat.le_refl _) ?_; intro v2 w2 hv hg hat; have S2 := Lh ((CSt.start w).app hv hg hat); clear hv hg hat)
    | (at_builtin; refine appL_ w.heap.size rfl _ _ rfl v2 ([] ++ l) m B _ _ rfl rfl S2.out.own (HB.out.below S2.out.below) HK.out (by have := HN.out; simp; omega) S2.out.below.size ?_; intro v3 w3 hv hg hat; have S3 := Lh ((S2.out.app hv hg hat).len (show ([] ++ l) ++ m = L from HL.out)); clear hv hg hat))
  clear S2
  obtain ⟨A3, c3, rfl, hc3, R3, K3⟩ := S3.out.own.rdB2
  rw [HLL.out] at hc3 ⊢
  have R3 := Lh R3
  have HB3 := Lh S3.out.below
  clear S3 K3
  go_loopw [7, 6] (fun v7 v6 wr => ∃ i : Nat, i ≤ n + k ∧ v7 = .int .i64 i ∧ Hid (CSt w3 wr v6 (((L.take i).filter nz).take 128) [])) (fun i _ _ => (n + k) - (intOf i).toNat)
  case atStart => exact ⟨0, by omega, rfl, Lh ((CSt.start w3).len rfl)⟩
  case round =>
    obtain ⟨i, hi, rfl, hS⟩ := hrel
    obtain ⟨wq, hwq⟩ : ∃ x : World, x = wr := ⟨_, rfl⟩
    subst hwq
    by_cases hlt : i < n + k
    · have hil : i < L.length := by rw [HLL.out]; exact hlt
      obtain ⟨b, o, rfl, lb, e0, e1, e2⟩ := (R3.out.below hS.out.below).1.get i hil
      have HT := Lh (HTK.out i hil)
      obtain ⟨F, hF⟩ : ∃ F, ((L.take i).filter nz).take 128 = F := ⟨_, rfl⟩
      have hF128 : F.length ≤ 128 := by rw [← hF, List.length_take]; exact Nat.min_le_left _ _
      rw [hF] at HT hS
      obtain ⟨x, hx⟩ : ∃ x, L[i] = x := ⟨_, rfl⟩
      rw [hx] at e0 e1 e2 HT
      obtain ⟨px, py, pz⟩ := x
      simp only at e0 e1 e2
      have ti : (i : Int) < ((n + k : Nat) : Int) := by omega
      have hnz : nz ⟨px, py, pz⟩ = !eqP px py pz 0 0 0 := rfl
      rw [hnz] at HT
      obtain ⟨Av, cv, rfl, hcv, _, _⟩ := hS.out.own.rdB2
      obtain ⟨q, hq⟩ : ∃ q, F.length = q := ⟨_, rfl⟩
      rw [hq] at hS HT hF128 hcv ⊢
      have HQ := Lh hq
      clear hF hx hnz hq
      cases hz : eqP px py pz 0 0 0 with
      | true =>
        have HT := Lh (HT.out.trans (by rw [hz]; simp : _ = F))
        go_wp2
        go_roundw
        case rel => exact ⟨i + 1, by omega, by go_num, Lh (hS.out.len HT.out.symm)⟩
        case measure => simp [intOf]; omega
      | false =>
        by_cases tq : q < 128
        · have eq_ : decide ((q : Int) < 128) = true := decide_eq_true (by omega)
          have HT := Lh (HT.out.trans (by rw [hz]; simp [tq] : _ = F ++ [⟨px, py, pz⟩]))
          have hbA := (Below.refl _ wq).alloc (Nat.le_refl _) (.cells #[.int .i64 px, .int .i64 py, .int .i64 pz] 23)
          have hS9 := Lh (hS.out.grown hbA)
          have hR9 := (Rd_one (heap_alloc_new wq (.cells #[.int .i64 px, .int .i64 py, .int .i64 pz] 23))).1
          clear hbA
          go_wp2_with (at_builtin; refine appL_ w3.heap.size rfl _ _ rfl _ F [⟨px, py, pz⟩] _ _ _ rfl rfl hS9.out.own hR9 rfl (by rw [HQ.out]; simp; omega) hS9.out.below.size ?_; intro v2 w4 hv2 hg2 hat; have hS4 := Lh ((hS9.out.app hv2 hg2 hat).len HT.out.symm); clear hv2 hg2 hat)
          go_roundw
          case rel => exact ⟨i + 1, by omega, by go_num, hS4⟩
          case measure => simp [intOf]; omega
        · have eq_ : decide ((q : Int) < 128) = false := decide_eq_false (by omega)
          have HT := Lh (HT.out.trans (by rw [hz]; simp [tq] : _ = F))
          go_wp2
          go_roundw
          case rel => exact ⟨i + 1, by omega, by go_num, Lh (hS.out.len HT.out.symm)⟩
          case measure => simp [intOf]; omega
    · obtain rfl : n + k = i := by omega
      obtain ⟨Ar, cr, rfl, hcr, hRr, hKr⟩ := hS.out.own.rdB2
      have HRr := Lh hRr
      have WB := Lh (bthen HB3.out hS.out.below)
      have HKr := Lh (fun ad ea => Nat.le_trans HB3.out.size (hKr ad ea))
      clear hRr hKr hS
      go_wp2
      go_ret
      exact ⟨Ar, cr, rfl, hcr, HRr.out, WB.out, HKr.out⟩
end Go.Proofs.Ytckdhahceelckaa.G
