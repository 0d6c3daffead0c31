import Derived.Test.YtckdhahceelckaaXN19
namespace Go.Proofs.Ytckdhahceelckaa.G
open Go.RowKit Go.Proofs.YtckdhahceelckaaW.PrintWords Go.Proofs.YtckdhahceelckaaW.PrintLast Go.Proofs.YtckdhahceelckaaW.PrintMore
attribute [local go_sem] max2_mx min2_mn max_two min_two max_three min_three max_four min_four
attribute [local go_sem high] eqA23
set_option linter.unusedVariables false
set_option linter.unusedSimpArgs false

theorem ball_core (w : World) (g : Nat) (x y z r : Int) (c : Nat) (hc : 1 ≤ c) (h : w.heap[g]? = some (.cells #[.int .i64 x, .int .i64 y, .int .i64 z] 23 (0, 0))) : CoreV w (.agg #[.slice (some ⟨g, 0, none⟩) 1 c, .slice none 0 0, .slice none 0 0, .int .i64 r]) [⟨x, y, z⟩] [] [] r :=
  ⟨_, _, _, _, _, _, rfl, Rd_one h, RdB.nil _, RdB.nil _, hc, Nat.le_refl _, Nat.le_refl _⟩
theorem ball_may (x y z r : Int) (h : in3 16777216 ⟨x, y, z⟩) (h0 : 0 ≤ r) (h1 : r ≤ 65536) : MayP [⟨x, y, z⟩] [] [] r :=
  ⟨by simp, by simp, by simp, by simp, h0, h1, by simpa using (far3_iff _ _ (by decide) (by decide)).2 h, rfl, rfl⟩
theorem MaySays.zero (w : World) : MaySays w (.agg #[.slice none 0 0, .slice none 0 0, .slice none 0 0, .int .i64 0]) false := fun w' _ =>
  may_A [] [] [] 0 none none none 0 0 0 w' (Rd.nil _ _) (Rd.nil _ _) (Rd.nil _ _) (Nat.le_refl _) (Nat.le_refl _) (Nat.le_refl _) false false false rfl

theorem eqA40 (d : Nat) (w : World) (x y z g a b c h : Int) :
    (Op.equalIn (d + 3) 40 (.agg #[.int .i64 x, .int .i64 y, .int .i64 z, .int .i64 g]) (.agg #[.int .i64 a, .int .i64 b, .int .i64 c, .int .i64 h])).run Try.prog w = .ok (eqP x y z a b c && g == h) w := by
  refine eqA_of Try.underlying40 (by kernel_rfl) ?_
  refine eqf_cons (by rfl) (a := .agg #[.int .i64 x, .int .i64 y, .int .i64 z]) (b := .agg #[.int .i64 a, .int .i64 b, .int .i64 c]) (by go_simp) (by go_simp) (eqA23 _ _ _ _ _ _ _ _) ?_
  exact eqf_last (by rfl) (by go_simp; rfl) (by go_simp; rfl) (by go_simp)
attribute [local go_sem high] eqA40

set_option maxHeartbeats 4000000 in
theorem awake_calls (w : World) : Calls Try.prog 18 #[] w fun e w' => e = .returned (.bool true) ∧ Below w.heap.size w w' := by
  have H0 := heap_alloc_new w (.cells #[.int .i64 0, .int .i64 0, .int .i64 0] 23)
  go_enter Try.func18, Try.ntmps18
  go_wp2_with fail
  obtain ⟨w4, hw4⟩ : ∃ w4, ((((w.alloc (.cells #[.int .i64 0, .int .i64 0, .int .i64 0] 23)).alloc (.cells #[.slice (some ⟨w.heap.size, 0, none⟩) 1 1, .slice none 0 0, .slice none 0 0, .int .i64 2] 36)).alloc (.cells #[.int .i64 10, .int .i64 0, .int .i64 0] 23)).alloc (.cells #[.slice (some ⟨w.heap.size + 1 + 1, 0, none⟩) 1 1, .slice none 0 0, .slice none 0 0, .int .i64 3] 36)) = w4 := ⟨_, rfl⟩
  have I0 : w4.heap[w.heap.size]? = some (.cells #[.int .i64 0, .int .i64 0, .int .i64 0] 23 (0, 0)) := by rw [← hw4]; exact (Below.heap_alloc _ _ _ (by simp; omega)).trans (three0 _ _ _ _)
  have I1 : w4.heap[w.heap.size + 1]? = some (.cells #[.slice (some ⟨w.heap.size, 0, none⟩) 1 1, .slice none 0 0, .slice none 0 0, .int .i64 2] 36 (0, 0)) := by rw [← hw4]; exact (Below.heap_alloc _ _ _ (by simp)).trans (three1 _ _ _ _)
  have I2 : w4.heap[w.heap.size + 2]? = some (.cells #[.int .i64 10, .int .i64 0, .int .i64 0] 23 (0, 0)) := by rw [← hw4]; exact (Below.heap_alloc _ _ _ (by simp)).trans (three2 _ _ _ _)
  have IB : Below w.heap.size w w4 := by rw [← hw4]; exact (((((Below.refl _ w).alloc (Nat.le_refl _) _).alloc (by simp) _).alloc (by simp; omega) _).alloc (by simp; omega) _)
  rw [hw4]
  clear hw4 H0
  have cA := ball_core w4 w.heap.size 0 0 0 2 1 (Nat.le_refl _) I0
  have cB := ball_core w4 (w.heap.size + 2) 10 0 0 3 1 (Nat.le_refl _) I2
  have mA := ball_may 0 0 0 2 (by unfold in3; decide) (by decide) (by decide)
  have mB := ball_may 10 0 0 3 (by unfold in3; decide) (by decide) (by decide)
  refine (apart_calls _ _ _ _ _ _ _ _ _ _ w4 cA cB mA mB _ awake_apart).mono ?_
  rintro e w5 ⟨rfl, hb5⟩
  have cA5 := cA.below hb5
  have I15 := (hb5.block _ (blk_lt I1)).trans I1
  have IB5 := bthen IB hb5
  have x0 : w5.cell? ⟨w.heap.size + 1, 0, none⟩ = some (.slice (some ⟨w.heap.size, 0, none⟩) 1 1) := (blk_cell I15 0).trans rfl
  have x1 : w5.cell? ⟨w.heap.size + 1, 1, none⟩ = some (.slice none 0 0) := (blk_cell I15 1).trans rfl
  have x2 : w5.cell? ⟨w.heap.size + 1, 2, none⟩ = some (.slice none 0 0) := (blk_cell I15 2).trans rfl
  have x3 : w5.cell? ⟨w.heap.size + 1, 3, none⟩ = some (.int .i64 2) := (blk_cell I15 3).trans rfl
  have l5 := blk_lt I15
  clear cA cB mB I0 I1 I2 IB hb5 I15
  dsimp only
  go_wp2_with fail
  have cA6 := cA5.below ((Below.refl _ w5).alloc (Nat.le_refl _) (.cells #[.int .i64 1048576, .int .i64 0, .int .i64 0, .int .i64 5] 40))
  refine (apart_nob _ _ _ _ _ _ _ _ _ (MaySays.yes cA6 mA) (MaySays.zero _)).mono ?_
  rintro e w6 ⟨rfl, hb6⟩
  have J0 := (hb6.block _ (blk_lt (heap_alloc_new w5 (.cells #[.int .i64 1048576, .int .i64 0, .int .i64 0, .int .i64 5] 40)))).trans (heap_alloc_new w5 _)
  have IB6 := bthen (bthen IB5 ((Below.refl _ w5).alloc (Nat.le_refl _) (.cells #[.int .i64 1048576, .int .i64 0, .int .i64 0, .int .i64 5] 40))) hb6
  clear cA5 cA6 mA x0 x1 x2 x3 IB5 hb6
  go_wp2_with fail
  refine (sizes_calls _ _ _ _).mono ?_
  rintro e w7 ⟨rfl, hb7⟩
  rw [sz_one]
  dsimp only
  have J1 := (hb7.block _ (by have := blk_lt J0; simp; omega)).trans ((Below.heap_alloc _ _ _ (blk_lt J0)).trans J0)
  have IB7 := bthen (bthen IB6 ((Below.refl _ w6).alloc (Nat.le_refl _) _)) hb7
  have y0 : w7.cell? ⟨w5.heap.size, 0, none⟩ = some (.int .i64 1048576) := (blk_cell J1 0).trans rfl
  have y1 : w7.cell? ⟨w5.heap.size, 1, none⟩ = some (.int .i64 0) := (blk_cell J1 1).trans rfl
  have y2 : w7.cell? ⟨w5.heap.size, 2, none⟩ = some (.int .i64 0) := (blk_cell J1 2).trans rfl
  have y3 : w7.cell? ⟨w5.heap.size, 3, none⟩ = some (.int .i64 5) := (blk_cell J1 3).trans rfl
  have e0 : eqP 1048576 0 0 1048576 0 0 = true := by decide
  clear J0 IB6 hb7 J1 l5
  go_wp2
  go_ret
  exact ⟨by simp [eqP], IB7⟩
end Go.Proofs.Ytckdhahceelckaa.G
