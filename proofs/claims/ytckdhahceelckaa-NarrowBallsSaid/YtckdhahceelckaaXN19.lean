import Derived.Test.YtckdhahceelckaaXN18
namespace Go.Proofs.Ytckdhahceelckaa.G
open Go.RowKit Go.Proofs.YtckdhahceelckaaW.PrintWords Go.Proofs.YtckdhahceelckaaW.PrintLast Go.Proofs.YtckdhahceelckaaW.PrintMore
attribute [local go_sem] max2_mx min2_mn max_two min_two max_three min_three max_four min_four
attribute [local go_sem high] eqA23
set_option linter.unusedVariables false
set_option linter.unusedSimpArgs false

/-- may's answer in every later world -/
def MaySays (w : World) (v : Value) (b : Bool) : Prop := ∀ w', Below w.heap.size w w' → Calls Try.prog 57 #[v] w' fun e w'' => e = .returned (.bool b) ∧ Below w'.heap.size w' w''
theorem MaySays.yes {w : World} {v : Value} {p a e : List P3} {r : Int} (h : CoreV w v p a e r) (m : MayP p a e r) : MaySays w v true := fun w' hb => by
  obtain ⟨A0, A1, A2, c0, c1, c2, rfl, h0, h1, h2, h3, h4, h5⟩ := (h.below hb).out
  exact may_yes p a e r A0 A1 A2 c0 c1 c2 w' h0.1 h1.1 h2.1 h3 h4 h5 false false false (List.length_pos_iff.2 m.p0) m.p1 m.a1 m.e1 m.r0 m.r1 m.pf m.af m.ef
set_option maxHeartbeats 2000000 in
theorem apart_nob (v0 v1 v2 v3 u0 u1 u2 u3 : Value) (w : World) (ha : MaySays w (.agg #[v0, v1, v2, v3]) true) (hb : MaySays w (.agg #[u0, u1, u2, u3]) false) :
    Calls Try.prog 20 #[.agg #[v0, v1, v2, v3], .agg #[u0, u1, u2, u3]] w fun e w' => e = .returned (.tuple #[.agg #[.int .i64 0, .int .i64 0, .int .i64 0, .int .i64 0], .bool false]) ∧ Below w.heap.size w w' := by
  have HA := Lib.hid ha
  have HB := Lib.hid hb
  clear ha hb
  have Hb0 := three1 w (.cells #[v0, v1, v2, v3] 36) (.cells #[u0, u1, u2, u3] 36) (.cells #[.int .i64 0, .int .i64 0, .int .i64 0, .int .i64 0] 40)
  have Hr0 := three2 w (.cells #[v0, v1, v2, v3] 36) (.cells #[u0, u1, u2, u3] 36) (.cells #[.int .i64 0, .int .i64 0, .int .i64 0, .int .i64 0] 40)
  have HW3 : Below w.heap.size w (((w.alloc (.cells #[v0, v1, v2, v3] 36)).alloc (.cells #[u0, u1, u2, u3] 36)).alloc (.cells #[.int .i64 0, .int .i64 0, .int .i64 0, .int .i64 0] 40)) := (((Below.refl _ w).alloc (Nat.le_refl _) _).alloc (by simp) _).alloc (by simp; omega) _
  have HB0 := Lib.hid Hb0
  have HR0 := Lib.hid Hr0
  clear Hb0 Hr0
  go_enter Try.func20, Try.ntmps20
  go_wp2_with fail
  obtain ⟨w3, hw3⟩ : ∃ w3, ((w.alloc (.cells #[v0, v1, v2, v3] 36)).alloc (.cells #[u0, u1, u2, u3] 36)).alloc (.cells #[.int .i64 0, .int .i64 0, .int .i64 0, .int .i64 0] 40) = w3 := ⟨_, rfl⟩
  rw [hw3] at HB0 HR0 HW3 ⊢
  clear hw3
  refine (HA.out _ HW3).mono ?_
  rintro e w4 ⟨rfl, hb4⟩
  have Hb4 := (hb4.block _ (blk_lt HB0.out)).trans HB0.out
  have Hr4 := (hb4.block _ (blk_lt HR0.out)).trans HR0.out
  have HW4 := bthen HW3 hb4
  clear HB0 HR0 HW3 hb4
  have x0 : w4.cell? ⟨w.heap.size + 1, 0, none⟩ = some u0 := (blk_cell Hb4 0).trans rfl
  have x1 : w4.cell? ⟨w.heap.size + 1, 1, none⟩ = some u1 := (blk_cell Hb4 1).trans rfl
  have x2 : w4.cell? ⟨w.heap.size + 1, 2, none⟩ = some u2 := (blk_cell Hb4 2).trans rfl
  have x3 : w4.cell? ⟨w.heap.size + 1, 3, none⟩ = some u3 := (blk_cell Hb4 3).trans rfl
  go_wp2_with fail
  refine (HB.out _ HW4).mono ?_
  rintro e w5 ⟨rfl, hb5⟩
  have Hr5 := (hb5.block _ (blk_lt Hr4)).trans Hr4
  have HW5 := bthen HW4 hb5
  clear Hb4 Hr4 HW4 hb5 x0 x1 x2 x3
  have v0 : w5.cell? ⟨w.heap.size + 1 + 1, 0, none⟩ = some (.int .i64 0) := (blk_cell Hr5 0).trans rfl
  have v1 : w5.cell? ⟨w.heap.size + 1 + 1, 1, none⟩ = some (.int .i64 0) := (blk_cell Hr5 1).trans rfl
  have v2 : w5.cell? ⟨w.heap.size + 1 + 1, 2, none⟩ = some (.int .i64 0) := (blk_cell Hr5 2).trans rfl
  have v3 : w5.cell? ⟨w.heap.size + 1 + 1, 3, none⟩ = some (.int .i64 0) := (blk_cell Hr5 3).trans rfl
  have f0 : w5.frozen? ⟨w.heap.size + 1 + 1, 0, none⟩ = false := blk_frozen Hr5 0
  have f1 : w5.frozen? ⟨w.heap.size + 1 + 1, 1, none⟩ = false := blk_frozen Hr5 1
  have f2 : w5.frozen? ⟨w.heap.size + 1 + 1, 2, none⟩ = false := blk_frozen Hr5 2
  have f3 : w5.frozen? ⟨w.heap.size + 1 + 1, 3, none⟩ = false := blk_frozen Hr5 3
  obtain ⟨V, hV⟩ : ∃ V, set4 w5 (w.heap.size + 1 + 1) (.int .i64 0) (.int .i64 0) (.int .i64 0) (.int .i64 0) = V := ⟨_, rfl⟩
  have HV : V.heap[w.heap.size + 1 + 1]? = some (.cells #[.int .i64 0, .int .i64 0, .int .i64 0, .int .i64 0] 40 (0, 0)) := by rw [← hV]; exact blk4_set Hr5 _ _ _ _
  have HBV : Below w.heap.size w V := by rw [← hV]; exact below_set4 HW5 (by omega) _ _ _ _
  have t0 : V.cell? ⟨w.heap.size + 1 + 1, 0, none⟩ = some (.int .i64 0) := (blk_cell HV 0).trans rfl
  have t1 : V.cell? ⟨w.heap.size + 1 + 1, 1, none⟩ = some (.int .i64 0) := (blk_cell HV 1).trans rfl
  have t2 : V.cell? ⟨w.heap.size + 1 + 1, 2, none⟩ = some (.int .i64 0) := (blk_cell HV 2).trans rfl
  have t3 : V.cell? ⟨w.heap.size + 1 + 1, 3, none⟩ = some (.int .i64 0) := (blk_cell HV 3).trans rfl
  go_wp2
  (try rw [hV])
  exact bodyPost_ret (v := .tuple #[.agg #[.int .i64 0, .int .i64 0, .int .i64 0, .int .i64 0], .bool false]) (by simp [results, Try.results20, go_sem, t0, t1, t2, t3]) rfl ⟨rfl, HBV⟩
end Go.Proofs.Ytckdhahceelckaa.G
