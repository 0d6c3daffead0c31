import Derived.Test.YtckdhahceelckaaXN7
import Derived.Test.YtckdhahceelckaaXN1
import Derived.Outline
namespace Go.Proofs.Ytckdhahceelckaa.G
open Go.RowKit Go.Proofs.YtckdhahceelckaaW.PrintWords Go.Proofs.YtckdhahceelckaaW.PrintLast Go.Proofs.YtckdhahceelckaaW.PrintMore
attribute [local go_sem] max2_mx min2_mn max_two min_two max_three min_three max_four min_four
attribute [local go_sem high] eqA23
set_option linter.unusedVariables false
set_option linter.unusedSimpArgs false

theorem reachF_bd (n p0 : P3) (r : List P3) (M : Int) (h0 : -M ≤ dot3 n p0 ∧ dot3 n p0 ≤ M) (h : ∀ p ∈ r, -M ≤ dot3 n p ∧ dot3 n p ≤ M) : -M ≤ (reachF n p0 r).1 ∧ (reachF n p0 r).1 ≤ M ∧ -M ≤ (reachF n p0 r).2 ∧ (reachF n p0 r).2 ≤ M := by
  have gen : ∀ (l : List P3) (s : Int × Int), (∀ p ∈ l, -M ≤ dot3 n p ∧ dot3 n p ≤ M) → -M ≤ s.1 → s.1 ≤ M → -M ≤ s.2 → s.2 ≤ M → -M ≤ (l.foldl (rstep n) s).1 ∧ (l.foldl (rstep n) s).1 ≤ M ∧ -M ≤ (l.foldl (rstep n) s).2 ∧ (l.foldl (rstep n) s).2 ≤ M := by
    intro l
    induction l with
    | nil => intro s _ a b c d; exact ⟨a, b, c, d⟩
    | cons p l ih =>
      intro s hp a b c d
      have hp0 := hp p (by simp)
      obtain ⟨m1, m2, m3⟩ := mx_facts s.2 (dot3 n p)
      obtain ⟨k1, k2, k3⟩ := mn_facts s.1 (dot3 n p)
      rw [List.foldl_cons]
      exact ih _ (fun q hq => hp q (by simp [hq])) (by unfold rstep; simp only; omega) (by unfold rstep; simp only; omega) (by unfold rstep; simp only; omega) (by unfold rstep; simp only; omega)
  exact gen r _ h h0.1 h0.2 h0.1 h0.2
theorem fl3_pos (p : P3) (h : p ≠ ⟨0, 0, 0⟩) : 1 ≤ fl3 p := by
  have h1 : 1 ≤ dotI p p := by
    have a := sq_nonneg p.x
    have b := sq_nonneg p.y
    have c := sq_nonneg p.z
    have pos : ∀ x : Int, x ≠ 0 → 1 ≤ x * x := fun x hx => by
      rcases Int.lt_or_gt_of_ne hx with h | h
      · have := Int.mul_le_mul (show 1 ≤ -x by omega) (show 1 ≤ -x by omega) (by omega) (by omega); rw [Int.neg_mul_neg] at this; omega
      · have := Int.mul_le_mul (show 1 ≤ x by omega) (show 1 ≤ x by omega) (by omega) (by omega); omega
    unfold dotI
    by_cases hx : p.x = 0
    · by_cases hy : p.y = 0
      · have hz : p.z ≠ 0 := fun hz => h (by cases p; simp_all)
        have := pos _ hz; omega
      · have := pos _ hy; omega
    · have := pos _ hx; omega
  unfold fl3
  obtain ⟨_, h2⟩ := isq_spec (dotI p p).toNat
  rcases Nat.eq_zero_or_pos (isq (dotI p p).toNat) with h0 | h0
  · rw [h0] at h2; omega
  · omega
theorem fl3_le (p : P3) (h : in3 1048576 p) : fl3 p ≤ 16777216 := by
  have := dotI_bd p p 1048576 1048576 h h
  have h0 := dotI_self p
  obtain ⟨h1, _⟩ := isq_spec (dotI p p).toNat
  unfold fl3
  rcases Nat.lt_or_ge 16777216 (isq (dotI p p).toNat) with h3 | h3
  · have := Nat.mul_le_mul (show 16777216 ≤ isq (dotI p p).toNat by omega) (show 16777216 ≤ isq (dotI p p).toNat by omega); omega
  · omega
theorem ce3_bd (p : P3) : fl3 p ≤ ce3 p ∧ ce3 p ≤ fl3 p + 1 := by unfold ce3; split <;> omega

/-- the gaps of n and of the other way round -/
def gapsF (n a0 : P3) (ar : List P3) (ra : Int) (b0 : P3) (br : List P3) (rb : Int) : Int × Int :=
  (gapV ((reachF n b0 br).1 - (reachF n a0 ar).2) (ce3 n) (fl3 n) ra rb, gapV ((reachF n a0 ar).1 - (reachF n b0 br).2) (ce3 n) (fl3 n) ra rb)

set_option maxHeartbeats 2000000 in
set_option maxRecDepth 100000 in
theorem gaps_calls (a0 : P3) (ar : List P3) (b0 : P3) (br : List P3) (A0 A1 A2 B0 B1 B2 : Option Addr) (c0 n1 c1 n2 c2 d0 m1 d1 m2 d2 : Nat) (ra rb x y z : Int) (w : World)
    (hA : Rd w A0 (a0 :: ar)) (hB : Rd w B0 (b0 :: br)) (hc0 : ar.length + 1 ≤ c0) (hd0 : br.length + 1 ≤ d0) (hla : ar.length < 1000) (hlb : br.length < 1000)
    (hn : in3 1048576 ⟨x, y, z⟩) (hn0 : (⟨x, y, z⟩ : P3) ≠ ⟨0, 0, 0⟩) (hpa : ∀ p ∈ a0 :: ar, in3 16777216 p) (hpb : ∀ p ∈ b0 :: br, in3 16777216 p) (ha1 : 0 ≤ ra) (ha2 : ra ≤ 131072) (hb1 : 0 ≤ rb) (hb2 : rb ≤ 131072) :
    Calls Try.prog 60 #[.agg #[.slice A0 (ar.length + 1) c0, .slice A1 n1 c1, .slice A2 n2 c2, .int .i64 ra], .agg #[.slice B0 (br.length + 1) d0, .slice B1 m1 d1, .slice B2 m2 d2, .int .i64 rb], .agg #[.int .i64 x, .int .i64 y, .int .i64 z]] w
      fun e w' => e = .returned (.tuple #[.int .i64 (gapsF ⟨x, y, z⟩ a0 ar ra b0 br rb).1, .int .i64 (gapsF ⟨x, y, z⟩ a0 ar ra b0 br rb).2]) ∧ Below w.heap.size w w' := by
  have hdot : ∀ p, in3 16777216 p → -70368744177664 ≤ dot3 ⟨x, y, z⟩ p ∧ dot3 ⟨x, y, z⟩ p ≤ 70368744177664 := fun p hp => by
    have h1 := dot3_eq ⟨x, y, z⟩ p 1048576 16777216 hn hp (by decide)
    have h2 := dotI_bd ⟨x, y, z⟩ p 1048576 16777216 hn hp
    omega
  obtain ⟨u1, u2, u3, u4⟩ := reachF_bd ⟨x, y, z⟩ a0 ar 70368744177664 (hdot _ (hpa _ (by simp))) (fun p hp => hdot p (hpa p (by simp [hp])))
  obtain ⟨v1, v2, v3, v4⟩ := reachF_bd ⟨x, y, z⟩ b0 br 70368744177664 (hdot _ (hpb _ (by simp))) (fun p hp => hdot p (hpb p (by simp [hp])))
  have hs : sz3 ⟨x, y, z⟩ = (fl3 ⟨x, y, z⟩, ce3 ⟨x, y, z⟩) := by
    unfold sz3
    rw [(far3_iff 16777216 ⟨x, y, z⟩ (by decide) (by decide)).2 (by unfold in3 at *; simp only at *; omega)]; rfl
  have k1 := fl3_pos _ hn0
  have k2 := fl3_le _ hn
  obtain ⟨k3, k4⟩ := ce3_bd ⟨x, y, z⟩
  unfold gapsF
  obtain ⟨RA, hRA⟩ : ∃ R, reachF ⟨x, y, z⟩ a0 ar = R := ⟨_, rfl⟩
  obtain ⟨RB, hRB⟩ : ∃ R, reachF ⟨x, y, z⟩ b0 br = R := ⟨_, rfl⟩
  obtain ⟨fl, hfl⟩ : ∃ R, fl3 ⟨x, y, z⟩ = R := ⟨_, rfl⟩
  obtain ⟨ce, hce⟩ : ∃ R, ce3 ⟨x, y, z⟩ = R := ⟨_, rfl⟩
  rw [hRA] at u1 u2 u3 u4 ⊢
  rw [hRB] at v1 v2 v3 v4 ⊢
  rw [hfl] at k1 k2 k3 k4 hs ⊢
  rw [hce] at k3 k4 hs ⊢
  obtain ⟨la, ha⟩ := RA
  obtain ⟨lb, hb⟩ := RB
  dsimp only at u1 u2 u3 u4 v1 v2 v3 v4 ⊢
  have HRA := Lib.hid hRA
  have HRB := Lib.hid hRB
  have HS := Lib.hid hs
  have RA := Lib.hid hA
  have RB := Lib.hid hB
  clear hRA hRB hfl hce hs hA hB hdot hpa hpb hn hn0
  obtain ⟨ca, hca⟩ : ∃ ca : Array Value, #[.slice A0 (ar.length + 1) c0, .slice A1 n1 c1, .slice A2 n2 c2, .int .i64 ra] = ca := ⟨_, rfl⟩
  obtain ⟨cb, hcb⟩ : ∃ cb : Array Value, #[.slice B0 (br.length + 1) d0, .slice B1 m1 d1, .slice B2 m2 d2, .int .i64 rb] = cb := ⟨_, rfl⟩
  have G0 : Hid ((((w.alloc (.cells ca 36)).alloc (.cells cb 36)).alloc (.cells #[.int .i64 x, .int .i64 y, .int .i64 z] 23)).heap[w.heap.size]? = some (.cells ca 36 (0, 0))) := blk_alloc (blk_alloc (heap_alloc_new w _) _) _
  have G1 : Hid ((((w.alloc (.cells ca 36)).alloc (.cells cb 36)).alloc (.cells #[.int .i64 x, .int .i64 y, .int .i64 z] 23)).heap[w.heap.size + 1]? = some (.cells cb 36 (0, 0))) := blk_alloc (by simpa using heap_alloc_new (w.alloc (.cells ca 36)) (.cells cb 36)) _
  have G2 : Hid (C3 (((w.alloc (.cells ca 36)).alloc (.cells cb 36)).alloc (.cells #[.int .i64 x, .int .i64 y, .int .i64 z] 23)) (w.heap.size + 2) (.int .i64 x) (.int .i64 y) (.int .i64 z)) := by
    have := C3.new ((w.alloc (.cells ca 36)).alloc (.cells cb 36)) (.int .i64 x) (.int .i64 y) (.int .i64 z) 23
    simp only [World.size_alloc] at this
    exact this
  rw [← hca, ← hcb] at G0 G1 G2
  clear hca hcb ca cb
  go_enter Try.func60, Try.ntmps60
  go_wp2_with fail
  refine (reach_calls a0 ar _ _ _ _ _ _ (((RA.out.alloc _).alloc _).alloc _) hc0 (by omega)).mono ?_
  rintro e w1 ⟨rfl, hb1⟩
  rw [HRA.out]
  have g0 := Lib.hid (blk_below G0.out hb1)
  have g1 := Lib.hid (blk_below G1.out hb1)
  have g2 := Lib.hid (G2.out.below hb1)
  have a1 : w1.cell? ⟨w.heap.size + 1, 0, none⟩ = some (.slice B0 (br.length + 1) d0) := (blk_cell g1.out 0).trans rfl
  obtain ⟨c0, c1, c2, _, _, _⟩ := id g2.out
  have hB1 : Hid (Below w.heap.size w w1) := ((((Below.refl _ w).alloc (Nat.le_refl _) _).alloc (by simp) _).alloc (by simp; omega) _).trans (hb1.mono (by simp; omega))
  clear G0 G1 G2 hb1
  go_wp2_with fail
  refine (reach_calls b0 br _ _ _ _ _ _ (RB.out.below hB1.out) hd0 (by omega)).mono ?_
  rintro e w2 ⟨rfl, hb2⟩
  rw [HRB.out]
  have G0 := Lib.hid (blk_below g0.out hb2)
  have G1 := Lib.hid (blk_below g1.out hb2)
  have G2 := Lib.hid (g2.out.below hb2)
  have hB2 : Hid (Below w.heap.size w w2) := bthen hB1.out hb2
  clear c0 c1 c2 a1 g0 g1 g2 hb2 hB1
  obtain ⟨c0, c1, c2, _, _, _⟩ := id G2.out
  go_wp2_with fail
  refine (sizes_calls _ _ _ _).mono ?_
  rintro e w3 ⟨rfl, hb3⟩
  rw [HS.out]
  have g0 := blk_below G0.out hb3
  have g1 := blk_below G1.out hb3
  have a2 : w3.cell? ⟨w.heap.size, 3, none⟩ = some (.int .i64 ra) := (blk_cell g0 3).trans rfl
  have a3 : w3.cell? ⟨w.heap.size + 1, 3, none⟩ = some (.int .i64 rb) := (blk_cell g1 3).trans rfl
  have z1 := blk_lt g0
  have z2 := blk_lt g1
  have hB3 : Hid (Below w.heap.size w w3) := bthen hB2.out hb3
  clear c0 c1 c2 g0 g1 G0 G1 G2 hb3 hB2
  have z3 : w.heap.size ≠ w3.heap.size := by omega
  have z4 : w.heap.size + 1 ≠ w3.heap.size := by omega
  have z5 : w.heap.size ≠ w3.heap.size + 1 := by omega
  have z6 : w.heap.size + 1 ≠ w3.heap.size + 1 := by omega
  go_wp2_with fail
  have b1 : ((w3.alloc (.cells #[.int .i64 fl] 3)).alloc (.cells #[.int .i64 ce] 3)).cell? ⟨w3.heap.size + 1, 0, none⟩ = some (.int .i64 ce) := by simp
  have b2 : ((w3.alloc (.cells #[.int .i64 fl] 3)).alloc (.cells #[.int .i64 ce] 3)).cell? ⟨w.heap.size, 3, none⟩ = some (.int .i64 ra) := by
    rw [World.cell?_alloc_lt _ _ _ (by simp; omega), World.cell?_alloc_lt _ _ _ (by omega)]; exact a2
  have b3 : ((w3.alloc (.cells #[.int .i64 fl] 3)).alloc (.cells #[.int .i64 ce] 3)).cell? ⟨w.heap.size + 1, 3, none⟩ = some (.int .i64 rb) := by
    rw [World.cell?_alloc_lt _ _ _ (by simp; omega), World.cell?_alloc_lt _ _ _ (by omega)]; exact a3
  have b4 : ((w3.alloc (.cells #[.int .i64 fl] 3)).alloc (.cells #[.int .i64 ce] 3)).cell? ⟨w3.heap.size, 0, none⟩ = some (.int .i64 fl) := by
    rw [World.cell?_alloc_lt _ _ _ (by simp)]; simp
  have hB4 : Hid (Below w.heap.size w ((w3.alloc (.cells #[.int .i64 fl] 3)).alloc (.cells #[.int .i64 ce] 3))) := (hB3.out.alloc hB3.out.size _).alloc (by have := hB3.out.size; simp; omega) _
  clear a2 a3 z1 z2 z3 z4 z5 z6 hB3
  generalize (w3.alloc (.cells #[.int .i64 fl] 3)).alloc (.cells #[.int .i64 ce] 3) = w4 at b1 b2 b3 b4 hB4 ⊢
  refine (gap1_calls _ ce fl ra rb _ _ _ _ _ b1 b2 b3 b4 (by omega) (by omega) (by omega) (by omega) (by omega) (by omega) ha1 ha2 hb1 hb2).mono ?_
  rintro e w5 ⟨rfl, hb5⟩
  obtain ⟨hc5, _⟩ := bcell hb5
  have d1 := (hc5 _ _ (World.block_lt_of_cell? w4 _ b1)).trans b1
  have d2 := (hc5 _ _ (World.block_lt_of_cell? w4 _ b2)).trans b2
  have d3 := (hc5 _ _ (World.block_lt_of_cell? w4 _ b3)).trans b3
  have d4 := (hc5 _ _ (World.block_lt_of_cell? w4 _ b4)).trans b4
  have hB5 : Hid (Below w.heap.size w w5) := bthen hB4.out hb5
  clear hc5 b1 b2 b3 b4 hb5 hB4
  go_wp2_with fail
  refine (gap1_calls _ ce fl ra rb _ _ _ _ _ d1 d2 d3 d4 (by omega) (by omega) (by omega) (by omega) (by omega) (by omega) ha1 ha2 hb1 hb2).mono ?_
  rintro e w6 ⟨rfl, hb6⟩
  have hB6 : Hid (Below w.heap.size w w6) := bthen hB5.out hb6
  go_wp2
  go_ret2
  exact ⟨rfl, hB6.out⟩
end Go.Proofs.Ytckdhahceelckaa.G
