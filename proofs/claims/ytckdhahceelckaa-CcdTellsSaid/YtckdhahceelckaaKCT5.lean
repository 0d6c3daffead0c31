/- What the laws of this claim lean on: contracts of the functions that they reach, and plain lemmas; no condition of its own (part 5 of 6; the texts XC8, XV26). -/
import Derived.Test.YtckdhahceelckaaKCT4
namespace Go.Proofs.Ytckdhahceelckaa.G
open Go.RowKit Go.Proofs.YtckdhahceelckaaW.PrintWords Go.Proofs.YtckdhahceelckaaW.PrintLast Go.Proofs.YtckdhahceelckaaW.PrintMore
attribute [local go_sem] max2_mx min2_mn max_two min_two max_three min_three max_four min_four
attribute [local go_sem high] eqA23 eqA40
set_option linter.unusedVariables false
set_option linter.unusedSimpArgs false
theorem down_facts (n : Int) : (n.tmod 1048576 < 0 → n.tdiv 1048576 - 1 = gr n) ∧ (¬ n.tmod 1048576 < 0 → n.tdiv 1048576 = gr n) := by
  unfold gr
  rcases Int.le_total 0 n with h | h
  · rw [Int.tdiv_eq_ediv_of_nonneg h, Int.tmod_eq_emod_of_nonneg h]; omega
  · have e1 := Int.neg_tdiv n 1048576
    have e2 := Int.tdiv_eq_ediv_of_nonneg (show 0 ≤ -n by omega) (b := 1048576)
    have e3 := Int.neg_tmod n 1048576
    have e4 := Int.tmod_eq_emod_of_nonneg (show 0 ≤ -n by omega) (b := 1048576)
    omega
set_option maxHeartbeats 1000000 in
theorem gdown_calls (n : Int) (h1 : -9223372036854775808 ≤ n) (h2 : n ≤ 9223372036854775808) (w : World) : Calls Try.prog 173 #[.int .i64 n] w fun e w' => e = .returned (.int .i64 (gr n)) ∧ w' = w := by
  obtain ⟨f1, f2⟩ := down_facts n
  have f3 : -9000000000000 ≤ n.tdiv 1048576 ∧ n.tdiv 1048576 ≤ 9000000000000 := by
    rcases Int.le_total 0 n with h | h
    · rw [Int.tdiv_eq_ediv_of_nonneg h]; omega
    · have e1 := Int.neg_tdiv n 1048576
      have e2 := Int.tdiv_eq_ediv_of_nonneg (show 0 ≤ -n by omega) (b := 1048576)
      omega
  obtain ⟨Q, hQ⟩ : ∃ Q, n.tdiv 1048576 = Q := ⟨_, rfl⟩
  have e1 := Lh (show wrap64 Q = Q from w64_id Q (by omega) (by omega))
  have e2 := Lh (show wrap64 (Q - 1) = Q - 1 from w64_id (Q - 1) (by omega) (by omega))
  rw [hQ] at f1 f2
  have HQ := Lh hQ
  clear h1 h2 f3 hQ
  by_cases t : n.tmod 1048576 < 0
  · have dt : decide (n.tmod 1048576 < 0) = true := decide_eq_true t
    have HF := Lh (f1 t)
    clear f1 f2 t
    go_enter Try.func173, Try.ntmps173
    go_wp2
    rw [HQ.out, e1.out, e2.out, HF.out]
    go_ret
    exact ⟨rfl, rfl⟩
  · have dt : decide (n.tmod 1048576 < 0) = false := decide_eq_false t
    have HF := Lh (f2 t)
    clear f1 f2 t
    go_enter Try.func173, Try.ntmps173
    go_wp2
    rw [HQ.out, e1.out, HF.out]
    go_ret
    exact ⟨rfl, rfl⟩
set_option maxHeartbeats 2000000 in
set_option maxRecDepth 100000 in
theorem rgrains_calls (v : P3) (hv : in3 9223372036854775808 v) (w : World) : Calls Try.prog 147 #[aP v] w fun e w' => e = .returned (aP (grP v)) ∧ Below w.heap.size w w' := by
  obtain ⟨vx, vy, vz⟩ := v
  have HX := Lh (fun W => gdown_calls vx hv.1 hv.2.1 W)
  have HY := Lh (fun W => gdown_calls vy hv.2.2.1 hv.2.2.2.1 W)
  have HZ := Lh (fun W => gdown_calls vz hv.2.2.2.2.1 hv.2.2.2.2.2 W)
  have HG : Hid (grP ⟨vx, vy, vz⟩ = ⟨gr vx, gr vy, gr vz⟩) := Lh rfl
  obtain ⟨px, hpx⟩ : ∃ x, gr vx = x := ⟨_, rfl⟩
  obtain ⟨py, hpy⟩ : ∃ x, gr vy = x := ⟨_, rfl⟩
  obtain ⟨pz, hpz⟩ : ∃ x, gr vz = x := ⟨_, rfl⟩
  rw [hpx] at HX
  rw [hpy] at HY
  rw [hpz] at HZ
  rw [hpx, hpy, hpz] at HG
  clear hpx hpy hpz hv
  have W := Lh (Below.refl w.heap.size w)
  go_enter Try.func147, Try.ntmps147
  go_upto_region 1 with fail
  have bz := (((Below.refl w.heap.size w).alloc (Nat.le_refl _) (.cells #[.int .i64 vx, .int .i64 vy, .int .i64 vz] 27)).alloc (by simp) (.cells #[.int .i64 0, .int .i64 0, .int .i64 0] 23))
  have nz0 := heap_alloc_new w (.cells #[.int .i64 vx, .int .i64 vy, .int .i64 vz] 27)
  replace nz0 := (Below.heap_alloc _ (.cells #[.int .i64 0, .int .i64 0, .int .i64 0] 23) _ (by simp <;> omega)).trans nz0
  have nz1 := heap_alloc_new (w.alloc (.cells #[.int .i64 vx, .int .i64 vy, .int .i64 vz] 27)) (.cells #[.int .i64 0, .int .i64 0, .int .i64 0] 23)
  simp only [World.size_alloc] at nz1
  obtain ⟨w1, hwz⟩ : ∃ V, ((w.alloc (.cells #[.int .i64 vx, .int .i64 vy, .int .i64 vz] 27)).alloc (.cells #[.int .i64 0, .int .i64 0, .int .i64 0] 23)) = V := ⟨_, rfl⟩
  rw [hwz] at bz nz0 nz1 ⊢
  replace W := Lh (bthen W.out bz)
  have F := Lh nz0
  have R := Lh nz1
  clear hwz bz nz0 nz1
  have x0 : w1.cell? ⟨w.heap.size, 0, none⟩ = some (.int .i64 vx) := (blk_cell F.out 0).trans rfl
  have x1 : w1.cell? ⟨w.heap.size, 1, none⟩ = some (.int .i64 vy) := (blk_cell F.out 1).trans rfl
  have x2 : w1.cell? ⟨w.heap.size, 2, none⟩ = some (.int .i64 vz) := (blk_cell F.out 2).trans rfl
  have xl : w.heap.size < w1.heap.size := blk_lt F.out
  have HB := Lh ((Below.refl (w1.heap.size) w1).drew)
  refine start_ (n := 11) (S := fun w' => w'.cell? ⟨w.heap.size, 0, none⟩ = some (.int .i64 vx) ∧ w'.cell? ⟨w.heap.size, 1, none⟩ = some (.int .i64 vy) ∧ w'.cell? ⟨w.heap.size, 2, none⟩ = some (.int .i64 vz)) (ds := []) #[false, false, false, false, false, false, false, false, false, false, false] (by kernel_rfl) rfl rfl ⟨(HB.out.cell (p := ⟨w.heap.size, 0, none⟩) (xl)).trans x0, (HB.out.cell (p := ⟨w.heap.size, 1, none⟩) (xl)).trans x1, (HB.out.cell (p := ⟨w.heap.size, 2, none⟩) (xl)).trans x2⟩ (fun hHeld => ?_)
  obtain ⟨wd, hwd⟩ : ∃ x, w1.drew = x := ⟨_, rfl⟩
  rw [hwd] at HB hHeld ⊢
  clear hwd
  refine pure_ (i := 0) (N := some 3) (v := ?_) (a' := ?_) #[true, false, false, false, false, false, false, false, false, false, false] rfl rfl (by kernel_rfl) (fun _ _ _ h => h) (Or.inl ⟨by rfl, ?_⟩) ?_ ?_
  rotate_left
  · intro w'
    go_simp
    with_reducible rfl
  rotate_left
  · simp only [Act.put, List.setIfInBounds_toArray, List.set_cons_zero, List.set_cons_succ, i64_w, i32_w]
    rfl
  refine pure_ (i := 3) (N := some 6) (v := ?_) (a' := ?_) #[true, false, false, true, false, false, false, false, false, false, false] rfl rfl (by kernel_rfl) (fun _ _ _ h => h) (Or.inl ⟨by rfl, ?_⟩) ?_ ?_
  rotate_left
  · intro w'
    go_simp
    with_reducible rfl
  rotate_left
  · simp only [Act.put, List.setIfInBounds_toArray, List.set_cons_zero, List.set_cons_succ, i64_w, i32_w]
    rfl
  refine pure_ (i := 6) (N := some 9) (v := ?_) (a' := ?_) #[true, false, false, true, false, false, true, false, false, false, false] rfl rfl (by kernel_rfl) (fun _ _ _ h => h) (Or.inl ⟨by rfl, ?_⟩) ?_ ?_
  rotate_left
  · intro w'
    go_simp
    with_reducible rfl
  rotate_left
  · simp only [Act.put, List.setIfInBounds_toArray, List.set_cons_zero, List.set_cons_succ, i64_w, i32_w]
    rfl
  refine take_ (i := 1) (N := some 4) (v := ?_) (a' := ?_) #[true, true, false, true, false, false, true, false, false, false, false] rfl rfl (by kernel_rfl) (fun _ _ _ h => h) (Or.inl ⟨by rfl, ?_⟩) hHeld ?_ ?_
  rotate_left
  · rintro w' ⟨s0, s1, s2⟩
    go_simp
    with_reducible rfl
  rotate_left
  · simp only [Act.put, List.setIfInBounds_toArray, List.set_cons_zero, List.set_cons_succ, i64_w, i32_w]
    rfl
  refine take_ (i := 4) (N := some 7) (v := ?_) (a' := ?_) #[true, true, false, true, true, false, true, false, false, false, false] rfl rfl (by kernel_rfl) (fun _ _ _ h => h) (Or.inl ⟨by rfl, ?_⟩) hHeld ?_ ?_
  rotate_left
  · rintro w' ⟨s0, s1, s2⟩
    go_simp
    with_reducible rfl
  rotate_left
  · simp only [Act.put, List.setIfInBounds_toArray, List.set_cons_zero, List.set_cons_succ, i64_w, i32_w]
    rfl
  refine take_ (i := 7) (N := some 10) (v := ?_) (a' := ?_) #[true, true, false, true, true, false, true, true, false, false, false] rfl rfl (by kernel_rfl) (fun _ _ _ h => h) (Or.inl ⟨by rfl, ?_⟩) hHeld ?_ ?_
  rotate_left
  · rintro w' ⟨s0, s1, s2⟩
    go_simp
    with_reducible rfl
  rotate_left
  · simp only [Act.put, List.setIfInBounds_toArray, List.set_cons_zero, List.set_cons_succ, i64_w, i32_w]
    rfl
  refine one_ (i := 2) (N := some 5) #[true, true, true, true, true, false, true, true, false, false, false] rfl rfl (by kernel_rfl) (by decide) (fun K hK => ?_)
  refine gs_ Try.func173 #[.int .i64 vx] ?_
  with_reducible refine (HX.out _).mono ?_
  rintro en wz ⟨rfl, rfl⟩
  refine ⟨_, rfl, ?_⟩
  refine hK.out _ _ ⟨(HB.out.cell (p := ⟨w.heap.size, 0, none⟩) (xl)).trans x0, (HB.out.cell (p := ⟨w.heap.size, 1, none⟩) (xl)).trans x1, (HB.out.cell (p := ⟨w.heap.size, 2, none⟩) (xl)).trans x2⟩ (fun hHeld => ?_)
  clear hK K
  refine norm_ (a' := ?_) ?_ ?_
  rotate_left
  · show Act.put _ (some 5) _ = _
    simp only [Act.put, List.setIfInBounds_toArray, List.set_cons_zero, List.set_cons_succ, i64_w, i32_w]
    rfl
  refine one_ (i := 5) (N := some 8) #[true, true, true, true, true, true, true, true, false, false, false] rfl rfl (by kernel_rfl) (by decide) (fun K hK => ?_)
  refine gs_ Try.func173 #[.int .i64 vy] ?_
  with_reducible refine (HY.out _).mono ?_
  rintro en wz ⟨rfl, rfl⟩
  refine ⟨_, rfl, ?_⟩
  refine hK.out _ _ ⟨(HB.out.cell (p := ⟨w.heap.size, 0, none⟩) (xl)).trans x0, (HB.out.cell (p := ⟨w.heap.size, 1, none⟩) (xl)).trans x1, (HB.out.cell (p := ⟨w.heap.size, 2, none⟩) (xl)).trans x2⟩ (fun hHeld => ?_)
  clear hK K
  refine norm_ (a' := ?_) ?_ ?_
  rotate_left
  · show Act.put _ (some 8) _ = _
    simp only [Act.put, List.setIfInBounds_toArray, List.set_cons_zero, List.set_cons_succ, i64_w, i32_w]
    rfl
  refine one_ (i := 8) (N := some 11) #[true, true, true, true, true, true, true, true, true, false, false] rfl rfl (by kernel_rfl) (by decide) (fun K hK => ?_)
  refine gs_ Try.func173 #[.int .i64 vz] ?_
  with_reducible refine (HZ.out _).mono ?_
  rintro en wz ⟨rfl, rfl⟩
  refine ⟨_, rfl, ?_⟩
  refine hK.out _ _ ⟨(HB.out.cell (p := ⟨w.heap.size, 0, none⟩) (xl)).trans x0, (HB.out.cell (p := ⟨w.heap.size, 1, none⟩) (xl)).trans x1, (HB.out.cell (p := ⟨w.heap.size, 2, none⟩) (xl)).trans x2⟩ (fun hHeld => ?_)
  clear hK K
  refine norm_ (a' := ?_) ?_ ?_
  rotate_left
  · show Act.put _ (some 11) _ = _
    simp only [Act.put, List.setIfInBounds_toArray, List.set_cons_zero, List.set_cons_succ, i64_w, i32_w]
    rfl
  refine pure_ (i := 9) (N := some 12) (v := ?_) (a' := ?_) #[true, true, true, true, true, true, true, true, true, true, false] rfl rfl (by kernel_rfl) (fun _ _ _ h => h) (Or.inl ⟨by rfl, ?_⟩) ?_ ?_
  rotate_left
  · intro w'
    go_simp
    with_reducible rfl
  rotate_left
  · simp only [Act.put, List.setIfInBounds_toArray, List.set_cons_zero, List.set_cons_succ, i64_w, i32_w]
    rfl
  refine one_ (i := 10) (N := none) #[true, true, true, true, true, true, true, true, true, true, true] rfl rfl (by kernel_rfl) (by decide) (fun K hK => ?_)
  have R4 := Lh ((HB.out.block _ (blk_lt R.out)).trans R.out)
  have FF := Lh ((HB.out.block _ (blk_lt F.out)).trans F.out)
  have WB := Lh (bthen W.out HB.out)
  have sc0 : World.cell? _ ⟨w.heap.size + 1, 0, none⟩ = some (.int .i64 0) := (blk_cell R4.out 0).trans rfl
  have sf0 : World.frozen? _ ⟨w.heap.size + 1, 0, none⟩ = false := blk_frozen R4.out 0
  have sc1 : World.cell? _ ⟨w.heap.size + 1, 1, none⟩ = some (.int .i64 0) := (blk_cell R4.out 1).trans rfl
  have sf1 : World.frozen? _ ⟨w.heap.size + 1, 1, none⟩ = false := blk_frozen R4.out 1
  have sc2 : World.cell? _ ⟨w.heap.size + 1, 2, none⟩ = some (.int .i64 0) := (blk_cell R4.out 2).trans rfl
  have sf2 : World.frozen? _ ⟨w.heap.size + 1, 2, none⟩ = false := blk_frozen R4.out 2
  refine skip_ (w1 := ?_) (by rfl) rfl ?_ ?_
  rotate_left
  · go_simp
    rfl
  have FF := Lh ((bo3 (show w.heap.size ≠ w.heap.size + 1 by omega) (.int .i64 px) (.int .i64 py) (.int .i64 pz)).trans FF.out)
  have R4 := Lh (bs3 R4.out (.int .i64 px) (.int .i64 py) (.int .i64 pz))
  have WB := Lh (bb3 WB.out (show w.heap.size ≤ w.heap.size + 1 by omega) (.int .i64 px) (.int .i64 py) (.int .i64 pz))
  clear sc0 sf0 sc1 sf1 sc2 sf2
  refine hK.out _ _ ⟨(blk_cell FF.out 0).trans rfl, (blk_cell FF.out 1).trans rfl, (blk_cell FF.out 2).trans rfl⟩ (fun hHeld => ?_)
  clear hK K
  refine done_ (by kernel_rfl) ?_
  obtain ⟨V, hV⟩ : ∃ V, (((wz.setCell ⟨w.heap.size + 1, 0, none⟩ (.int .i64 px)).setCell ⟨w.heap.size + 1, 1, none⟩ (.int .i64 py)).setCell ⟨w.heap.size + 1, 2, none⟩ (.int .i64 pz)) = V := ⟨_, rfl⟩
  rw [hV] at R4 WB
  (try rw [hV])
  have t0 : V.cell? ⟨w.heap.size + 1, 0, none⟩ = some (.int .i64 px) := (blk_cell R4.out 0).trans rfl
  have t1 : V.cell? ⟨w.heap.size + 1, 1, none⟩ = some (.int .i64 py) := (blk_cell R4.out 1).trans rfl
  have t2 : V.cell? ⟨w.heap.size + 1, 2, none⟩ = some (.int .i64 pz) := (blk_cell R4.out 2).trans rfl
  clear hHeld HB x0 x1 x2 xl
  go_wp2
  (try rw [hV])
  exact bodyPost_ret (v := .agg #[.int .i64 px, .int .i64 py, .int .i64 pz]) (by simp [results, Try.results147, go_sem, t0, t1, t2]) rfl ⟨by rw [HG.out], WB.out⟩
theorem in_no {n : Int} {v : P3} (h : ¬ in3 n v) : inB n v = false := by
  cases e : inB n v
  · rfl
  · exact absurd ((inB_iff _ _).1 e) h
set_option maxHeartbeats 2000000 in
theorem in_calls (n : Int) (hn : IntKind.i64.wrap (-n) = -n) (v : P3) (w : World) : Calls Try.prog 146 #[.int .i64 v.x, .int .i64 v.y, .int .i64 v.z, .int .i64 n] w fun e w' => e = .returned (.bool (inB n v)) ∧ w' = w := by
  obtain ⟨x, y, z⟩ := v
  have HNO := Lh (fun h => in_no (n := n) (v := ⟨x, y, z⟩) h)
  have HYS := Lh (fun h => (inB_iff n ⟨x, y, z⟩).2 h)
  by_cases t0 : -n ≤ x
  · have d0 : decide (-n ≤ x) = true := decide_eq_true t0
    by_cases t1 : x ≤ n
    · have d1 : decide (x ≤ n) = true := decide_eq_true t1
      by_cases t2 : -n ≤ y
      · have d2 : decide (-n ≤ y) = true := decide_eq_true t2
        by_cases t3 : y ≤ n
        · have d3 : decide (y ≤ n) = true := decide_eq_true t3
          by_cases t4 : -n ≤ z
          · have d4 : decide (-n ≤ z) = true := decide_eq_true t4
            by_cases t5 : z ≤ n
            · have d5 : decide (z ≤ n) = true := decide_eq_true t5
              have HR := Lh (HYS.out ⟨t0, t1, t2, t3, t4, t5⟩)
              clear HNO HYS t0 t1 t2 t3 t4 t5
              go_enter Try.func146, Try.ntmps146
              go_wp2
              go_ret
              exact ⟨by rw [HR.out]; rfl, rfl⟩
            · have d5 : decide (z ≤ n) = false := decide_eq_false t5
              have HR := Lh (HNO.out fun h => t5 h.2.2.2.2.2)
              clear HNO HYS t0 t1 t2 t3 t4 t5
              go_enter Try.func146, Try.ntmps146
              go_wp2
              go_ret
              exact ⟨by rw [HR.out]; rfl, rfl⟩
          · have d4 : decide (-n ≤ z) = false := decide_eq_false t4
            have HR := Lh (HNO.out fun h => t4 h.2.2.2.2.1)
            clear HNO HYS t0 t1 t2 t3 t4
            go_enter Try.func146, Try.ntmps146
            go_wp2
            go_ret
            exact ⟨by rw [HR.out]; rfl, rfl⟩
        · have d3 : decide (y ≤ n) = false := decide_eq_false t3
          have HR := Lh (HNO.out fun h => t3 h.2.2.2.1)
          clear HNO HYS t0 t1 t2 t3
          go_enter Try.func146, Try.ntmps146
          go_wp2
          go_ret
          exact ⟨by rw [HR.out]; rfl, rfl⟩
      · have d2 : decide (-n ≤ y) = false := decide_eq_false t2
        have HR := Lh (HNO.out fun h => t2 h.2.2.1)
        clear HNO HYS t0 t1 t2
        go_enter Try.func146, Try.ntmps146
        go_wp2
        go_ret
        exact ⟨by rw [HR.out]; rfl, rfl⟩
    · have d1 : decide (x ≤ n) = false := decide_eq_false t1
      have HR := Lh (HNO.out fun h => t1 h.2.1)
      clear HNO HYS t0 t1
      go_enter Try.func146, Try.ntmps146
      go_wp2
      go_ret
      exact ⟨by rw [HR.out]; rfl, rfl⟩
  · have d0 : decide (-n ≤ x) = false := decide_eq_false t0
    have HR := Lh (HNO.out fun h => t0 h.1)
    clear HNO HYS t0
    go_enter Try.func146, Try.ntmps146
    go_wp2
    go_ret
    exact ⟨by rw [HR.out]; rfl, rfl⟩
def WayPost (a b : P3) (r : Int) (w : World) (en : Ending) (w' : World) : Prop := ∃ vb y, en = .returned (.tuple #[vb, aP y, .bool (holdMay a b r)]) ∧ (∃ A0 A1 A2 n0 n1 n2 c0 c1 c2 x, vb = .agg #[.slice A0 n0 c0, .slice A1 n1 c1, .slice A2 n2 c2, .int .i64 x]) ∧ (in3 1125899906842624 a → in3 1125899906842624 b → CrV w' vb (ballC a r) ∧ y = wayC a b) ∧ Below w.heap.size w w'
set_option maxHeartbeats 8000000 in
set_option maxRecDepth 100000 in
theorem rwayB_calls {w : World} (a b : P3) (r : Int) (ha : in3 9223372036854775808 a) (hb : in3 9223372036854775808 b) :
    Calls Try.prog 98 #[aP a, aP b, .int .i64 r] w (WayPost a b r w) := by
  have HGA := Lh (fun W => rgrains_calls a ha W)
  have HGB := Lh (fun W => rgrains_calls b hb W)
  have HWA := Lh (fun W => in_calls 1125899906842624 (by decide) a W)
  have HWB := Lh (fun W => in_calls 1125899906842624 (by decide) b W)
  have HWY := Lh (fun W => in_calls 4194304 (by decide) (wayC a b) W)
  have HMY : Hid (holdMay a b r = ((ballC a r).may && (inB 1125899906842624 a && (inB 1125899906842624 b && inB 4194304 (wayC a b))))) := Lh rfl
  have HNA := Lh (fun (h : inB 1125899906842624 a = false) => show holdMay a b r = false by rw [HMY.out, h]; simp)
  have HNB := Lh (fun (h : inB 1125899906842624 b = false) => show holdMay a b r = false by rw [HMY.out, h]; simp)
  have HXA := Lh (fun (h : inB 1125899906842624 a = false) (h2 : in3 1125899906842624 a) => show False from absurd ((inB_iff _ _).2 h2) (by rw [h]; decide))
  have HXB := Lh (fun (h : inB 1125899906842624 b = false) (h2 : in3 1125899906842624 b) => show False from absurd ((inB_iff _ _).2 h2) (by rw [h]; decide))
  have HCM : Hid (mayF [grP a] [] [] r = (ballC a r).may) := Lh rfl
  have HMA := Lh (fun (W : World) v (h : CoreV W v [grP a] [] [] r) => rmay_calls h (by simp) (by simp) (by simp))
  have ex := gr_sub ⟨hb.1, hb.2.1⟩ ⟨ha.1, ha.2.1⟩
  have ey := gr_sub ⟨hb.2.2.1, hb.2.2.2.1⟩ ⟨ha.2.2.1, ha.2.2.2.1⟩
  have ez := gr_sub ⟨hb.2.2.2.2.1, hb.2.2.2.2.2⟩ ⟨ha.2.2.2.2.1, ha.2.2.2.2.2⟩
  have HBC : Hid (ballC a r = ⟨[⟨gr a.x, gr a.y, gr a.z⟩], [], [], r⟩) := Lh rfl
  have HWC : Hid (wayC a b = ⟨gr b.x - gr a.x, gr b.y - gr a.y, gr b.z - gr a.z⟩) := Lh rfl
  have HGPA : Hid (grP a = ⟨gr a.x, gr a.y, gr a.z⟩) := Lh rfl
  have HGPB : Hid (grP b = ⟨gr b.x, gr b.y, gr b.z⟩) := Lh rfl
  rw [HCM.out, HGPA.out] at HMA
  rw [HGPA.out] at HGA
  rw [HGPB.out] at HGB
  rw [HWC.out] at HWY
  unfold WayPost
  rw [HBC.out, HWC.out]
  obtain ⟨BM, hBM⟩ : ∃ R, (ballC a r).may = R := ⟨_, rfl⟩
  obtain ⟨HM, hHM⟩ : ∃ R, holdMay a b r = R := ⟨_, rfl⟩
  obtain ⟨IA, hIA⟩ : ∃ R, inB 1125899906842624 a = R := ⟨_, rfl⟩
  obtain ⟨IB, hIB⟩ : ∃ R, inB 1125899906842624 b = R := ⟨_, rfl⟩
  obtain ⟨IY, hIY⟩ : ∃ R, inB 4194304 (wayC a b) = R := ⟨_, rfl⟩
  rw [hIY, hIA, hIB, hHM, hBM] at HMY
  rw [← HWC.out, hIY] at HWY
  rw [hBM] at HMA
  rw [hIA] at HWA HNA HXA
  rw [hIB] at HWB HNB HXB
  rw [hHM] at HNA HNB ⊢
  rw [HWC.out] at HWY
  obtain ⟨px, hpx⟩ : ∃ x, gr a.x = x := ⟨_, rfl⟩
  obtain ⟨py, hpy⟩ : ∃ x, gr a.y = x := ⟨_, rfl⟩
  obtain ⟨pz, hpz⟩ : ∃ x, gr a.z = x := ⟨_, rfl⟩
  obtain ⟨qx, hqx⟩ : ∃ x, gr b.x = x := ⟨_, rfl⟩
  obtain ⟨qy, hqy⟩ : ∃ x, gr b.y = x := ⟨_, rfl⟩
  obtain ⟨qz, hqz⟩ : ∃ x, gr b.z = x := ⟨_, rfl⟩
  rw [hpx, hpy, hpz] at HGA HMA
  rw [hqx, hqy, hqz] at HGB
  rw [hpx, hpy, hpz, hqx, hqy, hqz] at HWY ⊢
  rw [hpx, hqx] at ex
  rw [hpy, hqy] at ey
  rw [hpz, hqz] at ez
  obtain ⟨yx, hyx⟩ : ∃ x, qx - px = x := ⟨_, rfl⟩
  obtain ⟨yy, hyy⟩ : ∃ x, qy - py = x := ⟨_, rfl⟩
  obtain ⟨yz, hyz⟩ : ∃ x, qz - pz = x := ⟨_, rfl⟩
  have EX := Lh (ex.trans hyx)
  have EY := Lh (ey.trans hyy)
  have EZ := Lh (ez.trans hyz)
  rw [hyx, hyy, hyz] at HWY ⊢
  obtain ⟨ax, ay, az⟩ := a
  obtain ⟨tx, ty, tz⟩ := b
  clear ha hb hBM hHM hIA hIB hIY hpx hpy hpz hqx hqy hqz hyx hyy hyz ex ey ez HBC HWC HGPA HGPB HCM
  have W := Lh (Below.refl w.heap.size w)
  go_enter Try.func98, Try.ntmps98
  go_upto_region 1 with fail
  have bz := (((((Below.refl w.heap.size w).alloc (Nat.le_refl _) (.cells #[.int .i64 ax, .int .i64 ay, .int .i64 az] 27)).alloc (by simp) (.cells #[.int .i64 tx, .int .i64 ty, .int .i64 tz] 27)).alloc (by simp <;> omega) (.cells #[.slice none 0 0, .slice none 0 0, .slice none 0 0, .int .i64 0] 36)).alloc (by simp <;> omega) (.cells #[.int .i64 0, .int .i64 0, .int .i64 0] 23))
  have nz0 := heap_alloc_new w (.cells #[.int .i64 ax, .int .i64 ay, .int .i64 az] 27)
  replace nz0 := (Below.heap_alloc _ (.cells #[.int .i64 tx, .int .i64 ty, .int .i64 tz] 27) _ (by simp <;> omega)).trans nz0
  replace nz0 := (Below.heap_alloc _ (.cells #[.slice none 0 0, .slice none 0 0, .slice none 0 0, .int .i64 0] 36) _ (by simp <;> omega)).trans nz0
  replace nz0 := (Below.heap_alloc _ (.cells #[.int .i64 0, .int .i64 0, .int .i64 0] 23) _ (by simp <;> omega)).trans nz0
  have nz1 := heap_alloc_new (w.alloc (.cells #[.int .i64 ax, .int .i64 ay, .int .i64 az] 27)) (.cells #[.int .i64 tx, .int .i64 ty, .int .i64 tz] 27)
  simp only [World.size_alloc] at nz1
  replace nz1 := (Below.heap_alloc _ (.cells #[.slice none 0 0, .slice none 0 0, .slice none 0 0, .int .i64 0] 36) _ (by simp <;> omega)).trans nz1
  replace nz1 := (Below.heap_alloc _ (.cells #[.int .i64 0, .int .i64 0, .int .i64 0] 23) _ (by simp <;> omega)).trans nz1
  have nz2 := heap_alloc_new ((w.alloc (.cells #[.int .i64 ax, .int .i64 ay, .int .i64 az] 27)).alloc (.cells #[.int .i64 tx, .int .i64 ty, .int .i64 tz] 27)) (.cells #[.slice none 0 0, .slice none 0 0, .slice none 0 0, .int .i64 0] 36)
  simp only [World.size_alloc] at nz2
  replace nz2 := (Below.heap_alloc _ (.cells #[.int .i64 0, .int .i64 0, .int .i64 0] 23) _ (by simp <;> omega)).trans nz2
  have nz3 := heap_alloc_new (((w.alloc (.cells #[.int .i64 ax, .int .i64 ay, .int .i64 az] 27)).alloc (.cells #[.int .i64 tx, .int .i64 ty, .int .i64 tz] 27)).alloc (.cells #[.slice none 0 0, .slice none 0 0, .slice none 0 0, .int .i64 0] 36)) (.cells #[.int .i64 0, .int .i64 0, .int .i64 0] 23)
  simp only [World.size_alloc] at nz3
  obtain ⟨w1, hwz⟩ : ∃ V, ((((w.alloc (.cells #[.int .i64 ax, .int .i64 ay, .int .i64 az] 27)).alloc (.cells #[.int .i64 tx, .int .i64 ty, .int .i64 tz] 27)).alloc (.cells #[.slice none 0 0, .slice none 0 0, .slice none 0 0, .int .i64 0] 36)).alloc (.cells #[.int .i64 0, .int .i64 0, .int .i64 0] 23)) = V := ⟨_, rfl⟩
  rw [hwz] at bz nz0 nz1 nz2 nz3 ⊢
  replace W := Lh (bthen W.out bz)
  have F := Lh nz0
  have T := Lh nz1
  have RB := Lh nz2
  have RY := Lh nz3
  clear hwz bz nz0 nz1 nz2 nz3
  have x0 : w1.cell? ⟨w.heap.size, 0, none⟩ = some (.int .i64 ax) := (blk_cell F.out 0).trans rfl
  have x1 : w1.cell? ⟨w.heap.size, 1, none⟩ = some (.int .i64 ay) := (blk_cell F.out 1).trans rfl
  have x2 : w1.cell? ⟨w.heap.size, 2, none⟩ = some (.int .i64 az) := (blk_cell F.out 2).trans rfl
  have xl : w.heap.size < w1.heap.size := blk_lt F.out
  have k0 : w1.cell? ⟨w.heap.size + 1, 0, none⟩ = some (.int .i64 tx) := (blk_cell T.out 0).trans rfl
  have k1 : w1.cell? ⟨w.heap.size + 1, 1, none⟩ = some (.int .i64 ty) := (blk_cell T.out 1).trans rfl
  have k2 : w1.cell? ⟨w.heap.size + 1, 2, none⟩ = some (.int .i64 tz) := (blk_cell T.out 2).trans rfl
  have kl : w.heap.size + 1 < w1.heap.size := blk_lt T.out
  have b0 : w1.cell? ⟨w.heap.size + 1 + 1, 0, none⟩ = some (.slice none 0 0) := (blk_cell RB.out 0).trans rfl
  have b1 : w1.cell? ⟨w.heap.size + 1 + 1, 1, none⟩ = some (.slice none 0 0) := (blk_cell RB.out 1).trans rfl
  have b2 : w1.cell? ⟨w.heap.size + 1 + 1, 2, none⟩ = some (.slice none 0 0) := (blk_cell RB.out 2).trans rfl
  have b3 : w1.cell? ⟨w.heap.size + 1 + 1, 3, none⟩ = some (.int .i64 0) := (blk_cell RB.out 3).trans rfl
  have bl : w.heap.size + 1 + 1 < w1.heap.size := blk_lt RB.out
  have y0 : w1.cell? ⟨w.heap.size + 1 + 1 + 1, 0, none⟩ = some (.int .i64 0) := (blk_cell RY.out 0).trans rfl
  have y1 : w1.cell? ⟨w.heap.size + 1 + 1 + 1, 1, none⟩ = some (.int .i64 0) := (blk_cell RY.out 1).trans rfl
  have y2 : w1.cell? ⟨w.heap.size + 1 + 1 + 1, 2, none⟩ = some (.int .i64 0) := (blk_cell RY.out 2).trans rfl
  have yl : w.heap.size + 1 + 1 + 1 < w1.heap.size := blk_lt RY.out
  cases IA with
  | false =>
    have fb0 : w1.frozen? ⟨w.heap.size + 1 + 1, 0, none⟩ = false := blk_frozen RB.out 0
    have fb1 : w1.frozen? ⟨w.heap.size + 1 + 1, 1, none⟩ = false := blk_frozen RB.out 1
    have fb2 : w1.frozen? ⟨w.heap.size + 1 + 1, 2, none⟩ = false := blk_frozen RB.out 2
    have fb3 : w1.frozen? ⟨w.heap.size + 1 + 1, 3, none⟩ = false := blk_frozen RB.out 3
    have fy0 : w1.frozen? ⟨w.heap.size + 1 + 1 + 1, 0, none⟩ = false := blk_frozen RY.out 0
    have fy1 : w1.frozen? ⟨w.heap.size + 1 + 1 + 1, 1, none⟩ = false := blk_frozen RY.out 1
    have fy2 : w1.frozen? ⟨w.heap.size + 1 + 1 + 1, 2, none⟩ = false := blk_frozen RY.out 2
    have HR := Lh (HNA.out rfl)
    have RB1 := bs4 RB.out (.slice none 0 0) (.slice none 0 0) (.slice none 0 0) (.int .i64 0)
    have RY1 := (bo4 (show w.heap.size + 1 + 1 + 1 ≠ w.heap.size + 1 + 1 by omega) (.slice none 0 0) (.slice none 0 0) (.slice none 0 0) (.int .i64 0)).trans RY.out
    have WB1 := bb4 W.out (show w.heap.size ≤ w.heap.size + 1 + 1 by omega) (.slice none 0 0) (.slice none 0 0) (.slice none 0 0) (.int .i64 0)
    have RY2 := bs3 RY1 (.int .i64 0) (.int .i64 0) (.int .i64 0)
    have RB2 := (bo3 (show w.heap.size + 1 + 1 ≠ w.heap.size + 1 + 1 + 1 by omega) (.int .i64 0) (.int .i64 0) (.int .i64 0)).trans RB1
    have WB2 := bb3 WB1 (show w.heap.size ≤ w.heap.size + 1 + 1 + 1 by omega) (.int .i64 0) (.int .i64 0) (.int .i64 0)
    obtain ⟨V, hV⟩ : ∃ V, (((((((w1.setCell ⟨w.heap.size + 1 + 1, 0, none⟩ (.slice none 0 0)).setCell ⟨w.heap.size + 1 + 1, 1, none⟩ (.slice none 0 0)).setCell ⟨w.heap.size + 1 + 1, 2, none⟩ (.slice none 0 0)).setCell ⟨w.heap.size + 1 + 1, 3, none⟩ (.int .i64 0)).setCell ⟨w.heap.size + 1 + 1 + 1, 0, none⟩ (.int .i64 0)).setCell ⟨w.heap.size + 1 + 1 + 1, 1, none⟩ (.int .i64 0)).setCell ⟨w.heap.size + 1 + 1 + 1, 2, none⟩ (.int .i64 0)) = V := ⟨_, rfl⟩
    rw [hV] at RY2 RB2 WB2
    clear RB1 RY1 WB1
    have t0 : V.cell? ⟨w.heap.size + 1 + 1, 0, none⟩ = some (.slice none 0 0) := (blk_cell RB2 0).trans rfl
    have t1 : V.cell? ⟨w.heap.size + 1 + 1, 1, none⟩ = some (.slice none 0 0) := (blk_cell RB2 1).trans rfl
    have t2 : V.cell? ⟨w.heap.size + 1 + 1, 2, none⟩ = some (.slice none 0 0) := (blk_cell RB2 2).trans rfl
    have t3 : V.cell? ⟨w.heap.size + 1 + 1, 3, none⟩ = some (.int .i64 0) := (blk_cell RB2 3).trans rfl
    have u0 : V.cell? ⟨w.heap.size + 1 + 1 + 1, 0, none⟩ = some (.int .i64 0) := (blk_cell RY2 0).trans rfl
    have u1 : V.cell? ⟨w.heap.size + 1 + 1 + 1, 1, none⟩ = some (.int .i64 0) := (blk_cell RY2 1).trans rfl
    have u2 : V.cell? ⟨w.heap.size + 1 + 1 + 1, 2, none⟩ = some (.int .i64 0) := (blk_cell RY2 2).trans rfl
    go_wp2_with ((first | (with_reducible refine (HWA.out _).mono ?_) | (with_reducible refine (HWB.out _).mono ?_)); rintro en w1 ⟨rfl, rfl⟩)
    (try rw [hV])
    exact bodyPost_ret (v := .tuple #[.agg #[.slice none 0 0, .slice none 0 0, .slice none 0 0, .int .i64 0], .agg #[.int .i64 0, .int .i64 0, .int .i64 0], .bool false]) (by simp [results, Try.results98, go_sem, t0, t1, t2, t3, u0, u1, u2]) rfl ⟨_, ⟨0, 0, 0⟩, by rw [HR.out], ⟨_, _, _, _, _, _, _, _, _, _, rfl⟩, fun h1 h2 => (HXA.out (by simp) h1).elim, WB2⟩
  | true =>
    cases IB with
    | false =>
      have fb0 : w1.frozen? ⟨w.heap.size + 1 + 1, 0, none⟩ = false := blk_frozen RB.out 0
      have fb1 : w1.frozen? ⟨w.heap.size + 1 + 1, 1, none⟩ = false := blk_frozen RB.out 1
      have fb2 : w1.frozen? ⟨w.heap.size + 1 + 1, 2, none⟩ = false := blk_frozen RB.out 2
      have fb3 : w1.frozen? ⟨w.heap.size + 1 + 1, 3, none⟩ = false := blk_frozen RB.out 3
      have fy0 : w1.frozen? ⟨w.heap.size + 1 + 1 + 1, 0, none⟩ = false := blk_frozen RY.out 0
      have fy1 : w1.frozen? ⟨w.heap.size + 1 + 1 + 1, 1, none⟩ = false := blk_frozen RY.out 1
      have fy2 : w1.frozen? ⟨w.heap.size + 1 + 1 + 1, 2, none⟩ = false := blk_frozen RY.out 2
      have HR := Lh (HNB.out rfl)
      have RB1 := bs4 RB.out (.slice none 0 0) (.slice none 0 0) (.slice none 0 0) (.int .i64 0)
      have RY1 := (bo4 (show w.heap.size + 1 + 1 + 1 ≠ w.heap.size + 1 + 1 by omega) (.slice none 0 0) (.slice none 0 0) (.slice none 0 0) (.int .i64 0)).trans RY.out
      have WB1 := bb4 W.out (show w.heap.size ≤ w.heap.size + 1 + 1 by omega) (.slice none 0 0) (.slice none 0 0) (.slice none 0 0) (.int .i64 0)
      have RY2 := bs3 RY1 (.int .i64 0) (.int .i64 0) (.int .i64 0)
      have RB2 := (bo3 (show w.heap.size + 1 + 1 ≠ w.heap.size + 1 + 1 + 1 by omega) (.int .i64 0) (.int .i64 0) (.int .i64 0)).trans RB1
      have WB2 := bb3 WB1 (show w.heap.size ≤ w.heap.size + 1 + 1 + 1 by omega) (.int .i64 0) (.int .i64 0) (.int .i64 0)
      obtain ⟨V, hV⟩ : ∃ V, (((((((w1.setCell ⟨w.heap.size + 1 + 1, 0, none⟩ (.slice none 0 0)).setCell ⟨w.heap.size + 1 + 1, 1, none⟩ (.slice none 0 0)).setCell ⟨w.heap.size + 1 + 1, 2, none⟩ (.slice none 0 0)).setCell ⟨w.heap.size + 1 + 1, 3, none⟩ (.int .i64 0)).setCell ⟨w.heap.size + 1 + 1 + 1, 0, none⟩ (.int .i64 0)).setCell ⟨w.heap.size + 1 + 1 + 1, 1, none⟩ (.int .i64 0)).setCell ⟨w.heap.size + 1 + 1 + 1, 2, none⟩ (.int .i64 0)) = V := ⟨_, rfl⟩
      rw [hV] at RY2 RB2 WB2
      clear RB1 RY1 WB1
      have t0 : V.cell? ⟨w.heap.size + 1 + 1, 0, none⟩ = some (.slice none 0 0) := (blk_cell RB2 0).trans rfl
      have t1 : V.cell? ⟨w.heap.size + 1 + 1, 1, none⟩ = some (.slice none 0 0) := (blk_cell RB2 1).trans rfl
      have t2 : V.cell? ⟨w.heap.size + 1 + 1, 2, none⟩ = some (.slice none 0 0) := (blk_cell RB2 2).trans rfl
      have t3 : V.cell? ⟨w.heap.size + 1 + 1, 3, none⟩ = some (.int .i64 0) := (blk_cell RB2 3).trans rfl
      have u0 : V.cell? ⟨w.heap.size + 1 + 1 + 1, 0, none⟩ = some (.int .i64 0) := (blk_cell RY2 0).trans rfl
      have u1 : V.cell? ⟨w.heap.size + 1 + 1 + 1, 1, none⟩ = some (.int .i64 0) := (blk_cell RY2 1).trans rfl
      have u2 : V.cell? ⟨w.heap.size + 1 + 1 + 1, 2, none⟩ = some (.int .i64 0) := (blk_cell RY2 2).trans rfl
      go_wp2_with ((first | (with_reducible refine (HWA.out _).mono ?_) | (with_reducible refine (HWB.out _).mono ?_)); rintro en w1 ⟨rfl, rfl⟩)
      (try rw [hV])
      exact bodyPost_ret (v := .tuple #[.agg #[.slice none 0 0, .slice none 0 0, .slice none 0 0, .int .i64 0], .agg #[.int .i64 0, .int .i64 0, .int .i64 0], .bool false]) (by simp [results, Try.results98, go_sem, t0, t1, t2, t3, u0, u1, u2]) rfl ⟨_, ⟨0, 0, 0⟩, by rw [HR.out], ⟨_, _, _, _, _, _, _, _, _, _, rfl⟩, fun h1 h2 => (HXB.out (by simp) h2).elim, WB2⟩
    | true =>
      clear HNA HNB HXA HXB
      go_wp2_with ((first | (with_reducible refine (HWA.out _).mono ?_) | (with_reducible refine (HWB.out _).mono ?_)); rintro en w1 ⟨rfl, rfl⟩)
      with_reducible refine (HGA.out _).mono ?_
      rintro en w2 ⟨rfl, hb⟩
      replace F := Lh ((hb.block _ (blk_lt F.out)).trans F.out)
      replace T := Lh ((hb.block _ (blk_lt T.out)).trans T.out)
      replace RB := Lh ((hb.block _ (blk_lt RB.out)).trans RB.out)
      replace RY := Lh ((hb.block _ (blk_lt RY.out)).trans RY.out)
      replace W := Lh (bthen W.out hb)
      clear hb x0 x1 x2 xl k0 k1 k2 kl b0 b1 b2 b3 bl y0 y1 y2 yl
      go_upto_region 6 with fail
      have bz := ((Below.refl w2.heap.size w2).alloc (Nat.le_refl _) (.cells #[.int .i64 px, .int .i64 py, .int .i64 pz] 23))
      have nz0 := heap_alloc_new w2 (.cells #[.int .i64 px, .int .i64 py, .int .i64 pz] 23)
      obtain ⟨w3, hwz⟩ : ∃ V, (w2.alloc (.cells #[.int .i64 px, .int .i64 py, .int .i64 pz] 23)) = V := ⟨_, rfl⟩
      rw [hwz] at bz nz0 ⊢
      replace F := Lh ((bz.block _ (blk_lt F.out)).trans F.out)
      replace T := Lh ((bz.block _ (blk_lt T.out)).trans T.out)
      replace RB := Lh ((bz.block _ (blk_lt RB.out)).trans RB.out)
      replace RY := Lh ((bz.block _ (blk_lt RY.out)).trans RY.out)
      replace W := Lh (bthen W.out bz)
      have HP := Lh nz0
      clear hwz bz nz0
      have k0 : w3.cell? ⟨w.heap.size + 1, 0, none⟩ = some (.int .i64 tx) := (blk_cell T.out 0).trans rfl
      have k1 : w3.cell? ⟨w.heap.size + 1, 1, none⟩ = some (.int .i64 ty) := (blk_cell T.out 1).trans rfl
      have k2 : w3.cell? ⟨w.heap.size + 1, 2, none⟩ = some (.int .i64 tz) := (blk_cell T.out 2).trans rfl
      have kl : w.heap.size + 1 < w3.heap.size := blk_lt T.out
      go_wp2_with fail
      with_reducible refine (HGB.out _).mono ?_
      rintro en w4 ⟨rfl, hb⟩
      replace F := Lh ((hb.block _ (blk_lt F.out)).trans F.out)
      replace T := Lh ((hb.block _ (blk_lt T.out)).trans T.out)
      replace RB := Lh ((hb.block _ (blk_lt RB.out)).trans RB.out)
      replace RY := Lh ((hb.block _ (blk_lt RY.out)).trans RY.out)
      replace HP := Lh ((hb.block _ (blk_lt HP.out)).trans HP.out)
      replace W := Lh (bthen W.out hb)
      clear hb k0 k1 k2 kl
      go_upto_region 7 with fail
      have bz := ((Below.refl w4.heap.size w4).alloc (Nat.le_refl _) (.cells #[.int .i64 qx, .int .i64 qy, .int .i64 qz] 23))
      have nz0 := heap_alloc_new w4 (.cells #[.int .i64 qx, .int .i64 qy, .int .i64 qz] 23)
      obtain ⟨w5, hwz⟩ : ∃ V, (w4.alloc (.cells #[.int .i64 qx, .int .i64 qy, .int .i64 qz] 23)) = V := ⟨_, rfl⟩
      rw [hwz] at bz nz0 ⊢
      replace F := Lh ((bz.block _ (blk_lt F.out)).trans F.out)
      replace T := Lh ((bz.block _ (blk_lt T.out)).trans T.out)
      replace RB := Lh ((bz.block _ (blk_lt RB.out)).trans RB.out)
      replace RY := Lh ((bz.block _ (blk_lt RY.out)).trans RY.out)
      replace HP := Lh ((bz.block _ (blk_lt HP.out)).trans HP.out)
      replace W := Lh (bthen W.out bz)
      have HQ := Lh nz0
      clear hwz bz nz0
      have S5 : Hid (w.heap.size + 1 + 1 + 1 < w5.heap.size) := Lh (blk_lt RY.out)
      have p0 : w5.cell? ⟨w2.heap.size, 0, none⟩ = some (.int .i64 px) := (blk_cell HP.out 0).trans rfl
      have p1 : w5.cell? ⟨w2.heap.size, 1, none⟩ = some (.int .i64 py) := (blk_cell HP.out 1).trans rfl
      have p2 : w5.cell? ⟨w2.heap.size, 2, none⟩ = some (.int .i64 pz) := (blk_cell HP.out 2).trans rfl
      have pl : w2.heap.size < w5.heap.size := blk_lt HP.out
      go_upto_region 8 with fail
      have bz := (((Below.refl w5.heap.size w5).alloc (Nat.le_refl _) (.cells #[.int .i64 px, .int .i64 py, .int .i64 pz] 23)).alloc (by simp) (.cells #[.slice (some ⟨w5.heap.size, 0, none⟩) 1 1, .slice none 0 0, .slice none 0 0, .int .i64 r] 36))
      have nz0 := heap_alloc_new w5 (.cells #[.int .i64 px, .int .i64 py, .int .i64 pz] 23)
      replace nz0 := (Below.heap_alloc _ (.cells #[.slice (some ⟨w5.heap.size, 0, none⟩) 1 1, .slice none 0 0, .slice none 0 0, .int .i64 r] 36) _ (by simp <;> omega)).trans nz0
      have nz1 := heap_alloc_new (w5.alloc (.cells #[.int .i64 px, .int .i64 py, .int .i64 pz] 23)) (.cells #[.slice (some ⟨w5.heap.size, 0, none⟩) 1 1, .slice none 0 0, .slice none 0 0, .int .i64 r] 36)
      simp only [World.size_alloc] at nz1
      obtain ⟨w6, hwz⟩ : ∃ V, ((w5.alloc (.cells #[.int .i64 px, .int .i64 py, .int .i64 pz] 23)).alloc (.cells #[.slice (some ⟨w5.heap.size, 0, none⟩) 1 1, .slice none 0 0, .slice none 0 0, .int .i64 r] 36)) = V := ⟨_, rfl⟩
      rw [hwz] at bz nz0 nz1 ⊢
      replace F := Lh ((bz.block _ (blk_lt F.out)).trans F.out)
      replace T := Lh ((bz.block _ (blk_lt T.out)).trans T.out)
      replace RB := Lh ((bz.block _ (blk_lt RB.out)).trans RB.out)
      replace RY := Lh ((bz.block _ (blk_lt RY.out)).trans RY.out)
      replace HP := Lh ((bz.block _ (blk_lt HP.out)).trans HP.out)
      replace HQ := Lh ((bz.block _ (blk_lt HQ.out)).trans HQ.out)
      replace W := Lh (bthen W.out bz)
      have HD := Lh nz0
      have HC := Lh nz1
      clear hwz bz nz0 nz1 p0 p1 p2 pl
      have S6 : Hid (w5.heap.size + 1 < w6.heap.size) := Lh (blk_lt HC.out)
      have HV := Lh (show CrV w6 (.agg #[.slice (some ⟨w5.heap.size, 0, none⟩) 1 1, .slice none 0 0, .slice none 0 0, .int .i64 r]) ⟨[⟨px, py, pz⟩], [], [], r⟩ from ball_core w6 _ px py pz r 1 (Nat.le_refl _) HD.out)
      have p0 : w6.cell? ⟨w2.heap.size, 0, none⟩ = some (.int .i64 px) := (blk_cell HP.out 0).trans rfl
      have p1 : w6.cell? ⟨w2.heap.size, 1, none⟩ = some (.int .i64 py) := (blk_cell HP.out 1).trans rfl
      have p2 : w6.cell? ⟨w2.heap.size, 2, none⟩ = some (.int .i64 pz) := (blk_cell HP.out 2).trans rfl
      have pl : w2.heap.size < w6.heap.size := blk_lt HP.out
      have q0 : w6.cell? ⟨w4.heap.size, 0, none⟩ = some (.int .i64 qx) := (blk_cell HQ.out 0).trans rfl
      have q1 : w6.cell? ⟨w4.heap.size, 1, none⟩ = some (.int .i64 qy) := (blk_cell HQ.out 1).trans rfl
      have q2 : w6.cell? ⟨w4.heap.size, 2, none⟩ = some (.int .i64 qz) := (blk_cell HQ.out 2).trans rfl
      have ql : w4.heap.size < w6.heap.size := blk_lt HQ.out
      go_upto_region 9 with fail
      rw [EX.out, EY.out, EZ.out]
      have bz := ((Below.refl w6.heap.size w6).alloc (Nat.le_refl _) (.cells #[.int .i64 yx, .int .i64 yy, .int .i64 yz] 23))
      have nz0 := heap_alloc_new w6 (.cells #[.int .i64 yx, .int .i64 yy, .int .i64 yz] 23)
      obtain ⟨w7, hwz⟩ : ∃ V, (w6.alloc (.cells #[.int .i64 yx, .int .i64 yy, .int .i64 yz] 23)) = V := ⟨_, rfl⟩
      rw [hwz] at bz nz0 ⊢
      replace F := Lh ((bz.block _ (blk_lt F.out)).trans F.out)
      replace T := Lh ((bz.block _ (blk_lt T.out)).trans T.out)
      replace RB := Lh ((bz.block _ (blk_lt RB.out)).trans RB.out)
      replace RY := Lh ((bz.block _ (blk_lt RY.out)).trans RY.out)
      replace HP := Lh ((bz.block _ (blk_lt HP.out)).trans HP.out)
      replace HQ := Lh ((bz.block _ (blk_lt HQ.out)).trans HQ.out)
      replace HD := Lh ((bz.block _ (blk_lt HD.out)).trans HD.out)
      replace HC := Lh ((bz.block _ (blk_lt HC.out)).trans HC.out)
      replace HV := Lh (HV.out.below bz)
      replace W := Lh (bthen W.out bz)
      have HY := Lh nz0
      clear hwz bz nz0 p0 p1 p2 pl q0 q1 q2 ql
      have y0 : w7.cell? ⟨w6.heap.size, 0, none⟩ = some (.int .i64 yx) := (blk_cell HY.out 0).trans rfl
      have y1 : w7.cell? ⟨w6.heap.size, 1, none⟩ = some (.int .i64 yy) := (blk_cell HY.out 1).trans rfl
      have y2 : w7.cell? ⟨w6.heap.size, 2, none⟩ = some (.int .i64 yz) := (blk_cell HY.out 2).trans rfl
      have yl : w6.heap.size < w7.heap.size := blk_lt HY.out
      go_wp2_with fail
      with_reducible refine (HWY.out _).mono ?_
      rintro en w7 ⟨rfl, rfl⟩
      clear y0 y1 y2 yl 
      have c0 : w7.cell? ⟨w5.heap.size + 1, 0, none⟩ = some (.slice (some ⟨w5.heap.size, 0, none⟩) 1 1) := (blk_cell HC.out 0).trans rfl
      have c1 : w7.cell? ⟨w5.heap.size + 1, 1, none⟩ = some (.slice none 0 0) := (blk_cell HC.out 1).trans rfl
      have c2 : w7.cell? ⟨w5.heap.size + 1, 2, none⟩ = some (.slice none 0 0) := (blk_cell HC.out 2).trans rfl
      have c3 : w7.cell? ⟨w5.heap.size + 1, 3, none⟩ = some (.int .i64 r) := (blk_cell HC.out 3).trans rfl
      have cl : w5.heap.size + 1 < w7.heap.size := blk_lt HC.out
      have HVC := Lh (show CoreV w7 (.agg #[.slice (some ⟨w5.heap.size, 0, none⟩) 1 1, .slice none 0 0, .slice none 0 0, .int .i64 r]) [⟨px, py, pz⟩] [] [] r from HV.out)
      go_wp2_with fail
      with_reducible refine (HMA.out _ _ HVC.out).mono ?_
      rintro en w8 ⟨rfl, hb⟩
      replace F := Lh ((hb.block _ (blk_lt F.out)).trans F.out)
      replace T := Lh ((hb.block _ (blk_lt T.out)).trans T.out)
      replace RB := Lh ((hb.block _ (blk_lt RB.out)).trans RB.out)
      replace RY := Lh ((hb.block _ (blk_lt RY.out)).trans RY.out)
      replace HP := Lh ((hb.block _ (blk_lt HP.out)).trans HP.out)
      replace HQ := Lh ((hb.block _ (blk_lt HQ.out)).trans HQ.out)
      replace HD := Lh ((hb.block _ (blk_lt HD.out)).trans HD.out)
      replace HC := Lh ((hb.block _ (blk_lt HC.out)).trans HC.out)
      replace HY := Lh ((hb.block _ (blk_lt HY.out)).trans HY.out)
      replace HV := Lh (HV.out.below hb)
      replace W := Lh (bthen W.out hb)
      clear HVC
      clear hb c0 c1 c2 c3 cl
      go_upto_region 11 with fail
      have c0 : w8.cell? ⟨w5.heap.size + 1, 0, none⟩ = some (.slice (some ⟨w5.heap.size, 0, none⟩) 1 1) := (blk_cell HC.out 0).trans rfl
      have c1 : w8.cell? ⟨w5.heap.size + 1, 1, none⟩ = some (.slice none 0 0) := (blk_cell HC.out 1).trans rfl
      have c2 : w8.cell? ⟨w5.heap.size + 1, 2, none⟩ = some (.slice none 0 0) := (blk_cell HC.out 2).trans rfl
      have c3 : w8.cell? ⟨w5.heap.size + 1, 3, none⟩ = some (.int .i64 r) := (blk_cell HC.out 3).trans rfl
      have cl : w5.heap.size + 1 < w8.heap.size := blk_lt HC.out
      have y0 : w8.cell? ⟨w6.heap.size, 0, none⟩ = some (.int .i64 yx) := (blk_cell HY.out 0).trans rfl
      have y1 : w8.cell? ⟨w6.heap.size, 1, none⟩ = some (.int .i64 yy) := (blk_cell HY.out 1).trans rfl
      have y2 : w8.cell? ⟨w6.heap.size, 2, none⟩ = some (.int .i64 yz) := (blk_cell HY.out 2).trans rfl
      have yl : w6.heap.size < w8.heap.size := blk_lt HY.out
      have HR : Hid (HM = (IY && BM)) := Lh (HMY.out.trans (by cases BM <;> cases IY <;> rfl))
      clear HMY
      cases IY with
      | true =>
        have HB := Lh ((Below.refl (w8.heap.size) w8).drew)
        refine start_ (n := 9) (S := fun w' => w'.cell? ⟨w5.heap.size + 1, 0, none⟩ = some (.slice (some ⟨w5.heap.size, 0, none⟩) 1 1) ∧ w'.cell? ⟨w5.heap.size + 1, 1, none⟩ = some (.slice none 0 0) ∧ w'.cell? ⟨w5.heap.size + 1, 2, none⟩ = some (.slice none 0 0) ∧ w'.cell? ⟨w5.heap.size + 1, 3, none⟩ = some (.int .i64 r) ∧ w'.cell? ⟨w6.heap.size, 0, none⟩ = some (.int .i64 yx) ∧ w'.cell? ⟨w6.heap.size, 1, none⟩ = some (.int .i64 yy) ∧ w'.cell? ⟨w6.heap.size, 2, none⟩ = some (.int .i64 yz)) (ds := []) #[false, false, false, false, false, false, false, false, false] (by kernel_rfl) rfl rfl ⟨(HB.out.cell (p := ⟨w5.heap.size + 1, 0, none⟩) (cl)).trans c0, (HB.out.cell (p := ⟨w5.heap.size + 1, 1, none⟩) (cl)).trans c1, (HB.out.cell (p := ⟨w5.heap.size + 1, 2, none⟩) (cl)).trans c2, (HB.out.cell (p := ⟨w5.heap.size + 1, 3, none⟩) (cl)).trans c3, (HB.out.cell (p := ⟨w6.heap.size, 0, none⟩) (yl)).trans y0, (HB.out.cell (p := ⟨w6.heap.size, 1, none⟩) (yl)).trans y1, (HB.out.cell (p := ⟨w6.heap.size, 2, none⟩) (yl)).trans y2⟩ (fun hHeld => ?_)
        obtain ⟨wd, hwd⟩ : ∃ x, w8.drew = x := ⟨_, rfl⟩
        rw [hwd] at HB hHeld ⊢
        clear hwd
        refine pure_ (i := 2) (N := some 74) (v := ?_) (a' := ?_) #[false, false, true, false, false, false, false, false, false] rfl rfl (by kernel_rfl) (fun _ _ _ h => h) (Or.inl ⟨by rfl, ?_⟩) ?_ ?_
        rotate_left
        · intro w'
          go_simp
          with_reducible rfl
        rotate_left
        · simp only [Act.put, List.setIfInBounds_toArray, List.set_cons_zero, List.set_cons_succ, i64_w, i32_w]
          rfl
        refine pure_ (i := 3) (N := some 75) (v := ?_) (a' := ?_) #[false, false, true, true, false, false, false, false, false] rfl rfl (by kernel_rfl) (fun _ _ _ h => h) (Or.inl ⟨by rfl, ?_⟩) ?_ ?_
        rotate_left
        · intro w'
          go_simp
          with_reducible rfl
        rotate_left
        · simp only [Act.put, List.setIfInBounds_toArray, List.set_cons_zero, List.set_cons_succ, i64_w, i32_w]
          rfl
        refine pure_ (i := 4) (N := some 76) (v := ?_) (a' := ?_) #[false, false, true, true, true, false, false, false, false] rfl rfl (by kernel_rfl) (fun _ _ _ h => h) (Or.inl ⟨by rfl, ?_⟩) ?_ ?_
        rotate_left
        · intro w'
          go_simp
          with_reducible rfl
        rotate_left
        · simp only [Act.put, List.setIfInBounds_toArray, List.set_cons_zero, List.set_cons_succ, i64_w, i32_w]
          rfl
        refine pure_ (i := 5) (N := some 77) (v := ?_) (a' := ?_) #[false, false, true, true, true, true, false, false, false] rfl rfl (by kernel_rfl) (fun _ _ _ h => h) (Or.inl ⟨by rfl, ?_⟩) ?_ ?_
        rotate_left
        · intro w'
          go_simp
          with_reducible rfl
        rotate_left
        · simp only [Act.put, List.setIfInBounds_toArray, List.set_cons_zero, List.set_cons_succ, i64_w, i32_w]
          rfl
        refine take_ (i := 0) (N := some 72) (v := ?_) (a' := ?_) #[true, false, true, true, true, true, false, false, false] rfl rfl (by kernel_rfl) (fun _ _ _ h => h) (Or.inl ⟨by rfl, ?_⟩) hHeld ?_ ?_
        rotate_left
        · rintro w' ⟨s0, s1, s2, s3, s4, s5, s6⟩
          go_simp
          with_reducible rfl
        rotate_left
        · simp only [Act.put, List.setIfInBounds_toArray, List.set_cons_zero, List.set_cons_succ, i64_w, i32_w]
          rfl
        refine take_ (i := 1) (N := some 73) (v := ?_) (a' := ?_) #[true, true, true, true, true, true, false, false, false] rfl rfl (by kernel_rfl) (fun _ _ _ h => h) (Or.inl ⟨by rfl, ?_⟩) hHeld ?_ ?_
        rotate_left
        · rintro w' ⟨s0, s1, s2, s3, s4, s5, s6⟩
          go_simp
          with_reducible rfl
        rotate_left
        · simp only [Act.put, List.setIfInBounds_toArray, List.set_cons_zero, List.set_cons_succ, i64_w, i32_w]
          rfl
        refine one_ (i := 6) (N := none) #[true, true, true, true, true, true, true, false, false] rfl rfl (by kernel_rfl) (by decide) (fun K hK => ?_)
        have RB4 := Lh ((HB.out.block _ (blk_lt RB.out)).trans RB.out)
        have RY4 := Lh ((HB.out.block _ (blk_lt RY.out)).trans RY.out)
        have CC := Lh ((HB.out.block _ (blk_lt HC.out)).trans HC.out)
        have YY := Lh ((HB.out.block _ (blk_lt HY.out)).trans HY.out)
        have DD := Lh ((HB.out.block _ (blk_lt HD.out)).trans HD.out)
        have WB := Lh (bthen W.out HB.out)
        have sc0 : World.cell? _ ⟨w.heap.size + 1 + 1, 0, none⟩ = some (.slice none 0 0) := (blk_cell RB4.out 0).trans rfl
        have sf0 : World.frozen? _ ⟨w.heap.size + 1 + 1, 0, none⟩ = false := blk_frozen RB4.out 0
        have sc1 : World.cell? _ ⟨w.heap.size + 1 + 1, 1, none⟩ = some (.slice none 0 0) := (blk_cell RB4.out 1).trans rfl
        have sf1 : World.frozen? _ ⟨w.heap.size + 1 + 1, 1, none⟩ = false := blk_frozen RB4.out 1
        have sc2 : World.cell? _ ⟨w.heap.size + 1 + 1, 2, none⟩ = some (.slice none 0 0) := (blk_cell RB4.out 2).trans rfl
        have sf2 : World.frozen? _ ⟨w.heap.size + 1 + 1, 2, none⟩ = false := blk_frozen RB4.out 2
        have sc3 : World.cell? _ ⟨w.heap.size + 1 + 1, 3, none⟩ = some (.int .i64 0) := (blk_cell RB4.out 3).trans rfl
        have sf3 : World.frozen? _ ⟨w.heap.size + 1 + 1, 3, none⟩ = false := blk_frozen RB4.out 3
        refine skip_ (w1 := ?_) (by rfl) rfl ?_ ?_
        rotate_left
        · go_simp
          rfl
        have CC := Lh ((bo4 (show w5.heap.size + 1 ≠ w.heap.size + 1 + 1 by have := S5.out; have := S6.out; omega) (.slice (some ⟨w5.heap.size, 0, none⟩) 1 1) (.slice none 0 0) (.slice none 0 0) (.int .i64 r)).trans CC.out)
        have YY := Lh ((bo4 (show w6.heap.size ≠ w.heap.size + 1 + 1 by have := S5.out; have := S6.out; omega) (.slice (some ⟨w5.heap.size, 0, none⟩) 1 1) (.slice none 0 0) (.slice none 0 0) (.int .i64 r)).trans YY.out)
        have DD := Lh ((bo4 (show w5.heap.size ≠ w.heap.size + 1 + 1 by have := S5.out; have := S6.out; omega) (.slice (some ⟨w5.heap.size, 0, none⟩) 1 1) (.slice none 0 0) (.slice none 0 0) (.int .i64 r)).trans DD.out)
        have RY4 := Lh ((bo4 (show w.heap.size + 1 + 1 + 1 ≠ w.heap.size + 1 + 1 by have := S5.out; have := S6.out; omega) (.slice (some ⟨w5.heap.size, 0, none⟩) 1 1) (.slice none 0 0) (.slice none 0 0) (.int .i64 r)).trans RY4.out)
        have RB4 := Lh (bs4 RB4.out (.slice (some ⟨w5.heap.size, 0, none⟩) 1 1) (.slice none 0 0) (.slice none 0 0) (.int .i64 r))
        have WB := Lh (bb4 WB.out (show w.heap.size ≤ w.heap.size + 1 + 1 by omega) (.slice (some ⟨w5.heap.size, 0, none⟩) 1 1) (.slice none 0 0) (.slice none 0 0) (.int .i64 r))
        clear sc0 sf0 sc1 sf1 sc2 sf2 sc3 sf3
        refine hK.out _ _ ⟨(blk_cell CC.out 0).trans rfl, (blk_cell CC.out 1).trans rfl, (blk_cell CC.out 2).trans rfl, (blk_cell CC.out 3).trans rfl, (blk_cell YY.out 0).trans rfl, (blk_cell YY.out 1).trans rfl, (blk_cell YY.out 2).trans rfl⟩ (fun hHeld => ?_)
        clear hK K
        refine one_ (i := 7) (N := none) #[true, true, true, true, true, true, true, true, false] rfl rfl (by kernel_rfl) (by decide) (fun K hK => ?_)
        have sc0 : World.cell? _ ⟨w.heap.size + 1 + 1 + 1, 0, none⟩ = some (.int .i64 0) := (blk_cell RY4.out 0).trans rfl
        have sf0 : World.frozen? _ ⟨w.heap.size + 1 + 1 + 1, 0, none⟩ = false := blk_frozen RY4.out 0
        have sc1 : World.cell? _ ⟨w.heap.size + 1 + 1 + 1, 1, none⟩ = some (.int .i64 0) := (blk_cell RY4.out 1).trans rfl
        have sf1 : World.frozen? _ ⟨w.heap.size + 1 + 1 + 1, 1, none⟩ = false := blk_frozen RY4.out 1
        have sc2 : World.cell? _ ⟨w.heap.size + 1 + 1 + 1, 2, none⟩ = some (.int .i64 0) := (blk_cell RY4.out 2).trans rfl
        have sf2 : World.frozen? _ ⟨w.heap.size + 1 + 1 + 1, 2, none⟩ = false := blk_frozen RY4.out 2
        refine skip_ (w1 := ?_) (by rfl) rfl ?_ ?_
        rotate_left
        · go_simp
          rfl
        have CC := Lh ((bo3 (show w5.heap.size + 1 ≠ w.heap.size + 1 + 1 + 1 by have := S5.out; have := S6.out; omega) (.int .i64 yx) (.int .i64 yy) (.int .i64 yz)).trans CC.out)
        have YY := Lh ((bo3 (show w6.heap.size ≠ w.heap.size + 1 + 1 + 1 by have := S5.out; have := S6.out; omega) (.int .i64 yx) (.int .i64 yy) (.int .i64 yz)).trans YY.out)
        have DD := Lh ((bo3 (show w5.heap.size ≠ w.heap.size + 1 + 1 + 1 by have := S5.out; have := S6.out; omega) (.int .i64 yx) (.int .i64 yy) (.int .i64 yz)).trans DD.out)
        have RB4 := Lh ((bo3 (show w.heap.size + 1 + 1 ≠ w.heap.size + 1 + 1 + 1 by have := S5.out; have := S6.out; omega) (.int .i64 yx) (.int .i64 yy) (.int .i64 yz)).trans RB4.out)
        have RY4 := Lh (bs3 RY4.out (.int .i64 yx) (.int .i64 yy) (.int .i64 yz))
        have WB := Lh (bb3 WB.out (show w.heap.size ≤ w.heap.size + 1 + 1 + 1 by omega) (.int .i64 yx) (.int .i64 yy) (.int .i64 yz))
        clear sc0 sf0 sc1 sf1 sc2 sf2
        refine hK.out _ _ ⟨(blk_cell CC.out 0).trans rfl, (blk_cell CC.out 1).trans rfl, (blk_cell CC.out 2).trans rfl, (blk_cell CC.out 3).trans rfl, (blk_cell YY.out 0).trans rfl, (blk_cell YY.out 1).trans rfl, (blk_cell YY.out 2).trans rfl⟩ (fun hHeld => ?_)
        clear hK K
        refine pure_ (i := 8) (N := some 8) (v := ?_) (a' := ?_) #[true, true, true, true, true, true, true, true, true] rfl rfl (by kernel_rfl) (fun _ _ _ h => h) (Or.inl ⟨by rfl, ?_⟩) ?_ ?_
        rotate_left
        · intro w'
          go_simp
          with_reducible rfl
        rotate_left
        · simp only [Act.put, List.setIfInBounds_toArray, List.set_cons_zero, List.set_cons_succ, i64_w, i32_w]
          rfl
        refine done_ (by kernel_rfl) ?_
        obtain ⟨V, hV⟩ : ∃ V, (((((((wd.setCell ⟨w.heap.size + 1 + 1, 0, none⟩ (.slice (some ⟨w5.heap.size, 0, none⟩) 1 1)).setCell ⟨w.heap.size + 1 + 1, 1, none⟩ (.slice none 0 0)).setCell ⟨w.heap.size + 1 + 1, 2, none⟩ (.slice none 0 0)).setCell ⟨w.heap.size + 1 + 1, 3, none⟩ (.int .i64 r)).setCell ⟨w.heap.size + 1 + 1 + 1, 0, none⟩ (.int .i64 yx)).setCell ⟨w.heap.size + 1 + 1 + 1, 1, none⟩ (.int .i64 yy)).setCell ⟨w.heap.size + 1 + 1 + 1, 2, none⟩ (.int .i64 yz)) = V := ⟨_, rfl⟩
        rw [hV] at RB4 RY4 DD WB
        (try rw [hV])
        have t0 : V.cell? ⟨w.heap.size + 1 + 1, 0, none⟩ = some (.slice (some ⟨w5.heap.size, 0, none⟩) 1 1) := (blk_cell RB4.out 0).trans rfl
        have t1 : V.cell? ⟨w.heap.size + 1 + 1, 1, none⟩ = some (.slice none 0 0) := (blk_cell RB4.out 1).trans rfl
        have t2 : V.cell? ⟨w.heap.size + 1 + 1, 2, none⟩ = some (.slice none 0 0) := (blk_cell RB4.out 2).trans rfl
        have t3 : V.cell? ⟨w.heap.size + 1 + 1, 3, none⟩ = some (.int .i64 r) := (blk_cell RB4.out 3).trans rfl
        have u0 : V.cell? ⟨w.heap.size + 1 + 1 + 1, 0, none⟩ = some (.int .i64 yx) := (blk_cell RY4.out 0).trans rfl
        have u1 : V.cell? ⟨w.heap.size + 1 + 1 + 1, 1, none⟩ = some (.int .i64 yy) := (blk_cell RY4.out 1).trans rfl
        have u2 : V.cell? ⟨w.heap.size + 1 + 1 + 1, 2, none⟩ = some (.int .i64 yz) := (blk_cell RY4.out 2).trans rfl
        have HV2 := Lh (show CrV V (.agg #[.slice (some ⟨w5.heap.size, 0, none⟩) 1 1, .slice none 0 0, .slice none 0 0, .int .i64 r]) ⟨[⟨px, py, pz⟩], [], [], r⟩ from ball_core V _ px py pz r 1 (Nat.le_refl _) DD.out)
        clear hHeld HB CC YY c0 c1 c2 c3 cl y0 y1 y2 yl
        go_wp2
        (try rw [hV])
        exact bodyPost_ret (v := .tuple #[.agg #[.slice (some ⟨w5.heap.size, 0, none⟩) 1 1, .slice none 0 0, .slice none 0 0, .int .i64 r], .agg #[.int .i64 yx, .int .i64 yy, .int .i64 yz], .bool BM]) (by simp [results, Try.results98, go_sem, t0, t1, t2, t3, u0, u1, u2]) rfl ⟨_, ⟨yx, yy, yz⟩, by rw [HR.out]; rfl, ⟨_, _, _, _, _, _, _, _, _, _, rfl⟩, fun _ _ => ⟨HV2.out, rfl⟩, WB.out⟩
      | false =>
        have HB := Lh ((Below.refl (w8.heap.size) w8).drew)
        refine start_ (n := 9) (S := fun w' => w'.cell? ⟨w5.heap.size + 1, 0, none⟩ = some (.slice (some ⟨w5.heap.size, 0, none⟩) 1 1) ∧ w'.cell? ⟨w5.heap.size + 1, 1, none⟩ = some (.slice none 0 0) ∧ w'.cell? ⟨w5.heap.size + 1, 2, none⟩ = some (.slice none 0 0) ∧ w'.cell? ⟨w5.heap.size + 1, 3, none⟩ = some (.int .i64 r) ∧ w'.cell? ⟨w6.heap.size, 0, none⟩ = some (.int .i64 yx) ∧ w'.cell? ⟨w6.heap.size, 1, none⟩ = some (.int .i64 yy) ∧ w'.cell? ⟨w6.heap.size, 2, none⟩ = some (.int .i64 yz)) (ds := []) #[false, false, false, false, false, false, false, false, false] (by kernel_rfl) rfl rfl ⟨(HB.out.cell (p := ⟨w5.heap.size + 1, 0, none⟩) (cl)).trans c0, (HB.out.cell (p := ⟨w5.heap.size + 1, 1, none⟩) (cl)).trans c1, (HB.out.cell (p := ⟨w5.heap.size + 1, 2, none⟩) (cl)).trans c2, (HB.out.cell (p := ⟨w5.heap.size + 1, 3, none⟩) (cl)).trans c3, (HB.out.cell (p := ⟨w6.heap.size, 0, none⟩) (yl)).trans y0, (HB.out.cell (p := ⟨w6.heap.size, 1, none⟩) (yl)).trans y1, (HB.out.cell (p := ⟨w6.heap.size, 2, none⟩) (yl)).trans y2⟩ (fun hHeld => ?_)
        obtain ⟨wd, hwd⟩ : ∃ x, w8.drew = x := ⟨_, rfl⟩
        rw [hwd] at HB hHeld ⊢
        clear hwd
        refine pure_ (i := 2) (N := some 74) (v := ?_) (a' := ?_) #[false, false, true, false, false, false, false, false, false] rfl rfl (by kernel_rfl) (fun _ _ _ h => h) (Or.inl ⟨by rfl, ?_⟩) ?_ ?_
        rotate_left
        · intro w'
          go_simp
          with_reducible rfl
        rotate_left
        · simp only [Act.put, List.setIfInBounds_toArray, List.set_cons_zero, List.set_cons_succ, i64_w, i32_w]
          rfl
        refine pure_ (i := 3) (N := some 75) (v := ?_) (a' := ?_) #[false, false, true, true, false, false, false, false, false] rfl rfl (by kernel_rfl) (fun _ _ _ h => h) (Or.inl ⟨by rfl, ?_⟩) ?_ ?_
        rotate_left
        · intro w'
          go_simp
          with_reducible rfl
        rotate_left
        · simp only [Act.put, List.setIfInBounds_toArray, List.set_cons_zero, List.set_cons_succ, i64_w, i32_w]
          rfl
        refine pure_ (i := 4) (N := some 76) (v := undef) (a' := ?_) #[false, false, true, true, true, false, false, false, false] rfl rfl (by kernel_rfl) (fun _ _ _ h => h) (Or.inr ⟨by rfl, rfl⟩) ?_ ?_
        rotate_left
        · simp only [Act.put, List.setIfInBounds_toArray, List.set_cons_zero, List.set_cons_succ, i64_w, i32_w]
          rfl
        refine pure_ (i := 5) (N := some 77) (v := ?_) (a' := ?_) #[false, false, true, true, true, true, false, false, false] rfl rfl (by kernel_rfl) (fun _ _ _ h => h) (Or.inl ⟨by rfl, ?_⟩) ?_ ?_
        rotate_left
        · intro w'
          go_simp
          with_reducible rfl
        rotate_left
        · simp only [Act.put, List.setIfInBounds_toArray, List.set_cons_zero, List.set_cons_succ, i64_w, i32_w]
          rfl
        refine take_ (i := 0) (N := some 72) (v := ?_) (a' := ?_) #[true, false, true, true, true, true, false, false, false] rfl rfl (by kernel_rfl) (fun _ _ _ h => h) (Or.inl ⟨by rfl, ?_⟩) hHeld ?_ ?_
        rotate_left
        · rintro w' ⟨s0, s1, s2, s3, s4, s5, s6⟩
          go_simp
          with_reducible rfl
        rotate_left
        · simp only [Act.put, List.setIfInBounds_toArray, List.set_cons_zero, List.set_cons_succ, i64_w, i32_w]
          rfl
        refine take_ (i := 1) (N := some 73) (v := ?_) (a' := ?_) #[true, true, true, true, true, true, false, false, false] rfl rfl (by kernel_rfl) (fun _ _ _ h => h) (Or.inl ⟨by rfl, ?_⟩) hHeld ?_ ?_
        rotate_left
        · rintro w' ⟨s0, s1, s2, s3, s4, s5, s6⟩
          go_simp
          with_reducible rfl
        rotate_left
        · simp only [Act.put, List.setIfInBounds_toArray, List.set_cons_zero, List.set_cons_succ, i64_w, i32_w]
          rfl
        refine one_ (i := 6) (N := none) #[true, true, true, true, true, true, true, false, false] rfl rfl (by kernel_rfl) (by decide) (fun K hK => ?_)
        have RB4 := Lh ((HB.out.block _ (blk_lt RB.out)).trans RB.out)
        have RY4 := Lh ((HB.out.block _ (blk_lt RY.out)).trans RY.out)
        have CC := Lh ((HB.out.block _ (blk_lt HC.out)).trans HC.out)
        have YY := Lh ((HB.out.block _ (blk_lt HY.out)).trans HY.out)
        have DD := Lh ((HB.out.block _ (blk_lt HD.out)).trans HD.out)
        have WB := Lh (bthen W.out HB.out)
        have sc0 : World.cell? _ ⟨w.heap.size + 1 + 1, 0, none⟩ = some (.slice none 0 0) := (blk_cell RB4.out 0).trans rfl
        have sf0 : World.frozen? _ ⟨w.heap.size + 1 + 1, 0, none⟩ = false := blk_frozen RB4.out 0
        have sc1 : World.cell? _ ⟨w.heap.size + 1 + 1, 1, none⟩ = some (.slice none 0 0) := (blk_cell RB4.out 1).trans rfl
        have sf1 : World.frozen? _ ⟨w.heap.size + 1 + 1, 1, none⟩ = false := blk_frozen RB4.out 1
        have sc2 : World.cell? _ ⟨w.heap.size + 1 + 1, 2, none⟩ = some (.slice none 0 0) := (blk_cell RB4.out 2).trans rfl
        have sf2 : World.frozen? _ ⟨w.heap.size + 1 + 1, 2, none⟩ = false := blk_frozen RB4.out 2
        have sc3 : World.cell? _ ⟨w.heap.size + 1 + 1, 3, none⟩ = some (.int .i64 0) := (blk_cell RB4.out 3).trans rfl
        have sf3 : World.frozen? _ ⟨w.heap.size + 1 + 1, 3, none⟩ = false := blk_frozen RB4.out 3
        refine skip_ (w1 := ?_) (by rfl) rfl ?_ ?_
        rotate_left
        · go_simp
          rfl
        have CC := Lh ((bo4 (show w5.heap.size + 1 ≠ w.heap.size + 1 + 1 by have := S5.out; have := S6.out; omega) (.slice (some ⟨w5.heap.size, 0, none⟩) 1 1) (.slice none 0 0) (.slice none 0 0) (.int .i64 r)).trans CC.out)
        have YY := Lh ((bo4 (show w6.heap.size ≠ w.heap.size + 1 + 1 by have := S5.out; have := S6.out; omega) (.slice (some ⟨w5.heap.size, 0, none⟩) 1 1) (.slice none 0 0) (.slice none 0 0) (.int .i64 r)).trans YY.out)
        have DD := Lh ((bo4 (show w5.heap.size ≠ w.heap.size + 1 + 1 by have := S5.out; have := S6.out; omega) (.slice (some ⟨w5.heap.size, 0, none⟩) 1 1) (.slice none 0 0) (.slice none 0 0) (.int .i64 r)).trans DD.out)
        have RY4 := Lh ((bo4 (show w.heap.size + 1 + 1 + 1 ≠ w.heap.size + 1 + 1 by have := S5.out; have := S6.out; omega) (.slice (some ⟨w5.heap.size, 0, none⟩) 1 1) (.slice none 0 0) (.slice none 0 0) (.int .i64 r)).trans RY4.out)
        have RB4 := Lh (bs4 RB4.out (.slice (some ⟨w5.heap.size, 0, none⟩) 1 1) (.slice none 0 0) (.slice none 0 0) (.int .i64 r))
        have WB := Lh (bb4 WB.out (show w.heap.size ≤ w.heap.size + 1 + 1 by omega) (.slice (some ⟨w5.heap.size, 0, none⟩) 1 1) (.slice none 0 0) (.slice none 0 0) (.int .i64 r))
        clear sc0 sf0 sc1 sf1 sc2 sf2 sc3 sf3
        refine hK.out _ _ ⟨(blk_cell CC.out 0).trans rfl, (blk_cell CC.out 1).trans rfl, (blk_cell CC.out 2).trans rfl, (blk_cell CC.out 3).trans rfl, (blk_cell YY.out 0).trans rfl, (blk_cell YY.out 1).trans rfl, (blk_cell YY.out 2).trans rfl⟩ (fun hHeld => ?_)
        clear hK K
        refine one_ (i := 7) (N := none) #[true, true, true, true, true, true, true, true, false] rfl rfl (by kernel_rfl) (by decide) (fun K hK => ?_)
        have sc0 : World.cell? _ ⟨w.heap.size + 1 + 1 + 1, 0, none⟩ = some (.int .i64 0) := (blk_cell RY4.out 0).trans rfl
        have sf0 : World.frozen? _ ⟨w.heap.size + 1 + 1 + 1, 0, none⟩ = false := blk_frozen RY4.out 0
        have sc1 : World.cell? _ ⟨w.heap.size + 1 + 1 + 1, 1, none⟩ = some (.int .i64 0) := (blk_cell RY4.out 1).trans rfl
        have sf1 : World.frozen? _ ⟨w.heap.size + 1 + 1 + 1, 1, none⟩ = false := blk_frozen RY4.out 1
        have sc2 : World.cell? _ ⟨w.heap.size + 1 + 1 + 1, 2, none⟩ = some (.int .i64 0) := (blk_cell RY4.out 2).trans rfl
        have sf2 : World.frozen? _ ⟨w.heap.size + 1 + 1 + 1, 2, none⟩ = false := blk_frozen RY4.out 2
        refine skip_ (w1 := ?_) (by rfl) rfl ?_ ?_
        rotate_left
        · go_simp
          rfl
        have CC := Lh ((bo3 (show w5.heap.size + 1 ≠ w.heap.size + 1 + 1 + 1 by have := S5.out; have := S6.out; omega) (.int .i64 yx) (.int .i64 yy) (.int .i64 yz)).trans CC.out)
        have YY := Lh ((bo3 (show w6.heap.size ≠ w.heap.size + 1 + 1 + 1 by have := S5.out; have := S6.out; omega) (.int .i64 yx) (.int .i64 yy) (.int .i64 yz)).trans YY.out)
        have DD := Lh ((bo3 (show w5.heap.size ≠ w.heap.size + 1 + 1 + 1 by have := S5.out; have := S6.out; omega) (.int .i64 yx) (.int .i64 yy) (.int .i64 yz)).trans DD.out)
        have RB4 := Lh ((bo3 (show w.heap.size + 1 + 1 ≠ w.heap.size + 1 + 1 + 1 by have := S5.out; have := S6.out; omega) (.int .i64 yx) (.int .i64 yy) (.int .i64 yz)).trans RB4.out)
        have RY4 := Lh (bs3 RY4.out (.int .i64 yx) (.int .i64 yy) (.int .i64 yz))
        have WB := Lh (bb3 WB.out (show w.heap.size ≤ w.heap.size + 1 + 1 + 1 by omega) (.int .i64 yx) (.int .i64 yy) (.int .i64 yz))
        clear sc0 sf0 sc1 sf1 sc2 sf2
        refine hK.out _ _ ⟨(blk_cell CC.out 0).trans rfl, (blk_cell CC.out 1).trans rfl, (blk_cell CC.out 2).trans rfl, (blk_cell CC.out 3).trans rfl, (blk_cell YY.out 0).trans rfl, (blk_cell YY.out 1).trans rfl, (blk_cell YY.out 2).trans rfl⟩ (fun hHeld => ?_)
        clear hK K
        refine pure_ (i := 8) (N := some 8) (v := ?_) (a' := ?_) #[true, true, true, true, true, true, true, true, true] rfl rfl (by kernel_rfl) (fun _ _ _ h => h) (Or.inl ⟨by rfl, ?_⟩) ?_ ?_
        rotate_left
        · intro w'
          go_simp
          with_reducible rfl
        rotate_left
        · simp only [Act.put, List.setIfInBounds_toArray, List.set_cons_zero, List.set_cons_succ, i64_w, i32_w]
          rfl
        refine done_ (by kernel_rfl) ?_
        obtain ⟨V, hV⟩ : ∃ V, (((((((wd.setCell ⟨w.heap.size + 1 + 1, 0, none⟩ (.slice (some ⟨w5.heap.size, 0, none⟩) 1 1)).setCell ⟨w.heap.size + 1 + 1, 1, none⟩ (.slice none 0 0)).setCell ⟨w.heap.size + 1 + 1, 2, none⟩ (.slice none 0 0)).setCell ⟨w.heap.size + 1 + 1, 3, none⟩ (.int .i64 r)).setCell ⟨w.heap.size + 1 + 1 + 1, 0, none⟩ (.int .i64 yx)).setCell ⟨w.heap.size + 1 + 1 + 1, 1, none⟩ (.int .i64 yy)).setCell ⟨w.heap.size + 1 + 1 + 1, 2, none⟩ (.int .i64 yz)) = V := ⟨_, rfl⟩
        rw [hV] at RB4 RY4 DD WB
        (try rw [hV])
        have t0 : V.cell? ⟨w.heap.size + 1 + 1, 0, none⟩ = some (.slice (some ⟨w5.heap.size, 0, none⟩) 1 1) := (blk_cell RB4.out 0).trans rfl
        have t1 : V.cell? ⟨w.heap.size + 1 + 1, 1, none⟩ = some (.slice none 0 0) := (blk_cell RB4.out 1).trans rfl
        have t2 : V.cell? ⟨w.heap.size + 1 + 1, 2, none⟩ = some (.slice none 0 0) := (blk_cell RB4.out 2).trans rfl
        have t3 : V.cell? ⟨w.heap.size + 1 + 1, 3, none⟩ = some (.int .i64 r) := (blk_cell RB4.out 3).trans rfl
        have u0 : V.cell? ⟨w.heap.size + 1 + 1 + 1, 0, none⟩ = some (.int .i64 yx) := (blk_cell RY4.out 0).trans rfl
        have u1 : V.cell? ⟨w.heap.size + 1 + 1 + 1, 1, none⟩ = some (.int .i64 yy) := (blk_cell RY4.out 1).trans rfl
        have u2 : V.cell? ⟨w.heap.size + 1 + 1 + 1, 2, none⟩ = some (.int .i64 yz) := (blk_cell RY4.out 2).trans rfl
        have HV2 := Lh (show CrV V (.agg #[.slice (some ⟨w5.heap.size, 0, none⟩) 1 1, .slice none 0 0, .slice none 0 0, .int .i64 r]) ⟨[⟨px, py, pz⟩], [], [], r⟩ from ball_core V _ px py pz r 1 (Nat.le_refl _) DD.out)
        clear hHeld HB CC YY c0 c1 c2 c3 cl y0 y1 y2 yl
        go_wp2
        (try rw [hV])
        exact bodyPost_ret (v := .tuple #[.agg #[.slice (some ⟨w5.heap.size, 0, none⟩) 1 1, .slice none 0 0, .slice none 0 0, .int .i64 r], .agg #[.int .i64 yx, .int .i64 yy, .int .i64 yz], .bool false]) (by simp [results, Try.results98, go_sem, t0, t1, t2, t3, u0, u1, u2]) rfl ⟨_, ⟨yx, yy, yz⟩, by rw [HR.out]; rfl, ⟨_, _, _, _, _, _, _, _, _, _, rfl⟩, fun _ _ => ⟨HV2.out, rfl⟩, WB.out⟩
end Go.Proofs.Ytckdhahceelckaa.G
namespace Go.Proofs.Ytckdhahceelckaa.G
open Go.RowKit Go.Proofs.YtckdhahceelckaaW.PrintWords Go.Proofs.YtckdhahceelckaaW.PrintLast Go.Proofs.YtckdhahceelckaaW.PrintMore
attribute [local go_sem] max2_mx min2_mn max_two min_two max_three min_three max_four min_four
attribute [local go_sem high] eqA23 eqA40
set_option linter.unusedVariables false
set_option linter.unusedSimpArgs false
theorem trail_len (c : Cr) (y : P3) (k : Int) : ((trailF c y k).p.length < 9223372036854775807 ∧ (trailF c y k).a.length < 9223372036854775807 ∧ (trailF c y k).e.length < 9223372036854775807) := by
  unfold trailF
  split
  · rename_i h
    have hl := ((smay_iff ..).1 h.1).2.1
    have h1 := withF_len c.a (acrossF y c.e)
    have h2 := withF_len c.e [short3 y]
    simp only [List.length_append, List.length_map]
    omega
  · simp
theorem k16_ {k : Nat} (h : (k : Int) < 16) : k < 16 := by omega
theorem k16e_ {k : Nat} (h : (k : Int) < 16) : 16 - k = (15 - k) + 1 ∧ 15 - k = 16 - (k + 1) := by omega
theorem k16w_ {k : Nat} (h : (k : Int) < 16) : wrap64 ((k : Int) + 1) = (k : Int) + 1 := by unfold wrap64; omega
theorem castOk_no1 {a b : Cr} {y : P3} (h : (apS a b).2 = false) : castOk a y b = false := by unfold castOk; rw [h]; rfl
theorem castOk_no2 {a b : Cr} {y : P3} (h : wayOk y = false) : castOk a y b = false := by unfold castOk smay; rw [h]; simp
theorem castOk_no3 {a b : Cr} {y : P3} (h : 16 < a.p.length) : castOk a y b = false := by
  unfold castOk smay
  rw [decide_eq_false (by omega)]; simp
theorem castOk_no4 {a b : Cr} {y : P3} {k : Int} (h0 : 0 ≤ k) (h1 : k ≤ 16) (h : (trailF a y k).may = false) : castOk a y b = false := by
  cases hc : castOk a y b with
  | false => rfl
  | true =>
    unfold castOk at hc
    rw [Bool.and_eq_true, Bool.and_eq_true, apS_may (trailF a y 16), Bool.and_eq_true] at hc
    rw [trail_last hc.1.2 hc.2.1 h0 h1] at h
    cases h
theorem castOk_yes {a b : Cr} {y : P3} (h1 : (apS a b).2 = true) (h2 : wayOk y = true) (h3 : a.p.length ≤ 16) (h4 : (trailF a y 16).may = true) : castOk a y b = true := by
  have h5 := h1
  rw [apS_may, Bool.and_eq_true] at h5
  unfold castOk smay
  rw [h1, h2, apS_may, h4, h5.1, h5.2, decide_eq_true h3]; rfl
set_option maxHeartbeats 16000000 in
set_option maxRecDepth 100000 in
theorem rcast_calls {w : World} {va vb : Value} {a b : Cr} (ha : CrV w va a) (hb : CrV w vb b) (y : P3) (hl : a.p.length ≤ 140737488355328 ∧ a.a.length ≤ 140737488355328 ∧ a.e.length ≤ 140737488355328) (hm : b.p.length ≤ 140737488355328 ∧ b.a.length ≤ 140737488355328 ∧ b.e.length ≤ 140737488355328) : Calls Try.prog 39 #[va, aP y, vb] w (CastPost (castF a y b) w) := by
  have HNO0 := Lh (fun (h : castOk a y b = false) => show castF a y b = ((0, (⟨0, 0, 0⟩, 0)), false) from if_neg (by rw [h]; decide))
  have HN1 := Lh (fun h => HNO0.out (castOk_no1 h))
  have HN2 := Lh (fun h => HNO0.out (castOk_no2 h))
  have HN3 := Lh (fun h => HNO0.out (castOk_no3 h))
  have HN4 := Lh (fun (k : Int) h0 h1 h => HNO0.out (castOk_no4 (k := k) h0 h1 h))
  have HYS := Lh (fun h1 h2 h3 h4 => show castF a y b = (castL a y b 16 0 (apS a b).1, true) from if_pos (castOk_yes h1 h2 h3 h4))
  have HA1 := Lh (fun (W : World) (h1 : CrV W va a) (h2 : CrV W vb b) => rapart_all h1 h2 (by omega) (by omega) (apS a b) rfl)
  have HW := Lh (fun (W : World) => rway_calls y W)
  have HT := Lh (fun (W : World) (K : Int) (h1 : CrV W va a) => rtrail_calls h1 y K hl)
  have HM := Lh (fun (K : Int) (W : World) (u : Value) (h1 : CrV W u (trailF a y K)) => rmay_calls h1 (trail_len a y K).1 (trail_len a y K).2.1 (trail_len a y K).2.2)
  have HA2 := Lh (fun (K : Int) (W : World) (u : Value) (h1 : CrV W u (trailF a y K)) (h2 : CrV W vb b) => rapart_all h1 h2 (trail_len a y K) (by omega) (apS (trailF a y K) b) rfl)
  have HGO := Lh (fun n k x z h1 h2 h3 => castL_go (c := a) (d := b) (y := y) (n := n) (k := k) (x := x) (z := z) h1 h2 h3)
  have HSTOP := Lh (fun n k x z h1 h2 => castL_stop (c := a) (d := b) (y := y) (n := n) (k := k) (x := x) (z := z) h1 h2)
  have HNEG := Lh (fun n k x h1 => castL_neg (c := a) (d := b) (y := y) (n := n) (k := k) (x := x) h1)
  have HZ := Lh (fun k x => show castL a y b 0 k x = (k, x) from rfl)
  obtain ⟨CF, hCF⟩ : ∃ R, castF a y b = R := ⟨_, rfl⟩
  obtain ⟨WO, hWO⟩ : ∃ R, wayOk y = R := ⟨_, rfl⟩
  obtain ⟨CL, hCL⟩ : ∃ R, castL a y b = R := ⟨_, rfl⟩
  obtain ⟨MY, hMY⟩ : ∃ R : Int → Bool, (fun K => mayF (trailF a y K).p (trailF a y K).a (trailF a y K).e (trailF a y K).r) = R := ⟨_, rfl⟩
  have hMY2 : ∀ K, mayF (trailF a y K).p (trailF a y K).a (trailF a y K).e (trailF a y K).r = MY K := fun K => by rw [← hMY]
  have hMY3 : ∀ K, (trailF a y K).may = MY K := hMY2
  simp only [hMY2] at HM
  simp only [hMY3] at HN4 HYS
  obtain ⟨TR, hTR⟩ : ∃ R, trailF a y = R := ⟨_, rfl⟩
  obtain ⟨X0, hX0⟩ : ∃ R, apS a b = R := ⟨_, rfl⟩
  obtain ⟨AP, hAP⟩ : ∃ R : Cr → (P3 × Int) × Bool, (fun c => apS c b) = R := ⟨_, rfl⟩
  have hAP2 : ∀ c, apS c b = AP c := fun c => by rw [← hAP]
  simp only [hAP2] at HA2 HGO HSTOP HYS HN1
  rw [hCF] at HN1 HN2 HN3 HN4 HYS
  rw [hCL, ← hAP2, hX0, hWO] at HYS
  rw [← hAP2, hX0] at HN1
  rw [hWO] at HN2 HW
  rw [hX0] at HA1
  rw [hTR] at HT HA2 HM
  simp only [hTR, hCL] at HGO HSTOP
  simp only [hCL] at HNEG HZ
  rw [hCF]
  clear hCF hWO hCL hTR hX0 hAP hAP2 hMY hMY2 hMY3 HNO0
  obtain ⟨⟨⟨Xx, Xy, Xz⟩, Xg⟩, Xo⟩ := X0
  obtain ⟨yx, yy, yz⟩ := y
  (try simp only at HW)
  have HVA := Lh ha
  have HVB := Lh hb
  obtain ⟨A0, A1, A2, c0, c1, c2, rfl, _⟩ := id ha.out
  obtain ⟨n0, hn0⟩ : ∃ n, a.p.length = n := ⟨_, rfl⟩
  obtain ⟨n1, hn1⟩ : ∃ n, a.a.length = n := ⟨_, rfl⟩
  obtain ⟨n2, hn2⟩ : ∃ n, a.e.length = n := ⟨_, rfl⟩
  obtain ⟨B0, B1, B2, m0, m1, m2, d0, d1, d2, rfl⟩ := hb.form
  obtain ⟨ra, hra⟩ : ∃ r, a.r = r := ⟨_, rfl⟩
  obtain ⟨rb, hrb⟩ : ∃ r, b.r = r := ⟨_, rfl⟩
  rw [hn0] at HN3 HYS
  rw [hn0, hn1, hn2, hra] at HVA HA1 HT
  rw [hrb] at HVB HA1 HA2
  rw [hn0, hn1, hn2, hra, hrb]
  simp only at HA1 HYS HN1
  clear ha hb hra hrb hl hm hn0 hn1 hn2
  have z0 := four0 w (.cells #[.slice A0 n0 c0, .slice A1 n1 c1, .slice A2 n2 c2, .int .i64 ra] 36) (.cells #[.int .i64 yx, .int .i64 yy, .int .i64 yz] 23) (.cells #[.slice B0 m0 d0, .slice B1 m1 d1, .slice B2 m2 d2, .int .i64 rb] 36) (.cells #[.int .i64 0, .int .i64 0, .int .i64 0, .int .i64 0] 40)
  have z1 := four1 w (.cells #[.slice A0 n0 c0, .slice A1 n1 c1, .slice A2 n2 c2, .int .i64 ra] 36) (.cells #[.int .i64 yx, .int .i64 yy, .int .i64 yz] 23) (.cells #[.slice B0 m0 d0, .slice B1 m1 d1, .slice B2 m2 d2, .int .i64 rb] 36) (.cells #[.int .i64 0, .int .i64 0, .int .i64 0, .int .i64 0] 40)
  have z2 := four2 w (.cells #[.slice A0 n0 c0, .slice A1 n1 c1, .slice A2 n2 c2, .int .i64 ra] 36) (.cells #[.int .i64 yx, .int .i64 yy, .int .i64 yz] 23) (.cells #[.slice B0 m0 d0, .slice B1 m1 d1, .slice B2 m2 d2, .int .i64 rb] 36) (.cells #[.int .i64 0, .int .i64 0, .int .i64 0, .int .i64 0] 40)
  have z3 := four3 w (.cells #[.slice A0 n0 c0, .slice A1 n1 c1, .slice A2 n2 c2, .int .i64 ra] 36) (.cells #[.int .i64 yx, .int .i64 yy, .int .i64 yz] 23) (.cells #[.slice B0 m0 d0, .slice B1 m1 d1, .slice B2 m2 d2, .int .i64 rb] 36) (.cells #[.int .i64 0, .int .i64 0, .int .i64 0, .int .i64 0] 40)
  have zb := below_alloc4 w (.cells #[.slice A0 n0 c0, .slice A1 n1 c1, .slice A2 n2 c2, .int .i64 ra] 36) (.cells #[.int .i64 yx, .int .i64 yy, .int .i64 yz] 23) (.cells #[.slice B0 m0 d0, .slice B1 m1 d1, .slice B2 m2 d2, .int .i64 rb] 36) (.cells #[.int .i64 0, .int .i64 0, .int .i64 0, .int .i64 0] 40)
  go_enter Try.func39, Try.ntmps39
  go_wp2_with fail
  obtain ⟨w1, hw1⟩ : ∃ V, (((w.alloc (.cells #[.slice A0 n0 c0, .slice A1 n1 c1, .slice A2 n2 c2, .int .i64 ra] 36)).alloc (.cells #[.int .i64 yx, .int .i64 yy, .int .i64 yz] 23)).alloc (.cells #[.slice B0 m0 d0, .slice B1 m1 d1, .slice B2 m2 d2, .int .i64 rb] 36)).alloc (.cells #[.int .i64 0, .int .i64 0, .int .i64 0, .int .i64 0] 40) = V := ⟨_, rfl⟩
  rw [hw1] at z0 z1 z2 z3 zb ⊢
  clear hw1
  with_reducible refine (HA1.out w1 (HVA.out.below zb) (HVB.out.below zb)).mono ?_
  rintro en w2 ⟨rfl, hb⟩
  go_upto_region 2 with fail
  have Z0 := (hb.block _ (blk_lt z0)).trans z0
  have Z1 := (hb.block _ (blk_lt z1)).trans z1
  have Z2 := (hb.block _ (blk_lt z2)).trans z2
  have Z3 := (hb.block _ (blk_lt z3)).trans z3
  have ZB := bthen zb hb
  have hs2 : w.heap.size + 3 < w2.heap.size := blk_lt Z3
  clear zb z0 z1 z2 z3 hb HA1
  have ab := (Below.refl _ w2).alloc (Nat.le_refl _) (.cells #[.int .i64 Xx, .int .i64 Xy, .int .i64 Xz, .int .i64 Xg] 40)
  have HX := Lh (heap_alloc_new w2 (.cells #[.int .i64 Xx, .int .i64 Xy, .int .i64 Xz, .int .i64 Xg] 40))
  have Z0 := Lh ((ab.block _ (blk_lt Z0)).trans Z0)
  have Z1 := Lh ((ab.block _ (blk_lt Z1)).trans Z1)
  have Z2 := Lh ((ab.block _ (blk_lt Z2)).trans Z2)
  have Z3 := Lh ((ab.block _ (blk_lt Z3)).trans Z3)
  have ZB := Lh (bthen ZB ab)
  obtain ⟨w3, hw3⟩ : ∃ V, w2.alloc (.cells #[.int .i64 Xx, .int .i64 Xy, .int .i64 Xz, .int .i64 Xg] 40) = V := ⟨_, rfl⟩
  obtain ⟨XB, hXB⟩ : ∃ n, w2.heap.size = n := ⟨_, rfl⟩
  rw [hw3] at HX Z0 Z1 Z2 Z3 ZB ⊢
  rw [hXB] at HX hs2 ⊢
  clear ab hw3 hXB
  have x0 : w3.cell? ⟨w.heap.size, 0, none⟩ = some (.slice A0 n0 c0) := (blk_cell Z0.out 0).trans rfl
  have x1 : w3.cell? ⟨w.heap.size, 1, none⟩ = some (.slice A1 n1 c1) := (blk_cell Z0.out 1).trans rfl
  have x2 : w3.cell? ⟨w.heap.size, 2, none⟩ = some (.slice A2 n2 c2) := (blk_cell Z0.out 2).trans rfl
  have x3 : w3.cell? ⟨w.heap.size, 3, none⟩ = some (.int .i64 ra) := (blk_cell Z0.out 3).trans rfl
  have xl : w.heap.size < w3.heap.size := blk_lt Z0.out
  have y0 : w3.cell? ⟨w.heap.size + 1, 0, none⟩ = some (.int .i64 yx) := (blk_cell Z1.out 0).trans rfl
  have y1 : w3.cell? ⟨w.heap.size + 1, 1, none⟩ = some (.int .i64 yy) := (blk_cell Z1.out 1).trans rfl
  have y2 : w3.cell? ⟨w.heap.size + 1, 2, none⟩ = some (.int .i64 yz) := (blk_cell Z1.out 2).trans rfl
  have yl : w.heap.size + 1 < w3.heap.size := blk_lt Z1.out
  have z0 : w3.cell? ⟨w.heap.size + 2, 0, none⟩ = some (.slice B0 m0 d0) := (blk_cell Z2.out 0).trans rfl
  have z1 : w3.cell? ⟨w.heap.size + 2, 1, none⟩ = some (.slice B1 m1 d1) := (blk_cell Z2.out 1).trans rfl
  have z2 : w3.cell? ⟨w.heap.size + 2, 2, none⟩ = some (.slice B2 m2 d2) := (blk_cell Z2.out 2).trans rfl
  have z3 : w3.cell? ⟨w.heap.size + 2, 3, none⟩ = some (.int .i64 rb) := (blk_cell Z2.out 3).trans rfl
  have zl : w.heap.size + 2 < w3.heap.size := blk_lt Z2.out
  go_wp2_with fail
  with_reducible refine (HW.out w3).mono ?_
  rintro en w4 ⟨rfl, hb⟩
  replace Z0 := Lh ((hb.block _ (blk_lt Z0.out)).trans Z0.out)
  replace Z1 := Lh ((hb.block _ (blk_lt Z1.out)).trans Z1.out)
  replace Z2 := Lh ((hb.block _ (blk_lt Z2.out)).trans Z2.out)
  replace Z3 := Lh ((hb.block _ (blk_lt Z3.out)).trans Z3.out)
  replace HX := Lh ((hb.block _ (blk_lt HX.out)).trans HX.out)
  replace ZB := Lh (bthen ZB.out hb)
  clear hb x0 x1 x2 x3 xl y0 y1 y2 yl z0 z1 z2 z3 zl HW
  have x0 : w4.cell? ⟨w.heap.size, 0, none⟩ = some (.slice A0 n0 c0) := (blk_cell Z0.out 0).trans rfl
  have x1 : w4.cell? ⟨w.heap.size, 1, none⟩ = some (.slice A1 n1 c1) := (blk_cell Z0.out 1).trans rfl
  have x2 : w4.cell? ⟨w.heap.size, 2, none⟩ = some (.slice A2 n2 c2) := (blk_cell Z0.out 2).trans rfl
  have x3 : w4.cell? ⟨w.heap.size, 3, none⟩ = some (.int .i64 ra) := (blk_cell Z0.out 3).trans rfl
  have xl : w.heap.size < w4.heap.size := blk_lt Z0.out
  have y0 : w4.cell? ⟨w.heap.size + 1, 0, none⟩ = some (.int .i64 yx) := (blk_cell Z1.out 0).trans rfl
  have y1 : w4.cell? ⟨w.heap.size + 1, 1, none⟩ = some (.int .i64 yy) := (blk_cell Z1.out 1).trans rfl
  have y2 : w4.cell? ⟨w.heap.size + 1, 2, none⟩ = some (.int .i64 yz) := (blk_cell Z1.out 2).trans rfl
  have yl : w.heap.size + 1 < w4.heap.size := blk_lt Z1.out
  have z0 : w4.cell? ⟨w.heap.size + 2, 0, none⟩ = some (.slice B0 m0 d0) := (blk_cell Z2.out 0).trans rfl
  have z1 : w4.cell? ⟨w.heap.size + 2, 1, none⟩ = some (.slice B1 m1 d1) := (blk_cell Z2.out 1).trans rfl
  have z2 : w4.cell? ⟨w.heap.size + 2, 2, none⟩ = some (.slice B2 m2 d2) := (blk_cell Z2.out 2).trans rfl
  have z3 : w4.cell? ⟨w.heap.size + 2, 3, none⟩ = some (.int .i64 rb) := (blk_cell Z2.out 3).trans rfl
  have zl : w.heap.size + 2 < w4.heap.size := blk_lt Z2.out
  cases Xo with
  | false =>
    have HR := Lh (HN1.out rfl)
    clear HN1 HN2 HN3 HN4 HYS HGO HSTOP HNEG HZ HA2 HT HM
    have r0 : w4.cell? ⟨w.heap.size + 3, 0, none⟩ = some (.int .i64 0) := (blk_cell Z3.out 0).trans rfl
    have f0 : w4.frozen? ⟨w.heap.size + 3, 0, none⟩ = false := blk_frozen Z3.out 0
    have r1 : w4.cell? ⟨w.heap.size + 3, 1, none⟩ = some (.int .i64 0) := (blk_cell Z3.out 1).trans rfl
    have f1 : w4.frozen? ⟨w.heap.size + 3, 1, none⟩ = false := blk_frozen Z3.out 1
    have r2 : w4.cell? ⟨w.heap.size + 3, 2, none⟩ = some (.int .i64 0) := (blk_cell Z3.out 2).trans rfl
    have f2 : w4.frozen? ⟨w.heap.size + 3, 2, none⟩ = false := blk_frozen Z3.out 2
    have r3 : w4.cell? ⟨w.heap.size + 3, 3, none⟩ = some (.int .i64 0) := (blk_cell Z3.out 3).trans rfl
    have f3 : w4.frozen? ⟨w.heap.size + 3, 3, none⟩ = false := blk_frozen Z3.out 3
    obtain ⟨V, hV⟩ : ∃ V, set4 w4 (w.heap.size + 1 + 1 + 1) (.int .i64 0) (.int .i64 0) (.int .i64 0) (.int .i64 0) = V := ⟨_, rfl⟩
    have HV : V.heap[w.heap.size + 3]? = some (.cells #[.int .i64 0, .int .i64 0, .int .i64 0, .int .i64 0] 40 (0, 0)) := by rw [← hV]; exact blk4_set Z3.out _ _ _ _
    have HBV : Below w.heap.size w V := by rw [← hV]; exact below_set4 ZB.out (by omega) _ _ _ _
    have t0 : V.cell? ⟨w.heap.size + 1 + 1 + 1, 0, none⟩ = some (.int .i64 0) := (blk_cell HV 0).trans rfl
    have t1 : V.cell? ⟨w.heap.size + 1 + 1 + 1, 1, none⟩ = some (.int .i64 0) := (blk_cell HV 1).trans rfl
    have t2 : V.cell? ⟨w.heap.size + 1 + 1 + 1, 2, none⟩ = some (.int .i64 0) := (blk_cell HV 2).trans rfl
    have t3 : V.cell? ⟨w.heap.size + 1 + 1 + 1, 3, none⟩ = some (.int .i64 0) := (blk_cell HV 3).trans rfl
    go_wp2
    (try rw [hV])
    exact bodyPost_ret (v := .tuple #[.int .i64 0, .agg #[.int .i64 0, .int .i64 0, .int .i64 0, .int .i64 0], .bool false]) (by simp [results, Try.results39, go_sem, t0, t1, t2, t3]) rfl ⟨by rw [HR.out]; rfl, HBV⟩
  | true =>
    cases WO with
    | false =>
      have HR := Lh (HN2.out rfl)
      clear HN1 HN2 HN3 HN4 HYS HGO HSTOP HNEG HZ HA2 HT HM
      have r0 : w4.cell? ⟨w.heap.size + 3, 0, none⟩ = some (.int .i64 0) := (blk_cell Z3.out 0).trans rfl
      have f0 : w4.frozen? ⟨w.heap.size + 3, 0, none⟩ = false := blk_frozen Z3.out 0
      have r1 : w4.cell? ⟨w.heap.size + 3, 1, none⟩ = some (.int .i64 0) := (blk_cell Z3.out 1).trans rfl
      have f1 : w4.frozen? ⟨w.heap.size + 3, 1, none⟩ = false := blk_frozen Z3.out 1
      have r2 : w4.cell? ⟨w.heap.size + 3, 2, none⟩ = some (.int .i64 0) := (blk_cell Z3.out 2).trans rfl
      have f2 : w4.frozen? ⟨w.heap.size + 3, 2, none⟩ = false := blk_frozen Z3.out 2
      have r3 : w4.cell? ⟨w.heap.size + 3, 3, none⟩ = some (.int .i64 0) := (blk_cell Z3.out 3).trans rfl
      have f3 : w4.frozen? ⟨w.heap.size + 3, 3, none⟩ = false := blk_frozen Z3.out 3
      obtain ⟨V, hV⟩ : ∃ V, set4 w4 (w.heap.size + 1 + 1 + 1) (.int .i64 0) (.int .i64 0) (.int .i64 0) (.int .i64 0) = V := ⟨_, rfl⟩
      have HV : V.heap[w.heap.size + 3]? = some (.cells #[.int .i64 0, .int .i64 0, .int .i64 0, .int .i64 0] 40 (0, 0)) := by rw [← hV]; exact blk4_set Z3.out _ _ _ _
      have HBV : Below w.heap.size w V := by rw [← hV]; exact below_set4 ZB.out (by omega) _ _ _ _
      have t0 : V.cell? ⟨w.heap.size + 1 + 1 + 1, 0, none⟩ = some (.int .i64 0) := (blk_cell HV 0).trans rfl
      have t1 : V.cell? ⟨w.heap.size + 1 + 1 + 1, 1, none⟩ = some (.int .i64 0) := (blk_cell HV 1).trans rfl
      have t2 : V.cell? ⟨w.heap.size + 1 + 1 + 1, 2, none⟩ = some (.int .i64 0) := (blk_cell HV 2).trans rfl
      have t3 : V.cell? ⟨w.heap.size + 1 + 1 + 1, 3, none⟩ = some (.int .i64 0) := (blk_cell HV 3).trans rfl
      go_wp2
      (try rw [hV])
      exact bodyPost_ret (v := .tuple #[.int .i64 0, .agg #[.int .i64 0, .int .i64 0, .int .i64 0, .int .i64 0], .bool false]) (by simp [results, Try.results39, go_sem, t0, t1, t2, t3]) rfl ⟨by rw [HR.out]; rfl, HBV⟩
    | true =>
      by_cases tn : 16 < n0
      · have en : decide (16 < (n0 : Int)) = true := decide_eq_true (by omega)
        have HR := Lh (HN3.out tn)
        clear HN1 HN2 HN3 HN4 HYS HGO HSTOP HNEG HZ HA2 HT HM
        have r0 : w4.cell? ⟨w.heap.size + 3, 0, none⟩ = some (.int .i64 0) := (blk_cell Z3.out 0).trans rfl
        have f0 : w4.frozen? ⟨w.heap.size + 3, 0, none⟩ = false := blk_frozen Z3.out 0
        have r1 : w4.cell? ⟨w.heap.size + 3, 1, none⟩ = some (.int .i64 0) := (blk_cell Z3.out 1).trans rfl
        have f1 : w4.frozen? ⟨w.heap.size + 3, 1, none⟩ = false := blk_frozen Z3.out 1
        have r2 : w4.cell? ⟨w.heap.size + 3, 2, none⟩ = some (.int .i64 0) := (blk_cell Z3.out 2).trans rfl
        have f2 : w4.frozen? ⟨w.heap.size + 3, 2, none⟩ = false := blk_frozen Z3.out 2
        have r3 : w4.cell? ⟨w.heap.size + 3, 3, none⟩ = some (.int .i64 0) := (blk_cell Z3.out 3).trans rfl
        have f3 : w4.frozen? ⟨w.heap.size + 3, 3, none⟩ = false := blk_frozen Z3.out 3
        obtain ⟨V, hV⟩ : ∃ V, set4 w4 (w.heap.size + 1 + 1 + 1) (.int .i64 0) (.int .i64 0) (.int .i64 0) (.int .i64 0) = V := ⟨_, rfl⟩
        have HV : V.heap[w.heap.size + 3]? = some (.cells #[.int .i64 0, .int .i64 0, .int .i64 0, .int .i64 0] 40 (0, 0)) := by rw [← hV]; exact blk4_set Z3.out _ _ _ _
        have HBV : Below w.heap.size w V := by rw [← hV]; exact below_set4 ZB.out (by omega) _ _ _ _
        have t0 : V.cell? ⟨w.heap.size + 1 + 1 + 1, 0, none⟩ = some (.int .i64 0) := (blk_cell HV 0).trans rfl
        have t1 : V.cell? ⟨w.heap.size + 1 + 1 + 1, 1, none⟩ = some (.int .i64 0) := (blk_cell HV 1).trans rfl
        have t2 : V.cell? ⟨w.heap.size + 1 + 1 + 1, 2, none⟩ = some (.int .i64 0) := (blk_cell HV 2).trans rfl
        have t3 : V.cell? ⟨w.heap.size + 1 + 1 + 1, 3, none⟩ = some (.int .i64 0) := (blk_cell HV 3).trans rfl
        go_wp2
        (try rw [hV])
        exact bodyPost_ret (v := .tuple #[.int .i64 0, .agg #[.int .i64 0, .int .i64 0, .int .i64 0, .int .i64 0], .bool false]) (by simp [results, Try.results39, go_sem, t0, t1, t2, t3]) rfl ⟨by rw [HR.out]; rfl, HBV⟩
      have en : decide (16 < (n0 : Int)) = false := decide_eq_false (by omega)
      have HYT := Lh (show MY 16 = true → CF = (CL 16 0 (⟨Xx, Xy, Xz⟩, Xg), true) from fun h => HYS.out (by trivial) (by trivial) (by omega) h)
      clear HN1 HN2 HN3 HYS
      go_wp2_with fail
      go_loopw [12, 13] (fun v12 v13 wr => ∃ k : Nat, 1 ≤ k ∧ k ≤ 17 ∧ v12 = .int .i64 k ∧ Hid (k = 17 → MY 16 = true) ∧ Hid (Below w4.heap.size w4 wr)) (fun v12 _ _ => 17 - (intOf v12).toNat)
      case atStart => exact ⟨1, by omega, by omega, rfl, Lh (by omega), Lh (Below.refl _ _)⟩
      case round =>
        obtain ⟨k, hk1, hk2, rfl, hM, hB⟩ := hrel
        obtain ⟨wq, hwq⟩ : ∃ x : World, x = wr := ⟨_, rfl⟩
        subst hwq
        clear x0 x1 x2 x3 xl y0 y1 y2 yl z0 z1 z2 z3 zl en tn
        replace Z0 := Lh ((hB.out.block _ (blk_lt Z0.out)).trans Z0.out)
        replace Z1 := Lh ((hB.out.block _ (blk_lt Z1.out)).trans Z1.out)
        replace Z2 := Lh ((hB.out.block _ (blk_lt Z2.out)).trans Z2.out)
        replace Z3 := Lh ((hB.out.block _ (blk_lt Z3.out)).trans Z3.out)
        replace HX := Lh ((hB.out.block _ (blk_lt HX.out)).trans HX.out)
        replace ZB := Lh (bthen ZB.out hB.out)
        have x0 : wq.cell? ⟨w.heap.size, 0, none⟩ = some (.slice A0 n0 c0) := (blk_cell Z0.out 0).trans rfl
        have x1 : wq.cell? ⟨w.heap.size, 1, none⟩ = some (.slice A1 n1 c1) := (blk_cell Z0.out 1).trans rfl
        have x2 : wq.cell? ⟨w.heap.size, 2, none⟩ = some (.slice A2 n2 c2) := (blk_cell Z0.out 2).trans rfl
        have x3 : wq.cell? ⟨w.heap.size, 3, none⟩ = some (.int .i64 ra) := (blk_cell Z0.out 3).trans rfl
        have xl : w.heap.size < wq.heap.size := blk_lt Z0.out
        have y0 : wq.cell? ⟨w.heap.size + 1, 0, none⟩ = some (.int .i64 yx) := (blk_cell Z1.out 0).trans rfl
        have y1 : wq.cell? ⟨w.heap.size + 1, 1, none⟩ = some (.int .i64 yy) := (blk_cell Z1.out 1).trans rfl
        have y2 : wq.cell? ⟨w.heap.size + 1, 2, none⟩ = some (.int .i64 yz) := (blk_cell Z1.out 2).trans rfl
        have yl : w.heap.size + 1 < wq.heap.size := blk_lt Z1.out
        have z0 : wq.cell? ⟨w.heap.size + 2, 0, none⟩ = some (.slice B0 m0 d0) := (blk_cell Z2.out 0).trans rfl
        have z1 : wq.cell? ⟨w.heap.size + 2, 1, none⟩ = some (.slice B1 m1 d1) := (blk_cell Z2.out 1).trans rfl
        have z2 : wq.cell? ⟨w.heap.size + 2, 2, none⟩ = some (.slice B2 m2 d2) := (blk_cell Z2.out 2).trans rfl
        have z3 : wq.cell? ⟨w.heap.size + 2, 3, none⟩ = some (.int .i64 rb) := (blk_cell Z2.out 3).trans rfl
        have zl : w.heap.size + 2 < wq.heap.size := blk_lt Z2.out
        by_cases t2 : k ≤ 16
        · have e2 : decide ((k : Int) ≤ 16) = true := decide_eq_true (by omega)
          have HK := Lh (show (k : Int) = 16 ↔ k = 16 by omega)
          go_wp2_with fail
          with_reducible refine (HT.out _ (k : Int) (HVA.out.below ZB.out)).mono ?_
          rintro en w5 ⟨u5, rfl, hv, hb⟩
          go_wp2_with fail
          with_reducible refine (HM.out (k : Int) _ _ hv).mono ?_
          rintro en w6 ⟨rfl, hb2⟩
          have hb3 := bthen hb hb2
          replace Z0 := Lh ((hb3.block _ (blk_lt Z0.out)).trans Z0.out)
          replace Z1 := Lh ((hb3.block _ (blk_lt Z1.out)).trans Z1.out)
          replace Z2 := Lh ((hb3.block _ (blk_lt Z2.out)).trans Z2.out)
          replace Z3 := Lh ((hb3.block _ (blk_lt Z3.out)).trans Z3.out)
          replace HX := Lh ((hb3.block _ (blk_lt HX.out)).trans HX.out)
          replace ZB := Lh (bthen ZB.out hb3)
          have hB := Lh (bthen hB.out hb3)
          clear hb hb2 hb3 hv x0 x1 x2 x3 xl y0 y1 y2 yl z0 z1 z2 z3 zl e2
          obtain ⟨MK, hMK⟩ : ∃ R, MY (k : Int) = R := ⟨_, rfl⟩
          rw [hMK]
          have HMK := Lh hMK
          clear hMK
          cases MK with
          | false =>
            have HR := Lh (HN4.out (k : Int) (by omega) (by omega) HMK.out)
            clear HN4 HYT HGO HSTOP HNEG HZ HA2 HT HM
            have r0 : w6.cell? ⟨w.heap.size + 3, 0, none⟩ = some (.int .i64 0) := (blk_cell Z3.out 0).trans rfl
            have f0 : w6.frozen? ⟨w.heap.size + 3, 0, none⟩ = false := blk_frozen Z3.out 0
            have r1 : w6.cell? ⟨w.heap.size + 3, 1, none⟩ = some (.int .i64 0) := (blk_cell Z3.out 1).trans rfl
            have f1 : w6.frozen? ⟨w.heap.size + 3, 1, none⟩ = false := blk_frozen Z3.out 1
            have r2 : w6.cell? ⟨w.heap.size + 3, 2, none⟩ = some (.int .i64 0) := (blk_cell Z3.out 2).trans rfl
            have f2 : w6.frozen? ⟨w.heap.size + 3, 2, none⟩ = false := blk_frozen Z3.out 2
            have r3 : w6.cell? ⟨w.heap.size + 3, 3, none⟩ = some (.int .i64 0) := (blk_cell Z3.out 3).trans rfl
            have f3 : w6.frozen? ⟨w.heap.size + 3, 3, none⟩ = false := blk_frozen Z3.out 3
            obtain ⟨V, hV⟩ : ∃ V, set4 w6 (w.heap.size + 1 + 1 + 1) (.int .i64 0) (.int .i64 0) (.int .i64 0) (.int .i64 0) = V := ⟨_, rfl⟩
            have HV : V.heap[w.heap.size + 3]? = some (.cells #[.int .i64 0, .int .i64 0, .int .i64 0, .int .i64 0] 40 (0, 0)) := by rw [← hV]; exact blk4_set Z3.out _ _ _ _
            have HBV : Below w.heap.size w V := by rw [← hV]; exact below_set4 ZB.out (by omega) _ _ _ _
            have t0 : V.cell? ⟨w.heap.size + 1 + 1 + 1, 0, none⟩ = some (.int .i64 0) := (blk_cell HV 0).trans rfl
            have t1 : V.cell? ⟨w.heap.size + 1 + 1 + 1, 1, none⟩ = some (.int .i64 0) := (blk_cell HV 1).trans rfl
            have t2 : V.cell? ⟨w.heap.size + 1 + 1 + 1, 2, none⟩ = some (.int .i64 0) := (blk_cell HV 2).trans rfl
            have t3 : V.cell? ⟨w.heap.size + 1 + 1 + 1, 3, none⟩ = some (.int .i64 0) := (blk_cell HV 3).trans rfl
            go_wp2
            (try rw [hV])
            exact bodyPost_ret (v := .tuple #[.int .i64 0, .agg #[.int .i64 0, .int .i64 0, .int .i64 0, .int .i64 0], .bool false]) (by simp [results, Try.results39, go_sem, t0, t1, t2, t3]) rfl ⟨by rw [HR.out]; rfl, HBV⟩
          | true =>
            go_wp2
            go_roundw
            case rel => exact ⟨k + 1, by omega, by omega, by go_num, Lh (fun e => by have e1 := HK.out.2 (by omega); have e2 := HMK.out; rw [e1] at e2; exact e2), hB⟩
            case measure => simp [intOf]; omega
        · have e2 : decide ((k : Int) ≤ 16) = false := decide_eq_false (by omega)
          obtain rfl : k = 17 := by omega
          have HYU := Lh (HYT.out (hM.out rfl))
          clear hM HYT HN4 t2 hk1 hk2
          have p3 : wq.cell? ⟨XB, 3, none⟩ = some (.int .i64 Xg) := (blk_cell HX.out 3).trans rfl
          have pl : XB < wq.heap.size := blk_lt HX.out
          by_cases t1 : Xg < 0
          · have e1 : decide (Xg < 0) = true := decide_eq_true t1
            have HNE := Lh (HNEG.out 16 0 ((⟨Xx, Xy, Xz⟩, Xg) : P3 × Int) t1)
            have HRES := Lh (show CF = ((0, ((⟨Xx, Xy, Xz⟩, Xg) : P3 × Int)), true) from by rw [HYU.out, HNE.out])
            clear HYU HGO HSTOP HNEG HZ HA2 HT HM
            go_wp2_with fail
            have HB := Lh ((Below.refl wq.heap.size wq).drew)
            have FF := Lh (show ∀ V, Hid (Below wq.heap.size wq V) → V.cell? ⟨XB, 0, none⟩ = some (.int .i64 Xx) ∧ V.cell? ⟨XB, 1, none⟩ = some (.int .i64 Xy) ∧ V.cell? ⟨XB, 2, none⟩ = some (.int .i64 Xz) ∧ V.cell? ⟨XB, 3, none⟩ = some (.int .i64 Xg) from fun V HB => have e := (HB.out.block _ (blk_lt HX.out)).trans HX.out; ⟨(blk_cell e 0).trans rfl, (blk_cell e 1).trans rfl, (blk_cell e 2).trans rfl, (blk_cell e 3).trans rfl⟩)
            refine start_ (n := 4) (S := fun w' => w'.cell? ⟨XB, 0, none⟩ = some (.int .i64 Xx) ∧ w'.cell? ⟨XB, 1, none⟩ = some (.int .i64 Xy) ∧ w'.cell? ⟨XB, 2, none⟩ = some (.int .i64 Xz) ∧ w'.cell? ⟨XB, 3, none⟩ = some (.int .i64 Xg)) (ds := [2]) (MT 0 4) (by kernel_rfl) rfl rfl (FF.out _ HB) (fun hHeld => ?_)
            obtain ⟨wd, hwd⟩ : ∃ x, wq.drew = x := ⟨_, rfl⟩
            rw [hwd] at HB hHeld ⊢
            clear hwd
            refine pu_ 1 6 (h := ?_)
            refine ta_ 0 53 hHeld (h := ?_)
            refine last_ (i := 2) (N := none) (MT 3 1) rfl rfl (by kernel_rfl) (by decide) (fun K hK => ?_)
            have R4 := (HB.out.block _ (blk_lt Z3.out)).trans Z3.out
            have sc0 : World.cell? _ ⟨w.heap.size + 3, 0, none⟩ = some (.int .i64 0) := (blk_cell R4 0).trans rfl
            have sf0 : World.frozen? _ ⟨w.heap.size + 3, 0, none⟩ = false := blk_frozen R4 0
            have sc1 : World.cell? _ ⟨w.heap.size + 3, 1, none⟩ = some (.int .i64 0) := (blk_cell R4 1).trans rfl
            have sf1 : World.frozen? _ ⟨w.heap.size + 3, 1, none⟩ = false := blk_frozen R4 1
            have sc2 : World.cell? _ ⟨w.heap.size + 3, 2, none⟩ = some (.int .i64 0) := (blk_cell R4 2).trans rfl
            have sf2 : World.frozen? _ ⟨w.heap.size + 3, 2, none⟩ = false := blk_frozen R4 2
            have sc3 : World.cell? _ ⟨w.heap.size + 3, 3, none⟩ = some (.int .i64 0) := (blk_cell R4 3).trans rfl
            have sf3 : World.frozen? _ ⟨w.heap.size + 3, 3, none⟩ = false := blk_frozen R4 3
            refine skip_ (w1 := ?_) (by rfl) rfl ?_ ?_
            rotate_left
            · go_simp
              rfl
            refine hK.out _ _ ?_
            clear hK K
            refine pu_ 3 8 (h := ?_)
            refine done_ (by kernel_rfl) ?_
            have DST := bs4 R4 (.int .i64 Xx) (.int .i64 Xy) (.int .i64 Xz) (.int .i64 Xg)
            have HBX := bb4 (HB.out.mono (show w.heap.size ≤ wq.heap.size from ZB.out.size)) (show w.heap.size ≤ w.heap.size + 3 by omega) (.int .i64 Xx) (.int .i64 Xy) (.int .i64 Xz) (.int .i64 Xg)
            obtain ⟨w99, hV⟩ : ∃ V, ((((wd.setCell ⟨w.heap.size + 3, 0, none⟩ (.int .i64 Xx)).setCell ⟨w.heap.size + 3, 1, none⟩ (.int .i64 Xy)).setCell ⟨w.heap.size + 3, 2, none⟩ (.int .i64 Xz)).setCell ⟨w.heap.size + 3, 3, none⟩ (.int .i64 Xg)) = V := ⟨_, rfl⟩
            rw [hV] at DST HBX 
            (try rw [hV])
            have hVV := Lh hV
            have DST := Lh DST
            have HBX := Lh HBX
            clear hV hHeld HB FF R4 sc0 sf0 sc1 sf1 sc2 sf2 sc3 sf3 
            have t0 : w99.cell? ⟨w.heap.size + 1 + 1 + 1, 0, none⟩ = some (.int .i64 Xx) := (blk_cell DST.out 0).trans rfl
            have t1 : w99.cell? ⟨w.heap.size + 1 + 1 + 1, 1, none⟩ = some (.int .i64 Xy) := (blk_cell DST.out 1).trans rfl
            have t2 : w99.cell? ⟨w.heap.size + 1 + 1 + 1, 2, none⟩ = some (.int .i64 Xz) := (blk_cell DST.out 2).trans rfl
            have t3 : w99.cell? ⟨w.heap.size + 1 + 1 + 1, 3, none⟩ = some (.int .i64 Xg) := (blk_cell DST.out 3).trans rfl
            go_wp2
            (try rw [hVV.out])
            exact bodyPost_ret (v := .tuple #[.int .i64 0, .agg #[.int .i64 Xx, .int .i64 Xy, .int .i64 Xz, .int .i64 Xg], .bool true]) (by simp [results, Try.results39, go_sem, t0, t1, t2, t3]) rfl ⟨by rw [HRES.out] <;> rfl, ZB.out.trans HBX.out⟩
          have e1 : decide (Xg < 0) = false := decide_eq_false t1
          have hxb : w.heap.size + 3 < XB := hs2
          have HBB := Lh (Below.refl XB wq)
          have HXl := Lh pl
          have HT1 := Lh t1
          go_wp2_with fail
          go_loopw [14, 15, 16] (fun v14 v15 v16 wr => ∃ (k : Nat) (X : P3 × Int), k ≤ 16 ∧ v14 = .int .i64 k ∧ Hid (0 ≤ X.2) ∧ Hid (CL (16 - k) k X = CL 16 0 (⟨Xx, Xy, Xz⟩, Xg)) ∧ Hid (wr.heap[XB]? = some (.cells #[.int .i64 X.1.x, .int .i64 X.1.y, .int .i64 X.1.z, .int .i64 X.2] 40 (0, 0))) ∧ Hid (Below XB wq wr)) (fun v14 _ _ _ => 16 - (intOf v14).toNat)
          case atStart => exact ⟨0, _, by omega, rfl, Lh (show (0 : Int) ≤ Xg by have := HT1.out; omega), Lh rfl, HX, HBB⟩
          case round =>
            obtain ⟨k, X, hk, rfl, hP, hC, hX, hB2⟩ := hrel
            clear HX p3 pl x0 x1 x2 x3 xl y0 y1 y2 yl z0 z1 z2 z3 zl e1 e2 hB HBB
            have hB := hB2
            clear hB2
            obtain ⟨wz, hwz⟩ : ∃ x : World, x = wr := ⟨_, rfl⟩
            subst hwz
            obtain ⟨⟨Px, Py, Pz⟩, Pg⟩ := X
            simp only at hX hP
            have HX := Lh hX.out
            have hs5 : wq.heap.size ≤ wz.heap.size := hB.out.size
            replace Z0 := Lh ((hB.out.block _ (show w.heap.size < XB by omega)).trans Z0.out)
            replace Z1 := Lh ((hB.out.block _ (show w.heap.size + 1 < XB by omega)).trans Z1.out)
            replace Z2 := Lh ((hB.out.block _ (show w.heap.size + 2 < XB by omega)).trans Z2.out)
            replace Z3 := Lh ((hB.out.block _ (show w.heap.size + 3 < XB by omega)).trans Z3.out)
            replace ZB := Lh (ZB.out.trans (hB.out.mono (show w.heap.size ≤ XB by omega)))
            have pl : XB < wz.heap.size := blk_lt HX.out
            clear hX
            by_cases t2 : (k : Int) < 16
            · have e2 : decide ((k : Int) < 16) = true := decide_eq_true t2
              have hwk : wrap64 ((k : Int) + 1) = (k : Int) + 1 := k16w_ t2
              have HTT := Lh (fun W h => HT.out W ((k : Int) + 1) h)
              have HAP := Lh (HA2.out ((k : Int) + 1))
              have HG := Lh (HGO.out (15 - k) k ((⟨Px, Py, Pz⟩, Pg) : P3 × Int))
              have HS := Lh (HSTOP.out (15 - k) k ((⟨Px, Py, Pz⟩, Pg) : P3 × Int))
              obtain ⟨TT, hTT⟩ : ∃ t, TR ((k : Int) + 1) = t := ⟨_, rfl⟩
              rw [hTT] at HTT HAP HG HS
              obtain ⟨Y, hY⟩ : ∃ t, AP TT = t := ⟨_, rfl⟩
              rw [hY] at HAP HG HS
              obtain ⟨⟨⟨Yx, Yy, Yz⟩, Yg⟩, Yo⟩ := Y
              simp only at HAP HG HS
              have HTT := Lh (show ∀ W, CrV W (.agg #[.slice A0 n0 c0, .slice A1 n1 c1, .slice A2 n2 c2, .int .i64 ra]) a → Calls Try.prog 38 #[.agg #[.slice A0 n0 c0, .slice A1 n1 c1, .slice A2 n2 c2, .int .i64 ra], aP ⟨yx, yy, yz⟩, .int .i64 (wrap64 ((k : Int) + 1))] W (TrailPost TT W) from by rw [hwk]; exact HTT.out)
              have HE : Hid (16 - k = (15 - k) + 1 ∧ 15 - k = 16 - (k + 1)) := Lh (k16e_ t2)
              rw [HE.out.1] at hC
              have hk16 : k < 16 := k16_ t2
              clear hTT hY t2 hwk
              have x0 : wz.cell? ⟨w.heap.size, 0, none⟩ = some (.slice A0 n0 c0) := (blk_cell Z0.out 0).trans rfl
              have x1 : wz.cell? ⟨w.heap.size, 1, none⟩ = some (.slice A1 n1 c1) := (blk_cell Z0.out 1).trans rfl
              have x2 : wz.cell? ⟨w.heap.size, 2, none⟩ = some (.slice A2 n2 c2) := (blk_cell Z0.out 2).trans rfl
              have x3 : wz.cell? ⟨w.heap.size, 3, none⟩ = some (.int .i64 ra) := (blk_cell Z0.out 3).trans rfl
              have xl : w.heap.size < wz.heap.size := blk_lt Z0.out
              have y0 : wz.cell? ⟨w.heap.size + 1, 0, none⟩ = some (.int .i64 yx) := (blk_cell Z1.out 0).trans rfl
              have y1 : wz.cell? ⟨w.heap.size + 1, 1, none⟩ = some (.int .i64 yy) := (blk_cell Z1.out 1).trans rfl
              have y2 : wz.cell? ⟨w.heap.size + 1, 2, none⟩ = some (.int .i64 yz) := (blk_cell Z1.out 2).trans rfl
              have yl : w.heap.size + 1 < wz.heap.size := blk_lt Z1.out
              have z0 : wz.cell? ⟨w.heap.size + 2, 0, none⟩ = some (.slice B0 m0 d0) := (blk_cell Z2.out 0).trans rfl
              have z1 : wz.cell? ⟨w.heap.size + 2, 1, none⟩ = some (.slice B1 m1 d1) := (blk_cell Z2.out 1).trans rfl
              have z2 : wz.cell? ⟨w.heap.size + 2, 2, none⟩ = some (.slice B2 m2 d2) := (blk_cell Z2.out 2).trans rfl
              have z3 : wz.cell? ⟨w.heap.size + 2, 3, none⟩ = some (.int .i64 rb) := (blk_cell Z2.out 3).trans rfl
              have zl : w.heap.size + 2 < wz.heap.size := blk_lt Z2.out
              go_wp2_with fail
              have HB := Lh ((Below.refl (wz.heap.size) wz).drew)
              have FF := Lh (show ∀ V, Hid (Below (wz.heap.size) wz V) → V.cell? ⟨w.heap.size, 0, none⟩ = some (.slice A0 n0 c0) ∧ V.cell? ⟨w.heap.size, 1, none⟩ = some (.slice A1 n1 c1) ∧ V.cell? ⟨w.heap.size, 2, none⟩ = some (.slice A2 n2 c2) ∧ V.cell? ⟨w.heap.size, 3, none⟩ = some (.int .i64 ra) ∧ V.cell? ⟨w.heap.size + 1, 0, none⟩ = some (.int .i64 yx) ∧ V.cell? ⟨w.heap.size + 1, 1, none⟩ = some (.int .i64 yy) ∧ V.cell? ⟨w.heap.size + 1, 2, none⟩ = some (.int .i64 yz) ∧ V.cell? ⟨w.heap.size + 2, 0, none⟩ = some (.slice B0 m0 d0) ∧ V.cell? ⟨w.heap.size + 2, 1, none⟩ = some (.slice B1 m1 d1) ∧ V.cell? ⟨w.heap.size + 2, 2, none⟩ = some (.slice B2 m2 d2) ∧ V.cell? ⟨w.heap.size + 2, 3, none⟩ = some (.int .i64 rb) from fun V HB => ⟨(HB.out.cell (p := ⟨w.heap.size, 0, none⟩) (xl)).trans x0, (HB.out.cell (p := ⟨w.heap.size, 1, none⟩) (xl)).trans x1, (HB.out.cell (p := ⟨w.heap.size, 2, none⟩) (xl)).trans x2, (HB.out.cell (p := ⟨w.heap.size, 3, none⟩) (xl)).trans x3, (HB.out.cell (p := ⟨w.heap.size + 1, 0, none⟩) (yl)).trans y0, (HB.out.cell (p := ⟨w.heap.size + 1, 1, none⟩) (yl)).trans y1, (HB.out.cell (p := ⟨w.heap.size + 1, 2, none⟩) (yl)).trans y2, (HB.out.cell (p := ⟨w.heap.size + 2, 0, none⟩) (zl)).trans z0, (HB.out.cell (p := ⟨w.heap.size + 2, 1, none⟩) (zl)).trans z1, (HB.out.cell (p := ⟨w.heap.size + 2, 2, none⟩) (zl)).trans z2, (HB.out.cell (p := ⟨w.heap.size + 2, 3, none⟩) (zl)).trans z3⟩)
              refine start_ (n := 13) (S := fun w' => w'.cell? ⟨w.heap.size, 0, none⟩ = some (.slice A0 n0 c0) ∧ w'.cell? ⟨w.heap.size, 1, none⟩ = some (.slice A1 n1 c1) ∧ w'.cell? ⟨w.heap.size, 2, none⟩ = some (.slice A2 n2 c2) ∧ w'.cell? ⟨w.heap.size, 3, none⟩ = some (.int .i64 ra) ∧ w'.cell? ⟨w.heap.size + 1, 0, none⟩ = some (.int .i64 yx) ∧ w'.cell? ⟨w.heap.size + 1, 1, none⟩ = some (.int .i64 yy) ∧ w'.cell? ⟨w.heap.size + 1, 2, none⟩ = some (.int .i64 yz) ∧ w'.cell? ⟨w.heap.size + 2, 0, none⟩ = some (.slice B0 m0 d0) ∧ w'.cell? ⟨w.heap.size + 2, 1, none⟩ = some (.slice B1 m1 d1) ∧ w'.cell? ⟨w.heap.size + 2, 2, none⟩ = some (.slice B2 m2 d2) ∧ w'.cell? ⟨w.heap.size + 2, 3, none⟩ = some (.int .i64 rb)) (ds := []) (MT 0 13) (by kernel_rfl) rfl rfl (FF.out _ HB) (fun hHeld => ?_)
              obtain ⟨wd, hwd⟩ : ∃ x, wz.drew = x := ⟨_, rfl⟩
              rw [hwd] at HB hHeld ⊢
              clear hwd
              refine pu_ 2 59 (h := ?_)
              refine pu_ 3 60 (h := ?_)
              refine ta_ 0 57 hHeld (h := ?_)
              refine ta_ 1 58 hHeld (h := ?_)
              refine ta_ 5 62 hHeld (h := ?_)
              refine join_ (σ := Nat × Value) 2 (MT 11 2) (fun s => [(15, .pointer (some ⟨s.1, 0, none⟩)), (61, s.2), (63, .tuple #[.agg #[.int .i64 Yx, .int .i64 Yy, .int .i64 Yz, .int .i64 Yg], .bool Yo]), (56, .tuple #[.agg #[.int .i64 Yx, .int .i64 Yy, .int .i64 Yz, .int .i64 Yg], .bool Yo]), (64, .agg #[.int .i64 Yx, .int .i64 Yy, .int .i64 Yz, .int .i64 Yg]), (65, .bool Yo)]) (fun (s : Nat × Value) w' => match s with | (s1, s2) => wz.heap.size ≤ s1 ∧ w'.heap[s1]? = some (.cells #[.int .i64 0, .int .i64 0, .int .i64 0, .int .i64 0] 40 (0, 0)) ∧ Below (wz.heap.size) wz w' ∧ CrV w' s2 TT) ?_ ?_
              rotate_left
              · intro hCont
                refine two_ (i := 4) (j := 10) (Ni := some 61) (Nj := some 15) (MT 6 7) #[true, true, true, true, false, true, false, false, false, false, true, false, false] rfl rfl rfl rfl (by kernel_rfl) (by decide) (by decide) (fun K hK => ?_) (fun K hK => ?_)
                · skip
                  refine gs_ Try.func38 #[.agg #[.slice A0 n0 c0, .slice A1 n1 c1, .slice A2 n2 c2, .int .i64 ra], aP ⟨yx, yy, yz⟩, .int .i64 (wrap64 ((k : Int) + 1))] ?_
                  with_reducible refine (HTT.out _ (HVA.out.below (bthen ZB.out HB.out))).mono ?_
                  rintro en w7 ⟨u7, rfl, hv, hb⟩
                  have HB := Lh (HB.out.trans (hb.mono HB.out.size))
                  have HV := Lh hv
                  clear hv
                  clear hb
                  refine ⟨_, rfl, ?_⟩
                  refine hK.out _ _ (FF.out _ HB) (fun hHeld => ?_)
                  clear hK K
                  refine no_ (h := ?_)
                  refine two_ (i := 6) (j := 10) (Ni := some 63) (Nj := some 15) (MT 7 6) #[true, true, true, true, true, true, false, false, false, false, true, false, false] rfl rfl rfl rfl (by kernel_rfl) (by decide) (by decide) (fun K hK => ?_) (fun K hK => ?_)
                  · skip
                    refine gs_ Try.func25 #[u7, .agg #[.slice B0 m0 d0, .slice B1 m1 d1, .slice B2 m2 d2, .int .i64 rb]] ?_
                    with_reducible refine (HAP.out _ _ HV.out (HVB.out.below (bthen ZB.out HB.out))).mono ?_
                    rintro en w7 ⟨rfl, hb⟩
                    have HB := Lh (HB.out.trans (hb.mono HB.out.size))
                    have HV := Lh (HV.out.below hb)
                    clear hb
                    refine ⟨_, rfl, ?_⟩
                    refine hK.out _ _ (FF.out _ HB) (fun hHeld => ?_)
                    clear hK K
                    refine no_ (h := ?_)
                    refine pu_ 7 56 (h := ?_)
                    refine pu_ 8 64 (h := ?_)
                    refine pu_ 9 65 (h := ?_)
                    refine on_ 10 (some 15) (h := fun K hK => ?_)
                    refine value_ (w1 := ?_) (v := ?_) (by rfl) rfl ?_ ?_
                    rotate_left 2
                    · go_simp
                      constructor
                      · rfl
                      · rfl
                    have HA := Lh (ha_new HB.out (.cells #[.int .i64 0, .int .i64 0, .int .i64 0, .int .i64 0] 40))
                    have hge := HB.out.size
                    have HB := Lh (HB.out.alloc (Nat.le_trans (Nat.le_refl _) HB.out.size) (.cells #[.int .i64 0, .int .i64 0, .int .i64 0, .int .i64 0] 40))
                    have HV := Lh (HV.out.below ((Below.refl _ _).alloc (Nat.le_refl _) (.cells #[.int .i64 0, .int .i64 0, .int .i64 0, .int .i64 0] 40)))
                    refine hK.out _ _ (FF.out _ HB) (fun hHeld => ?_)
                    clear hK K
                    refine no_ (h := ?_)
                    exact norm_ (by simp only [putAll, Act.put, List.setIfInBounds_toArray, List.set_cons_zero, List.set_cons_succ]) (hCont (_, _) _ ⟨hge, HA.out, HB.out, HV.out⟩)
                  · skip
                    refine value_ (w1 := ?_) (v := ?_) (by rfl) rfl ?_ ?_
                    rotate_left 2
                    · go_simp
                      constructor
                      · rfl
                      · rfl
                    have HA := Lh (ha_new HB.out (.cells #[.int .i64 0, .int .i64 0, .int .i64 0, .int .i64 0] 40))
                    have hge := HB.out.size
                    have HB := Lh (HB.out.alloc (Nat.le_trans (Nat.le_refl _) HB.out.size) (.cells #[.int .i64 0, .int .i64 0, .int .i64 0, .int .i64 0] 40))
                    have HV := Lh (HV.out.below ((Below.refl _ _).alloc (Nat.le_refl _) (.cells #[.int .i64 0, .int .i64 0, .int .i64 0, .int .i64 0] 40)))
                    refine hK.out _ _ (FF.out _ HB) (fun hHeld => ?_)
                    clear hK K
                    refine no_ (h := ?_)
                    refine on_ 6 (some 63) (h := fun K hK => ?_)
                    refine gs_ Try.func25 #[u7, .agg #[.slice B0 m0 d0, .slice B1 m1 d1, .slice B2 m2 d2, .int .i64 rb]] ?_
                    with_reducible refine (HAP.out _ _ HV.out (HVB.out.below (bthen ZB.out HB.out))).mono ?_
                    rintro en w7 ⟨rfl, hb⟩
                    have HB := Lh (HB.out.trans (hb.mono HB.out.size))
                    have HA := Lh ((hb.block _ (blk_lt HA.out)).trans HA.out)
                    have HV := Lh (HV.out.below hb)
                    clear hb
                    refine ⟨_, rfl, ?_⟩
                    refine hK.out _ _ (FF.out _ HB) (fun hHeld => ?_)
                    clear hK K
                    refine no_ (h := ?_)
                    refine pu_ 7 56 (h := ?_)
                    refine pu_ 8 64 (h := ?_)
                    refine pu_ 9 65 (h := ?_)
                    exact norm_ (by simp only [putAll, Act.put, List.setIfInBounds_toArray, List.set_cons_zero, List.set_cons_succ]) (hCont (_, _) _ ⟨hge, HA.out, HB.out, HV.out⟩)
                · skip
                  refine value_ (w1 := ?_) (v := ?_) (by rfl) rfl ?_ ?_
                  rotate_left 2
                  · go_simp
                    constructor
                    · rfl
                    · rfl
                  have HA := Lh (ha_new HB.out (.cells #[.int .i64 0, .int .i64 0, .int .i64 0, .int .i64 0] 40))
                  have hge := HB.out.size
                  have HB := Lh (HB.out.alloc (Nat.le_trans (Nat.le_refl _) HB.out.size) (.cells #[.int .i64 0, .int .i64 0, .int .i64 0, .int .i64 0] 40))
                  refine hK.out _ _ (FF.out _ HB) (fun hHeld => ?_)
                  clear hK K
                  refine no_ (h := ?_)
                  refine on_ 4 (some 61) (h := fun K hK => ?_)
                  refine gs_ Try.func38 #[.agg #[.slice A0 n0 c0, .slice A1 n1 c1, .slice A2 n2 c2, .int .i64 ra], aP ⟨yx, yy, yz⟩, .int .i64 (wrap64 ((k : Int) + 1))] ?_
                  with_reducible refine (HTT.out _ (HVA.out.below (bthen ZB.out HB.out))).mono ?_
                  rintro en w7 ⟨u7, rfl, hv, hb⟩
                  have HB := Lh (HB.out.trans (hb.mono HB.out.size))
                  have HA := Lh ((hb.block _ (blk_lt HA.out)).trans HA.out)
                  have HV := Lh hv
                  clear hv
                  clear hb
                  refine ⟨_, rfl, ?_⟩
                  refine hK.out _ _ (FF.out _ HB) (fun hHeld => ?_)
                  clear hK K
                  refine no_ (h := ?_)
                  refine on_ 6 (some 63) (h := fun K hK => ?_)
                  refine gs_ Try.func25 #[u7, .agg #[.slice B0 m0 d0, .slice B1 m1 d1, .slice B2 m2 d2, .int .i64 rb]] ?_
                  with_reducible refine (HAP.out _ _ HV.out (HVB.out.below (bthen ZB.out HB.out))).mono ?_
                  rintro en w7 ⟨rfl, hb⟩
                  have HB := Lh (HB.out.trans (hb.mono HB.out.size))
                  have HA := Lh ((hb.block _ (blk_lt HA.out)).trans HA.out)
                  have HV := Lh (HV.out.below hb)
                  clear hb
                  refine ⟨_, rfl, ?_⟩
                  refine hK.out _ _ (FF.out _ HB) (fun hHeld => ?_)
                  clear hK K
                  refine no_ (h := ?_)
                  refine pu_ 7 56 (h := ?_)
                  refine pu_ 8 64 (h := ?_)
                  refine pu_ 9 65 (h := ?_)
                  exact norm_ (by simp only [putAll, Act.put, List.setIfInBounds_toArray, List.set_cons_zero, List.set_cons_succ]) (hCont (_, _) _ ⟨hge, HA.out, HB.out, HV.out⟩)
              rintro ⟨AB, V⟩ wj ⟨hge, HA, HB, HV⟩
              have HA := Lh HA
              have HB := Lh HB
              (try simp only at hge HA HB HV)
              have HV := Lh HV
              have hHeld := FF.out _ HB
              refine no_ (h := ?_)
              refine on_ 11 (none) (h := fun K hK => ?_)
              have sc0 : World.cell? _ ⟨AB, 0, none⟩ = some (.int .i64 0) := (blk_cell HA.out 0).trans rfl
              have sf0 := blk_frozen HA.out 0
              have sc1 : World.cell? _ ⟨AB, 1, none⟩ = some (.int .i64 0) := (blk_cell HA.out 1).trans rfl
              have sf1 := blk_frozen HA.out 1
              have sc2 : World.cell? _ ⟨AB, 2, none⟩ = some (.int .i64 0) := (blk_cell HA.out 2).trans rfl
              have sf2 := blk_frozen HA.out 2
              have sc3 : World.cell? _ ⟨AB, 3, none⟩ = some (.int .i64 0) := (blk_cell HA.out 3).trans rfl
              have sf3 := blk_frozen HA.out 3
              refine skip_ (w1 := ?_) (by rfl) rfl ?_ ?_
              rotate_left
              · go_simp
                rfl
              have HA := Lh (bs4 HA.out (.int .i64 Yx) (.int .i64 Yy) (.int .i64 Yz) (.int .i64 Yg))
              have HB := Lh (bb4 HB.out (Nat.le_trans (Nat.le_refl _) hge) (.int .i64 Yx) (.int .i64 Yy) (.int .i64 Yz) (.int .i64 Yg))
              clear sc0 sf0 sc1 sf1 sc2 sf2 sc3 sf3
              refine hK.out _ _ (FF.out _ HB) (fun hHeld => ?_)
              clear hK K
              refine pu_ 12 16 (h := ?_)
              refine done_ (by kernel_rfl) ?_
              obtain ⟨w8, hwn⟩ : ∃ V, ((((wj.setCell ⟨AB, 0, none⟩ (.int .i64 Yx)).setCell ⟨AB, 1, none⟩ (.int .i64 Yy)).setCell ⟨AB, 2, none⟩ (.int .i64 Yz)).setCell ⟨AB, 3, none⟩ (.int .i64 Yg)) = V := ⟨_, rfl⟩
              rw [hwn] at HA HB ⊢
              clear hwn
              replace Z0 := Lh ((HB.out.block _ (blk_lt Z0.out)).trans Z0.out)
              replace Z3 := Lh ((HB.out.block _ (blk_lt Z3.out)).trans Z3.out)
              replace HX := Lh ((HB.out.block _ (blk_lt HX.out)).trans HX.out)
              replace ZB := Lh (bthen ZB.out HB.out)
              replace hB := Lh (hB.out.trans (HB.out.mono (show XB ≤ wz.heap.size by omega)))
              have HY := HA
              have hYX : Hid (XB < AB) := Lh (Nat.lt_of_lt_of_le pl hge)
              clear HB hge HV hHeld HTT HAP x0 x1 x2 x3 xl y0 y1 y2 yl z0 z1 z2 z3 zl pl HA e2
              have q3 : w8.cell? ⟨AB, 3, none⟩ = some (.int .i64 Yg) := (blk_cell HY.out 3).trans rfl
              have ql : AB < w8.heap.size := blk_lt HY.out
              by_cases t3 : Yg < 0
              · have e3 : decide (Yg < 0) = true := decide_eq_true t3
                have HRES := Lh (show CF = (((k : Nat), ((⟨Px, Py, Pz⟩, Pg) : P3 × Int)), true) from by rw [HYU.out, ← hC.out, HS.out _ rfl t3])
                clear HYU HGO HSTOP HNEG HZ HA2 HT HM
                go_wp2_with fail
                have HB := Lh ((Below.refl w8.heap.size w8).drew)
                have FF := Lh (show ∀ V, Hid (Below w8.heap.size w8 V) → V.cell? ⟨XB, 0, none⟩ = some (.int .i64 Px) ∧ V.cell? ⟨XB, 1, none⟩ = some (.int .i64 Py) ∧ V.cell? ⟨XB, 2, none⟩ = some (.int .i64 Pz) ∧ V.cell? ⟨XB, 3, none⟩ = some (.int .i64 Pg) from fun V HB => have e := (HB.out.block _ (blk_lt HX.out)).trans HX.out; ⟨(blk_cell e 0).trans rfl, (blk_cell e 1).trans rfl, (blk_cell e 2).trans rfl, (blk_cell e 3).trans rfl⟩)
                refine start_ (n := 5) (S := fun w' => w'.cell? ⟨XB, 0, none⟩ = some (.int .i64 Px) ∧ w'.cell? ⟨XB, 1, none⟩ = some (.int .i64 Py) ∧ w'.cell? ⟨XB, 2, none⟩ = some (.int .i64 Pz) ∧ w'.cell? ⟨XB, 3, none⟩ = some (.int .i64 Pg)) (ds := [3]) (MT 0 5) (by kernel_rfl) rfl rfl (FF.out _ HB) (fun hHeld => ?_)
                obtain ⟨wd, hwd⟩ : ∃ x, w8.drew = x := ⟨_, rfl⟩
                rw [hwd] at HB hHeld ⊢
                clear hwd
                refine pu_ 0 69 (h := ?_)
                refine pu_ 2 6 (h := ?_)
                refine ta_ 1 70 hHeld (h := ?_)
                refine last_ (i := 3) (N := none) (MT 4 1) rfl rfl (by kernel_rfl) (by decide) (fun K hK => ?_)
                have R4 := (HB.out.block _ (blk_lt Z3.out)).trans Z3.out
                have sc0 : World.cell? _ ⟨w.heap.size + 3, 0, none⟩ = some (.int .i64 0) := (blk_cell R4 0).trans rfl
                have sf0 : World.frozen? _ ⟨w.heap.size + 3, 0, none⟩ = false := blk_frozen R4 0
                have sc1 : World.cell? _ ⟨w.heap.size + 3, 1, none⟩ = some (.int .i64 0) := (blk_cell R4 1).trans rfl
                have sf1 : World.frozen? _ ⟨w.heap.size + 3, 1, none⟩ = false := blk_frozen R4 1
                have sc2 : World.cell? _ ⟨w.heap.size + 3, 2, none⟩ = some (.int .i64 0) := (blk_cell R4 2).trans rfl
                have sf2 : World.frozen? _ ⟨w.heap.size + 3, 2, none⟩ = false := blk_frozen R4 2
                have sc3 : World.cell? _ ⟨w.heap.size + 3, 3, none⟩ = some (.int .i64 0) := (blk_cell R4 3).trans rfl
                have sf3 : World.frozen? _ ⟨w.heap.size + 3, 3, none⟩ = false := blk_frozen R4 3
                refine skip_ (w1 := ?_) (by rfl) rfl ?_ ?_
                rotate_left
                · go_simp
                  rfl
                refine hK.out _ _ ?_
                clear hK K
                refine pu_ 4 8 (h := ?_)
                refine done_ (by kernel_rfl) ?_
                have DST := bs4 R4 (.int .i64 Px) (.int .i64 Py) (.int .i64 Pz) (.int .i64 Pg)
                have HBX := bb4 (HB.out.mono (show w.heap.size ≤ w8.heap.size from ZB.out.size)) (show w.heap.size ≤ w.heap.size + 3 by omega) (.int .i64 Px) (.int .i64 Py) (.int .i64 Pz) (.int .i64 Pg)
                obtain ⟨w99, hV⟩ : ∃ V, ((((wd.setCell ⟨w.heap.size + 3, 0, none⟩ (.int .i64 Px)).setCell ⟨w.heap.size + 3, 1, none⟩ (.int .i64 Py)).setCell ⟨w.heap.size + 3, 2, none⟩ (.int .i64 Pz)).setCell ⟨w.heap.size + 3, 3, none⟩ (.int .i64 Pg)) = V := ⟨_, rfl⟩
                rw [hV] at DST HBX 
                (try rw [hV])
                have hVV := Lh hV
                have DST := Lh DST
                have HBX := Lh HBX
                clear hV hHeld HB FF R4 sc0 sf0 sc1 sf1 sc2 sf2 sc3 sf3 
                have t0 : w99.cell? ⟨w.heap.size + 1 + 1 + 1, 0, none⟩ = some (.int .i64 Px) := (blk_cell DST.out 0).trans rfl
                have t1 : w99.cell? ⟨w.heap.size + 1 + 1 + 1, 1, none⟩ = some (.int .i64 Py) := (blk_cell DST.out 1).trans rfl
                have t2 : w99.cell? ⟨w.heap.size + 1 + 1 + 1, 2, none⟩ = some (.int .i64 Pz) := (blk_cell DST.out 2).trans rfl
                have t3 : w99.cell? ⟨w.heap.size + 1 + 1 + 1, 3, none⟩ = some (.int .i64 Pg) := (blk_cell DST.out 3).trans rfl
                go_wp2
                (try rw [hVV.out])
                exact bodyPost_ret (v := .tuple #[.int .i64 (k : Int), .agg #[.int .i64 Px, .int .i64 Py, .int .i64 Pz, .int .i64 Pg], .bool true]) (by simp [results, Try.results39, go_sem, t0, t1, t2, t3]) rfl ⟨by rw [HRES.out] <;> rfl, ZB.out.trans HBX.out⟩
              · have e3 : decide (Yg < 0) = false := decide_eq_false t3
                have HG2 := Lh (HG.out _ hP.out rfl (by omega))
                have HP2 := Lh (show (0 : Int) ≤ Yg by omega)
                have q0 : w8.cell? ⟨AB, 0, none⟩ = some (.int .i64 Yx) := (blk_cell HY.out 0).trans rfl
                have q1 : w8.cell? ⟨AB, 1, none⟩ = some (.int .i64 Yy) := (blk_cell HY.out 1).trans rfl
                have q2 : w8.cell? ⟨AB, 2, none⟩ = some (.int .i64 Yz) := (blk_cell HY.out 2).trans rfl
                have p0 : w8.cell? ⟨XB, 0, none⟩ = some (.int .i64 Px) := (blk_cell HX.out 0).trans rfl
                have p1 : w8.cell? ⟨XB, 1, none⟩ = some (.int .i64 Py) := (blk_cell HX.out 1).trans rfl
                have p2 : w8.cell? ⟨XB, 2, none⟩ = some (.int .i64 Pz) := (blk_cell HX.out 2).trans rfl
                have p3 : w8.cell? ⟨XB, 3, none⟩ = some (.int .i64 Pg) := (blk_cell HX.out 3).trans rfl
                have f0 := blk_frozen HX.out 0
                have f1 := blk_frozen HX.out 1
                have f2 := blk_frozen HX.out 2
                have f3 := blk_frozen HX.out 3
                have hNE : AB ≠ XB := Nat.ne_of_gt hYX.out
                have hNX : XB ≠ AB := Nat.ne_of_lt hYX.out
                clear t3
                go_wp2
                go_roundw
                case rel => exact ⟨k + 1, (⟨Yx, Yy, Yz⟩, Yg), by omega, by go_num, HP2, Lh (by rw [← HE.out.2, ← HG2.out]; exact hC.out), Lh (bs4 HX.out (.int .i64 Yx) (.int .i64 Yy) (.int .i64 Yz) (.int .i64 Yg)), Lh (bb4 hB.out (Nat.le_refl _) (.int .i64 Yx) (.int .i64 Yy) (.int .i64 Yz) (.int .i64 Yg))⟩
                case measure => simp [intOf]; omega
            · have e2 : decide ((k : Int) < 16) = false := decide_eq_false t2
              obtain rfl : k = 16 := by omega
              clear t2
              have HRES := Lh (show CF = (((16 : Nat), ((⟨Px, Py, Pz⟩, Pg) : P3 × Int)), true) from by rw [HYU.out, ← hC.out]; exact congrArg (fun t => (t, true)) (HZ.out 16 _))
              clear HYU HGO HSTOP HNEG HZ HA2 HT HM
              go_wp2_with fail
              have HB := Lh ((Below.refl wz.heap.size wz).drew)
              have FF := Lh (show ∀ V, Hid (Below wz.heap.size wz V) → V.cell? ⟨XB, 0, none⟩ = some (.int .i64 Px) ∧ V.cell? ⟨XB, 1, none⟩ = some (.int .i64 Py) ∧ V.cell? ⟨XB, 2, none⟩ = some (.int .i64 Pz) ∧ V.cell? ⟨XB, 3, none⟩ = some (.int .i64 Pg) from fun V HB => have e := (HB.out.block _ (blk_lt HX.out)).trans HX.out; ⟨(blk_cell e 0).trans rfl, (blk_cell e 1).trans rfl, (blk_cell e 2).trans rfl, (blk_cell e 3).trans rfl⟩)
              refine start_ (n := 5) (S := fun w' => w'.cell? ⟨XB, 0, none⟩ = some (.int .i64 Px) ∧ w'.cell? ⟨XB, 1, none⟩ = some (.int .i64 Py) ∧ w'.cell? ⟨XB, 2, none⟩ = some (.int .i64 Pz) ∧ w'.cell? ⟨XB, 3, none⟩ = some (.int .i64 Pg)) (ds := [3]) (MT 0 5) (by kernel_rfl) rfl rfl (FF.out _ HB) (fun hHeld => ?_)
              obtain ⟨wd, hwd⟩ : ∃ x, wz.drew = x := ⟨_, rfl⟩
              rw [hwd] at HB hHeld ⊢
              clear hwd
              refine pu_ 0 74 (h := ?_)
              refine pu_ 2 6 (h := ?_)
              refine ta_ 1 75 hHeld (h := ?_)
              refine last_ (i := 3) (N := none) (MT 4 1) rfl rfl (by kernel_rfl) (by decide) (fun K hK => ?_)
              have R4 := (HB.out.block _ (blk_lt Z3.out)).trans Z3.out
              have sc0 : World.cell? _ ⟨w.heap.size + 3, 0, none⟩ = some (.int .i64 0) := (blk_cell R4 0).trans rfl
              have sf0 : World.frozen? _ ⟨w.heap.size + 3, 0, none⟩ = false := blk_frozen R4 0
              have sc1 : World.cell? _ ⟨w.heap.size + 3, 1, none⟩ = some (.int .i64 0) := (blk_cell R4 1).trans rfl
              have sf1 : World.frozen? _ ⟨w.heap.size + 3, 1, none⟩ = false := blk_frozen R4 1
              have sc2 : World.cell? _ ⟨w.heap.size + 3, 2, none⟩ = some (.int .i64 0) := (blk_cell R4 2).trans rfl
              have sf2 : World.frozen? _ ⟨w.heap.size + 3, 2, none⟩ = false := blk_frozen R4 2
              have sc3 : World.cell? _ ⟨w.heap.size + 3, 3, none⟩ = some (.int .i64 0) := (blk_cell R4 3).trans rfl
              have sf3 : World.frozen? _ ⟨w.heap.size + 3, 3, none⟩ = false := blk_frozen R4 3
              refine skip_ (w1 := ?_) (by rfl) rfl ?_ ?_
              rotate_left
              · go_simp
                rfl
              refine hK.out _ _ ?_
              clear hK K
              refine pu_ 4 8 (h := ?_)
              refine done_ (by kernel_rfl) ?_
              have DST := bs4 R4 (.int .i64 Px) (.int .i64 Py) (.int .i64 Pz) (.int .i64 Pg)
              have HBX := bb4 (HB.out.mono (show w.heap.size ≤ wz.heap.size from ZB.out.size)) (show w.heap.size ≤ w.heap.size + 3 by omega) (.int .i64 Px) (.int .i64 Py) (.int .i64 Pz) (.int .i64 Pg)
              obtain ⟨w99, hV⟩ : ∃ V, ((((wd.setCell ⟨w.heap.size + 3, 0, none⟩ (.int .i64 Px)).setCell ⟨w.heap.size + 3, 1, none⟩ (.int .i64 Py)).setCell ⟨w.heap.size + 3, 2, none⟩ (.int .i64 Pz)).setCell ⟨w.heap.size + 3, 3, none⟩ (.int .i64 Pg)) = V := ⟨_, rfl⟩
              rw [hV] at DST HBX 
              (try rw [hV])
              have hVV := Lh hV
              have DST := Lh DST
              have HBX := Lh HBX
              clear hV hHeld HB FF R4 sc0 sf0 sc1 sf1 sc2 sf2 sc3 sf3 
              have t0 : w99.cell? ⟨w.heap.size + 1 + 1 + 1, 0, none⟩ = some (.int .i64 Px) := (blk_cell DST.out 0).trans rfl
              have t1 : w99.cell? ⟨w.heap.size + 1 + 1 + 1, 1, none⟩ = some (.int .i64 Py) := (blk_cell DST.out 1).trans rfl
              have t2 : w99.cell? ⟨w.heap.size + 1 + 1 + 1, 2, none⟩ = some (.int .i64 Pz) := (blk_cell DST.out 2).trans rfl
              have t3 : w99.cell? ⟨w.heap.size + 1 + 1 + 1, 3, none⟩ = some (.int .i64 Pg) := (blk_cell DST.out 3).trans rfl
              go_wp2
              (try rw [hVV.out])
              exact bodyPost_ret (v := .tuple #[.int .i64 ((16 : Nat) : Int), .agg #[.int .i64 Px, .int .i64 Py, .int .i64 Pz, .int .i64 Pg], .bool true]) (by simp [results, Try.results39, go_sem, t0, t1, t2, t3]) rfl ⟨by rw [HRES.out] <;> rfl, ZB.out.trans HBX.out⟩
end Go.Proofs.Ytckdhahceelckaa.G
