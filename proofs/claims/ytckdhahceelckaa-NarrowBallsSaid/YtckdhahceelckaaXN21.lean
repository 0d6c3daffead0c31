import Derived.Test.YtckdhahceelckaaXN20
namespace Go.Proofs.Ytckdhahceelckaa.G
open Go.RowKit Go.Proofs.YtckdhahceelckaaW.PrintWords Go.Proofs.YtckdhahceelckaaW.PrintLast Go.Proofs.YtckdhahceelckaaW.PrintMore
attribute [local go_sem] max2_mx min2_mn max_two min_two max_three min_three max_four min_four
attribute [local go_sem high] eqA23 eqA40
set_option linter.unusedVariables false
set_option linter.unusedSimpArgs false

/-- a raw point as one of the world's -/
def rightP (p : P3) (m : Int) : P3 := ⟨pickF p.x m - (m / 2), pickF p.y m - (m / 2), pickF p.z m - (m / 2)⟩
/-- the law NarrowBalls as a function, of the gap told -/
def ballsV (gap r s far : Int) : Bool :=
  let g := wrap64 (wrap64 (gap + r) + s)
  if g < 0 then false else if far < wrap64 (g * g) then false else
  let up := wrap64 (wrap64 (g + 2) + g / 65536)
  decide (far ≤ wrap64 (up * up))
def ballsOk (p q : P3) (r s : Int) : Bool := ballsV (apartF [p] [] [] r [q] [] [] s).2 r s (dot3 (minus3 q p) (minus3 q p))
set_option maxHeartbeats 4000000 in
set_option maxRecDepth 100000 in
theorem balls_calls (px py pz qx qy qz r s : Int) (w : World) (hp : ∀ c ∈ [px, py, pz, qx, qy, qz, r, s], -9223372036854775808 ≤ c ∧ c ≤ 9223372036854775807) :
    Calls Try.prog 4 #[.agg #[.int .i64 px, .int .i64 py, .int .i64 pz], .agg #[.int .i64 qx, .int .i64 qy, .int .i64 qz], .int .i64 r, .int .i64 s] w fun e w' => e = .returned (.bool (ballsOk (rightP ⟨px, py, pz⟩ 8388608) (rightP ⟨qx, qy, qz⟩ 8388608) (1 + pickF r 16384) (1 + pickF s 16384))) ∧ Below w.heap.size w w' := by
  have P0 := C3.new w (.int .i64 px) (.int .i64 py) (.int .i64 pz) 23
  have P1 := P0.alloc (.cells #[.int .i64 qx, .int .i64 qy, .int .i64 qz] 23)
  have Q1 := C3.new (w.alloc (.cells #[.int .i64 px, .int .i64 py, .int .i64 pz] 23)) (.int .i64 qx) (.int .i64 qy) (.int .i64 qz) 23
  rw [World.size_alloc] at Q1
  have HB1 : Below w.heap.size w ((w.alloc (.cells #[.int .i64 px, .int .i64 py, .int .i64 pz] 23)).alloc (.cells #[.int .i64 qx, .int .i64 qy, .int .i64 qz] 23)) := ((Below.refl _ w).alloc (Nat.le_refl _) _).alloc (by simp) _
  have P1 := Lib.hid P1
  have Q1 := Lib.hid Q1
  clear P0
  have hp1 := Lib.hid (hp px (by simp)); have hp2 := Lib.hid (hp py (by simp)); have hp3 := Lib.hid (hp pz (by simp)); have hq1 := Lib.hid (hp qx (by simp)); have hq2 := Lib.hid (hp qy (by simp)); have hq3 := Lib.hid (hp qz (by simp)); have hr1 := Lib.hid (hp r (by simp)); have hs1 := Lib.hid (hp s (by simp))
  clear hp
  go_enter Try.func4, Try.ntmps4
  go_wp2_with fail
  obtain ⟨w1, hw1⟩ : ∃ w1, ((w.alloc (.cells #[.int .i64 px, .int .i64 py, .int .i64 pz] 23)).alloc (.cells #[.int .i64 qx, .int .i64 qy, .int .i64 qz] 23)) = w1 := ⟨_, rfl⟩
  rw [hw1] at P1 Q1 HB1 ⊢
  clear hw1
  refine (awake_calls _).mono ?_
  rintro e w2 ⟨rfl, hb2⟩
  have P2 := Lib.hid (P1.out.below hb2)
  have Q2 := Lib.hid (Q1.out.below hb2)
  have HB2 := bthen HB1 hb2
  clear P1 Q1 HB1 hb2
  have b1 := pickF_bd px 8388608 (by decide)
  have b2 := pickF_bd py 8388608 (by decide)
  have b3 := pickF_bd pz 8388608 (by decide)
  have e1 : IntKind.i64.wrap (pickF px 8388608 - 4194304) = pickF px 8388608 - 4194304 := iw_id _ (by omega) (by omega)
  have e2 : IntKind.i64.wrap (pickF py 8388608 - 4194304) = pickF py 8388608 - 4194304 := iw_id _ (by omega) (by omega)
  have e3 : IntKind.i64.wrap (pickF pz 8388608 - 4194304) = pickF pz 8388608 - 4194304 := iw_id _ (by omega) (by omega)
  go_wp2_with fail
  have G0 := P2.out.drew
  refine start_ (n := 14) (S := fun w' => w'.cell? ⟨w.heap.size, 0, none⟩ = some (.int .i64 px) ∧ w'.cell? ⟨w.heap.size, 1, none⟩ = some (.int .i64 py) ∧ w'.cell? ⟨w.heap.size, 2, none⟩ = some (.int .i64 pz)) (ds := [13]) #[false, false, false, false, false, false, false, false, false, false, false, false, false, false] (by kernel_rfl) rfl rfl ⟨G0.c0, G0.c1, G0.c2⟩ (fun hHeld => ?_)
  refine pure_ (i := 0) (N := some 17) (v := ?_) (a' := ?_) #[true, false, false, false, false, false, false, false, false, false, false, false, false, false] rfl rfl (by kernel_rfl) (fun _ _ _ h => h) (Or.inl ⟨by rfl, ?_⟩) ?_ ?_
  rotate_left
  · intro w'
    go_simp
    with_reducible rfl
  rotate_left
  · simp only [Act.put, List.setIfInBounds_toArray, List.set_cons_zero, List.set_cons_succ]
    rfl
  refine pure_ (i := 4) (N := some 21) (v := ?_) (a' := ?_) #[true, false, false, false, true, false, false, false, false, false, false, false, false, false] rfl rfl (by kernel_rfl) (fun _ _ _ h => h) (Or.inl ⟨by rfl, ?_⟩) ?_ ?_
  rotate_left
  · intro w'
    go_simp
    with_reducible rfl
  rotate_left
  · simp only [Act.put, List.setIfInBounds_toArray, List.set_cons_zero, List.set_cons_succ]
    rfl
  refine pure_ (i := 8) (N := some 25) (v := ?_) (a' := ?_) #[true, false, false, false, true, false, false, false, true, false, false, false, false, false] rfl rfl (by kernel_rfl) (fun _ _ _ h => h) (Or.inl ⟨by rfl, ?_⟩) ?_ ?_
  rotate_left
  · intro w'
    go_simp
    with_reducible rfl
  rotate_left
  · simp only [Act.put, List.setIfInBounds_toArray, List.set_cons_zero, List.set_cons_succ]
    rfl
  refine take_ (i := 1) (N := some 18) (v := ?_) (a' := ?_) #[true, true, false, false, true, false, false, false, true, false, false, false, false, false] rfl rfl (by kernel_rfl) (fun _ _ _ h => h) (Or.inl ⟨by rfl, ?_⟩) (by assumption) ?_ ?_
  rotate_left
  · rintro w' ⟨s0, s1, s2⟩
    go_simp
    with_reducible rfl
  rotate_left
  · simp only [Act.put, List.setIfInBounds_toArray, List.set_cons_zero, List.set_cons_succ]
    rfl
  refine take_ (i := 5) (N := some 22) (v := ?_) (a' := ?_) #[true, true, false, false, true, true, false, false, true, false, false, false, false, false] rfl rfl (by kernel_rfl) (fun _ _ _ h => h) (Or.inl ⟨by rfl, ?_⟩) (by assumption) ?_ ?_
  rotate_left
  · rintro w' ⟨s0, s1, s2⟩
    go_simp
    with_reducible rfl
  rotate_left
  · simp only [Act.put, List.setIfInBounds_toArray, List.set_cons_zero, List.set_cons_succ]
    rfl
  refine take_ (i := 9) (N := some 26) (v := ?_) (a' := ?_) #[true, true, false, false, true, true, false, false, true, true, false, false, false, false] rfl rfl (by kernel_rfl) (fun _ _ _ h => h) (Or.inl ⟨by rfl, ?_⟩) (by assumption) ?_ ?_
  rotate_left
  · rintro w' ⟨s0, s1, s2⟩
    go_simp
    with_reducible rfl
  rotate_left
  · simp only [Act.put, List.setIfInBounds_toArray, List.set_cons_zero, List.set_cons_succ]
    rfl
  refine one_ (i := 2) (N := some 19) #[true, true, true, false, true, true, false, false, true, true, false, false, false, false] rfl rfl (by kernel_rfl) (by decide) (fun K hK => ?_)
  refine goes_ Try.func22 (by kernel_rfl) rfl #[.int .i64 px, .int .i64 8388608] (by rfl) rfl rfl (by first | rfl | (simp only [List.map_toArray, List.map_cons, List.map_nil]; rfl)) ?_
  with_reducible refine (pick_calls px 8388608 hp1.out.1 hp1.out.2 (by decide) (by decide) _).mono ?_
  rintro e w' ⟨rfl, rfl⟩
  refine ⟨_, rfl, ?_⟩
  refine hK.out _ _ ⟨G0.c0, G0.c1, G0.c2⟩ (fun hHeld => ?_)
  clear hK K
  refine norm_ (a' := ?_) ?_ ?_
  rotate_left
  · show Act.put _ (some 19) _ = _
    simp only [Act.put, List.setIfInBounds_toArray, List.set_cons_zero, List.set_cons_succ]
    rfl
  refine pure_ (i := 3) (N := some 20) (v := ?_) (a' := ?_) #[true, true, true, true, true, true, false, false, true, true, false, false, false, false] rfl rfl (by kernel_rfl) (fun _ _ _ h => h) (Or.inl ⟨by rfl, ?_⟩) ?_ ?_
  rotate_left
  · intro w'
    go_simp
    with_reducible rfl
  rotate_left
  · simp only [Act.put, List.setIfInBounds_toArray, List.set_cons_zero, List.set_cons_succ]
    rfl
  refine one_ (i := 6) (N := some 23) #[true, true, true, true, true, true, true, false, true, true, false, false, false, false] rfl rfl (by kernel_rfl) (by decide) (fun K hK => ?_)
  refine goes_ Try.func22 (by kernel_rfl) rfl #[.int .i64 py, .int .i64 8388608] (by rfl) rfl rfl (by first | rfl | (simp only [List.map_toArray, List.map_cons, List.map_nil]; rfl)) ?_
  with_reducible refine (pick_calls py 8388608 hp2.out.1 hp2.out.2 (by decide) (by decide) _).mono ?_
  rintro e w' ⟨rfl, rfl⟩
  refine ⟨_, rfl, ?_⟩
  refine hK.out _ _ ⟨G0.c0, G0.c1, G0.c2⟩ (fun hHeld => ?_)
  clear hK K
  refine norm_ (a' := ?_) ?_ ?_
  rotate_left
  · show Act.put _ (some 23) _ = _
    simp only [Act.put, List.setIfInBounds_toArray, List.set_cons_zero, List.set_cons_succ]
    rfl
  refine pure_ (i := 7) (N := some 24) (v := ?_) (a' := ?_) #[true, true, true, true, true, true, true, true, true, true, false, false, false, false] rfl rfl (by kernel_rfl) (fun _ _ _ h => h) (Or.inl ⟨by rfl, ?_⟩) ?_ ?_
  rotate_left
  · intro w'
    go_simp
    with_reducible rfl
  rotate_left
  · simp only [Act.put, List.setIfInBounds_toArray, List.set_cons_zero, List.set_cons_succ]
    rfl
  refine one_ (i := 10) (N := some 27) #[true, true, true, true, true, true, true, true, true, true, true, false, false, false] rfl rfl (by kernel_rfl) (by decide) (fun K hK => ?_)
  refine goes_ Try.func22 (by kernel_rfl) rfl #[.int .i64 pz, .int .i64 8388608] (by rfl) rfl rfl (by first | rfl | (simp only [List.map_toArray, List.map_cons, List.map_nil]; rfl)) ?_
  with_reducible refine (pick_calls pz 8388608 hp3.out.1 hp3.out.2 (by decide) (by decide) _).mono ?_
  rintro e w' ⟨rfl, rfl⟩
  refine ⟨_, rfl, ?_⟩
  refine hK.out _ _ ⟨G0.c0, G0.c1, G0.c2⟩ (fun hHeld => ?_)
  clear hK K
  refine norm_ (a' := ?_) ?_ ?_
  rotate_left
  · show Act.put _ (some 27) _ = _
    simp only [Act.put, List.setIfInBounds_toArray, List.set_cons_zero, List.set_cons_succ]
    rfl
  refine pure_ (i := 11) (N := some 28) (v := ?_) (a' := ?_) #[true, true, true, true, true, true, true, true, true, true, true, true, false, false] rfl rfl (by kernel_rfl) (fun _ _ _ h => h) (Or.inl ⟨by rfl, ?_⟩) ?_ ?_
  rotate_left
  · intro w'
    go_simp
    with_reducible rfl
  rotate_left
  · simp only [Act.put, List.setIfInBounds_toArray, List.set_cons_zero, List.set_cons_succ]
    rfl
  refine pure_ (i := 12) (N := some 29) (v := ?_) (a' := ?_) #[true, true, true, true, true, true, true, true, true, true, true, true, true, false] rfl rfl (by kernel_rfl) (fun _ _ _ h => h) (Or.inl ⟨by rfl, ?_⟩) ?_ ?_
  rotate_left
  · intro w'
    go_simp
    with_reducible rfl
  rotate_left
  · simp only [Act.put, List.setIfInBounds_toArray, List.set_cons_zero, List.set_cons_succ]
    rfl
  refine last_ (i := 13) (N := none) #[true, true, true, true, true, true, true, true, true, true, true, true, true, true] rfl rfl (by kernel_rfl) (by decide) (fun K hK => ?_)
  obtain ⟨z0, z1, z2, z3, z4, z5⟩ := P2.out
  have z6 := P2.out.drew.f0
  have z7 := P2.out.drew.f1
  have z8 := P2.out.drew.f2
  refine skip_ (w1 := ?_) (by rfl) rfl ?_ ?_
  rotate_left
  · go_simp
    rfl
  refine hK.out _ _ ?_
  clear hK K
  refine done_ (by kernel_rfl) ?_
  obtain ⟨w3, hw3⟩ : ∃ w3, (set3 w2 w.heap.size (.int .i64 (pickF px 8388608 - 4194304)) (.int .i64 (pickF py 8388608 - 4194304)) (.int .i64 (pickF pz 8388608 - 4194304))).drew = w3 := ⟨_, rfl⟩
  have P3 : Hid (C3 w3 w.heap.size (.int .i64 (pickF px 8388608 - 4194304)) (.int .i64 (pickF py 8388608 - 4194304)) (.int .i64 (pickF pz 8388608 - 4194304))) := by rw [← hw3]; exact (P2.out.set _ _ _).drew
  have Q3 : Hid (C3 w3 (w.heap.size + 1) (.int .i64 qx) (.int .i64 qy) (.int .i64 qz)) := by rw [← hw3]; exact (Q2.out.other (by omega) _ _ _).drew
  have HB3 : Below w.heap.size w w3 := by rw [← hw3]; exact (below_set3 HB2 (Nat.le_refl _) _ _ _).drew
  show Exit.then _ _ _ _ ((set3 w2 w.heap.size (.int .i64 (pickF px 8388608 - 4194304)) (.int .i64 (pickF py 8388608 - 4194304)) (.int .i64 (pickF pz 8388608 - 4194304))).drew)
  rw [hw3]
  clear hw3 P2 Q2 HB2 G0
  have c1 := pickF_bd qx 8388608 (by decide)
  have c2 := pickF_bd qy 8388608 (by decide)
  have c3 := pickF_bd qz 8388608 (by decide)
  have e4 : IntKind.i64.wrap (pickF qx 8388608 - 4194304) = pickF qx 8388608 - 4194304 := iw_id _ (by omega) (by omega)
  have e5 : IntKind.i64.wrap (pickF qy 8388608 - 4194304) = pickF qy 8388608 - 4194304 := iw_id _ (by omega) (by omega)
  have e6 : IntKind.i64.wrap (pickF qz 8388608 - 4194304) = pickF qz 8388608 - 4194304 := iw_id _ (by omega) (by omega)
  go_wp2_with fail
  have G0 := Q3.out.drew
  refine start_ (n := 14) (S := fun w' => w'.cell? ⟨w.heap.size + 1, 0, none⟩ = some (.int .i64 qx) ∧ w'.cell? ⟨w.heap.size + 1, 1, none⟩ = some (.int .i64 qy) ∧ w'.cell? ⟨w.heap.size + 1, 2, none⟩ = some (.int .i64 qz)) (ds := [13]) #[false, false, false, false, false, false, false, false, false, false, false, false, false, false] (by kernel_rfl) rfl rfl ⟨G0.c0, G0.c1, G0.c2⟩ (fun hHeld => ?_)
  refine pure_ (i := 0) (N := some 30) (v := ?_) (a' := ?_) #[true, false, false, false, false, false, false, false, false, false, false, false, false, false] rfl rfl (by kernel_rfl) (fun _ _ _ h => h) (Or.inl ⟨by rfl, ?_⟩) ?_ ?_
  rotate_left
  · intro w'
    go_simp
    with_reducible rfl
  rotate_left
  · simp only [Act.put, List.setIfInBounds_toArray, List.set_cons_zero, List.set_cons_succ]
    rfl
  refine pure_ (i := 4) (N := some 34) (v := ?_) (a' := ?_) #[true, false, false, false, true, false, false, false, false, false, false, false, false, false] rfl rfl (by kernel_rfl) (fun _ _ _ h => h) (Or.inl ⟨by rfl, ?_⟩) ?_ ?_
  rotate_left
  · intro w'
    go_simp
    with_reducible rfl
  rotate_left
  · simp only [Act.put, List.setIfInBounds_toArray, List.set_cons_zero, List.set_cons_succ]
    rfl
  refine pure_ (i := 8) (N := some 38) (v := ?_) (a' := ?_) #[true, false, false, false, true, false, false, false, true, false, false, false, false, false] rfl rfl (by kernel_rfl) (fun _ _ _ h => h) (Or.inl ⟨by rfl, ?_⟩) ?_ ?_
  rotate_left
  · intro w'
    go_simp
    with_reducible rfl
  rotate_left
  · simp only [Act.put, List.setIfInBounds_toArray, List.set_cons_zero, List.set_cons_succ]
    rfl
  refine take_ (i := 1) (N := some 31) (v := ?_) (a' := ?_) #[true, true, false, false, true, false, false, false, true, false, false, false, false, false] rfl rfl (by kernel_rfl) (fun _ _ _ h => h) (Or.inl ⟨by rfl, ?_⟩) (by assumption) ?_ ?_
  rotate_left
  · rintro w' ⟨s0, s1, s2⟩
    go_simp
    with_reducible rfl
  rotate_left
  · simp only [Act.put, List.setIfInBounds_toArray, List.set_cons_zero, List.set_cons_succ]
    rfl
  refine take_ (i := 5) (N := some 35) (v := ?_) (a' := ?_) #[true, true, false, false, true, true, false, false, true, false, false, false, false, false] rfl rfl (by kernel_rfl) (fun _ _ _ h => h) (Or.inl ⟨by rfl, ?_⟩) (by assumption) ?_ ?_
  rotate_left
  · rintro w' ⟨s0, s1, s2⟩
    go_simp
    with_reducible rfl
  rotate_left
  · simp only [Act.put, List.setIfInBounds_toArray, List.set_cons_zero, List.set_cons_succ]
    rfl
  refine take_ (i := 9) (N := some 39) (v := ?_) (a' := ?_) #[true, true, false, false, true, true, false, false, true, true, false, false, false, false] rfl rfl (by kernel_rfl) (fun _ _ _ h => h) (Or.inl ⟨by rfl, ?_⟩) (by assumption) ?_ ?_
  rotate_left
  · rintro w' ⟨s0, s1, s2⟩
    go_simp
    with_reducible rfl
  rotate_left
  · simp only [Act.put, List.setIfInBounds_toArray, List.set_cons_zero, List.set_cons_succ]
    rfl
  refine one_ (i := 2) (N := some 32) #[true, true, true, false, true, true, false, false, true, true, false, false, false, false] rfl rfl (by kernel_rfl) (by decide) (fun K hK => ?_)
  refine goes_ Try.func22 (by kernel_rfl) rfl #[.int .i64 qx, .int .i64 8388608] (by rfl) rfl rfl (by first | rfl | (simp only [List.map_toArray, List.map_cons, List.map_nil]; rfl)) ?_
  with_reducible refine (pick_calls qx 8388608 hq1.out.1 hq1.out.2 (by decide) (by decide) _).mono ?_
  rintro e w' ⟨rfl, rfl⟩
  refine ⟨_, rfl, ?_⟩
  refine hK.out _ _ ⟨G0.c0, G0.c1, G0.c2⟩ (fun hHeld => ?_)
  clear hK K
  refine norm_ (a' := ?_) ?_ ?_
  rotate_left
  · show Act.put _ (some 32) _ = _
    simp only [Act.put, List.setIfInBounds_toArray, List.set_cons_zero, List.set_cons_succ]
    rfl
  refine pure_ (i := 3) (N := some 33) (v := ?_) (a' := ?_) #[true, true, true, true, true, true, false, false, true, true, false, false, false, false] rfl rfl (by kernel_rfl) (fun _ _ _ h => h) (Or.inl ⟨by rfl, ?_⟩) ?_ ?_
  rotate_left
  · intro w'
    go_simp
    with_reducible rfl
  rotate_left
  · simp only [Act.put, List.setIfInBounds_toArray, List.set_cons_zero, List.set_cons_succ]
    rfl
  refine one_ (i := 6) (N := some 36) #[true, true, true, true, true, true, true, false, true, true, false, false, false, false] rfl rfl (by kernel_rfl) (by decide) (fun K hK => ?_)
  refine goes_ Try.func22 (by kernel_rfl) rfl #[.int .i64 qy, .int .i64 8388608] (by rfl) rfl rfl (by first | rfl | (simp only [List.map_toArray, List.map_cons, List.map_nil]; rfl)) ?_
  with_reducible refine (pick_calls qy 8388608 hq2.out.1 hq2.out.2 (by decide) (by decide) _).mono ?_
  rintro e w' ⟨rfl, rfl⟩
  refine ⟨_, rfl, ?_⟩
  refine hK.out _ _ ⟨G0.c0, G0.c1, G0.c2⟩ (fun hHeld => ?_)
  clear hK K
  refine norm_ (a' := ?_) ?_ ?_
  rotate_left
  · show Act.put _ (some 36) _ = _
    simp only [Act.put, List.setIfInBounds_toArray, List.set_cons_zero, List.set_cons_succ]
    rfl
  refine pure_ (i := 7) (N := some 37) (v := ?_) (a' := ?_) #[true, true, true, true, true, true, true, true, true, true, false, false, false, false] rfl rfl (by kernel_rfl) (fun _ _ _ h => h) (Or.inl ⟨by rfl, ?_⟩) ?_ ?_
  rotate_left
  · intro w'
    go_simp
    with_reducible rfl
  rotate_left
  · simp only [Act.put, List.setIfInBounds_toArray, List.set_cons_zero, List.set_cons_succ]
    rfl
  refine one_ (i := 10) (N := some 40) #[true, true, true, true, true, true, true, true, true, true, true, false, false, false] rfl rfl (by kernel_rfl) (by decide) (fun K hK => ?_)
  refine goes_ Try.func22 (by kernel_rfl) rfl #[.int .i64 qz, .int .i64 8388608] (by rfl) rfl rfl (by first | rfl | (simp only [List.map_toArray, List.map_cons, List.map_nil]; rfl)) ?_
  with_reducible refine (pick_calls qz 8388608 hq3.out.1 hq3.out.2 (by decide) (by decide) _).mono ?_
  rintro e w' ⟨rfl, rfl⟩
  refine ⟨_, rfl, ?_⟩
  refine hK.out _ _ ⟨G0.c0, G0.c1, G0.c2⟩ (fun hHeld => ?_)
  clear hK K
  refine norm_ (a' := ?_) ?_ ?_
  rotate_left
  · show Act.put _ (some 40) _ = _
    simp only [Act.put, List.setIfInBounds_toArray, List.set_cons_zero, List.set_cons_succ]
    rfl
  refine pure_ (i := 11) (N := some 41) (v := ?_) (a' := ?_) #[true, true, true, true, true, true, true, true, true, true, true, true, false, false] rfl rfl (by kernel_rfl) (fun _ _ _ h => h) (Or.inl ⟨by rfl, ?_⟩) ?_ ?_
  rotate_left
  · intro w'
    go_simp
    with_reducible rfl
  rotate_left
  · simp only [Act.put, List.setIfInBounds_toArray, List.set_cons_zero, List.set_cons_succ]
    rfl
  refine pure_ (i := 12) (N := some 42) (v := ?_) (a' := ?_) #[true, true, true, true, true, true, true, true, true, true, true, true, true, false] rfl rfl (by kernel_rfl) (fun _ _ _ h => h) (Or.inl ⟨by rfl, ?_⟩) ?_ ?_
  rotate_left
  · intro w'
    go_simp
    with_reducible rfl
  rotate_left
  · simp only [Act.put, List.setIfInBounds_toArray, List.set_cons_zero, List.set_cons_succ]
    rfl
  refine last_ (i := 13) (N := none) #[true, true, true, true, true, true, true, true, true, true, true, true, true, true] rfl rfl (by kernel_rfl) (by decide) (fun K hK => ?_)
  obtain ⟨z0, z1, z2, z3, z4, z5⟩ := Q3.out
  have z6 := Q3.out.drew.f0
  have z7 := Q3.out.drew.f1
  have z8 := Q3.out.drew.f2
  refine skip_ (w1 := ?_) (by rfl) rfl ?_ ?_
  rotate_left
  · go_simp
    rfl
  refine hK.out _ _ ?_
  clear hK K
  refine done_ (by kernel_rfl) ?_
  obtain ⟨w4, hw4⟩ : ∃ w4, (set3 w3 (w.heap.size + 1) (.int .i64 (pickF qx 8388608 - 4194304)) (.int .i64 (pickF qy 8388608 - 4194304)) (.int .i64 (pickF qz 8388608 - 4194304))).drew = w4 := ⟨_, rfl⟩
  have P4 : Hid (C3 w4 w.heap.size (.int .i64 (pickF px 8388608 - 4194304)) (.int .i64 (pickF py 8388608 - 4194304)) (.int .i64 (pickF pz 8388608 - 4194304))) := by rw [← hw4]; exact (P3.out.other (by omega) _ _ _).drew
  have Q4 : Hid (C3 w4 (w.heap.size + 1) (.int .i64 (pickF qx 8388608 - 4194304)) (.int .i64 (pickF qy 8388608 - 4194304)) (.int .i64 (pickF qz 8388608 - 4194304))) := by rw [← hw4]; exact (Q3.out.set _ _ _).drew
  have HB4 : Below w.heap.size w w4 := by rw [← hw4]; exact (below_set3 HB3 (by omega) _ _ _).drew
  show Exit.then _ _ _ _ ((set3 w3 (w.heap.size + 1) (.int .i64 (pickF qx 8388608 - 4194304)) (.int .i64 (pickF qy 8388608 - 4194304)) (.int .i64 (pickF qz 8388608 - 4194304))).drew)
  rw [hw4]
  clear hw4 P3 Q3 HB3 G0 e1 e2 e3 e4 e5 e6
  go_wp2_with fail
  refine (pick_calls r 16384 hr1.out.1 hr1.out.2 (by decide) (by decide) _).mono ?_
  rintro e w' ⟨rfl, rfl⟩
  have d1 := pickF_bd r 16384 (by decide)
  have e1 : IntKind.i64.wrap (1 + pickF r 16384) = 1 + pickF r 16384 := iw_id _ (by omega) (by omega)
  go_wp2_with fail
  refine (pick_calls s 16384 hs1.out.1 hs1.out.2 (by decide) (by decide) _).mono ?_
  rintro e w' ⟨rfl, rfl⟩
  have d2 := pickF_bd s 16384 (by decide)
  have e2 : IntKind.i64.wrap (1 + pickF s 16384) = 1 + pickF s 16384 := iw_id _ (by omega) (by omega)
  obtain ⟨y0, y1, y2, _, _, _⟩ := P4.out
  obtain ⟨z0, z1, z2, _, _, _⟩ := Q4.out
  have l0 := P4.out.lt
  have l1 := Q4.out.lt
  obtain ⟨p1, hp1⟩ : ∃ v, pickF px 8388608 - 4194304 = v := ⟨_, rfl⟩
  obtain ⟨p2, hp2⟩ : ∃ v, pickF py 8388608 - 4194304 = v := ⟨_, rfl⟩
  obtain ⟨p3, hp3⟩ : ∃ v, pickF pz 8388608 - 4194304 = v := ⟨_, rfl⟩
  obtain ⟨q1, hq1⟩ : ∃ v, pickF qx 8388608 - 4194304 = v := ⟨_, rfl⟩
  obtain ⟨q2, hq2⟩ : ∃ v, pickF qy 8388608 - 4194304 = v := ⟨_, rfl⟩
  obtain ⟨q3, hq3⟩ : ∃ v, pickF qz 8388608 - 4194304 = v := ⟨_, rfl⟩
  obtain ⟨ra, hra⟩ : ∃ v, 1 + pickF r 16384 = v := ⟨_, rfl⟩
  obtain ⟨rb, hrb⟩ : ∃ v, 1 + pickF s 16384 = v := ⟨_, rfl⟩
  go_wp2_with fail
  have hbA : Below w'.heap.size w' ((w'.alloc (.cells #[.int .i64 p1, .int .i64 p2, .int .i64 p3] 23)).alloc (.cells #[.int .i64 q1, .int .i64 q2, .int .i64 q3] 23)) := ((Below.refl _ w').alloc (Nat.le_refl _) _).alloc (by simp) _
  have iA : ((w'.alloc (.cells #[.int .i64 p1, .int .i64 p2, .int .i64 p3] 23)).alloc (.cells #[.int .i64 q1, .int .i64 q2, .int .i64 q3] 23)).heap[w'.heap.size]? = some (.cells #[.int .i64 p1, .int .i64 p2, .int .i64 p3] 23 (0, 0)) := (Below.heap_alloc _ _ _ (by simp)).trans (heap_alloc_new _ _)
  have iB : ((w'.alloc (.cells #[.int .i64 p1, .int .i64 p2, .int .i64 p3] 23)).alloc (.cells #[.int .i64 q1, .int .i64 q2, .int .i64 q3] 23)).heap[w'.heap.size + 1]? = some (.cells #[.int .i64 q1, .int .i64 q2, .int .i64 q3] 23 (0, 0)) := by
    have := heap_alloc_new (w'.alloc (.cells #[.int .i64 p1, .int .i64 p2, .int .i64 p3] 23)) (.cells #[.int .i64 q1, .int .i64 q2, .int .i64 q3] 23)
    rwa [World.size_alloc] at this
  obtain ⟨w5, hw5⟩ : ∃ w5, ((w'.alloc (.cells #[.int .i64 p1, .int .i64 p2, .int .i64 p3] 23)).alloc (.cells #[.int .i64 q1, .int .i64 q2, .int .i64 q3] 23)) = w5 := ⟨_, rfl⟩
  rw [hw5] at hbA iA iB ⊢
  clear hw5
  have cA := ball_core w5 _ p1 p2 p3 ra 1 (Nat.le_refl _) iA
  have cB := ball_core w5 _ q1 q2 q3 rb 1 (Nat.le_refl _) iB
  have mA := ball_may p1 p2 p3 ra (by unfold in3; simp only; omega) (by omega) (by omega)
  have mB := ball_may q1 q2 q3 rb (by unfold in3; simp only; omega) (by omega) (by omega)
  obtain ⟨R, hR⟩ : ∃ R, apartF [⟨p1, p2, p3⟩] [] [] ra [⟨q1, q2, q3⟩] [] [] rb = R := ⟨_, rfl⟩
  refine (apart_calls _ _ _ _ _ _ _ _ _ _ w5 cA cB mA mB _ hR).mono ?_
  rintro e w6 ⟨rfl, hb6⟩
  have hb46 := bthen hbA hb6
  have HB6 := bthen HB4 hb46
  obtain ⟨y0, y1, y2, _, _, _⟩ := P4.out.below hb46
  obtain ⟨z0, z1, z2, _, _, _⟩ := Q4.out.below hb46
  have l0 := (P4.out.below hb46).lt
  have l1 := (Q4.out.below hb46).lt
  have l0' : w.heap.size < w6.heap.size + 1 := by omega
  have l1' : w.heap.size + 1 < w6.heap.size + 1 := by omega
  have XB := heap_alloc_new w6 (.cells #[.int .i64 R.1.x, .int .i64 R.1.y, .int .i64 R.1.z, .int .i64 R.2] 40)
  have HB7 := bthen HB6 ((Below.refl _ w6).alloc (Nat.le_refl _) (.cells #[.int .i64 R.1.x, .int .i64 R.1.y, .int .i64 R.1.z, .int .i64 R.2] 40))
  clear P4 Q4 HB4 iA iB cA cB mA mB hb6 hbA hb46
  go_wp2_with fail
  refine (rminus_calls _ _ _ _ _ _ _).mono ?_
  rintro e w8 ⟨rfl, hb8⟩
  have X8 := (hb8.block _ (blk_lt XB)).trans XB
  have HB8 := bthen HB7 hb8
  obtain ⟨⟨d1, d2, d3⟩, hd⟩ : ∃ d, minus3 ⟨q1, q2, q3⟩ ⟨p1, p2, p3⟩ = d := ⟨_, rfl⟩
  rw [hd]
  dsimp only
  go_wp2_with fail
  refine (rdot_calls _ _ _ _ _ _ _).mono ?_
  rintro e w9 ⟨rfl, hb9⟩
  have X9 := (hb9.block _ (by have := blk_lt X8; simp; omega)).trans ((Below.heap_alloc _ _ _ (blk_lt X8)).trans X8)
  have HB9 := bthen (bthen HB8 ((Below.refl _ w8).alloc (Nat.le_refl _) _)) hb9
  have x3 : w9.cell? ⟨w6.heap.size, 3, none⟩ = some (.int .i64 R.2) := (blk_cell X9 3).trans rfl
  obtain ⟨far, hfar⟩ : ∃ f, dot3 ⟨d1, d2, d3⟩ ⟨d1, d2, d3⟩ = f := ⟨_, rfl⟩
  obtain ⟨gg, hgg⟩ : ∃ g, wrap64 (wrap64 (R.2 + ra) + rb) = g := ⟨_, rfl⟩
  obtain ⟨sq, hsq⟩ : ∃ g, wrap64 (gg * gg) = g := ⟨_, rfl⟩
  clear HB6 HB7 HB8 X8 X9 XB hb8 hb9 y0 y1 y2 z0 z1 z2 l0 l1 l0' l1'
  have hall : ballsOk ⟨p1, p2, p3⟩ ⟨q1, q2, q3⟩ ra rb = ballsV R.2 ra rb far := by
    unfold ballsOk; rw [hR, hd, hfar]
  have hall2 : rightP ⟨px, py, pz⟩ 8388608 = ⟨p1, p2, p3⟩ ∧ rightP ⟨qx, qy, qz⟩ 8388608 = ⟨q1, q2, q3⟩ := by
    unfold rightP; simp only; rw [← hp1, ← hp2, ← hp3, ← hq1, ← hq2, ← hq3]; exact ⟨rfl, rfl⟩
  by_cases h0 : gg < 0
  · have t0 : decide (gg < 0) = true := by simpa using h0
    have hv : ballsV R.2 ra rb far = false := by unfold ballsV; simp only [hgg]; rw [if_pos h0]
    go_wp2
    go_ret
    exact ⟨by rw [hall2.1, hall2.2, hra, hrb, hall, hv]; rfl, HB9⟩
  · have t0 : decide (gg < 0) = false := by simpa using h0
    by_cases h1 : far < sq
    · have t1 : decide (far < sq) = true := by simpa using h1
      have hv : ballsV R.2 ra rb far = false := by unfold ballsV; simp only [hgg, hsq]; rw [if_neg h0, if_pos h1]
      go_wp2
      go_ret
      exact ⟨by rw [hall2.1, hall2.2, hra, hrb, hall, hv]; rfl, HB9⟩
    · have t1 : decide (far < sq) = false := by simpa using h1
      have hv : ballsV R.2 ra rb far = decide (far ≤ wrap64 (wrap64 (wrap64 (gg + 2) + gg / 65536) * wrap64 (wrap64 (gg + 2) + gg / 65536))) := by unfold ballsV; simp only [hgg, hsq]; rw [if_neg h0, if_neg h1]
      go_wp2
      go_ret
      exact ⟨by rw [hall2.1, hall2.2, hra, hrb, hall, hv]; rfl, HB9⟩
end Go.Proofs.Ytckdhahceelckaa.G
