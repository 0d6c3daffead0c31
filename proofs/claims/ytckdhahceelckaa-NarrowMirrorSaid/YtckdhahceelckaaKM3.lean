/- What the laws of this claim lean on: contracts of the functions that they reach, and plain lemmas; no condition of its own (part 3 of 3; the texts XM3). -/
import Derived.Test.YtckdhahceelckaaKM2
namespace Go.Proofs.Ytckdhahceelckaa.G
open Go.RowKit Go.Proofs.YtckdhahceelckaaW.PrintWords Go.Proofs.YtckdhahceelckaaW.PrintLast Go.Proofs.YtckdhahceelckaaW.PrintMore
attribute [local go_sem] max2_mx min2_mn max_two min_two max_three min_three max_four min_four
attribute [local go_sem high] eqA23 eqA40
set_option linter.unusedVariables false
set_option linter.unusedSimpArgs false
set_option maxHeartbeats 8000000 in
set_option maxRecDepth 100000 in
theorem mirror_law (k1 r1 : Int) (h1 : P3) (l1 : List P3) (A1 : Option Addr) (c1 : Nat) (k2 r2 : Int) (h2 : P3) (l2 : List P3) (A2 : Option Addr) (c2 : Nat) (p q : P7) (near : Int) (way : P3) (by0 : P3) (w : World)
    (hA1 : RdB w A1 l1) (hr1 : RawOk k1 r1 h1 l1) (hA2 : RdB w A2 l2) (hr2 : RawOk k2 r2 h2 l2) (hp : i64s p) (hq : i64s q) (hne : i64 near) (hwa : pI64 way) (hby0 : pI64 by0) :
    Calls Try.prog 10 #[.agg (cTwo k1 r1 h1 A1 l1.length c1 k2 r2 h2 A2 l2.length c2 p q near way), aP by0] w fun e w' => e = .returned (.bool true) ∧ Below w.heap.size w w' := by
  have HC := Lib.hid (fun (W : World) (hW1 : RdB W A1 l1) (hW2 : RdB W A2 l2) => cores_calls2 k1 r1 h1 l1 A1 c1 k2 r2 h2 l2 A2 c2 p q near way W hW1 hr1 hW2 hr2 hp hq hne hwa)
  have HM := Lib.hid (fun (W : World) (v : Value) (h : CoreAt (rightS k1 r1 h1 l1) (rightPose p) W v) => CoreAt.nearW (rightS_ok k1 r1 h1 l1) (rightPose p) (rightPose_ok p).1 (rightPose_ok p).2 (fun l x hx hi h0 => ways_turned p hx hi h0) h)
  have HS := Lib.hid (rightS_ok k1 r1 h1 l1)
  have HS2 := Lib.hid (rightS_ok k2 r2 h2 l2)
  have HM2 := Lib.hid (fun (W : World) (v : Value) (h : CoreAt (rightS k2 r2 h2 l2) ⟨nearF near way (rightPose p).at_, (rightPose q).turn⟩ W v) => CoreAt.near (rightS_ok k2 r2 h2 l2) (nearF near way (rightPose p).at_) q (nearF_ok near way p) h)
  have HPX := Lib.hid (fun (W : World) => pick_calls by0.x 1048576 hby0.1.1 hby0.1.2 (by decide) (by decide) W)
  have HPY := Lib.hid (fun (W : World) => pick_calls by0.y 1048576 hby0.2.1.1 hby0.2.1.2 (by decide) (by decide) W)
  have HPZ := Lib.hid (fun (W : World) => pick_calls by0.z 1048576 hby0.2.2.1 hby0.2.2.2 (by decide) (by decide) W)
  have bdx := pickF_bd by0.x 1048576 (by decide)
  have bdy := pickF_bd by0.y 1048576 (by decide)
  have bdz := pickF_bd by0.z 1048576 (by decide)
  obtain ⟨qx, hqx⟩ : ∃ n, pickF by0.x 1048576 = n := ⟨_, rfl⟩
  obtain ⟨qy, hqy⟩ : ∃ n, pickF by0.y 1048576 = n := ⟨_, rfl⟩
  obtain ⟨qz, hqz⟩ : ∃ n, pickF by0.z 1048576 = n := ⟨_, rfl⟩
  rw [hqx] at HPX bdx
  rw [hqy] at HPY bdy
  rw [hqz] at HPZ bdz
  have HBY : Hid (in3 1048576 ⟨qx, qy, qz⟩) := Lib.hid (by unfold in3; simp only; omega)
  obtain ⟨bx, by_, bz⟩ := by0
  simp only at HPX HPY HPZ
  have HA1 := Lib.hid hA1
  have HA2 := Lib.hid hA2
  obtain ⟨s1, hs1⟩ : ∃ s, rightS k1 r1 h1 l1 = s := ⟨_, rfl⟩
  obtain ⟨s2, hs2⟩ : ∃ s, rightS k2 r2 h2 l2 = s := ⟨_, rfl⟩
  obtain ⟨Qn, hQn⟩ : ∃ s, (⟨nearF near way (rightPose p).at_, (rightPose q).turn⟩ : P7) = s := ⟨_, rfl⟩
  rw [hs2, hQn] at HC HM2
  rw [hs2] at HS2
  obtain ⟨P, hP⟩ : ∃ s, rightPose p = s := ⟨_, rfl⟩
  rw [hs1] at HC HM HS
  rw [hP] at HC HM
  obtain ⟨N1, hN1⟩ : ∃ N, l1.length = N := ⟨_, rfl⟩
  obtain ⟨N2, hN2⟩ : ∃ N, l2.length = N := ⟨_, rfl⟩
  rw [hN1, hN2] at HC ⊢
  clear hA1 hr1 hA2 hr2 hp hq hne hwa hby0 hs1 hs2 hQn hP hN1 hN2 hqx hqy hqz bdx bdy bdz
  obtain ⟨h1x, h1y, h1z⟩ := h1
  obtain ⟨h2x, h2y, h2z⟩ := h2
  obtain ⟨⟨pax, pay, paz⟩, ⟨ptw, ptx, pty, ptz⟩⟩ := p
  obtain ⟨⟨qax, qay, qaz⟩, ⟨qtw, qtx, qty, qtz⟩⟩ := q
  obtain ⟨wx, wy, wz⟩ := way
  have t0 := (Below.heap_alloc (w.alloc (.cells #[.int .i64 k1, .int .i64 r1, .int .i64 h1x, .int .i64 h1y, .int .i64 h1z, .slice A1 N1 c1, .int .i64 k2, .int .i64 r2, .int .i64 h2x, .int .i64 h2y, .int .i64 h2z, .slice A2 N2 c2, .int .i64 pax, .int .i64 pay, .int .i64 paz, .int .i64 ptw, .int .i64 ptx, .int .i64 pty, .int .i64 ptz, .int .i64 qax, .int .i64 qay, .int .i64 qaz, .int .i64 qtw, .int .i64 qtx, .int .i64 qty, .int .i64 qtz, .int .i64 near, .int .i64 wx, .int .i64 wy, .int .i64 wz] 33)) (.cells #[.int .i64 bx, .int .i64 by_, .int .i64 bz] 23) _ (by simp)).trans (heap_alloc_new w (.cells #[.int .i64 k1, .int .i64 r1, .int .i64 h1x, .int .i64 h1y, .int .i64 h1z, .slice A1 N1 c1, .int .i64 k2, .int .i64 r2, .int .i64 h2x, .int .i64 h2y, .int .i64 h2z, .slice A2 N2 c2, .int .i64 pax, .int .i64 pay, .int .i64 paz, .int .i64 ptw, .int .i64 ptx, .int .i64 pty, .int .i64 ptz, .int .i64 qax, .int .i64 qay, .int .i64 qaz, .int .i64 qtw, .int .i64 qtx, .int .i64 qty, .int .i64 qtz, .int .i64 near, .int .i64 wx, .int .i64 wy, .int .i64 wz] 33))
  have y0 := heap_alloc_new (w.alloc (.cells #[.int .i64 k1, .int .i64 r1, .int .i64 h1x, .int .i64 h1y, .int .i64 h1z, .slice A1 N1 c1, .int .i64 k2, .int .i64 r2, .int .i64 h2x, .int .i64 h2y, .int .i64 h2z, .slice A2 N2 c2, .int .i64 pax, .int .i64 pay, .int .i64 paz, .int .i64 ptw, .int .i64 ptx, .int .i64 pty, .int .i64 ptz, .int .i64 qax, .int .i64 qay, .int .i64 qaz, .int .i64 qtw, .int .i64 qtx, .int .i64 qty, .int .i64 qtz, .int .i64 near, .int .i64 wx, .int .i64 wy, .int .i64 wz] 33)) (.cells #[.int .i64 bx, .int .i64 by_, .int .i64 bz] 23)
  rw [World.size_alloc] at y0
  have wb := ((Below.refl _ w).alloc (Nat.le_refl _) (.cells #[.int .i64 k1, .int .i64 r1, .int .i64 h1x, .int .i64 h1y, .int .i64 h1z, .slice A1 N1 c1, .int .i64 k2, .int .i64 r2, .int .i64 h2x, .int .i64 h2y, .int .i64 h2z, .slice A2 N2 c2, .int .i64 pax, .int .i64 pay, .int .i64 paz, .int .i64 ptw, .int .i64 ptx, .int .i64 pty, .int .i64 ptz, .int .i64 qax, .int .i64 qay, .int .i64 qaz, .int .i64 qtw, .int .i64 qtx, .int .i64 qty, .int .i64 qtz, .int .i64 near, .int .i64 wx, .int .i64 wy, .int .i64 wz] 33)).alloc (by simp) (.cells #[.int .i64 bx, .int .i64 by_, .int .i64 bz] 23)
  obtain ⟨w0, hw0⟩ : ∃ V, (w.alloc (.cells #[.int .i64 k1, .int .i64 r1, .int .i64 h1x, .int .i64 h1y, .int .i64 h1z, .slice A1 N1 c1, .int .i64 k2, .int .i64 r2, .int .i64 h2x, .int .i64 h2y, .int .i64 h2z, .slice A2 N2 c2, .int .i64 pax, .int .i64 pay, .int .i64 paz, .int .i64 ptw, .int .i64 ptx, .int .i64 pty, .int .i64 ptz, .int .i64 qax, .int .i64 qay, .int .i64 qaz, .int .i64 qtw, .int .i64 qtx, .int .i64 qty, .int .i64 qtz, .int .i64 near, .int .i64 wx, .int .i64 wy, .int .i64 wz] 33)).alloc (.cells #[.int .i64 bx, .int .i64 by_, .int .i64 bz] 23) = V := ⟨_, rfl⟩
  rw [hw0] at t0 y0 wb
  have T0 := Lib.hid t0
  have Y0 := Lib.hid y0
  have W := Lib.hid wb
  have hw0' := Lib.hid hw0
  clear t0 y0 wb hw0
  go_enter Try.func10, Try.ntmps10
  go_wp2_with fail
  rw [hw0'.out]
  refine (awake_calls _).mono ?_
  rintro en w1 ⟨rfl, hb⟩
  have T0 := Lib.hid ((hb.block _ (blk_lt T0.out)).trans T0.out)
  have Y0 := Lib.hid ((hb.block _ (blk_lt Y0.out)).trans Y0.out)
  have W := Lib.hid (bthen W.out hb)
  clear hb hw0'
  go_wp2_with (refine wpList_load_row rfl 33 _ rfl w.heap.size rfl 33 _ (0, 0) _ T0.out Try.underlying33 rfl (by kernel_rfl) ?_)
  refine (HC.out _ (HA1.out.below W.out) (HA2.out.below W.out)).mono ?_
  rintro en w2 ⟨va, vb, rfl, ha, hb_, hb, hfa, hfb⟩
  have LY1 := Lib.hid (blk_lt Y0.out)
  have LY2 := Lib.hid hb.size
  have Y0 := Lib.hid ((hb.block _ (blk_lt Y0.out)).trans Y0.out)
  obtain ⟨p, a, e, hv, hm, hway, hpn⟩ := HM.out w2 va ha
  obtain ⟨q', a', e', hvb, hm2, hway2, hqn⟩ := HM2.out w2 vb hb_
  obtain ⟨ra, hra⟩ : ∃ n, s1.radius = n := ⟨_, rfl⟩
  obtain ⟨rb, hrb⟩ : ∃ n, s2.radius = n := ⟨_, rfl⟩
  rw [hra] at hv hm
  rw [hrb] at hvb hm2
  obtain ⟨B0, B1, B2, d0, d1, d2, hva, _⟩ := hv.out
  obtain ⟨B3, B4, B5, d3, d4, d5, hvb', _⟩ := hvb.out
  have HV := Lib.hid hv
  have HVB := Lib.hid hvb
  have HFA := Lib.hid hfa
  have HFB := Lib.hid hfb
  have HAP := Lib.hid (fun (W : World) (hW : CoreV W va p a e ra) (hU : CoreV W vb q' a' e' rb) => apart_calls p a e ra q' a' e' rb va vb W hW hU hm hm2 _ rfl)
  have HAPB := Lib.hid (fun (W : World) (hU : CoreV W vb q' a' e' rb) (hW : CoreV W va p a e ra) => apart_calls q' a' e' rb p a e ra vb va W hU hW hm2 hm _ rfl)
  have HAPM := Lib.hid (fun (W : World) (u v : Value) (hW : CoreV W u (p.map (plusI ⟨qx, qy, qz⟩)) a e ra) (hU : CoreV W v (q'.map (plusI ⟨qx, qy, qz⟩)) a' e' rb) => apart_calls (p.map (plusI ⟨qx, qy, qz⟩)) a e ra (q'.map (plusI ⟨qx, qy, qz⟩)) a' e' rb u v W hW hU (hm.moved HBY.out hpn) (hm2.moved HBY.out hqn) _ (apart_moved hm hm2 HBY.out hpn hqn))
  have HMA := Lib.hid (fun (W : World) (hW : CoreV W va p a e ra) => moved_calls hW hm ⟨qx, qy, qz⟩ HBY.out hpn)
  have HMB := Lib.hid (fun (W : World) (hW : CoreV W vb q' a' e' rb) => moved_calls hW hm2 ⟨qx, qy, qz⟩ HBY.out hqn)
  have W := Lib.hid (bthen W.out hb)
  have hmir := apart_mirror hm hm2
  obtain ⟨R, hR⟩ : ∃ R, apartF p a e ra q' a' e' rb = R := ⟨_, rfl⟩
  obtain ⟨S, hS⟩ : ∃ S, apartF q' a' e' rb p a e ra = S := ⟨_, rfl⟩
  obtain ⟨gg, byy, BB, hSP⟩ := sound_plain hm2 hm hway2 hway S hS
  have HNT := Lib.hid (fun (W : World) (hU : CoreV W vb q' a' e' rb) (hW : CoreV W va p a e ra) => sound_calls hU hW (Nat.le_trans hm2.p1 (by decide)) (Nat.le_trans hm.p1 (by decide)) S.1 S.2 gg byy BB hSP.hg hSP.hf hSP.hby hSP.hB hSP.all)
  rw [hR] at HAP HAPM hmir
  rw [hS] at HAPB hmir
  obtain ⟨⟨Rx, Ry, Rz⟩, Rg⟩ := R
  obtain ⟨⟨Sx, Sy, Sz⟩, Sg⟩ := S
  simp only at HAP HNT HAPB HAPM hmir
  subst hmir
  obtain ⟨n0, hn0⟩ : ∃ n, p.length = n := ⟨_, rfl⟩
  obtain ⟨n1, hn1⟩ : ∃ n, a.length = n := ⟨_, rfl⟩
  obtain ⟨n2, hn2⟩ : ∃ n, e.length = n := ⟨_, rfl⟩
  obtain ⟨n3, hn3⟩ : ∃ n, q'.length = n := ⟨_, rfl⟩
  obtain ⟨n4, hn4⟩ : ∃ n, a'.length = n := ⟨_, rfl⟩
  obtain ⟨n5, hn5⟩ : ∃ n, e'.length = n := ⟨_, rfl⟩
  rw [hn0, hn1, hn2] at hva
  rw [hn3, hn4, hn5] at hvb'
  subst hva hvb'
  clear hn0 hn1 hn2 hn3 hn4 hn5 hra hrb hR hS hv hvb ha hb_ hb hm hm2 hway hway2 hpn hqn hSP HC HM HM2 HS HS2 T0 hfa hfb
  have b2 := (Below.refl w2.heap.size w2).alloc (Nat.le_refl _) (.cells #[.slice B0 n0 d0, .slice B1 n1 d1, .slice B2 n2 d2, .int .i64 ra] 36)
  have b3 := b2.alloc (by simp) (.cells #[.slice B3 n3 d3, .slice B4 n4 d4, .slice B5 n5 d5, .int .i64 rb] 36)
  have zc := (Below.heap_alloc _ (.cells #[.slice B3 n3 d3, .slice B4 n4 d4, .slice B5 n5 d5, .int .i64 rb] 36) _ (by simp)).trans (heap_alloc_new w2 (.cells #[.slice B0 n0 d0, .slice B1 n1 d1, .slice B2 n2 d2, .int .i64 ra] 36))
  have zd := heap_alloc_new (w2.alloc (.cells #[.slice B0 n0 d0, .slice B1 n1 d1, .slice B2 n2 d2, .int .i64 ra] 36)) (.cells #[.slice B3 n3 d3, .slice B4 n4 d4, .slice B5 n5 d5, .int .i64 rb] 36)
  rw [World.size_alloc] at zd
  obtain ⟨w3, hw3⟩ : ∃ V, (w2.alloc (.cells #[.slice B0 n0 d0, .slice B1 n1 d1, .slice B2 n2 d2, .int .i64 ra] 36)).alloc (.cells #[.slice B3 n3 d3, .slice B4 n4 d4, .slice B5 n5 d5, .int .i64 rb] 36) = V := ⟨_, rfl⟩
  rw [hw3] at b3 zc zd
  have b3 := Lib.hid b3
  have zc := Lib.hid zc
  have zd := Lib.hid zd
  have Y0 := Lib.hid ((b3.out.block _ (blk_lt Y0.out)).trans Y0.out)
  have W := Lib.hid (bthen W.out b3.out)
  have HV := Lib.hid (HV.out.below b3.out)
  have HVB := Lib.hid (HVB.out.below b3.out)
  have hw3' := Lib.hid hw3
  clear hw3 b2
  go_wp2_with fail
  rw [hw3'.out]
  refine (HAP.out w3 HV.out HVB.out).mono ?_
  rintro en w4 ⟨rfl, hb⟩
  have z4 := Lib.hid ((hb.block _ (blk_lt zc.out)).trans zc.out)
  have y4 := Lib.hid ((hb.block _ (blk_lt zd.out)).trans zd.out)
  have Y0 := Lib.hid ((hb.block _ (blk_lt Y0.out)).trans Y0.out)
  have W := Lib.hid (bthen W.out hb)
  have HV := Lib.hid (HV.out.below hb)
  have HVB := Lib.hid (HVB.out.below hb)
  clear hb hw3'
  have x0 : w4.cell? ⟨w2.heap.size, 0, none⟩ = some (.slice B0 n0 d0) := (blk_cell z4.out 0).trans rfl
  have x1 : w4.cell? ⟨w2.heap.size, 1, none⟩ = some (.slice B1 n1 d1) := (blk_cell z4.out 1).trans rfl
  have x2 : w4.cell? ⟨w2.heap.size, 2, none⟩ = some (.slice B2 n2 d2) := (blk_cell z4.out 2).trans rfl
  have x3 : w4.cell? ⟨w2.heap.size, 3, none⟩ = some (.int .i64 ra) := (blk_cell z4.out 3).trans rfl
  have y0 : w4.cell? ⟨w2.heap.size + 1, 0, none⟩ = some (.slice B3 n3 d3) := (blk_cell y4.out 0).trans rfl
  have y1 : w4.cell? ⟨w2.heap.size + 1, 1, none⟩ = some (.slice B4 n4 d4) := (blk_cell y4.out 1).trans rfl
  have y2 : w4.cell? ⟨w2.heap.size + 1, 2, none⟩ = some (.slice B5 n5 d5) := (blk_cell y4.out 2).trans rfl
  have y3 : w4.cell? ⟨w2.heap.size + 1, 3, none⟩ = some (.int .i64 rb) := (blk_cell y4.out 3).trans rfl
  have l0 : w2.heap.size < w4.heap.size := blk_lt z4.out
  have l1 : w2.heap.size + 1 < w4.heap.size := blk_lt y4.out
  have b5 := (Below.refl w4.heap.size w4).alloc (Nat.le_refl _) (.cells #[.int .i64 Rx, .int .i64 Ry, .int .i64 Rz, .int .i64 Rg] 40)
  have p5 := heap_alloc_new w4 (.cells #[.int .i64 Rx, .int .i64 Ry, .int .i64 Rz, .int .i64 Rg] 40)
  obtain ⟨w5, hw5⟩ : ∃ V, w4.alloc (.cells #[.int .i64 Rx, .int .i64 Ry, .int .i64 Rz, .int .i64 Rg] 40) = V := ⟨_, rfl⟩
  obtain ⟨g4, hg4⟩ : ∃ g, w4.heap.size = g := ⟨_, rfl⟩
  rw [hw5] at b5 p5
  rw [hg4] at p5
  have P5 := Lib.hid p5
  have LG4 := Lib.hid (show w2.heap.size + 1 < g4 by omega)
  have z4 := Lib.hid ((b5.block _ (blk_lt z4.out)).trans z4.out)
  have y4 := Lib.hid ((b5.block _ (blk_lt y4.out)).trans y4.out)
  have Y0 := Lib.hid ((b5.block _ (blk_lt Y0.out)).trans Y0.out)
  have W := Lib.hid (bthen W.out b5)
  have HV := Lib.hid (HV.out.below b5)
  have HVB := Lib.hid (HVB.out.below b5)
  have hw5' := Lib.hid hw5
  have hg4' := Lib.hid hg4
  clear b5 p5 hw5 hg4
  go_wp2_with fail
  rw [hw5'.out, hg4'.out]
  refine (HAPB.out w5 HVB.out HV.out).mono ?_
  rintro en w6 ⟨rfl, hb⟩
  have z4 := Lib.hid ((hb.block _ (blk_lt z4.out)).trans z4.out)
  have y4 := Lib.hid ((hb.block _ (blk_lt y4.out)).trans y4.out)
  have Y0 := Lib.hid ((hb.block _ (blk_lt Y0.out)).trans Y0.out)
  have P5 := Lib.hid ((hb.block _ (blk_lt P5.out)).trans P5.out)
  have W := Lib.hid (bthen W.out hb)
  have HV := Lib.hid (HV.out.below hb)
  have HVB := Lib.hid (HVB.out.below hb)
  clear hb hw5' hg4' x0 x1 x2 x3 y0 y1 y2 y3 l0 l1
  have b7 := (Below.refl w6.heap.size w6).alloc (Nat.le_refl _) (.cells #[.int .i64 Sx, .int .i64 Sy, .int .i64 Sz, .int .i64 Rg] 40)
  have p7 := heap_alloc_new w6 (.cells #[.int .i64 Sx, .int .i64 Sy, .int .i64 Sz, .int .i64 Rg] 40)
  obtain ⟨w7, hw7⟩ : ∃ V, w6.alloc (.cells #[.int .i64 Sx, .int .i64 Sy, .int .i64 Sz, .int .i64 Rg] 40) = V := ⟨_, rfl⟩
  obtain ⟨g6, hg6⟩ : ∃ g, w6.heap.size = g := ⟨_, rfl⟩
  rw [hw7] at b7 p7
  rw [hg6] at p7
  have P7_ := Lib.hid p7
  have LG6 := Lib.hid (show g4 < g6 by have := blk_lt P5.out; omega)
  have z4 := Lib.hid ((b7.block _ (blk_lt z4.out)).trans z4.out)
  have y4 := Lib.hid ((b7.block _ (blk_lt y4.out)).trans y4.out)
  have Y0 := Lib.hid ((b7.block _ (blk_lt Y0.out)).trans Y0.out)
  have P5 := Lib.hid ((b7.block _ (blk_lt P5.out)).trans P5.out)
  have W := Lib.hid (bthen W.out b7)
  have HV := Lib.hid (HV.out.below b7)
  have HVB := Lib.hid (HVB.out.below b7)
  have hw7' := Lib.hid hw7
  have hg6' := Lib.hid hg6
  clear b7 p7 hw7 hg6
  have v0 : w7.cell? ⟨w.heap.size + 1, 0, none⟩ = some (.int .i64 bx) := (blk_cell Y0.out 0).trans rfl
  have v1 : w7.cell? ⟨w.heap.size + 1, 1, none⟩ = some (.int .i64 by_) := (blk_cell Y0.out 1).trans rfl
  have v2 : w7.cell? ⟨w.heap.size + 1, 2, none⟩ = some (.int .i64 bz) := (blk_cell Y0.out 2).trans rfl
  have lv : w.heap.size + 1 < w7.heap.size := blk_lt Y0.out
  have ne1 : Hid (w2.heap.size ≠ w.heap.size + 1 ∧ w2.heap.size + 1 ≠ w.heap.size + 1 ∧ g4 ≠ w.heap.size + 1 ∧ g6 ≠ w.heap.size + 1) := Lib.hid (by have := LY1.out; have := LY2.out; have := LG4.out; have := LG6.out; omega)
  go_wp2_with fail
  rw [hw7'.out, hg6'.out]
  clear hw7' hg6'
  have HB := Lib.hid ((Below.refl (w7.heap.size) w7).drew)
  have HD := Lib.hid ((Below.refl w7.heap.size w7).drew)
  have Z8 := Lib.hid (show w7.drew.heap[w2.heap.size]? = _ from z4.out)
  have Y8 := Lib.hid (show w7.drew.heap[w2.heap.size + 1]? = _ from y4.out)
  have P8 := Lib.hid (show w7.drew.heap[g4]? = _ from P5.out)
  have S8 := Lib.hid (show w7.drew.heap[g6]? = _ from P7_.out)
  have HA := Lib.hid (show w7.drew.heap[(w.heap.size + 1)]? = _ from Y0.out)
  have FF := Lib.hid (show ∀ V, Hid (Below (w7.heap.size) w7 V) → V.cell? ⟨w.heap.size + 1, 0, none⟩ = some (.int .i64 bx) ∧ V.cell? ⟨w.heap.size + 1, 1, none⟩ = some (.int .i64 by_) ∧ V.cell? ⟨w.heap.size + 1, 2, none⟩ = some (.int .i64 bz) from fun V HB => ⟨(HB.out.cell (p := ⟨w.heap.size + 1, 0, none⟩) (lv)).trans v0, (HB.out.cell (p := ⟨w.heap.size + 1, 1, none⟩) (lv)).trans v1, (HB.out.cell (p := ⟨w.heap.size + 1, 2, none⟩) (lv)).trans v2⟩)
  refine start_ (n := 11) (S := fun w' => w'.cell? ⟨w.heap.size + 1, 0, none⟩ = some (.int .i64 bx) ∧ w'.cell? ⟨w.heap.size + 1, 1, none⟩ = some (.int .i64 by_) ∧ w'.cell? ⟨w.heap.size + 1, 2, none⟩ = some (.int .i64 bz)) (ds := [10]) (MT 0 11) (by kernel_rfl) rfl rfl (FF.out _ HB) (fun hHeld => ?_)
  obtain ⟨wd, hwd⟩ : ∃ x, w7.drew = x := ⟨_, rfl⟩
  rw [hwd] at HB hHeld HD HA Z8 Y8 P8 S8 ⊢
  clear hwd
  refine pu_ 0 32 (h := ?_)
  refine pu_ 3 35 (h := ?_)
  refine pu_ 6 38 (h := ?_)
  refine ta_ 1 33 hHeld (h := ?_)
  refine ta_ 4 36 hHeld (h := ?_)
  refine ta_ 7 39 hHeld (h := ?_)
  refine on_ 2 (some 34) (h := fun K hK => ?_)
  refine goes_ Try.func22 (by kernel_rfl) rfl #[.int .i64 bx, .int .i64 1048576] (by rfl) rfl rfl (by simp only [List.map_toArray, List.map_cons, List.map_nil]; rfl) ?_
  with_reducible refine (HPX.out _).mono ?_
  rintro e' w9 ⟨rfl, rfl⟩
  refine ⟨_, rfl, ?_⟩
  refine hK.out _ _ (FF.out _ HB) (fun hHeld => ?_)
  clear hK K
  refine no_ (h := ?_)
  refine on_ 5 (some 37) (h := fun K hK => ?_)
  refine goes_ Try.func22 (by kernel_rfl) rfl #[.int .i64 by_, .int .i64 1048576] (by rfl) rfl rfl (by simp only [List.map_toArray, List.map_cons, List.map_nil]; rfl) ?_
  with_reducible refine (HPY.out _).mono ?_
  rintro e' w9 ⟨rfl, rfl⟩
  refine ⟨_, rfl, ?_⟩
  refine hK.out _ _ (FF.out _ HB) (fun hHeld => ?_)
  clear hK K
  refine no_ (h := ?_)
  refine on_ 8 (some 40) (h := fun K hK => ?_)
  refine goes_ Try.func22 (by kernel_rfl) rfl #[.int .i64 bz, .int .i64 1048576] (by rfl) rfl rfl (by simp only [List.map_toArray, List.map_cons, List.map_nil]; rfl) ?_
  with_reducible refine (HPZ.out _).mono ?_
  rintro e' w9 ⟨rfl, rfl⟩
  refine ⟨_, rfl, ?_⟩
  refine hK.out _ _ (FF.out _ HB) (fun hHeld => ?_)
  clear hK K
  refine no_ (h := ?_)
  refine pu_ 9 41 (h := ?_)
  refine last_ (i := 10) (N := none) (MT 11 0) rfl rfl (by kernel_rfl) (by decide) (fun K hK => ?_)
  have sc0 : World.cell? _ ⟨(w.heap.size + 1), 0, none⟩ = some (.int .i64 bx) := (blk_cell HA.out 0).trans rfl
  have sf0 := blk_frozen HA.out 0
  have sc1 : World.cell? _ ⟨(w.heap.size + 1), 1, none⟩ = some (.int .i64 by_) := (blk_cell HA.out 1).trans rfl
  have sf1 := blk_frozen HA.out 1
  have sc2 : World.cell? _ ⟨(w.heap.size + 1), 2, none⟩ = some (.int .i64 bz) := (blk_cell HA.out 2).trans rfl
  have sf2 := blk_frozen HA.out 2
  refine skip_ (w1 := ?_) (by rfl) rfl ?_ ?_
  rotate_left
  · go_simp
    rfl
  have HB := Lib.hid (show Below (w.heap.size) _ _ from HB.out.mono (show w.heap.size ≤ _ by have := lv; omega))
  have HA := Lib.hid (bs3 HA.out (.int .i64 qx) (.int .i64 qy) (.int .i64 qz))
  have HB := Lib.hid (bb3 HB.out (show w.heap.size ≤ w.heap.size + 1 from Nat.le_succ _) (.int .i64 qx) (.int .i64 qy) (.int .i64 qz))
  clear sc0 sf0 sc1 sf1 sc2 sf2
  refine hK.out _ _ ?_
  clear hK K
  refine done_ (by kernel_rfl) ?_
  have Z8 := Lib.hid ((bo3 (ne1.out.1) (.int .i64 qx) (.int .i64 qy) (.int .i64 qz)).trans Z8.out)
  have Y8 := Lib.hid ((bo3 (ne1.out.2.1) (.int .i64 qx) (.int .i64 qy) (.int .i64 qz)).trans Y8.out)
  have P8 := Lib.hid ((bo3 (ne1.out.2.2.1) (.int .i64 qx) (.int .i64 qy) (.int .i64 qz)).trans P8.out)
  have S8 := Lib.hid ((bo3 (ne1.out.2.2.2) (.int .i64 qx) (.int .i64 qy) (.int .i64 qz)).trans S8.out)
  have HV := Lib.hid ((((HV.out.below HD.out).setLow HFA.out (LY1.out) 0 (.int .i64 qx)).setLow HFA.out (LY1.out) 1 (.int .i64 qy)).setLow HFA.out (LY1.out) 2 (.int .i64 qz))
  have HVB := Lib.hid ((((HVB.out.below HD.out).setLow HFB.out (LY1.out) 0 (.int .i64 qx)).setLow HFB.out (LY1.out) 1 (.int .i64 qy)).setLow HFB.out (LY1.out) 2 (.int .i64 qz))
  obtain ⟨w8, hwn⟩ : ∃ V, (((w9.setCell ⟨(w.heap.size + 1), 0, none⟩ (.int .i64 qx)).setCell ⟨(w.heap.size + 1), 1, none⟩ (.int .i64 qy)).setCell ⟨(w.heap.size + 1), 2, none⟩ (.int .i64 qz)) = V := ⟨_, rfl⟩
  rw [hwn] at HA HB Z8 Y8 P8 S8 HV HVB ⊢
  clear hwn
  have Q8 := HA
  have W := Lib.hid (W.out.trans HB.out)
  clear HA HB HD z4 y4 P5 P7_ Y0 v0 v1 v2 lv
  have x0 : w8.cell? ⟨w2.heap.size, 0, none⟩ = some (.slice B0 n0 d0) := (blk_cell Z8.out 0).trans rfl
  have x1 : w8.cell? ⟨w2.heap.size, 1, none⟩ = some (.slice B1 n1 d1) := (blk_cell Z8.out 1).trans rfl
  have x2 : w8.cell? ⟨w2.heap.size, 2, none⟩ = some (.slice B2 n2 d2) := (blk_cell Z8.out 2).trans rfl
  have x3 : w8.cell? ⟨w2.heap.size, 3, none⟩ = some (.int .i64 ra) := (blk_cell Z8.out 3).trans rfl
  have y0 : w8.cell? ⟨w2.heap.size + 1, 0, none⟩ = some (.slice B3 n3 d3) := (blk_cell Y8.out 0).trans rfl
  have y1 : w8.cell? ⟨w2.heap.size + 1, 1, none⟩ = some (.slice B4 n4 d4) := (blk_cell Y8.out 1).trans rfl
  have y2 : w8.cell? ⟨w2.heap.size + 1, 2, none⟩ = some (.slice B5 n5 d5) := (blk_cell Y8.out 2).trans rfl
  have y3 : w8.cell? ⟨w2.heap.size + 1, 3, none⟩ = some (.int .i64 rb) := (blk_cell Y8.out 3).trans rfl
  have v0 : w8.cell? ⟨w.heap.size + 1, 0, none⟩ = some (.int .i64 qx) := (blk_cell Q8.out 0).trans rfl
  have v1 : w8.cell? ⟨w.heap.size + 1, 1, none⟩ = some (.int .i64 qy) := (blk_cell Q8.out 1).trans rfl
  have v2 : w8.cell? ⟨w.heap.size + 1, 2, none⟩ = some (.int .i64 qz) := (blk_cell Q8.out 2).trans rfl
  have lv : w.heap.size + 1 < w8.heap.size := blk_lt Q8.out
  have l0 : w2.heap.size < w8.heap.size := blk_lt Z8.out
  have l1 : w2.heap.size + 1 < w8.heap.size := blk_lt Y8.out
  go_wp2_with fail
  have HB := Lib.hid ((Below.refl (w8.heap.size) w8).drew)
  have FF := Lib.hid (show ∀ V, Hid (Below (w8.heap.size) w8 V) → V.cell? ⟨w.heap.size + 1, 0, none⟩ = some (.int .i64 qx) ∧ V.cell? ⟨w.heap.size + 1, 1, none⟩ = some (.int .i64 qy) ∧ V.cell? ⟨w.heap.size + 1, 2, none⟩ = some (.int .i64 qz) ∧ V.cell? ⟨w2.heap.size, 0, none⟩ = some (.slice B0 n0 d0) ∧ V.cell? ⟨w2.heap.size, 1, none⟩ = some (.slice B1 n1 d1) ∧ V.cell? ⟨w2.heap.size, 2, none⟩ = some (.slice B2 n2 d2) ∧ V.cell? ⟨w2.heap.size, 3, none⟩ = some (.int .i64 ra) ∧ V.cell? ⟨w2.heap.size + 1, 0, none⟩ = some (.slice B3 n3 d3) ∧ V.cell? ⟨w2.heap.size + 1, 1, none⟩ = some (.slice B4 n4 d4) ∧ V.cell? ⟨w2.heap.size + 1, 2, none⟩ = some (.slice B5 n5 d5) ∧ V.cell? ⟨w2.heap.size + 1, 3, none⟩ = some (.int .i64 rb) from fun V HB => ⟨(HB.out.cell (p := ⟨w.heap.size + 1, 0, none⟩) (lv)).trans v0, (HB.out.cell (p := ⟨w.heap.size + 1, 1, none⟩) (lv)).trans v1, (HB.out.cell (p := ⟨w.heap.size + 1, 2, none⟩) (lv)).trans v2, (HB.out.cell (p := ⟨w2.heap.size, 0, none⟩) (l0)).trans x0, (HB.out.cell (p := ⟨w2.heap.size, 1, none⟩) (l0)).trans x1, (HB.out.cell (p := ⟨w2.heap.size, 2, none⟩) (l0)).trans x2, (HB.out.cell (p := ⟨w2.heap.size, 3, none⟩) (l0)).trans x3, (HB.out.cell (p := ⟨w2.heap.size + 1, 0, none⟩) (l1)).trans y0, (HB.out.cell (p := ⟨w2.heap.size + 1, 1, none⟩) (l1)).trans y1, (HB.out.cell (p := ⟨w2.heap.size + 1, 2, none⟩) (l1)).trans y2, (HB.out.cell (p := ⟨w2.heap.size + 1, 3, none⟩) (l1)).trans y3⟩)
  refine start_ (n := 13) (S := fun w' => w'.cell? ⟨w.heap.size + 1, 0, none⟩ = some (.int .i64 qx) ∧ w'.cell? ⟨w.heap.size + 1, 1, none⟩ = some (.int .i64 qy) ∧ w'.cell? ⟨w.heap.size + 1, 2, none⟩ = some (.int .i64 qz) ∧ w'.cell? ⟨w2.heap.size, 0, none⟩ = some (.slice B0 n0 d0) ∧ w'.cell? ⟨w2.heap.size, 1, none⟩ = some (.slice B1 n1 d1) ∧ w'.cell? ⟨w2.heap.size, 2, none⟩ = some (.slice B2 n2 d2) ∧ w'.cell? ⟨w2.heap.size, 3, none⟩ = some (.int .i64 ra) ∧ w'.cell? ⟨w2.heap.size + 1, 0, none⟩ = some (.slice B3 n3 d3) ∧ w'.cell? ⟨w2.heap.size + 1, 1, none⟩ = some (.slice B4 n4 d4) ∧ w'.cell? ⟨w2.heap.size + 1, 2, none⟩ = some (.slice B5 n5 d5) ∧ w'.cell? ⟨w2.heap.size + 1, 3, none⟩ = some (.int .i64 rb)) (ds := []) (MT 0 13) (by kernel_rfl) rfl rfl (FF.out _ HB) (fun hHeld => ?_)
  obtain ⟨wd, hwd⟩ : ∃ x, w8.drew = x := ⟨_, rfl⟩
  rw [hwd] at HB hHeld ⊢
  clear hwd
  refine ta_ 0 43 hHeld (h := ?_)
  refine ta_ 1 44 hHeld (h := ?_)
  refine ta_ 3 46 hHeld (h := ?_)
  refine ta_ 4 47 hHeld (h := ?_)
  refine join_ (σ := Nat × Value × Value) 2 (MT 11 2) (fun s => [(45, s.2.1), (48, s.2.2), (49, .tuple #[.agg #[.int .i64 Rx, .int .i64 Ry, .int .i64 Rz, .int .i64 Rg], .bool true]), (42, .tuple #[.agg #[.int .i64 Rx, .int .i64 Ry, .int .i64 Rz, .int .i64 Rg], .bool true]), (50, .agg #[.int .i64 Rx, .int .i64 Ry, .int .i64 Rz, .int .i64 Rg]), (51, .bool true), (12, .pointer (some ⟨s.1, 0, none⟩))]) (fun (s : Nat × Value × Value) w' => match s with | (s1, s2, s3) => w8.heap.size ≤ s1 ∧ w'.heap[s1]? = some (.cells #[.int .i64 0, .int .i64 0, .int .i64 0, .int .i64 0] 40 (0, 0)) ∧ Below (w8.heap.size) w8 w') ?_ ?_
  rotate_left
  · intro hCont
    refine two_ (i := 2) (j := 10) (Ni := some 45) (Nj := some 12) (MT 5 8) #[true, true, false, true, true, false, false, false, false, false, true, false, false] rfl rfl rfl rfl (by kernel_rfl) (by decide) (by decide) (fun K hK => ?_) (fun K hK => ?_)
    · skip
      refine goes_ Try.func30 (by kernel_rfl) rfl #[.agg #[.slice B0 n0 d0, .slice B1 n1 d1, .slice B2 n2 d2, .int .i64 ra], aP ⟨qx, qy, qz⟩] (by rfl) rfl rfl (by simp only [List.map_toArray, List.map_cons, List.map_nil]; rfl) ?_
      with_reducible refine (HMA.out _ (HV.out.below HB.out)).mono ?_
      rintro en w9 ⟨UA, rfl, hv, hb⟩
      have KA := Lib.hid hv
      have HB := Lib.hid (HB.out.trans (hb.mono (Nat.le_trans (Nat.le_refl _) HB.out.size)))
      clear hb hv
      refine ⟨_, rfl, ?_⟩
      refine hK.out _ _ (FF.out _ HB) (fun hHeld => ?_)
      clear hK K
      refine no_ (h := ?_)
      refine two_ (i := 5) (j := 10) (Ni := some 48) (Nj := some 12) (MT 6 7) #[true, true, true, true, true, false, false, false, false, false, true, false, false] rfl rfl rfl rfl (by kernel_rfl) (by decide) (by decide) (fun K hK => ?_) (fun K hK => ?_)
      · skip
        refine goes_ Try.func30 (by kernel_rfl) rfl #[.agg #[.slice B3 n3 d3, .slice B4 n4 d4, .slice B5 n5 d5, .int .i64 rb], aP ⟨qx, qy, qz⟩] (by rfl) rfl rfl (by simp only [List.map_toArray, List.map_cons, List.map_nil]; rfl) ?_
        with_reducible refine (HMB.out _ (HVB.out.below HB.out)).mono ?_
        rintro en w9 ⟨UB, rfl, hv, hb⟩
        have KA := Lib.hid (KA.out.below hb)
        have KB := Lib.hid hv
        have HB := Lib.hid (HB.out.trans (hb.mono (Nat.le_trans (Nat.le_refl _) HB.out.size)))
        clear hb hv
        refine ⟨_, rfl, ?_⟩
        refine hK.out _ _ (FF.out _ HB) (fun hHeld => ?_)
        clear hK K
        refine no_ (h := ?_)
        refine two_ (i := 6) (j := 10) (Ni := some 49) (Nj := some 12) (MT 7 6) #[true, true, true, true, true, true, false, false, false, false, true, false, false] rfl rfl rfl rfl (by kernel_rfl) (by decide) (by decide) (fun K hK => ?_) (fun K hK => ?_)
        · skip
          refine goes_ Try.func20 (by kernel_rfl) rfl #[UA, UB] (by rfl) rfl rfl (by simp only [List.map_toArray, List.map_cons, List.map_nil]; rfl) ?_
          with_reducible refine (HAPM.out _ _ _ KA.out KB.out).mono ?_
          rintro en w9 ⟨rfl, hb⟩
          have HB := Lib.hid (HB.out.trans (hb.mono (Nat.le_trans (Nat.le_refl _) HB.out.size)))
          clear hb
          refine ⟨_, rfl, ?_⟩
          refine hK.out _ _ (FF.out _ HB) (fun hHeld => ?_)
          clear hK K
          refine no_ (h := ?_)
          refine pu_ 7 42 (h := ?_)
          refine pu_ 8 50 (h := ?_)
          refine pu_ 9 51 (h := ?_)
          refine on_ 10 (some 12) (h := fun K hK => ?_)
          refine value_ (w1 := ?_) (v := ?_) (by rfl) rfl ?_ ?_
          rotate_left 2
          · go_simp
            constructor
            · rfl
            · rfl
          have HA := Lib.hid (ha_new HB.out (.cells #[.int .i64 0, .int .i64 0, .int .i64 0, .int .i64 0] 40))
          have hge := HB.out.size
          have HB := Lib.hid (HB.out.alloc (Nat.le_trans (Nat.le_refl _) HB.out.size) (.cells #[.int .i64 0, .int .i64 0, .int .i64 0, .int .i64 0] 40))
          refine hK.out _ _ (FF.out _ HB) (fun hHeld => ?_)
          clear hK K
          refine no_ (h := ?_)
          exact norm_ (by simp only [putAll, Act.put, List.setIfInBounds_toArray, List.set_cons_zero, List.set_cons_succ]) (hCont (_, UA, UB) _ ⟨hge, HA.out, HB.out⟩)
        · skip
          refine value_ (w1 := ?_) (v := ?_) (by rfl) rfl ?_ ?_
          rotate_left 2
          · go_simp
            constructor
            · rfl
            · rfl
          have HA := Lib.hid (ha_new HB.out (.cells #[.int .i64 0, .int .i64 0, .int .i64 0, .int .i64 0] 40))
          have hge := HB.out.size
          have KA := Lib.hid (KA.out.below ((Below.refl _ _).alloc (Nat.le_refl _) (.cells #[.int .i64 0, .int .i64 0, .int .i64 0, .int .i64 0] 40)))
          have KB := Lib.hid (KB.out.below ((Below.refl _ _).alloc (Nat.le_refl _) (.cells #[.int .i64 0, .int .i64 0, .int .i64 0, .int .i64 0] 40)))
          have HB := Lib.hid (HB.out.alloc (Nat.le_trans (Nat.le_refl _) HB.out.size) (.cells #[.int .i64 0, .int .i64 0, .int .i64 0, .int .i64 0] 40))
          refine hK.out _ _ (FF.out _ HB) (fun hHeld => ?_)
          clear hK K
          refine no_ (h := ?_)
          refine on_ 6 (some 49) (h := fun K hK => ?_)
          refine goes_ Try.func20 (by kernel_rfl) rfl #[UA, UB] (by rfl) rfl rfl (by simp only [List.map_toArray, List.map_cons, List.map_nil]; rfl) ?_
          with_reducible refine (HAPM.out _ _ _ KA.out KB.out).mono ?_
          rintro en w9 ⟨rfl, hb⟩
          have HA := Lib.hid ((hb.block _ (blk_lt HA.out)).trans HA.out)
          have HB := Lib.hid (HB.out.trans (hb.mono (Nat.le_trans (Nat.le_refl _) HB.out.size)))
          clear hb
          refine ⟨_, rfl, ?_⟩
          refine hK.out _ _ (FF.out _ HB) (fun hHeld => ?_)
          clear hK K
          refine no_ (h := ?_)
          refine pu_ 7 42 (h := ?_)
          refine pu_ 8 50 (h := ?_)
          refine pu_ 9 51 (h := ?_)
          exact norm_ (by simp only [putAll, Act.put, List.setIfInBounds_toArray, List.set_cons_zero, List.set_cons_succ]) (hCont (_, UA, UB) _ ⟨hge, HA.out, HB.out⟩)
      · skip
        refine value_ (w1 := ?_) (v := ?_) (by rfl) rfl ?_ ?_
        rotate_left 2
        · go_simp
          constructor
          · rfl
          · rfl
        have HA := Lib.hid (ha_new HB.out (.cells #[.int .i64 0, .int .i64 0, .int .i64 0, .int .i64 0] 40))
        have hge := HB.out.size
        have KA := Lib.hid (KA.out.below ((Below.refl _ _).alloc (Nat.le_refl _) (.cells #[.int .i64 0, .int .i64 0, .int .i64 0, .int .i64 0] 40)))
        have HB := Lib.hid (HB.out.alloc (Nat.le_trans (Nat.le_refl _) HB.out.size) (.cells #[.int .i64 0, .int .i64 0, .int .i64 0, .int .i64 0] 40))
        refine hK.out _ _ (FF.out _ HB) (fun hHeld => ?_)
        clear hK K
        refine no_ (h := ?_)
        refine on_ 5 (some 48) (h := fun K hK => ?_)
        refine goes_ Try.func30 (by kernel_rfl) rfl #[.agg #[.slice B3 n3 d3, .slice B4 n4 d4, .slice B5 n5 d5, .int .i64 rb], aP ⟨qx, qy, qz⟩] (by rfl) rfl rfl (by simp only [List.map_toArray, List.map_cons, List.map_nil]; rfl) ?_
        with_reducible refine (HMB.out _ (HVB.out.below HB.out)).mono ?_
        rintro en w9 ⟨UB, rfl, hv, hb⟩
        have HA := Lib.hid ((hb.block _ (blk_lt HA.out)).trans HA.out)
        have KA := Lib.hid (KA.out.below hb)
        have KB := Lib.hid hv
        have HB := Lib.hid (HB.out.trans (hb.mono (Nat.le_trans (Nat.le_refl _) HB.out.size)))
        clear hb hv
        refine ⟨_, rfl, ?_⟩
        refine hK.out _ _ (FF.out _ HB) (fun hHeld => ?_)
        clear hK K
        refine no_ (h := ?_)
        refine on_ 6 (some 49) (h := fun K hK => ?_)
        refine goes_ Try.func20 (by kernel_rfl) rfl #[UA, UB] (by rfl) rfl rfl (by simp only [List.map_toArray, List.map_cons, List.map_nil]; rfl) ?_
        with_reducible refine (HAPM.out _ _ _ KA.out KB.out).mono ?_
        rintro en w9 ⟨rfl, hb⟩
        have HA := Lib.hid ((hb.block _ (blk_lt HA.out)).trans HA.out)
        have HB := Lib.hid (HB.out.trans (hb.mono (Nat.le_trans (Nat.le_refl _) HB.out.size)))
        clear hb
        refine ⟨_, rfl, ?_⟩
        refine hK.out _ _ (FF.out _ HB) (fun hHeld => ?_)
        clear hK K
        refine no_ (h := ?_)
        refine pu_ 7 42 (h := ?_)
        refine pu_ 8 50 (h := ?_)
        refine pu_ 9 51 (h := ?_)
        exact norm_ (by simp only [putAll, Act.put, List.setIfInBounds_toArray, List.set_cons_zero, List.set_cons_succ]) (hCont (_, UA, UB) _ ⟨hge, HA.out, HB.out⟩)
    · skip
      refine value_ (w1 := ?_) (v := ?_) (by rfl) rfl ?_ ?_
      rotate_left 2
      · go_simp
        constructor
        · rfl
        · rfl
      have HA := Lib.hid (ha_new HB.out (.cells #[.int .i64 0, .int .i64 0, .int .i64 0, .int .i64 0] 40))
      have hge := HB.out.size
      have HB := Lib.hid (HB.out.alloc (Nat.le_trans (Nat.le_refl _) HB.out.size) (.cells #[.int .i64 0, .int .i64 0, .int .i64 0, .int .i64 0] 40))
      refine hK.out _ _ (FF.out _ HB) (fun hHeld => ?_)
      clear hK K
      refine no_ (h := ?_)
      refine on_ 2 (some 45) (h := fun K hK => ?_)
      refine goes_ Try.func30 (by kernel_rfl) rfl #[.agg #[.slice B0 n0 d0, .slice B1 n1 d1, .slice B2 n2 d2, .int .i64 ra], aP ⟨qx, qy, qz⟩] (by rfl) rfl rfl (by simp only [List.map_toArray, List.map_cons, List.map_nil]; rfl) ?_
      with_reducible refine (HMA.out _ (HV.out.below HB.out)).mono ?_
      rintro en w9 ⟨UA, rfl, hv, hb⟩
      have HA := Lib.hid ((hb.block _ (blk_lt HA.out)).trans HA.out)
      have KA := Lib.hid hv
      have HB := Lib.hid (HB.out.trans (hb.mono (Nat.le_trans (Nat.le_refl _) HB.out.size)))
      clear hb hv
      refine ⟨_, rfl, ?_⟩
      refine hK.out _ _ (FF.out _ HB) (fun hHeld => ?_)
      clear hK K
      refine no_ (h := ?_)
      refine on_ 5 (some 48) (h := fun K hK => ?_)
      refine goes_ Try.func30 (by kernel_rfl) rfl #[.agg #[.slice B3 n3 d3, .slice B4 n4 d4, .slice B5 n5 d5, .int .i64 rb], aP ⟨qx, qy, qz⟩] (by rfl) rfl rfl (by simp only [List.map_toArray, List.map_cons, List.map_nil]; rfl) ?_
      with_reducible refine (HMB.out _ (HVB.out.below HB.out)).mono ?_
      rintro en w9 ⟨UB, rfl, hv, hb⟩
      have HA := Lib.hid ((hb.block _ (blk_lt HA.out)).trans HA.out)
      have KA := Lib.hid (KA.out.below hb)
      have KB := Lib.hid hv
      have HB := Lib.hid (HB.out.trans (hb.mono (Nat.le_trans (Nat.le_refl _) HB.out.size)))
      clear hb hv
      refine ⟨_, rfl, ?_⟩
      refine hK.out _ _ (FF.out _ HB) (fun hHeld => ?_)
      clear hK K
      refine no_ (h := ?_)
      refine on_ 6 (some 49) (h := fun K hK => ?_)
      refine goes_ Try.func20 (by kernel_rfl) rfl #[UA, UB] (by rfl) rfl rfl (by simp only [List.map_toArray, List.map_cons, List.map_nil]; rfl) ?_
      with_reducible refine (HAPM.out _ _ _ KA.out KB.out).mono ?_
      rintro en w9 ⟨rfl, hb⟩
      have HA := Lib.hid ((hb.block _ (blk_lt HA.out)).trans HA.out)
      have HB := Lib.hid (HB.out.trans (hb.mono (Nat.le_trans (Nat.le_refl _) HB.out.size)))
      clear hb
      refine ⟨_, rfl, ?_⟩
      refine hK.out _ _ (FF.out _ HB) (fun hHeld => ?_)
      clear hK K
      refine no_ (h := ?_)
      refine pu_ 7 42 (h := ?_)
      refine pu_ 8 50 (h := ?_)
      refine pu_ 9 51 (h := ?_)
      exact norm_ (by simp only [putAll, Act.put, List.setIfInBounds_toArray, List.set_cons_zero, List.set_cons_succ]) (hCont (_, UA, UB) _ ⟨hge, HA.out, HB.out⟩)
  rintro ⟨AB, UA, UB⟩ wj ⟨hge, HA, HB⟩
  (try simp only at hge HA HB)
  have HA := Lib.hid HA
  have HB := Lib.hid HB
  have hHeld : wj.cell? ⟨w.heap.size + 1, 0, none⟩ = some (.int .i64 qx) ∧ wj.cell? ⟨w.heap.size + 1, 1, none⟩ = some (.int .i64 qy) ∧ wj.cell? ⟨w.heap.size + 1, 2, none⟩ = some (.int .i64 qz) ∧ wj.cell? ⟨w2.heap.size, 0, none⟩ = some (.slice B0 n0 d0) ∧ wj.cell? ⟨w2.heap.size, 1, none⟩ = some (.slice B1 n1 d1) ∧ wj.cell? ⟨w2.heap.size, 2, none⟩ = some (.slice B2 n2 d2) ∧ wj.cell? ⟨w2.heap.size, 3, none⟩ = some (.int .i64 ra) ∧ wj.cell? ⟨w2.heap.size + 1, 0, none⟩ = some (.slice B3 n3 d3) ∧ wj.cell? ⟨w2.heap.size + 1, 1, none⟩ = some (.slice B4 n4 d4) ∧ wj.cell? ⟨w2.heap.size + 1, 2, none⟩ = some (.slice B5 n5 d5) ∧ wj.cell? ⟨w2.heap.size + 1, 3, none⟩ = some (.int .i64 rb) := (FF.out _ HB)
  refine no_ (h := ?_)
  refine on_ 11 (none) (h := fun K hK => ?_)
  have sc0 : World.cell? _ ⟨AB, 0, none⟩ = some (.int .i64 0) := (blk_cell HA.out 0).trans rfl
  have sf0 := blk_frozen HA.out 0
  have sc1 : World.cell? _ ⟨AB, 1, none⟩ = some (.int .i64 0) := (blk_cell HA.out 1).trans rfl
  have sf1 := blk_frozen HA.out 1
  have sc2 : World.cell? _ ⟨AB, 2, none⟩ = some (.int .i64 0) := (blk_cell HA.out 2).trans rfl
  have sf2 := blk_frozen HA.out 2
  have sc3 : World.cell? _ ⟨AB, 3, none⟩ = some (.int .i64 0) := (blk_cell HA.out 3).trans rfl
  have sf3 := blk_frozen HA.out 3
  refine skip_ (w1 := ?_) (by rfl) rfl ?_ ?_
  rotate_left
  · go_simp
    rfl
  have HA := Lib.hid (bs4 HA.out (.int .i64 Rx) (.int .i64 Ry) (.int .i64 Rz) (.int .i64 Rg))
  have HB := Lib.hid (bb4 HB.out (Nat.le_trans (Nat.le_refl _) hge) (.int .i64 Rx) (.int .i64 Ry) (.int .i64 Rz) (.int .i64 Rg))
  clear sc0 sf0 sc1 sf1 sc2 sf2 sc3 sf3
  refine hK.out _ _ (FF.out _ HB) (fun hHeld => ?_)
  clear hK K
  refine pu_ 12 13 (h := ?_)
  refine done_ (by kernel_rfl) ?_
  obtain ⟨w10, hwn⟩ : ∃ V, ((((wj.setCell ⟨AB, 0, none⟩ (.int .i64 Rx)).setCell ⟨AB, 1, none⟩ (.int .i64 Ry)).setCell ⟨AB, 2, none⟩ (.int .i64 Rz)).setCell ⟨AB, 3, none⟩ (.int .i64 Rg)) = V := ⟨_, rfl⟩
  rw [hwn] at HA HB ⊢
  clear hwn
  have V10 := HA
  have Z8 := Lib.hid ((HB.out.block _ l0).trans Z8.out)
  have Y8 := Lib.hid ((HB.out.block _ l1).trans Y8.out)
  have P8 := Lib.hid ((HB.out.block _ (blk_lt P8.out)).trans P8.out)
  have S8 := Lib.hid ((HB.out.block _ (blk_lt S8.out)).trans S8.out)
  have W := Lib.hid (bthen W.out HB.out)
  have HV := Lib.hid (HV.out.below HB.out)
  have HVB := Lib.hid (HVB.out.below HB.out)
  clear HA HB hge x0 x1 x2 x3 y0 y1 y2 y3 v0 v1 v2 lv l0 l1
  have x0 : w10.cell? ⟨w2.heap.size, 0, none⟩ = some (.slice B0 n0 d0) := (blk_cell Z8.out 0).trans rfl
  have x1 : w10.cell? ⟨w2.heap.size, 1, none⟩ = some (.slice B1 n1 d1) := (blk_cell Z8.out 1).trans rfl
  have x2 : w10.cell? ⟨w2.heap.size, 2, none⟩ = some (.slice B2 n2 d2) := (blk_cell Z8.out 2).trans rfl
  have x3 : w10.cell? ⟨w2.heap.size, 3, none⟩ = some (.int .i64 ra) := (blk_cell Z8.out 3).trans rfl
  have y0 : w10.cell? ⟨w2.heap.size + 1, 0, none⟩ = some (.slice B3 n3 d3) := (blk_cell Y8.out 0).trans rfl
  have y1 : w10.cell? ⟨w2.heap.size + 1, 1, none⟩ = some (.slice B4 n4 d4) := (blk_cell Y8.out 1).trans rfl
  have y2 : w10.cell? ⟨w2.heap.size + 1, 2, none⟩ = some (.slice B5 n5 d5) := (blk_cell Y8.out 2).trans rfl
  have y3 : w10.cell? ⟨w2.heap.size + 1, 3, none⟩ = some (.int .i64 rb) := (blk_cell Y8.out 3).trans rfl
  have p0 : w10.cell? ⟨g4, 0, none⟩ = some (.int .i64 Rx) := (blk_cell P8.out 0).trans rfl
  have p1 : w10.cell? ⟨g4, 1, none⟩ = some (.int .i64 Ry) := (blk_cell P8.out 1).trans rfl
  have p2 : w10.cell? ⟨g4, 2, none⟩ = some (.int .i64 Rz) := (blk_cell P8.out 2).trans rfl
  have p3 : w10.cell? ⟨g4, 3, none⟩ = some (.int .i64 Rg) := (blk_cell P8.out 3).trans rfl
  have s0 : w10.cell? ⟨g6, 0, none⟩ = some (.int .i64 Sx) := (blk_cell S8.out 0).trans rfl
  have s1 : w10.cell? ⟨g6, 1, none⟩ = some (.int .i64 Sy) := (blk_cell S8.out 1).trans rfl
  have s2 : w10.cell? ⟨g6, 2, none⟩ = some (.int .i64 Sz) := (blk_cell S8.out 2).trans rfl
  have s3 : w10.cell? ⟨g6, 3, none⟩ = some (.int .i64 Rg) := (blk_cell S8.out 3).trans rfl
  go_wp2_with fail
  refine (HNT.out w10 HVB.out HV.out).mono ?_
  rintro en w11 ⟨rfl, hb⟩
  have V10 := Lib.hid ((hb.block _ (blk_lt V10.out)).trans V10.out)
  have P8 := Lib.hid ((hb.block _ (blk_lt P8.out)).trans P8.out)
  have W := Lib.hid (bthen W.out hb)
  clear hb x0 x1 x2 x3 y0 y1 y2 y3 p0 p1 p2 p3 s0 s1 s2 s3
  have p0 : w11.cell? ⟨g4, 0, none⟩ = some (.int .i64 Rx) := (blk_cell P8.out 0).trans rfl
  have p1 : w11.cell? ⟨g4, 1, none⟩ = some (.int .i64 Ry) := (blk_cell P8.out 1).trans rfl
  have p2 : w11.cell? ⟨g4, 2, none⟩ = some (.int .i64 Rz) := (blk_cell P8.out 2).trans rfl
  have p3 : w11.cell? ⟨g4, 3, none⟩ = some (.int .i64 Rg) := (blk_cell P8.out 3).trans rfl
  have s0 : w11.cell? ⟨AB, 0, none⟩ = some (.int .i64 Rx) := (blk_cell V10.out 0).trans rfl
  have s1 : w11.cell? ⟨AB, 1, none⟩ = some (.int .i64 Ry) := (blk_cell V10.out 1).trans rfl
  have s2 : w11.cell? ⟨AB, 2, none⟩ = some (.int .i64 Rz) := (blk_cell V10.out 2).trans rfl
  have s3 : w11.cell? ⟨AB, 3, none⟩ = some (.int .i64 Rg) := (blk_cell V10.out 3).trans rfl
  have heq : eqP Rx Ry Rz Rx Ry Rz = true := eqP_yes rfl
  go_wp2
  go_ret
  exact ⟨rfl, W.out⟩
end Go.Proofs.Ytckdhahceelckaa.G
