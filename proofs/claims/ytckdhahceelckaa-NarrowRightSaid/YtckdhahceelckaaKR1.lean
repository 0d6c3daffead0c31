/- What the laws of this claim lean on: contracts of the functions that they reach, and plain lemmas; no condition of its own (part 1 of 1; the texts XR1, XR2, XR4, XR5, XR3, XR10, XR11, XR12, XR6, XR7, XR13, XR14, XR15, XR8, XR9, XR16, XR17). -/
import Derived.Test.YtckdhahceelckaaKA5
import Derived.BigQuiet
import Derived.Deep.DeepCutAuto
import Derived.Lib.SmallJoins
import Derived.Maps.AppendAt
namespace Go.Proofs.Ytckdhahceelckaa.G
open Go.RowKit Go.Proofs.YtckdhahceelckaaW.PrintWords Go.Proofs.YtckdhahceelckaaW.PrintLast Go.Proofs.YtckdhahceelckaaW.PrintMore
attribute [local go_sem] max2_mx min2_mn max_two min_two max_three min_three max_four min_four
attribute [local go_sem high] eqA23
set_option linter.unusedVariables false
set_option linter.unusedSimpArgs false
set_option maxHeartbeats 4000000 in
theorem rin_calls (p : P3) (n : Int) (r : Bool) (hr : decide (in3 n p) = r) (h0 : 0 ≤ n) (h1 : n ≤ 4611686018427387904) (w : World) :
    Calls Try.prog 67 #[aP p, .int .i64 n] w fun e w' => e = .returned (.bool r) ∧ Below w.heap.size w w' := by
  obtain ⟨x, y, z⟩ := p
  have ew : IntKind.i64.wrap (-n) = -n := iw_id _ (by omega) (by omega)
  by_cases t0 : -n ≤ x
  rotate_left
  · have E : Hid (r = false) := Lib.hid (by rw [← hr]; apply decide_eq_false; rintro ⟨k1, k2, k3, k4, k5, k6⟩; simp only at k1 k2 k3 k4 k5 k6; omega)
    have d0 : decide (-n ≤ x) = false := by simpa using t0
    clear hr t0
    go_enter Try.func67, Try.ntmps67
    go_wp2
    go_ret
    exact ⟨by rw [E.out]; rfl, (Below.refl _ w).alloc (Nat.le_refl _) _⟩
  by_cases t1 : x ≤ n
  rotate_left
  · have E : Hid (r = false) := Lib.hid (by rw [← hr]; apply decide_eq_false; rintro ⟨k1, k2, k3, k4, k5, k6⟩; simp only at k1 k2 k3 k4 k5 k6; omega)
    have d0 : decide (-n ≤ x) = true := by simpa using t0
    have d1 : decide (x ≤ n) = false := by simpa using t1
    clear hr t0 t1
    go_enter Try.func67, Try.ntmps67
    go_wp2
    go_ret
    exact ⟨by rw [E.out]; rfl, (Below.refl _ w).alloc (Nat.le_refl _) _⟩
  by_cases t2 : -n ≤ y
  rotate_left
  · have E : Hid (r = false) := Lib.hid (by rw [← hr]; apply decide_eq_false; rintro ⟨k1, k2, k3, k4, k5, k6⟩; simp only at k1 k2 k3 k4 k5 k6; omega)
    have d0 : decide (-n ≤ x) = true := by simpa using t0
    have d1 : decide (x ≤ n) = true := by simpa using t1
    have d2 : decide (-n ≤ y) = false := by simpa using t2
    clear hr t0 t1 t2
    go_enter Try.func67, Try.ntmps67
    go_wp2
    go_ret
    exact ⟨by rw [E.out]; rfl, (Below.refl _ w).alloc (Nat.le_refl _) _⟩
  by_cases t3 : y ≤ n
  rotate_left
  · have E : Hid (r = false) := Lib.hid (by rw [← hr]; apply decide_eq_false; rintro ⟨k1, k2, k3, k4, k5, k6⟩; simp only at k1 k2 k3 k4 k5 k6; omega)
    have d0 : decide (-n ≤ x) = true := by simpa using t0
    have d1 : decide (x ≤ n) = true := by simpa using t1
    have d2 : decide (-n ≤ y) = true := by simpa using t2
    have d3 : decide (y ≤ n) = false := by simpa using t3
    clear hr t0 t1 t2 t3
    go_enter Try.func67, Try.ntmps67
    go_wp2
    go_ret
    exact ⟨by rw [E.out]; rfl, (Below.refl _ w).alloc (Nat.le_refl _) _⟩
  by_cases t4 : -n ≤ z
  rotate_left
  · have E : Hid (r = false) := Lib.hid (by rw [← hr]; apply decide_eq_false; rintro ⟨k1, k2, k3, k4, k5, k6⟩; simp only at k1 k2 k3 k4 k5 k6; omega)
    have d0 : decide (-n ≤ x) = true := by simpa using t0
    have d1 : decide (x ≤ n) = true := by simpa using t1
    have d2 : decide (-n ≤ y) = true := by simpa using t2
    have d3 : decide (y ≤ n) = true := by simpa using t3
    have d4 : decide (-n ≤ z) = false := by simpa using t4
    clear hr t0 t1 t2 t3 t4
    go_enter Try.func67, Try.ntmps67
    go_wp2
    go_ret
    exact ⟨by rw [E.out]; rfl, (Below.refl _ w).alloc (Nat.le_refl _) _⟩
  by_cases t5 : z ≤ n
  rotate_left
  · have E : Hid (r = false) := Lib.hid (by rw [← hr]; apply decide_eq_false; rintro ⟨k1, k2, k3, k4, k5, k6⟩; simp only at k1 k2 k3 k4 k5 k6; omega)
    have d0 : decide (-n ≤ x) = true := by simpa using t0
    have d1 : decide (x ≤ n) = true := by simpa using t1
    have d2 : decide (-n ≤ y) = true := by simpa using t2
    have d3 : decide (y ≤ n) = true := by simpa using t3
    have d4 : decide (-n ≤ z) = true := by simpa using t4
    have d5 : decide (z ≤ n) = false := by simpa using t5
    clear hr t0 t1 t2 t3 t4 t5
    go_enter Try.func67, Try.ntmps67
    go_wp2
    go_ret
    exact ⟨by rw [E.out]; rfl, (Below.refl _ w).alloc (Nat.le_refl _) _⟩
  have E : Hid (r = true) := Lib.hid (by rw [← hr]; apply decide_eq_true; refine ⟨?_, ?_, ?_, ?_, ?_, ?_⟩ <;> simp only <;> omega)
  have d0 : decide (-n ≤ x) = true := by simpa using t0
  have d1 : decide (x ≤ n) = true := by simpa using t1
  have d2 : decide (-n ≤ y) = true := by simpa using t2
  have d3 : decide (y ≤ n) = true := by simpa using t3
  have d4 : decide (-n ≤ z) = true := by simpa using t4
  have d5 : decide (z ≤ n) = true := by simpa using t5
  clear hr t0 t1 t2 t3 t4 t5
  go_enter Try.func67, Try.ntmps67
  go_wp2
  go_ret
  exact ⟨by rw [E.out]; rfl, (Below.refl _ w).alloc (Nat.le_refl _) _⟩
/-- are all of these at most so far out? -/
def allIn (n : Int) (l : List P3) : Bool := l.all fun p => decide (in3 n p)
theorem allIn_iff (n : Int) (l : List P3) : allIn n l = true ↔ ∀ p ∈ l, in3 n p := by unfold allIn; rw [List.all_eq_true]; exact ⟨fun h p hp => of_decide_eq_true (h p hp), fun h p hp => decide_eq_true (h p hp)⟩
theorem allIn_far (n : Int) (h0 : 0 ≤ n) (h1 : n ≤ 9223372036854775807) (l : List P3) : allIn n l = !(l.any (far3 n)) := by
  cases h : l.any (far3 n) with
  | false => rw [List.any_eq_false] at h; exact (allIn_iff n l).2 fun p hp => (far3_iff n p h0 h1).1 (by simpa using h p hp)
  | true =>
    rw [List.any_eq_true] at h
    obtain ⟨p, hp, h2⟩ := h
    cases e : allIn n l with
    | false => rfl
    | true => have := (far3_iff n p h0 h1).2 ((allIn_iff n l).1 e p hp); rw [this] at h2; cases h2
set_option maxHeartbeats 2000000 in
theorem all_calls (l : List P3) (A : Option Addr) (c : Nat) (n : Int) (w : World) (hr : Rd w A l) (hm : l.length < 9223372036854775807) (h0 : 0 ≤ n) (h1 : n ≤ 4611686018427387904) :
    Calls Try.prog 70 #[.slice A l.length c, .int .i64 n] w fun e w' => e = .returned (.bool (allIn n l)) ∧ Below w.heap.size w w' := by
  have HR := Lib.hid hr
  obtain ⟨r, hR⟩ : ∃ r, allIn n l = r := ⟨_, rfl⟩
  have HA := Lib.hid hR
  rw [hR]
  obtain ⟨N, hN⟩ : ∃ N, l.length = N := ⟨_, rfl⟩
  have HN := Lib.hid hN
  rw [hN] at hm ⊢
  clear hr hR hN
  go_enter Try.func70, Try.ntmps70
  go_wp2
  go_loopw [5, 6] (fun v5 v6 wr => ∃ k : Nat, k ≤ N ∧ v5 = .int .i64 k ∧ Hid (∀ p ∈ l.take k, in3 n p) ∧ Below w.heap.size w wr) (fun i _ _ => N - (intOf i).toNat)
  case atStart => exact ⟨0, Nat.zero_le _, rfl, Lib.hid (by simp), Below.refl _ _⟩
  case round =>
    obtain ⟨k, hk, rfl, hno, hbr⟩ := hrel
    by_cases hlt : k < N
    · have hkl : k < l.length := by rw [HN.out]; exact hlt
      obtain ⟨b, o, rfl, hbl, e1, e2, e3⟩ := (HR.out.below hbr).get k hkl
      obtain ⟨p, hp⟩ : ∃ p, l[k] = p := ⟨_, rfl⟩
      rw [hp] at e1 e2 e3
      have HP := Lib.hid hp
      have HT := Lib.hid (show l.take (k + 1) = l.take k ++ [l[k]] from List.take_succ_eq_append_getElem hkl)
      have HM := Lib.hid (show p ∈ l from hp ▸ List.getElem_mem hkl)
      obtain ⟨t, ht⟩ : ∃ t, decide (in3 n p) = t := ⟨_, rfl⟩
      have HI := Lib.hid (fun W => rin_calls p n t ht h0 h1 W)
      have HTT := Lib.hid ht
      clear hp ht
      obtain ⟨px, py, pz⟩ := p
      dsimp only at e1 e2 e3
      have hZ := hbr.size
      cases t with
      | false =>
        go_wp2_with fail
        refine (HI.out _).mono ?_
        rintro e w3 ⟨rfl, hb3⟩
        go_wp2
        go_ret
        refine ⟨?_, bthen hbr hb3⟩
        have : r = false := by
          rw [← HA.out]
          cases e : allIn n l with
          | false => rfl
          | true => exact absurd ((allIn_iff n l).1 e _ HM.out) (of_decide_eq_false HTT.out)
        rw [this]; rfl
      | true =>
        go_wp2_with fail
        refine (HI.out _).mono ?_
        rintro e w3 ⟨rfl, hb3⟩
        go_wp2
        go_roundw
        case rel =>
          refine ⟨k + 1, by omega, by go_num, Lib.hid fun p' hp' => ?_, bthen hbr hb3⟩
          rw [HT.out, HP.out] at hp'
          rcases List.mem_append.1 hp' with h | h
          · exact hno.out p' h
          · simp at h; rw [h]; exact of_decide_eq_true HTT.out
        case measure => simp [intOf]; omega
    · obtain rfl : k = N := by omega
      go_wp2
      go_ret
      refine ⟨?_, hbr⟩
      have : r = true := by
        rw [← HA.out]
        refine (allIn_iff n l).2 fun p hp => hno.out p ?_
        rwa [List.take_of_length_le (by rw [HN.out]; exact Nat.le_refl _)]
      rw [this]; rfl
end Go.Proofs.Ytckdhahceelckaa.G
namespace Go.Proofs.Ytckdhahceelckaa.G
open Go.RowKit Go.Proofs.YtckdhahceelckaaW.PrintWords Go.Proofs.YtckdhahceelckaaW.PrintLast Go.Proofs.YtckdhahceelckaaW.PrintMore
attribute [local go_sem] max2_mx min2_mn max_two min_two max_three min_three max_four min_four
attribute [local go_sem high] eqA23
set_option linter.unusedVariables false
set_option linter.unusedSimpArgs false
structure BsInv (s low high : Nat) : Prop where
  a : low * low ≤ s
  b : s < high * high
  c : low < high
  d : high ≤ 67108864
theorem BsInv.done {s low high : Nat} (h : BsInv s low high) (h1 : high ≤ low + 1) : isq s = low := by
  have e : high = low + 1 := by have := h.c; omega
  have := h.b
  rw [e] at this
  exact (isq_unique s low h.a this).symm
set_option maxHeartbeats 2000000 in
theorem rsizes_calls (p : P3) (w : World) :
    Calls Try.prog 27 #[aP p] w fun e w' => e = .returned (.tuple #[.int .i64 (sz3 p).1, .int .i64 (sz3 p).2]) ∧ Below w.heap.size w w' := by
  obtain ⟨x, y, z⟩ := p
  have hff := allIn_far 16777216 (by decide) (by decide) [⟨x, y, z⟩]
  cases hf : far3 16777216 ⟨x, y, z⟩ with
  | true =>
    have hs : sz3 ⟨x, y, z⟩ = (0, 0) := by unfold sz3; rw [hf]; rfl
    rw [hs]
    have hi : decide (in3 16777216 ⟨x, y, z⟩) = false := by
      apply decide_eq_false; intro h; rw [(far3_iff _ _ (by decide) (by decide)).2 h] at hf; cases hf
    have HI := Lib.hid (fun W => rin_calls ⟨x, y, z⟩ 16777216 false hi (by decide) (by decide) W)
    clear hs hf hi hff
    go_enter Try.func27, Try.ntmps27
    go_wp2_with fail
    refine (HI.out _).mono ?_
    rintro e w1 ⟨rfl, hb⟩
    go_wp2
    go_ret2
    exact ⟨rfl, ((Below.refl _ w).alloc (Nat.le_refl _) _).trans (hb.mono (by simp))⟩
  | false =>
    have hin := (far3_iff _ _ (by decide) (by decide)).1 hf
    have hd := dot3_eq ⟨x, y, z⟩ ⟨x, y, z⟩ 16777216 16777216 hin hin (by decide)
    have hd1 := dotI_bd ⟨x, y, z⟩ ⟨x, y, z⟩ 16777216 16777216 hin hin
    have hd2 := dotI_self ⟨x, y, z⟩
    have hs : sz3 ⟨x, y, z⟩ = (fl3 ⟨x, y, z⟩, ce3 ⟨x, y, z⟩) := by unfold sz3; rw [hf]; rfl
    rw [hs]
    clear hs
    unfold ce3 fl3
    obtain ⟨s, hs⟩ : ∃ s : Nat, dotI ⟨x, y, z⟩ ⟨x, y, z⟩ = s := ⟨_, (Int.toNat_of_nonneg hd2).symm⟩
    rw [hs] at hd hd1 hd2 ⊢
    rw [Int.toNat_natCast]
    have hsb : s ≤ 844424930131968 := by omega
    have HD := Lib.hid hd
    have HI := Lib.hid (fun W => rin_calls ⟨x, y, z⟩ 16777216 true (decide_eq_true hin) (by decide) (by decide) W)
    clear hd hd1 hd2 hs hin hf hff
    obtain ⟨U, hU⟩ : ∃ U : Int, (if (isq s : Int) * (isq s : Int) < (s : Int) then (isq s : Int) + 1 else (isq s : Int)) = U := ⟨_, rfl⟩
    rw [hU]
    have HU := Lib.hid hU
    clear hU
    go_enter Try.func27, Try.ntmps27
    go_wp2_with fail
    refine (HI.out _).mono ?_
    rintro e w1 ⟨rfl, hb⟩
    have z1 := (hb.block _ (show w.heap.size < (w.alloc (.cells #[.int .i64 x, .int .i64 y, .int .i64 z] 23)).heap.size by simp)).trans (heap_alloc_new w (.cells #[.int .i64 x, .int .i64 y, .int .i64 z] 23))
    have x0 : w1.cell? ⟨w.heap.size, 0, none⟩ = some (.int .i64 x) := (blk_cell z1 0).trans rfl
    have x1 : w1.cell? ⟨w.heap.size, 1, none⟩ = some (.int .i64 y) := (blk_cell z1 1).trans rfl
    have x2 : w1.cell? ⟨w.heap.size, 2, none⟩ = some (.int .i64 z) := (blk_cell z1 2).trans rfl
    have hB := Lib.hid (((Below.refl _ w).alloc (Nat.le_refl _) _).trans (hb.mono (by simp)))
    clear hb z1
    go_wp2_with fail
    refine (rdot_calls _ _ _ _ _ _ _).mono ?_
    rintro e w2 ⟨rfl, hb⟩
    rw [HD.out]
    have hB := bthen hB.out hb
    clear hb x0 x1 x2 HD HI
    go_wp2
    go_loopw [6, 7, 8] (fun v6 v7 v8 wr => ∃ (low high : Nat), v6 = .int .i64 low ∧ v7 = .int .i64 high ∧ Hid (BsInv s low high) ∧ wr = w2) (fun a b _ _ => (intOf b).toNat - (intOf a).toNat)
    case atStart => exact ⟨0, 67108864, rfl, rfl, Lib.hid ⟨by omega, by omega, by decide, by decide⟩, rfl⟩
    case round =>
      obtain ⟨low, high, rfl, rfl, hi, rfl⟩ := hrel
      have hc := hi.out.c
      have hd := hi.out.d
      by_cases hg : high ≤ low + 1
      · have hdone := Lib.hid (hi.out.done hg)
        have ha := hi.out.a
        have hp : (low : Int) * low = (low * low : Nat) := by simp
        obtain ⟨m, hm⟩ : ∃ m : Nat, low * low = m := ⟨_, rfl⟩
        rw [hm] at hp ha
        have t0 : decide (1 < (high : Int) - (low : Int)) = false := decide_eq_false (by omega)
        rcases Nat.lt_or_ge m s with hlt | hge
        · have t1 : (((m : Nat) : Int) == ((s : Nat) : Int)) = false := by simp; omega
          clear hm hg ha
          go_wp2
          go_ret2
          refine ⟨ret_two (by rw [hdone.out]) ?_, hB⟩
          rw [← HU.out, hdone.out, hp, if_pos (by omega)]
        · have t1 : (((m : Nat) : Int) == ((s : Nat) : Int)) = true := by simp; omega
          clear hm hg
          go_wp2
          go_ret2
          refine ⟨ret_two (by rw [hdone.out]) ?_, hB⟩
          rw [← HU.out, hdone.out, hp, if_neg (by omega)]
      · have t0 : decide (1 < (high : Int) - (low : Int)) = true := decide_eq_true (by omega)
        obtain ⟨t, ht⟩ : ∃ t : Nat, (low + high) / 2 = t := ⟨_, rfl⟩
        have htb : t ≤ 67108864 := by omega
        have hq : ((low : Int) + (high : Int)).tdiv 2 = (t : Int) := by
          rw [Int.tdiv_eq_ediv_of_nonneg (by omega)]; omega
        have hq2 : ((low : Int) + (high : Int)) / 2 = (t : Int) := by omega
        have htt : t * t ≤ 67108864 * 67108864 := Nat.mul_le_mul htb htb
        obtain ⟨m, hm⟩ : ∃ m : Nat, t * t = m := ⟨_, rfl⟩
        have hp : (t : Int) * t = (m : Int) := by rw [← hm]; simp
        rw [hm] at htt
        have h3 : m ≤ s → BsInv s t high := fun h => ⟨by rw [hm]; exact h, hi.out.b, by omega, hd⟩
        have h4 : s < m → BsInv s low t := fun h => ⟨hi.out.a, by rw [hm]; exact h, by omega, htb⟩
        have H3 := Lib.hid h3
        have H4 := Lib.hid h4
        have htl : low < t := by omega
        have hth : t < high := by omega
        clear h3 h4 ht hm hg
        rcases Nat.lt_or_ge s m with hlt | hge
        · go_wp2
          go_roundw
          case rel => exact ⟨low, t, by go_num, by go_num, Lib.hid (H4.out hlt), trivial⟩
          case measure => simp [intOf]; omega
        · go_wp2
          go_roundw
          case rel => exact ⟨t, high, by go_num, by go_num, Lib.hid (H3.out hge), trivial⟩
          case measure => simp [intOf]; omega
end Go.Proofs.Ytckdhahceelckaa.G
namespace Go.Proofs.Ytckdhahceelckaa.G
open Go.RowKit Go.Proofs.YtckdhahceelckaaW.PrintWords Go.Proofs.YtckdhahceelckaaW.PrintLast Go.Proofs.YtckdhahceelckaaW.PrintMore
attribute [local go_sem] max2_mx min2_mn max_two min_two max_three min_three max_four min_four
attribute [local go_sem high] eqA23
set_option linter.unusedVariables false
set_option linter.unusedSimpArgs false
def fstep (n : P3) (s : Int) (p : P3) : Int := mx s (dot3 n p)
def farF (n p0 : P3) (r : List P3) : Int := r.foldl (fstep n) (dot3 n p0)
theorem farF_snoc (n p0 : P3) (r : List P3) (k : Nat) (h : k < r.length) : farF n p0 (r.take (k + 1)) = mx (farF n p0 (r.take k)) (dot3 n r[k]) := by
  unfold farF
  rw [List.take_succ_eq_append_getElem h, List.foldl_append]; rfl
set_option maxHeartbeats 4000000 in
theorem farthest_calls (p0 : P3) (r : List P3) (A : Option Addr) (c : Nat) (n : P3) (w : World) (hr : RdB w A (p0 :: r)) (hm : r.length < 9223372036854775800) :
    Calls Try.prog 120 #[.slice A (r.length + 1) c, aP n] w fun e w' => e = .returned (.int .i64 (farF n p0 r)) ∧ Below w.heap.size w w' := by
  obtain ⟨nx, ny, nz⟩ := n
  obtain ⟨b, o, rfl, hlt, h1, h2, h3⟩ := hr.1.get 0 (by simp)
  simp only [Nat.zero_mul, Nat.add_zero, List.getElem_cons_zero] at h1 h2 h3
  have hR := Lib.hid hr.1
  obtain ⟨N, hN⟩ : ∃ N, r.length = N := ⟨_, rfl⟩
  have HN := Lib.hid hN
  rw [hN] at hm ⊢
  clear hr hN
  obtain ⟨px, py, pz⟩ := p0
  have HD0 := Lib.hid (show farF ⟨nx, ny, nz⟩ ⟨px, py, pz⟩ (r.take 0) = dot3 ⟨nx, ny, nz⟩ ⟨px, py, pz⟩ from rfl)
  have hl0 : (0 : Int) < (N : Int) + 1 := by omega
  go_enter Try.func120, Try.ntmps120
  go_wp2
  go_quiet (fail)
  obtain ⟨w1, hw1⟩ : ∃ V, (w.alloc (.cells #[.int .i64 nx, .int .i64 ny, .int .i64 nz] 23)).drewN nq = V := ⟨_, rfl⟩
  have hB := Lib.hid (show Below w.heap.size w w1 by rw [← hw1]; exact ((Below.refl _ w).alloc (Nat.le_refl _) _).trans (Go.Joins.below_draws _ _ nq))
  have hN := Lib.hid (show w1.heap[w.heap.size]? = some (.cells #[.int .i64 nx, .int .i64 ny, .int .i64 nz] 23 (0, 0)) by rw [← hw1]; exact heap_alloc_new w _)
  rw [hw1]
  clear hw1 h1 h2 h3
  obtain ⟨D, hD⟩ : ∃ D, dot3 ⟨nx, ny, nz⟩ ⟨px, py, pz⟩ = D := ⟨_, rfl⟩
  have hD' : wrap64 (wrap64 (wrap64 (nx * px) + wrap64 (ny * py)) + wrap64 (nz * pz)) = D := hD
  rw [hD']
  rw [hD] at HD0
  clear hD hD'
  go_wp2
  go_loopw [5, 6] (fun v5 v6 wr => ∃ j : Nat, 1 ≤ j ∧ j ≤ N + 1 ∧ v6 = .int .i64 j ∧ v5 = .int .i64 (farF ⟨nx, ny, nz⟩ ⟨px, py, pz⟩ (r.take (j - 1))) ∧ Hid (Below w1.heap.size w1 wr)) (fun _ i _ => N + 1 - (intOf i).toNat)
  case atStart => exact ⟨1, by omega, by omega, rfl, by rw [HD0.out], Lib.hid (Below.refl _ _)⟩
  case round =>
    obtain ⟨j, hj1, hj2, rfl, rfl, hbr⟩ := hrel
    by_cases hlt2 : j ≤ N
    · have hkr : j - 1 < r.length := by rw [HN.out]; omega
      have hBw := hB.out.trans (hbr.out.mono hB.out.size)
      obtain ⟨b', o', hA, _, e0, e1, e2⟩ := (hR.out.below hBw).get (j - 1 + 1) (by simp; omega)
      simp only [Option.some.injEq, Addr.mk.injEq, and_true] at hA
      obtain ⟨rfl, rfl⟩ := hA
      simp only [List.getElem_cons_succ] at e0 e1 e2
      have hS := farF_snoc ⟨nx, ny, nz⟩ ⟨px, py, pz⟩ r (j - 1) hkr
      rw [show j - 1 + 1 = j from by omega] at hS
      obtain ⟨q, hq⟩ : ∃ q, r[j - 1] = q := ⟨_, rfl⟩
      rw [hq] at e0 e1 e2 hS
      rw [show j - 1 + 1 = j from by omega] at e0 e1 e2
      obtain ⟨qx, qy, qz⟩ := q
      simp only at e0 e1 e2
      obtain ⟨F, hF⟩ : ∃ F, farF ⟨nx, ny, nz⟩ ⟨px, py, pz⟩ (r.take (j - 1)) = F := ⟨_, rfl⟩
      rw [hF] at hS ⊢
      have hS := Lib.hid hS
      have HBw := Lib.hid hBw
      have z1 := (hbr.out.block _ (blk_lt hN.out)).trans hN.out
      have x0 : wr.cell? ⟨w.heap.size, 0, none⟩ = some (.int .i64 nx) := (blk_cell z1 0).trans rfl
      have x1 : wr.cell? ⟨w.heap.size, 1, none⟩ = some (.int .i64 ny) := (blk_cell z1 1).trans rfl
      have x2 : wr.cell? ⟨w.heap.size, 2, none⟩ = some (.int .i64 nz) := (blk_cell z1 2).trans rfl
      have t2 : (j : Int) < (N : Int) + 1 := by omega
      clear hq hF hkr z1 hBw
      go_wp2
      go_quiet (fail)
      go_wp2
      go_roundw
      case rel => exact ⟨j + 1, by omega, by omega, by go_num, by rw [show j + 1 - 1 = j from by omega, hS.out]; rfl, Lib.hid (hbr.out.trans (Go.Joins.below_draws _ _ _))⟩
      case measure => simp [intOf]; omega
    · obtain rfl : j = N + 1 := by omega
      have hBw := hB.out.trans (hbr.out.mono hB.out.size)
      have hE : Hid (r.take (N + 1 - 1) = r) := Lib.hid (List.take_of_length_le (by rw [HN.out]; omega))
      go_wp2
      go_ret
      exact ⟨by rw [hE.out]; rfl, hBw⟩
end Go.Proofs.Ytckdhahceelckaa.G
namespace Go.Proofs.Ytckdhahceelckaa.G
open Go.RowKit Go.Proofs.YtckdhahceelckaaW.PrintWords Go.Proofs.YtckdhahceelckaaW.PrintLast Go.Proofs.YtckdhahceelckaaW.PrintMore
attribute [local go_sem] max2_mx min2_mn max_two min_two max_three min_three max_four min_four
attribute [local go_sem high] eqA23
set_option linter.unusedVariables false
set_option linter.unusedSimpArgs false
theorem farF_reach (n p0 : P3) (r : List P3) : farF n p0 r = (reachF n p0 r).2 := by
  have gen : ∀ (l : List P3) (s : Int × Int), l.foldl (fstep n) s.2 = (l.foldl (rstep n) s).2 := by
    intro l
    induction l with
    | nil => intro s; rfl
    | cons p l ih => intro s; rw [List.foldl_cons, List.foldl_cons]; exact ih (rstep n s p)
  exact gen r (dot3 n p0, dot3 n p0)
theorem dot3_neg (n p : P3) (hn : in3 1048576 n) (hp : in3 16777216 p) : dot3 ⟨-n.x, -n.y, -n.z⟩ p = -dot3 n p := by
  have hn' : in3 1048576 (⟨-n.x, -n.y, -n.z⟩ : P3) := by unfold in3 at *; simp only; omega
  rw [dot3_eq n p 1048576 16777216 hn hp (by decide), dot3_eq _ p 1048576 16777216 hn' hp (by decide)]
  unfold dotI
  simp only [Int.neg_mul]
  omega
theorem farF_neg (n p0 : P3) (r : List P3) (hn : in3 1048576 n) (hp : ∀ p ∈ p0 :: r, in3 16777216 p) : farF ⟨-n.x, -n.y, -n.z⟩ p0 r = -(reachF n p0 r).1 := by
  have gen : ∀ (l : List P3) (s : Int × Int), (∀ p ∈ l, in3 16777216 p) → l.foldl (fstep ⟨-n.x, -n.y, -n.z⟩) (-s.1) = -(l.foldl (rstep n) s).1 := by
    intro l
    induction l with
    | nil => intro s _; rfl
    | cons p l ih =>
      intro s h
      rw [List.foldl_cons, List.foldl_cons]
      have e : fstep ⟨-n.x, -n.y, -n.z⟩ (-s.1) p = -(rstep n s p).1 := by
        unfold fstep rstep
        rw [dot3_neg n p hn (h p (by simp))]
        unfold mx mn
        simp only
        split <;> split <;> omega
      rw [e]
      exact ih _ fun q hq => h q (by simp [hq])
  unfold farF reachF
  rw [dot3_neg n p0 hn (hp p0 (by simp))]
  exact gen r (dot3 n p0, dot3 n p0) fun q hq => hp q (by simp [hq])
set_option maxHeartbeats 4000000 in
set_option maxRecDepth 100000 in
theorem rgap_calls (p0 : P3) (pr : List P3) (ra : Int) (q0 : P3) (qr : List P3) (rb : Int) (A0 A1 A2 B0 B1 B2 : Option Addr) (n1 n2 m1 m2 c0 c1 c2 d0 d1 d2 : Nat) (n : P3) (w : World)
    (hA : RdB w A0 (p0 :: pr)) (hB : RdB w B0 (q0 :: qr)) (hla : pr.length < 1000) (hlb : qr.length < 1000) (hn : in3 1048576 n) (h0 : n ≠ ⟨0, 0, 0⟩)
    (hp : ∀ x ∈ p0 :: pr, in3 16777216 x) (hq : ∀ x ∈ q0 :: qr, in3 16777216 x) (ra0 : 0 ≤ ra) (ra1 : ra ≤ 65536) (rb0 : 0 ≤ rb) (rb1 : rb ≤ 65536) (g : Int) (hg : (gapsF n p0 pr ra q0 qr rb).1 = g) :
    Calls Try.prog 64 #[.agg #[.slice A0 (pr.length + 1) c0, .slice A1 n1 c1, .slice A2 n2 c2, .int .i64 ra], .agg #[.slice B0 (qr.length + 1) d0, .slice B1 m1 d1, .slice B2 m2 d2, .int .i64 rb], aP n] w
      fun e w' => e = .returned (.int .i64 g) ∧ Below w.heap.size w w' := by
  have h1 := reach_bd hn hp
  have h2 := reach_bd hn hq
  have hf := fl3_pos n h0
  have hf2 := fl3_le n hn
  have hc := ce3_bd n
  have hs : sz3 n = (fl3 n, ce3 n) := by unfold sz3; rw [(far3_iff _ n (by decide) (by decide)).2 (in3_le (by decide) hn)]; rfl
  have HF := Lib.hid (fun W (hW : RdB W A0 (p0 :: pr)) => farthest_calls p0 pr A0 c0 n W hW (by omega))
  have HG := Lib.hid (fun W (hW : RdB W B0 (q0 :: qr)) => farthest_calls q0 qr B0 d0 ⟨-n.x, -n.y, -n.z⟩ W hW (by omega))
  have HS := Lib.hid (fun W => rsizes_calls n W)
  rw [farF_reach] at HF
  rw [farF_neg n q0 qr hn hq] at HG
  rw [hs] at HS
  unfold gapsF at hg
  simp only at hg
  obtain ⟨hi, hhi⟩ : ∃ x, (reachF n p0 pr).2 = x := ⟨_, rfl⟩
  obtain ⟨lo, hlo⟩ : ∃ x, (reachF n q0 qr).1 = x := ⟨_, rfl⟩
  rw [hhi] at HF h1 hg
  rw [hlo] at HG h2 hg
  obtain ⟨fl, hfl⟩ : ∃ x, fl3 n = x := ⟨_, rfl⟩
  obtain ⟨ce, hce⟩ : ∃ x, ce3 n = x := ⟨_, rfl⟩
  rw [hfl] at hf hf2 hc HS hg
  rw [hce] at hc HS hg
  simp only at HS
  have HA := Lib.hid hA
  have HB := Lib.hid hB
  obtain ⟨N0, hN0⟩ : ∃ k, pr.length + 1 = k := ⟨_, rfl⟩
  obtain ⟨M0, hM0⟩ : ∃ k, qr.length + 1 = k := ⟨_, rfl⟩
  rw [hN0] at HF ⊢
  rw [hM0] at HG ⊢
  obtain ⟨nx, ny, nz⟩ := n
  obtain ⟨i1, i2, i3, i4, i5, i6⟩ := hn
  simp only at i1 i2 i3 i4 i5 i6
  have e1 : wrap64 (-nx) = -nx := by unfold wrap64; omega
  have e2 : wrap64 (-ny) = -ny := by unfold wrap64; omega
  have e3 : wrap64 (-nz) = -nz := by unfold wrap64; omega
  have e4 : IntKind.i64.wrap (-nx) = -nx := iw_id _ (by omega) (by omega)
  have e5 : IntKind.i64.wrap (-ny) = -ny := iw_id _ (by omega) (by omega)
  have e6 : IntKind.i64.wrap (-nz) = -nz := iw_id _ (by omega) (by omega)
  have e7 : IntKind.i64.wrap lo = lo := iw_id _ (by omega) (by omega)
  obtain ⟨s, hss⟩ : ∃ s, lo - hi = s := ⟨_, rfl⟩
  have e8 : IntKind.i64.wrap (lo - hi) = s := by rw [← hss]; exact iw_id _ (by omega) (by omega)
  have e9 : wrap64 (lo - hi) = s := by rw [← hss]; unfold wrap64; omega
  have hs1 : -1125899906842624 ≤ s ∧ s ≤ 1125899906842624 := by omega
  rw [hss] at hg
  have E9 := Lib.hid e9
  clear hA hB hs hhi hlo hfl hce hN0 hM0 hp hq h0 hss h1 h2
  have z0 := three0 w (.cells #[.slice A0 N0 c0, .slice A1 n1 c1, .slice A2 n2 c2, .int .i64 ra] 36) (.cells #[.slice B0 M0 d0, .slice B1 m1 d1, .slice B2 m2 d2, .int .i64 rb] 36) (.cells #[.int .i64 nx, .int .i64 ny, .int .i64 nz] 23)
  have z1 := three1 w (.cells #[.slice A0 N0 c0, .slice A1 n1 c1, .slice A2 n2 c2, .int .i64 ra] 36) (.cells #[.slice B0 M0 d0, .slice B1 m1 d1, .slice B2 m2 d2, .int .i64 rb] 36) (.cells #[.int .i64 nx, .int .i64 ny, .int .i64 nz] 23)
  have z2 := three2 w (.cells #[.slice A0 N0 c0, .slice A1 n1 c1, .slice A2 n2 c2, .int .i64 ra] 36) (.cells #[.slice B0 M0 d0, .slice B1 m1 d1, .slice B2 m2 d2, .int .i64 rb] 36) (.cells #[.int .i64 nx, .int .i64 ny, .int .i64 nz] 23)
  have zb := Go.Joins.below_alloc3 w (.cells #[.slice A0 N0 c0, .slice A1 n1 c1, .slice A2 n2 c2, .int .i64 ra] 36) (.cells #[.slice B0 M0 d0, .slice B1 m1 d1, .slice B2 m2 d2, .int .i64 rb] 36) (.cells #[.int .i64 nx, .int .i64 ny, .int .i64 nz] 23)
  obtain ⟨w1, hw1⟩ : ∃ V, ((w.alloc (.cells #[.slice A0 N0 c0, .slice A1 n1 c1, .slice A2 n2 c2, .int .i64 ra] 36)).alloc (.cells #[.slice B0 M0 d0, .slice B1 m1 d1, .slice B2 m2 d2, .int .i64 rb] 36)).alloc (.cells #[.int .i64 nx, .int .i64 ny, .int .i64 nz] 23) = V := ⟨_, rfl⟩
  rw [hw1] at z0 z1 z2 zb
  have hw1' := Lib.hid hw1
  have Z0 := Lib.hid z0
  have Z1 := Lib.hid z1
  have Z2 := Lib.hid z2
  have ZB := Lib.hid zb
  clear hw1 z0 z1 z2 zb
  go_enter Try.func64, Try.ntmps64
  go_wp2_with fail
  rw [hw1'.out]
  refine (HF.out w1 (HA.out.below ZB.out)).mono ?_
  rintro e w2 ⟨rfl, hb⟩
  have ZB2 := Lib.hid (bthen ZB.out hb)
  have Y1 := Lib.hid ((hb.block _ (blk_lt Z1.out)).trans Z1.out)
  have Y2 := Lib.hid ((hb.block _ (blk_lt Z2.out)).trans Z2.out)
  have Y0 := Lib.hid ((hb.block _ (blk_lt Z0.out)).trans Z0.out)
  have x0 : w2.cell? ⟨w.heap.size + 1, 0, none⟩ = some (.slice B0 M0 d0) := (blk_cell Y1.out 0).trans rfl
  have y0 : w2.cell? ⟨w.heap.size + 2, 0, none⟩ = some (.int .i64 nx) := (blk_cell Y2.out 0).trans rfl
  have y1 : w2.cell? ⟨w.heap.size + 2, 1, none⟩ = some (.int .i64 ny) := (blk_cell Y2.out 1).trans rfl
  have y2 : w2.cell? ⟨w.heap.size + 2, 2, none⟩ = some (.int .i64 nz) := (blk_cell Y2.out 2).trans rfl
  have l0 : w.heap.size < w2.heap.size := blk_lt Y0.out
  have l1 : w.heap.size + 1 < w2.heap.size := blk_lt Y1.out
  have l2 : w.heap.size + 2 < w2.heap.size := blk_lt Y2.out
  clear hb
  go_wp2_with fail
  refine (HG.out w2 (HB.out.below ZB2.out)).mono ?_
  rintro e w3 ⟨rfl, hb⟩
  have ZB3 := Lib.hid (bthen ZB2.out hb)
  have X0 := Lib.hid ((hb.block _ (blk_lt Y0.out)).trans Y0.out)
  have X1 := Lib.hid ((hb.block _ (blk_lt Y1.out)).trans Y1.out)
  have X2 := Lib.hid ((hb.block _ (blk_lt Y2.out)).trans Y2.out)
  clear x0 y0 y1 y2 l0 l1 l2 hb
  have y0 : w3.cell? ⟨w.heap.size + 2, 0, none⟩ = some (.int .i64 nx) := (blk_cell X2.out 0).trans rfl
  have y1 : w3.cell? ⟨w.heap.size + 2, 1, none⟩ = some (.int .i64 ny) := (blk_cell X2.out 1).trans rfl
  have y2 : w3.cell? ⟨w.heap.size + 2, 2, none⟩ = some (.int .i64 nz) := (blk_cell X2.out 2).trans rfl
  have l2 : w.heap.size + 2 < w3.heap.size := blk_lt X2.out
  go_wp2_with fail
  refine (HS.out w3).mono ?_
  rintro e w4 ⟨rfl, hb⟩
  have ZB4 := Lib.hid (bthen ZB3.out hb)
  have V0 := Lib.hid ((hb.block _ (blk_lt X0.out)).trans X0.out)
  have V1 := Lib.hid ((hb.block _ (blk_lt X1.out)).trans X1.out)
  clear y0 y1 y2 l2 hb e1 e2 e3 e4 e5 e6 e7
  have x3 : w4.cell? ⟨w.heap.size, 3, none⟩ = some (.int .i64 ra) := (blk_cell V0.out 3).trans rfl
  have y3 : w4.cell? ⟨w.heap.size + 1, 3, none⟩ = some (.int .i64 rb) := (blk_cell V1.out 3).trans rfl
  have l0 : w.heap.size < w4.heap.size := blk_lt V0.out
  have l1 : w.heap.size + 1 < w4.heap.size := blk_lt V1.out
  have c1 : (ce == 0) = false := by simp; omega
  have c2 : (fl == 0) = false := by simp; omega
  by_cases hs0 : 0 ≤ s
  · have hv : gapV s ce fl ra rb = s / ce - ra - rb := if_pos hs0
    rw [hv] at hg
    have q1 : 0 ≤ s / ce := Int.ediv_nonneg hs0 (by omega)
    have q2 : s / ce ≤ s := Int.ediv_le_self _ hs0
    have t1 : IntKind.i64.wrap (s.tdiv ce) = s / ce := by rw [Int.tdiv_eq_ediv_of_nonneg hs0]; exact iw_id _ (by omega) (by omega)
    have t2 : IntKind.i64.wrap (s / ce - ra) = s / ce - ra := iw_id _ (by omega) (by omega)
    have t3 : IntKind.i64.wrap (s / ce - ra - rb) = s / ce - ra - rb := iw_id _ (by omega) (by omega)
    have HG2 := Lib.hid hg
    clear hv hg
    go_wp2
    go_quiet (fail)
    go_wp2
    go_ret
    exact ⟨by rw [← HG2.out]; rfl, pw_below_drewN ZB4.out _⟩
  · have hv : gapV s ce fl ra rb = -((-s + fl - 1) / fl) - ra - rb := if_neg hs0
    rw [hv] at hg
    have q0 : 0 ≤ -s + fl - 1 := by omega
    have q1 : 0 ≤ (-s + fl - 1) / fl := Int.ediv_nonneg q0 (by omega)
    have q2 : (-s + fl - 1) / fl ≤ -s + fl - 1 := Int.ediv_le_self _ q0
    have t0 : IntKind.i64.wrap (-s) = -s := iw_id _ (by omega) (by omega)
    have t0' : IntKind.i64.wrap (-s + fl) = -s + fl := iw_id _ (by omega) (by omega)
    have t0'' : IntKind.i64.wrap (-s + fl - 1) = -s + fl - 1 := iw_id _ (by omega) (by omega)
    have t1 : IntKind.i64.wrap ((-s + fl - 1).tdiv fl) = (-s + fl - 1) / fl := by rw [Int.tdiv_eq_ediv_of_nonneg q0]; exact iw_id _ (by omega) (by omega)
    have t1' : IntKind.i64.wrap (-((-s + fl - 1) / fl)) = -((-s + fl - 1) / fl) := iw_id _ (by omega) (by omega)
    have t2 : IntKind.i64.wrap (-((-s + fl - 1) / fl) - ra) = -((-s + fl - 1) / fl) - ra := iw_id _ (by omega) (by omega)
    have t3 : IntKind.i64.wrap (-((-s + fl - 1) / fl) - ra - rb) = -((-s + fl - 1) / fl) - ra - rb := iw_id _ (by omega) (by omega)
    have hs' : decide (0 ≤ s) = false := by simpa using hs0
    have hs3 : s < 0 := by omega
    have HG2 := Lib.hid hg
    clear hv hg hs0
    go_wp2
    go_quiet (fail)
    go_wp2
    go_ret
    exact ⟨by rw [← HG2.out]; rfl, pw_below_drewN ZB4.out _⟩
end Go.Proofs.Ytckdhahceelckaa.G
namespace Go.Proofs.Ytckdhahceelckaa.G
open Go.RowKit Go.Proofs.YtckdhahceelckaaW.PrintWords Go.Proofs.YtckdhahceelckaaW.PrintLast Go.Proofs.YtckdhahceelckaaW.PrintMore
attribute [local go_sem] max2_mx min2_mn max_two min_two max_three min_three max_four min_four
attribute [local go_sem high] eqA23
set_option linter.unusedVariables false
set_option linter.unusedSimpArgs false
set_option maxHeartbeats 2000000 in
theorem rlong_calls (p : P3) (w : World) (hp : in3 4398046511104 p) :
    Calls Try.prog 119 #[aP p] w fun e w' => e = .returned (aP (long3 p)) ∧ Below w.heap.size w w' := by
  have HS := Lib.hid (fun W => rshort_calls p W hp)
  obtain ⟨x, y, z⟩ := p
  have B1 := ((C3.new w (.int .i64 x) (.int .i64 y) (.int .i64 z) 23).alloc (.cells #[.int .i64 0, .int .i64 0, .int .i64 0] 23))
  have B2 := (C3.new (w.alloc (.cells #[.int .i64 x, .int .i64 y, .int .i64 z] 23)) (.int .i64 0) (.int .i64 0) (.int .i64 0) 23)
  simp only [World.size_alloc] at B2
  have B1 := Lib.hid B1
  have B2 := Lib.hid B2
  obtain ⟨q, hq⟩ : ∃ q, short3 ⟨x, y, z⟩ = q := ⟨_, rfl⟩
  have hin : in3 1048576 q := by rw [← hq]; exact short3_in _
  unfold long3
  rw [hq] at HS ⊢
  clear hp hq
  obtain ⟨px, py, pz⟩ := q
  by_cases hz : (⟨px, py, pz⟩ : P3) = ⟨0, 0, 0⟩
  · have h1 : dbl3 ⟨px, py, pz⟩ = ⟨0, 0, 0⟩ := by rw [dbl3, dif_pos (.inr hz)]; exact hz
    rw [h1]
    clear h1
    have he := eqP_yes hz
    simp only [P3.mk.injEq] at hz
    obtain ⟨rfl, rfl, rfl⟩ := hz
    go_enter Try.func119, Try.ntmps119
    go_wp2_with (go_at_call 81; refine (HS.out _).mono ?_; rintro e w1 ⟨rfl, hb1⟩; obtain ⟨c10, c11, c12, f10, f11, f12⟩ := B1.out.below hb1; have D2 := Lib.hid (B2.out.below hb1); obtain ⟨c20, c21, c22, f20, f21, f22⟩ := D2.out)
    have hB : Below w.heap.size w w1 := (((Below.refl _ w).alloc (Nat.le_refl _) _).alloc (by simp) _).trans (hb1.mono (by simp; omega))
    exact bodyPost_ret (v := .agg #[.int .i64 0, .int .i64 0, .int .i64 0]) (by simp [results, Try.results119, go_sem, c20, c21, c22]) rfl ⟨rfl, below_set3 (below_set3 hB (Nat.le_refl _) _ _ _) (by omega) _ _ _⟩
  · obtain ⟨D, hD⟩ : ∃ D, dbl3 ⟨px, py, pz⟩ = D := ⟨_, rfl⟩
    rw [hD]
    have HD := Lib.hid hD
    have HZ := Lib.hid hz
    have HI := Lib.hid hin
    have he := eqP_no hz
    clear hD hz hin
    go_enter Try.func119, Try.ntmps119
    go_wp2_with (go_at_call 81; refine (HS.out _).mono ?_; rintro e w1 ⟨rfl, hb1⟩; have D1 := Lib.hid (B1.out.below hb1); obtain ⟨c10, c11, c12, f10, f11, f12⟩ := D1.out; have D2 := Lib.hid (B2.out.below hb1))
    have hB : Below w.heap.size w w1 := (((Below.refl _ w).alloc (Nat.le_refl _) _).alloc (by simp) _).trans (hb1.mono (by simp; omega))
    have hB := below_set3 hB (Nat.le_refl w.heap.size) (.int .i64 px) (.int .i64 py) (.int .i64 pz)
    have B2 := D2.out.other (g' := w.heap.size) (by omega) (.int .i64 px) (.int .i64 py) (.int .i64 pz)
    have B1 := D1.out.set (.int .i64 px) (.int .i64 py) (.int .i64 pz)
    unfold set3 at B1 B2 hB
    generalize ((w1.setCell { block := w.heap.size, off := 0 } (Value.int IntKind.i64 px)).setCell { block := w.heap.size, off := 1 } (Value.int IntKind.i64 py)).setCell { block := w.heap.size, off := 2 } (Value.int IntKind.i64 pz) = w3 at B1 B2 hB ⊢
    clear he hb1 c10 c11 c12 f10 f11 f12 D1 D2
    go_loopg [3] (2000000 - size3 ⟨px, py, pz⟩) (fun kq v3 wr => ∃ r : P3, Hid (kq = 2000000 - size3 r) ∧ Hid (dbl3 r = D) ∧ Hid (in3 1048576 r) ∧ Hid (r ≠ ⟨0, 0, 0⟩) ∧ Hid (C3 wr w.heap.size (.int .i64 r.x) (.int .i64 r.y) (.int .i64 r.z)) ∧ Hid (C3 wr (w.heap.size + 1) (.int .i64 0) (.int .i64 0) (.int .i64 0)) ∧ Hid (Below w.heap.size w wr))
    case atStart => exact ⟨⟨px, py, pz⟩, rfl, HD.out, HI.out, HZ.out, B1, B2, hB⟩
    case round =>
      obtain ⟨r, h1, h2, h3, h4, h5, h6, h7⟩ := hrel
      obtain ⟨hx1, hx2, hy1, hy2, hz1, hz2⟩ := h3.out
      obtain ⟨rx, ry, rz⟩ := r
      dsimp only at h5 hx1 hx2 hy1 hy2 hz1 hz2
      obtain ⟨c10, c11, c12, f10, f11, f12⟩ := id h5.out
      cases hf : far3 524288 ⟨rx, ry, rz⟩ with
      | false =>
        have hne : ¬ (far3 524288 ⟨rx, ry, rz⟩ = true ∨ (⟨rx, ry, rz⟩ : P3) = ⟨0, 0, 0⟩) := by rw [hf]; simpa using h4.out
        have e1 : dbl3 ⟨rx, ry, rz⟩ = dbl3 (two3 ⟨rx, ry, rz⟩) := by rw [dbl3, dif_neg hne]
        have e2 : Hid (2000000 - size3 (two3 ⟨rx, ry, rz⟩) < gk) := by rw [h1.out]; exact two3_lt _ hne
        have e4 := Lib.hid (two3_ne _ h4.out)
        have hi5 := (far3_iff _ _ (by decide) (by decide)).1 hf
        have HI5 := Lib.hid (fun W => rin_calls ⟨rx, ry, rz⟩ 524288 true (decide_eq_true hi5) (by decide) (by decide) W)
        have e3 : Hid (in3 1048576 (two3 ⟨rx, ry, rz⟩)) := by unfold in3 two3 at *; simp only at *; show _ ∧ _; omega
        have E1 : Hid (dbl3 (two3 ⟨rx, ry, rz⟩) = D) := e1.symm.trans h2.out
        clear e1 hne hi5 hf
        go_wp2_with (go_at_call 67; refine (HI5.out _).mono ?_; rintro e w5 ⟨rfl, hb5⟩; have D1 := Lib.hid (h5.out.below hb5); have D2 := Lib.hid (h6.out.below hb5); obtain ⟨d10, d11, d12, g10, g11, g12⟩ := id D1.out)
        go_roundg (2000000 - size3 (two3 ⟨rx, ry, rz⟩))
        case measure => exact e2.out
        case rel => exact ⟨two3 ⟨rx, ry, rz⟩, rfl, E1, e3, e4, D1.out.set _ _ _, D2.out.other (by omega) _ _ _, below_set3 (h7.out.trans (hb5.mono h7.out.size)) (Nat.le_refl _) _ _ _⟩
      | true =>
        have e1 : dbl3 ⟨rx, ry, rz⟩ = ⟨rx, ry, rz⟩ := by rw [dbl3, dif_pos (.inl hf)]
        have hi5 : ¬ in3 524288 ⟨rx, ry, rz⟩ := fun h => by rw [(far3_iff _ _ (by decide) (by decide)).2 h] at hf; cases hf
        have HI5 := Lib.hid (fun W => rin_calls ⟨rx, ry, rz⟩ 524288 false (decide_eq_false hi5) (by decide) (by decide) W)
        obtain rfl : D = ⟨rx, ry, rz⟩ := h2.out.symm.trans e1
        clear e1 hi5 hf
        go_wp2_with (go_at_call 67; refine (HI5.out _).mono ?_; rintro e w5 ⟨rfl, hb5⟩; have D1 := Lib.hid (h5.out.below hb5); have D2 := Lib.hid (h6.out.below hb5); obtain ⟨d10, d11, d12, g10, g11, g12⟩ := id D1.out; obtain ⟨d20, d21, d22, g20, g21, g22⟩ := id D2.out)
        exact bodyPost_ret (v := aP ⟨rx, ry, rz⟩) (by simp [results, Try.results119, go_sem, d20, d21, d22]) rfl ⟨rfl, below_set3 (h7.out.trans (hb5.mono h7.out.size)) (by omega) _ _ _⟩
end Go.Proofs.Ytckdhahceelckaa.G
namespace Go.Proofs.Ytckdhahceelckaa.G
open Go.RowKit Go.Proofs.YtckdhahceelckaaW.PrintWords Go.Proofs.YtckdhahceelckaaW.PrintLast Go.Proofs.YtckdhahceelckaaW.PrintMore
set_option linter.unusedVariables false
set_option linter.unusedSimpArgs false
section
variable {w : World} {ops : Array Oper} {rest : List Oper} {o : Oper} {a : Act} {Q : Exit → Act → World → Prop} {K : Act → World → Prop} {N : Option Tmp}
theorem run_append_pts (w : World) (base : Nat) (ty : TypeId) (v : Value) (l l2 : List P3) (A : Option Addr) (m c : Nat) (hown : OwnP w base v l) (hr : Rd w A l2) (hm : l2.length = m) (hsz : l.length + m ≤ 1000000) (hbase : base ≤ w.heap.size) :
    ∃ v' w', (Builtin.append_ #[24, 24] ty #[v, .slice A m c]).run Try.prog w = .ok v' w' ∧ OwnP w' base v' (l ++ l2) ∧ w.grownBy w' v.ownBlock ∧ (v'.ownBlock = v.ownBlock ∨ v'.ownBlock = some w.heap.size) := by
  obtain ⟨i0, hi, hz0, hz1, hz2⟩ := info_parts info23
  cases A with
  | none =>
    have h0 : l2 = [] := by
      cases l2 with
      | nil => rfl
      | cons p l2 => obtain ⟨b, o', e, _⟩ := hr 0 p rfl; cases e
    subst h0
    simp only [List.length_nil] at hm
    subst hm
    refine ⟨v, w, ?_, by rw [List.append_nil]; exact hown, World.grownBy.refl w _, .inl rfl⟩
    rcases hown.2 with ⟨rfl, hn⟩ | ⟨g, cap, cur, rfl, _, _, hnc, _⟩
    · simp [Builtin.append_, run_underlying Try.underlying24, sizeOf, typeInfo, hi, Builtin.lenOf, Builtin.firstCells]
    · simp [Builtin.append_, run_underlying Try.underlying24, sizeOf, typeInfo, hi, Builtin.lenOf, Builtin.firstCells, hnc, storeCells]
  | some ad =>
    have hnews : ∀ j u, (cells3 l2)[j]? = some u → w.cell? (ad.add j) = some u := by
      cases l2 with
      | nil => intro j u hj; simp [cells3] at hj
      | cons p l2 =>
        obtain ⟨b, o', e, _⟩ := hr 0 p rfl
        simp only [Option.some.injEq] at e
        subst e
        intro j u hj
        rw [add_at]
        exact hr.cells j u hj
    obtain ⟨v', w', h0, h1, h2, _, h4⟩ := Go.run_append_own_at (P := Try.prog) w base 24 ty 23 i0 _ 3 24 Try.underlying24 hi hz0 hz1 hz2 rfl (by omega) v l.length (cells3 l) hown ad m c (cells3 l2) (by rw [cells3_length, hm]) hnews (cells3_one l2) (by unfold maxLen; omega) (by omega) hbase
    refine ⟨v', w', h0, ?_, h2, h4⟩
    show w'.ownsRow base 23 3 v' (l ++ l2).length (cells3 (l ++ l2))
    rw [cells3_append, List.length_append, hm]
    exact h1
/-- append of points, where the new row lies told -/
theorem appL_ (base : Nat) (hgd : o.guard = none) (s x : Operand) (ho : o.op = .call { callee := .builtin .append, args := #[s, x], argTypes := #[24, 24] })
    (v : Value) (l l2 : List P3) (A : Option Addr) (m c : Nat) (hs : a.eval s = v) (hx : a.eval x = .slice A m c) (hown : OwnP w base v l) (hr : Rd w A l2) (hm : l2.length = m) (hsz : l.length + m ≤ 1000000) (hbase : base ≤ w.heap.size)
    (h : ∀ v' w', OwnP w' base v' (l ++ l2) → w.grownBy w' v.ownBlock → (v'.ownBlock = v.ownBlock ∨ v'.ownBlock = some w.heap.size) → wpList Try.prog ops Q rest (a.put o.dst v') w') : wpList Try.prog ops Q (o :: rest) a w := by
  obtain ⟨v', w', h0, h1, h2, h3⟩ := run_append_pts w base o.type v l l2 A m c hown hr hm hsz hbase
  exact Go.Lib.wpList_append_run w hgd s x 24 24 ho v (.slice A m c) hs hx v' w' h0 (h v' w' h1 h2 h3)
/-- the same inside a region that draws its order -/
theorem appR_ (base : Nat) (hw : Region.wanted o (yielded ops a.tmps) = true) (hN : o.dst = N) (s x : Operand) (ho : o.op = .call { callee := .builtin .append, args := #[s, x], argTypes := #[24, 24] })
    (v : Value) (l l2 : List P3) (A : Option Addr) (m c : Nat) (hs : a.eval s = v) (hx : a.eval x = .slice A m c) (hown : OwnP w base v l) (hr : Rd w A l2) (hm : l2.length = m) (hsz : l.length + m ≤ 1000000) (hbase : base ≤ w.heap.size)
    (h : ∀ v' w', OwnP w' base v' (l ++ l2) → w.grownBy w' v.ownBlock → (v'.ownBlock = v.ownBlock ∨ v'.ownBlock = some w.heap.size) → K (a.put N v') w') :
    if Region.wanted o (yielded ops a.tmps) = true then Oper.wp Try.prog o a w K Q else K (a.put N undef) w := by
  rw [if_pos hw]
  subst hN
  obtain ⟨v', w', h0, h1, h2, h3⟩ := run_append_pts w base o.type v l l2 A m c hown hr hm hsz hbase
  unfold Oper.wp execOp
  simp only [ho, resolve, invoke, builtin, Sem.run_bind, Sem.run_pure, Result.andThen_ok, List.map_toArray, List.map_cons, List.map_nil, hs, hx, h0]
  exact h _ _ h1 h2 h3
end
theorem OwnP.rdB2 {w : World} {base : Nat} {v : Value} {l : List P3} (h : OwnP w base v l) : ∃ A c, v = .slice A l.length c ∧ l.length ≤ c ∧ RdB w A l ∧ (∀ ad, A = some ad → base ≤ ad.block) := by
  obtain ⟨A, c, e, h1, h2, h3⟩ := OwnP.rd h
  refine ⟨A, c, e, h1, ⟨h2, fun ad ea => ?_⟩, h3⟩
  subst ea
  exact (World.ownsRow.lt h ad.block (by rw [e]; rfl)).2
/-- a list of the call's own grows; what lay there at its beginning, and what is kept, stays -/
structure CSt (w1 W : World) (v : Value) (l : List P3) (keep : List Nat) : Prop where
  own : OwnP W w1.heap.size v l
  below : Below w1.heap.size w1 W
  ne : ∀ k ∈ keep, v.ownBlock ≠ some k ∧ k < W.heap.size
theorem CSt.start (w1 : World) : CSt w1 w1 (.slice none 0 0) [] [] := ⟨OwnP.nil _ _, Below.refl _ _, by simp⟩
theorem CSt.grown {w1 W W' : World} {v : Value} {l : List P3} {keep : List Nat} (h : CSt w1 W v l keep) (hb : Below W.heap.size W W') : CSt w1 W' v l keep :=
  ⟨h.own.grown hb, bthen h.below hb, fun k hk => ⟨(h.ne k hk).1, Nat.lt_of_lt_of_le (h.ne k hk).2 hb.size⟩⟩
theorem CSt.app {w1 W W' : World} {v v' : Value} {l l' : List P3} {keep : List Nat} (h : CSt w1 W v l keep) (hv : OwnP W' w1.heap.size v' l') (hg : W.grownBy W' v.ownBlock) (hat : v'.ownBlock = v.ownBlock ∨ v'.ownBlock = some W.heap.size) : CSt w1 W' v' l' keep := by
  refine ⟨hv, h.below.grown hg h.below.size (fun k hk => h.own.base_ k hk), fun k hk => ?_⟩
  obtain ⟨h1, h2⟩ := h.ne k hk
  refine ⟨?_, Nat.lt_of_lt_of_le h2 hg.size⟩
  rcases hat with e | e
  · rw [e]; exact h1
  · rw [e]; intro e'; cases e'; omega
theorem CSt.blk {w1 W W' : World} {v : Value} {l : List P3} {keep : List Nat} (h : CSt w1 W v l keep) (hg : W.grownBy W' v.ownBlock) {k : Nat} (hk : k ∈ keep) {o : Obj} (ho : W.heap[k]? = some o) : W'.heap[k]? = some o :=
  (hg.block k (h.ne k hk).2 (fun e => (h.ne k hk).1 e.symm)).trans ho
theorem CSt.more {w1 W W' : World} {v : Value} {l : List P3} {keep : List Nat} (h : CSt w1 W v l keep) (hb : Below W.heap.size W W') {k : Nat} (hk : W.heap.size ≤ k) (hk2 : k < W'.heap.size) : CSt w1 W' v l (k :: keep) := by
  refine ⟨h.own.grown hb, bthen h.below hb, fun j hj => ?_⟩
  rcases List.mem_cons.1 hj with rfl | hj
  · exact ⟨fun e => by have := h.own.lt _ e; omega, hk2⟩
  · exact ⟨(h.ne j hj).1, Nat.lt_of_lt_of_le (h.ne j hj).2 hb.size⟩
theorem CSt.less {w1 W : World} {v : Value} {l : List P3} {k : Nat} {keep : List Nat} (h : CSt w1 W v l (k :: keep)) : CSt w1 W v l keep := ⟨h.own, h.below, fun j hj => h.ne j (List.mem_cons_of_mem _ hj)⟩
theorem CSt.old {w1 W : World} {v : Value} {l : List P3} {keep : List Nat} (h : CSt w1 W v l keep) {k : Nat} {o : Obj} (ho : w1.heap[k]? = some o) : W.heap[k]? = some o := (h.below.block k (blk_lt ho)).trans ho
theorem CSt.len {w1 W : World} {v : Value} {l l' : List P3} {keep : List Nat} (h : CSt w1 W v l keep) (e : l = l') : CSt w1 W v l' keep := e ▸ h
theorem RdB.blk {w W : World} {A : Option Addr} {l : List P3} (h : RdB w A l) (hs : w.heap.size ≤ W.heap.size) (hk : ∀ ad, A = some ad → W.heap[ad.block]? = w.heap[ad.block]?) : RdB W A l := by
  refine ⟨fun i p hp => ?_, fun ad e => Nat.lt_of_lt_of_le (h.2 ad e) hs⟩
  obtain ⟨b, o, rfl, hlt, h1, h2, h3⟩ := h.1 i p hp
  have hb := hk _ rfl
  have q : ∀ k, W.cell? ⟨b, k, none⟩ = w.cell? ⟨b, k, none⟩ := fun k => World.cell?_of_block (a := ⟨b, k, none⟩) hb
  exact ⟨b, o, rfl, Nat.lt_of_lt_of_le hlt hs, (q _).trans h1, (q _).trans h2, (q _).trans h3⟩
theorem below_none {w w' : World} (h : w.grownBy w' none) : Below w.heap.size w w' := ⟨h.os, h.tape, h.output, h.size, fun k hk => h.block k hk (by simp)⟩
theorem Rd_pair {w : World} {g : Nat} {p q : P3} {t : TypeId} (h : w.heap[g]? = some (.cells #[.int .i64 p.x, .int .i64 p.y, .int .i64 p.z, .int .i64 q.x, .int .i64 q.y, .int .i64 q.z] t (0, 0))) : RdB w (some ⟨g, 0, none⟩) [p, q] :=
  ⟨fun i u hu => by
    match i, hu with
    | 0, hu => simp at hu; subst hu; exact ⟨g, 0, rfl, blk_lt h, (blk_cell h 0).trans rfl, (blk_cell h 1).trans rfl, (blk_cell h 2).trans rfl⟩
    | 1, hu => simp at hu; subst hu; exact ⟨g, 0, rfl, blk_lt h, (blk_cell h 3).trans rfl, (blk_cell h 4).trans rfl, (blk_cell h 5).trans rfl⟩
    | i + 2, hu => simp at hu, fun ad e => by cases e; exact blk_lt h⟩
/-- the block of a slice -/
def keepA (A : Option Addr) : List Nat := (A.map (·.block)).toList
theorem CSt.moreA {w1 W W' : World} {v : Value} {l : List P3} (h : CSt w1 W v l []) (hb : Below W.heap.size W W') {A : Option Addr} (hA : ∀ ad, A = some ad → W.heap.size ≤ ad.block) (hA2 : ∀ ad, A = some ad → ad.block < W'.heap.size) : CSt w1 W' v l (keepA A) := by
  cases A with
  | none => exact h.grown hb
  | some ad => exact h.more hb (hA ad rfl) (hA2 ad rfl)
theorem RdB.keep {w1 W W' : World} {v : Value} {l es : List P3} {keep : List Nat} {A : Option Addr} (h : RdB W A es) (S : CSt w1 W v l keep) (hs : ∀ k ∈ keepA A, k ∈ keep) (hg : W.grownBy W' v.ownBlock) : RdB W' A es :=
  h.blk hg.size fun ad e => by
    have hk := hs ad.block (by rw [e]; simp [keepA])
    exact hg.block ad.block (S.ne _ hk).2 (fun e' => (S.ne _ hk).1 e'.symm)
def ng3 (n : P3) : P3 := ⟨-n.x, -n.y, -n.z⟩
/-- the candidates of directions as they are -/
def candF (l : List P3) : List P3 := l.flatMap fun x => if long3 x = ⟨0, 0, 0⟩ then [] else [long3 x, ng3 (long3 x)]
theorem candF_no (l : List P3) (k : Nat) (h : k < l.length) (h0 : long3 l[k] = ⟨0, 0, 0⟩) : candF (l.take (k + 1)) = candF (l.take k) := by
  unfold candF; rw [List.take_succ_eq_append_getElem h, List.flatMap_append]; simp [h0]
theorem candF_yes (l : List P3) (k : Nat) (h : k < l.length) (h0 : long3 l[k] ≠ ⟨0, 0, 0⟩) : candF (l.take (k + 1)) = candF (l.take k) ++ [long3 l[k], ng3 (long3 l[k])] := by
  unfold candF; rw [List.take_succ_eq_append_getElem h, List.flatMap_append]; simp [h0]
theorem candF_len (l : List P3) : (candF l).length ≤ 2 * l.length := by
  unfold candF
  induction l with
  | nil => simp
  | cons x l ih =>
    rw [List.flatMap_cons, List.length_append, List.length_cons]
    have : (if long3 x = ⟨0, 0, 0⟩ then [] else [long3 x, ng3 (long3 x)]).length ≤ 2 := by split <;> simp
    omega
theorem flatM_snoc {α β : Type} (f : α → List β) (l : List α) (k : Nat) (h : k < l.length) : (l.take (k + 1)).flatMap f = (l.take k).flatMap f ++ f l[k] := by
  rw [List.take_succ_eq_append_getElem h, List.flatMap_append]; simp
theorem mapM_snoc {α β : Type} (f : α → β) (l : List α) (k : Nat) (h : k < l.length) : (l.take (k + 1)).map f = (l.take k).map f ++ [f l[k]] := by
  rw [List.take_succ_eq_append_getElem h, List.map_append]; rfl
theorem flat_le {α β : Type} (f : α → List β) (n : Nat) : ∀ (l : List α), (∀ x ∈ l, (f x).length ≤ n) → (l.flatMap f).length ≤ l.length * n
  | [], _ => by simp
  | x :: l, h => by
    rw [List.flatMap_cons, List.length_append, List.length_cons, Nat.add_mul]
    have := flat_le f n l fun y hy => h y (by simp [hy])
    have := h x (by simp)
    omega
theorem cross_in {p q : P3} (hp : in3 1048576 p) (hq : in3 1048576 q) : in3 4398046511104 (cross3 p q) := by
  obtain ⟨e, h⟩ := cross3_eq p q 1048576 1048576 hp hq (by decide)
  rw [e]
  exact in3_le (by decide) h
theorem minus_in {p q : P3} (hp : in3 16777216 p) (hq : in3 16777216 q) : in3 4398046511104 (minus3 p q) := by
  rw [minus3_eq p q (in3_le (by decide) hp) (in3_le (by decide) hq)]
  unfold in3 at *
  simp only
  omega
end Go.Proofs.Ytckdhahceelckaa.G
namespace Go.Proofs.Ytckdhahceelckaa.G
open Go.RowKit Go.Proofs.YtckdhahceelckaaW.PrintWords Go.Proofs.YtckdhahceelckaaW.PrintLast Go.Proofs.YtckdhahceelckaaW.PrintMore
set_option linter.unusedVariables false
set_option linter.unusedSimpArgs false
/-- the list while the edges are crossed -/
def ed2 (L ea eb : List P3) (i k : Nat) : List P3 := L ++ (edgeW (ea.take i) eb ++ (eb.take k).map (cross3 (ea.getD i ⟨0, 0, 0⟩)))
theorem getD_at (l : List P3) (i : Nat) (h : i < l.length) : l.getD i ⟨0, 0, 0⟩ = l[i] := by rw [List.getD_eq_getElem?_getD, List.getElem?_eq_getElem h]; rfl
theorem ed2_step (L ea eb : List P3) (i k : Nat) (hi : i < ea.length) (hk : k < eb.length) : ed2 L ea eb i k ++ [cross3 ea[i] eb[k]] = ed2 L ea eb i (k + 1) := by
  unfold ed2
  rw [mapM_snoc _ _ _ hk, getD_at _ _ hi, List.append_assoc, List.append_assoc]
theorem ed2_end (L ea eb : List P3) (i : Nat) (hi : i < ea.length) : ed2 L ea eb i eb.length = ed2 L ea eb (i + 1) 0 := by
  unfold ed2
  rw [edgeW_snoc _ _ _ hi, List.take_length, getD_at _ _ hi]
  simp
theorem ed2_start (L ea eb : List P3) : ed2 L ea eb 0 0 = L := by unfold ed2 edgeW; simp
theorem ed2_all (L ea eb : List P3) : ed2 L ea eb ea.length 0 = L ++ edgeW ea eb := by unfold ed2; simp
theorem ed2_len (L ea eb : List P3) (i k : Nat) (h0 : L.length ≤ 256) (h1 : ea.length ≤ 128) (h2 : eb.length ≤ 128) : (ed2 L ea eb i k).length ≤ 17000 := by
  unfold ed2 edgeW
  rw [List.length_append, List.length_append, List.length_map]
  have a := flat_le (fun e => eb.map fun f => cross3 e f) 128 (ea.take i) (fun x _ => by rw [List.length_map]; exact h2)
  have b := List.length_take_le i ea
  have b' := List.length_take_le' i ea
  have c := List.length_take_le' k eb
  have d := Nat.mul_le_mul (show (ea.take i).length ≤ 128 by omega) (Nat.le_refl 128)
  omega
/-- the list while the points are gone through -/
def pt2 (L pa pb es : List P3) (i k : Nat) : List P3 := L ++ (pointW (pa.take i) pb es ++ (pb.take k).flatMap (roundW es (pa.getD i ⟨0, 0, 0⟩)))
theorem pt2_end (L pa pb es : List P3) (i : Nat) (hi : i < pa.length) : pt2 L pa pb es i pb.length = pt2 L pa pb es (i + 1) 0 := by
  unfold pt2 pointW
  rw [flatM_snoc _ _ _ hi, List.take_length, getD_at _ _ hi]
  simp
theorem pt2_start (L pa pb es : List P3) : pt2 L pa pb es 0 0 = L := by unfold pt2 pointW; simp
theorem pt2_all (L pa pb es : List P3) : pt2 L pa pb es pa.length 0 = L ++ pointW pa pb es := by unfold pt2; simp
theorem roundW_len (es : List P3) (p q : P3) : (roundW es p q).length = es.length + 1 := by unfold roundW; simp
theorem pt2_len (L pa pb es : List P3) (i k : Nat) (hi : i < pa.length) (h0 : L.length ≤ 17000) (h1 : pa.length ≤ 32) (h2 : pb.length ≤ 32) (h3 : es.length ≤ 256) (hm : pa.length ≤ 2 ∨ pb.length ≤ 2) : (pt2 L pa pb es i k).length ≤ 34000 := by
  unfold pt2 pointW
  rw [List.length_append, List.length_append]
  have a := flat_le (fun p => pb.flatMap fun q => roundW es p q) (pb.length * 257) (pa.take i) (fun x _ => flat_le _ 257 pb fun y _ => by rw [roundW_len]; omega)
  have b := flat_le (roundW es (pa.getD i ⟨0, 0, 0⟩)) 257 (pb.take k) (fun x _ => by rw [roundW_len]; omega)
  have b1 := List.length_take_le i pa
  have c := List.length_take_le' k pb
  have d := Nat.mul_le_mul c (Nat.le_refl 257)
  have e : (pa.take i).length + 1 ≤ pa.length := by rw [List.length_take]; omega
  have f := Nat.mul_le_mul e (Nat.le_refl (pb.length * 257))
  rw [Nat.add_mul, Nat.one_mul] at f
  have g : pa.length * (pb.length * 257) ≤ 64 * 257 := by
    rw [← Nat.mul_assoc]
    apply Nat.mul_le_mul_right
    rcases hm with h | h
    · exact Nat.le_trans (Nat.mul_le_mul h h2) (by decide)
    · exact Nat.le_trans (Nat.mul_le_mul h1 h) (by decide)
  omega
/-- the list while one pair's edges are gone through -/
def pt3 (L pa pb es : List P3) (i k : Nat) (d : P3) (m : Nat) : List P3 := pt2 L pa pb es i k ++ (d :: (es.take m).map fun e => cross3 (short3 (cross3 e d)) e)
theorem pt3_start (L pa pb es : List P3) (i k : Nat) (d : P3) : pt2 L pa pb es i k ++ [d] = pt3 L pa pb es i k d 0 := by unfold pt3; simp
theorem pt3_step (L pa pb es : List P3) (i k : Nat) (d : P3) (m : Nat) (h : m < es.length) : pt3 L pa pb es i k d m ++ [cross3 (short3 (cross3 es[m] d)) es[m]] = pt3 L pa pb es i k d (m + 1) := by
  unfold pt3
  rw [mapM_snoc _ _ _ h, List.append_assoc, List.cons_append]
theorem pt3_end (L pa pb es : List P3) (i k : Nat) (hi : i < pa.length) (hk : k < pb.length) : pt3 L pa pb es i k (short3 (minus3 pb[k] pa[i])) es.length = pt2 L pa pb es i (k + 1) := by
  unfold pt3 pt2
  rw [flatM_snoc _ _ _ hk, getD_at _ _ hi, List.take_length]
  simp [roundW]
theorem pt3_len (L pa pb es : List P3) (i k : Nat) (d : P3) (m : Nat) (hi : i < pa.length) (h0 : L.length ≤ 17000) (h1 : pa.length ≤ 32) (h2 : pb.length ≤ 32) (h3 : es.length ≤ 256) (hm : pa.length ≤ 2 ∨ pb.length ≤ 2) : (pt3 L pa pb es i k d m).length ≤ 35000 := by
  unfold pt3
  rw [List.length_append, List.length_cons, List.length_map]
  have := pt2_len L pa pb es i k hi h0 h1 h2 h3 hm
  have := List.length_take_le' m es
  omega
/-- all that is gathered may be made long -/
theorem rawC_in (pa aa ea pb ab eb : List P3) (ra rb : Int) (m : MayP pa aa ea ra) (k : MayP pb ab eb rb) : ∀ x ∈ rawC pa aa ea pb ab eb, in3 4398046511104 x := by
  have fin : ∀ {n : Int} {l : List P3}, 0 ≤ n → n ≤ 9223372036854775807 → l.any (far3 n) = false → ∀ x ∈ l, in3 n x := by
    intro n l h0 h1 h x hx
    rw [List.any_eq_false] at h
    exact (far3_iff n x h0 h1).1 (by simpa using h x hx)
  have paI := fin (by decide) (by decide) m.pf
  have pbI := fin (by decide) (by decide) k.pf
  have aaI := fin (by decide) (by decide) m.af
  have abI := fin (by decide) (by decide) k.af
  have eaI := fin (by decide) (by decide) m.ef
  have ebI := fin (by decide) (by decide) k.ef
  intro x hx
  unfold rawC at hx
  rcases List.mem_append.1 hx with h | h
  · rcases List.mem_append.1 h with h | h
    · exact in3_le (by decide) (aaI x h)
    · exact in3_le (by decide) (abI x h)
  · rcases List.mem_append.1 h with h | h
    · unfold edgeW at h
      obtain ⟨e, he, h⟩ := List.mem_flatMap.1 h
      obtain ⟨f, hf, rfl⟩ := List.mem_map.1 h
      exact cross_in (eaI e he) (ebI f hf)
    · split at h
      · simp at h
      · unfold pointW at h
        obtain ⟨p, hp, h⟩ := List.mem_flatMap.1 h
        obtain ⟨q, hq, h⟩ := List.mem_flatMap.1 h
        unfold roundW at h
        rcases List.mem_cons.1 h with rfl | h
        · exact in3_le (by decide) (short3_in _)
        · obtain ⟨e, he, rfl⟩ := List.mem_map.1 h
          have eI : in3 1048576 e := by
            rcases List.mem_append.1 he with he | he
            · exact eaI e he
            · exact ebI e he
          exact cross_in (short3_in _) eI
theorem rawC_len (pa aa ea pb ab eb : List P3) (ra rb : Int) (m : MayP pa aa ea ra) (k : MayP pb ab eb rb) : (rawC pa aa ea pb ab eb).length ≤ 34000 := by
  have := m.a1; have := k.a1; have := m.e1; have := k.e1; have := m.p1; have := k.p1
  have h1 := ed2_len (aa ++ ab) ea eb ea.length 0 (by rw [List.length_append]; omega) (by omega) (by omega)
  rw [ed2_all] at h1
  unfold rawC
  rw [← List.append_assoc]
  split
  · simpa using (by omega : ((aa ++ ab) ++ edgeW ea eb).length ≤ 34000)
  · rename_i hm
    obtain ⟨p0, pr, hp⟩ := List.exists_cons_of_ne_nil m.p0
    have hl : pa.length - 1 < pa.length := by rw [hp]; simp
    have h2 := pt2_len ((aa ++ ab) ++ edgeW ea eb) pa pb (ea ++ eb) (pa.length - 1) pb.length hl h1 (by omega) (by omega) (by rw [List.length_append]; omega) (by unfold mn at hm; split at hm <;> omega)
    rw [pt2_end _ _ _ _ _ hl, show pa.length - 1 + 1 = pa.length by omega, pt2_all] at h2
    exact h2
end Go.Proofs.Ytckdhahceelckaa.G
namespace Go.Proofs.Ytckdhahceelckaa.G
open Go.RowKit Go.Proofs.YtckdhahceelckaaW.PrintWords Go.Proofs.YtckdhahceelckaaW.PrintLast Go.Proofs.YtckdhahceelckaaW.PrintMore
attribute [local go_sem] max2_mx min2_mn max_two min_two max_three min_three max_four min_four
attribute [local go_sem high] eqA23
set_option linter.unusedVariables false
set_option linter.unusedSimpArgs false
def CandPost (l : List P3) (w : World) (en : Ending) (w' : World) : Prop := ∃ A c, en = .returned (.slice A l.length c) ∧ RdB w' A l ∧ Below w.heap.size w w' ∧ ∀ ad, A = some ad → w.heap.size ≤ ad.block
set_option maxHeartbeats 8000000 in
set_option maxRecDepth 100000 in
theorem rcand_calls (pa aa ea pb ab eb : List P3) (ra rb : Int) (A0 A1 A2 B0 B1 B2 : Option Addr) (c0 c1 c2 d0 d1 d2 : Nat) (w : World)
    (hA0 : RdB w A0 pa) (hA1 : RdB w A1 aa) (hA2 : RdB w A2 ea) (hB0 : RdB w B0 pb) (hB1 : RdB w B1 ab) (hB2 : RdB w B2 eb) (m : MayP pa aa ea ra) (k : MayP pb ab eb rb) :
    Calls Try.prog 63 #[.agg #[.slice A0 pa.length c0, .slice A1 aa.length c1, .slice A2 ea.length c2, .int .i64 ra], .agg #[.slice B0 pb.length d0, .slice B1 ab.length d1, .slice B2 eb.length d2, .int .i64 rb]] w (CandPost (candF (rawC pa aa ea pb ab eb)) w) := by
  have HIN := Lib.hid (rawC_in pa aa ea pb ab eb ra rb m k)
  have HLEN := Lib.hid (rawC_len pa aa ea pb ab eb ra rb m k)
  have PA := Lib.hid (far_in (by decide) (by decide) m.pf)
  have PB := Lib.hid (far_in (by decide) (by decide) k.pf)
  have EA := Lib.hid (far_in (by decide) (by decide) m.ef)
  have EB := Lib.hid (far_in (by decide) (by decide) k.ef)
  have l1 := m.p1
  have l2 := m.a1
  have l3 := m.e1
  have l4 := k.p1
  have l5 := k.a1
  have l6 := k.e1
  obtain ⟨RAW, hRAW⟩ : ∃ l, rawC pa aa ea pb ab eb = l := ⟨_, rfl⟩
  rw [hRAW] at HIN HLEN ⊢
  unfold rawC at hRAW
  obtain ⟨np, hnp⟩ : ∃ n, pa.length = n := ⟨_, rfl⟩
  obtain ⟨na, hna⟩ : ∃ n, aa.length = n := ⟨_, rfl⟩
  obtain ⟨ne, hne⟩ : ∃ n, ea.length = n := ⟨_, rfl⟩
  obtain ⟨mp, hmp⟩ : ∃ n, pb.length = n := ⟨_, rfl⟩
  obtain ⟨ma, hma⟩ : ∃ n, ab.length = n := ⟨_, rfl⟩
  obtain ⟨me, hme⟩ : ∃ n, eb.length = n := ⟨_, rfl⟩
  rw [hnp, hmp] at hRAW
  have HRAW := Lib.hid hRAW
  rw [hnp] at l1 ⊢
  rw [hna] at l2 ⊢
  rw [hne] at l3 ⊢
  rw [hmp] at l4 ⊢
  rw [hma] at l5 ⊢
  rw [hme] at l6 ⊢
  have NP := Lib.hid hnp
  have NA := Lib.hid hna
  have NE := Lib.hid hne
  have MP := Lib.hid hmp
  have MA := Lib.hid hma
  have ME := Lib.hid hme
  have z0 := (Below.heap_alloc (w.alloc (.cells #[.slice A0 np c0, .slice A1 na c1, .slice A2 ne c2, .int .i64 ra] 36)) (.cells #[.slice B0 mp d0, .slice B1 ma d1, .slice B2 me d2, .int .i64 rb] 36) w.heap.size (by simp)).trans (heap_alloc_new w (.cells #[.slice A0 np c0, .slice A1 na c1, .slice A2 ne c2, .int .i64 ra] 36))
  have z1 := heap_alloc_new (w.alloc (.cells #[.slice A0 np c0, .slice A1 na c1, .slice A2 ne c2, .int .i64 ra] 36)) (.cells #[.slice B0 mp d0, .slice B1 ma d1, .slice B2 me d2, .int .i64 rb] 36)
  rw [World.size_alloc] at z1
  have zb := ((Below.refl _ w).alloc (Nat.le_refl _) (.cells #[.slice A0 np c0, .slice A1 na c1, .slice A2 ne c2, .int .i64 ra] 36)).alloc (by simp) (.cells #[.slice B0 mp d0, .slice B1 ma d1, .slice B2 me d2, .int .i64 rb] 36)
  have zs : ((w.alloc (.cells #[.slice A0 np c0, .slice A1 na c1, .slice A2 ne c2, .int .i64 ra] 36)).alloc (.cells #[.slice B0 mp d0, .slice B1 ma d1, .slice B2 me d2, .int .i64 rb] 36)).heap.size = w.heap.size + 1 + 1 := by simp
  obtain ⟨w1, hw1⟩ : ∃ V, (w.alloc (.cells #[.slice A0 np c0, .slice A1 na c1, .slice A2 ne c2, .int .i64 ra] 36)).alloc (.cells #[.slice B0 mp d0, .slice B1 ma d1, .slice B2 me d2, .int .i64 rb] 36) = V := ⟨_, rfl⟩
  rw [hw1] at z0 z1 zb zs
  have hw1' := Lib.hid hw1
  have Z0 := Lib.hid z0
  have Z1 := Lib.hid z1
  have ZB := Lib.hid zb
  have ZS := Lib.hid zs
  have A0_ := Lib.hid (hA0.below zb)
  have A1_ := Lib.hid (hA1.below zb)
  have A2_ := Lib.hid (hA2.below zb)
  have B0_ := Lib.hid (hB0.below zb)
  have B1_ := Lib.hid (hB1.below zb)
  have B2_ := Lib.hid (hB2.below zb)
  have x1 : w1.cell? ⟨w.heap.size, 1, none⟩ = some (.slice A1 na c1) := (blk_cell z0 1).trans rfl
  have q0 : w.heap.size < w1.heap.size := blk_lt z0
  have q1 : w.heap.size + 1 < w1.heap.size := blk_lt z1
  clear hRAW hnp hna hne hmp hma hme z0 z1 zb zs hw1 hA0 hA1 hA2 hB0 hB1 hB2 m k
  go_enter Try.func63, Try.ntmps63
  go_wp2_with (first
    | ((try rw [hw1'.out]); at_builtin; refine appL_ w1.heap.size rfl _ _ rfl (.slice none 0 0) [] aa A1 _ _ rfl rfl (OwnP.nil _ _) A1_.out.1 NA.out (by simp; omega) (Nat.le_refl _) ?_; intro v2 w2 hv hg hat; have S2 := Lib.hid ((CSt.start w1).app hv hg hat); have y1 : w2.cell? ⟨w.heap.size + 1, 1, none⟩ = some (.slice B1 ma d1) := (blk_cell (S2.out.old Z1.out) 1).trans rfl; clear hv hg hat x1)
    | (at_builtin; refine appL_ w1.heap.size rfl _ _ rfl v2 ([] ++ aa) ab B1 _ _ rfl rfl S2.out.own (B1_.out.1.below S2.out.below) MA.out (by have := NA.out; simp; omega) S2.out.below.size ?_; intro v3 w3 hv hg hat; have S3 := Lib.hid (S2.out.app hv hg hat); clear hv hg hat y1))
  clear S2
  have S4 := Lib.hid (S3.out.len (show ([] ++ aa) ++ ab = ed2 (aa ++ ab) ea eb 0 0 by rw [ed2_start]; rfl))
  have HL0 := Lib.hid (show (aa ++ ab).length ≤ 256 by rw [List.length_append, NA.out, MA.out]; omega)
  clear S3
  obtain ⟨L0, hL0⟩ : ∃ l, aa ++ ab = l := ⟨_, rfl⟩
  rw [hL0] at S4 HL0 HRAW
  clear hL0
  go_loopw [5, 6, 7] (fun v5 v6 v7 wr => ∃ i : Nat, i ≤ ne ∧ v6 = .int .i64 i ∧ Hid (CSt w1 wr v5 (ed2 L0 ea eb i 0) [])) (fun _ i _ _ => ne - (intOf i).toNat)
  case atStart => exact ⟨0, by omega, rfl, S4⟩
  case round =>
    clear S4
    obtain ⟨i, hi, rfl, hS⟩ := hrel
    have x2 : wr.cell? ⟨w.heap.size, 2, none⟩ = some (.slice A2 ne c2) := (blk_cell (hS.out.old Z0.out) 2).trans rfl
    have l0 : w.heap.size < wr.heap.size := blk_lt (hS.out.old Z0.out)
    by_cases hlt : i < ne
    · go_wp2_with fail
      have hil : i < ea.length := by rw [NE.out]; exact hlt
      obtain ⟨ga, oa, rfl, _, _, _, _⟩ := A2_.out.1.get i hil
      go_loopw [5, 7] (fun v5 v7 wq => ∃ j : Nat, j ≤ me ∧ v7 = .int .i64 j ∧ Hid (CSt w1 wq v5 (ed2 L0 ea eb i j) [])) (fun _ i _ => me - (intOf i).toNat)
      case atStart => exact ⟨0, by omega, rfl, hS⟩
      case round =>
        clear hS x2 l0
        obtain ⟨j, hj, rfl, hS2⟩ := hrel
        obtain ⟨wq, hwq⟩ : ∃ x : World, x = wr := ⟨_, rfl⟩
        subst hwq
        have x2 : wq.cell? ⟨w.heap.size, 2, none⟩ = some (.slice (some ⟨ga, oa, none⟩) ne c2) := (blk_cell (hS2.out.old Z0.out) 2).trans rfl
        have l0 : w.heap.size < wq.heap.size := blk_lt (hS2.out.old Z0.out)
        have y2 : wq.cell? ⟨w.heap.size + 1, 2, none⟩ = some (.slice B2 me d2) := (blk_cell (hS2.out.old Z1.out) 2).trans rfl
        have l1_ : w.heap.size + 1 < wq.heap.size := blk_lt (hS2.out.old Z1.out)
        by_cases hlj : j < me
        · have hjl : j < eb.length := by rw [ME.out]; exact hlj
          obtain ⟨gb, ob, rfl, lgb, f0, f1, f2⟩ := (B2_.out.below hS2.out.below).1.get j hjl
          obtain ⟨ga', oa', hA, lga, e0, e1, e2⟩ := (A2_.out.below hS2.out.below).1.get i hil
          simp only [Option.some.injEq, Addr.mk.injEq, and_true] at hA
          obtain ⟨rfl, rfl⟩ := hA
          have HST := ed2_step L0 ea eb i j hil hjl
          obtain ⟨e, he⟩ : ∃ e, ea[i] = e := ⟨_, rfl⟩
          obtain ⟨f, hf⟩ : ∃ f, eb[j] = f := ⟨_, rfl⟩
          rw [he] at e0 e1 e2 HST
          rw [hf] at f0 f1 f2 HST
          have HX := Lib.hid (fun W => rcross_calls e f W)
          obtain ⟨u, hu⟩ : ∃ u, cross3 e f = u := ⟨_, rfl⟩
          rw [hu] at HX HST
          obtain ⟨ex, ey, ez⟩ := e
          obtain ⟨fx, fy, fz⟩ := f
          obtain ⟨ux, uy, uz⟩ := u
          simp only at e0 e1 e2 f0 f1 f2
          have HST := Lib.hid HST
          have HL2 := Lib.hid (ed2_len L0 ea eb i j HL0.out (by rw [NE.out]; omega) (by rw [ME.out]; omega))
          obtain ⟨LL, hLL⟩ : ∃ l, ed2 L0 ea eb i j = l := ⟨_, rfl⟩
          rw [hLL] at hS2 HST HL2
          have t1 : (i : Int) < (ne : Int) := by omega
          have t2 : (j : Int) < (me : Int) := by omega
          clear he hf hu hLL
          go_wp2
          have HB := Lib.hid ((Below.refl (wq.heap.size) wq).drew)
          have FF := Lib.hid (show ∀ V, Hid (Below (wq.heap.size) wq V) → V.cell? ⟨w.heap.size, 2, none⟩ = some (.slice (some ⟨ga, oa, none⟩) ne c2) ∧ V.cell? ⟨w.heap.size + 1, 2, none⟩ = some (.slice (some ⟨gb, ob, none⟩) me d2) ∧ V.cell? ⟨ga, oa + i * 3, none⟩ = some (.int .i64 ex) ∧ V.cell? ⟨ga, oa + i * 3 + 1, none⟩ = some (.int .i64 ey) ∧ V.cell? ⟨ga, oa + i * 3 + 2, none⟩ = some (.int .i64 ez) ∧ V.cell? ⟨gb, ob + j * 3, none⟩ = some (.int .i64 fx) ∧ V.cell? ⟨gb, ob + j * 3 + 1, none⟩ = some (.int .i64 fy) ∧ V.cell? ⟨gb, ob + j * 3 + 2, none⟩ = some (.int .i64 fz) from fun V HB => ⟨(HB.out.cell (p := ⟨w.heap.size, 2, none⟩) (l0)).trans x2, (HB.out.cell (p := ⟨w.heap.size + 1, 2, none⟩) (l1_)).trans y2, (HB.out.cell (p := ⟨ga, oa + i * 3, none⟩) (lga)).trans e0, (HB.out.cell (p := ⟨ga, oa + i * 3 + 1, none⟩) (lga)).trans e1, (HB.out.cell (p := ⟨ga, oa + i * 3 + 2, none⟩) (lga)).trans e2, (HB.out.cell (p := ⟨gb, ob + j * 3, none⟩) (lgb)).trans f0, (HB.out.cell (p := ⟨gb, ob + j * 3 + 1, none⟩) (lgb)).trans f1, (HB.out.cell (p := ⟨gb, ob + j * 3 + 2, none⟩) (lgb)).trans f2⟩)
          refine start_ (n := 15) (S := fun w' => w'.cell? ⟨w.heap.size, 2, none⟩ = some (.slice (some ⟨ga, oa, none⟩) ne c2) ∧ w'.cell? ⟨w.heap.size + 1, 2, none⟩ = some (.slice (some ⟨gb, ob, none⟩) me d2) ∧ w'.cell? ⟨ga, oa + i * 3, none⟩ = some (.int .i64 ex) ∧ w'.cell? ⟨ga, oa + i * 3 + 1, none⟩ = some (.int .i64 ey) ∧ w'.cell? ⟨ga, oa + i * 3 + 2, none⟩ = some (.int .i64 ez) ∧ w'.cell? ⟨gb, ob + j * 3, none⟩ = some (.int .i64 fx) ∧ w'.cell? ⟨gb, ob + j * 3 + 1, none⟩ = some (.int .i64 fy) ∧ w'.cell? ⟨gb, ob + j * 3 + 2, none⟩ = some (.int .i64 fz)) (ds := [13]) (MT 0 15) (by kernel_rfl) rfl rfl (FF.out _ HB) (fun hHeld => ?_)
          obtain ⟨wd, hwd⟩ : ∃ x, wq.drew = x := ⟨_, rfl⟩
          rw [hwd] at HB hHeld ⊢
          clear hwd
          refine pu_ 0 39 (h := ?_)
          refine pu_ 1 40 (h := ?_)
          refine pu_ 3 42 (h := ?_)
          refine pu_ 6 45 (h := ?_)
          refine pu_ 8 47 (h := ?_)
          refine ta_ 2 41 hHeld (h := ?_)
          refine pu_ 4 43 (h := ?_)
          refine ta_ 5 44 hHeld (h := ?_)
          refine ta_ 7 46 hHeld (h := ?_)
          refine pu_ 9 48 (h := ?_)
          refine ta_ 10 49 hHeld (h := ?_)
          refine on_ 11 (some 50) (h := fun K hK => ?_)
          refine goes_ Try.func82 (by kernel_rfl) rfl #[aP ⟨ex, ey, ez⟩, aP ⟨fx, fy, fz⟩] (by rfl) rfl rfl (by simp only [List.map_toArray, List.map_cons, List.map_nil]; rfl) ?_
          with_reducible refine (HX.out _).mono ?_
          rintro en w4 ⟨rfl, hb⟩
          have HB := Lib.hid (HB.out.trans (hb.mono (Nat.le_trans (Nat.le_refl _) HB.out.size)))
          clear hb
          refine ⟨_, rfl, ?_⟩
          refine hK.out _ _ (FF.out _ HB) (fun hHeld => ?_)
          clear hK K
          refine no_ (h := ?_)
          refine on_ 12 (some 51) (h := fun K hK => ?_)
          refine value_ (w1 := ?_) (v := ?_) (by rfl) rfl ?_ ?_
          rotate_left 2
          · go_simp
            constructor
            · rfl
            · rfl
          have HA := Lib.hid (ha_new HB.out (.cells #[.int .i64 ux, .int .i64 uy, .int .i64 uz] 23))
          have hge := HB.out.size
          have HB := Lib.hid (HB.out.alloc (Nat.le_trans (Nat.le_refl _) HB.out.size) (.cells #[.int .i64 ux, .int .i64 uy, .int .i64 uz] 23))
          refine hK.out _ _ (FF.out _ HB) (fun hHeld => ?_)
          clear hK K
          refine no_ (h := ?_)
          refine last_ (i := 13) (N := some 52) (MT 14 1) rfl rfl (by kernel_rfl) (by decide) (fun K hK => ?_)
          have hS8 := hS2.out.grown HB.out
          refine appR_ w1.heap.size (by rfl) rfl _ _ rfl _ _ [⟨ux, uy, uz⟩] _ _ _ rfl rfl hS8.own (Rd_one HA.out).1 rfl (by have := HL2.out; simp; omega) hS8.below.size ?_
          intro v9 w9 hv hg hat
          obtain ⟨Av, nv, cv, hvv⟩ : ∃ A n c, v9 = .slice A n c := (by obtain ⟨A, c, h, _⟩ := OwnP.rd hv; exact ⟨A, _, c, h⟩)
          subst hvv
          have hS9 := Lib.hid ((hS8.app hv hg hat).len HST.out)
          clear hv hg hat hS8
          refine hK.out _ _ ?_
          clear hK K
          refine no_ (h := ?_)
          refine pu_ 14 5 (h := ?_)
          refine done_ (by kernel_rfl) ?_
          clear x2 l0 y2 l1_ f0 f1 f2 e0 e1 e2 t1 t2 HL2 HX
          go_wp2
          go_roundw
          case rel => exact ⟨j + 1, by omega, by go_num, hS9⟩
          case measure => simp [intOf]; omega
        · obtain rfl : j = me := by omega
          have hSE := Lib.hid (hS2.out.len (show ed2 L0 ea eb i j = ed2 L0 ea eb (i + 1) 0 by rw [← ed2_end L0 ea eb i hil, ME.out]))
          clear hS2
          go_wp2
          go_roundw
          case rel => exact ⟨i + 1, by omega, by go_num, hSE⟩
          case measure => simp [intOf]; omega
    · obtain rfl : i = ne := by omega
      have hSE := Lib.hid (hS.out.len (show ed2 L0 ea eb i 0 = L0 ++ edgeW ea eb by rw [← ed2_all, NE.out]))
      have HL1 := Lib.hid (show (L0 ++ edgeW ea eb).length ≤ 17000 by have := ed2_len L0 ea eb i 0 HL0.out (by rw [NE.out]; omega) (by rw [ME.out]; omega); rwa [show ed2 L0 ea eb i 0 = L0 ++ edgeW ea eb by rw [← ed2_all, NE.out]] at this)
      obtain ⟨L1, hL1⟩ : ∃ l, L0 ++ edgeW ea eb = l := ⟨_, rfl⟩
      have HR1 := Lib.hid (show L1 ++ (if mn (np : Int) (mp : Int) > 2 then [] else pointW pa pb (ea ++ eb)) = RAW by rw [← HRAW.out, ← hL1, List.append_assoc])
      rw [hL1] at hSE HL1
      clear hS hL1 HRAW
      obtain ⟨T, hT⟩ : ∃ t, (decide ((np : Int) ≤ 2) || decide ((mp : Int) ≤ 2)) = t := ⟨_, rfl⟩
      have hRT : Hid (RAW = if T then L1 ++ pointW pa pb (ea ++ eb) else L1) := Lib.hid (by
        rw [← HR1.out, ← hT]
        by_cases h : mn (np : Int) (mp : Int) > 2
        · have h1 : ¬ ((np : Int) ≤ 2) := by unfold mn at h; split at h <;> omega
          have h2 : ¬ ((mp : Int) ≤ 2) := by unfold mn at h; split at h <;> omega
          rw [if_pos h, decide_eq_false h1, decide_eq_false h2]; simp
        · have h1 : ((np : Int) ≤ 2) ∨ ((mp : Int) ≤ 2) := by unfold mn at h; split at h <;> omega
          rw [if_neg h, if_pos (by rcases h1 with h1 | h1 <;> simp [h1])])
      have HTm : Hid (T = true → np ≤ 2 ∨ mp ≤ 2) := Lib.hid (fun h => by rw [← hT] at h; simp only [Bool.or_eq_true, decide_eq_true_eq] at h; omega)
      clear HR1
      have y0 : wr.cell? ⟨w.heap.size + 1, 0, none⟩ = some (.slice B0 mp d0) := (blk_cell (hSE.out.old Z1.out) 0).trans rfl
      have y1 : wr.cell? ⟨w.heap.size, 0, none⟩ = some (.slice A0 np c0) := (blk_cell (hSE.out.old Z0.out) 0).trans rfl
      have l1_ : w.heap.size + 1 < wr.heap.size := blk_lt (hSE.out.old Z1.out)
      go_upto_region 11 with fail
      go_cut [62] (fun s62 wx => s62 = .bool T ∧ wx = wr)
      case first =>
        by_cases t1 : (np : Int) ≤ 2
        · have e1 : decide ((np : Int) ≤ 2) = true := decide_eq_true t1
          rw [e1] at hT
          have hT := Lib.hid hT
          go_wp2
          go_meet
          exact ⟨by first | (rw [← hT.out]; done) | (rw [← hT.out]; rfl), rfl⟩
        · have e1 : decide ((np : Int) ≤ 2) = false := decide_eq_false t1
          rw [e1] at hT
          have hT := Lib.hid hT
          go_wp2
          go_meet
          exact ⟨by first | (rw [← hT.out]; done) | (rw [← hT.out]; rfl), rfl⟩
      case rest =>
        obtain ⟨rfl, rfl⟩ := hcut
        clear hT
        go_upto_if 62 with fail
        go_cut [5] (fun s5 wx => Hid (CSt w1 wx s5 RAW []))
        case first =>
          cases T
          · have hS := Lib.hid (hSE.out.len (show L1 = RAW by rw [hRT.out]; rfl))
            go_wp2
            go_meet
            exact hS
          · have hR2 := Lib.hid (show RAW = L1 ++ pointW pa pb (ea ++ eb) by rw [hRT.out]; rfl)
            have hM := Lib.hid (HTm.out rfl)
            clear hRT HTm
            go_wp2_with (first
              | (at_builtin; refine appL_ wc.heap.size rfl _ _ rfl (.slice none 0 0) [] ea A2 _ _ rfl rfl (OwnP.nil _ _) (A2_.out.1.below hSE.out.below) NE.out (by simp; omega) (Nat.le_refl _) ?_; intro v6 w4 hv hg hat; have BB := Lib.hid (below_none hg); have V6 := Lib.hid hv; have S4 := Lib.hid (hSE.out.grown BB.out); have z2 : w4.cell? ⟨w.heap.size + 1, 2, none⟩ = some (.slice B2 me d2) := (blk_cell (S4.out.old Z1.out) 2).trans rfl; clear hv hg hat x2 y0 y1)
              | (at_builtin; refine appL_ wc.heap.size rfl _ _ rfl v6 ([] ++ ea) eb B2 _ _ rfl rfl V6.out (B2_.out.1.below S4.out.below) ME.out (by have := NE.out; simp; omega) BB.out.size ?_; intro v7 w5 hv hg hat; have BC := Lib.hid (BB.out.grown hg BB.out.size (fun k hk => V6.out.base_ k hk)); have V7 := Lib.hid hv; clear hv hg hat z2))
            have S5 := Lib.hid (hSE.out.grown BC.out)
            obtain ⟨A8, c8, rfl, _, R8, K8⟩ := OwnP.rdB2 V7.out
            have SK := Lib.hid ((hSE.out.moreA BC.out K8 R8.2).len (pt2_start L1 pa pb (ea ++ eb)).symm)
            have E8 : Hid (([] ++ ea) ++ eb = ea ++ eb) := Lib.hid rfl
            rw [E8.out] at R8
            have R8 := Lib.hid R8
            have HE8 := Lib.hid (show ∀ e ∈ ea ++ eb, in3 1048576 e from fun e he => (List.mem_append.1 he).elim (EA.out e) (EB.out e))
            have N8 := Lib.hid (show (ea ++ eb).length ≤ 256 by rw [List.length_append, NE.out, ME.out]; omega)
            obtain ⟨es, hes⟩ : ∃ l, ea ++ eb = l := ⟨_, rfl⟩
            have hE9 : ([] ++ ea) ++ eb = es := hes
            rw [hE9]
            rw [hes] at SK R8 hR2 HE8 N8
            obtain ⟨ns, hns⟩ : ∃ n, es.length = n := ⟨_, rfl⟩
            rw [hns]
            have NS := Lib.hid hns
            clear S5 S4 V6 V7 BB K8 hes hE9 E8 hns hSE BC
            go_loopw [5, 9, 10, 11, 12, 13] (fun v5 v9 v10 v11 v12 v13 wr => ∃ i : Nat, i ≤ np ∧ v9 = .int .i64 i ∧ Hid (CSt w1 wr v5 (pt2 L1 pa pb es i 0) (keepA A8)) ∧ Hid (RdB wr A8 es)) (fun _ i _ _ _ _ _ => np - (intOf i).toNat)
            case atStart => exact ⟨0, by omega, rfl, SK, R8⟩
            case round =>
              clear SK R8
              obtain ⟨p, hp, rfl, hS, hR⟩ := hrel
              obtain ⟨wq, hwq⟩ : ∃ x : World, x = wr := ⟨_, rfl⟩
              subst hwq
              have x0 : wq.cell? ⟨w.heap.size, 0, none⟩ = some (.slice A0 np c0) := (blk_cell (hS.out.old Z0.out) 0).trans rfl
              have l0 : w.heap.size < wq.heap.size := blk_lt (hS.out.old Z0.out)
              by_cases hlp : p < np
              · have hpl : p < pa.length := by rw [NP.out]; exact hlp
                obtain ⟨gp, op_, rfl, _, _, _, _⟩ := A0_.out.1.get p hpl
                go_wp2_with fail
                go_loopw [5, 10, 11, 12, 13] (fun v5 v10 v11 v12 v13 wr => ∃ j : Nat, j ≤ mp ∧ v10 = .int .i64 j ∧ Hid (CSt w1 wr v5 (pt2 L1 pa pb es p j) (keepA A8)) ∧ Hid (RdB wr A8 es)) (fun _ i _ _ _ _ => mp - (intOf i).toNat)
                case atStart => exact ⟨0, by omega, rfl, hS, hR⟩
                case round =>
                  clear hS hR x0 l0
                  obtain ⟨j, hj, rfl, hS, hR⟩ := hrel
                  obtain ⟨wq, hwq⟩ : ∃ x : World, x = wr := ⟨_, rfl⟩
                  subst hwq
                  have x0 : wq.cell? ⟨w.heap.size, 0, none⟩ = some (.slice (some ⟨gp, op_, none⟩) np c0) := (blk_cell (hS.out.old Z0.out) 0).trans rfl
                  have l0 : w.heap.size < wq.heap.size := blk_lt (hS.out.old Z0.out)
                  have y0 : wq.cell? ⟨w.heap.size + 1, 0, none⟩ = some (.slice B0 mp d0) := (blk_cell (hS.out.old Z1.out) 0).trans rfl
                  have l1_ : w.heap.size + 1 < wq.heap.size := blk_lt (hS.out.old Z1.out)
                  by_cases hlj : j < mp
                  · have hjl : j < pb.length := by rw [MP.out]; exact hlj
                    obtain ⟨gq, oq, rfl, lgq, f0, f1, f2⟩ := (B0_.out.below hS.out.below).1.get j hjl
                    obtain ⟨gp', op', hA, lgp, e0, e1, e2⟩ := (A0_.out.below hS.out.below).1.get p hpl
                    simp only [Option.some.injEq, Addr.mk.injEq, and_true] at hA
                    obtain ⟨rfl, rfl⟩ := hA
                    have hEND := pt3_end L1 pa pb es p j hpl hjl
                    have hmi := minus_in (PB.out _ (List.getElem_mem hjl)) (PA.out _ (List.getElem_mem hpl))
                    obtain ⟨P, hP⟩ : ∃ e, pa[p] = e := ⟨_, rfl⟩
                    obtain ⟨Q, hQ⟩ : ∃ e, pb[j] = e := ⟨_, rfl⟩
                    rw [hP] at e0 e1 e2 hEND hmi
                    rw [hQ] at f0 f1 f2 hEND hmi
                    obtain ⟨px, py, pz⟩ := P
                    obtain ⟨qx, qy, qz⟩ := Q
                    simp only at e0 e1 e2 f0 f1 f2
                    have HM := (fun W => rminus_calls qx qy qz px py pz W)
                    obtain ⟨M, hM'⟩ : ∃ u, minus3 ⟨qx, qy, qz⟩ ⟨px, py, pz⟩ = u := ⟨_, rfl⟩
                    rw [hM'] at HM hEND hmi
                    have HSH := (fun W => rshort_calls M W hmi)
                    have hdI := short3_in M
                    obtain ⟨D, hD⟩ : ∃ u, short3 M = u := ⟨_, rfl⟩
                    rw [hD] at HSH hdI hEND
                    obtain ⟨mx_, my_, mz_⟩ := M
                    obtain ⟨dx, dy, dz⟩ := D
                    simp only at HM
                    have HM := Lib.hid HM
                    have HSH := Lib.hid HSH
                    have HDI := Lib.hid hdI
                    have HEND := Lib.hid hEND
                    have HL2 := Lib.hid (pt2_len L1 pa pb es p j hpl HL1.out (by rw [NP.out]; omega) (by rw [MP.out]; omega) N8.out (by rw [NP.out, MP.out]; exact hM.out))
                    have HL3 := Lib.hid (fun m => pt3_len L1 pa pb es p j ⟨dx, dy, dz⟩ m hpl HL1.out (by rw [NP.out]; omega) (by rw [MP.out]; omega) N8.out (by rw [NP.out, MP.out]; exact hM.out))
                    have t1 : (p : Int) < (np : Int) := by omega
                    have t2 : (j : Int) < (mp : Int) := by omega
                    clear hP hQ hM' hD hdI hEND hmi
                    go_wp2
                    have HB := Lib.hid ((Below.refl (wq.heap.size) wq).drew)
                    have FF := Lib.hid (show ∀ V, Hid (Below (wq.heap.size) wq V) → V.cell? ⟨w.heap.size, 0, none⟩ = some (.slice (some ⟨gp, op_, none⟩) np c0) ∧ V.cell? ⟨w.heap.size + 1, 0, none⟩ = some (.slice (some ⟨gq, oq, none⟩) mp d0) ∧ V.cell? ⟨gp, op_ + p * 3, none⟩ = some (.int .i64 px) ∧ V.cell? ⟨gp, op_ + p * 3 + 1, none⟩ = some (.int .i64 py) ∧ V.cell? ⟨gp, op_ + p * 3 + 2, none⟩ = some (.int .i64 pz) ∧ V.cell? ⟨gq, oq + j * 3, none⟩ = some (.int .i64 qx) ∧ V.cell? ⟨gq, oq + j * 3 + 1, none⟩ = some (.int .i64 qy) ∧ V.cell? ⟨gq, oq + j * 3 + 2, none⟩ = some (.int .i64 qz) from fun V HB => ⟨(HB.out.cell (p := ⟨w.heap.size, 0, none⟩) (l0)).trans x0, (HB.out.cell (p := ⟨w.heap.size + 1, 0, none⟩) (l1_)).trans y0, (HB.out.cell (p := ⟨gp, op_ + p * 3, none⟩) (lgp)).trans e0, (HB.out.cell (p := ⟨gp, op_ + p * 3 + 1, none⟩) (lgp)).trans e1, (HB.out.cell (p := ⟨gp, op_ + p * 3 + 2, none⟩) (lgp)).trans e2, (HB.out.cell (p := ⟨gq, oq + j * 3, none⟩) (lgq)).trans f0, (HB.out.cell (p := ⟨gq, oq + j * 3 + 1, none⟩) (lgq)).trans f1, (HB.out.cell (p := ⟨gq, oq + j * 3 + 2, none⟩) (lgq)).trans f2⟩)
                    refine start_ (n := 14) (S := fun w' => w'.cell? ⟨w.heap.size, 0, none⟩ = some (.slice (some ⟨gp, op_, none⟩) np c0) ∧ w'.cell? ⟨w.heap.size + 1, 0, none⟩ = some (.slice (some ⟨gq, oq, none⟩) mp d0) ∧ w'.cell? ⟨gp, op_ + p * 3, none⟩ = some (.int .i64 px) ∧ w'.cell? ⟨gp, op_ + p * 3 + 1, none⟩ = some (.int .i64 py) ∧ w'.cell? ⟨gp, op_ + p * 3 + 2, none⟩ = some (.int .i64 pz) ∧ w'.cell? ⟨gq, oq + j * 3, none⟩ = some (.int .i64 qx) ∧ w'.cell? ⟨gq, oq + j * 3 + 1, none⟩ = some (.int .i64 qy) ∧ w'.cell? ⟨gq, oq + j * 3 + 2, none⟩ = some (.int .i64 qz)) (ds := []) (MT 0 14) (by kernel_rfl) rfl rfl (FF.out _ HB) (fun hHeld => ?_)
                    obtain ⟨wd, hwd⟩ : ∃ x, wq.drew = x := ⟨_, rfl⟩
                    rw [hwd] at HB hHeld ⊢
                    clear hwd
                    refine pu_ 0 85 (h := ?_)
                    refine pu_ 2 87 (h := ?_)
                    refine pu_ 5 90 (h := ?_)
                    refine pu_ 7 92 (h := ?_)
                    refine ta_ 1 86 hHeld (h := ?_)
                    refine pu_ 3 88 (h := ?_)
                    refine ta_ 4 89 hHeld (h := ?_)
                    refine ta_ 6 91 hHeld (h := ?_)
                    refine pu_ 8 93 (h := ?_)
                    refine ta_ 9 94 hHeld (h := ?_)
                    refine join_ (σ := Nat) 1 (MT 13 1) (fun s => [(11, .pointer (some ⟨s, 0, none⟩)), (95, aP ⟨mx_, my_, mz_⟩), (96, aP ⟨dx, dy, dz⟩)]) (fun s w' => wq.heap.size ≤ s ∧ w'.heap[s]? = some (.cells #[.int .i64 0, .int .i64 0, .int .i64 0] 23 (0, 0)) ∧ Below (wq.heap.size) wq w') ?_ ?_
                    rotate_left
                    · intro hCont
                      refine two_ (i := 10) (j := 12) (Ni := some 95) (Nj := some 11) (MT 11 3) #[true, true, true, true, true, true, true, true, true, true, false, false, true, false] rfl rfl rfl rfl (by kernel_rfl) (by decide) (by decide) (fun K hK => ?_) (fun K hK => ?_)
                      · skip
                        refine goes_ Try.func23 (by kernel_rfl) rfl #[aP ⟨qx, qy, qz⟩, aP ⟨px, py, pz⟩] (by rfl) rfl rfl (by simp only [List.map_toArray, List.map_cons, List.map_nil]; rfl) ?_
                        with_reducible refine (HM.out _).mono ?_
                        rintro en w7 ⟨rfl, hb⟩
                        have HB := Lib.hid (HB.out.trans (hb.mono (Nat.le_trans (Nat.le_refl _) HB.out.size)))
                        clear hb
                        refine ⟨_, rfl, ?_⟩
                        refine hK.out _ _ (FF.out _ HB) (fun hHeld => ?_)
                        clear hK K
                        refine no_ (h := ?_)
                        refine two_ (i := 11) (j := 12) (Ni := some 96) (Nj := some 11) (MT 12 2) #[true, true, true, true, true, true, true, true, true, true, true, false, true, false] rfl rfl rfl rfl (by kernel_rfl) (by decide) (by decide) (fun K hK => ?_) (fun K hK => ?_)
                        · skip
                          refine goes_ Try.func81 (by kernel_rfl) rfl #[aP ⟨mx_, my_, mz_⟩] (by rfl) rfl rfl (by simp only [List.map_toArray, List.map_cons, List.map_nil]; rfl) ?_
                          with_reducible refine (HSH.out _).mono ?_
                          rintro en w7 ⟨rfl, hb⟩
                          have HB := Lib.hid (HB.out.trans (hb.mono (Nat.le_trans (Nat.le_refl _) HB.out.size)))
                          clear hb
                          refine ⟨_, rfl, ?_⟩
                          refine hK.out _ _ (FF.out _ HB) (fun hHeld => ?_)
                          clear hK K
                          refine no_ (h := ?_)
                          refine on_ 12 (some 11) (h := fun K hK => ?_)
                          refine value_ (w1 := ?_) (v := ?_) (by rfl) rfl ?_ ?_
                          rotate_left 2
                          · go_simp
                            constructor
                            · rfl
                            · rfl
                          have HA := Lib.hid (ha_new HB.out (.cells #[.int .i64 0, .int .i64 0, .int .i64 0] 23))
                          have hge := HB.out.size
                          have HB := Lib.hid (HB.out.alloc (Nat.le_trans (Nat.le_refl _) HB.out.size) (.cells #[.int .i64 0, .int .i64 0, .int .i64 0] 23))
                          refine hK.out _ _ (FF.out _ HB) (fun hHeld => ?_)
                          clear hK K
                          refine no_ (h := ?_)
                          exact norm_ (by simp only [putAll, Act.put, List.setIfInBounds_toArray, List.set_cons_zero, List.set_cons_succ]) (hCont _ _ ⟨hge, HA.out, HB.out⟩)
                        · skip
                          refine value_ (w1 := ?_) (v := ?_) (by rfl) rfl ?_ ?_
                          rotate_left 2
                          · go_simp
                            constructor
                            · rfl
                            · rfl
                          have HA := Lib.hid (ha_new HB.out (.cells #[.int .i64 0, .int .i64 0, .int .i64 0] 23))
                          have hge := HB.out.size
                          have HB := Lib.hid (HB.out.alloc (Nat.le_trans (Nat.le_refl _) HB.out.size) (.cells #[.int .i64 0, .int .i64 0, .int .i64 0] 23))
                          refine hK.out _ _ (FF.out _ HB) (fun hHeld => ?_)
                          clear hK K
                          refine no_ (h := ?_)
                          refine on_ 11 (some 96) (h := fun K hK => ?_)
                          refine goes_ Try.func81 (by kernel_rfl) rfl #[aP ⟨mx_, my_, mz_⟩] (by rfl) rfl rfl (by simp only [List.map_toArray, List.map_cons, List.map_nil]; rfl) ?_
                          with_reducible refine (HSH.out _).mono ?_
                          rintro en w7 ⟨rfl, hb⟩
                          have HB := Lib.hid (HB.out.trans (hb.mono (Nat.le_trans (Nat.le_refl _) HB.out.size)))
                          have HA := Lib.hid ((hb.block _ (blk_lt HA.out)).trans HA.out)
                          clear hb
                          refine ⟨_, rfl, ?_⟩
                          refine hK.out _ _ (FF.out _ HB) (fun hHeld => ?_)
                          clear hK K
                          refine no_ (h := ?_)
                          exact norm_ (by simp only [putAll, Act.put, List.setIfInBounds_toArray, List.set_cons_zero, List.set_cons_succ]) (hCont _ _ ⟨hge, HA.out, HB.out⟩)
                      · skip
                        refine value_ (w1 := ?_) (v := ?_) (by rfl) rfl ?_ ?_
                        rotate_left 2
                        · go_simp
                          constructor
                          · rfl
                          · rfl
                        have HA := Lib.hid (ha_new HB.out (.cells #[.int .i64 0, .int .i64 0, .int .i64 0] 23))
                        have hge := HB.out.size
                        have HB := Lib.hid (HB.out.alloc (Nat.le_trans (Nat.le_refl _) HB.out.size) (.cells #[.int .i64 0, .int .i64 0, .int .i64 0] 23))
                        refine hK.out _ _ (FF.out _ HB) (fun hHeld => ?_)
                        clear hK K
                        refine no_ (h := ?_)
                        refine on_ 10 (some 95) (h := fun K hK => ?_)
                        refine goes_ Try.func23 (by kernel_rfl) rfl #[aP ⟨qx, qy, qz⟩, aP ⟨px, py, pz⟩] (by rfl) rfl rfl (by simp only [List.map_toArray, List.map_cons, List.map_nil]; rfl) ?_
                        with_reducible refine (HM.out _).mono ?_
                        rintro en w7 ⟨rfl, hb⟩
                        have HB := Lib.hid (HB.out.trans (hb.mono (Nat.le_trans (Nat.le_refl _) HB.out.size)))
                        have HA := Lib.hid ((hb.block _ (blk_lt HA.out)).trans HA.out)
                        clear hb
                        refine ⟨_, rfl, ?_⟩
                        refine hK.out _ _ (FF.out _ HB) (fun hHeld => ?_)
                        clear hK K
                        refine no_ (h := ?_)
                        refine on_ 11 (some 96) (h := fun K hK => ?_)
                        refine goes_ Try.func81 (by kernel_rfl) rfl #[aP ⟨mx_, my_, mz_⟩] (by rfl) rfl rfl (by simp only [List.map_toArray, List.map_cons, List.map_nil]; rfl) ?_
                        with_reducible refine (HSH.out _).mono ?_
                        rintro en w7 ⟨rfl, hb⟩
                        have HB := Lib.hid (HB.out.trans (hb.mono (Nat.le_trans (Nat.le_refl _) HB.out.size)))
                        have HA := Lib.hid ((hb.block _ (blk_lt HA.out)).trans HA.out)
                        clear hb
                        refine ⟨_, rfl, ?_⟩
                        refine hK.out _ _ (FF.out _ HB) (fun hHeld => ?_)
                        clear hK K
                        refine no_ (h := ?_)
                        exact norm_ (by simp only [putAll, Act.put, List.setIfInBounds_toArray, List.set_cons_zero, List.set_cons_succ]) (hCont _ _ ⟨hge, HA.out, HB.out⟩)
                    rintro DB wj ⟨hge, HA, HB⟩
                    have HA := Lib.hid HA
                    have HB := Lib.hid HB
                    have hHeld : wj.cell? ⟨w.heap.size, 0, none⟩ = some (.slice (some ⟨gp, op_, none⟩) np c0) ∧ wj.cell? ⟨w.heap.size + 1, 0, none⟩ = some (.slice (some ⟨gq, oq, none⟩) mp d0) ∧ wj.cell? ⟨gp, op_ + p * 3, none⟩ = some (.int .i64 px) ∧ wj.cell? ⟨gp, op_ + p * 3 + 1, none⟩ = some (.int .i64 py) ∧ wj.cell? ⟨gp, op_ + p * 3 + 2, none⟩ = some (.int .i64 pz) ∧ wj.cell? ⟨gq, oq + j * 3, none⟩ = some (.int .i64 qx) ∧ wj.cell? ⟨gq, oq + j * 3 + 1, none⟩ = some (.int .i64 qy) ∧ wj.cell? ⟨gq, oq + j * 3 + 2, none⟩ = some (.int .i64 qz) := (FF.out _ HB)
                    refine no_ (h := ?_)
                    refine on_ 13 (none) (h := fun K hK => ?_)
                    have sc0 : World.cell? _ ⟨DB, 0, none⟩ = some (.int .i64 0) := (blk_cell HA.out 0).trans rfl
                    have sf0 := blk_frozen HA.out 0
                    have sc1 : World.cell? _ ⟨DB, 1, none⟩ = some (.int .i64 0) := (blk_cell HA.out 1).trans rfl
                    have sf1 := blk_frozen HA.out 1
                    have sc2 : World.cell? _ ⟨DB, 2, none⟩ = some (.int .i64 0) := (blk_cell HA.out 2).trans rfl
                    have sf2 := blk_frozen HA.out 2
                    refine skip_ (w1 := ?_) (by rfl) rfl ?_ ?_
                    rotate_left
                    · go_simp
                      rfl
                    have HA := Lib.hid (bs3 HA.out (.int .i64 dx) (.int .i64 dy) (.int .i64 dz))
                    have HB := Lib.hid (bb3 HB.out (Nat.le_trans (Nat.le_refl _) hge) (.int .i64 dx) (.int .i64 dy) (.int .i64 dz))
                    clear sc0 sf0 sc1 sf1 sc2 sf2
                    refine hK.out _ _ (FF.out _ HB) (fun hHeld => ?_)
                    clear hK K
                    refine done_ (by kernel_rfl) ?_
                    obtain ⟨w6, hwn⟩ : ∃ V, (((wj.setCell ⟨DB, 0, none⟩ (.int .i64 dx)).setCell ⟨DB, 1, none⟩ (.int .i64 dy)).setCell ⟨DB, 2, none⟩ (.int .i64 dz)) = V := ⟨_, rfl⟩
                    rw [hwn] at HA HB ⊢
                    clear hwn
                    have hS6 := Lib.hid (hS.out.more HB.out hge (blk_lt HA.out))
                    have hR6 := Lib.hid (hR.out.below HB.out)
                    have hA6 := HA
                    clear hS hR HB HA hge x0 l0 y0 l1_ e0 e1 e2 f0 f1 f2 t1 t2 lgq lgp hHeld
                    have s0 : w6.cell? ⟨DB, 0, none⟩ = some (.int .i64 dx) := (blk_cell hA6.out 0).trans rfl
                    have s1 : w6.cell? ⟨DB, 1, none⟩ = some (.int .i64 dy) := (blk_cell hA6.out 1).trans rfl
                    have s2 : w6.cell? ⟨DB, 2, none⟩ = some (.int .i64 dz) := (blk_cell hA6.out 2).trans rfl
                    have lDB : DB < w6.heap.size := blk_lt hA6.out
                    have b7 := (Below.refl w6.heap.size w6).alloc (Nat.le_refl _) (.cells #[.int .i64 dx, .int .i64 dy, .int .i64 dz] 23)
                    have hS7 := Lib.hid (hS6.out.grown b7)
                    have hR7 := Lib.hid (hR6.out.below b7)
                    have hA7 := Lib.hid ((b7.block _ lDB).trans hA6.out)
                    have hD7 := Lib.hid (Rd_one (heap_alloc_new w6 (.cells #[.int .i64 dx, .int .i64 dy, .int .i64 dz] 23))).1
                    clear b7 hS6 hR6
                    go_wp2_with (at_builtin; refine appL_ w1.heap.size rfl _ _ rfl _ _ [⟨dx, dy, dz⟩] _ _ _ rfl rfl hS7.out.own hD7.out rfl (by have := HL2.out; simp; omega) hS7.out.below.size ?_; intro v8 w8 hv hg hat; have hS8 := Lib.hid ((hS7.out.app hv hg hat).len (pt3_start L1 pa pb es p j ⟨dx, dy, dz⟩)); have hR8 := Lib.hid (hR7.out.keep hS7.out (fun k hk => List.mem_cons_of_mem _ hk) hg); have hA8 := Lib.hid (hS7.out.blk hg List.mem_cons_self hA7.out); clear hv hg hat s0 s1 s2 lDB)
                    clear hS7 hR7 hA7 hD7 hA6
                    go_loopw [5, 12, 13] (fun v5 v12 v13 wr => ∃ m : Nat, m ≤ ns ∧ v12 = .int .i64 m ∧ Hid (CSt w1 wr v5 (pt3 L1 pa pb es p j ⟨dx, dy, dz⟩ m) (DB :: keepA A8)) ∧ Hid (RdB wr A8 es) ∧ Hid (wr.heap[DB]? = some (.cells #[.int .i64 dx, .int .i64 dy, .int .i64 dz] 23 (0, 0)))) (fun _ i _ _ => ns - (intOf i).toNat)
                    case atStart => exact ⟨0, by omega, rfl, hS8, hR8, hA8⟩
                    case round =>
                      clear hS8 hR8 hA8
                      obtain ⟨m, hm, rfl, hS, hR, hAD⟩ := hrel
                      obtain ⟨wq, hwq⟩ : ∃ x : World, x = wr := ⟨_, rfl⟩
                      subst hwq
                      have hn8 : ns ≤ 256 := by rw [← NS.out]; exact N8.out
                      by_cases hlm : m < ns
                      · have hml : m < es.length := by rw [NS.out]; exact hlm
                        obtain ⟨ge, oe, rfl, lge, e0, e1, e2⟩ := hR.out.1.get m hml
                        have hEI := HE8.out _ (List.getElem_mem hml)
                        have hST := pt3_step L1 pa pb es p j ⟨dx, dy, dz⟩ m hml
                        obtain ⟨E, hE⟩ : ∃ e, es[m] = e := ⟨_, rfl⟩
                        have HEM := Lib.hid hE
                        rw [hE] at e0 e1 e2 hEI hST
                        have HX1 := (fun W => rcross_calls E ⟨dx, dy, dz⟩ W)
                        have hI1 := cross_in hEI HDI.out
                        obtain ⟨C1, hC1⟩ : ∃ e, cross3 E ⟨dx, dy, dz⟩ = e := ⟨_, rfl⟩
                        rw [hC1] at HX1 hI1 hST
                        have HS1 := (fun W => rshort_calls C1 W hI1)
                        obtain ⟨X, hX⟩ : ∃ e, short3 C1 = e := ⟨_, rfl⟩
                        rw [hX] at HS1 hST
                        have HX2 := (fun W => rcross_calls X E W)
                        obtain ⟨U, hU⟩ : ∃ e, cross3 X E = e := ⟨_, rfl⟩
                        rw [hU] at HX2 hST
                        obtain ⟨ex, ey, ez⟩ := E
                        obtain ⟨c1x, c1y, c1z⟩ := C1
                        obtain ⟨xx, xy, xz⟩ := X
                        obtain ⟨ux, uy, uz⟩ := U
                        simp only at e0 e1 e2
                        have HX1 := Lib.hid HX1
                        have HS1 := Lib.hid HS1
                        have HX2 := Lib.hid HX2
                        have HST := Lib.hid hST
                        have s0 : wq.cell? ⟨DB, 0, none⟩ = some (.int .i64 dx) := (blk_cell hAD.out 0).trans rfl
                        have s1 : wq.cell? ⟨DB, 1, none⟩ = some (.int .i64 dy) := (blk_cell hAD.out 1).trans rfl
                        have s2 : wq.cell? ⟨DB, 2, none⟩ = some (.int .i64 dz) := (blk_cell hAD.out 2).trans rfl
                        have lDB : DB < wq.heap.size := blk_lt hAD.out
                        have t1 : (m : Int) < (ns : Int) := by omega
                        clear hE hC1 hX hU hEI hI1 hST
                        go_wp2
                        have HB := Lib.hid ((Below.refl (wq.heap.size) wq).drew)
                        have FF := Lib.hid (show ∀ V, Hid (Below (wq.heap.size) wq V) → V.cell? ⟨ge, oe + m * 3, none⟩ = some (.int .i64 ex) ∧ V.cell? ⟨ge, oe + m * 3 + 1, none⟩ = some (.int .i64 ey) ∧ V.cell? ⟨ge, oe + m * 3 + 2, none⟩ = some (.int .i64 ez) ∧ V.cell? ⟨DB, 0, none⟩ = some (.int .i64 dx) ∧ V.cell? ⟨DB, 1, none⟩ = some (.int .i64 dy) ∧ V.cell? ⟨DB, 2, none⟩ = some (.int .i64 dz) from fun V HB => ⟨(HB.out.cell (p := ⟨ge, oe + m * 3, none⟩) (lge)).trans e0, (HB.out.cell (p := ⟨ge, oe + m * 3 + 1, none⟩) (lge)).trans e1, (HB.out.cell (p := ⟨ge, oe + m * 3 + 2, none⟩) (lge)).trans e2, (HB.out.cell (p := ⟨DB, 0, none⟩) (lDB)).trans s0, (HB.out.cell (p := ⟨DB, 1, none⟩) (lDB)).trans s1, (HB.out.cell (p := ⟨DB, 2, none⟩) (lDB)).trans s2⟩)
                        refine start_ (n := 9) (S := fun w' => w'.cell? ⟨ge, oe + m * 3, none⟩ = some (.int .i64 ex) ∧ w'.cell? ⟨ge, oe + m * 3 + 1, none⟩ = some (.int .i64 ey) ∧ w'.cell? ⟨ge, oe + m * 3 + 2, none⟩ = some (.int .i64 ez) ∧ w'.cell? ⟨DB, 0, none⟩ = some (.int .i64 dx) ∧ w'.cell? ⟨DB, 1, none⟩ = some (.int .i64 dy) ∧ w'.cell? ⟨DB, 2, none⟩ = some (.int .i64 dz)) (ds := []) (MT 0 9) (by kernel_rfl) rfl rfl (FF.out _ HB) (fun hHeld => ?_)
                        obtain ⟨wd, hwd⟩ : ∃ x, wq.drew = x := ⟨_, rfl⟩
                        rw [hwd] at HB hHeld ⊢
                        clear hwd
                        refine pu_ 0 107 (h := ?_)
                        refine pu_ 1 108 (h := ?_)
                        refine pu_ 2 109 (h := ?_)
                        refine ta_ 3 110 hHeld (h := ?_)
                        refine ta_ 4 111 hHeld (h := ?_)
                        refine join_ (σ := Nat) 1 (MT 8 1) (fun s => [(13, .pointer (some ⟨s, 0, none⟩)), (112, aP ⟨c1x, c1y, c1z⟩), (113, aP ⟨xx, xy, xz⟩)]) (fun s w' => wq.heap.size ≤ s ∧ w'.heap[s]? = some (.cells #[.int .i64 0, .int .i64 0, .int .i64 0] 23 (0, 0)) ∧ Below (wq.heap.size) wq w') ?_ ?_
                        rotate_left
                        · intro hCont
                          refine two_ (i := 5) (j := 7) (Ni := some 112) (Nj := some 13) (MT 6 3) #[true, true, true, true, true, false, false, true, false] rfl rfl rfl rfl (by kernel_rfl) (by decide) (by decide) (fun K hK => ?_) (fun K hK => ?_)
                          · skip
                            refine goes_ Try.func82 (by kernel_rfl) rfl #[aP ⟨ex, ey, ez⟩, aP ⟨dx, dy, dz⟩] (by rfl) rfl rfl (by simp only [List.map_toArray, List.map_cons, List.map_nil]; rfl) ?_
                            with_reducible refine (HX1.out _).mono ?_
                            rintro en w7 ⟨rfl, hb⟩
                            have HB := Lib.hid (HB.out.trans (hb.mono (Nat.le_trans (Nat.le_refl _) HB.out.size)))
                            clear hb
                            refine ⟨_, rfl, ?_⟩
                            refine hK.out _ _ (FF.out _ HB) (fun hHeld => ?_)
                            clear hK K
                            refine no_ (h := ?_)
                            refine two_ (i := 6) (j := 7) (Ni := some 113) (Nj := some 13) (MT 7 2) #[true, true, true, true, true, true, false, true, false] rfl rfl rfl rfl (by kernel_rfl) (by decide) (by decide) (fun K hK => ?_) (fun K hK => ?_)
                            · skip
                              refine goes_ Try.func81 (by kernel_rfl) rfl #[aP ⟨c1x, c1y, c1z⟩] (by rfl) rfl rfl (by simp only [List.map_toArray, List.map_cons, List.map_nil]; rfl) ?_
                              with_reducible refine (HS1.out _).mono ?_
                              rintro en w7 ⟨rfl, hb⟩
                              have HB := Lib.hid (HB.out.trans (hb.mono (Nat.le_trans (Nat.le_refl _) HB.out.size)))
                              clear hb
                              refine ⟨_, rfl, ?_⟩
                              refine hK.out _ _ (FF.out _ HB) (fun hHeld => ?_)
                              clear hK K
                              refine no_ (h := ?_)
                              refine on_ 7 (some 13) (h := fun K hK => ?_)
                              refine value_ (w1 := ?_) (v := ?_) (by rfl) rfl ?_ ?_
                              rotate_left 2
                              · go_simp
                                constructor
                                · rfl
                                · rfl
                              have HA := Lib.hid (ha_new HB.out (.cells #[.int .i64 0, .int .i64 0, .int .i64 0] 23))
                              have hge := HB.out.size
                              have HB := Lib.hid (HB.out.alloc (Nat.le_trans (Nat.le_refl _) HB.out.size) (.cells #[.int .i64 0, .int .i64 0, .int .i64 0] 23))
                              refine hK.out _ _ (FF.out _ HB) (fun hHeld => ?_)
                              clear hK K
                              refine no_ (h := ?_)
                              exact norm_ (by simp only [putAll, Act.put, List.setIfInBounds_toArray, List.set_cons_zero, List.set_cons_succ]) (hCont _ _ ⟨hge, HA.out, HB.out⟩)
                            · skip
                              refine value_ (w1 := ?_) (v := ?_) (by rfl) rfl ?_ ?_
                              rotate_left 2
                              · go_simp
                                constructor
                                · rfl
                                · rfl
                              have HA := Lib.hid (ha_new HB.out (.cells #[.int .i64 0, .int .i64 0, .int .i64 0] 23))
                              have hge := HB.out.size
                              have HB := Lib.hid (HB.out.alloc (Nat.le_trans (Nat.le_refl _) HB.out.size) (.cells #[.int .i64 0, .int .i64 0, .int .i64 0] 23))
                              refine hK.out _ _ (FF.out _ HB) (fun hHeld => ?_)
                              clear hK K
                              refine no_ (h := ?_)
                              refine on_ 6 (some 113) (h := fun K hK => ?_)
                              refine goes_ Try.func81 (by kernel_rfl) rfl #[aP ⟨c1x, c1y, c1z⟩] (by rfl) rfl rfl (by simp only [List.map_toArray, List.map_cons, List.map_nil]; rfl) ?_
                              with_reducible refine (HS1.out _).mono ?_
                              rintro en w7 ⟨rfl, hb⟩
                              have HB := Lib.hid (HB.out.trans (hb.mono (Nat.le_trans (Nat.le_refl _) HB.out.size)))
                              have HA := Lib.hid ((hb.block _ (blk_lt HA.out)).trans HA.out)
                              clear hb
                              refine ⟨_, rfl, ?_⟩
                              refine hK.out _ _ (FF.out _ HB) (fun hHeld => ?_)
                              clear hK K
                              refine no_ (h := ?_)
                              exact norm_ (by simp only [putAll, Act.put, List.setIfInBounds_toArray, List.set_cons_zero, List.set_cons_succ]) (hCont _ _ ⟨hge, HA.out, HB.out⟩)
                          · skip
                            refine value_ (w1 := ?_) (v := ?_) (by rfl) rfl ?_ ?_
                            rotate_left 2
                            · go_simp
                              constructor
                              · rfl
                              · rfl
                            have HA := Lib.hid (ha_new HB.out (.cells #[.int .i64 0, .int .i64 0, .int .i64 0] 23))
                            have hge := HB.out.size
                            have HB := Lib.hid (HB.out.alloc (Nat.le_trans (Nat.le_refl _) HB.out.size) (.cells #[.int .i64 0, .int .i64 0, .int .i64 0] 23))
                            refine hK.out _ _ (FF.out _ HB) (fun hHeld => ?_)
                            clear hK K
                            refine no_ (h := ?_)
                            refine on_ 5 (some 112) (h := fun K hK => ?_)
                            refine goes_ Try.func82 (by kernel_rfl) rfl #[aP ⟨ex, ey, ez⟩, aP ⟨dx, dy, dz⟩] (by rfl) rfl rfl (by simp only [List.map_toArray, List.map_cons, List.map_nil]; rfl) ?_
                            with_reducible refine (HX1.out _).mono ?_
                            rintro en w7 ⟨rfl, hb⟩
                            have HB := Lib.hid (HB.out.trans (hb.mono (Nat.le_trans (Nat.le_refl _) HB.out.size)))
                            have HA := Lib.hid ((hb.block _ (blk_lt HA.out)).trans HA.out)
                            clear hb
                            refine ⟨_, rfl, ?_⟩
                            refine hK.out _ _ (FF.out _ HB) (fun hHeld => ?_)
                            clear hK K
                            refine no_ (h := ?_)
                            refine on_ 6 (some 113) (h := fun K hK => ?_)
                            refine goes_ Try.func81 (by kernel_rfl) rfl #[aP ⟨c1x, c1y, c1z⟩] (by rfl) rfl rfl (by simp only [List.map_toArray, List.map_cons, List.map_nil]; rfl) ?_
                            with_reducible refine (HS1.out _).mono ?_
                            rintro en w7 ⟨rfl, hb⟩
                            have HB := Lib.hid (HB.out.trans (hb.mono (Nat.le_trans (Nat.le_refl _) HB.out.size)))
                            have HA := Lib.hid ((hb.block _ (blk_lt HA.out)).trans HA.out)
                            clear hb
                            refine ⟨_, rfl, ?_⟩
                            refine hK.out _ _ (FF.out _ HB) (fun hHeld => ?_)
                            clear hK K
                            refine no_ (h := ?_)
                            exact norm_ (by simp only [putAll, Act.put, List.setIfInBounds_toArray, List.set_cons_zero, List.set_cons_succ]) (hCont _ _ ⟨hge, HA.out, HB.out⟩)
                        rintro AB wj ⟨hge, HA, HB⟩
                        have HA := Lib.hid HA
                        have HB := Lib.hid HB
                        have hHeld : wj.cell? ⟨ge, oe + m * 3, none⟩ = some (.int .i64 ex) ∧ wj.cell? ⟨ge, oe + m * 3 + 1, none⟩ = some (.int .i64 ey) ∧ wj.cell? ⟨ge, oe + m * 3 + 2, none⟩ = some (.int .i64 ez) ∧ wj.cell? ⟨DB, 0, none⟩ = some (.int .i64 dx) ∧ wj.cell? ⟨DB, 1, none⟩ = some (.int .i64 dy) ∧ wj.cell? ⟨DB, 2, none⟩ = some (.int .i64 dz) := (FF.out _ HB)
                        refine no_ (h := ?_)
                        refine on_ 8 (none) (h := fun K hK => ?_)
                        have sc0 : World.cell? _ ⟨AB, 0, none⟩ = some (.int .i64 0) := (blk_cell HA.out 0).trans rfl
                        have sf0 := blk_frozen HA.out 0
                        have sc1 : World.cell? _ ⟨AB, 1, none⟩ = some (.int .i64 0) := (blk_cell HA.out 1).trans rfl
                        have sf1 := blk_frozen HA.out 1
                        have sc2 : World.cell? _ ⟨AB, 2, none⟩ = some (.int .i64 0) := (blk_cell HA.out 2).trans rfl
                        have sf2 := blk_frozen HA.out 2
                        refine skip_ (w1 := ?_) (by rfl) rfl ?_ ?_
                        rotate_left
                        · go_simp
                          rfl
                        have HA := Lib.hid (bs3 HA.out (.int .i64 xx) (.int .i64 xy) (.int .i64 xz))
                        have HB := Lib.hid (bb3 HB.out (Nat.le_trans (Nat.le_refl _) hge) (.int .i64 xx) (.int .i64 xy) (.int .i64 xz))
                        clear sc0 sf0 sc1 sf1 sc2 sf2
                        refine hK.out _ _ (FF.out _ HB) (fun hHeld => ?_)
                        clear hK K
                        refine done_ (by kernel_rfl) ?_
                        obtain ⟨w9, hwn⟩ : ∃ V, (((wj.setCell ⟨AB, 0, none⟩ (.int .i64 xx)).setCell ⟨AB, 1, none⟩ (.int .i64 xy)).setCell ⟨AB, 2, none⟩ (.int .i64 xz)) = V := ⟨_, rfl⟩
                        rw [hwn] at HA HB ⊢
                        clear hwn
                        have hS9 := Lib.hid (hS.out.grown HB.out)
                        have hR9 := Lib.hid (hR.out.below HB.out)
                        have hA9 := Lib.hid ((HB.out.block _ lDB).trans hAD.out)
                        have hX9 := HA
                        clear hS hR hAD s0 s1 s2 e0 e1 e2 lge lDB HX1 HS1 hge HB HA hHeld
                        have hE9 := hR9.out.1.get m hml
                        rw [HEM.out] at hE9
                        obtain ⟨ge', oe', hA, lge, e0, e1, e2⟩ := hE9
                        simp only [Option.some.injEq, Addr.mk.injEq, and_true] at hA
                        obtain ⟨rfl, rfl⟩ := hA
                        simp only at e0 e1 e2
                        have s0 : w9.cell? ⟨AB, 0, none⟩ = some (.int .i64 xx) := (blk_cell hX9.out 0).trans rfl
                        have s1 : w9.cell? ⟨AB, 1, none⟩ = some (.int .i64 xy) := (blk_cell hX9.out 1).trans rfl
                        have s2 : w9.cell? ⟨AB, 2, none⟩ = some (.int .i64 xz) := (blk_cell hX9.out 2).trans rfl
                        have lAB : AB < w9.heap.size := blk_lt hX9.out
                        have HL4 := Lib.hid (HL3.out m)
                        obtain ⟨LL, hLL⟩ : ∃ l, pt3 L1 pa pb es p j ⟨dx, dy, dz⟩ m = l := ⟨_, rfl⟩
                        rw [hLL] at hS9 HST HL4
                        clear hLL
                        go_wp2
                        have HB := Lib.hid ((Below.refl (w9.heap.size) w9).drew)
                        have FF := Lib.hid (show ∀ V, Hid (Below (w9.heap.size) w9 V) → V.cell? ⟨AB, 0, none⟩ = some (.int .i64 xx) ∧ V.cell? ⟨AB, 1, none⟩ = some (.int .i64 xy) ∧ V.cell? ⟨AB, 2, none⟩ = some (.int .i64 xz) ∧ V.cell? ⟨ge, oe + m * 3, none⟩ = some (.int .i64 ex) ∧ V.cell? ⟨ge, oe + m * 3 + 1, none⟩ = some (.int .i64 ey) ∧ V.cell? ⟨ge, oe + m * 3 + 2, none⟩ = some (.int .i64 ez) from fun V HB => ⟨(HB.out.cell (p := ⟨AB, 0, none⟩) (lAB)).trans s0, (HB.out.cell (p := ⟨AB, 1, none⟩) (lAB)).trans s1, (HB.out.cell (p := ⟨AB, 2, none⟩) (lAB)).trans s2, (HB.out.cell (p := ⟨ge, oe + m * 3, none⟩) (lge)).trans e0, (HB.out.cell (p := ⟨ge, oe + m * 3 + 1, none⟩) (lge)).trans e1, (HB.out.cell (p := ⟨ge, oe + m * 3 + 2, none⟩) (lge)).trans e2⟩)
                        refine start_ (n := 10) (S := fun w' => w'.cell? ⟨AB, 0, none⟩ = some (.int .i64 xx) ∧ w'.cell? ⟨AB, 1, none⟩ = some (.int .i64 xy) ∧ w'.cell? ⟨AB, 2, none⟩ = some (.int .i64 xz) ∧ w'.cell? ⟨ge, oe + m * 3, none⟩ = some (.int .i64 ex) ∧ w'.cell? ⟨ge, oe + m * 3 + 1, none⟩ = some (.int .i64 ey) ∧ w'.cell? ⟨ge, oe + m * 3 + 2, none⟩ = some (.int .i64 ez)) (ds := [8]) (MT 0 10) (by kernel_rfl) rfl rfl (FF.out _ HB) (fun hHeld => ?_)
                        obtain ⟨wd, hwd⟩ : ∃ x, w9.drew = x := ⟨_, rfl⟩
                        rw [hwd] at HB hHeld ⊢
                        clear hwd
                        refine pu_ 0 114 (h := ?_)
                        refine pu_ 2 116 (h := ?_)
                        refine pu_ 3 117 (h := ?_)
                        refine pu_ 4 118 (h := ?_)
                        refine ta_ 1 115 hHeld (h := ?_)
                        refine ta_ 5 119 hHeld (h := ?_)
                        refine on_ 6 (some 120) (h := fun K hK => ?_)
                        refine goes_ Try.func82 (by kernel_rfl) rfl #[aP ⟨xx, xy, xz⟩, aP ⟨ex, ey, ez⟩] (by rfl) rfl rfl (by simp only [List.map_toArray, List.map_cons, List.map_nil]; rfl) ?_
                        with_reducible refine (HX2.out _).mono ?_
                        rintro en w10 ⟨rfl, hb⟩
                        have HB := Lib.hid (HB.out.trans (hb.mono (Nat.le_trans (Nat.le_refl _) HB.out.size)))
                        clear hb
                        refine ⟨_, rfl, ?_⟩
                        refine hK.out _ _ (FF.out _ HB) (fun hHeld => ?_)
                        clear hK K
                        refine no_ (h := ?_)
                        refine on_ 7 (some 121) (h := fun K hK => ?_)
                        refine value_ (w1 := ?_) (v := ?_) (by rfl) rfl ?_ ?_
                        rotate_left 2
                        · go_simp
                          constructor
                          · rfl
                          · rfl
                        have HA := Lib.hid (ha_new HB.out (.cells #[.int .i64 ux, .int .i64 uy, .int .i64 uz] 23))
                        have hge := HB.out.size
                        have HB := Lib.hid (HB.out.alloc (Nat.le_trans (Nat.le_refl _) HB.out.size) (.cells #[.int .i64 ux, .int .i64 uy, .int .i64 uz] 23))
                        refine hK.out _ _ (FF.out _ HB) (fun hHeld => ?_)
                        clear hK K
                        refine no_ (h := ?_)
                        refine last_ (i := 8) (N := some 122) (MT 9 1) rfl rfl (by kernel_rfl) (by decide) (fun K hK => ?_)
                        have hS10 := hS9.out.grown HB.out
                        refine appR_ w1.heap.size (by rfl) rfl _ _ rfl _ _ [⟨ux, uy, uz⟩] _ _ _ rfl rfl hS10.own (Rd_one HA.out).1 rfl (by have := HL4.out; simp; omega) hS10.below.size ?_
                        intro v12 w12 hv hg hat
                        obtain ⟨Av, nv, cv, hvv⟩ : ∃ A n c, v12 = .slice A n c := (by obtain ⟨A, c, h, _⟩ := OwnP.rd hv; exact ⟨A, _, c, h⟩)
                        subst hvv
                        have hS11 := Lib.hid ((hS10.app hv hg hat).len HST.out)
                        have hR11 := Lib.hid ((hR9.out.below HB.out).keep hS10 (fun k hk => List.mem_cons_of_mem _ hk) hg)
                        have hA11 := Lib.hid (hS10.blk hg List.mem_cons_self ((HB.out.block _ (blk_lt hA9.out)).trans hA9.out))
                        clear hv hg hat hS10
                        refine hK.out _ _ ?_
                        clear hK K
                        refine no_ (h := ?_)
                        refine pu_ 9 5 (h := ?_)
                        refine done_ (by kernel_rfl) ?_
                        clear s0 s1 s2 lAB e0 e1 e2 lge t1
                        go_wp2
                        go_roundw
                        case rel => exact ⟨m + 1, by omega, by go_num, hS11, hR11, hA11⟩
                        case measure => simp [intOf]; omega
                      · obtain rfl : m = ns := by omega
                        have hSE := Lib.hid (hS.out.less.len (show pt3 L1 pa pb es p j ⟨dx, dy, dz⟩ m = pt2 L1 pa pb es p (j + 1) by rw [← HEND.out, NS.out]))
                        clear hS
                        go_wp2
                        go_roundw
                        case rel => exact ⟨j + 1, by omega, by go_num, hSE, hR⟩
                        case measure => simp [intOf]; omega
                  · obtain rfl : j = mp := by omega
                    have hSE := Lib.hid (hS.out.len (show pt2 L1 pa pb es p j = pt2 L1 pa pb es (p + 1) 0 by rw [← pt2_end L1 pa pb es p hpl, MP.out]))
                    clear hS x0 l0
                    go_wp2
                    go_roundw
                    case rel => exact ⟨p + 1, by omega, by go_num, hSE, hR⟩
                    case measure => simp [intOf]; omega
              · obtain rfl : p = np := by omega
                have hSE := Lib.hid (hS.out.len (show pt2 L1 pa pb es p 0 = RAW by rw [hR2.out, ← pt2_all, NP.out]))
                have hSE := Lib.hid (show CSt w1 wq _ RAW [] from ⟨hSE.out.own, hSE.out.below, by simp⟩)
                clear hS hR
                go_wp2
                go_meet
                exact hSE
        case rest =>
          clear hSE l0 x2 y0 y1 l1_ hRT HTm HL1
          obtain ⟨A5, c5, hv5, _, R5, _⟩ := OwnP.rdB2 hcut.out.own
          have BW := Lib.hid (bthen ZB.out hcut.out.below)
          subst hv5
          obtain ⟨nr, hnr⟩ : ∃ n, RAW.length = n := ⟨_, rfl⟩
          have NR := Lib.hid hnr
          have lnr : nr ≤ 34000 := by rw [← hnr]; exact HLEN.out
          rw [hnr]
          have R5 := Lib.hid R5
          have S0 := Lib.hid (CSt.start wc)
          clear hcut hnr
          go_wp2
          go_loopw [14, 15, 16] (fun v14 v15 v16 wr => ∃ k : Nat, k ≤ nr ∧ v15 = .int .i64 k ∧ Hid (CSt wc wr v14 (candF (RAW.take k)) [])) (fun _ i _ _ => nr - (intOf i).toNat)
          case atStart => exact ⟨0, by omega, rfl, S0⟩
          case round =>
            clear S0
            obtain ⟨k, hk, rfl, hS⟩ := hrel
            obtain ⟨wq, hwq⟩ : ∃ x : World, x = wr := ⟨_, rfl⟩
            subst hwq
            by_cases hlk : k < nr
            · have hkl : k < RAW.length := by rw [NR.out]; exact hlk
              obtain ⟨gr, or_, rfl, _, e0, e1, e2⟩ := (R5.out.below hS.out.below).1.get k hkl
              have hxI := HIN.out _ (List.getElem_mem hkl)
              have hNO := candF_no RAW k hkl
              have hYES := candF_yes RAW k hkl
              obtain ⟨x, hx⟩ : ∃ x, RAW[k] = x := ⟨_, rfl⟩
              rw [hx] at e0 e1 e2 hxI hNO hYES
              have HLG := Lib.hid (fun W => rlong_calls x W hxI)
              have hnI := long3_in x
              obtain ⟨n, hn⟩ : ∃ n, long3 x = n := ⟨_, rfl⟩
              rw [hn] at HLG hnI hNO hYES
              obtain ⟨xx, xy, xz⟩ := x
              obtain ⟨nx, ny, nz⟩ := n
              simp only at e0 e1 e2
              have hNO := Lib.hid hNO
              have hYES := Lib.hid hYES
              have hlen := Lib.hid (candF_len (RAW.take k))
              have hlt2 : (RAW.take k).length ≤ 34000 := by have := List.length_take_le' k RAW; have := NR.out; omega
              obtain ⟨ok, hok⟩ : ∃ l, candF (RAW.take k) = l := ⟨_, rfl⟩
              rw [hok] at hS hNO hYES hlen
              have hln : ok.length ≤ 70000 := by have := hlen.out; omega
              clear hx hn hxI hok hlt2 hlen
              go_wp2_with fail
              refine (HLG.out _).mono ?_
              rintro en w5 ⟨rfl, hb⟩
              have hS5 := Lib.hid (hS.out.grown hb)
              clear hb hS HLG e0 e1 e2
              have b6 := (Below.refl w5.heap.size w5).alloc (Nat.le_refl _) (.cells #[.int .i64 nx, .int .i64 ny, .int .i64 nz] 23)
              have a8 := heap_alloc_new w5 (.cells #[.int .i64 nx, .int .i64 ny, .int .i64 nz] 23)
              obtain ⟨w8, hw8⟩ : ∃ V, w5.alloc (.cells #[.int .i64 nx, .int .i64 ny, .int .i64 nz] 23) = V := ⟨_, rfl⟩
              rw [hw8] at b6 a8
              have hS8 := Lib.hid (hS5.out.grown b6)
              have g0 : w8.cell? ⟨w5.heap.size, 0, none⟩ = some (.int .i64 nx) := (blk_cell a8 0).trans rfl
              have g1 : w8.cell? ⟨w5.heap.size, 1, none⟩ = some (.int .i64 ny) := (blk_cell a8 1).trans rfl
              have g2 : w8.cell? ⟨w5.heap.size, 2, none⟩ = some (.int .i64 nz) := (blk_cell a8 2).trans rfl
              have lg : w5.heap.size < w8.heap.size := blk_lt a8
              have HW8 := Lib.hid hw8
              clear b6 a8 hS5 hw8
              by_cases hz : (⟨nx, ny, nz⟩ : P3) = ⟨0, 0, 0⟩
              · have he := eqP_yes hz
                have hE := Lib.hid (hNO.out hz)
                clear hz hnI
                go_wp2
                go_roundw
                case rel => exact ⟨k + 1, by omega, by go_num, by rw [hE.out]; (try rw [HW8.out]); exact hS8⟩
                case measure => simp [intOf]; omega
              · have he := eqP_no hz
                have hE := Lib.hid (hYES.out hz)
                obtain ⟨n1, n2, n3, n4, n5, n6⟩ := hnI
                simp only at n1 n2 n3 n4 n5 n6
                have f1 : wrap64 (-nx) = -nx := by unfold wrap64; omega
                have f2 : wrap64 (-ny) = -ny := by unfold wrap64; omega
                have f3 : wrap64 (-nz) = -nz := by unfold wrap64; omega
                have f4 : IntKind.i64.wrap (-nx) = -nx := iw_id _ (by omega) (by omega)
                have f5 : IntKind.i64.wrap (-ny) = -ny := iw_id _ (by omega) (by omega)
                have f6 : IntKind.i64.wrap (-nz) = -nz := iw_id _ (by omega) (by omega)
                have b9 := (Below.refl w8.heap.size w8).alloc (Nat.le_refl _) (.cells #[.int .i64 nx, .int .i64 ny, .int .i64 nz, .int .i64 (-nx), .int .i64 (-ny), .int .i64 (-nz)] 23)
                have hS9 := Lib.hid (hS8.out.grown b9)
                have hR9 := (Rd_pair (p := ⟨nx, ny, nz⟩) (q := ⟨-nx, -ny, -nz⟩) (heap_alloc_new w8 (.cells #[.int .i64 nx, .int .i64 ny, .int .i64 nz, .int .i64 (-nx), .int .i64 (-ny), .int .i64 (-nz)] 23))).1
                rw [show w8.heap.size = w5.heap.size + 1 by rw [← HW8.out]; simp] at hR9
                have hR9 := Lib.hid hR9
                clear hz b9 hS8
                go_wp2_with (at_builtin; (try rw [HW8.out]); refine appL_ wc.heap.size rfl _ _ rfl _ ok [⟨nx, ny, nz⟩, ⟨-nx, -ny, -nz⟩] _ _ _ rfl rfl hS9.out.own hR9.out rfl (by simp; omega) hS9.out.below.size ?_; intro v10 w10 hv hg hat; have hS10 := Lib.hid (hS9.out.app hv hg hat); clear hv hg hat)
                go_roundw
                case rel => exact ⟨k + 1, by omega, by go_num, by rw [hE.out]; exact hS10⟩
                case measure => simp [intOf]; omega
            · obtain rfl : k = nr := by omega
              have hE := Lib.hid (hS.out.len (show candF (RAW.take k) = candF RAW by rw [List.take_of_length_le (by rw [NR.out]; exact Nat.le_refl _)]))
              clear hS
              go_wp2
              go_ret
              obtain ⟨A, c, hv, _, hr, hk⟩ := OwnP.rdB2 hE.out.own
              exact ⟨A, c, by rw [hv]; rfl, hr, bthen BW.out hE.out.below, fun ad e => Nat.le_trans BW.out.size (hk ad e)⟩
end Go.Proofs.Ytckdhahceelckaa.G
namespace Go.Proofs.Ytckdhahceelckaa.G
open Go.RowKit Go.Proofs.YtckdhahceelckaaW.PrintWords Go.Proofs.YtckdhahceelckaaW.PrintLast Go.Proofs.YtckdhahceelckaaW.PrintMore
attribute [local go_sem] max2_mx min2_mn max_two min_two max_three min_three max_four min_four
attribute [local go_sem high] eqA23
set_option linter.unusedVariables false
set_option linter.unusedSimpArgs false
set_option maxHeartbeats 4000000 in
set_option maxRecDepth 100000 in
theorem may_F (p a e : List P3) (r : Int) (A0 A1 A2 : Option Addr) (c0 c1 c2 : Nat) (w : World) (h0 : Rd w A0 p) (h1 : Rd w A1 a) (h2 : Rd w A2 e) (k0 : p.length ≤ c0) (k1 : a.length ≤ c1) (k2 : e.length ≤ c2)
    (hp1 : 0 < p.length) (hp2 : p.length ≤ 32) (ha : a.length ≤ 128) (he : e.length ≤ 128) (hr1 : 0 ≤ r) (hr2 : r ≤ 65536) (hF : p.any (far3 16777216) = true) :
    Calls Try.prog 57 #[.agg #[.slice A0 p.length c0, .slice A1 a.length c1, .slice A2 e.length c2, .int .i64 r]] w fun e w' => e = .returned (.bool false) ∧ Below w.heap.size w w' := by
  have H0 := Lib.hid h0
  have H1 := Lib.hid h1
  have H2 := Lib.hid h2
  have HF := Lib.hid hF
  clear h0 h1 h2 hF 
  obtain ⟨np, hnp⟩ : ∃ n, p.length = n := ⟨_, rfl⟩
  obtain ⟨na, hna⟩ : ∃ n, a.length = n := ⟨_, rfl⟩
  obtain ⟨ne, hne⟩ : ∃ n, e.length = n := ⟨_, rfl⟩
  rw [hnp] at hp1 hp2 k0 ⊢
  rw [hna] at ha k1 ⊢
  rw [hne] at he k2 ⊢
  have HNP := Lib.hid hnp
  have HNA := Lib.hid hna
  have HNE := Lib.hid hne
  clear hnp hna hne
  have t1 : decide ((0 : Int) < (np : Int)) = true := by simp; omega
  have t2 : decide ((np : Int) ≤ 32) = true := by simp; omega
  have t3 : decide (mx (na : Int) (ne : Int) ≤ 128) = true := by simp [mx]; split <;> omega
  have t4 : decide (0 ≤ r) = true := by simp; omega
  have t5 : decide (r ≤ 65536) = true := by simp; omega
  have z := heap_alloc_new w (.cells #[.slice A0 np c0, .slice A1 na c1, .slice A2 ne c2, .int .i64 r] 36)
  have zb := (Below.refl _ w).alloc (Nat.le_refl _) (.cells #[.slice A0 np c0, .slice A1 na c1, .slice A2 ne c2, .int .i64 r] 36)
  obtain ⟨w1, hw1⟩ : ∃ V, w.alloc (.cells #[.slice A0 np c0, .slice A1 na c1, .slice A2 ne c2, .int .i64 r] 36) = V := ⟨_, rfl⟩
  rw [hw1] at z zb
  have hw1' := Lib.hid hw1
  have ZB := Lib.hid zb
  have lt0 : w.heap.size < w1.heap.size := blk_lt z
  clear hw1 zb
  go_enter Try.func57, Try.ntmps57
  go_wp2
  rw [hw1'.out]
  clear hw1'
  have x0 : w1.cell? ⟨w.heap.size, 0, none⟩ = some (.slice A0 np c0) := (blk_cell z 0).trans rfl
  have x1 : w1.cell? ⟨w.heap.size, 1, none⟩ = some (.slice A1 na c1) := (blk_cell z 1).trans rfl
  have x2 : w1.cell? ⟨w.heap.size, 2, none⟩ = some (.slice A2 ne c2) := (blk_cell z 2).trans rfl
  have x3 : w1.cell? ⟨w.heap.size, 3, none⟩ = some (.int .i64 r) := (blk_cell z 3).trans rfl
  have HB := Lib.hid ((Below.refl (w1.heap.size) w1).drew)
  have FF := Lib.hid (show ∀ V, Hid (Below (w1.heap.size) w1 V) → V.cell? ⟨w.heap.size, 0, none⟩ = some (.slice A0 np c0) ∧ V.cell? ⟨w.heap.size, 1, none⟩ = some (.slice A1 na c1) ∧ V.cell? ⟨w.heap.size, 2, none⟩ = some (.slice A2 ne c2) ∧ V.cell? ⟨w.heap.size, 3, none⟩ = some (.int .i64 r) from fun V HB => ⟨(HB.out.cell (p := ⟨w.heap.size, 0, none⟩) (lt0)).trans x0, (HB.out.cell (p := ⟨w.heap.size, 1, none⟩) (lt0)).trans x1, (HB.out.cell (p := ⟨w.heap.size, 2, none⟩) (lt0)).trans x2, (HB.out.cell (p := ⟨w.heap.size, 3, none⟩) (lt0)).trans x3⟩)
  refine start_ (n := 52) (S := fun w' => w'.cell? ⟨w.heap.size, 0, none⟩ = some (.slice A0 np c0) ∧ w'.cell? ⟨w.heap.size, 1, none⟩ = some (.slice A1 na c1) ∧ w'.cell? ⟨w.heap.size, 2, none⟩ = some (.slice A2 ne c2) ∧ w'.cell? ⟨w.heap.size, 3, none⟩ = some (.int .i64 r)) (ds := []) (MT 0 52) (by kernel_rfl) rfl rfl (FF.out _ HB) (fun hHeld => ?_)
  obtain ⟨wd, hwd⟩ : ∃ x, w1.drew = x := ⟨_, rfl⟩
  rw [hwd] at HB hHeld ⊢
  clear hwd
  refine pu_ 0 3 (h := ?_)
  refine ta_ 1 4 hHeld (h := ?_)
  refine pu_ 2 5 (h := ?_)
  refine pu_ 3 6 (h := ?_)
  refine pu_ 4 7 (h := ?_)
  refine pu_ 5 8 (h := ?_)
  refine ta_ 6 9 hHeld (h := ?_)
  refine pu_ 7 10 (h := ?_)
  refine pu_ 8 11 (h := ?_)
  refine pu_ 9 12 (h := ?_)
  refine pu_ 10 13 (h := ?_)
  refine pu_ 11 14 (h := ?_)
  refine pu_ 14 17 (h := ?_)
  refine ta_ 12 15 hHeld (h := ?_)
  refine pu_ 13 16 (h := ?_)
  refine ta_ 15 18 hHeld (h := ?_)
  refine pu_ 16 19 (h := ?_)
  refine pu_ 17 20 (h := ?_)
  refine pu_ 18 21 (h := ?_)
  refine pu_ 19 22 (h := ?_)
  refine pu_ 20 23 (h := ?_)
  refine pu_ 21 24 (h := ?_)
  refine ta_ 22 25 hHeld (h := ?_)
  refine pu_ 23 26 (h := ?_)
  refine pu_ 24 27 (h := ?_)
  refine pu_ 25 28 (h := ?_)
  refine pu_ 26 29 (h := ?_)
  refine ta_ 27 30 hHeld (h := ?_)
  refine pu_ 28 31 (h := ?_)
  refine pu_ 29 32 (h := ?_)
  refine pu_ 30 33 (h := ?_)
  refine pu_ 31 34 (h := ?_)
  refine ta_ 32 35 hHeld (h := ?_)
  refine on_ 33 (some 36) (h := fun K hK => ?_)
  refine goes_ Try.func65 (by kernel_rfl) rfl #[.int .i64 16777216] (by rfl) rfl rfl (by simp only [List.map_toArray, List.map_cons, List.map_nil]; rfl) ?_
  with_reducible refine (beyondE_calls _ _).mono ?_
  rintro e' w2 ⟨g, rfl, kg_, hb⟩
  have HB := Lib.hid (HB.out.trans (hb.mono (Nat.le_trans (Nat.le_refl _) HB.out.size)))
  have HGc := Lib.hid kg_
  clear kg_
  clear hb
  refine ⟨_, rfl, ?_⟩
  refine hK.out _ _ (FF.out _ HB) (fun hHeld => ?_)
  clear hK K
  refine no_ (h := ?_)
  refine on_ 34 (some 37) (h := fun K hK => ?_)
  refine goes_ Try.func68 (by kernel_rfl) rfl #[.slice A0 np c0, .func (.func 121) #[] #[.pointer (some ⟨g, 0, none⟩)]] (by rfl) rfl rfl (by simp only [List.map_toArray, List.map_cons, List.map_nil]; rfl) ?_
  with_reducible refine (contains_calls' p _ _ _ 16777216 _ true _ HNP.out HF.out (H0.out.below (bthen ZB.out HB.out)) k0 (by omega) HGc.out (by decide) (by decide)).mono ?_
  rintro e' w2 ⟨rfl, hb⟩
  have HB := Lib.hid (HB.out.trans (hb.mono (Nat.le_trans (Nat.le_refl _) HB.out.size)))
  clear HGc
  clear hb
  refine ⟨_, rfl, ?_⟩
  refine hK.out _ _ (FF.out _ HB) (fun hHeld => ?_)
  clear hK K
  refine no_ (h := ?_)
  refine pu_ 35 38 (h := ?_)
  refine pu_ 36 39 (h := ?_)
  refine pu_ 37 40 (h := ?_)
  refine of_ 38 41 (h := ?_)
  refine of_ 39 42 (h := ?_)
  refine of_ 40 43 (h := ?_)
  refine of_ 41 44 (h := ?_)
  refine of_ 42 45 (h := ?_)
  refine pu_ 43 46 (h := ?_)
  refine pu_ 44 47 (h := ?_)
  refine of_ 45 48 (h := ?_)
  refine of_ 46 49 (h := ?_)
  refine of_ 47 50 (h := ?_)
  refine of_ 48 51 (h := ?_)
  refine of_ 49 52 (h := ?_)
  refine pu_ 50 53 (h := ?_)
  refine pu_ 51 2 (h := ?_)
  refine done_ (by kernel_rfl) ?_
  have ZF := Lib.hid (bthen ZB.out HB.out)
  go_wp2
  go_ret
  exact ⟨rfl, ZF.out⟩
set_option maxHeartbeats 4000000 in
set_option maxRecDepth 100000 in
theorem may_G (p a e : List P3) (r : Int) (A0 A1 A2 : Option Addr) (c0 c1 c2 : Nat) (w : World) (h0 : Rd w A0 p) (h1 : Rd w A1 a) (h2 : Rd w A2 e) (k0 : p.length ≤ c0) (k1 : a.length ≤ c1) (k2 : e.length ≤ c2)
    (hp1 : 0 < p.length) (hp2 : p.length ≤ 32) (ha : a.length ≤ 128) (he : e.length ≤ 128) (hr1 : 0 ≤ r) (hr2 : r ≤ 65536) (hF : p.any (far3 16777216) = false) (hG : a.any (far3 1048576) = true) :
    Calls Try.prog 57 #[.agg #[.slice A0 p.length c0, .slice A1 a.length c1, .slice A2 e.length c2, .int .i64 r]] w fun e w' => e = .returned (.bool false) ∧ Below w.heap.size w w' := by
  have H0 := Lib.hid h0
  have H1 := Lib.hid h1
  have H2 := Lib.hid h2
  have HF := Lib.hid hF
  have HG := Lib.hid hG
  clear h0 h1 h2 hF hG
  obtain ⟨np, hnp⟩ : ∃ n, p.length = n := ⟨_, rfl⟩
  obtain ⟨na, hna⟩ : ∃ n, a.length = n := ⟨_, rfl⟩
  obtain ⟨ne, hne⟩ : ∃ n, e.length = n := ⟨_, rfl⟩
  rw [hnp] at hp1 hp2 k0 ⊢
  rw [hna] at ha k1 ⊢
  rw [hne] at he k2 ⊢
  have HNP := Lib.hid hnp
  have HNA := Lib.hid hna
  have HNE := Lib.hid hne
  clear hnp hna hne
  have t1 : decide ((0 : Int) < (np : Int)) = true := by simp; omega
  have t2 : decide ((np : Int) ≤ 32) = true := by simp; omega
  have t3 : decide (mx (na : Int) (ne : Int) ≤ 128) = true := by simp [mx]; split <;> omega
  have t4 : decide (0 ≤ r) = true := by simp; omega
  have t5 : decide (r ≤ 65536) = true := by simp; omega
  have z := heap_alloc_new w (.cells #[.slice A0 np c0, .slice A1 na c1, .slice A2 ne c2, .int .i64 r] 36)
  have zb := (Below.refl _ w).alloc (Nat.le_refl _) (.cells #[.slice A0 np c0, .slice A1 na c1, .slice A2 ne c2, .int .i64 r] 36)
  obtain ⟨w1, hw1⟩ : ∃ V, w.alloc (.cells #[.slice A0 np c0, .slice A1 na c1, .slice A2 ne c2, .int .i64 r] 36) = V := ⟨_, rfl⟩
  rw [hw1] at z zb
  have hw1' := Lib.hid hw1
  have ZB := Lib.hid zb
  have lt0 : w.heap.size < w1.heap.size := blk_lt z
  clear hw1 zb
  go_enter Try.func57, Try.ntmps57
  go_wp2
  rw [hw1'.out]
  clear hw1'
  have x0 : w1.cell? ⟨w.heap.size, 0, none⟩ = some (.slice A0 np c0) := (blk_cell z 0).trans rfl
  have x1 : w1.cell? ⟨w.heap.size, 1, none⟩ = some (.slice A1 na c1) := (blk_cell z 1).trans rfl
  have x2 : w1.cell? ⟨w.heap.size, 2, none⟩ = some (.slice A2 ne c2) := (blk_cell z 2).trans rfl
  have x3 : w1.cell? ⟨w.heap.size, 3, none⟩ = some (.int .i64 r) := (blk_cell z 3).trans rfl
  have HB := Lib.hid ((Below.refl (w1.heap.size) w1).drew)
  have FF := Lib.hid (show ∀ V, Hid (Below (w1.heap.size) w1 V) → V.cell? ⟨w.heap.size, 0, none⟩ = some (.slice A0 np c0) ∧ V.cell? ⟨w.heap.size, 1, none⟩ = some (.slice A1 na c1) ∧ V.cell? ⟨w.heap.size, 2, none⟩ = some (.slice A2 ne c2) ∧ V.cell? ⟨w.heap.size, 3, none⟩ = some (.int .i64 r) from fun V HB => ⟨(HB.out.cell (p := ⟨w.heap.size, 0, none⟩) (lt0)).trans x0, (HB.out.cell (p := ⟨w.heap.size, 1, none⟩) (lt0)).trans x1, (HB.out.cell (p := ⟨w.heap.size, 2, none⟩) (lt0)).trans x2, (HB.out.cell (p := ⟨w.heap.size, 3, none⟩) (lt0)).trans x3⟩)
  refine start_ (n := 52) (S := fun w' => w'.cell? ⟨w.heap.size, 0, none⟩ = some (.slice A0 np c0) ∧ w'.cell? ⟨w.heap.size, 1, none⟩ = some (.slice A1 na c1) ∧ w'.cell? ⟨w.heap.size, 2, none⟩ = some (.slice A2 ne c2) ∧ w'.cell? ⟨w.heap.size, 3, none⟩ = some (.int .i64 r)) (ds := []) (MT 0 52) (by kernel_rfl) rfl rfl (FF.out _ HB) (fun hHeld => ?_)
  obtain ⟨wd, hwd⟩ : ∃ x, w1.drew = x := ⟨_, rfl⟩
  rw [hwd] at HB hHeld ⊢
  clear hwd
  refine pu_ 0 3 (h := ?_)
  refine ta_ 1 4 hHeld (h := ?_)
  refine pu_ 2 5 (h := ?_)
  refine pu_ 3 6 (h := ?_)
  refine pu_ 4 7 (h := ?_)
  refine pu_ 5 8 (h := ?_)
  refine ta_ 6 9 hHeld (h := ?_)
  refine pu_ 7 10 (h := ?_)
  refine pu_ 8 11 (h := ?_)
  refine pu_ 9 12 (h := ?_)
  refine pu_ 10 13 (h := ?_)
  refine pu_ 11 14 (h := ?_)
  refine pu_ 14 17 (h := ?_)
  refine ta_ 12 15 hHeld (h := ?_)
  refine pu_ 13 16 (h := ?_)
  refine ta_ 15 18 hHeld (h := ?_)
  refine pu_ 16 19 (h := ?_)
  refine pu_ 17 20 (h := ?_)
  refine pu_ 18 21 (h := ?_)
  refine pu_ 19 22 (h := ?_)
  refine pu_ 20 23 (h := ?_)
  refine pu_ 21 24 (h := ?_)
  refine ta_ 22 25 hHeld (h := ?_)
  refine pu_ 23 26 (h := ?_)
  refine pu_ 24 27 (h := ?_)
  refine pu_ 25 28 (h := ?_)
  refine pu_ 26 29 (h := ?_)
  refine ta_ 27 30 hHeld (h := ?_)
  refine pu_ 28 31 (h := ?_)
  refine pu_ 29 32 (h := ?_)
  refine pu_ 30 33 (h := ?_)
  refine pu_ 31 34 (h := ?_)
  refine ta_ 32 35 hHeld (h := ?_)
  refine on_ 33 (some 36) (h := fun K hK => ?_)
  refine goes_ Try.func65 (by kernel_rfl) rfl #[.int .i64 16777216] (by rfl) rfl rfl (by simp only [List.map_toArray, List.map_cons, List.map_nil]; rfl) ?_
  with_reducible refine (beyondE_calls _ _).mono ?_
  rintro e' w2 ⟨g, rfl, kg_, hb⟩
  have HB := Lib.hid (HB.out.trans (hb.mono (Nat.le_trans (Nat.le_refl _) HB.out.size)))
  have HGc := Lib.hid kg_
  clear kg_
  clear hb
  refine ⟨_, rfl, ?_⟩
  refine hK.out _ _ (FF.out _ HB) (fun hHeld => ?_)
  clear hK K
  refine no_ (h := ?_)
  refine on_ 34 (some 37) (h := fun K hK => ?_)
  refine goes_ Try.func68 (by kernel_rfl) rfl #[.slice A0 np c0, .func (.func 121) #[] #[.pointer (some ⟨g, 0, none⟩)]] (by rfl) rfl rfl (by simp only [List.map_toArray, List.map_cons, List.map_nil]; rfl) ?_
  with_reducible refine (contains_calls' p _ _ _ 16777216 _ false _ HNP.out HF.out (H0.out.below (bthen ZB.out HB.out)) k0 (by omega) HGc.out (by decide) (by decide)).mono ?_
  rintro e' w2 ⟨rfl, hb⟩
  have HB := Lib.hid (HB.out.trans (hb.mono (Nat.le_trans (Nat.le_refl _) HB.out.size)))
  clear HGc
  clear hb
  refine ⟨_, rfl, ?_⟩
  refine hK.out _ _ (FF.out _ HB) (fun hHeld => ?_)
  clear hK K
  refine no_ (h := ?_)
  refine pu_ 35 38 (h := ?_)
  refine pu_ 36 39 (h := ?_)
  refine pu_ 37 40 (h := ?_)
  refine pu_ 38 41 (h := ?_)
  refine ta_ 39 42 hHeld (h := ?_)
  refine on_ 40 (some 43) (h := fun K hK => ?_)
  refine goes_ Try.func65 (by kernel_rfl) rfl #[.int .i64 1048576] (by rfl) rfl rfl (by simp only [List.map_toArray, List.map_cons, List.map_nil]; rfl) ?_
  with_reducible refine (beyondE_calls _ _).mono ?_
  rintro e' w2 ⟨g2, rfl, kg_, hb⟩
  have HB := Lib.hid (HB.out.trans (hb.mono (Nat.le_trans (Nat.le_refl _) HB.out.size)))
  have HGc := Lib.hid kg_
  clear kg_
  clear hb
  refine ⟨_, rfl, ?_⟩
  refine hK.out _ _ (FF.out _ HB) (fun hHeld => ?_)
  clear hK K
  refine no_ (h := ?_)
  refine on_ 41 (some 44) (h := fun K hK => ?_)
  refine goes_ Try.func68 (by kernel_rfl) rfl #[.slice A1 na c1, .func (.func 121) #[] #[.pointer (some ⟨g2, 0, none⟩)]] (by rfl) rfl rfl (by simp only [List.map_toArray, List.map_cons, List.map_nil]; rfl) ?_
  with_reducible refine (contains_calls' a _ _ _ 1048576 _ true _ HNA.out HG.out (H1.out.below (bthen ZB.out HB.out)) k1 (by omega) HGc.out (by decide) (by decide)).mono ?_
  rintro e' w2 ⟨rfl, hb⟩
  have HB := Lib.hid (HB.out.trans (hb.mono (Nat.le_trans (Nat.le_refl _) HB.out.size)))
  clear HGc
  clear hb
  refine ⟨_, rfl, ?_⟩
  refine hK.out _ _ (FF.out _ HB) (fun hHeld => ?_)
  clear hK K
  refine no_ (h := ?_)
  refine pu_ 42 45 (h := ?_)
  refine pu_ 43 46 (h := ?_)
  refine pu_ 44 47 (h := ?_)
  refine of_ 45 48 (h := ?_)
  refine of_ 46 49 (h := ?_)
  refine of_ 47 50 (h := ?_)
  refine of_ 48 51 (h := ?_)
  refine of_ 49 52 (h := ?_)
  refine pu_ 50 53 (h := ?_)
  refine pu_ 51 2 (h := ?_)
  refine done_ (by kernel_rfl) ?_
  have ZF := Lib.hid (bthen ZB.out HB.out)
  go_wp2
  go_ret
  exact ⟨rfl, ZF.out⟩
end Go.Proofs.Ytckdhahceelckaa.G
namespace Go.Proofs.Ytckdhahceelckaa.G
open Go.RowKit Go.Proofs.YtckdhahceelckaaW.PrintWords Go.Proofs.YtckdhahceelckaaW.PrintLast Go.Proofs.YtckdhahceelckaaW.PrintMore
attribute [local go_sem] max2_mx min2_mn max_two min_two max_three min_three max_four min_four
attribute [local go_sem high] eqA23
set_option linter.unusedVariables false
set_option linter.unusedSimpArgs false
theorem mayF_iff (p a e : List P3) (r : Int) : mayF p a e r = true ↔ MayP p a e r := by
  unfold mayF
  simp only [Bool.and_eq_true, decide_eq_true_eq, Bool.not_eq_true']
  constructor
  · rintro ⟨⟨⟨⟨⟨⟨⟨⟨h1, h2⟩, h3⟩, h4⟩, h5⟩, h6⟩, h7⟩, h8⟩, h9⟩
    exact ⟨List.length_pos_iff.1 h1, h2, h3, h4, h5, h6, h7, h8, h9⟩
  · rintro ⟨h1, h2, h3, h4, h5, h6, h7, h8, h9⟩
    exact ⟨⟨⟨⟨⟨⟨⟨⟨List.length_pos_iff.2 h1, h2⟩, h3⟩, h4⟩, h5⟩, h6⟩, h7⟩, h8⟩, h9⟩
theorem may_all {w : World} {v : Value} {p a e : List P3} {r : Int} (h : CoreV w v p a e r) : MaySays w v (mayF p a e r) := fun w' hb => by
  obtain ⟨A0, A1, A2, c0, c1, c2, rfl, h0, h1, h2, h3, h4, h5⟩ := (h.below hb).out
  have no : ∀ (P : Prop), P → (MayP p a e r → ¬P) → mayF p a e r = false := fun P hP hn => by
    cases hm : mayF p a e r with
    | false => rfl
    | true => exact absurd hP (hn ((mayF_iff p a e r).1 hm))
  rcases Nat.eq_zero_or_pos p.length with e0 | p0
  · rw [no _ e0 (fun m => by have := List.length_pos_iff.2 m.p0; omega)]
    exact may_A p a e r A0 A1 A2 c0 c1 c2 w' h0.1 h1.1 h2.1 h3 h4 h5 false false false e0
  rcases Nat.lt_or_ge 32 p.length with e1 | p1
  · rw [no _ e1 (fun m => by have := m.p1; omega)]
    exact may_B p a e r A0 A1 A2 c0 c1 c2 w' h0.1 h1.1 h2.1 h3 h4 h5 false false false p0 e1
  by_cases e2 : 128 < a.length ∨ 128 < e.length
  · rw [no _ e2 (fun m => by have := m.a1; have := m.e1; omega)]
    exact may_C p a e r A0 A1 A2 c0 c1 c2 w' h0.1 h1.1 h2.1 h3 h4 h5 false false false p0 p1 e2
  have a1 : a.length ≤ 128 := by omega
  have e1 : e.length ≤ 128 := by omega
  rcases Int.lt_or_le r 0 with e3 | r0
  · rw [no _ e3 (fun m => by have := m.r0; omega)]
    exact may_D p a e r A0 A1 A2 c0 c1 c2 w' h0.1 h1.1 h2.1 h3 h4 h5 false false false p0 p1 a1 e1 e3
  rcases Int.lt_or_le 65536 r with e4 | r1
  · rw [no _ e4 (fun m => by have := m.r1; omega)]
    exact may_E p a e r A0 A1 A2 c0 c1 c2 w' h0.1 h1.1 h2.1 h3 h4 h5 false false false p0 p1 a1 e1 r0 e4
  cases hF : p.any (far3 16777216) with
  | true =>
    rw [no _ hF (fun m => by rw [m.pf]; decide)]
    exact may_F p a e r A0 A1 A2 c0 c1 c2 w' h0.1 h1.1 h2.1 h3 h4 h5 p0 p1 a1 e1 r0 r1 hF
  | false =>
    cases hG : a.any (far3 1048576) with
    | true =>
      rw [no _ hG (fun m => by rw [m.af]; decide)]
      exact may_G p a e r A0 A1 A2 c0 c1 c2 w' h0.1 h1.1 h2.1 h3 h4 h5 p0 p1 a1 e1 r0 r1 hF hG
    | false =>
      have hB : mayF p a e r = !(e.any (far3 1048576)) := by
        unfold mayF
        rw [hF, hG, decide_eq_true p0, decide_eq_true p1, decide_eq_true a1, decide_eq_true e1, decide_eq_true r0, decide_eq_true r1]
        rfl
      rw [hB]
      exact may_yes p a e r A0 A1 A2 c0 c1 c2 w' h0.1 h1.1 h2.1 h3 h4 h5 _ false false p0 p1 a1 e1 r0 r1 hF hG rfl
set_option maxHeartbeats 4000000 in
set_option maxRecDepth 100000 in
theorem rmay_calls {w : World} {v : Value} {p a e : List P3} {r : Int} (h : CoreV w v p a e r) (hp : p.length < 9223372036854775807) (ha : a.length < 9223372036854775807) (he : e.length < 9223372036854775807) :
    Calls Try.prog 62 #[v] w fun en w' => en = .returned (.bool (mayF p a e r)) ∧ Below w.heap.size w w' := by
  obtain ⟨A0, A1, A2, c0, c1, c2, rfl, h0, h1, h2, _⟩ := h.out
  have H0 := Lib.hid (fun W (hW : RdB W A0 p) => all_calls p A0 c0 16777216 W hW.1 hp (by decide) (by decide))
  have H1 := Lib.hid (fun W (hW : RdB W A1 a) => all_calls a A1 c1 1048576 W hW.1 ha (by decide) (by decide))
  have H2 := Lib.hid (fun W (hW : RdB W A2 e) => all_calls e A2 c2 1048576 W hW.1 he (by decide) (by decide))
  rw [allIn_far _ (by decide) (by decide)] at H0 H1 H2
  have hm : mayF p a e r = mayF p a e r := rfl
  conv at hm => lhs; unfold mayF
  obtain ⟨B, hB⟩ : ∃ B, mayF p a e r = B := ⟨_, rfl⟩
  rw [hB] at hm ⊢
  obtain ⟨b0, hb0⟩ : ∃ b, (!(p.any (far3 16777216))) = b := ⟨_, rfl⟩
  obtain ⟨b1, hb1⟩ : ∃ b, (!(a.any (far3 1048576))) = b := ⟨_, rfl⟩
  obtain ⟨b2, hb2⟩ : ∃ b, (!(e.any (far3 1048576))) = b := ⟨_, rfl⟩
  rw [hb0] at H0 hm
  rw [hb1] at H1 hm
  rw [hb2] at H2 hm
  have G0 := Lib.hid h0
  have G1 := Lib.hid h1
  have G2 := Lib.hid h2
  obtain ⟨np, hnp⟩ : ∃ n, p.length = n := ⟨_, rfl⟩
  obtain ⟨na, hna⟩ : ∃ n, a.length = n := ⟨_, rfl⟩
  obtain ⟨ne, hne⟩ : ∃ n, e.length = n := ⟨_, rfl⟩
  rw [hnp] at H0 hm hp ⊢
  rw [hna] at H1 hm ha ⊢
  rw [hne] at H2 hm he ⊢
  clear h h0 h1 h2 hB hb0 hb1 hb2 hnp hna hne
  have HM := Lib.hid hm
  clear hm
  have z := heap_alloc_new w (.cells #[.slice A0 np c0, .slice A1 na c1, .slice A2 ne c2, .int .i64 r] 36)
  have zb := (Below.refl _ w).alloc (Nat.le_refl _) (.cells #[.slice A0 np c0, .slice A1 na c1, .slice A2 ne c2, .int .i64 r] 36)
  obtain ⟨w1, hw1⟩ : ∃ V, w.alloc (.cells #[.slice A0 np c0, .slice A1 na c1, .slice A2 ne c2, .int .i64 r] 36) = V := ⟨_, rfl⟩
  rw [hw1] at z zb
  have hw1' := Lib.hid hw1
  have Z := Lib.hid z
  have ZB := Lib.hid zb
  clear hw1 z zb
  by_cases t0 : (np : Int) < 1
  · have E : Hid (B = false) := Lib.hid (by rw [← HM.out, decide_eq_false (show ¬ 0 < np by omega)]; simp)
    have d0 : decide ((np : Int) < 1) = true := decide_eq_true t0
    clear t0
    go_enter Try.func62, Try.ntmps62
    go_wp2
    go_ret
    exact ⟨by rw [E.out]; rfl, (Below.refl _ w).alloc (Nat.le_refl _) _⟩
  by_cases t1 : 32 < (np : Int)
  · have E : Hid (B = false) := Lib.hid (by rw [← HM.out, decide_eq_false (show ¬ np ≤ 32 by omega)]; simp)
    have d0 : decide ((np : Int) < 1) = false := decide_eq_false t0
    have d1 : decide (32 < (np : Int)) = true := decide_eq_true t1
    clear t0 t1
    go_enter Try.func62, Try.ntmps62
    go_wp2
    go_ret
    exact ⟨by rw [E.out]; rfl, (Below.refl _ w).alloc (Nat.le_refl _) _⟩
  by_cases t2 : 128 < (na : Int)
  · have E : Hid (B = false) := Lib.hid (by rw [← HM.out, decide_eq_false (show ¬ na ≤ 128 by omega)]; simp)
    have d0 : decide ((np : Int) < 1) = false := decide_eq_false t0
    have d1 : decide (32 < (np : Int)) = false := decide_eq_false t1
    have d2 : decide (128 < (na : Int)) = true := decide_eq_true t2
    clear t0 t1 t2
    go_enter Try.func62, Try.ntmps62
    go_wp2
    go_ret
    exact ⟨by rw [E.out]; rfl, (Below.refl _ w).alloc (Nat.le_refl _) _⟩
  by_cases t3 : 128 < (ne : Int)
  · have E : Hid (B = false) := Lib.hid (by rw [← HM.out, decide_eq_false (show ¬ ne ≤ 128 by omega)]; simp)
    have d0 : decide ((np : Int) < 1) = false := decide_eq_false t0
    have d1 : decide (32 < (np : Int)) = false := decide_eq_false t1
    have d2 : decide (128 < (na : Int)) = false := decide_eq_false t2
    have d3 : decide (128 < (ne : Int)) = true := decide_eq_true t3
    clear t0 t1 t2 t3
    go_enter Try.func62, Try.ntmps62
    go_wp2
    go_ret
    exact ⟨by rw [E.out]; rfl, (Below.refl _ w).alloc (Nat.le_refl _) _⟩
  by_cases t4 : r < 0
  · have E : Hid (B = false) := Lib.hid (by rw [← HM.out, decide_eq_false (show ¬ 0 ≤ r by omega)]; simp)
    have d0 : decide ((np : Int) < 1) = false := decide_eq_false t0
    have d1 : decide (32 < (np : Int)) = false := decide_eq_false t1
    have d2 : decide (128 < (na : Int)) = false := decide_eq_false t2
    have d3 : decide (128 < (ne : Int)) = false := decide_eq_false t3
    have d4 : decide (r < 0) = true := decide_eq_true t4
    clear t0 t1 t2 t3 t4
    go_enter Try.func62, Try.ntmps62
    go_wp2
    go_ret
    exact ⟨by rw [E.out]; rfl, (Below.refl _ w).alloc (Nat.le_refl _) _⟩
  by_cases t5 : 65536 < r
  · have E : Hid (B = false) := Lib.hid (by rw [← HM.out, decide_eq_false (show ¬ r ≤ 65536 by omega)]; simp)
    have d0 : decide ((np : Int) < 1) = false := decide_eq_false t0
    have d1 : decide (32 < (np : Int)) = false := decide_eq_false t1
    have d2 : decide (128 < (na : Int)) = false := decide_eq_false t2
    have d3 : decide (128 < (ne : Int)) = false := decide_eq_false t3
    have d4 : decide (r < 0) = false := decide_eq_false t4
    have d5 : decide (65536 < r) = true := decide_eq_true t5
    clear t0 t1 t2 t3 t4 t5
    go_enter Try.func62, Try.ntmps62
    go_wp2
    go_ret
    exact ⟨by rw [E.out]; rfl, (Below.refl _ w).alloc (Nat.le_refl _) _⟩
  have E : Hid (B = (b0 && b1 && b2)) := Lib.hid (by rw [← HM.out, decide_eq_true (show 0 < np by omega), decide_eq_true (show np ≤ 32 by omega), decide_eq_true (show na ≤ 128 by omega), decide_eq_true (show ne ≤ 128 by omega), decide_eq_true (show 0 ≤ r by omega), decide_eq_true (show r ≤ 65536 by omega)]; rfl)
  have d0 : decide ((np : Int) < 1) = false := decide_eq_false t0
  have d1 : decide (32 < (np : Int)) = false := decide_eq_false t1
  have d2 : decide (128 < (na : Int)) = false := decide_eq_false t2
  have d3 : decide (128 < (ne : Int)) = false := decide_eq_false t3
  have d4 : decide (r < 0) = false := decide_eq_false t4
  have d5 : decide (65536 < r) = false := decide_eq_false t5
  clear t0 t1 t2 t3 t4 t5 HM
  have E' := E.out
  clear E
  subst E'
  go_enter Try.func62, Try.ntmps62
  go_wp2_with fail
  rw [hw1'.out]
  refine (H0.out w1 (G0.out.below ZB.out)).mono ?_
  rintro en w2 ⟨rfl, hb⟩
  have Z2 := Lib.hid ((hb.block _ (blk_lt Z.out)).trans Z.out)
  have ZB2 := Lib.hid (bthen ZB.out hb)
  clear hb
  have x1 : w2.cell? ⟨w.heap.size, 1, none⟩ = some (.slice A1 na c1) := (blk_cell Z2.out 1).trans rfl
  have l0 : w.heap.size < w2.heap.size := blk_lt Z2.out
  go_wp2_with fail
  refine (H1.out w2 (G1.out.below ZB2.out)).mono ?_
  rintro en w3 ⟨rfl, hb⟩
  have Z3 := Lib.hid ((hb.block _ (blk_lt Z2.out)).trans Z2.out)
  have ZB3 := Lib.hid (bthen ZB2.out hb)
  clear hb x1 l0
  have x2 : w3.cell? ⟨w.heap.size, 2, none⟩ = some (.slice A2 ne c2) := (blk_cell Z3.out 2).trans rfl
  have l0 : w.heap.size < w3.heap.size := blk_lt Z3.out
  go_wp2_with fail
  refine (H2.out w3 (G2.out.below ZB3.out)).mono ?_
  rintro en w4 ⟨rfl, hb⟩
  have ZB4 := Lib.hid (bthen ZB3.out hb)
  clear hb x2 l0
  clear d0 d1 d2 d3 d4 d5
  cases b0
  · go_wp2
    go_ret
    exact ⟨rfl, ZB4.out⟩
  cases b1
  · go_wp2
    go_ret
    exact ⟨rfl, ZB4.out⟩
  go_wp2
  go_ret
  exact ⟨by cases b2 <;> rfl, ZB4.out⟩
end Go.Proofs.Ytckdhahceelckaa.G
namespace Go.Proofs.Ytckdhahceelckaa.G
open Go.RowKit Go.Proofs.YtckdhahceelckaaW.PrintWords Go.Proofs.YtckdhahceelckaaW.PrintLast Go.Proofs.YtckdhahceelckaaW.PrintMore
attribute [local go_sem] max2_mx min2_mn max_two min_two max_three min_three max_four min_four
attribute [local go_sem high] eqA23
set_option linter.unusedVariables false
set_option linter.unusedSimpArgs false
def rapStep (a0 : P3) (ar : List P3) (ra : Int) (b0 : P3) (br : List P3) (rb : Int) (s : (P3 × Int) × Bool) (n : P3) : (P3 × Int) × Bool :=
  (if s.2 = true ∨ s.1.2 < (gapsF n a0 ar ra b0 br rb).1 then (n, (gapsF n a0 ar ra b0 br rb).1) else s.1, false)
def rapF (a0 : P3) (ar : List P3) (ra : Int) (b0 : P3) (br : List P3) (rb : Int) (l : List P3) : (P3 × Int) × Bool :=
  l.foldl (rapStep a0 ar ra b0 br rb) ((⟨0, 0, 1048576⟩, -ra - rb), true)
theorem rapF_snoc (a0 : P3) (ar : List P3) (ra : Int) (b0 : P3) (br : List P3) (rb : Int) (l : List P3) (k : Nat) (h : k < l.length) : rapF a0 ar ra b0 br rb (l.take (k + 1)) = rapStep a0 ar ra b0 br rb (rapF a0 ar ra b0 br rb (l.take k)) l[k] := by
  unfold rapF
  rw [List.take_succ_eq_append_getElem h, List.foldl_append]; rfl
theorem rapF_first (a0 : P3) (ar : List P3) (ra : Int) (b0 : P3) (br : List P3) (rb : Int) (l : List P3) (k : Nat) (h : k ≤ l.length) : (rapF a0 ar ra b0 br rb (l.take k)).2 = decide (k = 0) := by
  cases k with
  | zero => rfl
  | succ k => rw [rapF_snoc _ _ _ _ _ _ _ _ (by omega)]; rfl
theorem ng3_neg (n : P3) : ng3 (ng3 n) = n := by unfold ng3; simp
theorem ng3_in {n : P3} {m : Int} (h : in3 m n) : in3 m (ng3 n) := by unfold in3 ng3 at *; simp only; omega
theorem ng3_ne {n : P3} (h : n ≠ ⟨0, 0, 0⟩) : ng3 n ≠ ⟨0, 0, 0⟩ := fun e => h (by rw [← ng3_neg n, e]; rfl)
theorem fl3_neg (n : P3) : fl3 (ng3 n) = fl3 n ∧ ce3 (ng3 n) = ce3 n := by
  have e : dotI (ng3 n) (ng3 n) = dotI n n := by unfold dotI ng3; simp only [Int.neg_mul_neg]
  unfold ce3 fl3
  rw [e]
  exact ⟨rfl, rfl⟩
theorem reach_neg {n p0 : P3} {r : List P3} (hn : in3 1048576 n) (hp : ∀ p ∈ p0 :: r, in3 16777216 p) : (reachF (ng3 n) p0 r).2 = -(reachF n p0 r).1 ∧ (reachF (ng3 n) p0 r).1 = -(reachF n p0 r).2 := by
  have h1 := farF_neg n p0 r hn hp
  have h2 := farF_neg (ng3 n) p0 r (ng3_in hn) hp
  rw [farF_reach] at h1 h2
  have e : (⟨-(ng3 n).x, -(ng3 n).y, -(ng3 n).z⟩ : P3) = n := ng3_neg n
  rw [e] at h2
  refine ⟨h1, by omega⟩
theorem gaps_neg {n a0 b0 : P3} {ar br : List P3} (ra rb : Int) (hn : in3 1048576 n) (ha : ∀ p ∈ a0 :: ar, in3 16777216 p) (hb : ∀ p ∈ b0 :: br, in3 16777216 p) : (gapsF (ng3 n) a0 ar ra b0 br rb).1 = (gapsF n a0 ar ra b0 br rb).2 := by
  unfold gapsF
  simp only
  rw [(reach_neg hn ha).1, (reach_neg hn hb).2, (fl3_neg n).1, (fl3_neg n).2]
  congr 1
  omega
theorem minus_zero {n : P3} (h : in3 1048576 n) : minus3 ⟨0, 0, 0⟩ n = ng3 n := by
  rw [minus3_eq _ _ (by unfold in3; simp) (in3_le (by decide) h)]
  unfold ng3
  simp
/-- the two tellings of the candidates are one -/
theorem rapF_eq {a0 b0 : P3} {ar br : List P3} (ra rb : Int) (ha : ∀ p ∈ a0 :: ar, in3 16777216 p) (hb : ∀ p ∈ b0 :: br, in3 16777216 p) (l : List P3) : rapF a0 ar ra b0 br rb (candF l) = apF a0 ar ra b0 br rb l := by
  have gen : ∀ (l : List P3) (s : (P3 × Int) × Bool), (candF l).foldl (rapStep a0 ar ra b0 br rb) s = l.foldl (apStep a0 ar ra b0 br rb) s := by
    intro l
    induction l with
    | nil => intro s; rfl
    | cons x l ih =>
      intro s
      have e : candF (x :: l) = (if long3 x = ⟨0, 0, 0⟩ then [] else [long3 x, ng3 (long3 x)]) ++ candF l := rfl
      rw [e, List.foldl_append, List.foldl_cons, ih]
      congr 1
      unfold apStep
      by_cases h : long3 x = ⟨0, 0, 0⟩
      · rw [if_pos h, if_pos h]; rfl
      · rw [if_neg h, if_neg h, minus_zero (long3_in x)]
        simp only [List.foldl_cons, List.foldl_nil, rapStep]
        rw [gaps_neg ra rb (long3_in x) ha hb]
        simp only [Bool.false_eq_true, false_or]
  exact gen l _
theorem candF_mem {l : List P3} {n : P3} (h : n ∈ candF l) : in3 1048576 n ∧ n ≠ ⟨0, 0, 0⟩ := by
  unfold candF at h
  obtain ⟨x, _, h⟩ := List.mem_flatMap.1 h
  split at h
  · simp at h
  · rename_i h0
    simp only [List.mem_cons, List.not_mem_nil, or_false] at h
    rcases h with rfl | rfl
    · exact ⟨long3_in x, h0⟩
    · exact ⟨ng3_in (long3_in x), ng3_ne h0⟩
end Go.Proofs.Ytckdhahceelckaa.G
namespace Go.Proofs.Ytckdhahceelckaa.G
open Go.RowKit Go.Proofs.YtckdhahceelckaaW.PrintWords Go.Proofs.YtckdhahceelckaaW.PrintLast Go.Proofs.YtckdhahceelckaaW.PrintMore
attribute [local go_sem] max2_mx min2_mn max_two min_two max_three min_three max_four min_four
attribute [local go_sem high] eqA23
set_option linter.unusedVariables false
set_option linter.unusedSimpArgs false
theorem RdB.set4' {w : World} {A : Option Addr} {l : List P3} (h : RdB w A l) {g : Nat} (hne : ∀ ad, A = some ad → ad.block ≠ g) (x y z u : Value) : RdB (set4 w g x y z u) A l :=
  h.blk (by simp) fun ad e => heap_set4 w g ad.block (hne ad e) x y z u
/-- the state of Apart's loop: two cores, the answer's block, the best so far, the candidates -/
structure ASt (w W : World) (ca cb : Array Value) (OB : Nat) (o : P3 × Int) (A : Option Addr) (C : List P3) : Prop where
  below : Below w.heap.size w W
  z0 : W.heap[w.heap.size]? = some (.cells ca 36 (0, 0))
  z1 : W.heap[w.heap.size + 1]? = some (.cells cb 36 (0, 0))
  z2 : W.heap[w.heap.size + 2]? = some (.cells #[.int .i64 0, .int .i64 0, .int .i64 0, .int .i64 0] 40 (0, 0))
  ob : W.heap[OB]? = some (.cells #[.int .i64 o.1.x, .int .i64 o.1.y, .int .i64 o.1.z, .int .i64 o.2] 40 (0, 0))
  rd : RdB W A C
  lo : w.heap.size + 2 < OB
  ne : ∀ ad, A = some ad → ad.block ≠ OB
theorem ASt.then {w W V : World} {ca cb : Array Value} {OB : Nat} {o : P3 × Int} {A : Option Addr} {C : List P3} (h : ASt w W ca cb OB o A C) (hb : Below W.heap.size W V) : ASt w V ca cb OB o A C :=
  ⟨bthen h.below hb, (hb.block _ (blk_lt h.z0)).trans h.z0, (hb.block _ (blk_lt h.z1)).trans h.z1, (hb.block _ (blk_lt h.z2)).trans h.z2, (hb.block _ (blk_lt h.ob)).trans h.ob, h.rd.below hb, h.lo, h.ne⟩
theorem ASt.put {w W : World} {ca cb : Array Value} {OB : Nat} {o : P3 × Int} {A : Option Addr} {C : List P3} (h : ASt w W ca cb OB o A C) (x y z g : Int) : ASt w (set4 W OB (.int .i64 x) (.int .i64 y) (.int .i64 z) (.int .i64 g)) ca cb OB (⟨x, y, z⟩, g) A C := by
  have lo := h.lo
  exact ⟨below_set4 h.below (by omega) _ _ _ _, (heap_set4 W OB _ (by omega) _ _ _ _).trans h.z0, (heap_set4 W OB _ (by omega) _ _ _ _).trans h.z1, (heap_set4 W OB _ (by omega) _ _ _ _).trans h.z2, blk4_set h.ob _ _ _ _, h.rd.set4' h.ne _ _ _ _, h.lo, h.ne⟩
set_option maxHeartbeats 8000000 in
set_option maxRecDepth 100000 in
theorem rapart_yes {w : World} {v u : Value} {p a e : List P3} {r : Int} {q b f : List P3} {s : Int} (hv : CoreV w v p a e r) (hu : CoreV w u q b f s) (m : MayP p a e r) (k : MayP q b f s) (R : P3 × Int) (hR : apartF p a e r q b f s = R) :
    Calls Try.prog 25 #[v, u] w fun en w' => en = .returned (.tuple #[.agg #[.int .i64 R.1.x, .int .i64 R.1.y, .int .i64 R.1.z, .int .i64 R.2], .bool true]) ∧ Below w.heap.size w w' := by
  have HMa := Lib.hid (fun W (hW : CoreV W v p a e r) => rmay_calls hW (by have := m.p1; omega) (by have := m.a1; omega) (by have := m.e1; omega))
  have HMb := Lib.hid (fun W (hW : CoreV W u q b f s) => rmay_calls hW (by have := k.p1; omega) (by have := k.a1; omega) (by have := k.e1; omega))
  rw [(mayF_iff p a e r).2 m] at HMa
  rw [(mayF_iff q b f s).2 k] at HMb
  have HV := Lib.hid hv
  have HU := Lib.hid hu
  obtain ⟨A0, A1, A2, c0, c1, c2, rfl, a0, a1, a2, _⟩ := hv.out
  obtain ⟨B0, B1, B2, d0, d1, d2, rfl, b0, b1, b2, _⟩ := hu.out
  have HC := Lib.hid (fun W (h0 : RdB W A0 p) (h1 : RdB W A1 a) (h2 : RdB W A2 e) (g0 : RdB W B0 q) (g1 : RdB W B1 b) (g2 : RdB W B2 f) => rcand_calls p a e q b f r s A0 A1 A2 B0 B1 B2 c0 c1 c2 d0 d1 d2 W h0 h1 h2 g0 g1 g2 m k)
  have HLC : Hid ((candF (rawC p a e q b f)).length ≤ 68000) := Lib.hid (by have := candF_len (rawC p a e q b f); have := rawC_len p a e q b f r s m k; omega)
  obtain ⟨p0, pr, rfl, hpI⟩ := m.pts
  obtain ⟨q0, qr, rfl, hqI⟩ := k.pts
  have hra0 := m.r0
  have hra1 := m.r1
  have hsb0 := k.r0
  have hsb1 := k.r1
  have hRap : (rapF p0 pr r q0 qr s (candF (rawC (p0 :: pr) a e (q0 :: qr) b f))).1 = R := by
    rw [rapF_eq r s hpI hqI]; exact hR
  have HG := Lib.hid (fun (n : P3) (hn : in3 1048576 n ∧ n ≠ ⟨0, 0, 0⟩) W (h0 : RdB W A0 (p0 :: pr)) (g0 : RdB W B0 (q0 :: qr)) => rgap_calls p0 pr r q0 qr s A0 A1 A2 B0 B1 B2 a.length e.length b.length f.length c0 c1 c2 d0 d1 d2 n W h0 g0 (by have := m.p1; simp at this; omega) (by have := k.p1; simp at this; omega) hn.1 hn.2 hpI hqI hra0 hra1 hsb0 hsb1 _ rfl)
  have HCM := Lib.hid (fun n (hn : n ∈ candF (rawC (p0 :: pr) a e (q0 :: qr) b f)) => candF_mem hn)
  obtain ⟨C, hC⟩ : ∃ C, candF (rawC (p0 :: pr) a e (q0 :: qr) b f) = C := ⟨_, rfl⟩
  rw [hC] at HC HLC hRap HCM
  have HRap := Lib.hid hRap
  have H0 := Lib.hid a0
  have H1 := Lib.hid a1
  have H2 := Lib.hid a2
  have G0 := Lib.hid b0
  have G1 := Lib.hid b1
  have G2 := Lib.hid b2
  obtain ⟨np, hnp⟩ : ∃ n, (p0 :: pr).length = n := ⟨_, rfl⟩
  obtain ⟨na, hna⟩ : ∃ n, a.length = n := ⟨_, rfl⟩
  obtain ⟨ne, hne⟩ : ∃ n, e.length = n := ⟨_, rfl⟩
  obtain ⟨mp, hmp⟩ : ∃ n, (q0 :: qr).length = n := ⟨_, rfl⟩
  obtain ⟨ma, hma⟩ : ∃ n, b.length = n := ⟨_, rfl⟩
  obtain ⟨me, hme⟩ : ∃ n, f.length = n := ⟨_, rfl⟩
  have hnp' : pr.length + 1 = np := hnp
  have hmp' : qr.length + 1 = mp := hmp
  rw [hnp', hmp'] at HG
  rw [hnp] at HC HMa HV ⊢
  rw [hmp] at HC HMb HU ⊢
  rw [hna] at HC HG HMa HV ⊢
  rw [hne] at HC HG HMa HV ⊢
  rw [hma] at HC HG HMb HU ⊢
  rw [hme] at HC HG HMb HU ⊢
  clear hv hu m k hR hRap hC a0 a1 a2 b0 b1 b2 hnp hna hne hmp hma hme hnp' hmp' hpI hqI
  obtain ⟨⟨Rx, Ry, Rz⟩, Rg⟩ := R
  have z0 := three0 w (.cells #[.slice A0 np c0, .slice A1 na c1, .slice A2 ne c2, .int .i64 r] 36) (.cells #[.slice B0 mp d0, .slice B1 ma d1, .slice B2 me d2, .int .i64 s] 36) (.cells #[.int .i64 0, .int .i64 0, .int .i64 0, .int .i64 0] 40)
  have z1 := three1 w (.cells #[.slice A0 np c0, .slice A1 na c1, .slice A2 ne c2, .int .i64 r] 36) (.cells #[.slice B0 mp d0, .slice B1 ma d1, .slice B2 me d2, .int .i64 s] 36) (.cells #[.int .i64 0, .int .i64 0, .int .i64 0, .int .i64 0] 40)
  have z2 := three2 w (.cells #[.slice A0 np c0, .slice A1 na c1, .slice A2 ne c2, .int .i64 r] 36) (.cells #[.slice B0 mp d0, .slice B1 ma d1, .slice B2 me d2, .int .i64 s] 36) (.cells #[.int .i64 0, .int .i64 0, .int .i64 0, .int .i64 0] 40)
  have zb := Go.Joins.below_alloc3 w (.cells #[.slice A0 np c0, .slice A1 na c1, .slice A2 ne c2, .int .i64 r] 36) (.cells #[.slice B0 mp d0, .slice B1 ma d1, .slice B2 me d2, .int .i64 s] 36) (.cells #[.int .i64 0, .int .i64 0, .int .i64 0, .int .i64 0] 40)
  obtain ⟨w1, hw1⟩ : ∃ V, ((w.alloc (.cells #[.slice A0 np c0, .slice A1 na c1, .slice A2 ne c2, .int .i64 r] 36)).alloc (.cells #[.slice B0 mp d0, .slice B1 ma d1, .slice B2 me d2, .int .i64 s] 36)).alloc (.cells #[.int .i64 0, .int .i64 0, .int .i64 0, .int .i64 0] 40) = V := ⟨_, rfl⟩
  rw [hw1] at z0 z1 z2 zb
  have hw1' := Lib.hid hw1
  have Z0 := Lib.hid z0
  have Z1 := Lib.hid z1
  have Z2 := Lib.hid z2
  have ZB := Lib.hid zb
  clear hw1 z0 z1 z2 zb
  go_enter Try.func25, Try.ntmps25
  go_wp2_with fail
  rw [hw1'.out]
  refine (HMa.out w1 (HV.out.below ZB.out)).mono ?_
  rintro en w2 ⟨rfl, hb⟩
  have Y0 := Lib.hid ((hb.block _ (blk_lt Z0.out)).trans Z0.out)
  have Y1 := Lib.hid ((hb.block _ (blk_lt Z1.out)).trans Z1.out)
  have Y2 := Lib.hid ((hb.block _ (blk_lt Z2.out)).trans Z2.out)
  have YB := Lib.hid (bthen ZB.out hb)
  clear hb Z0 Z1 Z2
  have x0 : w2.cell? ⟨w.heap.size + 1, 0, none⟩ = some (.slice B0 mp d0) := (blk_cell Y1.out 0).trans rfl
  have x1 : w2.cell? ⟨w.heap.size + 1, 1, none⟩ = some (.slice B1 ma d1) := (blk_cell Y1.out 1).trans rfl
  have x2 : w2.cell? ⟨w.heap.size + 1, 2, none⟩ = some (.slice B2 me d2) := (blk_cell Y1.out 2).trans rfl
  have x3 : w2.cell? ⟨w.heap.size + 1, 3, none⟩ = some (.int .i64 s) := (blk_cell Y1.out 3).trans rfl
  have l1 : w.heap.size + 1 < w2.heap.size := blk_lt Y1.out
  go_wp2_with fail
  refine (HMb.out w2 (HU.out.below YB.out)).mono ?_
  rintro en w3 ⟨rfl, hb⟩
  have Z0 := Lib.hid ((hb.block _ (blk_lt Y0.out)).trans Y0.out)
  have Z1 := Lib.hid ((hb.block _ (blk_lt Y1.out)).trans Y1.out)
  have Z2 := Lib.hid ((hb.block _ (blk_lt Y2.out)).trans Y2.out)
  have ZB := Lib.hid (bthen YB.out hb)
  clear hb Y0 Y1 Y2 YB x0 x1 x2 x3 l1
  have x0 : w3.cell? ⟨w.heap.size, 0, none⟩ = some (.slice A0 np c0) := (blk_cell Z0.out 0).trans rfl
  have x1 : w3.cell? ⟨w.heap.size, 1, none⟩ = some (.slice A1 na c1) := (blk_cell Z0.out 1).trans rfl
  have x2 : w3.cell? ⟨w.heap.size, 2, none⟩ = some (.slice A2 ne c2) := (blk_cell Z0.out 2).trans rfl
  have x3 : w3.cell? ⟨w.heap.size, 3, none⟩ = some (.int .i64 r) := (blk_cell Z0.out 3).trans rfl
  have y0 : w3.cell? ⟨w.heap.size + 1, 0, none⟩ = some (.slice B0 mp d0) := (blk_cell Z1.out 0).trans rfl
  have y1 : w3.cell? ⟨w.heap.size + 1, 1, none⟩ = some (.slice B1 ma d1) := (blk_cell Z1.out 1).trans rfl
  have y2 : w3.cell? ⟨w.heap.size + 1, 2, none⟩ = some (.slice B2 me d2) := (blk_cell Z1.out 2).trans rfl
  have y3 : w3.cell? ⟨w.heap.size + 1, 3, none⟩ = some (.int .i64 s) := (blk_cell Z1.out 3).trans rfl
  have l0 : w.heap.size < w3.heap.size := blk_lt Z0.out
  have l1 : w.heap.size + 1 < w3.heap.size := blk_lt Z1.out
  have e1 : IntKind.i64.wrap (-r) = -r := iw_id _ (by omega) (by omega)
  have e2 : IntKind.i64.wrap (-r - s) = -r - s := iw_id _ (by omega) (by omega)
  have e3 : wrap64 (-r) = -r := by unfold wrap64; omega
  have e4 : wrap64 (-r - s) = -r - s := by unfold wrap64; omega
  have b4 := (Below.refl w3.heap.size w3).alloc (Nat.le_refl _) (.cells #[.int .i64 0, .int .i64 0, .int .i64 1048576, .int .i64 (-r - s)] 40)
  have a4 := heap_alloc_new w3 (.cells #[.int .i64 0, .int .i64 0, .int .i64 1048576, .int .i64 (-r - s)] 40)
  obtain ⟨w4, hw4⟩ : ∃ V, w3.alloc (.cells #[.int .i64 0, .int .i64 0, .int .i64 1048576, .int .i64 (-r - s)] 40) = V := ⟨_, rfl⟩
  rw [hw4] at b4 a4
  have hw4' := Lib.hid hw4
  obtain ⟨OB, hOB⟩ : ∃ g, w3.heap.size = g := ⟨_, rfl⟩
  rw [hOB] at a4
  have hlo : w.heap.size + 2 < OB := by rw [← hOB]; exact blk_lt Z2.out
  have hOB' := Lib.hid hOB
  have V0 := Lib.hid ((b4.block _ (blk_lt Z0.out)).trans Z0.out)
  have V1 := Lib.hid ((b4.block _ (blk_lt Z1.out)).trans Z1.out)
  have V2 := Lib.hid ((b4.block _ (blk_lt Z2.out)).trans Z2.out)
  have V4 := Lib.hid a4
  have VB := Lib.hid (bthen ZB.out b4)
  clear hw4 hOB b4 a4
  go_wp2_with fail
  rw [hw4'.out, hOB'.out]
  refine (HC.out w4 (H0.out.below VB.out) (H1.out.below VB.out) (H2.out.below VB.out) (G0.out.below VB.out) (G1.out.below VB.out) (G2.out.below VB.out)).mono ?_
  rintro en w5 ⟨A9, c9, rfl, hr9, hb, hk9⟩
  have S5 := Lib.hid (show ASt w w5 #[.slice A0 np c0, .slice A1 na c1, .slice A2 ne c2, .int .i64 r] #[.slice B0 mp d0, .slice B1 ma d1, .slice B2 me d2, .int .i64 s] OB ((⟨0, 0, 1048576⟩ : P3), -r - s) A9 C from
    ⟨bthen VB.out hb, (hb.block _ (blk_lt V0.out)).trans V0.out, (hb.block _ (blk_lt V1.out)).trans V1.out, (hb.block _ (blk_lt V2.out)).trans V2.out, (hb.block _ (blk_lt V4.out)).trans V4.out, hr9, hlo, fun ad e => by have := hk9 ad e; have := blk_lt V4.out; omega⟩)
  obtain ⟨nc, hnc⟩ : ∃ n, C.length = n := ⟨_, rfl⟩
  have NC := Lib.hid hnc
  have hnl : nc ≤ 68000 := by rw [← hnc]; exact HLC.out
  rw [hnc]
  have hI : Hid (rapF p0 pr r q0 qr s (C.take 0) = (((⟨0, 0, 1048576⟩ : P3), -r - s), true)) := Lib.hid rfl
  clear hb hr9 hk9 hnc x0 x1 x2 x3 y0 y1 y2 y3 l0 l1 e1 e2 e3 e4 Z0 Z1 Z2 ZB V0 V1 V2 V4 VB HMa HMb HC
  go_wp2
  go_loopw [10, 11] (fun v10 v11 wr => ∃ j : Nat, j ≤ nc ∧ v10 = .int .i64 j ∧ Hid (ASt w wr #[.slice A0 np c0, .slice A1 na c1, .slice A2 ne c2, .int .i64 r] #[.slice B0 mp d0, .slice B1 ma d1, .slice B2 me d2, .int .i64 s] OB (rapF p0 pr r q0 qr s (C.take j)).1 A9 C)) (fun i _ _ => nc - (intOf i).toNat)
  case atStart => exact ⟨0, by omega, rfl, by rw [hI.out]; exact S5⟩
  case round =>
    clear S5
    obtain ⟨j, hj, rfl, hS⟩ := hrel
    obtain ⟨wq, hwq⟩ : ∃ x : World, x = wr := ⟨_, rfl⟩
    subst hwq
    by_cases hlj : j < nc
    · have hjl : j < C.length := by rw [NC.out]; exact hlj
      obtain ⟨gn, on, rfl, lgn, f0, f1, f2⟩ := hS.out.rd.1.get j hjl
      have hn := HCM.out _ (List.getElem_mem hjl)
      have hST := rapF_snoc p0 pr r q0 qr s C j hjl
      have hfi := rapF_first p0 pr r q0 qr s C j (by omega)
      obtain ⟨n, hnn⟩ : ∃ n, C[j] = n := ⟨_, rfl⟩
      rw [hnn] at f0 f1 f2 hn hST
      have HGn := HG.out n hn
      obtain ⟨g, hg⟩ : ∃ g, (gapsF n p0 pr r q0 qr s).1 = g := ⟨_, rfl⟩
      rw [hg] at HGn
      unfold rapStep at hST
      rw [hg] at hST
      obtain ⟨o, ho⟩ : ∃ o, rapF p0 pr r q0 qr s (C.take j) = o := ⟨_, rfl⟩
      rw [ho] at hS hST hfi
      obtain ⟨⟨⟨ox, oy, oz⟩, og⟩, ofi⟩ := o
      simp only at hfi hST
      subst hfi
      obtain ⟨nx, ny, nz⟩ := n
      simp only at f0 f1 f2
      have HST := Lib.hid hST
      have HGn := Lib.hid HGn
      have x0 : wq.cell? ⟨w.heap.size, 0, none⟩ = some (.slice A0 np c0) := (blk_cell hS.out.z0 0).trans rfl
      have x1 : wq.cell? ⟨w.heap.size, 1, none⟩ = some (.slice A1 na c1) := (blk_cell hS.out.z0 1).trans rfl
      have x2 : wq.cell? ⟨w.heap.size, 2, none⟩ = some (.slice A2 ne c2) := (blk_cell hS.out.z0 2).trans rfl
      have x3 : wq.cell? ⟨w.heap.size, 3, none⟩ = some (.int .i64 r) := (blk_cell hS.out.z0 3).trans rfl
      have y0 : wq.cell? ⟨w.heap.size + 1, 0, none⟩ = some (.slice B0 mp d0) := (blk_cell hS.out.z1 0).trans rfl
      have y1 : wq.cell? ⟨w.heap.size + 1, 1, none⟩ = some (.slice B1 ma d1) := (blk_cell hS.out.z1 1).trans rfl
      have y2 : wq.cell? ⟨w.heap.size + 1, 2, none⟩ = some (.slice B2 me d2) := (blk_cell hS.out.z1 2).trans rfl
      have y3 : wq.cell? ⟨w.heap.size + 1, 3, none⟩ = some (.int .i64 s) := (blk_cell hS.out.z1 3).trans rfl
      have l0 : w.heap.size < wq.heap.size := blk_lt hS.out.z0
      have l1 : w.heap.size + 1 < wq.heap.size := blk_lt hS.out.z1
      have t1 : (j : Int) < (nc : Int) := by omega
      have K0 := Lib.hid ((Below.refl wq.heap.size wq).drew)
      clear hnn hn hg ho hST
      go_wp2
      go_region_held3 (fun w' => w'.cell? ⟨w.heap.size, 0, none⟩ = some (.slice A0 np c0) ∧ w'.cell? ⟨w.heap.size, 1, none⟩ = some (.slice A1 na c1) ∧ w'.cell? ⟨w.heap.size, 2, none⟩ = some (.slice A2 ne c2) ∧ w'.cell? ⟨w.heap.size, 3, none⟩ = some (.int .i64 r) ∧ w'.cell? ⟨w.heap.size + 1, 0, none⟩ = some (.slice B0 mp d0) ∧ w'.cell? ⟨w.heap.size + 1, 1, none⟩ = some (.slice B1 ma d1) ∧ w'.cell? ⟨w.heap.size + 1, 2, none⟩ = some (.slice B2 me d2) ∧ w'.cell? ⟨w.heap.size + 1, 3, none⟩ = some (.int .i64 s) ∧ w'.cell? ⟨gn, on + j * 3, none⟩ = some (.int .i64 nx) ∧ w'.cell? ⟨gn, on + j * 3 + 1, none⟩ = some (.int .i64 ny) ∧ w'.cell? ⟨gn, on + j * 3 + 2, none⟩ = some (.int .i64 nz))
        (first | (go_keep; done) | exact ⟨(KB.out.cell (p := ⟨_, _, none⟩) l0).trans x0, (KB.out.cell (p := ⟨_, _, none⟩) l0).trans x1, (KB.out.cell (p := ⟨_, _, none⟩) l0).trans x2, (KB.out.cell (p := ⟨_, _, none⟩) l0).trans x3, (KB.out.cell (p := ⟨_, _, none⟩) l1).trans y0, (KB.out.cell (p := ⟨_, _, none⟩) l1).trans y1, (KB.out.cell (p := ⟨_, _, none⟩) l1).trans y2, (KB.out.cell (p := ⟨_, _, none⟩) l1).trans y3, (KB.out.cell (p := ⟨_, _, none⟩) lgn).trans f0, (KB.out.cell (p := ⟨_, _, none⟩) lgn).trans f1, (KB.out.cell (p := ⟨_, _, none⟩) lgn).trans f2⟩)
        ((go_at_call 64; refine (HGn.out _ (H0.out.below (bthen hS.out.below K0.out)) (G0.out.below (bthen hS.out.below K0.out))).mono ?_; rintro en w6 ⟨rfl, hb⟩; have KB := Lib.hid (K0.out.trans (hb.mono (Nat.le_refl _)))))
      have hS6 := Lib.hid (hS.out.then KB.out)
      have f0' := (KB.out.cell (p := ⟨_, _, none⟩) lgn).trans f0
      have f1' := (KB.out.cell (p := ⟨_, _, none⟩) lgn).trans f1
      have f2' := (KB.out.cell (p := ⟨_, _, none⟩) lgn).trans f2
      clear x0 x1 x2 x3 y0 y1 y2 y3 l0 l1 f0 f1 f2 lgn hS K0 KB hb HGn
      have g0 : w6.cell? ⟨OB, 0, none⟩ = some (.int .i64 ox) := (blk_cell hS6.out.ob 0).trans rfl
      have g1 : w6.cell? ⟨OB, 1, none⟩ = some (.int .i64 oy) := (blk_cell hS6.out.ob 1).trans rfl
      have g2 : w6.cell? ⟨OB, 2, none⟩ = some (.int .i64 oz) := (blk_cell hS6.out.ob 2).trans rfl
      have g3 : w6.cell? ⟨OB, 3, none⟩ = some (.int .i64 og) := (blk_cell hS6.out.ob 3).trans rfl
      have h0 : w6.frozen? ⟨OB, 0, none⟩ = false := blk_frozen hS6.out.ob 0
      have h1 : w6.frozen? ⟨OB, 1, none⟩ = false := blk_frozen hS6.out.ob 1
      have h2 : w6.frozen? ⟨OB, 2, none⟩ = false := blk_frozen hS6.out.ob 2
      have h3 : w6.frozen? ⟨OB, 3, none⟩ = false := blk_frozen hS6.out.ob 3
      have lOB : OB < w6.heap.size := blk_lt hS6.out.ob
      by_cases hj0 : j = 0
      · have d0 : ((j : Int) == 0) = true := by simp; omega
        have hE := Lib.hid (show (rapF p0 pr r q0 qr s (C.take (j + 1))).1 = ((⟨nx, ny, nz⟩ : P3), g) by rw [HST.out, if_pos (.inl (decide_eq_true hj0))])
        have hS7 := Lib.hid (hS6.out.put nx ny nz g)
        clear hj0
        go_wp2
        go_roundw
        case rel => exact ⟨j + 1, by omega, by go_num, by rw [hE.out]; exact hS7⟩
        case measure => simp [intOf]; omega
      · have d0 : ((j : Int) == 0) = false := by simp; omega
        by_cases hgt : og < g
        · have d1 : decide (og < g) = true := decide_eq_true hgt
          have hE := Lib.hid (show (rapF p0 pr r q0 qr s (C.take (j + 1))).1 = ((⟨nx, ny, nz⟩ : P3), g) by rw [HST.out, if_pos (.inr hgt)])
          have hS7 := Lib.hid (hS6.out.put nx ny nz g)
          clear hj0 hgt
          go_wp2
          go_roundw
          case rel => exact ⟨j + 1, by omega, by go_num, by rw [hE.out]; exact hS7⟩
          case measure => simp [intOf]; omega
        · have d1 : decide (og < g) = false := decide_eq_false hgt
          have hE := Lib.hid (show (rapF p0 pr r q0 qr s (C.take (j + 1))).1 = ((⟨ox, oy, oz⟩ : P3), og) by rw [HST.out, if_neg (by rintro (h | h); exact hj0 (of_decide_eq_true h); exact hgt h)])
          clear hj0 hgt
          go_wp2
          go_roundw
          case rel => exact ⟨j + 1, by omega, by go_num, by rw [hE.out]; exact hS6⟩
          case measure => simp [intOf]; omega
    · obtain rfl : j = nc := by omega
      have hE := (show (rapF p0 pr r q0 qr s (C.take j)).1 = ((⟨Rx, Ry, Rz⟩ : P3), Rg) by rw [List.take_of_length_le (by rw [NC.out]; exact Nat.le_refl _)]; exact HRap.out)
      rw [hE] at hS
      clear hE
      have g0 : wq.cell? ⟨OB, 0, none⟩ = some (.int .i64 Rx) := (blk_cell hS.out.ob 0).trans rfl
      have g1 : wq.cell? ⟨OB, 1, none⟩ = some (.int .i64 Ry) := (blk_cell hS.out.ob 1).trans rfl
      have g2 : wq.cell? ⟨OB, 2, none⟩ = some (.int .i64 Rz) := (blk_cell hS.out.ob 2).trans rfl
      have g3 : wq.cell? ⟨OB, 3, none⟩ = some (.int .i64 Rg) := (blk_cell hS.out.ob 3).trans rfl
      have lOB : OB < wq.heap.size := blk_lt hS.out.ob
      have v0 : wq.cell? ⟨w.heap.size + 1 + 1, 0, none⟩ = some (.int .i64 0) := (blk_cell hS.out.z2 0).trans rfl
      have v1 : wq.cell? ⟨w.heap.size + 1 + 1, 1, none⟩ = some (.int .i64 0) := (blk_cell hS.out.z2 1).trans rfl
      have v2 : wq.cell? ⟨w.heap.size + 1 + 1, 2, none⟩ = some (.int .i64 0) := (blk_cell hS.out.z2 2).trans rfl
      have v3 : wq.cell? ⟨w.heap.size + 1 + 1, 3, none⟩ = some (.int .i64 0) := (blk_cell hS.out.z2 3).trans rfl
      have e0 : wq.frozen? ⟨w.heap.size + 1 + 1, 0, none⟩ = false := blk_frozen hS.out.z2 0
      have e1 : wq.frozen? ⟨w.heap.size + 1 + 1, 1, none⟩ = false := blk_frozen hS.out.z2 1
      have e2 : wq.frozen? ⟨w.heap.size + 1 + 1, 2, none⟩ = false := blk_frozen hS.out.z2 2
      have e3 : wq.frozen? ⟨w.heap.size + 1 + 1, 3, none⟩ = false := blk_frozen hS.out.z2 3
      have l2 : w.heap.size + 1 + 1 < wq.heap.size := blk_lt hS.out.z2
      obtain ⟨V, hV⟩ : ∃ V, set4 wq (w.heap.size + 1 + 1) (.int .i64 Rx) (.int .i64 Ry) (.int .i64 Rz) (.int .i64 Rg) = V := ⟨_, rfl⟩
      have HV2 : V.heap[w.heap.size + 1 + 1]? = some (.cells #[.int .i64 Rx, .int .i64 Ry, .int .i64 Rz, .int .i64 Rg] 40 (0, 0)) := by rw [← hV]; exact blk4_set hS.out.z2 _ _ _ _
      have HBV : Below w.heap.size w V := by rw [← hV]; exact below_set4 hS.out.below (by omega) _ _ _ _
      have HBV := Lib.hid HBV
      have t0 : V.cell? ⟨w.heap.size + 1 + 1, 0, none⟩ = some (.int .i64 Rx) := (blk_cell HV2 0).trans rfl
      have t1 : V.cell? ⟨w.heap.size + 1 + 1, 1, none⟩ = some (.int .i64 Ry) := (blk_cell HV2 1).trans rfl
      have t2 : V.cell? ⟨w.heap.size + 1 + 1, 2, none⟩ = some (.int .i64 Rz) := (blk_cell HV2 2).trans rfl
      have t3 : V.cell? ⟨w.heap.size + 1 + 1, 3, none⟩ = some (.int .i64 Rg) := (blk_cell HV2 3).trans rfl
      clear HV2 hS
      go_wp2
      (try rw [hV])
      exact bodyPost_ret (v := .tuple #[.agg #[.int .i64 Rx, .int .i64 Ry, .int .i64 Rz, .int .i64 Rg], .bool true]) (by simp [results, Try.results25, go_sem, t0, t1, t2, t3]) rfl ⟨rfl, HBV.out⟩
end Go.Proofs.Ytckdhahceelckaa.G
namespace Go.Proofs.Ytckdhahceelckaa.G
open Go.RowKit Go.Proofs.YtckdhahceelckaaW.PrintWords Go.Proofs.YtckdhahceelckaaW.PrintLast Go.Proofs.YtckdhahceelckaaW.PrintMore
attribute [local go_sem] max2_mx min2_mn max_two min_two max_three min_three max_four min_four
attribute [local go_sem high] eqA23
set_option linter.unusedVariables false
set_option linter.unusedSimpArgs false
set_option maxHeartbeats 2000000 in
theorem apart_noa (v0 v1 v2 v3 u0 u1 u2 u3 : Value) (w : World) (ha : MaySays w (.agg #[v0, v1, v2, v3]) false) :
    Calls Try.prog 20 #[.agg #[v0, v1, v2, v3], .agg #[u0, u1, u2, u3]] w fun e w' => e = .returned (.tuple #[.agg #[.int .i64 0, .int .i64 0, .int .i64 0, .int .i64 0], .bool false]) ∧ Below w.heap.size w w' := by
  have HA := Lib.hid ha
  clear ha
  have Hb0 := three1 w (.cells #[v0, v1, v2, v3] 36) (.cells #[u0, u1, u2, u3] 36) (.cells #[.int .i64 0, .int .i64 0, .int .i64 0, .int .i64 0] 40)
  have Hr0 := three2 w (.cells #[v0, v1, v2, v3] 36) (.cells #[u0, u1, u2, u3] 36) (.cells #[.int .i64 0, .int .i64 0, .int .i64 0, .int .i64 0] 40)
  have HW3 : Below w.heap.size w (((w.alloc (.cells #[v0, v1, v2, v3] 36)).alloc (.cells #[u0, u1, u2, u3] 36)).alloc (.cells #[.int .i64 0, .int .i64 0, .int .i64 0, .int .i64 0] 40)) := (((Below.refl _ w).alloc (Nat.le_refl _) _).alloc (by simp) _).alloc (by simp; omega) _
  have HB0 := Lib.hid Hb0
  have HR0 := Lib.hid Hr0
  clear Hb0 Hr0
  go_enter Try.func20, Try.ntmps20
  go_wp2_with fail
  obtain ⟨w3, hw3⟩ : ∃ w3, ((w.alloc (.cells #[v0, v1, v2, v3] 36)).alloc (.cells #[u0, u1, u2, u3] 36)).alloc (.cells #[.int .i64 0, .int .i64 0, .int .i64 0, .int .i64 0] 40) = w3 := ⟨_, rfl⟩
  rw [hw3] at HB0 HR0 HW3 ⊢
  clear hw3
  refine (HA.out _ HW3).mono ?_
  rintro e w4 ⟨rfl, hb4⟩
  have Hr4 := (hb4.block _ (blk_lt HR0.out)).trans HR0.out
  have HW4 := bthen HW3 hb4
  clear HB0 HR0 HW3 hb4
  have v0 : w4.cell? ⟨w.heap.size + 1 + 1, 0, none⟩ = some (.int .i64 0) := (blk_cell Hr4 0).trans rfl
  have v1 : w4.cell? ⟨w.heap.size + 1 + 1, 1, none⟩ = some (.int .i64 0) := (blk_cell Hr4 1).trans rfl
  have v2 : w4.cell? ⟨w.heap.size + 1 + 1, 2, none⟩ = some (.int .i64 0) := (blk_cell Hr4 2).trans rfl
  have v3 : w4.cell? ⟨w.heap.size + 1 + 1, 3, none⟩ = some (.int .i64 0) := (blk_cell Hr4 3).trans rfl
  have f0 : w4.frozen? ⟨w.heap.size + 1 + 1, 0, none⟩ = false := blk_frozen Hr4 0
  have f1 : w4.frozen? ⟨w.heap.size + 1 + 1, 1, none⟩ = false := blk_frozen Hr4 1
  have f2 : w4.frozen? ⟨w.heap.size + 1 + 1, 2, none⟩ = false := blk_frozen Hr4 2
  have f3 : w4.frozen? ⟨w.heap.size + 1 + 1, 3, none⟩ = false := blk_frozen Hr4 3
  obtain ⟨V, hV⟩ : ∃ V, set4 w4 (w.heap.size + 1 + 1) (.int .i64 0) (.int .i64 0) (.int .i64 0) (.int .i64 0) = V := ⟨_, rfl⟩
  have HV : V.heap[w.heap.size + 1 + 1]? = some (.cells #[.int .i64 0, .int .i64 0, .int .i64 0, .int .i64 0] 40 (0, 0)) := by rw [← hV]; exact blk4_set Hr4 _ _ _ _
  have HBV : Below w.heap.size w V := by rw [← hV]; exact below_set4 HW4 (by omega) _ _ _ _
  have t0 : V.cell? ⟨w.heap.size + 1 + 1, 0, none⟩ = some (.int .i64 0) := (blk_cell HV 0).trans rfl
  have t1 : V.cell? ⟨w.heap.size + 1 + 1, 1, none⟩ = some (.int .i64 0) := (blk_cell HV 1).trans rfl
  have t2 : V.cell? ⟨w.heap.size + 1 + 1, 2, none⟩ = some (.int .i64 0) := (blk_cell HV 2).trans rfl
  have t3 : V.cell? ⟨w.heap.size + 1 + 1, 3, none⟩ = some (.int .i64 0) := (blk_cell HV 3).trans rfl
  go_wp2
  (try rw [hV])
  exact bodyPost_ret (v := .tuple #[.agg #[.int .i64 0, .int .i64 0, .int .i64 0, .int .i64 0], .bool false]) (by simp [results, Try.results20, go_sem, t0, t1, t2, t3]) rfl ⟨rfl, HBV⟩
/-- May's answer in every later world -/
def RMaySays (w : World) (v : Value) (b : Bool) : Prop := ∀ w', Below w.heap.size w w' → Calls Try.prog 62 #[v] w' fun e w'' => e = .returned (.bool b) ∧ Below w'.heap.size w' w''
set_option maxHeartbeats 2000000 in
theorem rapart_no (v0 v1 v2 v3 u0 u1 u2 u3 : Value) (w : World) (ba bb : Bool) (hab : (ba && bb) = false) (ha : RMaySays w (.agg #[v0, v1, v2, v3]) ba) (hb : RMaySays w (.agg #[u0, u1, u2, u3]) bb) :
    Calls Try.prog 25 #[.agg #[v0, v1, v2, v3], .agg #[u0, u1, u2, u3]] w fun e w' => e = .returned (.tuple #[.agg #[.int .i64 0, .int .i64 0, .int .i64 0, .int .i64 0], .bool false]) ∧ Below w.heap.size w w' := by
  have HA := Lib.hid ha
  have HB := Lib.hid hb
  clear ha hb
  have Hb0 := three1 w (.cells #[v0, v1, v2, v3] 36) (.cells #[u0, u1, u2, u3] 36) (.cells #[.int .i64 0, .int .i64 0, .int .i64 0, .int .i64 0] 40)
  have Hr0 := three2 w (.cells #[v0, v1, v2, v3] 36) (.cells #[u0, u1, u2, u3] 36) (.cells #[.int .i64 0, .int .i64 0, .int .i64 0, .int .i64 0] 40)
  have HW3 : Below w.heap.size w (((w.alloc (.cells #[v0, v1, v2, v3] 36)).alloc (.cells #[u0, u1, u2, u3] 36)).alloc (.cells #[.int .i64 0, .int .i64 0, .int .i64 0, .int .i64 0] 40)) := (((Below.refl _ w).alloc (Nat.le_refl _) _).alloc (by simp) _).alloc (by simp; omega) _
  have HB0 := Lib.hid Hb0
  have HR0 := Lib.hid Hr0
  clear Hb0 Hr0
  go_enter Try.func25, Try.ntmps25
  go_wp2_with fail
  obtain ⟨w3, hw3⟩ : ∃ w3, ((w.alloc (.cells #[v0, v1, v2, v3] 36)).alloc (.cells #[u0, u1, u2, u3] 36)).alloc (.cells #[.int .i64 0, .int .i64 0, .int .i64 0, .int .i64 0] 40) = w3 := ⟨_, rfl⟩
  rw [hw3] at HB0 HR0 HW3 ⊢
  clear hw3
  refine (HA.out _ HW3).mono ?_
  rintro e w4 ⟨rfl, hb4⟩
  have Hb4 := (hb4.block _ (blk_lt HB0.out)).trans HB0.out
  have Hr4 := (hb4.block _ (blk_lt HR0.out)).trans HR0.out
  have HW4 := bthen HW3 hb4
  clear HB0 HR0 HW3 hb4
  have x0 : w4.cell? ⟨w.heap.size + 1, 0, none⟩ = some u0 := (blk_cell Hb4 0).trans rfl
  have x1 : w4.cell? ⟨w.heap.size + 1, 1, none⟩ = some u1 := (blk_cell Hb4 1).trans rfl
  have x2 : w4.cell? ⟨w.heap.size + 1, 2, none⟩ = some u2 := (blk_cell Hb4 2).trans rfl
  have x3 : w4.cell? ⟨w.heap.size + 1, 3, none⟩ = some u3 := (blk_cell Hb4 3).trans rfl
  go_wp2_with fail
  refine (HB.out _ HW4).mono ?_
  rintro e w5 ⟨rfl, hb5⟩
  have Hr5 := (hb5.block _ (blk_lt Hr4)).trans Hr4
  have HW5 := bthen HW4 hb5
  clear Hb4 Hr4 HW4 hb5 x0 x1 x2 x3
  have v0 : w5.cell? ⟨w.heap.size + 1 + 1, 0, none⟩ = some (.int .i64 0) := (blk_cell Hr5 0).trans rfl
  have v1 : w5.cell? ⟨w.heap.size + 1 + 1, 1, none⟩ = some (.int .i64 0) := (blk_cell Hr5 1).trans rfl
  have v2 : w5.cell? ⟨w.heap.size + 1 + 1, 2, none⟩ = some (.int .i64 0) := (blk_cell Hr5 2).trans rfl
  have v3 : w5.cell? ⟨w.heap.size + 1 + 1, 3, none⟩ = some (.int .i64 0) := (blk_cell Hr5 3).trans rfl
  have f0 : w5.frozen? ⟨w.heap.size + 1 + 1, 0, none⟩ = false := blk_frozen Hr5 0
  have f1 : w5.frozen? ⟨w.heap.size + 1 + 1, 1, none⟩ = false := blk_frozen Hr5 1
  have f2 : w5.frozen? ⟨w.heap.size + 1 + 1, 2, none⟩ = false := blk_frozen Hr5 2
  have f3 : w5.frozen? ⟨w.heap.size + 1 + 1, 3, none⟩ = false := blk_frozen Hr5 3
  obtain ⟨V, hV⟩ : ∃ V, set4 w5 (w.heap.size + 1 + 1) (.int .i64 0) (.int .i64 0) (.int .i64 0) (.int .i64 0) = V := ⟨_, rfl⟩
  have HV : V.heap[w.heap.size + 1 + 1]? = some (.cells #[.int .i64 0, .int .i64 0, .int .i64 0, .int .i64 0] 40 (0, 0)) := by rw [← hV]; exact blk4_set Hr5 _ _ _ _
  have HBV : Below w.heap.size w V := by rw [← hV]; exact below_set4 HW5 (by omega) _ _ _ _
  have t0 : V.cell? ⟨w.heap.size + 1 + 1, 0, none⟩ = some (.int .i64 0) := (blk_cell HV 0).trans rfl
  have t1 : V.cell? ⟨w.heap.size + 1 + 1, 1, none⟩ = some (.int .i64 0) := (blk_cell HV 1).trans rfl
  have t2 : V.cell? ⟨w.heap.size + 1 + 1, 2, none⟩ = some (.int .i64 0) := (blk_cell HV 2).trans rfl
  have t3 : V.cell? ⟨w.heap.size + 1 + 1, 3, none⟩ = some (.int .i64 0) := (blk_cell HV 3).trans rfl
  cases ba
  all_goals cases bb
  all_goals (first | (cases hab; done) | skip)
  all_goals clear hab
  all_goals go_wp2
  all_goals (try rw [hV])
  all_goals exact bodyPost_ret (v := .tuple #[.agg #[.int .i64 0, .int .i64 0, .int .i64 0, .int .i64 0], .bool false]) (by simp [results, Try.results25, go_sem, t0, t1, t2, t3]) rfl ⟨rfl, HBV⟩
/-- Apart's whole answer -/
def apartS (p a e : List P3) (r : Int) (q b f : List P3) (s : Int) : (P3 × Int) × Bool := if (mayF p a e r && mayF q b f s) = true then (apartF p a e r q b f s, true) else ((⟨0, 0, 0⟩, 0), false)
theorem apart_all {w : World} {v u : Value} {p a e : List P3} {r : Int} {q b f : List P3} {s : Int} (hv : CoreV w v p a e r) (hu : CoreV w u q b f s) (R : (P3 × Int) × Bool) (hR : apartS p a e r q b f s = R) :
    Calls Try.prog 20 #[v, u] w fun en w' => en = .returned (.tuple #[.agg #[.int .i64 R.1.1.x, .int .i64 R.1.1.y, .int .i64 R.1.1.z, .int .i64 R.1.2], .bool R.2]) ∧ Below w.heap.size w w' := by
  subst hR
  have ha := may_all hv
  have hb := may_all hu
  obtain ⟨A0, A1, A2, c0, c1, c2, hve, _⟩ := hv.out
  obtain ⟨B0, B1, B2, d0, d1, d2, hue, _⟩ := hu.out
  unfold apartS
  cases h1 : mayF p a e r with
  | false =>
    rw [h1] at ha
    subst hve hue
    exact apart_noa _ _ _ _ _ _ _ _ w ha
  | true =>
    cases h2 : mayF q b f s with
    | false =>
      rw [h1] at ha
      rw [h2] at hb
      subst hve hue
      exact apart_nob _ _ _ _ _ _ _ _ w ha hb
    | true => exact apart_calls p a e r q b f s v u w hv hu ((mayF_iff p a e r).1 h1) ((mayF_iff q b f s).1 h2) _ rfl
theorem rapart_all {w : World} {v u : Value} {p a e : List P3} {r : Int} {q b f : List P3} {s : Int} (hv : CoreV w v p a e r) (hu : CoreV w u q b f s) (hl : p.length < 9223372036854775807 ∧ a.length < 9223372036854775807 ∧ e.length < 9223372036854775807) (hk : q.length < 9223372036854775807 ∧ b.length < 9223372036854775807 ∧ f.length < 9223372036854775807) (R : (P3 × Int) × Bool) (hR : apartS p a e r q b f s = R) :
    Calls Try.prog 25 #[v, u] w fun en w' => en = .returned (.tuple #[.agg #[.int .i64 R.1.1.x, .int .i64 R.1.1.y, .int .i64 R.1.1.z, .int .i64 R.1.2], .bool R.2]) ∧ Below w.heap.size w w' := by
  subst hR
  have ha : RMaySays w v (mayF p a e r) := fun W hW => rmay_calls (hv.below hW) hl.1 hl.2.1 hl.2.2
  have hb : RMaySays w u (mayF q b f s) := fun W hW => rmay_calls (hu.below hW) hk.1 hk.2.1 hk.2.2
  obtain ⟨A0, A1, A2, c0, c1, c2, hve, _⟩ := hv.out
  obtain ⟨B0, B1, B2, d0, d1, d2, hue, _⟩ := hu.out
  unfold apartS
  cases h : (mayF p a e r && mayF q b f s) with
  | false =>
    subst hve hue
    exact rapart_no _ _ _ _ _ _ _ _ w _ _ h ha hb
  | true =>
    rw [Bool.and_eq_true] at h
    exact rapart_yes hv hu ((mayF_iff p a e r).1 h.1) ((mayF_iff q b f s).1 h.2) _ rfl
end Go.Proofs.Ytckdhahceelckaa.G
namespace Go.Proofs.Ytckdhahceelckaa.G
open Go.RowKit Go.Proofs.YtckdhahceelckaaW.PrintWords Go.Proofs.YtckdhahceelckaaW.PrintLast Go.Proofs.YtckdhahceelckaaW.PrintMore
attribute [local go_sem] max2_mx min2_mn max_two min_two max_three min_three max_four min_four
attribute [local go_sem high] eqA23
set_option linter.unusedVariables false
set_option linter.unusedSimpArgs false
section
variable {P : Program} {ops : Array Oper} {Q : Exit → Act → World → Prop} {S : World → Prop}
/-- a call of a function value in a region -/
theorem goesf_ {oi : Oper} {N : Option Tmp} {a : Act} {w : World} {K : Act → World → Prop} {f : FuncId} {fn : Func} {os : Array Operand} {ts : Array TypeId} (x : Operand) (caps : Array Value) (hf : P.funcs[f]? = some fn) (hname : (fn.name == "runtime.NumGoroutine") = false) (hb : fn.body.isSome = true) (args : Array Value)
    (hw : Region.wanted oi (yielded ops a.tmps) = true) (hN : oi.dst = N) (hop : oi.op = .call { callee := .value x, args := os, argTypes := ts }) (hx : a.eval x = .func (.func f) #[] caps) (hargs : os.map a.eval ++ caps = args)
    (h : Calls P f args w fun e w' => ∃ v, e = .returned v ∧ K (a.put N v) w') : if Region.wanted oi (yielded ops a.tmps) = true then Oper.wp P oi a w K Q else K (a.put N undef) w := by
  refine call_ f args hw hN ?_ h
  have he := enters_ hf hname hb args w
  unfold execOp
  simp [hop, resolve, Deferred.ofValue, invoke, hx, hargs, he]
end
set_option maxHeartbeats 4000000 in
set_option maxRecDepth 100000 in
theorem reach_B (p : List P3) (A0 : Option Addr) (c0 : Nat) (v1 v2 v3 : Value) (x y z : Int) (w : World) (h0 : Rd w A0 p) (k0 : p.length ≤ c0) (hp1 : 0 < p.length) (hF : far3 67108864 ⟨x, y, z⟩ = true ∧ True) :
    Calls Try.prog 28 #[.agg #[.slice A0 p.length c0, v1, v2, v3], .agg #[.int .i64 x, .int .i64 y, .int .i64 z]] w fun e w' => e = .returned (.tuple #[.int .i64 0, .int .i64 0]) ∧ Below w.heap.size w w' := by
  have H0 := Lib.hid h0
  have HF := Lib.hid hF
  clear h0 hF
  obtain ⟨np, hnp⟩ : ∃ n, p.length = n := ⟨_, rfl⟩
  rw [hnp] at k0 hp1 ⊢
  have HNP := Lib.hid hnp
  clear hnp
  have tq : ((np : Int) == 0) = false := by simp; omega
  have zz := (Below.heap_alloc (w.alloc (.cells #[.slice A0 np c0, v1, v2, v3] 36)) (.cells #[.int .i64 x, .int .i64 y, .int .i64 z] 23) w.heap.size (by simp)).trans (heap_alloc_new w (.cells #[.slice A0 np c0, v1, v2, v3] 36))
  have y0 := heap_alloc_new (w.alloc (.cells #[.slice A0 np c0, v1, v2, v3] 36)) (.cells #[.int .i64 x, .int .i64 y, .int .i64 z] 23)
  rw [World.size_alloc] at y0
  have zb := ((Below.refl _ w).alloc (Nat.le_refl _) (.cells #[.slice A0 np c0, v1, v2, v3] 36)).alloc (by simp) (.cells #[.int .i64 x, .int .i64 y, .int .i64 z] 23)
  obtain ⟨w1, hw1⟩ : ∃ V, (w.alloc (.cells #[.slice A0 np c0, v1, v2, v3] 36)).alloc (.cells #[.int .i64 x, .int .i64 y, .int .i64 z] 23) = V := ⟨_, rfl⟩
  rw [hw1] at zz zb y0
  have hw1' := Lib.hid hw1
  have ZB := Lib.hid zb
  have Z0 := Lib.hid zz
  have Y0 := Lib.hid y0
  have lt0 : w.heap.size < w1.heap.size := blk_lt zz
  have lt1 : w.heap.size + 1 < w1.heap.size := blk_lt y0
  have x0 : w1.cell? ⟨w.heap.size, 0, none⟩ = some (.slice A0 np c0) := (blk_cell zz 0).trans rfl
  have q0 : w1.cell? ⟨w.heap.size + 1, 0, none⟩ = some (.int .i64 x) := (blk_cell y0 0).trans rfl
  have q1 : w1.cell? ⟨w.heap.size + 1, 1, none⟩ = some (.int .i64 y) := (blk_cell y0 1).trans rfl
  have q2 : w1.cell? ⟨w.heap.size + 1, 2, none⟩ = some (.int .i64 z) := (blk_cell y0 2).trans rfl
  clear hw1 zb zz y0
  go_enter Try.func28, Try.ntmps28
  go_wp2
  rw [hw1'.out]
  clear hw1'
  have HB := Lib.hid ((Below.refl (w1.heap.size) w1).drew)
  have FF := Lib.hid (show ∀ V, Hid (Below (w1.heap.size) w1 V) → V.cell? ⟨w.heap.size, 0, none⟩ = some (.slice A0 np c0) ∧ V.cell? ⟨w.heap.size + 1, 0, none⟩ = some (.int .i64 x) ∧ V.cell? ⟨w.heap.size + 1, 1, none⟩ = some (.int .i64 y) ∧ V.cell? ⟨w.heap.size + 1, 2, none⟩ = some (.int .i64 z) from fun V HB => ⟨(HB.out.cell (p := ⟨w.heap.size, 0, none⟩) (lt0)).trans x0, (HB.out.cell (p := ⟨w.heap.size + 1, 0, none⟩) (lt1)).trans q0, (HB.out.cell (p := ⟨w.heap.size + 1, 1, none⟩) (lt1)).trans q1, (HB.out.cell (p := ⟨w.heap.size + 1, 2, none⟩) (lt1)).trans q2⟩)
  refine start_ (n := 15) (S := fun w' => w'.cell? ⟨w.heap.size, 0, none⟩ = some (.slice A0 np c0) ∧ w'.cell? ⟨w.heap.size + 1, 0, none⟩ = some (.int .i64 x) ∧ w'.cell? ⟨w.heap.size + 1, 1, none⟩ = some (.int .i64 y) ∧ w'.cell? ⟨w.heap.size + 1, 2, none⟩ = some (.int .i64 z)) (ds := []) (MT 0 15) (by kernel_rfl) rfl rfl (FF.out _ HB) (fun hHeld => ?_)
  obtain ⟨wd, hwd⟩ : ∃ x, w1.drew = x := ⟨_, rfl⟩
  rw [hwd] at HB hHeld ⊢
  clear hwd
  refine pu_ 0 6 (h := ?_)
  refine ta_ 1 7 hHeld (h := ?_)
  refine pu_ 2 8 (h := ?_)
  refine pu_ 3 9 (h := ?_)
  refine pu_ 4 10 (h := ?_)
  refine ta_ 6 12 hHeld (h := ?_)
  refine on_ 5 (some 11) (h := fun K hK => ?_)
  refine goes_ Try.func65 (by kernel_rfl) rfl #[.int .i64 67108864] (by rfl) rfl rfl (by simp only [List.map_toArray, List.map_cons, List.map_nil]; rfl) ?_
  with_reducible refine (beyondE_calls _ _).mono ?_
  rintro e' w2 ⟨g, rfl, kg_, hb⟩
  have HB := Lib.hid (HB.out.trans (hb.mono (Nat.le_trans (Nat.le_refl _) HB.out.size)))
  have HGc := Lib.hid kg_
  clear kg_
  clear hb
  refine ⟨_, rfl, ?_⟩
  refine hK.out _ _ (FF.out _ HB) (fun hHeld => ?_)
  clear hK K
  refine no_ (h := ?_)
  refine on_ 7 (some 13) (h := fun K hK => ?_)
  refine goesf_ (.tmp 11) #[.pointer (some ⟨g, 0, none⟩)] Try.func121 (by kernel_rfl) rfl #[.agg #[.int .i64 x, .int .i64 y, .int .i64 z], .pointer (some ⟨g, 0, none⟩)] (by rfl) rfl rfl (by rfl) (by simp only [List.map_toArray, List.map_cons, List.map_nil, List.append_toArray, List.cons_append, List.nil_append]; rfl) ?_
  with_reducible refine (beyond1_calls x y z 67108864 g _ HGc.out (by decide) (by decide)).mono ?_
  rintro e' w2 ⟨rfl, hb⟩
  rw [HF.out.1]
  have HB := Lib.hid (HB.out.trans (hb.mono (Nat.le_trans (Nat.le_refl _) HB.out.size)))
  clear HGc hb
  refine ⟨_, rfl, ?_⟩
  refine hK.out _ _ (FF.out _ HB) (fun hHeld => ?_)
  clear hK K
  refine no_ (h := ?_)
  refine pu_ 8 14 (h := ?_)
  refine pu_ 9 15 (h := ?_)
  refine of_ 10 16 (h := ?_)
  refine of_ 11 17 (h := ?_)
  refine of_ 12 18 (h := ?_)
  refine of_ 13 19 (h := ?_)
  refine pu_ 14 20 (h := ?_)
  refine done_ (by kernel_rfl) ?_
  have ZF := Lib.hid (bthen ZB.out HB.out)
  go_wp2
  go_ret2
  exact ⟨rfl, ZF.out⟩
set_option maxHeartbeats 4000000 in
set_option maxRecDepth 100000 in
theorem reach_C (p : List P3) (A0 : Option Addr) (c0 : Nat) (v1 v2 v3 : Value) (x y z : Int) (w : World) (h0 : Rd w A0 p) (k0 : p.length ≤ c0) (hp1 : 0 < p.length) (hm : p.length < 9223372036854775807) (hF : far3 67108864 ⟨x, y, z⟩ = false ∧ p.any (far3 67108864) = true) :
    Calls Try.prog 28 #[.agg #[.slice A0 p.length c0, v1, v2, v3], .agg #[.int .i64 x, .int .i64 y, .int .i64 z]] w fun e w' => e = .returned (.tuple #[.int .i64 0, .int .i64 0]) ∧ Below w.heap.size w w' := by
  have H0 := Lib.hid h0
  have HF := Lib.hid hF
  clear h0 hF
  obtain ⟨np, hnp⟩ : ∃ n, p.length = n := ⟨_, rfl⟩
  rw [hnp] at k0 hp1 hm ⊢
  have HNP := Lib.hid hnp
  clear hnp
  have tq : ((np : Int) == 0) = false := by simp; omega
  have zz := (Below.heap_alloc (w.alloc (.cells #[.slice A0 np c0, v1, v2, v3] 36)) (.cells #[.int .i64 x, .int .i64 y, .int .i64 z] 23) w.heap.size (by simp)).trans (heap_alloc_new w (.cells #[.slice A0 np c0, v1, v2, v3] 36))
  have y0 := heap_alloc_new (w.alloc (.cells #[.slice A0 np c0, v1, v2, v3] 36)) (.cells #[.int .i64 x, .int .i64 y, .int .i64 z] 23)
  rw [World.size_alloc] at y0
  have zb := ((Below.refl _ w).alloc (Nat.le_refl _) (.cells #[.slice A0 np c0, v1, v2, v3] 36)).alloc (by simp) (.cells #[.int .i64 x, .int .i64 y, .int .i64 z] 23)
  obtain ⟨w1, hw1⟩ : ∃ V, (w.alloc (.cells #[.slice A0 np c0, v1, v2, v3] 36)).alloc (.cells #[.int .i64 x, .int .i64 y, .int .i64 z] 23) = V := ⟨_, rfl⟩
  rw [hw1] at zz zb y0
  have hw1' := Lib.hid hw1
  have ZB := Lib.hid zb
  have Z0 := Lib.hid zz
  have Y0 := Lib.hid y0
  have lt0 : w.heap.size < w1.heap.size := blk_lt zz
  have lt1 : w.heap.size + 1 < w1.heap.size := blk_lt y0
  have x0 : w1.cell? ⟨w.heap.size, 0, none⟩ = some (.slice A0 np c0) := (blk_cell zz 0).trans rfl
  have q0 : w1.cell? ⟨w.heap.size + 1, 0, none⟩ = some (.int .i64 x) := (blk_cell y0 0).trans rfl
  have q1 : w1.cell? ⟨w.heap.size + 1, 1, none⟩ = some (.int .i64 y) := (blk_cell y0 1).trans rfl
  have q2 : w1.cell? ⟨w.heap.size + 1, 2, none⟩ = some (.int .i64 z) := (blk_cell y0 2).trans rfl
  clear hw1 zb zz y0
  go_enter Try.func28, Try.ntmps28
  go_wp2
  rw [hw1'.out]
  clear hw1'
  have HB := Lib.hid ((Below.refl (w1.heap.size) w1).drew)
  have FF := Lib.hid (show ∀ V, Hid (Below (w1.heap.size) w1 V) → V.cell? ⟨w.heap.size, 0, none⟩ = some (.slice A0 np c0) ∧ V.cell? ⟨w.heap.size + 1, 0, none⟩ = some (.int .i64 x) ∧ V.cell? ⟨w.heap.size + 1, 1, none⟩ = some (.int .i64 y) ∧ V.cell? ⟨w.heap.size + 1, 2, none⟩ = some (.int .i64 z) from fun V HB => ⟨(HB.out.cell (p := ⟨w.heap.size, 0, none⟩) (lt0)).trans x0, (HB.out.cell (p := ⟨w.heap.size + 1, 0, none⟩) (lt1)).trans q0, (HB.out.cell (p := ⟨w.heap.size + 1, 1, none⟩) (lt1)).trans q1, (HB.out.cell (p := ⟨w.heap.size + 1, 2, none⟩) (lt1)).trans q2⟩)
  refine start_ (n := 15) (S := fun w' => w'.cell? ⟨w.heap.size, 0, none⟩ = some (.slice A0 np c0) ∧ w'.cell? ⟨w.heap.size + 1, 0, none⟩ = some (.int .i64 x) ∧ w'.cell? ⟨w.heap.size + 1, 1, none⟩ = some (.int .i64 y) ∧ w'.cell? ⟨w.heap.size + 1, 2, none⟩ = some (.int .i64 z)) (ds := []) (MT 0 15) (by kernel_rfl) rfl rfl (FF.out _ HB) (fun hHeld => ?_)
  obtain ⟨wd, hwd⟩ : ∃ x, w1.drew = x := ⟨_, rfl⟩
  rw [hwd] at HB hHeld ⊢
  clear hwd
  refine pu_ 0 6 (h := ?_)
  refine ta_ 1 7 hHeld (h := ?_)
  refine pu_ 2 8 (h := ?_)
  refine pu_ 3 9 (h := ?_)
  refine pu_ 4 10 (h := ?_)
  refine ta_ 6 12 hHeld (h := ?_)
  refine on_ 5 (some 11) (h := fun K hK => ?_)
  refine goes_ Try.func65 (by kernel_rfl) rfl #[.int .i64 67108864] (by rfl) rfl rfl (by simp only [List.map_toArray, List.map_cons, List.map_nil]; rfl) ?_
  with_reducible refine (beyondE_calls _ _).mono ?_
  rintro e' w2 ⟨g, rfl, kg_, hb⟩
  have HB := Lib.hid (HB.out.trans (hb.mono (Nat.le_trans (Nat.le_refl _) HB.out.size)))
  have HGc := Lib.hid kg_
  clear kg_
  clear hb
  refine ⟨_, rfl, ?_⟩
  refine hK.out _ _ (FF.out _ HB) (fun hHeld => ?_)
  clear hK K
  refine no_ (h := ?_)
  refine on_ 7 (some 13) (h := fun K hK => ?_)
  refine goesf_ (.tmp 11) #[.pointer (some ⟨g, 0, none⟩)] Try.func121 (by kernel_rfl) rfl #[.agg #[.int .i64 x, .int .i64 y, .int .i64 z], .pointer (some ⟨g, 0, none⟩)] (by rfl) rfl rfl (by rfl) (by simp only [List.map_toArray, List.map_cons, List.map_nil, List.append_toArray, List.cons_append, List.nil_append]; rfl) ?_
  with_reducible refine (beyond1_calls x y z 67108864 g _ HGc.out (by decide) (by decide)).mono ?_
  rintro e' w2 ⟨rfl, hb⟩
  rw [HF.out.1]
  have HB := Lib.hid (HB.out.trans (hb.mono (Nat.le_trans (Nat.le_refl _) HB.out.size)))
  clear HGc hb
  refine ⟨_, rfl, ?_⟩
  refine hK.out _ _ (FF.out _ HB) (fun hHeld => ?_)
  clear hK K
  refine no_ (h := ?_)
  refine pu_ 8 14 (h := ?_)
  refine pu_ 9 15 (h := ?_)
  refine pu_ 10 16 (h := ?_)
  refine ta_ 11 17 hHeld (h := ?_)
  refine on_ 12 (some 18) (h := fun K hK => ?_)
  refine goes_ Try.func65 (by kernel_rfl) rfl #[.int .i64 67108864] (by rfl) rfl rfl (by simp only [List.map_toArray, List.map_cons, List.map_nil]; rfl) ?_
  with_reducible refine (beyondE_calls _ _).mono ?_
  rintro e' w2 ⟨g2, rfl, kg_, hb⟩
  have HB := Lib.hid (HB.out.trans (hb.mono (Nat.le_trans (Nat.le_refl _) HB.out.size)))
  have HGc := Lib.hid kg_
  clear kg_
  clear hb
  refine ⟨_, rfl, ?_⟩
  refine hK.out _ _ (FF.out _ HB) (fun hHeld => ?_)
  clear hK K
  refine no_ (h := ?_)
  refine on_ 13 (some 19) (h := fun K hK => ?_)
  refine goes_ Try.func68 (by kernel_rfl) rfl #[.slice A0 np c0, .func (.func 121) #[] #[.pointer (some ⟨g2, 0, none⟩)]] (by rfl) rfl rfl (by simp only [List.map_toArray, List.map_cons, List.map_nil]; rfl) ?_
  with_reducible refine (contains_calls' p _ _ _ 67108864 _ true _ HNP.out HF.out.2 (H0.out.below (bthen ZB.out HB.out)) k0 hm HGc.out (by decide) (by decide)).mono ?_
  rintro e' w2 ⟨rfl, hb⟩
  have HB := Lib.hid (HB.out.trans (hb.mono (Nat.le_trans (Nat.le_refl _) HB.out.size)))
  clear HGc
  clear hb
  refine ⟨_, rfl, ?_⟩
  refine hK.out _ _ (FF.out _ HB) (fun hHeld => ?_)
  clear hK K
  refine no_ (h := ?_)
  refine pu_ 14 20 (h := ?_)
  refine done_ (by kernel_rfl) ?_
  have ZF := Lib.hid (bthen ZB.out HB.out)
  go_wp2
  go_ret2
  exact ⟨rfl, ZF.out⟩
set_option maxHeartbeats 4000000 in
set_option maxRecDepth 100000 in
theorem reach_D (p : List P3) (p0 : P3) (pr : List P3) (hpp : p = p0 :: pr) (A0 : Option Addr) (c0 : Nat) (v1 v2 v3 : Value) (x y z : Int) (w : World) (h0 : Rd w A0 p) (k0 : p.length ≤ c0) (hp1 : 0 < p.length) (hm : p.length < 9223372036854775807) (hF : far3 67108864 ⟨x, y, z⟩ = false ∧ p.any (far3 67108864) = false) :
    Calls Try.prog 28 #[.agg #[.slice A0 p.length c0, v1, v2, v3], .agg #[.int .i64 x, .int .i64 y, .int .i64 z]] w fun e w' => e = .returned (.tuple #[.int .i64 (reachF ⟨x, y, z⟩ p0 pr).1, .int .i64 (reachF ⟨x, y, z⟩ p0 pr).2]) ∧ Below w.heap.size w w' := by
  have HR := Lib.hid (fun W (hW : Rd W A0 p) => reach_calls p0 pr A0 c0 x y z W (hpp ▸ hW) (by rw [hpp] at k0; simpa using k0) (by rw [hpp] at hm; simp at hm; omega))
  rw [show pr.length + 1 = p.length by rw [hpp]; rfl] at HR
  obtain ⟨lo, hlo⟩ : ∃ k, (reachF ⟨x, y, z⟩ p0 pr).1 = k := ⟨_, rfl⟩
  obtain ⟨hi, hhi⟩ : ∃ k, (reachF ⟨x, y, z⟩ p0 pr).2 = k := ⟨_, rfl⟩
  rw [hlo, hhi] at HR ⊢
  clear hlo hhi hpp
  have H0 := Lib.hid h0
  have HF := Lib.hid hF
  clear h0 hF
  obtain ⟨np, hnp⟩ : ∃ n, p.length = n := ⟨_, rfl⟩
  rw [hnp] at k0 hp1 hm HR ⊢
  have HNP := Lib.hid hnp
  clear hnp
  have tq : ((np : Int) == 0) = false := by simp; omega
  have zz := (Below.heap_alloc (w.alloc (.cells #[.slice A0 np c0, v1, v2, v3] 36)) (.cells #[.int .i64 x, .int .i64 y, .int .i64 z] 23) w.heap.size (by simp)).trans (heap_alloc_new w (.cells #[.slice A0 np c0, v1, v2, v3] 36))
  have y0 := heap_alloc_new (w.alloc (.cells #[.slice A0 np c0, v1, v2, v3] 36)) (.cells #[.int .i64 x, .int .i64 y, .int .i64 z] 23)
  rw [World.size_alloc] at y0
  have zb := ((Below.refl _ w).alloc (Nat.le_refl _) (.cells #[.slice A0 np c0, v1, v2, v3] 36)).alloc (by simp) (.cells #[.int .i64 x, .int .i64 y, .int .i64 z] 23)
  obtain ⟨w1, hw1⟩ : ∃ V, (w.alloc (.cells #[.slice A0 np c0, v1, v2, v3] 36)).alloc (.cells #[.int .i64 x, .int .i64 y, .int .i64 z] 23) = V := ⟨_, rfl⟩
  rw [hw1] at zz zb y0
  have hw1' := Lib.hid hw1
  have ZB := Lib.hid zb
  have Z0 := Lib.hid zz
  have Y0 := Lib.hid y0
  have lt0 : w.heap.size < w1.heap.size := blk_lt zz
  have lt1 : w.heap.size + 1 < w1.heap.size := blk_lt y0
  have x0 : w1.cell? ⟨w.heap.size, 0, none⟩ = some (.slice A0 np c0) := (blk_cell zz 0).trans rfl
  have q0 : w1.cell? ⟨w.heap.size + 1, 0, none⟩ = some (.int .i64 x) := (blk_cell y0 0).trans rfl
  have q1 : w1.cell? ⟨w.heap.size + 1, 1, none⟩ = some (.int .i64 y) := (blk_cell y0 1).trans rfl
  have q2 : w1.cell? ⟨w.heap.size + 1, 2, none⟩ = some (.int .i64 z) := (blk_cell y0 2).trans rfl
  clear hw1 zb zz y0
  go_enter Try.func28, Try.ntmps28
  go_wp2
  rw [hw1'.out]
  clear hw1'
  have HB := Lib.hid ((Below.refl (w1.heap.size) w1).drew)
  have FF := Lib.hid (show ∀ V, Hid (Below (w1.heap.size) w1 V) → V.cell? ⟨w.heap.size, 0, none⟩ = some (.slice A0 np c0) ∧ V.cell? ⟨w.heap.size + 1, 0, none⟩ = some (.int .i64 x) ∧ V.cell? ⟨w.heap.size + 1, 1, none⟩ = some (.int .i64 y) ∧ V.cell? ⟨w.heap.size + 1, 2, none⟩ = some (.int .i64 z) from fun V HB => ⟨(HB.out.cell (p := ⟨w.heap.size, 0, none⟩) (lt0)).trans x0, (HB.out.cell (p := ⟨w.heap.size + 1, 0, none⟩) (lt1)).trans q0, (HB.out.cell (p := ⟨w.heap.size + 1, 1, none⟩) (lt1)).trans q1, (HB.out.cell (p := ⟨w.heap.size + 1, 2, none⟩) (lt1)).trans q2⟩)
  refine start_ (n := 15) (S := fun w' => w'.cell? ⟨w.heap.size, 0, none⟩ = some (.slice A0 np c0) ∧ w'.cell? ⟨w.heap.size + 1, 0, none⟩ = some (.int .i64 x) ∧ w'.cell? ⟨w.heap.size + 1, 1, none⟩ = some (.int .i64 y) ∧ w'.cell? ⟨w.heap.size + 1, 2, none⟩ = some (.int .i64 z)) (ds := []) (MT 0 15) (by kernel_rfl) rfl rfl (FF.out _ HB) (fun hHeld => ?_)
  obtain ⟨wd, hwd⟩ : ∃ x, w1.drew = x := ⟨_, rfl⟩
  rw [hwd] at HB hHeld ⊢
  clear hwd
  refine pu_ 0 6 (h := ?_)
  refine ta_ 1 7 hHeld (h := ?_)
  refine pu_ 2 8 (h := ?_)
  refine pu_ 3 9 (h := ?_)
  refine pu_ 4 10 (h := ?_)
  refine ta_ 6 12 hHeld (h := ?_)
  refine on_ 5 (some 11) (h := fun K hK => ?_)
  refine goes_ Try.func65 (by kernel_rfl) rfl #[.int .i64 67108864] (by rfl) rfl rfl (by simp only [List.map_toArray, List.map_cons, List.map_nil]; rfl) ?_
  with_reducible refine (beyondE_calls _ _).mono ?_
  rintro e' w2 ⟨g, rfl, kg_, hb⟩
  have HB := Lib.hid (HB.out.trans (hb.mono (Nat.le_trans (Nat.le_refl _) HB.out.size)))
  have HGc := Lib.hid kg_
  clear kg_
  clear hb
  refine ⟨_, rfl, ?_⟩
  refine hK.out _ _ (FF.out _ HB) (fun hHeld => ?_)
  clear hK K
  refine no_ (h := ?_)
  refine on_ 7 (some 13) (h := fun K hK => ?_)
  refine goesf_ (.tmp 11) #[.pointer (some ⟨g, 0, none⟩)] Try.func121 (by kernel_rfl) rfl #[.agg #[.int .i64 x, .int .i64 y, .int .i64 z], .pointer (some ⟨g, 0, none⟩)] (by rfl) rfl rfl (by rfl) (by simp only [List.map_toArray, List.map_cons, List.map_nil, List.append_toArray, List.cons_append, List.nil_append]; rfl) ?_
  with_reducible refine (beyond1_calls x y z 67108864 g _ HGc.out (by decide) (by decide)).mono ?_
  rintro e' w2 ⟨rfl, hb⟩
  rw [HF.out.1]
  have HB := Lib.hid (HB.out.trans (hb.mono (Nat.le_trans (Nat.le_refl _) HB.out.size)))
  clear HGc hb
  refine ⟨_, rfl, ?_⟩
  refine hK.out _ _ (FF.out _ HB) (fun hHeld => ?_)
  clear hK K
  refine no_ (h := ?_)
  refine pu_ 8 14 (h := ?_)
  refine pu_ 9 15 (h := ?_)
  refine pu_ 10 16 (h := ?_)
  refine ta_ 11 17 hHeld (h := ?_)
  refine on_ 12 (some 18) (h := fun K hK => ?_)
  refine goes_ Try.func65 (by kernel_rfl) rfl #[.int .i64 67108864] (by rfl) rfl rfl (by simp only [List.map_toArray, List.map_cons, List.map_nil]; rfl) ?_
  with_reducible refine (beyondE_calls _ _).mono ?_
  rintro e' w2 ⟨g2, rfl, kg_, hb⟩
  have HB := Lib.hid (HB.out.trans (hb.mono (Nat.le_trans (Nat.le_refl _) HB.out.size)))
  have HGc := Lib.hid kg_
  clear kg_
  clear hb
  refine ⟨_, rfl, ?_⟩
  refine hK.out _ _ (FF.out _ HB) (fun hHeld => ?_)
  clear hK K
  refine no_ (h := ?_)
  refine on_ 13 (some 19) (h := fun K hK => ?_)
  refine goes_ Try.func68 (by kernel_rfl) rfl #[.slice A0 np c0, .func (.func 121) #[] #[.pointer (some ⟨g2, 0, none⟩)]] (by rfl) rfl rfl (by simp only [List.map_toArray, List.map_cons, List.map_nil]; rfl) ?_
  with_reducible refine (contains_calls' p _ _ _ 67108864 _ false _ HNP.out HF.out.2 (H0.out.below (bthen ZB.out HB.out)) k0 hm HGc.out (by decide) (by decide)).mono ?_
  rintro e' w2 ⟨rfl, hb⟩
  have HB := Lib.hid (HB.out.trans (hb.mono (Nat.le_trans (Nat.le_refl _) HB.out.size)))
  clear HGc
  clear hb
  refine ⟨_, rfl, ?_⟩
  refine hK.out _ _ (FF.out _ HB) (fun hHeld => ?_)
  clear hK K
  refine no_ (h := ?_)
  refine pu_ 14 20 (h := ?_)
  refine done_ (by kernel_rfl) ?_
  have ZF := Lib.hid (bthen ZB.out HB.out)
  have Z1 := (HB.out.block _ (blk_lt Z0.out)).trans Z0.out
  have Y1 := (HB.out.block _ (blk_lt Y0.out)).trans Y0.out
  clear x0 q0 q1 q2 lt0 lt1
  have lt0 : w.heap.size < w2.heap.size := blk_lt Z1
  have lt1 : w.heap.size + 1 < w2.heap.size := blk_lt Y1
  have x0 : w2.cell? ⟨w.heap.size, 0, none⟩ = some (.slice A0 np c0) := (blk_cell Z1 0).trans rfl
  have q0 : w2.cell? ⟨w.heap.size + 1, 0, none⟩ = some (.int .i64 x) := (blk_cell Y1 0).trans rfl
  have q1 : w2.cell? ⟨w.heap.size + 1, 1, none⟩ = some (.int .i64 y) := (blk_cell Y1 1).trans rfl
  have q2 : w2.cell? ⟨w.heap.size + 1, 2, none⟩ = some (.int .i64 z) := (blk_cell Y1 2).trans rfl
  clear Z1 Y1
  go_wp2_with fail
  refine (HR.out w2 (H0.out.below ZF.out)).mono ?_
  rintro e' w3 ⟨rfl, hb⟩
  have ZG := Lib.hid (bthen ZF.out hb)
  go_wp2
  go_ret2
  exact ⟨rfl, ZG.out⟩
end Go.Proofs.Ytckdhahceelckaa.G
namespace Go.Proofs.Ytckdhahceelckaa.G
open Go.RowKit Go.Proofs.YtckdhahceelckaaW.PrintWords Go.Proofs.YtckdhahceelckaaW.PrintLast Go.Proofs.YtckdhahceelckaaW.PrintMore
attribute [local go_sem] max2_mx min2_mn max_two min_two max_three min_three max_four min_four
attribute [local go_sem high] eqA23
set_option linter.unusedVariables false
set_option linter.unusedSimpArgs false
/-- Reach's answer -/
def reachS (p : List P3) (n : P3) : Int × Int := match p with
  | [] => (0, 0)
  | p0 :: pr => if far3 67108864 n || (p0 :: pr).any (far3 67108864) then (0, 0) else reachF n p0 pr
set_option maxHeartbeats 2000000 in
theorem reach_A (A0 : Option Addr) (c0 : Nat) (v1 v2 v3 : Value) (x y z : Int) (w : World) :
    Calls Try.prog 28 #[.agg #[.slice A0 0 c0, v1, v2, v3], .agg #[.int .i64 x, .int .i64 y, .int .i64 z]] w fun e w' => e = .returned (.tuple #[.int .i64 0, .int .i64 0]) ∧ Below w.heap.size w w' := by
  go_enter Try.func28, Try.ntmps28
  go_wp2
  go_quiet (fail)
  go_wp2
  go_ret2
  exact ⟨rfl, pw_below_drewN (((Below.refl _ w).alloc (Nat.le_refl _) _).alloc (by simp) _) _⟩
theorem reach28_calls {w : World} {v : Value} {p a e : List P3} {r : Int} (h : CoreV w v p a e r) (hm : p.length < 9223372036854775807) (n : P3) :
    Calls Try.prog 28 #[v, aP n] w fun en w' => en = .returned (.tuple #[.int .i64 (reachS p n).1, .int .i64 (reachS p n).2]) ∧ Below w.heap.size w w' := by
  obtain ⟨A0, A1, A2, c0, c1, c2, rfl, h0, h1, h2, k0, _⟩ := h.out
  obtain ⟨x, y, z⟩ := n
  cases p with
  | nil => exact reach_A A0 c0 _ _ _ x y z w
  | cons p0 pr =>
    unfold reachS
    simp only
    cases hf : far3 67108864 ⟨x, y, z⟩ with
    | true => exact reach_B (p0 :: pr) A0 c0 _ _ _ x y z w h0.1 k0 (by simp) ⟨hf, trivial⟩
    | false =>
      cases hg : (p0 :: pr).any (far3 67108864) with
      | true => exact reach_C (p0 :: pr) A0 c0 _ _ _ x y z w h0.1 k0 (by simp) hm ⟨hf, hg⟩
      | false => exact reach_D (p0 :: pr) p0 pr rfl A0 c0 _ _ _ x y z w h0.1 k0 (by simp) hm ⟨hf, hg⟩
def rrF (n p0 : P3) (l : List P3) : Int × Int := l.foldl (rstep n) (dot3 n p0, dot3 n p0)
theorem rrF_snoc (n p0 : P3) (r : List P3) (k : Nat) (h : k < r.length) : rrF n p0 (r.take (k + 1)) = rstep n (rrF n p0 (r.take k)) r[k] := by
  unfold rrF
  rw [List.take_succ_eq_append_getElem h, List.foldl_append]; rfl
theorem rrF_all (n p0 : P3) (r : List P3) : rrF n p0 (p0 :: r) = reachF n p0 r := by
  unfold rrF reachF
  rw [List.foldl_cons]
  have : rstep n (dot3 n p0, dot3 n p0) p0 = (dot3 n p0, dot3 n p0) := by unfold rstep mn mx; simp
  rw [this]
set_option maxHeartbeats 4000000 in
set_option maxRecDepth 100000 in
theorem rreach_calls {w : World} {v : Value} {p a e : List P3} {r : Int} (h : CoreV w v p a e r) (hm : p.length < 9223372036854775807) (n : P3) (R : Int × Int) (hR : reachS p n = R) :
    Calls Try.prog 29 #[v, aP n] w fun en w' => en = .returned (.tuple #[.int .i64 R.1, .int .i64 R.2]) ∧ Below w.heap.size w w' := by
  obtain ⟨A0, A1, A2, c0, c1, c2, rfl, h0, h1, h2, _⟩ := h.out
  have H0 := Lib.hid (fun W (hW : RdB W A0 p) => all_calls p A0 c0 67108864 W hW.1 hm (by decide) (by decide))
  rw [allIn_far _ (by decide) (by decide)] at H0
  obtain ⟨one, hone⟩ : ∃ b, decide (in3 67108864 n) = b := ⟨_, rfl⟩
  obtain ⟨two, htwo⟩ : ∃ b, (!(p.any (far3 67108864))) = b := ⟨_, rfl⟩
  have H1 := Lib.hid (fun W => rin_calls n 67108864 one hone (by decide) (by decide) W)
  rw [htwo] at H0
  have G0 := Lib.hid h0
  obtain ⟨np, hnp⟩ : ∃ k, p.length = k := ⟨_, rfl⟩
  rw [hnp] at H0 hm ⊢
  have HNP := Lib.hid hnp
  obtain ⟨na, hna⟩ : ∃ k, a.length = k := ⟨_, rfl⟩
  obtain ⟨ne, hne⟩ : ∃ k, e.length = k := ⟨_, rfl⟩
  rw [hna, hne]
  have HP : np = 0 ∨ one = false ∨ two = false → R = (0, 0) := by
    intro hc
    rw [← hR]
    unfold reachS
    cases p with
    | nil => rfl
    | cons p0 pr =>
      rcases hc with hc | hc | hc
      · rw [← hnp] at hc; simp at hc
      · have : far3 67108864 n = true := by
          cases e : far3 67108864 n with
          | true => rfl
          | false => have := decide_eq_true ((far3_iff _ _ (by decide) (by decide)).1 e); rw [hone, hc] at this; cases this
        simp only [this, Bool.true_or, if_true]
      · have : (p0 :: pr).any (far3 67108864) = true := by
          cases hx : (p0 :: pr).any (far3 67108864) with
          | true => rfl
          | false => rw [← htwo, hx] at hc; cases hc
        simp only [this, Bool.or_true, if_true]
  have HQ : one = true → two = true → ∀ p0 pr, p = p0 :: pr → R = reachF n p0 pr := by
    rintro h1 h2 p0 pr rfl
    rw [← hR]
    unfold reachS
    have e1 : far3 67108864 n = false := (far3_iff _ _ (by decide) (by decide)).2 (of_decide_eq_true (hone.trans h1))
    have e2 : (p0 :: pr).any (far3 67108864) = false := by rw [← htwo] at h2; simpa using h2
    simp only [e1, e2, Bool.or_false, if_false, Bool.false_eq_true]
  have HP := Lib.hid HP
  have HQ := Lib.hid HQ
  clear h h0 h1 h2 hone htwo hR hnp hna hne
  obtain ⟨x, y, z⟩ := n
  have zz := (Below.heap_alloc (w.alloc (.cells #[.slice A0 np c0, .slice A1 na c1, .slice A2 ne c2, .int .i64 r] 36)) (.cells #[.int .i64 x, .int .i64 y, .int .i64 z] 23) w.heap.size (by simp)).trans (heap_alloc_new w (.cells #[.slice A0 np c0, .slice A1 na c1, .slice A2 ne c2, .int .i64 r] 36))
  have yy := heap_alloc_new (w.alloc (.cells #[.slice A0 np c0, .slice A1 na c1, .slice A2 ne c2, .int .i64 r] 36)) (.cells #[.int .i64 x, .int .i64 y, .int .i64 z] 23)
  rw [World.size_alloc] at yy
  have zb := ((Below.refl _ w).alloc (Nat.le_refl _) (.cells #[.slice A0 np c0, .slice A1 na c1, .slice A2 ne c2, .int .i64 r] 36)).alloc (by simp) (.cells #[.int .i64 x, .int .i64 y, .int .i64 z] 23)
  obtain ⟨w1, hw1⟩ : ∃ V, (w.alloc (.cells #[.slice A0 np c0, .slice A1 na c1, .slice A2 ne c2, .int .i64 r] 36)).alloc (.cells #[.int .i64 x, .int .i64 y, .int .i64 z] 23) = V := ⟨_, rfl⟩
  rw [hw1] at zz zb yy
  have hw1' := Lib.hid hw1
  have ZB := Lib.hid zb
  have Z0 := Lib.hid zz
  have Y0 := Lib.hid yy
  clear hw1 zb zz yy
  go_enter Try.func29, Try.ntmps29
  go_wp2_with fail
  rw [hw1'.out]
  refine (H1.out w1).mono ?_
  rintro en w2 ⟨rfl, hb⟩
  have Z2 := Lib.hid ((hb.block _ (blk_lt Z0.out)).trans Z0.out)
  have Y2 := Lib.hid ((hb.block _ (blk_lt Y0.out)).trans Y0.out)
  have ZB2 := Lib.hid (bthen ZB.out hb)
  clear hb
  have x0 : w2.cell? ⟨w.heap.size, 0, none⟩ = some (.slice A0 np c0) := (blk_cell Z2.out 0).trans rfl
  have l0 : w.heap.size < w2.heap.size := blk_lt Z2.out
  go_wp2_with fail
  refine (H0.out w2 (G0.out.below ZB2.out)).mono ?_
  rintro en w3 ⟨rfl, hb⟩
  have Z3 := Lib.hid ((hb.block _ (blk_lt Z2.out)).trans Z2.out)
  have Y3 := Lib.hid ((hb.block _ (blk_lt Y2.out)).trans Y2.out)
  have ZB3 := Lib.hid (bthen ZB2.out hb)
  clear hb x0 l0
  have x0 : w3.cell? ⟨w.heap.size, 0, none⟩ = some (.slice A0 np c0) := (blk_cell Z3.out 0).trans rfl
  have l0 : w.heap.size < w3.heap.size := blk_lt Z3.out
  by_cases t0 : np = 0
  · have d0 : ((np : Int) == 0) = true := by simp; omega
    have e0 := HP.out (.inl t0)
    subst e0
    clear t0
    go_wp2
    go_ret2
    exact ⟨rfl, ZB3.out⟩
  have d0 : ((np : Int) == 0) = false := by simp; omega
  cases one
  · have e0 := HP.out (.inr (.inl rfl))
    subst e0
    go_wp2
    go_ret2
    exact ⟨rfl, ZB3.out⟩
  cases two
  · have e0 := HP.out (.inr (.inr rfl))
    subst e0
    go_wp2
    go_ret2
    exact ⟨rfl, ZB3.out⟩
  obtain ⟨p0, pr, hpp⟩ : ∃ p0 pr, p = p0 :: pr := List.exists_cons_of_ne_nil (fun h => t0 (by rw [← HNP.out, h]; rfl))
  have e0 := HQ.out rfl rfl p0 pr hpp
  rw [← rrF_all, ← hpp] at e0
  subst e0
  have hlen : 0 < p.length := by rw [HNP.out]; omega
  obtain ⟨b, o, rfl, hbl, c0_, c1_, c2_⟩ := (G0.out.below ZB3.out).1.get 0 hlen
  have hg0 : p[0] = p0 := by simp [hpp]
  rw [hg0] at c0_ c1_ c2_
  simp only [Nat.zero_mul, Nat.add_zero] at c0_ c1_ c2_
  have y0 : w3.cell? ⟨w.heap.size + 1, 0, none⟩ = some (.int .i64 x) := (blk_cell Y3.out 0).trans rfl
  have y1 : w3.cell? ⟨w.heap.size + 1, 1, none⟩ = some (.int .i64 y) := (blk_cell Y3.out 1).trans rfl
  have y2 : w3.cell? ⟨w.heap.size + 1, 2, none⟩ = some (.int .i64 z) := (blk_cell Y3.out 2).trans rfl
  have l1 : w.heap.size + 1 < w3.heap.size := blk_lt Y3.out
  have hl0 : (0 : Int) < (np : Int) := by omega
  have hl1 : 0 < np := by omega
  have RD0 := Lib.hid (show rrF ⟨x, y, z⟩ p0 (p.take 0) = (dot3 ⟨x, y, z⟩ p0, dot3 ⟨x, y, z⟩ p0) from rfl)
  obtain ⟨p0x, p0y, p0z⟩ := p0
  simp only at c0_ c1_ c2_
  obtain ⟨D, hD⟩ : ∃ D, dot3 ⟨x, y, z⟩ ⟨p0x, p0y, p0z⟩ = D := ⟨_, rfl⟩
  rw [hD] at RD0
  have HDC := Lib.hid (fun W => rdot_calls x y z p0x p0y p0z W)
  rw [hD] at HDC
  have K0 := Lib.hid ((Below.refl w3.heap.size w3).drew)
  clear hlen hg0 hpp hD t0 HP HQ H0 H1
  go_wp2
  go_region_held3 (fun w' => w'.cell? ⟨w.heap.size, 0, none⟩ = some (.slice (some ⟨b, o, none⟩) np c0) ∧ w'.cell? ⟨w.heap.size + 1, 0, none⟩ = some (.int .i64 x) ∧ w'.cell? ⟨w.heap.size + 1, 1, none⟩ = some (.int .i64 y) ∧ w'.cell? ⟨w.heap.size + 1, 2, none⟩ = some (.int .i64 z) ∧ w'.cell? ⟨b, o, none⟩ = some (.int .i64 p0x) ∧ w'.cell? ⟨b, o + 1, none⟩ = some (.int .i64 p0y) ∧ w'.cell? ⟨b, o + 2, none⟩ = some (.int .i64 p0z))
    (first | (go_keep; done) | exact ⟨(KB.out.cell (p := ⟨_, _, none⟩) l0).trans x0, (KB.out.cell (p := ⟨_, _, none⟩) l1).trans y0, (KB.out.cell (p := ⟨_, _, none⟩) l1).trans y1, (KB.out.cell (p := ⟨_, _, none⟩) l1).trans y2, (KB.out.cell (p := ⟨_, _, none⟩) hbl).trans c0_, (KB.out.cell (p := ⟨_, _, none⟩) hbl).trans c1_, (KB.out.cell (p := ⟨_, _, none⟩) hbl).trans c2_⟩)
    ((go_at_call 24; refine (HDC.out _).mono ?_; rintro en w4 ⟨rfl, hb⟩; have KB := Lib.hid (K0.out.trans (hb.mono (Nat.le_refl _)))))
  have ZB4 := Lib.hid (bthen ZB3.out KB.out)
  have Z4 := Lib.hid ((KB.out.block _ l0).trans Z3.out)
  have Y4 := Lib.hid ((KB.out.block _ l1).trans Y3.out)
  clear x0 y0 y1 y2 c0_ c1_ c2_ l0 l1 KB K0 hb
  go_wp2
  go_loopw [8, 9, 10, 11] (fun v8 v9 v10 v11 wr => ∃ k : Nat, k ≤ np ∧ v10 = .int .i64 k ∧ v8 = .int .i64 (rrF ⟨x, y, z⟩ ⟨p0x, p0y, p0z⟩ (p.take k)).1 ∧ v9 = .int .i64 (rrF ⟨x, y, z⟩ ⟨p0x, p0y, p0z⟩ (p.take k)).2 ∧ Hid (Below w4.heap.size w4 wr)) (fun _ _ i _ _ => np - (intOf i).toNat)
  case atStart => exact ⟨0, by omega, rfl, by rw [RD0.out], by rw [RD0.out], Lib.hid (Below.refl _ _)⟩
  case round =>
    obtain ⟨k, hk, rfl, rfl, rfl, hbr⟩ := hrel
    have ZBr := Lib.hid (bthen ZB4.out hbr.out)
    have Zr := (hbr.out.block _ (blk_lt Z4.out)).trans Z4.out
    have Yr := (hbr.out.block _ (blk_lt Y4.out)).trans Y4.out
    have x0 : wr.cell? ⟨w.heap.size, 0, none⟩ = some (.slice (some ⟨b, o, none⟩) np c0) := (blk_cell Zr 0).trans rfl
    have l0 : w.heap.size < wr.heap.size := blk_lt Zr
    by_cases hlt : k < np
    · have hkp : k < p.length := by rw [HNP.out]; exact hlt
      have y0 : wr.cell? ⟨w.heap.size + 1, 0, none⟩ = some (.int .i64 x) := (blk_cell Yr 0).trans rfl
      have y1 : wr.cell? ⟨w.heap.size + 1, 1, none⟩ = some (.int .i64 y) := (blk_cell Yr 1).trans rfl
      have y2 : wr.cell? ⟨w.heap.size + 1, 2, none⟩ = some (.int .i64 z) := (blk_cell Yr 2).trans rfl
      have l1 : w.heap.size + 1 < wr.heap.size := blk_lt Yr
      obtain ⟨b', o', hA, hbl, e0, e1, e2⟩ := (G0.out.below ZBr.out).1.get k hkp
      simp only [Option.some.injEq, Addr.mk.injEq, and_true] at hA
      obtain ⟨rfl, rfl⟩ := hA
      have hS := rrF_snoc ⟨x, y, z⟩ ⟨p0x, p0y, p0z⟩ p k hkp
      obtain ⟨q, hq⟩ : ∃ q, p[k] = q := ⟨_, rfl⟩
      rw [hq] at e0 e1 e2 hS
      obtain ⟨qx, qy, qz⟩ := q
      simp only at e0 e1 e2
      obtain ⟨F, hF⟩ : ∃ F, rrF ⟨x, y, z⟩ ⟨p0x, p0y, p0z⟩ (p.take k) = F := ⟨_, rfl⟩
      rw [hF] at hS ⊢
      obtain ⟨E, hE⟩ : ∃ D, dot3 ⟨x, y, z⟩ ⟨qx, qy, qz⟩ = D := ⟨_, rfl⟩
      have hS2 : Hid (rrF ⟨x, y, z⟩ ⟨p0x, p0y, p0z⟩ (p.take (k + 1)) = (mn F.1 E, mx F.2 E)) := Lib.hid (by rw [hS]; unfold rstep; rw [hE])
      have HDC := Lib.hid (fun W => rdot_calls x y z qx qy qz W)
      rw [hE] at HDC
      obtain ⟨F1, F2⟩ := F
      simp only at hS2
      have K0 := Lib.hid ((Below.refl wr.heap.size wr).drew)
      have t2 : (k : Int) < (np : Int) := by omega
      clear hq hF hE hS hkp Zr Yr hl0 hl1
      go_wp2
      go_region_held3 (fun w' => w'.cell? ⟨w.heap.size, 0, none⟩ = some (.slice (some ⟨b, o, none⟩) np c0) ∧ w'.cell? ⟨w.heap.size + 1, 0, none⟩ = some (.int .i64 x) ∧ w'.cell? ⟨w.heap.size + 1, 1, none⟩ = some (.int .i64 y) ∧ w'.cell? ⟨w.heap.size + 1, 2, none⟩ = some (.int .i64 z) ∧ w'.cell? ⟨b, o + k * 3, none⟩ = some (.int .i64 qx) ∧ w'.cell? ⟨b, o + k * 3 + 1, none⟩ = some (.int .i64 qy) ∧ w'.cell? ⟨b, o + k * 3 + 2, none⟩ = some (.int .i64 qz))
        (first | (go_keep; done) | exact ⟨(KB.out.cell (p := ⟨_, _, none⟩) l0).trans x0, (KB.out.cell (p := ⟨_, _, none⟩) l1).trans y0, (KB.out.cell (p := ⟨_, _, none⟩) l1).trans y1, (KB.out.cell (p := ⟨_, _, none⟩) l1).trans y2, (KB.out.cell (p := ⟨_, _, none⟩) hbl).trans e0, (KB.out.cell (p := ⟨_, _, none⟩) hbl).trans e1, (KB.out.cell (p := ⟨_, _, none⟩) hbl).trans e2⟩)
        ((go_at_call 24; refine (HDC.out _).mono ?_; rintro en w5 ⟨rfl, hb⟩; have KB := Lib.hid (K0.out.trans (hb.mono (Nat.le_refl _)))))
      clear x0 y0 y1 y2 e0 e1 e2 l0 l1 hb K0
      go_wp2
      go_roundw
      case rel => exact ⟨k + 1, by omega, by go_num, by rw [hS2.out], by rw [hS2.out], Lib.hid (bthen hbr.out KB.out)⟩
      case measure => simp [intOf]; omega
    · obtain rfl : k = np := by omega
      have hE := Lib.hid (show p.take k = p from List.take_of_length_le (by rw [HNP.out]; exact Nat.le_refl _))
      clear Zr Yr
      go_wp2
      go_ret2
      exact ⟨by rw [hE.out]; rfl, ZBr.out⟩
end Go.Proofs.Ytckdhahceelckaa.G
namespace Go.Proofs.Ytckdhahceelckaa.G
open Go.RowKit Go.Proofs.YtckdhahceelckaaW.PrintWords Go.Proofs.YtckdhahceelckaaW.PrintLast Go.Proofs.YtckdhahceelckaaW.PrintMore
attribute [local go_sem] max2_mx min2_mn max_two min_two max_three min_three max_four min_four
attribute [local go_sem high] eqA23 eqA40
set_option linter.unusedVariables false
set_option linter.unusedSimpArgs false
set_option maxHeartbeats 8000000 in
set_option maxRecDepth 100000 in
theorem ntells_calls {w : World} {v u : Value} {p a e : List P3} {r : Int} {q b f : List P3} {s : Int} (hv : CoreV w v p a e r) (hu : CoreV w u q b f s) (hl : p.length ≤ 140737488355328 ∧ a.length ≤ 140737488355328 ∧ e.length ≤ 140737488355328) (hk : q.length ≤ 140737488355328 ∧ b.length ≤ 140737488355328 ∧ f.length ≤ 140737488355328) (n : P3) :
    Calls Try.prog 7 #[v, u, aP n] w fun en w' => en = .returned (.bool true) ∧ Below w.heap.size w w' := by
  have HA1 := Lib.hid (fun W (h1 : CoreV W v p a e r) (h2 : CoreV W u q b f s) => apart_all h1 h2 _ rfl)
  have HA2 := Lib.hid (fun W (h1 : CoreV W v p a e r) (h2 : CoreV W u q b f s) => rapart_all h1 h2 (by omega) (by omega) _ rfl)
  have HS2 := Lib.hid (fun W => rsizes_calls n W)
  have HR1 := Lib.hid (fun W (h1 : CoreV W v p a e r) => reach28_calls h1 (by omega) n)
  have HR2 := Lib.hid (fun W (h1 : CoreV W v p a e r) => rreach_calls h1 (by omega) n _ rfl)
  obtain ⟨R, hR⟩ : ∃ R, apartS p a e r q b f s = R := ⟨_, rfl⟩
  rw [hR] at HA1 HA2
  obtain ⟨⟨⟨Rx, Ry, Rz⟩, Rg⟩, Ro⟩ := R
  simp only at HA1 HA2
  obtain ⟨T, hT⟩ : ∃ T, reachS p n = T := ⟨_, rfl⟩
  rw [hT] at HR1 HR2
  obtain ⟨T1, T2⟩ := T
  simp only at HR1 HR2
  obtain ⟨nx, ny, nz⟩ := n
  have HS1 := Lib.hid (fun W => sizes_calls nx ny nz W)
  obtain ⟨U, hU⟩ : ∃ U, sz3 ⟨nx, ny, nz⟩ = U := ⟨_, rfl⟩
  rw [hU] at HS1 HS2
  obtain ⟨U1, U2⟩ := U
  simp only at HS1 HS2
  have HV := Lib.hid hv
  have HU := Lib.hid hu
  obtain ⟨A0, A1, A2, c0, c1, c2, rfl, _⟩ := hv.out
  obtain ⟨B0, B1, B2, d0, d1, d2, rfl, _⟩ := hu.out
  obtain ⟨np, hnp⟩ : ∃ n, p.length = n := ⟨_, rfl⟩
  obtain ⟨na, hna⟩ : ∃ n, a.length = n := ⟨_, rfl⟩
  obtain ⟨ne, hne⟩ : ∃ n, e.length = n := ⟨_, rfl⟩
  obtain ⟨mp, hmp⟩ : ∃ n, q.length = n := ⟨_, rfl⟩
  obtain ⟨ma, hma⟩ : ∃ n, b.length = n := ⟨_, rfl⟩
  obtain ⟨me, hme⟩ : ∃ n, f.length = n := ⟨_, rfl⟩
  rw [hnp, hna, hne] at HA1 HA2 HV HR1 HR2 hl ⊢
  rw [hmp, hma, hme] at HA1 HA2 HU hk ⊢
  have w1_ : wrap64 ((np : Int) + (mp : Int)) = (np : Int) + (mp : Int) := by unfold wrap64; omega
  have w2_ := (i64_w ((np : Int) + (mp : Int))).trans w1_
  have w3_ : wrap64 ((na : Int) + (ma : Int)) = (na : Int) + (ma : Int) := by unfold wrap64; omega
  have w4_ := (i64_w ((na : Int) + (ma : Int))).trans w3_
  clear hv hu hl hk hnp hna hne hmp hma hme hR hT hU
  have Z0 := Lib.hid (three0 w (.cells #[.slice A0 np c0, .slice A1 na c1, .slice A2 ne c2, .int .i64 r] 36) (.cells #[.slice B0 mp d0, .slice B1 ma d1, .slice B2 me d2, .int .i64 s] 36) (.cells #[.int .i64 nx, .int .i64 ny, .int .i64 nz] 23))
  have Z1 := Lib.hid (three1 w (.cells #[.slice A0 np c0, .slice A1 na c1, .slice A2 ne c2, .int .i64 r] 36) (.cells #[.slice B0 mp d0, .slice B1 ma d1, .slice B2 me d2, .int .i64 s] 36) (.cells #[.int .i64 nx, .int .i64 ny, .int .i64 nz] 23))
  have Z2 := Lib.hid (three2 w (.cells #[.slice A0 np c0, .slice A1 na c1, .slice A2 ne c2, .int .i64 r] 36) (.cells #[.slice B0 mp d0, .slice B1 ma d1, .slice B2 me d2, .int .i64 s] 36) (.cells #[.int .i64 nx, .int .i64 ny, .int .i64 nz] 23))
  have ZB := Lib.hid (Go.Joins.below_alloc3 w (.cells #[.slice A0 np c0, .slice A1 na c1, .slice A2 ne c2, .int .i64 r] 36) (.cells #[.slice B0 mp d0, .slice B1 ma d1, .slice B2 me d2, .int .i64 s] 36) (.cells #[.int .i64 nx, .int .i64 ny, .int .i64 nz] 23))
  obtain ⟨w1, hw1⟩ : ∃ V, ((w.alloc (.cells #[.slice A0 np c0, .slice A1 na c1, .slice A2 ne c2, .int .i64 r] 36)).alloc (.cells #[.slice B0 mp d0, .slice B1 ma d1, .slice B2 me d2, .int .i64 s] 36)).alloc (.cells #[.int .i64 nx, .int .i64 ny, .int .i64 nz] 23) = V := ⟨_, rfl⟩
  rw [hw1] at Z0 Z1 Z2 ZB
  have hw1' := Lib.hid hw1
  clear hw1
  go_enter Try.func7, Try.ntmps7
  go_wp2_with fail
  rw [hw1'.out]
  clear hw1'
  refine (awake_calls w1).mono ?_
  rintro en w2 ⟨rfl, hb⟩
  have Z0 := Lib.hid ((hb.block _ (blk_lt Z0.out)).trans Z0.out)
  have Z1 := Lib.hid ((hb.block _ (blk_lt Z1.out)).trans Z1.out)
  have Z2 := Lib.hid ((hb.block _ (blk_lt Z2.out)).trans Z2.out)
  have ZB := Lib.hid (bthen ZB.out hb)
  clear hb
  have x0' : w2.cell? ⟨w.heap.size, 0, none⟩ = some (.slice A0 np c0) := (blk_cell Z0.out 0).trans rfl
  have x1' : w2.cell? ⟨w.heap.size, 1, none⟩ = some (.slice A1 na c1) := (blk_cell Z0.out 1).trans rfl
  have x2' : w2.cell? ⟨w.heap.size, 2, none⟩ = some (.slice A2 ne c2) := (blk_cell Z0.out 2).trans rfl
  have x3' : w2.cell? ⟨w.heap.size, 3, none⟩ = some (.int .i64 r) := (blk_cell Z0.out 3).trans rfl
  have xl' : w.heap.size < w2.heap.size := blk_lt Z0.out
  have y0' : w2.cell? ⟨w.heap.size + 1, 0, none⟩ = some (.slice B0 mp d0) := (blk_cell Z1.out 0).trans rfl
  have y1' : w2.cell? ⟨w.heap.size + 1, 1, none⟩ = some (.slice B1 ma d1) := (blk_cell Z1.out 1).trans rfl
  have y2' : w2.cell? ⟨w.heap.size + 1, 2, none⟩ = some (.slice B2 me d2) := (blk_cell Z1.out 2).trans rfl
  have y3' : w2.cell? ⟨w.heap.size + 1, 3, none⟩ = some (.int .i64 s) := (blk_cell Z1.out 3).trans rfl
  have yl' : w.heap.size + 1 < w2.heap.size := blk_lt Z1.out
  by_cases t0 : 80 < (np : Int) + (mp : Int)
  · have e0 : decide (80 < (np : Int) + (mp : Int)) = true := decide_eq_true t0
    clear t0
    go_wp2
    go_ret
    exact ⟨rfl, ZB.out⟩
  have e0 : decide (80 < (np : Int) + (mp : Int)) = false := decide_eq_false t0
  clear t0
  by_cases t1 : 150 < (na : Int) + (ma : Int)
  · have e1 : decide (150 < (na : Int) + (ma : Int)) = true := decide_eq_true t1
    clear t1
    go_wp2
    go_ret
    exact ⟨rfl, ZB.out⟩
  have e1 : decide (150 < (na : Int) + (ma : Int)) = false := decide_eq_false t1
  clear t1
  by_cases t2 : 20 < (ne : Int)
  · have e2 : decide (20 < (ne : Int)) = true := decide_eq_true t2
    clear t2
    go_wp2
    go_ret
    exact ⟨rfl, ZB.out⟩
  have e2 : decide (20 < (ne : Int)) = false := decide_eq_false t2
  clear t2
  by_cases t3 : 20 < (me : Int)
  · have e3 : decide (20 < (me : Int)) = true := decide_eq_true t3
    clear t3
    go_wp2
    go_ret
    exact ⟨rfl, ZB.out⟩
  have e3 : decide (20 < (me : Int)) = false := decide_eq_false t3
  clear t3
  go_wp2_with fail
  clear w1_ w2_ w3_ w4_ e0 e1 e2 e3
  refine (HA1.out w2 (HV.out.below ZB.out) (HU.out.below ZB.out)).mono ?_
  rintro en w3 ⟨rfl, hb⟩
  clear x0' x1' x2' x3' y0' y1' y2' y3' xl' yl'
  have Z0 := Lib.hid ((hb.block _ (blk_lt Z0.out)).trans Z0.out)
  have Z1 := Lib.hid ((hb.block _ (blk_lt Z1.out)).trans Z1.out)
  have Z2 := Lib.hid ((hb.block _ (blk_lt Z2.out)).trans Z2.out)
  have ZB := Lib.hid (bthen ZB.out hb)
  clear hb
  have x0' : w3.cell? ⟨w.heap.size, 0, none⟩ = some (.slice A0 np c0) := (blk_cell Z0.out 0).trans rfl
  have x1' : w3.cell? ⟨w.heap.size, 1, none⟩ = some (.slice A1 na c1) := (blk_cell Z0.out 1).trans rfl
  have x2' : w3.cell? ⟨w.heap.size, 2, none⟩ = some (.slice A2 ne c2) := (blk_cell Z0.out 2).trans rfl
  have x3' : w3.cell? ⟨w.heap.size, 3, none⟩ = some (.int .i64 r) := (blk_cell Z0.out 3).trans rfl
  have xl' : w.heap.size < w3.heap.size := blk_lt Z0.out
  have y0' : w3.cell? ⟨w.heap.size + 1, 0, none⟩ = some (.slice B0 mp d0) := (blk_cell Z1.out 0).trans rfl
  have y1' : w3.cell? ⟨w.heap.size + 1, 1, none⟩ = some (.slice B1 ma d1) := (blk_cell Z1.out 1).trans rfl
  have y2' : w3.cell? ⟨w.heap.size + 1, 2, none⟩ = some (.slice B2 me d2) := (blk_cell Z1.out 2).trans rfl
  have y3' : w3.cell? ⟨w.heap.size + 1, 3, none⟩ = some (.int .i64 s) := (blk_cell Z1.out 3).trans rfl
  have yl' : w.heap.size + 1 < w3.heap.size := blk_lt Z1.out
  have b_ := (Below.refl w3.heap.size w3).alloc (Nat.le_refl _) (.cells #[.int .i64 Rx, .int .i64 Ry, .int .i64 Rz, .int .i64 Rg] 40)
  have a_ := heap_alloc_new w3 (.cells #[.int .i64 Rx, .int .i64 Ry, .int .i64 Rz, .int .i64 Rg] 40)
  obtain ⟨w4, hw⟩ : ∃ V, w3.alloc (.cells #[.int .i64 Rx, .int .i64 Ry, .int .i64 Rz, .int .i64 Rg] 40) = V := ⟨_, rfl⟩
  rw [hw] at b_ a_
  obtain ⟨G1, hG⟩ : ∃ g, w3.heap.size = g := ⟨_, rfl⟩
  rw [hG] at a_
  have X1 := Lib.hid a_
  have Z0 := Lib.hid ((b_.block _ (blk_lt Z0.out)).trans Z0.out)
  have Z1 := Lib.hid ((b_.block _ (blk_lt Z1.out)).trans Z1.out)
  have Z2 := Lib.hid ((b_.block _ (blk_lt Z2.out)).trans Z2.out)
  have ZB := Lib.hid (bthen ZB.out b_)
  have hww4 := Lib.hid hw
  have hG1 := Lib.hid hG
  clear b_ a_ hw hG
  go_wp2_with fail
  rw [hww4.out, hG1.out]
  refine (HA2.out w4 (HV.out.below ZB.out) (HU.out.below ZB.out)).mono ?_
  rintro en w5 ⟨rfl, hb⟩
  clear x0' x1' x2' x3' y0' y1' y2' y3' xl' yl' hww4 hG1
  have Z0 := Lib.hid ((hb.block _ (blk_lt Z0.out)).trans Z0.out)
  have Z1 := Lib.hid ((hb.block _ (blk_lt Z1.out)).trans Z1.out)
  have Z2 := Lib.hid ((hb.block _ (blk_lt Z2.out)).trans Z2.out)
  have X1 := Lib.hid ((hb.block _ (blk_lt X1.out)).trans X1.out)
  have ZB := Lib.hid (bthen ZB.out hb)
  clear hb
  have n0' : w5.cell? ⟨w.heap.size + 2, 0, none⟩ = some (.int .i64 nx) := (blk_cell Z2.out 0).trans rfl
  have n1' : w5.cell? ⟨w.heap.size + 2, 1, none⟩ = some (.int .i64 ny) := (blk_cell Z2.out 1).trans rfl
  have n2' : w5.cell? ⟨w.heap.size + 2, 2, none⟩ = some (.int .i64 nz) := (blk_cell Z2.out 2).trans rfl
  have nl' : w.heap.size + 2 < w5.heap.size := blk_lt Z2.out
  have b_ := (Below.refl w5.heap.size w5).alloc (Nat.le_refl _) (.cells #[.int .i64 Rx, .int .i64 Ry, .int .i64 Rz, .int .i64 Rg] 40)
  have a_ := heap_alloc_new w5 (.cells #[.int .i64 Rx, .int .i64 Ry, .int .i64 Rz, .int .i64 Rg] 40)
  obtain ⟨w6, hw⟩ : ∃ V, w5.alloc (.cells #[.int .i64 Rx, .int .i64 Ry, .int .i64 Rz, .int .i64 Rg] 40) = V := ⟨_, rfl⟩
  rw [hw] at b_ a_
  obtain ⟨G2, hG⟩ : ∃ g, w5.heap.size = g := ⟨_, rfl⟩
  rw [hG] at a_
  have X2 := Lib.hid a_
  have Z0 := Lib.hid ((b_.block _ (blk_lt Z0.out)).trans Z0.out)
  have Z1 := Lib.hid ((b_.block _ (blk_lt Z1.out)).trans Z1.out)
  have Z2 := Lib.hid ((b_.block _ (blk_lt Z2.out)).trans Z2.out)
  have X1 := Lib.hid ((b_.block _ (blk_lt X1.out)).trans X1.out)
  have ZB := Lib.hid (bthen ZB.out b_)
  have hww6 := Lib.hid hw
  have hG2 := Lib.hid hG
  clear b_ a_ hw hG
  go_wp2_with fail
  rw [hww6.out, hG2.out]
  refine (HS1.out w6).mono ?_
  rintro en w7 ⟨rfl, hb⟩
  clear n0' n1' n2' nl' hww6 hG2
  have Z0 := Lib.hid ((hb.block _ (blk_lt Z0.out)).trans Z0.out)
  have Z1 := Lib.hid ((hb.block _ (blk_lt Z1.out)).trans Z1.out)
  have Z2 := Lib.hid ((hb.block _ (blk_lt Z2.out)).trans Z2.out)
  have X1 := Lib.hid ((hb.block _ (blk_lt X1.out)).trans X1.out)
  have X2 := Lib.hid ((hb.block _ (blk_lt X2.out)).trans X2.out)
  have ZB := Lib.hid (bthen ZB.out hb)
  clear hb
  have n0' : w7.cell? ⟨w.heap.size + 2, 0, none⟩ = some (.int .i64 nx) := (blk_cell Z2.out 0).trans rfl
  have n1' : w7.cell? ⟨w.heap.size + 2, 1, none⟩ = some (.int .i64 ny) := (blk_cell Z2.out 1).trans rfl
  have n2' : w7.cell? ⟨w.heap.size + 2, 2, none⟩ = some (.int .i64 nz) := (blk_cell Z2.out 2).trans rfl
  have nl' : w.heap.size + 2 < w7.heap.size := blk_lt Z2.out
  go_wp2_with fail
  refine (HS2.out w7).mono ?_
  rintro en w8 ⟨rfl, hb⟩
  clear n0' n1' n2' nl'
  have Z0 := Lib.hid ((hb.block _ (blk_lt Z0.out)).trans Z0.out)
  have Z1 := Lib.hid ((hb.block _ (blk_lt Z1.out)).trans Z1.out)
  have Z2 := Lib.hid ((hb.block _ (blk_lt Z2.out)).trans Z2.out)
  have X1 := Lib.hid ((hb.block _ (blk_lt X1.out)).trans X1.out)
  have X2 := Lib.hid ((hb.block _ (blk_lt X2.out)).trans X2.out)
  have ZB := Lib.hid (bthen ZB.out hb)
  clear hb
  have x0' : w8.cell? ⟨w.heap.size, 0, none⟩ = some (.slice A0 np c0) := (blk_cell Z0.out 0).trans rfl
  have x1' : w8.cell? ⟨w.heap.size, 1, none⟩ = some (.slice A1 na c1) := (blk_cell Z0.out 1).trans rfl
  have x2' : w8.cell? ⟨w.heap.size, 2, none⟩ = some (.slice A2 ne c2) := (blk_cell Z0.out 2).trans rfl
  have x3' : w8.cell? ⟨w.heap.size, 3, none⟩ = some (.int .i64 r) := (blk_cell Z0.out 3).trans rfl
  have xl' : w.heap.size < w8.heap.size := blk_lt Z0.out
  have n0' : w8.cell? ⟨w.heap.size + 2, 0, none⟩ = some (.int .i64 nx) := (blk_cell Z2.out 0).trans rfl
  have n1' : w8.cell? ⟨w.heap.size + 2, 1, none⟩ = some (.int .i64 ny) := (blk_cell Z2.out 1).trans rfl
  have n2' : w8.cell? ⟨w.heap.size + 2, 2, none⟩ = some (.int .i64 nz) := (blk_cell Z2.out 2).trans rfl
  have nl' : w.heap.size + 2 < w8.heap.size := blk_lt Z2.out
  go_wp2_with fail
  refine (HR1.out w8 (HV.out.below ZB.out)).mono ?_
  rintro en w9 ⟨rfl, hb⟩
  clear x0' x1' x2' x3' n0' n1' n2' xl' nl'
  have Z0 := Lib.hid ((hb.block _ (blk_lt Z0.out)).trans Z0.out)
  have Z1 := Lib.hid ((hb.block _ (blk_lt Z1.out)).trans Z1.out)
  have Z2 := Lib.hid ((hb.block _ (blk_lt Z2.out)).trans Z2.out)
  have X1 := Lib.hid ((hb.block _ (blk_lt X1.out)).trans X1.out)
  have X2 := Lib.hid ((hb.block _ (blk_lt X2.out)).trans X2.out)
  have ZB := Lib.hid (bthen ZB.out hb)
  clear hb
  have x0' : w9.cell? ⟨w.heap.size, 0, none⟩ = some (.slice A0 np c0) := (blk_cell Z0.out 0).trans rfl
  have x1' : w9.cell? ⟨w.heap.size, 1, none⟩ = some (.slice A1 na c1) := (blk_cell Z0.out 1).trans rfl
  have x2' : w9.cell? ⟨w.heap.size, 2, none⟩ = some (.slice A2 ne c2) := (blk_cell Z0.out 2).trans rfl
  have x3' : w9.cell? ⟨w.heap.size, 3, none⟩ = some (.int .i64 r) := (blk_cell Z0.out 3).trans rfl
  have xl' : w.heap.size < w9.heap.size := blk_lt Z0.out
  have n0' : w9.cell? ⟨w.heap.size + 2, 0, none⟩ = some (.int .i64 nx) := (blk_cell Z2.out 0).trans rfl
  have n1' : w9.cell? ⟨w.heap.size + 2, 1, none⟩ = some (.int .i64 ny) := (blk_cell Z2.out 1).trans rfl
  have n2' : w9.cell? ⟨w.heap.size + 2, 2, none⟩ = some (.int .i64 nz) := (blk_cell Z2.out 2).trans rfl
  have nl' : w.heap.size + 2 < w9.heap.size := blk_lt Z2.out
  go_wp2_with fail
  refine (HR2.out w9 (HV.out.below ZB.out)).mono ?_
  rintro en wa ⟨rfl, hb⟩
  clear x0' x1' x2' x3' n0' n1' n2' xl' nl'
  have Z0 := Lib.hid ((hb.block _ (blk_lt Z0.out)).trans Z0.out)
  have Z1 := Lib.hid ((hb.block _ (blk_lt Z1.out)).trans Z1.out)
  have Z2 := Lib.hid ((hb.block _ (blk_lt Z2.out)).trans Z2.out)
  have X1 := Lib.hid ((hb.block _ (blk_lt X1.out)).trans X1.out)
  have X2 := Lib.hid ((hb.block _ (blk_lt X2.out)).trans X2.out)
  have ZB := Lib.hid (bthen ZB.out hb)
  clear hb
  have p0' : wa.cell? ⟨G1, 0, none⟩ = some (.int .i64 Rx) := (blk_cell X1.out 0).trans rfl
  have p1' : wa.cell? ⟨G1, 1, none⟩ = some (.int .i64 Ry) := (blk_cell X1.out 1).trans rfl
  have p2' : wa.cell? ⟨G1, 2, none⟩ = some (.int .i64 Rz) := (blk_cell X1.out 2).trans rfl
  have p3' : wa.cell? ⟨G1, 3, none⟩ = some (.int .i64 Rg) := (blk_cell X1.out 3).trans rfl
  have pl' : G1 < wa.heap.size := blk_lt X1.out
  have q0' : wa.cell? ⟨G2, 0, none⟩ = some (.int .i64 Rx) := (blk_cell X2.out 0).trans rfl
  have q1' : wa.cell? ⟨G2, 1, none⟩ = some (.int .i64 Ry) := (blk_cell X2.out 1).trans rfl
  have q2' : wa.cell? ⟨G2, 2, none⟩ = some (.int .i64 Rz) := (blk_cell X2.out 2).trans rfl
  have q3' : wa.cell? ⟨G2, 3, none⟩ = some (.int .i64 Rg) := (blk_cell X2.out 3).trans rfl
  have ql' : G2 < wa.heap.size := blk_lt X2.out
  have he : eqP Rx Ry Rz Rx Ry Rz = true := eqP_yes rfl
  cases Ro
  all_goals go_wp2
  all_goals go_ret
  all_goals exact ⟨rfl, ZB.out⟩
end Go.Proofs.Ytckdhahceelckaa.G
namespace Go.Proofs.Ytckdhahceelckaa.G
open Go.RowKit Go.Proofs.YtckdhahceelckaaW.PrintWords Go.Proofs.YtckdhahceelckaaW.PrintLast Go.Proofs.YtckdhahceelckaaW.PrintMore
attribute [local go_sem] max2_mx min2_mn max_two min_two max_three min_three max_four min_four
attribute [local go_sem high] eqA23
set_option linter.unusedVariables false
set_option linter.unusedSimpArgs false
set_option maxHeartbeats 8000000 in
set_option maxRecDepth 100000 in
theorem nright_calls (k1 r1 : Int) (h1 : P3) (l1 : List P3) (A1 : Option Addr) (c1 : Nat) (k2 r2 : Int) (h2 : P3) (l2 : List P3) (A2 : Option Addr) (c2 : Nat) (p q : P7) (near : Int) (way : P3) (w : World)
    (hA1 : RdB w A1 l1) (hr1 : RawOk k1 r1 h1 l1) (hA2 : RdB w A2 l2) (hr2 : RawOk k2 r2 h2 l2) (hp : i64s p) (hq : i64s q) (hne : i64 near) (hwa : pI64 way) :
    Calls Try.prog 8 #[.agg (cTwo k1 r1 h1 A1 l1.length c1 k2 r2 h2 A2 l2.length c2 p q near way)] w fun e w' => e = .returned (.bool true) ∧ Below w.heap.size w w' := by
  have HC := Lib.hid (fun (W : World) (hW1 : RdB W A1 l1) (hW2 : RdB W A2 l2) => cores_calls k1 r1 h1 l1 A1 c1 k2 r2 h2 l2 A2 c2 p q near way W hW1 hr1 hW2 hr2 hp hq hne hwa)
  have HM := Lib.hid (fun (W : World) (v : Value) (h : CoreAt (rightS k1 r1 h1 l1) (rightPose p) W v) => h.may (rightS_ok k1 r1 h1 l1) (rightPose_ok p).1 (rightPose_ok p).2)
  have HS := Lib.hid (rightS_ok k1 r1 h1 l1)
  have HS2 := Lib.hid (rightS_ok k2 r2 h2 l2)
  have HM2 := Lib.hid (fun (W : World) (v : Value) (h : CoreAt (rightS k2 r2 h2 l2) ⟨nearF near way (rightPose p).at_, (rightPose q).turn⟩ W v) => CoreAt.may2 (rightS_ok k2 r2 h2 l2) (nearF near way (rightPose p).at_) (rightPose q).turn (rightPose_ok q).1 (nearF_ok near way p) h)
  have HA1 := Lib.hid hA1
  have HA2 := Lib.hid hA2
  obtain ⟨s1, hs1⟩ : ∃ s, rightS k1 r1 h1 l1 = s := ⟨_, rfl⟩
  obtain ⟨s2, hs2⟩ : ∃ s, rightS k2 r2 h2 l2 = s := ⟨_, rfl⟩
  obtain ⟨Qn, hQn⟩ : ∃ s, (⟨nearF near way (rightPose p).at_, (rightPose q).turn⟩ : P7) = s := ⟨_, rfl⟩
  rw [hs2, hQn] at HC HM2
  rw [hs2] at HS2
  obtain ⟨P, hP⟩ : ∃ s, rightPose p = s := ⟨_, rfl⟩
  rw [hs1] at HC HM HS
  rw [hP] at HC HM
  obtain ⟨N1, hN1⟩ : ∃ N, l1.length = N := ⟨_, rfl⟩
  obtain ⟨N2, hN2⟩ : ∃ N, l2.length = N := ⟨_, rfl⟩
  rw [hN1, hN2] at HC ⊢
  clear hA1 hr1 hA2 hr2 hp hq hne hwa hs1 hs2 hQn hP hN1 hN2
  obtain ⟨h1x, h1y, h1z⟩ := h1
  obtain ⟨h2x, h2y, h2z⟩ := h2
  obtain ⟨⟨pax, pay, paz⟩, ⟨ptw, ptx, pty, ptz⟩⟩ := p
  obtain ⟨⟨qax, qay, qaz⟩, ⟨qtw, qtx, qty, qtz⟩⟩ := q
  obtain ⟨wx, wy, wz⟩ := way
  have T0 := Lib.hid (heap_alloc_new w (.cells #[.int .i64 k1, .int .i64 r1, .int .i64 h1x, .int .i64 h1y, .int .i64 h1z, .slice A1 N1 c1, .int .i64 k2, .int .i64 r2, .int .i64 h2x, .int .i64 h2y, .int .i64 h2z, .slice A2 N2 c2, .int .i64 pax, .int .i64 pay, .int .i64 paz, .int .i64 ptw, .int .i64 ptx, .int .i64 pty, .int .i64 ptz, .int .i64 qax, .int .i64 qay, .int .i64 qaz, .int .i64 qtw, .int .i64 qtx, .int .i64 qty, .int .i64 qtz, .int .i64 near, .int .i64 wx, .int .i64 wy, .int .i64 wz] 33))
  have W := Lib.hid ((Below.refl _ w).alloc (Nat.le_refl _) (.cells #[.int .i64 k1, .int .i64 r1, .int .i64 h1x, .int .i64 h1y, .int .i64 h1z, .slice A1 N1 c1, .int .i64 k2, .int .i64 r2, .int .i64 h2x, .int .i64 h2y, .int .i64 h2z, .slice A2 N2 c2, .int .i64 pax, .int .i64 pay, .int .i64 paz, .int .i64 ptw, .int .i64 ptx, .int .i64 pty, .int .i64 ptz, .int .i64 qax, .int .i64 qay, .int .i64 qaz, .int .i64 qtw, .int .i64 qtx, .int .i64 qty, .int .i64 qtz, .int .i64 near, .int .i64 wx, .int .i64 wy, .int .i64 wz] 33))
  go_enter Try.func8, Try.ntmps8
  go_wp2_with (refine wpList_load_row rfl 33 _ rfl w.heap.size rfl 33 _ (0, 0) _ T0.out Try.underlying33 rfl (by kernel_rfl) ?_)
  refine (HC.out _ (HA1.out.below W.out) (HA2.out.below W.out)).mono ?_
  rintro en w2 ⟨va, vb, rfl, ha, hb_, hb⟩
  obtain ⟨p, a, e, hv, hm⟩ := HM.out w2 va ha
  obtain ⟨q', a', e', hvb, hm2⟩ := HM2.out w2 vb hb_
  obtain ⟨ra, hra⟩ : ∃ n, s1.radius = n := ⟨_, rfl⟩
  obtain ⟨rb, hrb⟩ : ∃ n, s2.radius = n := ⟨_, rfl⟩
  rw [hra] at hv hm
  rw [hrb] at hvb hm2
  obtain ⟨B0, B1, B2, d0, d1, d2, hva, _⟩ := hv.out
  obtain ⟨B3, B4, B5, d3, d4, d5, hvb', _⟩ := hvb.out
  have HV := Lib.hid hv
  have HVB := Lib.hid hvb
  have HAP := Lib.hid (fun (W : World) (hW : CoreV W va p a e ra) (hU : CoreV W vb q' a' e' rb) => apart_calls p a e ra q' a' e' rb va vb W hW hU hm hm2 _ rfl)
  have HNT := Lib.hid (fun (W : World) (hW : CoreV W va p a e ra) (hU : CoreV W vb q' a' e' rb) => ntells_calls hW hU ⟨Nat.le_trans hm.p1 (by decide), Nat.le_trans hm.a1 (by decide), Nat.le_trans hm.e1 (by decide)⟩ ⟨Nat.le_trans hm2.p1 (by decide), Nat.le_trans hm2.a1 (by decide), Nat.le_trans hm2.e1 (by decide)⟩ ⟨1, 0, 0⟩)
  have W := Lib.hid (bthen W.out hb)
  obtain ⟨R, hR⟩ : ∃ R, apartF p a e ra q' a' e' rb = R := ⟨_, rfl⟩
  rw [hR] at HAP
  obtain ⟨⟨Rx, Ry, Rz⟩, Rg⟩ := R
  simp only at HAP
  obtain ⟨n0, hn0⟩ : ∃ n, p.length = n := ⟨_, rfl⟩
  obtain ⟨n1, hn1⟩ : ∃ n, a.length = n := ⟨_, rfl⟩
  obtain ⟨n2, hn2⟩ : ∃ n, e.length = n := ⟨_, rfl⟩
  obtain ⟨n3, hn3⟩ : ∃ n, q'.length = n := ⟨_, rfl⟩
  obtain ⟨n4, hn4⟩ : ∃ n, a'.length = n := ⟨_, rfl⟩
  obtain ⟨n5, hn5⟩ : ∃ n, e'.length = n := ⟨_, rfl⟩
  rw [hn0, hn1, hn2] at hva
  rw [hn3, hn4, hn5] at hvb'
  subst hva hvb'
  clear hn0 hn1 hn2 hn3 hn4 hn5 hra hrb hR hv hvb ha hb_ hb hm hm2 HC HM HM2 HS HS2 T0
  have b2 := (Below.refl w2.heap.size w2).alloc (Nat.le_refl _) (.cells #[.slice B0 n0 d0, .slice B1 n1 d1, .slice B2 n2 d2, .int .i64 ra] 36)
  have b3 := b2.alloc (by simp) (.cells #[.slice B3 n3 d3, .slice B4 n4 d4, .slice B5 n5 d5, .int .i64 rb] 36)
  have zc := (Below.heap_alloc _ (.cells #[.slice B3 n3 d3, .slice B4 n4 d4, .slice B5 n5 d5, .int .i64 rb] 36) _ (by simp)).trans (heap_alloc_new w2 (.cells #[.slice B0 n0 d0, .slice B1 n1 d1, .slice B2 n2 d2, .int .i64 ra] 36))
  have zd := heap_alloc_new (w2.alloc (.cells #[.slice B0 n0 d0, .slice B1 n1 d1, .slice B2 n2 d2, .int .i64 ra] 36)) (.cells #[.slice B3 n3 d3, .slice B4 n4 d4, .slice B5 n5 d5, .int .i64 rb] 36)
  rw [World.size_alloc] at zd
  obtain ⟨w3, hw3⟩ : ∃ V, (w2.alloc (.cells #[.slice B0 n0 d0, .slice B1 n1 d1, .slice B2 n2 d2, .int .i64 ra] 36)).alloc (.cells #[.slice B3 n3 d3, .slice B4 n4 d4, .slice B5 n5 d5, .int .i64 rb] 36) = V := ⟨_, rfl⟩
  rw [hw3] at b3 zc zd
  have b3 := Lib.hid b3
  have zc := Lib.hid zc
  have zd := Lib.hid zd
  have hw3' := Lib.hid hw3
  clear hw3 b2
  go_wp2_with fail
  rw [hw3'.out]
  refine (HAP.out w3 (HV.out.below b3.out) (HVB.out.below b3.out)).mono ?_
  rintro en w4 ⟨rfl, hb⟩
  have z4 := Lib.hid ((hb.block _ (blk_lt zc.out)).trans zc.out)
  have y4 := Lib.hid ((hb.block _ (blk_lt zd.out)).trans zd.out)
  have BB4 := Lib.hid (bthen b3.out hb)
  have x0 : w4.cell? ⟨w2.heap.size, 0, none⟩ = some (.slice B0 n0 d0) := (blk_cell z4.out 0).trans rfl
  have y0 : w4.cell? ⟨w2.heap.size + 1, 0, none⟩ = some (.slice B3 n3 d3) := (blk_cell y4.out 0).trans rfl
  have x1 : w4.cell? ⟨w2.heap.size, 1, none⟩ = some (.slice B1 n1 d1) := (blk_cell z4.out 1).trans rfl
  have y1 : w4.cell? ⟨w2.heap.size + 1, 1, none⟩ = some (.slice B4 n4 d4) := (blk_cell y4.out 1).trans rfl
  have x2 : w4.cell? ⟨w2.heap.size, 2, none⟩ = some (.slice B2 n2 d2) := (blk_cell z4.out 2).trans rfl
  have y2 : w4.cell? ⟨w2.heap.size + 1, 2, none⟩ = some (.slice B5 n5 d5) := (blk_cell y4.out 2).trans rfl
  have x3 : w4.cell? ⟨w2.heap.size, 3, none⟩ = some (.int .i64 ra) := (blk_cell z4.out 3).trans rfl
  have y3 : w4.cell? ⟨w2.heap.size + 1, 3, none⟩ = some (.int .i64 rb) := (blk_cell y4.out 3).trans rfl
  have l0 : w2.heap.size < w4.heap.size := blk_lt z4.out
  have l1 : w2.heap.size + 1 < w4.heap.size := blk_lt y4.out
  have b5 := BB4.out.alloc BB4.out.size (.cells #[.int .i64 Rx, .int .i64 Ry, .int .i64 Rz, .int .i64 Rg] 40)
  obtain ⟨w5, hw5⟩ : ∃ V, w4.alloc (.cells #[.int .i64 Rx, .int .i64 Ry, .int .i64 Rz, .int .i64 Rg] 40) = V := ⟨_, rfl⟩
  rw [hw5] at b5
  have hw5' := Lib.hid hw5
  have B5_ := Lib.hid b5
  clear hb b5 hw5 z4 y4 zc zd
  go_wp2_with fail
  rw [hw5'.out]
  refine (HNT.out w5 (HV.out.below B5_.out) (HVB.out.below B5_.out)).mono ?_
  rintro en w6 ⟨rfl, hb⟩
  have W6 := Lib.hid (bthen (bthen W.out B5_.out) hb)
  clear hb x0 x1 x2 x3 y0 y1 y2 y3 l0 l1
  go_wp2
  go_ret
  exact ⟨rfl, W6.out⟩
end Go.Proofs.Ytckdhahceelckaa.G
