/- What the laws of this claim lean on: contracts of the functions that they reach, and plain lemmas; no condition of its own (part 1 of 1; the texts XR1, XR2, XS1, XG10, XG11, XG12, XG13, XG14, XS2). -/
import Derived.Test.YtckdhahceelckaaKA5
import Derived.Lib.SmallJoins
namespace Go.Proofs.Ytckdhahceelckaa.G
open Go.RowKit Go.Proofs.YtckdhahceelckaaW.PrintWords Go.Proofs.YtckdhahceelckaaW.PrintLast Go.Proofs.YtckdhahceelckaaW.PrintMore
attribute [local go_sem] max2_mx min2_mn max_two min_two max_three min_three max_four min_four
attribute [local go_sem high] eqA23
set_option linter.unusedVariables false
set_option linter.unusedSimpArgs false
set_option maxHeartbeats 4000000 in
theorem rin_calls (p : P3) (n : Int) (r : Bool) (hr : decide (in3 n p) = r) (h0 : 0 ≤ n) (h1 : n ≤ 4611686018427387904) (w : World) :
    Calls Try.prog 67 #[aP p, .int .i64 n] w fun e w' => e = .returned (.bool r) ∧ Below w.heap.size w w' := by
  obtain ⟨x, y, z⟩ := p
  have ew : IntKind.i64.wrap (-n) = -n := iw_id _ (by omega) (by omega)
  by_cases t0 : -n ≤ x
  rotate_left
  · have E : Hid (r = false) := Lib.hid (by rw [← hr]; apply decide_eq_false; rintro ⟨k1, k2, k3, k4, k5, k6⟩; simp only at k1 k2 k3 k4 k5 k6; omega)
    have d0 : decide (-n ≤ x) = false := by simpa using t0
    clear hr t0
    go_enter Try.func67, Try.ntmps67
    go_wp2
    go_ret
    exact ⟨by rw [E.out]; rfl, (Below.refl _ w).alloc (Nat.le_refl _) _⟩
  by_cases t1 : x ≤ n
  rotate_left
  · have E : Hid (r = false) := Lib.hid (by rw [← hr]; apply decide_eq_false; rintro ⟨k1, k2, k3, k4, k5, k6⟩; simp only at k1 k2 k3 k4 k5 k6; omega)
    have d0 : decide (-n ≤ x) = true := by simpa using t0
    have d1 : decide (x ≤ n) = false := by simpa using t1
    clear hr t0 t1
    go_enter Try.func67, Try.ntmps67
    go_wp2
    go_ret
    exact ⟨by rw [E.out]; rfl, (Below.refl _ w).alloc (Nat.le_refl _) _⟩
  by_cases t2 : -n ≤ y
  rotate_left
  · have E : Hid (r = false) := Lib.hid (by rw [← hr]; apply decide_eq_false; rintro ⟨k1, k2, k3, k4, k5, k6⟩; simp only at k1 k2 k3 k4 k5 k6; omega)
    have d0 : decide (-n ≤ x) = true := by simpa using t0
    have d1 : decide (x ≤ n) = true := by simpa using t1
    have d2 : decide (-n ≤ y) = false := by simpa using t2
    clear hr t0 t1 t2
    go_enter Try.func67, Try.ntmps67
    go_wp2
    go_ret
    exact ⟨by rw [E.out]; rfl, (Below.refl _ w).alloc (Nat.le_refl _) _⟩
  by_cases t3 : y ≤ n
  rotate_left
  · have E : Hid (r = false) := Lib.hid (by rw [← hr]; apply decide_eq_false; rintro ⟨k1, k2, k3, k4, k5, k6⟩; simp only at k1 k2 k3 k4 k5 k6; omega)
    have d0 : decide (-n ≤ x) = true := by simpa using t0
    have d1 : decide (x ≤ n) = true := by simpa using t1
    have d2 : decide (-n ≤ y) = true := by simpa using t2
    have d3 : decide (y ≤ n) = false := by simpa using t3
    clear hr t0 t1 t2 t3
    go_enter Try.func67, Try.ntmps67
    go_wp2
    go_ret
    exact ⟨by rw [E.out]; rfl, (Below.refl _ w).alloc (Nat.le_refl _) _⟩
  by_cases t4 : -n ≤ z
  rotate_left
  · have E : Hid (r = false) := Lib.hid (by rw [← hr]; apply decide_eq_false; rintro ⟨k1, k2, k3, k4, k5, k6⟩; simp only at k1 k2 k3 k4 k5 k6; omega)
    have d0 : decide (-n ≤ x) = true := by simpa using t0
    have d1 : decide (x ≤ n) = true := by simpa using t1
    have d2 : decide (-n ≤ y) = true := by simpa using t2
    have d3 : decide (y ≤ n) = true := by simpa using t3
    have d4 : decide (-n ≤ z) = false := by simpa using t4
    clear hr t0 t1 t2 t3 t4
    go_enter Try.func67, Try.ntmps67
    go_wp2
    go_ret
    exact ⟨by rw [E.out]; rfl, (Below.refl _ w).alloc (Nat.le_refl _) _⟩
  by_cases t5 : z ≤ n
  rotate_left
  · have E : Hid (r = false) := Lib.hid (by rw [← hr]; apply decide_eq_false; rintro ⟨k1, k2, k3, k4, k5, k6⟩; simp only at k1 k2 k3 k4 k5 k6; omega)
    have d0 : decide (-n ≤ x) = true := by simpa using t0
    have d1 : decide (x ≤ n) = true := by simpa using t1
    have d2 : decide (-n ≤ y) = true := by simpa using t2
    have d3 : decide (y ≤ n) = true := by simpa using t3
    have d4 : decide (-n ≤ z) = true := by simpa using t4
    have d5 : decide (z ≤ n) = false := by simpa using t5
    clear hr t0 t1 t2 t3 t4 t5
    go_enter Try.func67, Try.ntmps67
    go_wp2
    go_ret
    exact ⟨by rw [E.out]; rfl, (Below.refl _ w).alloc (Nat.le_refl _) _⟩
  have E : Hid (r = true) := Lib.hid (by rw [← hr]; apply decide_eq_true; refine ⟨?_, ?_, ?_, ?_, ?_, ?_⟩ <;> simp only <;> omega)
  have d0 : decide (-n ≤ x) = true := by simpa using t0
  have d1 : decide (x ≤ n) = true := by simpa using t1
  have d2 : decide (-n ≤ y) = true := by simpa using t2
  have d3 : decide (y ≤ n) = true := by simpa using t3
  have d4 : decide (-n ≤ z) = true := by simpa using t4
  have d5 : decide (z ≤ n) = true := by simpa using t5
  clear hr t0 t1 t2 t3 t4 t5
  go_enter Try.func67, Try.ntmps67
  go_wp2
  go_ret
  exact ⟨by rw [E.out]; rfl, (Below.refl _ w).alloc (Nat.le_refl _) _⟩
/-- are all of these at most so far out? -/
def allIn (n : Int) (l : List P3) : Bool := l.all fun p => decide (in3 n p)
theorem allIn_iff (n : Int) (l : List P3) : allIn n l = true ↔ ∀ p ∈ l, in3 n p := by unfold allIn; rw [List.all_eq_true]; exact ⟨fun h p hp => of_decide_eq_true (h p hp), fun h p hp => decide_eq_true (h p hp)⟩
theorem allIn_far (n : Int) (h0 : 0 ≤ n) (h1 : n ≤ 9223372036854775807) (l : List P3) : allIn n l = !(l.any (far3 n)) := by
  cases h : l.any (far3 n) with
  | false => rw [List.any_eq_false] at h; exact (allIn_iff n l).2 fun p hp => (far3_iff n p h0 h1).1 (by simpa using h p hp)
  | true =>
    rw [List.any_eq_true] at h
    obtain ⟨p, hp, h2⟩ := h
    cases e : allIn n l with
    | false => rfl
    | true => have := (far3_iff n p h0 h1).2 ((allIn_iff n l).1 e p hp); rw [this] at h2; cases h2
set_option maxHeartbeats 2000000 in
theorem all_calls (l : List P3) (A : Option Addr) (c : Nat) (n : Int) (w : World) (hr : Rd w A l) (hm : l.length < 9223372036854775807) (h0 : 0 ≤ n) (h1 : n ≤ 4611686018427387904) :
    Calls Try.prog 70 #[.slice A l.length c, .int .i64 n] w fun e w' => e = .returned (.bool (allIn n l)) ∧ Below w.heap.size w w' := by
  have HR := Lib.hid hr
  obtain ⟨r, hR⟩ : ∃ r, allIn n l = r := ⟨_, rfl⟩
  have HA := Lib.hid hR
  rw [hR]
  obtain ⟨N, hN⟩ : ∃ N, l.length = N := ⟨_, rfl⟩
  have HN := Lib.hid hN
  rw [hN] at hm ⊢
  clear hr hR hN
  go_enter Try.func70, Try.ntmps70
  go_wp2
  go_loopw [5, 6] (fun v5 v6 wr => ∃ k : Nat, k ≤ N ∧ v5 = .int .i64 k ∧ Hid (∀ p ∈ l.take k, in3 n p) ∧ Below w.heap.size w wr) (fun i _ _ => N - (intOf i).toNat)
  case atStart => exact ⟨0, Nat.zero_le _, rfl, Lib.hid (by simp), Below.refl _ _⟩
  case round =>
    obtain ⟨k, hk, rfl, hno, hbr⟩ := hrel
    by_cases hlt : k < N
    · have hkl : k < l.length := by rw [HN.out]; exact hlt
      obtain ⟨b, o, rfl, hbl, e1, e2, e3⟩ := (HR.out.below hbr).get k hkl
      obtain ⟨p, hp⟩ : ∃ p, l[k] = p := ⟨_, rfl⟩
      rw [hp] at e1 e2 e3
      have HP := Lib.hid hp
      have HT := Lib.hid (show l.take (k + 1) = l.take k ++ [l[k]] from List.take_succ_eq_append_getElem hkl)
      have HM := Lib.hid (show p ∈ l from hp ▸ List.getElem_mem hkl)
      obtain ⟨t, ht⟩ : ∃ t, decide (in3 n p) = t := ⟨_, rfl⟩
      have HI := Lib.hid (fun W => rin_calls p n t ht h0 h1 W)
      have HTT := Lib.hid ht
      clear hp ht
      obtain ⟨px, py, pz⟩ := p
      dsimp only at e1 e2 e3
      have hZ := hbr.size
      cases t with
      | false =>
        go_wp2_with fail
        refine (HI.out _).mono ?_
        rintro e w3 ⟨rfl, hb3⟩
        go_wp2
        go_ret
        refine ⟨?_, bthen hbr hb3⟩
        have : r = false := by
          rw [← HA.out]
          cases e : allIn n l with
          | false => rfl
          | true => exact absurd ((allIn_iff n l).1 e _ HM.out) (of_decide_eq_false HTT.out)
        rw [this]; rfl
      | true =>
        go_wp2_with fail
        refine (HI.out _).mono ?_
        rintro e w3 ⟨rfl, hb3⟩
        go_wp2
        go_roundw
        case rel =>
          refine ⟨k + 1, by omega, by go_num, Lib.hid fun p' hp' => ?_, bthen hbr hb3⟩
          rw [HT.out, HP.out] at hp'
          rcases List.mem_append.1 hp' with h | h
          · exact hno.out p' h
          · simp at h; rw [h]; exact of_decide_eq_true HTT.out
        case measure => simp [intOf]; omega
    · obtain rfl : k = N := by omega
      go_wp2
      go_ret
      refine ⟨?_, hbr⟩
      have : r = true := by
        rw [← HA.out]
        refine (allIn_iff n l).2 fun p hp => hno.out p ?_
        rwa [List.take_of_length_le (by rw [HN.out]; exact Nat.le_refl _)]
      rw [this]; rfl
end Go.Proofs.Ytckdhahceelckaa.G
namespace Go.Proofs.Ytckdhahceelckaa.G
open Go.RowKit Go.Proofs.YtckdhahceelckaaW.PrintWords Go.Proofs.YtckdhahceelckaaW.PrintLast Go.Proofs.YtckdhahceelckaaW.PrintMore
attribute [local go_sem] max2_mx min2_mn max_two min_two max_three min_three max_four min_four
attribute [local go_sem high] eqA23
set_option linter.unusedVariables false
set_option linter.unusedSimpArgs false
structure BsInv (s low high : Nat) : Prop where
  a : low * low ≤ s
  b : s < high * high
  c : low < high
  d : high ≤ 67108864
theorem BsInv.done {s low high : Nat} (h : BsInv s low high) (h1 : high ≤ low + 1) : isq s = low := by
  have e : high = low + 1 := by have := h.c; omega
  have := h.b
  rw [e] at this
  exact (isq_unique s low h.a this).symm
set_option maxHeartbeats 2000000 in
theorem rsizes_calls (p : P3) (w : World) :
    Calls Try.prog 27 #[aP p] w fun e w' => e = .returned (.tuple #[.int .i64 (sz3 p).1, .int .i64 (sz3 p).2]) ∧ Below w.heap.size w w' := by
  obtain ⟨x, y, z⟩ := p
  have hff := allIn_far 16777216 (by decide) (by decide) [⟨x, y, z⟩]
  cases hf : far3 16777216 ⟨x, y, z⟩ with
  | true =>
    have hs : sz3 ⟨x, y, z⟩ = (0, 0) := by unfold sz3; rw [hf]; rfl
    rw [hs]
    have hi : decide (in3 16777216 ⟨x, y, z⟩) = false := by
      apply decide_eq_false; intro h; rw [(far3_iff _ _ (by decide) (by decide)).2 h] at hf; cases hf
    have HI := Lib.hid (fun W => rin_calls ⟨x, y, z⟩ 16777216 false hi (by decide) (by decide) W)
    clear hs hf hi hff
    go_enter Try.func27, Try.ntmps27
    go_wp2_with fail
    refine (HI.out _).mono ?_
    rintro e w1 ⟨rfl, hb⟩
    go_wp2
    go_ret2
    exact ⟨rfl, ((Below.refl _ w).alloc (Nat.le_refl _) _).trans (hb.mono (by simp))⟩
  | false =>
    have hin := (far3_iff _ _ (by decide) (by decide)).1 hf
    have hd := dot3_eq ⟨x, y, z⟩ ⟨x, y, z⟩ 16777216 16777216 hin hin (by decide)
    have hd1 := dotI_bd ⟨x, y, z⟩ ⟨x, y, z⟩ 16777216 16777216 hin hin
    have hd2 := dotI_self ⟨x, y, z⟩
    have hs : sz3 ⟨x, y, z⟩ = (fl3 ⟨x, y, z⟩, ce3 ⟨x, y, z⟩) := by unfold sz3; rw [hf]; rfl
    rw [hs]
    clear hs
    unfold ce3 fl3
    obtain ⟨s, hs⟩ : ∃ s : Nat, dotI ⟨x, y, z⟩ ⟨x, y, z⟩ = s := ⟨_, (Int.toNat_of_nonneg hd2).symm⟩
    rw [hs] at hd hd1 hd2 ⊢
    rw [Int.toNat_natCast]
    have hsb : s ≤ 844424930131968 := by omega
    have HD := Lib.hid hd
    have HI := Lib.hid (fun W => rin_calls ⟨x, y, z⟩ 16777216 true (decide_eq_true hin) (by decide) (by decide) W)
    clear hd hd1 hd2 hs hin hf hff
    obtain ⟨U, hU⟩ : ∃ U : Int, (if (isq s : Int) * (isq s : Int) < (s : Int) then (isq s : Int) + 1 else (isq s : Int)) = U := ⟨_, rfl⟩
    rw [hU]
    have HU := Lib.hid hU
    clear hU
    go_enter Try.func27, Try.ntmps27
    go_wp2_with fail
    refine (HI.out _).mono ?_
    rintro e w1 ⟨rfl, hb⟩
    have z1 := (hb.block _ (show w.heap.size < (w.alloc (.cells #[.int .i64 x, .int .i64 y, .int .i64 z] 23)).heap.size by simp)).trans (heap_alloc_new w (.cells #[.int .i64 x, .int .i64 y, .int .i64 z] 23))
    have x0 : w1.cell? ⟨w.heap.size, 0, none⟩ = some (.int .i64 x) := (blk_cell z1 0).trans rfl
    have x1 : w1.cell? ⟨w.heap.size, 1, none⟩ = some (.int .i64 y) := (blk_cell z1 1).trans rfl
    have x2 : w1.cell? ⟨w.heap.size, 2, none⟩ = some (.int .i64 z) := (blk_cell z1 2).trans rfl
    have hB := Lib.hid (((Below.refl _ w).alloc (Nat.le_refl _) _).trans (hb.mono (by simp)))
    clear hb z1
    go_wp2_with fail
    refine (rdot_calls _ _ _ _ _ _ _).mono ?_
    rintro e w2 ⟨rfl, hb⟩
    rw [HD.out]
    have hB := bthen hB.out hb
    clear hb x0 x1 x2 HD HI
    go_wp2
    go_loopw [6, 7, 8] (fun v6 v7 v8 wr => ∃ (low high : Nat), v6 = .int .i64 low ∧ v7 = .int .i64 high ∧ Hid (BsInv s low high) ∧ wr = w2) (fun a b _ _ => (intOf b).toNat - (intOf a).toNat)
    case atStart => exact ⟨0, 67108864, rfl, rfl, Lib.hid ⟨by omega, by omega, by decide, by decide⟩, rfl⟩
    case round =>
      obtain ⟨low, high, rfl, rfl, hi, rfl⟩ := hrel
      have hc := hi.out.c
      have hd := hi.out.d
      by_cases hg : high ≤ low + 1
      · have hdone := Lib.hid (hi.out.done hg)
        have ha := hi.out.a
        have hp : (low : Int) * low = (low * low : Nat) := by simp
        obtain ⟨m, hm⟩ : ∃ m : Nat, low * low = m := ⟨_, rfl⟩
        rw [hm] at hp ha
        have t0 : decide (1 < (high : Int) - (low : Int)) = false := decide_eq_false (by omega)
        rcases Nat.lt_or_ge m s with hlt | hge
        · have t1 : (((m : Nat) : Int) == ((s : Nat) : Int)) = false := by simp; omega
          clear hm hg ha
          go_wp2
          go_ret2
          refine ⟨ret_two (by rw [hdone.out]) ?_, hB⟩
          rw [← HU.out, hdone.out, hp, if_pos (by omega)]
        · have t1 : (((m : Nat) : Int) == ((s : Nat) : Int)) = true := by simp; omega
          clear hm hg
          go_wp2
          go_ret2
          refine ⟨ret_two (by rw [hdone.out]) ?_, hB⟩
          rw [← HU.out, hdone.out, hp, if_neg (by omega)]
      · have t0 : decide (1 < (high : Int) - (low : Int)) = true := decide_eq_true (by omega)
        obtain ⟨t, ht⟩ : ∃ t : Nat, (low + high) / 2 = t := ⟨_, rfl⟩
        have htb : t ≤ 67108864 := by omega
        have hq : ((low : Int) + (high : Int)).tdiv 2 = (t : Int) := by
          rw [Int.tdiv_eq_ediv_of_nonneg (by omega)]; omega
        have hq2 : ((low : Int) + (high : Int)) / 2 = (t : Int) := by omega
        have htt : t * t ≤ 67108864 * 67108864 := Nat.mul_le_mul htb htb
        obtain ⟨m, hm⟩ : ∃ m : Nat, t * t = m := ⟨_, rfl⟩
        have hp : (t : Int) * t = (m : Int) := by rw [← hm]; simp
        rw [hm] at htt
        have h3 : m ≤ s → BsInv s t high := fun h => ⟨by rw [hm]; exact h, hi.out.b, by omega, hd⟩
        have h4 : s < m → BsInv s low t := fun h => ⟨hi.out.a, by rw [hm]; exact h, by omega, htb⟩
        have H3 := Lib.hid h3
        have H4 := Lib.hid h4
        have htl : low < t := by omega
        have hth : t < high := by omega
        clear h3 h4 ht hm hg
        rcases Nat.lt_or_ge s m with hlt | hge
        · go_wp2
          go_roundw
          case rel => exact ⟨low, t, by go_num, by go_num, Lib.hid (H4.out hlt), trivial⟩
          case measure => simp [intOf]; omega
        · go_wp2
          go_roundw
          case rel => exact ⟨t, high, by go_num, by go_num, Lib.hid (H3.out hge), trivial⟩
          case measure => simp [intOf]; omega
end Go.Proofs.Ytckdhahceelckaa.G
namespace Go.Proofs.Ytckdhahceelckaa.G
open Go.RowKit Go.Proofs.YtckdhahceelckaaW.PrintWords Go.Proofs.YtckdhahceelckaaW.PrintLast Go.Proofs.YtckdhahceelckaaW.PrintMore
attribute [local go_sem] max2_mx min2_mn max_two min_two max_three min_three max_four min_four
attribute [local go_sem high] eqA23
set_option linter.unusedVariables false
set_option linter.unusedSimpArgs false
set_option maxHeartbeats 8000000 in
set_option maxRecDepth 100000 in
theorem sound_calls {w : World} {v u : Value} {p a e : List P3} {r : Int} {q b f : List P3} {s : Int} (hv : CoreV w v p a e r) (hu : CoreV w u q b f s) (hl : p.length ≤ 1000) (hk : q.length ≤ 1000) (X : P3) (G g by_ B : Int)
    (hg : wrap64 (wrap64 (G + r) + s) = g) (hf : (sz3 X).1 ≠ 0) (hby : (if 0 ≤ g then (sz3 X).2 else (sz3 X).1) = by_) (hB : wrap64 (g * by_) = B) (hall : ∀ P ∈ p, ∀ Q ∈ q, B ≤ dot3 X (minus3 Q P)) :
    Calls Try.prog 21 #[v, u, .agg #[.int .i64 X.x, .int .i64 X.y, .int .i64 X.z, .int .i64 G]] w fun en w' => en = .returned (.bool true) ∧ Below w.heap.size w w' := by
  have HS := Lib.hid (fun W => rsizes_calls X W)
  have HALL := Lib.hid hall
  obtain ⟨U, hU⟩ : ∃ U, sz3 X = U := ⟨_, rfl⟩
  rw [hU] at HS hf hby
  obtain ⟨fl, ce⟩ := U
  simp only at HS hf hby
  obtain ⟨X1, X2, X3⟩ := X
  have HV := Lib.hid hv
  have HU := Lib.hid hu
  obtain ⟨A0, A1, A2, c0, c1, c2, rfl, a0, _⟩ := hv.out
  obtain ⟨B0, B1, B2, d0, d1, d2, rfl, b0, _⟩ := hu.out
  have A0_ := Lib.hid a0
  have B0_ := Lib.hid b0
  obtain ⟨np, hnp⟩ : ∃ n, p.length = n := ⟨_, rfl⟩
  obtain ⟨na, hna⟩ : ∃ n, a.length = n := ⟨_, rfl⟩
  obtain ⟨ne, hne⟩ : ∃ n, e.length = n := ⟨_, rfl⟩
  obtain ⟨mp, hmp⟩ : ∃ n, q.length = n := ⟨_, rfl⟩
  obtain ⟨ma, hma⟩ : ∃ n, b.length = n := ⟨_, rfl⟩
  obtain ⟨me, hme⟩ : ∃ n, f.length = n := ⟨_, rfl⟩
  rw [hnp] at hl ⊢
  rw [hmp] at hk ⊢
  rw [hna, hne, hma, hme]
  have NP := Lib.hid hnp
  have MP := Lib.hid hmp
  have hf0 : (fl == 0) = false := by simpa using hf
  clear hv hu hnp hna hne hmp hma hme hU hf hall a0 b0
  have Z0 := Lib.hid (three0 w (.cells #[.slice A0 np c0, .slice A1 na c1, .slice A2 ne c2, .int .i64 r] 36) (.cells #[.slice B0 mp d0, .slice B1 ma d1, .slice B2 me d2, .int .i64 s] 36) (.cells #[.int .i64 X1, .int .i64 X2, .int .i64 X3, .int .i64 G] 40))
  have Z1 := Lib.hid (three1 w (.cells #[.slice A0 np c0, .slice A1 na c1, .slice A2 ne c2, .int .i64 r] 36) (.cells #[.slice B0 mp d0, .slice B1 ma d1, .slice B2 me d2, .int .i64 s] 36) (.cells #[.int .i64 X1, .int .i64 X2, .int .i64 X3, .int .i64 G] 40))
  have Z2 := Lib.hid (three2 w (.cells #[.slice A0 np c0, .slice A1 na c1, .slice A2 ne c2, .int .i64 r] 36) (.cells #[.slice B0 mp d0, .slice B1 ma d1, .slice B2 me d2, .int .i64 s] 36) (.cells #[.int .i64 X1, .int .i64 X2, .int .i64 X3, .int .i64 G] 40))
  have ZB := Lib.hid (Go.Joins.below_alloc3 w (.cells #[.slice A0 np c0, .slice A1 na c1, .slice A2 ne c2, .int .i64 r] 36) (.cells #[.slice B0 mp d0, .slice B1 ma d1, .slice B2 me d2, .int .i64 s] 36) (.cells #[.int .i64 X1, .int .i64 X2, .int .i64 X3, .int .i64 G] 40))
  obtain ⟨w1, hw1⟩ : ∃ V, ((w.alloc (.cells #[.slice A0 np c0, .slice A1 na c1, .slice A2 ne c2, .int .i64 r] 36)).alloc (.cells #[.slice B0 mp d0, .slice B1 ma d1, .slice B2 me d2, .int .i64 s] 36)).alloc (.cells #[.int .i64 X1, .int .i64 X2, .int .i64 X3, .int .i64 G] 40) = V := ⟨_, rfl⟩
  rw [hw1] at Z0 Z1 Z2 ZB
  have hw1' := Lib.hid hw1
  have hg' : IntKind.i64.wrap (IntKind.i64.wrap (G + r) + s) = g := by rw [i64_w, i64_w]; exact hg
  obtain ⟨h1, hh1⟩ : ∃ x, wrap64 (G + r) = x := ⟨_, rfl⟩
  have hh1' : IntKind.i64.wrap (G + r) = h1 := (i64_w _).trans hh1
  rw [hh1] at hg
  rw [hh1'] at hg'
  have hB' : IntKind.i64.wrap (g * by_) = B := (i64_w _).trans hB
  have HBY := Lib.hid hby
  clear hw1 hby
  go_enter Try.func21, Try.ntmps21
  go_wp2_with fail
  rw [hw1'.out]
  refine (HS.out w1).mono ?_
  rintro en w2 ⟨rfl, hb⟩
  have Z0 := Lib.hid ((hb.block _ (blk_lt Z0.out)).trans Z0.out)
  have Z1 := Lib.hid ((hb.block _ (blk_lt Z1.out)).trans Z1.out)
  have Z2 := Lib.hid ((hb.block _ (blk_lt Z2.out)).trans Z2.out)
  have ZB := Lib.hid (bthen ZB.out hb)
  clear hb HS hw1' HV HU hg hg' hh1 hh1'
  have A0_ := Lib.hid (A0_.out.below ZB.out)
  have B0_ := Lib.hid (B0_.out.below ZB.out)
  go_upto_if 32 with fail
  go_cut [10] (fun s10 wx => s10 = .int .i64 by_ ∧ wx = w2)
  case first =>
    by_cases hg0 : 0 ≤ g
    · have e := HBY.out
      rw [if_pos hg0] at e
      have E := Lib.hid e
      have d0 : decide (0 ≤ g) = true := decide_eq_true hg0
      clear e
      go_wp2
      go_meet
      exact ⟨by rw [← E.out], rfl⟩
    · have e := HBY.out
      rw [if_neg hg0] at e
      have E := Lib.hid e
      have d0 : decide (0 ≤ g) = false := decide_eq_false hg0
      clear e
      go_wp2
      go_meet
      exact ⟨by rw [← E.out], rfl⟩
  case rest =>
    obtain ⟨rfl, hwc⟩ := hcut
    subst hwc
    clear HBY
    go_wp2
    go_loopw [11, 12, 13] (fun v11 v12 v13 wr => ∃ i : Nat, i ≤ np ∧ v11 = .int .i64 i ∧ Hid (Below wc.heap.size wc wr)) (fun i _ _ _ => np - (intOf i).toNat)
    case atStart => exact ⟨0, by omega, rfl, Lib.hid (Below.refl _ _)⟩
    case round =>
      obtain ⟨i, hi, rfl, hb⟩ := hrel
      obtain ⟨wq, hwq⟩ : ∃ x : World, x = wr := ⟨_, rfl⟩
      subst hwq
      have x0 : wq.cell? ⟨w.heap.size, 0, none⟩ = some (.slice A0 np c0) := (blk_cell ((hb.out.block _ (blk_lt Z0.out)).trans Z0.out) 0).trans rfl
      have l0 : w.heap.size < wq.heap.size := blk_lt ((hb.out.block _ (blk_lt Z0.out)).trans Z0.out)
      by_cases hli : i < np
      · have hil : i < p.length := by rw [NP.out]; exact hli
        obtain ⟨ga, oa, rfl, _, _, _, _⟩ := A0_.out.1.get i hil
        go_wp2_with fail
        go_loopw [12, 13] (fun v12 v13 wr => ∃ j : Nat, j ≤ mp ∧ v12 = .int .i64 j ∧ Hid (Below wc.heap.size wc wr)) (fun i _ _ => mp - (intOf i).toNat)
        case atStart => exact ⟨0, by omega, rfl, hb⟩
        case round =>
          clear hb x0 l0
          obtain ⟨j, hj, rfl, hb⟩ := hrel
          obtain ⟨wq, hwq⟩ : ∃ x : World, x = wr := ⟨_, rfl⟩
          subst hwq
          have Y0 := Lib.hid ((hb.out.block _ (blk_lt Z0.out)).trans Z0.out)
          have Y1 := Lib.hid ((hb.out.block _ (blk_lt Z1.out)).trans Z1.out)
          have Y2 := Lib.hid ((hb.out.block _ (blk_lt Z2.out)).trans Z2.out)
          have x0 : wq.cell? ⟨w.heap.size, 0, none⟩ = some (.slice (some ⟨ga, oa, none⟩) np c0) := (blk_cell Y0.out 0).trans rfl
          have l0 : w.heap.size < wq.heap.size := blk_lt Y0.out
          have y0 : wq.cell? ⟨w.heap.size + 1, 0, none⟩ = some (.slice B0 mp d0) := (blk_cell Y1.out 0).trans rfl
          have l1 : w.heap.size + 1 < wq.heap.size := blk_lt Y1.out
          by_cases hlj : j < mp
          · have hjl : j < q.length := by rw [MP.out]; exact hlj
            obtain ⟨gb, ob, rfl, lgb, f0, f1, f2⟩ := (B0_.out.below hb.out).1.get j hjl
            obtain ⟨ga', oa', hA, lga, e0, e1, e2⟩ := (A0_.out.below hb.out).1.get i hil
            simp only [Option.some.injEq, Addr.mk.injEq, and_true] at hA
            obtain ⟨rfl, rfl⟩ := hA
            have hle := HALL.out _ (List.getElem_mem hil) _ (List.getElem_mem hjl)
            obtain ⟨P, hP⟩ : ∃ e, p[i] = e := ⟨_, rfl⟩
            obtain ⟨Q, hQ⟩ : ∃ e, q[j] = e := ⟨_, rfl⟩
            rw [hP] at e0 e1 e2 hle
            rw [hQ] at f0 f1 f2 hle
            obtain ⟨px, py, pz⟩ := P
            obtain ⟨qx, qy, qz⟩ := Q
            simp only at e0 e1 e2 f0 f1 f2
            have HM := (fun W => rminus_calls qx qy qz px py pz W)
            obtain ⟨D, hD⟩ : ∃ u, minus3 ⟨qx, qy, qz⟩ ⟨px, py, pz⟩ = u := ⟨_, rfl⟩
            rw [hD] at HM hle
            obtain ⟨dx, dy, dz⟩ := D
            simp only at HM
            have HD := (fun W => rdot_calls X1 X2 X3 dx dy dz W)
            obtain ⟨t, ht⟩ : ∃ t, dot3 ⟨X1, X2, X3⟩ ⟨dx, dy, dz⟩ = t := ⟨_, rfl⟩
            rw [ht] at HD hle
            have HM := Lib.hid HM
            have HD := Lib.hid HD
            have d1 : decide (t < B) = false := decide_eq_false (by omega)
            have t1 : (i : Int) < (np : Int) := by omega
            have t2 : (j : Int) < (mp : Int) := by omega
            clear hP hQ hD ht hle
            go_wp2
            have HB := Lib.hid ((Below.refl (wq.heap.size) wq).drew)
            have FF := Lib.hid (show ∀ V, Hid (Below (wq.heap.size) wq V) → V.cell? ⟨w.heap.size, 0, none⟩ = some (.slice (some ⟨ga, oa, none⟩) np c0) ∧ V.cell? ⟨w.heap.size + 1, 0, none⟩ = some (.slice (some ⟨gb, ob, none⟩) mp d0) ∧ V.cell? ⟨ga, oa + i * 3, none⟩ = some (.int .i64 px) ∧ V.cell? ⟨ga, oa + i * 3 + 1, none⟩ = some (.int .i64 py) ∧ V.cell? ⟨ga, oa + i * 3 + 2, none⟩ = some (.int .i64 pz) ∧ V.cell? ⟨gb, ob + j * 3, none⟩ = some (.int .i64 qx) ∧ V.cell? ⟨gb, ob + j * 3 + 1, none⟩ = some (.int .i64 qy) ∧ V.cell? ⟨gb, ob + j * 3 + 2, none⟩ = some (.int .i64 qz) from fun V HB => ⟨(HB.out.cell (p := ⟨w.heap.size, 0, none⟩) (l0)).trans x0, (HB.out.cell (p := ⟨w.heap.size + 1, 0, none⟩) (l1)).trans y0, (HB.out.cell (p := ⟨ga, oa + i * 3, none⟩) (lga)).trans e0, (HB.out.cell (p := ⟨ga, oa + i * 3 + 1, none⟩) (lga)).trans e1, (HB.out.cell (p := ⟨ga, oa + i * 3 + 2, none⟩) (lga)).trans e2, (HB.out.cell (p := ⟨gb, ob + j * 3, none⟩) (lgb)).trans f0, (HB.out.cell (p := ⟨gb, ob + j * 3 + 1, none⟩) (lgb)).trans f1, (HB.out.cell (p := ⟨gb, ob + j * 3 + 2, none⟩) (lgb)).trans f2⟩)
            refine start_ (n := 13) (S := fun w' => w'.cell? ⟨w.heap.size, 0, none⟩ = some (.slice (some ⟨ga, oa, none⟩) np c0) ∧ w'.cell? ⟨w.heap.size + 1, 0, none⟩ = some (.slice (some ⟨gb, ob, none⟩) mp d0) ∧ w'.cell? ⟨ga, oa + i * 3, none⟩ = some (.int .i64 px) ∧ w'.cell? ⟨ga, oa + i * 3 + 1, none⟩ = some (.int .i64 py) ∧ w'.cell? ⟨ga, oa + i * 3 + 2, none⟩ = some (.int .i64 pz) ∧ w'.cell? ⟨gb, ob + j * 3, none⟩ = some (.int .i64 qx) ∧ w'.cell? ⟨gb, ob + j * 3 + 1, none⟩ = some (.int .i64 qy) ∧ w'.cell? ⟨gb, ob + j * 3 + 2, none⟩ = some (.int .i64 qz)) (ds := []) (MT 0 13) (by kernel_rfl) rfl rfl (FF.out _ HB) (fun hHeld => ?_)
            obtain ⟨wd, hwd⟩ : ∃ x, wq.drew = x := ⟨_, rfl⟩
            rw [hwd] at HB hHeld ⊢
            clear hwd
            refine pu_ 0 48 (h := ?_)
            refine pu_ 2 50 (h := ?_)
            refine pu_ 5 53 (h := ?_)
            refine pu_ 7 55 (h := ?_)
            refine ta_ 1 49 hHeld (h := ?_)
            refine pu_ 3 51 (h := ?_)
            refine ta_ 4 52 hHeld (h := ?_)
            refine ta_ 6 54 hHeld (h := ?_)
            refine pu_ 8 56 (h := ?_)
            refine ta_ 9 57 hHeld (h := ?_)
            refine join_ (σ := Nat) 1 (MT 12 1) (fun s => [(13, .pointer (some ⟨s, 0, none⟩)), (58, aP ⟨dx, dy, dz⟩)]) (fun s w' => wq.heap.size ≤ s ∧ w'.heap[s]? = some (.cells #[.int .i64 0, .int .i64 0, .int .i64 0] 23 (0, 0)) ∧ Below (wq.heap.size) wq w') ?_ ?_
            rotate_left
            · intro hCont
              refine two_ (i := 10) (j := 11) (Ni := some 58) (Nj := some 13) (MT 11 2) #[true, true, true, true, true, true, true, true, true, true, false, true, false] rfl rfl rfl rfl (by kernel_rfl) (by decide) (by decide) (fun K hK => ?_) (fun K hK => ?_)
              · skip
                refine goes_ Try.func23 (by kernel_rfl) rfl #[aP ⟨qx, qy, qz⟩, aP ⟨px, py, pz⟩] (by rfl) rfl rfl (by simp only [List.map_toArray, List.map_cons, List.map_nil]; rfl) ?_
                with_reducible refine (HM.out _).mono ?_
                rintro en w7 ⟨rfl, hb⟩
                have HB := Lib.hid (HB.out.trans (hb.mono (Nat.le_trans (Nat.le_refl _) HB.out.size)))
                clear hb
                refine ⟨_, rfl, ?_⟩
                refine hK.out _ _ (FF.out _ HB) (fun hHeld => ?_)
                clear hK K
                refine no_ (h := ?_)
                refine on_ 11 (some 13) (h := fun K hK => ?_)
                refine value_ (w1 := ?_) (v := ?_) (by rfl) rfl ?_ ?_
                rotate_left 2
                · go_simp
                  constructor
                  · rfl
                  · rfl
                have HA := Lib.hid (ha_new HB.out (.cells #[.int .i64 0, .int .i64 0, .int .i64 0] 23))
                have hge := HB.out.size
                have HB := Lib.hid (HB.out.alloc (Nat.le_trans (Nat.le_refl _) HB.out.size) (.cells #[.int .i64 0, .int .i64 0, .int .i64 0] 23))
                refine hK.out _ _ (FF.out _ HB) (fun hHeld => ?_)
                clear hK K
                refine no_ (h := ?_)
                exact norm_ (by simp only [putAll, Act.put, List.setIfInBounds_toArray, List.set_cons_zero, List.set_cons_succ]) (hCont _ _ ⟨hge, HA.out, HB.out⟩)
              · skip
                refine value_ (w1 := ?_) (v := ?_) (by rfl) rfl ?_ ?_
                rotate_left 2
                · go_simp
                  constructor
                  · rfl
                  · rfl
                have HA := Lib.hid (ha_new HB.out (.cells #[.int .i64 0, .int .i64 0, .int .i64 0] 23))
                have hge := HB.out.size
                have HB := Lib.hid (HB.out.alloc (Nat.le_trans (Nat.le_refl _) HB.out.size) (.cells #[.int .i64 0, .int .i64 0, .int .i64 0] 23))
                refine hK.out _ _ (FF.out _ HB) (fun hHeld => ?_)
                clear hK K
                refine no_ (h := ?_)
                refine on_ 10 (some 58) (h := fun K hK => ?_)
                refine goes_ Try.func23 (by kernel_rfl) rfl #[aP ⟨qx, qy, qz⟩, aP ⟨px, py, pz⟩] (by rfl) rfl rfl (by simp only [List.map_toArray, List.map_cons, List.map_nil]; rfl) ?_
                with_reducible refine (HM.out _).mono ?_
                rintro en w7 ⟨rfl, hb⟩
                have HB := Lib.hid (HB.out.trans (hb.mono (Nat.le_trans (Nat.le_refl _) HB.out.size)))
                have HA := Lib.hid ((hb.block _ (blk_lt HA.out)).trans HA.out)
                clear hb
                refine ⟨_, rfl, ?_⟩
                refine hK.out _ _ (FF.out _ HB) (fun hHeld => ?_)
                clear hK K
                refine no_ (h := ?_)
                exact norm_ (by simp only [putAll, Act.put, List.setIfInBounds_toArray, List.set_cons_zero, List.set_cons_succ]) (hCont _ _ ⟨hge, HA.out, HB.out⟩)
            rintro AB wj ⟨hge, HA, HB⟩
            have HA := Lib.hid HA
            have HB := Lib.hid HB
            have hHeld : wj.cell? ⟨w.heap.size, 0, none⟩ = some (.slice (some ⟨ga, oa, none⟩) np c0) ∧ wj.cell? ⟨w.heap.size + 1, 0, none⟩ = some (.slice (some ⟨gb, ob, none⟩) mp d0) ∧ wj.cell? ⟨ga, oa + i * 3, none⟩ = some (.int .i64 px) ∧ wj.cell? ⟨ga, oa + i * 3 + 1, none⟩ = some (.int .i64 py) ∧ wj.cell? ⟨ga, oa + i * 3 + 2, none⟩ = some (.int .i64 pz) ∧ wj.cell? ⟨gb, ob + j * 3, none⟩ = some (.int .i64 qx) ∧ wj.cell? ⟨gb, ob + j * 3 + 1, none⟩ = some (.int .i64 qy) ∧ wj.cell? ⟨gb, ob + j * 3 + 2, none⟩ = some (.int .i64 qz) := (FF.out _ HB)
            refine no_ (h := ?_)
            refine on_ 12 (none) (h := fun K hK => ?_)
            have sc0 : World.cell? _ ⟨AB, 0, none⟩ = some (.int .i64 0) := (blk_cell HA.out 0).trans rfl
            have sf0 := blk_frozen HA.out 0
            have sc1 : World.cell? _ ⟨AB, 1, none⟩ = some (.int .i64 0) := (blk_cell HA.out 1).trans rfl
            have sf1 := blk_frozen HA.out 1
            have sc2 : World.cell? _ ⟨AB, 2, none⟩ = some (.int .i64 0) := (blk_cell HA.out 2).trans rfl
            have sf2 := blk_frozen HA.out 2
            refine skip_ (w1 := ?_) (by rfl) rfl ?_ ?_
            rotate_left
            · go_simp
              rfl
            have HA := Lib.hid (bs3 HA.out (.int .i64 dx) (.int .i64 dy) (.int .i64 dz))
            have HB := Lib.hid (bb3 HB.out (Nat.le_trans (Nat.le_refl _) hge) (.int .i64 dx) (.int .i64 dy) (.int .i64 dz))
            clear sc0 sf0 sc1 sf1 sc2 sf2
            refine hK.out _ _ (FF.out _ HB) (fun hHeld => ?_)
            clear hK K
            refine done_ (by kernel_rfl) ?_
            obtain ⟨w6, hwn⟩ : ∃ V, (((wj.setCell ⟨AB, 0, none⟩ (.int .i64 dx)).setCell ⟨AB, 1, none⟩ (.int .i64 dy)).setCell ⟨AB, 2, none⟩ (.int .i64 dz)) = V := ⟨_, rfl⟩
            rw [hwn] at HA HB ⊢
            clear hwn
            have Y2 := Lib.hid ((HB.out.block _ (blk_lt Y2.out)).trans Y2.out)
            have hb6 := Lib.hid (bthen hb.out HB.out)
            have HA6 := HA
            clear x0 l0 y0 l1 e0 e1 e2 f0 f1 f2 lga lgb t1 t2 hb HB HA hge hHeld Y0 Y1 HM
            have x0 : w6.cell? ⟨w.heap.size + 2, 0, none⟩ = some (.int .i64 X1) := (blk_cell Y2.out 0).trans rfl
            have x1 : w6.cell? ⟨w.heap.size + 2, 1, none⟩ = some (.int .i64 X2) := (blk_cell Y2.out 1).trans rfl
            have x2 : w6.cell? ⟨w.heap.size + 2, 2, none⟩ = some (.int .i64 X3) := (blk_cell Y2.out 2).trans rfl
            have l2 : w.heap.size + 2 < w6.heap.size := blk_lt Y2.out
            have y0 : w6.cell? ⟨AB, 0, none⟩ = some (.int .i64 dx) := (blk_cell HA6.out 0).trans rfl
            have y1 : w6.cell? ⟨AB, 1, none⟩ = some (.int .i64 dy) := (blk_cell HA6.out 1).trans rfl
            have y2 : w6.cell? ⟨AB, 2, none⟩ = some (.int .i64 dz) := (blk_cell HA6.out 2).trans rfl
            have lAB : AB < w6.heap.size := blk_lt HA6.out
            go_wp2_with fail
            refine (HD.out _).mono ?_
            rintro en w7 ⟨rfl, hb⟩
            have hb7 := Lib.hid (bthen hb6.out hb)
            clear x0 x1 x2 l2 y0 y1 y2 lAB hb hb6 HA6 HD
            go_wp2
            go_roundw
            case rel => exact ⟨j + 1, by omega, by go_num, hb7⟩
            case measure => simp [intOf]; omega
          · obtain rfl : j = mp := by omega
            clear x0 l0
            go_wp2
            go_roundw
            case rel => exact ⟨i + 1, by omega, by go_num, hb⟩
            case measure => simp [intOf]; omega
      · obtain rfl : i = np := by omega
        go_wp2
        go_ret
        exact ⟨rfl, bthen ZB.out hb.out⟩
end Go.Proofs.Ytckdhahceelckaa.G
namespace Go.Proofs.Ytckdhahceelckaa.G
open Go.RowKit Go.Proofs.YtckdhahceelckaaW.PrintWords
set_option linter.unusedVariables false
theorem dot3_negI (n p : P3) (hn : in3 1048576 n) (hp : in3 16777216 p) : dot3 (negI n) p = -dot3 n p := by
  have hn' : in3 1048576 (negI n) := by unfold in3 negI at *; simp only; omega
  rw [dot3_eq n p 1048576 16777216 hn hp (by decide), dot3_eq _ p 1048576 16777216 hn' hp (by decide)]
  unfold dotI negI
  simp only [Int.neg_mul]
  omega
theorem negI_in {n : P3} {m : Int} (h : in3 m n) : in3 m (negI n) := by unfold in3 negI at *; simp only; omega
theorem negI_ne {n : P3} (h : n ≠ ⟨0, 0, 0⟩) : negI n ≠ ⟨0, 0, 0⟩ := fun e => h (by
  unfold negI at e
  simp only [P3.mk.injEq] at e
  cases n
  simp only [P3.mk.injEq]
  simp only at e
  omega)
theorem sizes_negI (n : P3) : fl3 (negI n) = fl3 n ∧ ce3 (negI n) = ce3 n := by
  have e : dotI (negI n) (negI n) = dotI n n := by unfold dotI negI; simp only [Int.neg_mul_neg]
  unfold ce3 fl3
  rw [e]
  exact ⟨rfl, rfl⟩
theorem reach_negI {n p0 : P3} {r : List P3} (hn : in3 1048576 n) (hp : ∀ p ∈ p0 :: r, in3 16777216 p) : (reachF (negI n) p0 r).1 = -(reachF n p0 r).2 ∧ (reachF (negI n) p0 r).2 = -(reachF n p0 r).1 := by
  have gen : ∀ (l : List P3) (s t : Int × Int), (∀ p ∈ l, in3 16777216 p) → t.1 = -s.2 → t.2 = -s.1 → (l.foldl (rstep (negI n)) t).1 = -(l.foldl (rstep n) s).2 ∧ (l.foldl (rstep (negI n)) t).2 = -(l.foldl (rstep n) s).1 := by
    intro l
    induction l with
    | nil => intro s t _ h1 h2; exact ⟨h1, h2⟩
    | cons p l ih =>
      intro s t h h1 h2
      rw [List.foldl_cons, List.foldl_cons]
      refine ih _ _ (fun q hq => h q (by simp [hq])) ?_ ?_
      · unfold rstep mn mx
        simp only
        rw [dot3_negI n p hn (h p (by simp)), h1]
        split <;> split <;> omega
      · unfold rstep mn mx
        simp only
        rw [dot3_negI n p hn (h p (by simp)), h2]
        split <;> split <;> omega
  unfold reachF
  exact gen r _ _ (fun q hq => hp q (by simp [hq])) (dot3_negI n p0 hn (hp p0 (by simp))) (dot3_negI n p0 hn (hp p0 (by simp)))
theorem gaps_negI {n a0 b0 : P3} {ar br : List P3} (ra rb : Int) (hn : in3 1048576 n) (ha : ∀ p ∈ a0 :: ar, in3 16777216 p) (hb : ∀ p ∈ b0 :: br, in3 16777216 p) : (gapsF (negI n) a0 ar ra b0 br rb).1 = (gapsF n a0 ar ra b0 br rb).2 := by
  unfold gapsF
  simp only
  rw [(reach_negI hn ha).2, (reach_negI hn hb).1, (sizes_negI n).1, (sizes_negI n).2]
  congr 1
  omega
theorem minus_zeroI {n : P3} (h : in3 1048576 n) : minus3 ⟨0, 0, 0⟩ n = negI n := by
  rw [minus3_eq _ _ (by unfold in3; simp) (in3_le (by decide) h)]
  unfold negI
  simp
theorem reach_at (n p0 : P3) (r : List P3) : ∀ p ∈ p0 :: r, (reachF n p0 r).1 ≤ dot3 n p ∧ dot3 n p ≤ (reachF n p0 r).2 := by
  have gen : ∀ (l : List P3) (s : Int × Int), (l.foldl (rstep n) s).1 ≤ s.1 ∧ s.2 ≤ (l.foldl (rstep n) s).2 ∧ ∀ p ∈ l, (l.foldl (rstep n) s).1 ≤ dot3 n p ∧ dot3 n p ≤ (l.foldl (rstep n) s).2 := by
    intro l
    induction l with
    | nil => intro s; exact ⟨Int.le_refl _, Int.le_refl _, by simp⟩
    | cons p l ih =>
      intro s
      rw [List.foldl_cons]
      obtain ⟨h1, h2, h3⟩ := ih (rstep n s p)
      obtain ⟨m1, m2, _⟩ := mx_facts s.2 (dot3 n p)
      obtain ⟨k1, k2, _⟩ := mn_facts s.1 (dot3 n p)
      have e1 : (rstep n s p).1 = mn s.1 (dot3 n p) := rfl
      have e2 : (rstep n s p).2 = mx s.2 (dot3 n p) := rfl
      rw [e1] at h1
      rw [e2] at h2
      refine ⟨by omega, by omega, fun q hq => ?_⟩
      rcases List.mem_cons.1 hq with rfl | hq
      · omega
      · exact h3 q hq
  obtain ⟨h1, h2, h3⟩ := gen r (dot3 n p0, dot3 n p0)
  intro p hp
  rcases List.mem_cons.1 hp with rfl | hp
  · exact ⟨h1, h2⟩
  · exact h3 p hp
theorem dot3_minus {n P Q : P3} (hn : in3 1048576 n) (hP : in3 16777216 P) (hQ : in3 16777216 Q) : dot3 n (minus3 Q P) = dot3 n Q - dot3 n P := by
  rw [minus3_eq Q P (in3_le (by decide) hQ) (in3_le (by decide) hP)]
  have hd : in3 33554432 (⟨Q.x - P.x, Q.y - P.y, Q.z - P.z⟩ : P3) := by unfold in3 at *; simp only; omega
  rw [dot3_eq n _ 1048576 33554432 hn hd (by decide), dot3_eq n Q 1048576 16777216 hn hQ (by decide), dot3_eq n P 1048576 16777216 hn hP (by decide)]
  unfold dotI
  simp only
  grind
/-- what Sound asks -/
structure SoundP (p q : List P3) (r s : Int) (X : P3) (G : Int) (g by_ B : Int) : Prop where
  hg : wrap64 (wrap64 (G + r) + s) = g
  hf : (sz3 X).1 ≠ 0
  hby : (if 0 ≤ g then (sz3 X).2 else (sz3 X).1) = by_
  hB : wrap64 (g * by_) = B
  all : ∀ P ∈ p, ∀ Q ∈ q, B ≤ dot3 X (minus3 Q P)
theorem sz3_in {n : P3} (hn : in3 1048576 n) : sz3 n = (fl3 n, ce3 n) := by
  unfold sz3
  rw [(far3_iff _ n (by decide) (by decide)).2 (in3_le (by decide) hn)]
  rfl
theorem w64I {x : Int} (h : -9223372036854775808 ≤ x ∧ x ≤ 9223372036854775807) : wrap64 x = x := by unfold wrap64; omega
theorem gap_arith (t ce fl r s : Int) (ht : -1125899906842624 ≤ t ∧ t ≤ 1125899906842624) (hf : 1 ≤ fl) (hfl : fl ≤ 16777216) (hc : fl ≤ ce ∧ ce ≤ fl + 1) (hr : 0 ≤ r ∧ r ≤ 65536) (hs : 0 ≤ s ∧ s ≤ 65536) :
    ∃ g B, wrap64 (wrap64 (gapV t ce fl r s + r) + s) = g ∧ wrap64 (g * (if 0 ≤ g then ce else fl)) = B ∧ B ≤ t := by
  unfold gapV
  by_cases h : 0 ≤ t
  · rw [if_pos h]
    have q1 : 0 ≤ t / ce := Int.ediv_nonneg h (by omega)
    have q2 : t / ce ≤ t := Int.ediv_le_self _ h
    have q3 : t / ce * ce ≤ t := Int.ediv_mul_le t (by omega)
    have q4 := Int.mul_nonneg q1 (show 0 ≤ ce by omega)
    refine ⟨t / ce, t / ce * ce, ?_, ?_, q3⟩
    · rw [w64I (x := t / ce - r - s + r) (by omega), w64I (by omega)]; omega
    · rw [if_pos q1]; exact w64I (by omega)
  · rw [if_neg h]
    have p0 : 0 ≤ -t + fl - 1 := by omega
    have q1 : 0 ≤ (-t + fl - 1) / fl := Int.ediv_nonneg p0 (by omega)
    have q2 : (-t + fl - 1) / fl ≤ -t + fl - 1 := Int.ediv_le_self _ p0
    have q3 : (-t + fl - 1) / fl * fl ≤ -t + fl - 1 := Int.ediv_mul_le _ (by omega)
    have q4 : -t + fl - 1 < ((-t + fl - 1) / fl + 1) * fl := Int.lt_ediv_add_one_mul_self _ (by omega)
    rw [Int.add_mul, Int.one_mul] at q4
    generalize (-t + fl - 1) / fl = k at q1 q2 q3 q4
    have q5 := Int.mul_nonneg q1 (show 0 ≤ fl by omega)
    have q6 : k ≠ 0 := by
      intro e
      rw [e, Int.zero_mul] at q4
      omega
    refine ⟨-k, -(k * fl), ?_, ?_, by omega⟩
    · rw [w64I (x := -k - r - s + r) (by omega), w64I (by omega)]; omega
    · rw [if_neg (by omega), Int.neg_mul]; exact w64I (by omega)
/-- a direction's own gap is proved by it -/
theorem sound_told {n p0 q0 : P3} {pr qr : List P3} {r s : Int} (hn : in3 1048576 n) (h0 : n ≠ ⟨0, 0, 0⟩) (hp : ∀ p ∈ p0 :: pr, in3 16777216 p) (hq : ∀ p ∈ q0 :: qr, in3 16777216 p) (hr : 0 ≤ r ∧ r ≤ 65536) (hs : 0 ≤ s ∧ s ≤ 65536) :
    ∃ g by_ B, SoundP (p0 :: pr) (q0 :: qr) r s n (gapsF n p0 pr r q0 qr s).1 g by_ B := by
  have h1 := reach_bd hn hp
  have h2 := reach_bd hn hq
  have hf := fl3_pos n h0
  have hfl := fl3_le n hn
  have hc := ce3_bd n
  have hd : ∀ P ∈ p0 :: pr, ∀ Q ∈ q0 :: qr, (reachF n q0 qr).1 - (reachF n p0 pr).2 ≤ dot3 n (minus3 Q P) := fun P hP Q hQ => by
    rw [dot3_minus hn (hp P hP) (hq Q hQ)]
    have := (reach_at n p0 pr P hP).2
    have := (reach_at n q0 qr Q hQ).1
    omega
  have hsz := sz3_in hn
  obtain ⟨g, B, e1, e2, e3⟩ := gap_arith ((reachF n q0 qr).1 - (reachF n p0 pr).2) (ce3 n) (fl3 n) r s (by omega) hf hfl hc hr hs
  refine ⟨g, _, B, ⟨e1, by rw [hsz]; simp only; omega, by rw [hsz], e2, fun P hP Q hQ => Int.le_trans e3 (hd P hP Q hQ)⟩⟩
/-- a core has a way of its own, or two points at most -/
def Ways (p a : List P3) : Prop := p.length ≤ 2 ∨ ∃ x ∈ a, long3 x ≠ ⟨0, 0, 0⟩
theorem sound_plain {p a e q b f : List P3} {r s : Int} (m : MayP p a e r) (k : MayP q b f s) (ha : Ways p a) (hb : Ways q b) (R : P3 × Int) (hR : apartF p a e r q b f s = R) : ∃ g by_ B, SoundP p q r s R.1 R.2 g by_ B := by
  obtain ⟨p0, pr, rfl, hp⟩ := m.pts
  obtain ⟨q0, qr, rfl, hq⟩ := k.pts
  have hr := And.intro m.r0 m.r1
  have hs := And.intro k.r0 k.r1
  subst hR
  unfold apartF
  simp only [List.headD_cons, List.tail_cons]
  rcases apF_inv p0 pr r q0 qr s (rawC (p0 :: pr) a e (q0 :: qr) b f) with ⟨_, h, hno⟩ | ⟨_, x, _, h0, h | h⟩
  · rw [h]
    simp only
    have two : (p0 :: pr).length ≤ 2 ∧ (q0 :: qr).length ≤ 2 := by
      refine ⟨ha.resolve_right ?_, hb.resolve_right ?_⟩
      · rintro ⟨x, hx, hx0⟩
        exact hx0 (hno x (by unfold rawC; simp [hx]))
      · rintro ⟨x, hx, hx0⟩
        exact hx0 (hno x (by unfold rawC; simp [hx]))
    have eq : ∀ P ∈ p0 :: pr, ∀ Q ∈ q0 :: qr, minus3 Q P = ⟨0, 0, 0⟩ := by
      intro P hP Q hQ
      have hd : in3 4398046511104 (minus3 Q P) := by
        have h1 := hp P hP
        have h2 := hq Q hQ
        rw [minus3_eq Q P (in3_le (by decide) h2) (in3_le (by decide) h1)]
        unfold in3 at *
        simp only
        omega
      have hz := hno (short3 (minus3 Q P)) (by
        unfold rawC
        rw [if_neg (by unfold mn; split <;> omega)]
        refine List.mem_append_right _ (List.mem_append_right _ ?_)
        unfold pointW
        refine List.mem_flatMap.2 ⟨P, hP, List.mem_flatMap.2 ⟨Q, hQ, ?_⟩⟩
        unfold roundW
        exact List.mem_cons_self)
      by_cases hz0 : minus3 Q P = ⟨0, 0, 0⟩
      · exact hz0
      · exact absurd hz (way_near _ hd hz0).1
    have e1 : wrap64 (wrap64 (-r - s + r) + s) = 0 := by
      rw [w64I (x := -r - s + r) (by omega), w64I (by omega)]; omega
    have z : wrap64 0 = 0 := w64I (by omega)
    have hz1 := sz3_in (n := ⟨0, 0, 1048576⟩) (by unfold in3; simp)
    have hz2 := fl3_pos ⟨0, 0, 1048576⟩ (fun h => absurd (congrArg P3.z h) (by simp))
    refine ⟨0, _, 0, ⟨e1, by rw [hz1]; simp only; omega, rfl, by rw [Int.zero_mul]; exact z, fun P hP Q hQ => ?_⟩⟩
    rw [eq P hP Q hQ]
    unfold dot3
    simp only [Int.mul_zero, z, Int.add_zero, Int.le_refl]
  · rw [h]
    exact sound_told (long3_in x) h0 hp hq hr hs
  · rw [h, minus_zeroI (long3_in x)]
    simp only
    rw [← gaps_negI r s (long3_in x) hp hq]
    exact sound_told (negI_in (long3_in x)) (negI_ne h0) hp hq hr hs
end Go.Proofs.Ytckdhahceelckaa.G
namespace Go.Proofs.Ytckdhahceelckaa.G
open Go.RowKit Go.Proofs.YtckdhahceelckaaW.PrintWords
set_option linter.unusedVariables false
theorem min_ratio (f g : P3 → Int) : ∀ (l : List P3), (∀ p ∈ l, 0 ≤ f p) → (∃ p ∈ l, g p < 0) → ∃ p ∈ l, g p < 0 ∧ ∀ o ∈ l, g o < 0 → f p * (-(g o)) ≤ f o * (-(g p))
  | [], _, h => by obtain ⟨p, hp, _⟩ := h; simp at hp
  | x :: l, hf, h => by
    have hf' : ∀ p ∈ l, 0 ≤ f p := fun p hp => hf p (List.mem_cons_of_mem _ hp)
    by_cases hl : ∃ p ∈ l, g p < 0
    · obtain ⟨p, hp, gp, hmin⟩ := min_ratio f g l hf' hl
      by_cases hx : g x < 0 ∧ f x * (-(g p)) ≤ f p * (-(g x))
      · refine ⟨x, List.mem_cons_self, hx.1, fun o ho go => ?_⟩
        rcases List.mem_cons.1 ho with rfl | ho
        · exact Int.le_refl _
        · have h1 := Int.mul_le_mul_of_nonneg_right hx.2 (show 0 ≤ -(g o) by omega)
          have h2 := Int.mul_le_mul_of_nonneg_right (hmin o ho go) (show 0 ≤ -(g x) by omega)
          refine Int.le_of_mul_le_mul_right (a := -(g p)) ?_ (by omega)
          have e1 : f x * -(g o) * -(g p) = f x * -(g p) * -(g o) := by grind
          have e2 : f p * -(g x) * -(g o) = f p * -(g o) * -(g x) := by grind
          have e3 : f o * -(g x) * -(g p) = f o * -(g p) * -(g x) := by grind
          omega
      · refine ⟨p, List.mem_cons_of_mem _ hp, gp, fun o ho go => ?_⟩
        rcases List.mem_cons.1 ho with rfl | ho
        · have : ¬ (f o * (-(g p)) ≤ f p * (-(g o))) := fun h' => hx ⟨go, h'⟩
          omega
        · exact hmin o ho go
    · obtain ⟨p, hp, gp⟩ := h
      rcases List.mem_cons.1 hp with rfl | hp
      · refine ⟨p, List.mem_cons_self, gp, fun o ho go => ?_⟩
        rcases List.mem_cons.1 ho with rfl | ho
        · exact Int.le_refl _
        · exact absurd ⟨o, ho, go⟩ hl
      · exact absurd ⟨p, hp, gp⟩ hl
def combI (α β : Int) (n m : P3) : P3 := ⟨α * n.x + β * m.x, α * n.y + β * m.y, α * n.z + β * m.z⟩
theorem dot_comb (α β : Int) (n m v : P3) : dotI (combI α β n m) v = α * dotI n v + β * dotI m v := by unfold dotI combI; grind
theorem rotate_ (l : List P3) (a n m : P3) (hn : ∀ p ∈ l, 0 ≤ dotI n (subI p a)) (hz : ∀ p ∈ l, dotI n (subI p a) = 0 → dotI m (subI p a) = 0) (hex : ∃ p ∈ l, dotI m (subI p a) ≠ 0) :
    ∃ α β p, 0 < α ∧ p ∈ l ∧ dotI m (subI p a) ≠ 0 ∧ (∀ o ∈ l, 0 ≤ dotI (combI α β n m) (subI o a)) ∧ dotI (combI α β n m) (subI p a) = 0 := by
  obtain ⟨t, ht, hneg⟩ : ∃ t : Int, (t = 1 ∨ t = -1) ∧ ∃ p ∈ l, t * dotI m (subI p a) < 0 := by
    obtain ⟨p, hp, h⟩ := hex
    rcases Int.lt_or_gt_of_ne h with h | h
    · exact ⟨1, .inl rfl, p, hp, by omega⟩
    · exact ⟨-1, .inr rfl, p, hp, by omega⟩
  obtain ⟨p, hp, gp, hmin⟩ := min_ratio (fun o => dotI n (subI o a)) (fun o => t * dotI m (subI o a)) l hn hneg
  (try simp only at gp hmin)
  refine ⟨-(t * dotI m (subI p a)), t * dotI n (subI p a), p, by omega, hp, ?_, ?_, ?_⟩
  · intro e
    rw [e, Int.mul_zero] at gp
    omega
  · intro o ho
    rw [dot_comb]
    have hfo := hn o ho
    have hfp := hn p hp
    by_cases hg : t * dotI m (subI o a) < 0
    · have := hmin o ho hg
      have e1 : -(t * dotI m (subI p a)) * dotI n (subI o a) = dotI n (subI o a) * -(t * dotI m (subI p a)) := by grind
      have e2 : t * dotI n (subI p a) * dotI m (subI o a) = -(dotI n (subI p a) * -(t * dotI m (subI o a))) := by grind
      rw [e1, e2]
      omega
    · have h1 := Int.mul_nonneg (show 0 ≤ -(t * dotI m (subI p a)) by omega) hfo
      have h2 := Int.mul_nonneg hfp (show 0 ≤ t * dotI m (subI o a) by omega)
      have e2 : t * dotI n (subI p a) * dotI m (subI o a) = dotI n (subI p a) * (t * dotI m (subI o a)) := by grind
      rw [e2]
      omega
  · rw [dot_comb]
    grind
theorem min_at (f : P3 → Int) : ∀ (l : List P3), l ≠ [] → ∃ p ∈ l, ∀ o ∈ l, f p ≤ f o
  | [], h => absurd rfl h
  | [x], _ => ⟨x, by simp, fun o ho => by simp at ho; rw [ho]; exact Int.le_refl _⟩
  | x :: y :: l, _ => by
    obtain ⟨p, hp, h⟩ := min_at f (y :: l) (by simp)
    by_cases hx : f x ≤ f p
    · refine ⟨x, List.mem_cons_self, fun o ho => ?_⟩
      rcases List.mem_cons.1 ho with rfl | ho
      · exact Int.le_refl _
      · exact Int.le_trans hx (h o ho)
    · refine ⟨p, List.mem_cons_of_mem _ hp, fun o ho => ?_⟩
      rcases List.mem_cons.1 ho with rfl | ho
      · omega
      · exact h o ho
theorem sub_ne {a b : P3} (h : b ≠ a) : subI b a ≠ ⟨0, 0, 0⟩ := fun e => h (by
  unfold subI at e
  simp only [P3.mk.injEq] at e
  cases a; cases b
  simp only [P3.mk.injEq]
  simp only at e
  omega)
theorem dotI_ne {n : P3} (h : n ≠ ⟨0, 0, 0⟩) : 0 < dotI n n := dotI_pos n h
/-- a plane that all points lie on one side of, and three points in it -/
theorem support {l : List P3} (hin : ∀ p ∈ l, in3 65536 p) (hf : ¬ FlatP l) : ∃ a b c n, a ∈ l ∧ b ∈ l ∧ c ∈ l ∧ n ≠ ⟨0, 0, 0⟩ ∧ (∀ p ∈ l, 0 ≤ dotI n (subI p a)) ∧ dotI n (subI b a) = 0 ∧ dotI n (subI c a) = 0 ∧ crossI (subI b a) (subI c a) ≠ ⟨0, 0, 0⟩ := by
  have hne : l ≠ [] := by
    rintro rfl
    exact hf (flat_of (l := []) (n := ⟨1, 0, 0⟩) (a := ⟨0, 0, 0⟩) (by simp) (by simp) (by simp))
  obtain ⟨a, ha, hmin⟩ := min_at (fun p => p.x) l hne
  (try simp only at hmin)
  obtain ⟨n1, b, hn1, hb, hba, hs1, hz1⟩ : ∃ n1 b, n1 ≠ (⟨0, 0, 0⟩ : P3) ∧ b ∈ l ∧ b ≠ a ∧ (∀ p ∈ l, 0 ≤ dotI n1 (subI p a)) ∧ dotI n1 (subI b a) = 0 := by
    have d0 : ∀ p : P3, dotI ⟨1, 0, 0⟩ (subI p a) = p.x - a.x := fun p => by unfold dotI subI; simp only; omega
    have d1 : ∀ p : P3, dotI ⟨0, 1, 0⟩ (subI p a) = p.y - a.y := fun p => by unfold dotI subI; simp only; omega
    by_cases h : ∃ b ∈ l, b ≠ a ∧ dotI ⟨1, 0, 0⟩ (subI b a) = 0
    · obtain ⟨b, hb, hba, hz⟩ := h
      exact ⟨⟨1, 0, 0⟩, b, by simp, hb, hba, fun p hp => by rw [d0]; have := hmin p hp; omega, hz⟩
    · obtain ⟨α, β, b, hα, hb, hm, hs, hz⟩ := rotate_ l a ⟨1, 0, 0⟩ ⟨0, 1, 0⟩ (fun p hp => by rw [d0]; have := hmin p hp; omega)
        (fun p hp h0 => by
          by_cases e : p = a
          · rw [e, d1]; omega
          · exact absurd ⟨p, hp, e, h0⟩ h)
        (by
          by_cases hx : ∃ p ∈ l, dotI ⟨0, 1, 0⟩ (subI p a) ≠ 0
          · exact hx
          · refine absurd (flat_of hin (n := ⟨0, 1, 0⟩) (a := a) (by simp) fun o ho => ?_) hf
            by_cases e : dotI ⟨0, 1, 0⟩ (subI o a) = 0
            · exact e
            · exact absurd ⟨o, ho, e⟩ hx)
      refine ⟨combI α β ⟨1, 0, 0⟩ ⟨0, 1, 0⟩, b, ?_, hb, ?_, hs, hz⟩
      · intro e
        unfold combI at e
        simp only [P3.mk.injEq] at e
        omega
      · rintro rfl
        rw [d1] at hm
        omega
  have hU := sub_ne hba
  by_cases h : ∃ c ∈ l, dotI n1 (subI c a) = 0 ∧ crossI (subI b a) (subI c a) ≠ ⟨0, 0, 0⟩
  · obtain ⟨c, hc, hz, hx⟩ := h
    exact ⟨a, b, c, n1, ha, hb, hc, hn1, hs1, hz1, hz, hx⟩
  · have hm : ∀ v, dotI (crossI n1 (subI b a)) v = dotI n1 (crossI (subI b a) v) := fun v => by unfold dotI crossI; grind
    have z0 : ∀ n : P3, dotI n ⟨0, 0, 0⟩ = 0 := fun n => by unfold dotI; simp
    have hmn : crossI n1 (subI b a) ≠ ⟨0, 0, 0⟩ := by
      intro e
      have h1 := lagI n1 (subI b a)
      rw [crI_cross, e, z0, hz1] at h1
      have h2 := Int.mul_pos (dotI_pos _ hn1) (dotI_pos _ hU)
      omega
    obtain ⟨α, β, c, hα, hc, hmc, hs, hz⟩ := rotate_ l a n1 (crossI n1 (subI b a)) hs1
      (fun p hp h0 => by
        rw [hm]
        by_cases e : crossI (subI b a) (subI p a) = ⟨0, 0, 0⟩
        · rw [e, z0]
        · exact absurd ⟨p, hp, h0, e⟩ h)
      (by
        by_cases hx : ∃ p ∈ l, dotI (crossI n1 (subI b a)) (subI p a) ≠ 0
        · exact hx
        · refine absurd (flat_of hin (a := a) hmn fun o ho => ?_) hf
          by_cases e : dotI (crossI n1 (subI b a)) (subI o a) = 0
          · exact e
          · exact absurd ⟨o, ho, e⟩ hx)
    refine ⟨a, b, c, combI α β n1 (crossI n1 (subI b a)), ha, hb, hc, ?_, hs, ?_, hz, ?_⟩
    · intro e
      have h1 := dot_comb α β n1 (crossI n1 (subI b a)) n1
      have h2 : dotI (crossI n1 (subI b a)) n1 = 0 := by unfold dotI crossI; grind
      rw [e, h2, Int.mul_zero, Int.add_zero] at h1
      have h3 : dotI (⟨0, 0, 0⟩ : P3) n1 = 0 := by unfold dotI; simp
      have h4 := Int.mul_pos hα (dotI_pos _ hn1)
      omega
    · rw [dot_comb, hz1]
      have h2 : dotI (crossI n1 (subI b a)) (subI b a) = 0 := by unfold dotI crossI; grind
      rw [h2]
      simp
    · intro e
      rw [hm, e, z0] at hmc
      exact hmc rfl
theorem fold_side (n a : P3) : ∀ (l : List P3) (s : Int × Int), ((∀ o ∈ l, 0 ≤ dot3 n (minus3 o a)) → 0 ≤ s.1 → 0 ≤ (l.foldl (sdStep n a) s).1) ∧ ((∀ o ∈ l, dot3 n (minus3 o a) ≤ 0) → s.2 ≤ 0 → (l.foldl (sdStep n a) s).2 ≤ 0)
  | [], s => ⟨fun _ h => h, fun _ h => h⟩
  | x :: l, s => by
    obtain ⟨h1, h2⟩ := fold_side n a l (sdStep n a s x)
    rw [List.foldl_cons]
    refine ⟨fun h hs => h1 (fun o ho => h o (List.mem_cons_of_mem _ ho)) ?_, fun h hs => h2 (fun o ho => h o (List.mem_cons_of_mem _ ho)) ?_⟩
    · have := h x List.mem_cons_self
      unfold sdStep mn
      simp only
      split <;> omega
    · have := h x List.mem_cons_self
      unfold sdStep mx
      simp only
      split <;> omega
theorem side_of {l : List P3} (hin : ∀ p ∈ l, in3 65536 p) {a n x y z : P3} (hn : n ≠ ⟨0, 0, 0⟩) (hs : ∀ p ∈ l, 0 ≤ dotI n (subI p a)) (mx_ : x ∈ l) (my_ : y ∈ l) (mz_ : z ∈ l) (hx : dotI n (subI x a) = 0) (hy : dotI n (subI y a) = 0) (hz : dotI n (subI z a) = 0) : sideF l (nrm3 x y z) x ≠ 0 := by
  obtain ⟨e, i1⟩ := nrm_at (hin _ mx_) (hin _ my_) (hin _ mz_)
  rw [e]
  have hv : ∀ o, dotI n (subI o x) = dotI n (subI o a) := fun o => by unfold dotI subI at *; grind
  have key : ∀ v, dotI n n * dotI (crossI (subI y x) (subI z x)) v = dotI n (crossI (subI y x) (subI z x)) * dotI n v := fun v => by
    have h1 := hv y
    have h2 := hv z
    rw [hy] at h1
    rw [hz] at h2
    generalize subI y x = Y at h1 h2
    generalize subI z x = Z at h1 h2
    unfold dotI crossI at *
    grind
  have hpos := dotI_pos n hn
  have hd : ∀ o ∈ l, dot3 (crossI (subI y x) (subI z x)) (minus3 o x) = dotI (crossI (subI y x) (subI z x)) (subI o x) := fun o ho => dot_in i1 (hin _ ho) (hin _ mx_)
  generalize crossI (subI y x) (subI z x) = N at key hd
  have h0 : ∀ o ∈ l, 0 ≤ dotI n (subI o x) := fun o ho => by rw [hv]; exact hs o ho
  unfold sideF sdF sideV
  obtain ⟨f1, f2⟩ := fold_side N x l (0, 0)
  rcases Int.le_total 0 (dotI n N) with hN | hN
  · have := f1 (fun o ho => by
      rw [hd o ho]
      have k := key (subI o x)
      have p := Int.mul_nonneg hN (h0 o ho)
      rw [← k] at p
      rcases Int.lt_or_le (dotI N (subI o x)) 0 with q | q
      · have := Int.mul_neg_of_pos_of_neg hpos q
        omega
      · exact q) (Int.le_refl _)
    split
    · decide
    · (try rw [if_pos this]); decide
  · have := f2 (fun o ho => by
      rw [hd o ho]
      have k := key (subI o x)
      have p := Int.mul_nonpos_of_nonpos_of_nonneg hN (h0 o ho)
      rw [← k] at p
      rcases Int.lt_or_le 0 (dotI N (subI o x)) with q | q
      · have := Int.mul_pos hpos q
        omega
      · exact q) (Int.le_refl _)
    rw [if_pos this]; decide
end Go.Proofs.Ytckdhahceelckaa.G
namespace Go.Proofs.Ytckdhahceelckaa.G
open Go.RowKit Go.Proofs.YtckdhahceelckaaW.PrintWords
set_option linter.unusedVariables false
theorem sort3 {l : List P3} {Q : P3 → P3 → P3 → Prop} (s12 : ∀ x y z, Q x y z → Q y x z) (s23 : ∀ x y z, Q x y z → Q x z y) (hne : ∀ x y z, Q x y z → x ≠ y) {a b c : P3} {i j k : Nat} (ha : l[i]? = some a) (hb : l[j]? = some b) (hc : l[k]? = some c) (h : Q a b c) :
    ∃ (i j k : Nat) (x y z : P3), i < j ∧ j < k ∧ l[i]? = some x ∧ l[j]? = some y ∧ l[k]? = some z ∧ Q x y z := by
  have hij : i ≠ j := fun e => by rw [e, hb] at ha; cases ha; exact hne _ _ _ h rfl
  have hik : i ≠ k := fun e => by rw [e, hc] at ha; cases ha; exact hne _ _ _ (s23 _ _ _ h) rfl
  have hjk : j ≠ k := fun e => by rw [e, hc] at hb; cases hb; exact hne _ _ _ (s23 _ _ _ (s12 _ _ _ h)) rfl
  rcases Nat.lt_or_gt_of_ne hij with h1 | h1 <;> rcases Nat.lt_or_gt_of_ne hik with h2 | h2 <;> rcases Nat.lt_or_gt_of_ne hjk with h3 | h3
  · exact ⟨i, j, k, a, b, c, h1, h3, ha, hb, hc, h⟩
  · exact ⟨i, k, j, a, c, b, h2, h3, ha, hc, hb, s23 _ _ _ h⟩
  · omega
  · exact ⟨k, i, j, c, a, b, h2, h1, hc, ha, hb, s12 _ _ _ (s23 _ _ _ h)⟩
  · exact ⟨j, i, k, b, a, c, h1, h2, hb, ha, hc, s12 _ _ _ h⟩
  · omega
  · exact ⟨j, k, i, b, c, a, h3, h2, hb, hc, ha, s23 _ _ _ (s12 _ _ _ h)⟩
  · exact ⟨k, j, i, c, b, a, h3, h1, hc, hb, ha, s23 _ _ _ (s12 _ _ _ (s23 _ _ _ h))⟩
theorem cross12 {x y z : P3} (h : crossI (subI y x) (subI z x) ≠ ⟨0, 0, 0⟩) : crossI (subI x y) (subI z y) ≠ ⟨0, 0, 0⟩ := fun e => h (by
  unfold crossI subI at *
  simp only [P3.mk.injEq] at *
  refine ⟨?_, ?_, ?_⟩ <;> grind)
theorem cross23 {x y z : P3} (h : crossI (subI y x) (subI z x) ≠ ⟨0, 0, 0⟩) : crossI (subI z x) (subI y x) ≠ ⟨0, 0, 0⟩ := fun e => h (by
  unfold crossI subI at *
  simp only [P3.mk.injEq] at *
  refine ⟨?_, ?_, ?_⟩ <;> grind)
theorem hull_axis {l axes edges : List P3} (hin : ∀ p ∈ l, in3 65536 p) (hf : ¬ FlatP l) (h : HullOk l axes edges) : ∃ x ∈ axes, x ≠ ⟨0, 0, 0⟩ ∧ in3 1048576 x := by
  obtain ⟨a, b, c, n, ha, hb, hc, hn, hs, hzb, hzc, hx⟩ := support hin hf
  have hza : dotI n (subI a a) = 0 := by unfold dotI subI; simp
  obtain ⟨ia, hia⟩ := List.getElem?_of_mem ha
  obtain ⟨ib, hib⟩ := List.getElem?_of_mem hb
  obtain ⟨ic, hic⟩ := List.getElem?_of_mem hc
  obtain ⟨i, j, k, x, y, z, hij, hjk, hxi, hyj, hzk, ⟨zx, zy, zz⟩, hcr⟩ := sort3 (l := l) (Q := fun x y z => (dotI n (subI x a) = 0 ∧ dotI n (subI y a) = 0 ∧ dotI n (subI z a) = 0) ∧ crossI (subI y x) (subI z x) ≠ ⟨0, 0, 0⟩)
    (fun x y z h => ⟨⟨h.1.2.1, h.1.1, h.1.2.2⟩, cross12 h.2⟩) (fun x y z h => ⟨⟨h.1.1, h.1.2.2, h.1.2.1⟩, cross23 h.2⟩)
    (fun x y z h e => h.2 (by subst e; unfold crossI subI; simp)) hia hib hic ⟨⟨hza, hzb, hzc⟩, hx⟩
  have mx_ := List.mem_of_getElem? hxi
  have my_ := List.mem_of_getElem? hyj
  have mz_ := List.mem_of_getElem? hzk
  have hsd := side_of hin hn hs mx_ my_ mz_ zx zy zz
  obtain ⟨e, i1⟩ := nrm_at (hin _ mx_) (hin _ my_) (hin _ mz_)
  have hnn : nrm3 x y z ≠ ⟨0, 0, 0⟩ := by rw [e]; exact hcr
  have hil : i < l.length := (List.getElem?_eq_some_iff.1 hxi).1
  have hmem := h.done i j k _ hij hjk (.inl hil) ⟨x, y, z, hxi, hyj, hzk, hnn, hsd, rfl⟩
  obtain ⟨hs1, _⟩ := side_spec hsd
  refine ⟨_, hmem, ?_, ?_⟩
  · unfold axisF
    refine short3_ne _ ?_ (sgn_ne hs1 hnn)
    rw [e]
    exact sgn_in (by rw [← e]; exact hs1) i1
  · unfold axisF
    exact short3_in _
end Go.Proofs.Ytckdhahceelckaa.G
namespace Go.Proofs.Ytckdhahceelckaa.G
open Go.RowKit Go.Proofs.YtckdhahceelckaaW.PrintWords
set_option linter.unusedVariables false
theorem abs_mul {a b A B : Int} (ha : -A ≤ a ∧ a ≤ A) (hb : -B ≤ b ∧ b ≤ B) : -(A * B) ≤ a * b ∧ a * b ≤ A * B := by
  have h : (a * b).natAbs ≤ A.natAbs * B.natAbs := by rw [Int.natAbs_mul]; exact Nat.mul_le_mul (by omega) (by omega)
  have e : ((A.natAbs * B.natAbs : Nat) : Int) = A * B := by rw [Int.natCast_mul, Int.natAbs_of_nonneg (by omega), Int.natAbs_of_nonneg (by omega)]
  omega
/-- one row of the rounded turn and of the turn itself -/
theorem row_bd {a1 a2 a3 c1 c2 c3 X Y Z : Int} (h1 : -4294967296 ≤ 4294967296 * a1 - c1 ∧ 4294967296 * a1 - c1 ≤ 4294967296) (h2 : -4294967296 ≤ 4294967296 * a2 - c2 ∧ 4294967296 * a2 - c2 ≤ 4294967296) (h3 : -4294967296 ≤ 4294967296 * a3 - c3 ∧ 4294967296 * a3 - c3 ≤ 4294967296)
    (hX : -4294967296 ≤ X ∧ X ≤ 4294967296) (hY : -4294967296 ≤ Y ∧ Y ≤ 4294967296) (hZ : -4294967296 ≤ Z ∧ Z ≤ 4294967296) (hv : -4096 < (a1 * X + a2 * Y + a3 * Z) / 4294967296 ∧ (a1 * X + a2 * Y + a3 * Z) / 4294967296 < 4096) :
    -75613203958135452073984 ≤ c1 * X + c2 * Y + c3 * Z ∧ c1 * X + c2 * Y + c3 * Z ≤ 75613203958135452073984 := by
  have k1 := abs_mul h1 hX
  have k2 := abs_mul h2 hY
  have k3 := abs_mul h3 hZ
  have e : c1 * X + c2 * Y + c3 * Z = 4294967296 * (a1 * X + a2 * Y + a3 * Z) - ((4294967296 * a1 - c1) * X + (4294967296 * a2 - c2) * Y + (4294967296 * a3 - c3) * Z) := by grind
  rw [e]
  generalize (4294967296 * a1 - c1) * X = e1 at k1
  generalize (4294967296 * a2 - c2) * Y = e2 at k2
  generalize (4294967296 * a3 - c3) * Z = e3 at k3
  generalize a1 * X + a2 * Y + a3 * Z = r at hv
  omega
theorem rot_norm (w x y z X Y Z T : Int) :
    ((T - ((y + y) * y + (z + z) * z)) * X + ((x + x) * y + (w + w) * -z) * Y + ((x + x) * z + (w + w) * y) * Z - (T - (w * w + x * x + y * y + z * z)) * X) * ((T - ((y + y) * y + (z + z) * z)) * X + ((x + x) * y + (w + w) * -z) * Y + ((x + x) * z + (w + w) * y) * Z - (T - (w * w + x * x + y * y + z * z)) * X) +
    (((x + x) * y + (w + w) * z) * X + (T - ((x + x) * x + (z + z) * z)) * Y + ((y + y) * z + (w + w) * -x) * Z - (T - (w * w + x * x + y * y + z * z)) * Y) * (((x + x) * y + (w + w) * z) * X + (T - ((x + x) * x + (z + z) * z)) * Y + ((y + y) * z + (w + w) * -x) * Z - (T - (w * w + x * x + y * y + z * z)) * Y) +
    (((x + x) * z + (w + w) * -y) * X + ((y + y) * z + (w + w) * x) * Y + (T - ((x + x) * x + (y + y) * y)) * Z - (T - (w * w + x * x + y * y + z * z)) * Z) * (((x + x) * z + (w + w) * -y) * X + ((y + y) * z + (w + w) * x) * Y + (T - ((x + x) * x + (y + y) * y)) * Z - (T - (w * w + x * x + y * y + z * z)) * Z) =
    (w * w + x * x + y * y + z * z) * (w * w + x * x + y * y + z * z) * (X * X + Y * Y + Z * Z) := by grind
theorem rot_alg (S T m1 m2 m3 X Y Z : Int) (h : (m1 - (T - S) * X) * (m1 - (T - S) * X) + (m2 - (T - S) * Y) * (m2 - (T - S) * Y) + (m3 - (T - S) * Z) * (m3 - (T - S) * Z) = S * S * (X * X + Y * Y + Z * Z)) :
    T * (2 * S - T) * (X * X + Y * Y + Z * Z) = m1 * m1 + m2 * m2 + m3 * m3 - 2 * ((T - S) * (m1 * X + m2 * Y + m3 * Z)) := by grind
theorem d2_near (a b c d : Int) : -4294967296 ≤ 4294967296 * D2 a b c d - (a * c + b * d) ∧ 4294967296 * D2 a b c d - (a * c + b * d) ≤ 4294967296 := by
  unfold D2
  generalize a * c + b * d = n
  omega
theorem d2_near' (a b c d : Int) : -4294967296 ≤ 4294967296 * (4294967296 - D2 a b c d) - (18446744073709551616 - (a * c + b * d)) ∧ 4294967296 * (4294967296 - D2 a b c d) - (18446744073709551616 - (a * c + b * d)) ≤ 4294967296 := by
  unfold D2
  generalize a * c + b * d = n
  omega
/-- a unit quaternion turns a long vector into one that is not short -/
theorem turn_long {q : Q4} (hq : q32 q) (hS : 18446744039349813248 ≤ q.w * q.w + q.x * q.x + q.y * q.y + q.z * q.z) {V : P3} (hV : in3 4294967296 V) (hN : 4611686018427387904 ≤ dotI V V)
    (h1 : -4096 < vdotF (rowsF q).a V ∧ vdotF (rowsF q).a V < 4096) (h2 : -4096 < vdotF (rowsF q).b V ∧ vdotF (rowsF q).b V < 4096) (h3 : -4096 < vdotF (rowsF q).c V ∧ vdotF (rowsF q).c V < 4096) : False := by
  obtain ⟨w, x, y, z⟩ := q
  obtain ⟨X, Y, Z⟩ := V
  obtain ⟨v1, v2, v3, v4, v5, v6⟩ := hV
  obtain ⟨bw, bx, by_, bz⟩ := hq
  simp only at hS v1 v2 v3 v4 v5 v6 bw bx by_ bz
  unfold vdotF dotI rowsF at h1 h2 h3
  unfold dotI at hN
  simp only at h1 h2 h3 hN
  have r1 := row_bd (d2_near' (y + y) (z + z) y z) (d2_near (x + x) (w + w) y (-z)) (d2_near (x + x) (w + w) z y) ⟨v1, v2⟩ ⟨v3, v4⟩ ⟨v5, v6⟩ h1
  have r2 := row_bd (d2_near (x + x) (w + w) y z) (d2_near' (x + x) (z + z) x z) (d2_near (y + y) (w + w) z (-x)) ⟨v1, v2⟩ ⟨v3, v4⟩ ⟨v5, v6⟩ h2
  have r3 := row_bd (d2_near (x + x) (w + w) z (-y)) (d2_near (y + y) (w + w) z x) (d2_near' (x + x) (y + y) x y) ⟨v1, v2⟩ ⟨v3, v4⟩ ⟨v5, v6⟩ h3
  have hn := rot_norm w x y z X Y Z 18446744073709551616
  have sw := abs_mul bw bw
  have sx := abs_mul bx bx
  have sy := abs_mul by_ by_
  have sz := abs_mul bz bz
  have hSu : w * w + x * x + y * y + z * z ≤ 73786976294838206464 := by omega
  clear sw sx sy sz
  generalize w * w + x * x + y * y + z * z = S at hS hSu hn
  generalize (18446744073709551616 - ((y + y) * y + (z + z) * z)) * X + ((x + x) * y + (w + w) * -z) * Y + ((x + x) * z + (w + w) * y) * Z = m1 at r1 hn
  generalize ((x + x) * y + (w + w) * z) * X + (18446744073709551616 - ((x + x) * x + (z + z) * z)) * Y + ((y + y) * z + (w + w) * -x) * Z = m2 at r2 hn
  generalize ((x + x) * z + (w + w) * -y) * X + ((y + y) * z + (w + w) * x) * Y + (18446744073709551616 - ((x + x) * x + (y + y) * y)) * Z = m3 at r3 hn
  have alg := rot_alg S 18446744073709551616 m1 m2 m3 X Y Z hn
  generalize X * X + Y * Y + Z * Z = N at hN alg
  have k1 := Int.mul_le_mul_of_nonneg_right (show (170141183460469231731687303715884105728 : Int) ≤ 18446744073709551616 * (2 * S - 18446744073709551616) by omega) (show 0 ≤ N by omega)
  have q1 := abs_mul r1 r1
  have q2 := abs_mul r2 r2
  have q3 := abs_mul r3 r3
  have p1 := abs_mul r1 (⟨v1, v2⟩ : -4294967296 ≤ X ∧ X ≤ 4294967296)
  have p2 := abs_mul r2 (⟨v3, v4⟩ : -4294967296 ≤ Y ∧ Y ≤ 4294967296)
  have p3 := abs_mul r3 (⟨v5, v6⟩ : -4294967296 ≤ Z ∧ Z ≤ 4294967296)
  have p4 : -(3 * (75613203958135452073984 * 4294967296)) ≤ m1 * X + m2 * Y + m3 * Z ∧ m1 * X + m2 * Y + m3 * Z ≤ 3 * (75613203958135452073984 * 4294967296) := by omega
  have p5 := abs_mul (⟨by omega, by omega⟩ : -(55340232221128654848 : Int) ≤ 18446744073709551616 - S ∧ 18446744073709551616 - S ≤ 55340232221128654848) p4
  generalize (18446744073709551616 - S) * (m1 * X + m2 * Y + m3 * Z) = D at alg p5
  generalize 18446744073709551616 * (2 * S - 18446744073709551616) * N = E at alg k1
  generalize m1 * m1 = M1 at alg q1
  generalize m2 * m2 = M2 at alg q2
  generalize m3 * m3 = M3 at alg q3
  clear p1 p2 p3 p4 r1 r2 r3 hn h1 h2 h3 bw bx by_ bz
  omega
theorem unit_norm (q : Q4) (h : 0 < lenF q) : 18446744039349813248 ≤ (unitF q).w * (unitF q).w + (unitF q).x * (unitF q).x + (unitF q).y * (unitF q).y + (unitF q).z * (unitF q).z := by
  obtain ⟨w, x, y, z⟩ := q
  have hw := sq_nonneg w
  have hx := sq_nonneg x
  have hy := sq_nonneg y
  have hz := sq_nonneg z
  obtain ⟨h0, h2, h1⟩ := rtI_spec (v := w * w + x * x + y * y + z * z) (by omega)
  have e : lenF ⟨w, x, y, z⟩ = rtI (w * w + x * x + y * y + z * z) := rfl
  rw [← e] at h0 h1 h2
  have bw := sq_le_bd (a := w) h0 (by omega)
  have bx := sq_le_bd (a := x) h0 (by omega)
  have by_ := sq_le_bd (a := y) h0 (by omega)
  have bz := sq_le_bd (a := z) h0 (by omega)
  unfold unitF
  simp only
  generalize lenF ⟨w, x, y, z⟩ = L at h h0 h1 h2 bw bx by_ bz
  have one : ∀ a : Int, -L ≤ a → a ≤ L → 18446744073709551616 * (a * a) - 8589934592 * (L * L) ≤ L * L * ((a * 4294967296 / L) * (a * 4294967296 / L)) := by
    intro a ha1 ha2
    have d1 := Int.emod_add_mul_ediv (a * 4294967296) L
    have d2 := Int.emod_nonneg (a * 4294967296) (show L ≠ 0 by omega)
    have d3 := Int.emod_lt_of_pos (a * 4294967296) h
    generalize a * 4294967296 / L = c at d1
    generalize a * 4294967296 % L = r at d1 d2 d3
    have e1 : L * c = 4294967296 * a - r := by omega
    have e2 : L * L * (c * c) = (4294967296 * a - r) * (4294967296 * a - r) := by rw [← e1]; grind
    have e3 : (4294967296 * a - r) * (4294967296 * a - r) = 18446744073709551616 * (a * a) - 8589934592 * (a * r) + r * r := by grind
    have k1 := abs_mul (⟨ha1, ha2⟩ : -L ≤ a ∧ a ≤ L) (⟨by omega, by omega⟩ : -L ≤ r ∧ r ≤ L)
    have k2 := sq_nonneg r
    rw [e2, e3]
    omega
  have o1 := one w bw.1 bw.2
  have o2 := one x bx.1 bx.2
  have o3 := one y by_.1 by_.2
  have o4 := one z bz.1 bz.2
  generalize w * 4294967296 / L = c1 at o1
  generalize x * 4294967296 / L = c2 at o2
  generalize y * 4294967296 / L = c3 at o3
  generalize z * 4294967296 / L = c4 at o4
  refine Int.le_of_mul_le_mul_left (a := L * L) ?_ (Int.mul_pos h h)
  have e1 : L * L * (c1 * c1 + c2 * c2 + c3 * c3 + c4 * c4) = L * L * (c1 * c1) + L * L * (c2 * c2) + L * L * (c3 * c3) + L * L * (c4 * c4) := by grind
  have e2 : L * L * 18446744039349813248 = 18446744039349813248 * (L * L) := Int.mul_comm _ _
  rw [e1, e2]
  omega
theorem whole_norm (q : Q4) : 18446744039349813248 ≤ (wholeF q).w * (wholeF q).w + (wholeF q).x * (wholeF q).x + (wholeF q).y * (wholeF q).y + (wholeF q).z * (wholeF q).z := by
  unfold wholeF
  split
  · simp
  · exact unit_norm q (by omega)
/-- a right pose turns no way into nought -/
theorem way_turned (p : P7) (x : P3) (hx : in3 1048576 x) (h0 : x ≠ ⟨0, 0, 0⟩) : wayF (rowsF (rightPose p).turn) x ≠ ⟨0, 0, 0⟩ := by
  have hq := wholeF_q32 (partQ p.turn)
  have hS := whole_norm (partQ p.turn)
  have hm := rows_mOk hq
  have hD := dbl3_in x hx
  have hf := dbl3_far x h0
  simp only [rightPose]
  generalize wholeF (partQ p.turn) = q at hq hS hm
  unfold wayF
  generalize dbl3 x = D at hD hf
  have hV := times_in hD
  obtain ⟨_, _, _, ht⟩ := turn_ok hm hV
  have hfar : ¬ in3 524288 D := fun h => by rw [(far3_iff _ _ (by decide) (by decide)).2 h] at hf; cases hf
  have hd := dotI_far D 524288 (by decide) (by unfold in3 at hfar; omega)
  have hN : 4611686018427387904 ≤ dotI (timesF D 4096) (timesF D 4096) := by
    have e : dotI (timesF D 4096) (timesF D 4096) = 16777216 * dotI D D := by unfold dotI timesF; grind
    rw [e]
    omega
  refine short3_ne _ (tdv_in ht) fun e => ?_
  unfold tdv3 at e
  simp only [P3.mk.injEq] at e
  obtain ⟨e1, e2, e3⟩ := e
  have zero : ∀ a : Int, a.tdiv 4096 = 0 → -4096 < a ∧ a < 4096 := fun a ha => by
    rcases Int.le_total 0 a with h | h
    · rw [Int.tdiv_eq_ediv_of_nonneg h] at ha; omega
    · have : a.tdiv 4096 = -((-a).tdiv 4096) := by rw [Int.neg_tdiv, Int.neg_neg]
      rw [this, Int.tdiv_eq_ediv_of_nonneg (by omega)] at ha
      omega
  exact turn_long hq hS hV hN (zero _ e1) (zero _ e2) (zero _ e3)
end Go.Proofs.Ytckdhahceelckaa.G
namespace Go.Proofs.Ytckdhahceelckaa.G
open Go.RowKit Go.Proofs.YtckdhahceelckaaW.PrintWords
set_option linter.unusedVariables false
theorem ways_turned (p : P7) {l : List P3} {x : P3} (hx : x ∈ l) (hi : in3 1048576 x) (h0 : x ≠ ⟨0, 0, 0⟩) : ∃ y ∈ waysF (rowsF (rightPose p).turn) l, long3 y ≠ ⟨0, 0, 0⟩ := by
  have h1 := way_turned p x hi h0
  refine ⟨wayF (rowsF (rightPose p).turn) x, ?_, ?_⟩
  · unfold waysF
    exact List.mem_filter.2 ⟨List.mem_map_of_mem hx, by simpa using h1⟩
  · exact (long3_short _ (by unfold wayF; exact short3_in _) h1).2.1
/-- what a value of Cores is for Sound -/
theorem CoreAt.way {s : Shp} (hs : ShpOk s) (A : P3) (p7 : P7) (ha : atOk A) {w : World} {v : Value} (h : CoreAt s ⟨A, (rightPose p7).turn⟩ w v) : ∃ p a e, CoreV w v p a e s.radius ∧ MayP p a e s.radius ∧ Ways p a := by
  have hm := (rightPose_ok p7).1
  have hw : ∀ (l : List P3) (x : P3), x ∈ l → in3 1048576 x → x ≠ ⟨0, 0, 0⟩ → ∃ y ∈ waysF (rowsF (rightPose p7).turn) l, long3 y ≠ ⟨0, 0, 0⟩ := fun l x hx hi h0 => ways_turned p7 hx hi h0
  obtain ⟨t, ht⟩ : ∃ t, (rightPose p7).turn = t := ⟨_, rfl⟩
  rw [ht] at h hm hw
  obtain ⟨p, a, e, h1, h2⟩ := h
  refine ⟨p.map (placePt (rowsF t) A), waysF (rowsF t) a, waysF (rowsF t) e, h2, CoreIs.may (q := ⟨A, t⟩) hs h1 hm ha, ?_⟩
  unfold Ways
  rcases h1 with ⟨_, rfl, rfl, rfl⟩ | ⟨_, rfl, rfl, rfl⟩ | ⟨_, rfl, rfl, rfl⟩ | ⟨hk, rfl, hh⟩
  · left; simp
  · left; simp
  · right
    exact hw _ ⟨1, 0, 0⟩ (by simp) (by unfold in3; simp) (by simp)
  · right
    obtain ⟨x, hx, h0, hi⟩ := hull_axis hs.pts (hs.hull hk).2 hh
    exact hw _ x hx hi h0
theorem CoreAt.wayQ {s : Shp} (hs : ShpOk s) (q : P7) (hm : mOk (rowsF q.turn)) (ha : atOk q.at_) (hw : ∀ (l : List P3) (x : P3), x ∈ l → in3 1048576 x → x ≠ ⟨0, 0, 0⟩ → ∃ y ∈ waysF (rowsF q.turn) l, long3 y ≠ ⟨0, 0, 0⟩)
    {w : World} {v : Value} (h : CoreAt s q w v) : ∃ p a e, CoreV w v p a e s.radius ∧ MayP p a e s.radius ∧ Ways p a := by
  obtain ⟨p, a, e, h1, h2⟩ := h
  refine ⟨_, _, _, h2, h1.may hs hm ha, ?_⟩
  unfold Ways
  rcases h1 with ⟨_, rfl, rfl, rfl⟩ | ⟨_, rfl, rfl, rfl⟩ | ⟨_, rfl, rfl, rfl⟩ | ⟨hk, rfl, hh⟩
  · left; simp
  · left; simp
  · right
    exact hw _ ⟨1, 0, 0⟩ (by simp) (by unfold in3; simp) (by simp)
  · right
    obtain ⟨x, hx, h0, hi⟩ := hull_axis hs.pts (hs.hull hk).2 hh
    exact hw _ x hx hi h0
end Go.Proofs.Ytckdhahceelckaa.G
namespace Go.Proofs.Ytckdhahceelckaa.G
open Go.RowKit Go.Proofs.YtckdhahceelckaaW.PrintWords Go.Proofs.YtckdhahceelckaaW.PrintLast Go.Proofs.YtckdhahceelckaaW.PrintMore
attribute [local go_sem] max2_mx min2_mn max_two min_two max_three min_three max_four min_four
attribute [local go_sem high] eqA23
set_option linter.unusedVariables false
set_option linter.unusedSimpArgs false
set_option maxHeartbeats 8000000 in
set_option maxRecDepth 100000 in
theorem sound_law (k1 r1 : Int) (h1 : P3) (l1 : List P3) (A1 : Option Addr) (c1 : Nat) (k2 r2 : Int) (h2 : P3) (l2 : List P3) (A2 : Option Addr) (c2 : Nat) (p q : P7) (near : Int) (way : P3) (w : World)
    (hA1 : RdB w A1 l1) (hr1 : RawOk k1 r1 h1 l1) (hA2 : RdB w A2 l2) (hr2 : RawOk k2 r2 h2 l2) (hp : i64s p) (hq : i64s q) (hne : i64 near) (hwa : pI64 way) :
    Calls Try.prog 3 #[.agg (cTwo k1 r1 h1 A1 l1.length c1 k2 r2 h2 A2 l2.length c2 p q near way)] w fun e w' => e = .returned (.bool true) ∧ Below w.heap.size w w' := by
  have HC := Lib.hid (fun (W : World) (hW1 : RdB W A1 l1) (hW2 : RdB W A2 l2) => cores_calls k1 r1 h1 l1 A1 c1 k2 r2 h2 l2 A2 c2 p q near way W hW1 hr1 hW2 hr2 hp hq hne hwa)
  have HM := Lib.hid (fun (W : World) (v : Value) (h : CoreAt (rightS k1 r1 h1 l1) (rightPose p) W v) => CoreAt.wayQ (rightS_ok k1 r1 h1 l1) (rightPose p) (rightPose_ok p).1 (rightPose_ok p).2 (fun l x hx hi h0 => ways_turned p hx hi h0) h)
  have HS := Lib.hid (rightS_ok k1 r1 h1 l1)
  have HS2 := Lib.hid (rightS_ok k2 r2 h2 l2)
  have HM2 := Lib.hid (fun (W : World) (v : Value) (h : CoreAt (rightS k2 r2 h2 l2) ⟨nearF near way (rightPose p).at_, (rightPose q).turn⟩ W v) => CoreAt.way (rightS_ok k2 r2 h2 l2) (nearF near way (rightPose p).at_) q (nearF_ok near way p) h)
  have HA1 := Lib.hid hA1
  have HA2 := Lib.hid hA2
  obtain ⟨s1, hs1⟩ : ∃ s, rightS k1 r1 h1 l1 = s := ⟨_, rfl⟩
  obtain ⟨s2, hs2⟩ : ∃ s, rightS k2 r2 h2 l2 = s := ⟨_, rfl⟩
  obtain ⟨Qn, hQn⟩ : ∃ s, (⟨nearF near way (rightPose p).at_, (rightPose q).turn⟩ : P7) = s := ⟨_, rfl⟩
  rw [hs2, hQn] at HC HM2
  rw [hs2] at HS2
  obtain ⟨P, hP⟩ : ∃ s, rightPose p = s := ⟨_, rfl⟩
  rw [hs1] at HC HM HS
  rw [hP] at HC HM
  obtain ⟨N1, hN1⟩ : ∃ N, l1.length = N := ⟨_, rfl⟩
  obtain ⟨N2, hN2⟩ : ∃ N, l2.length = N := ⟨_, rfl⟩
  rw [hN1, hN2] at HC ⊢
  clear hA1 hr1 hA2 hr2 hp hq hne hwa hs1 hs2 hQn hP hN1 hN2
  obtain ⟨h1x, h1y, h1z⟩ := h1
  obtain ⟨h2x, h2y, h2z⟩ := h2
  obtain ⟨⟨pax, pay, paz⟩, ⟨ptw, ptx, pty, ptz⟩⟩ := p
  obtain ⟨⟨qax, qay, qaz⟩, ⟨qtw, qtx, qty, qtz⟩⟩ := q
  obtain ⟨wx, wy, wz⟩ := way
  have T0 := Lib.hid (heap_alloc_new w (.cells #[.int .i64 k1, .int .i64 r1, .int .i64 h1x, .int .i64 h1y, .int .i64 h1z, .slice A1 N1 c1, .int .i64 k2, .int .i64 r2, .int .i64 h2x, .int .i64 h2y, .int .i64 h2z, .slice A2 N2 c2, .int .i64 pax, .int .i64 pay, .int .i64 paz, .int .i64 ptw, .int .i64 ptx, .int .i64 pty, .int .i64 ptz, .int .i64 qax, .int .i64 qay, .int .i64 qaz, .int .i64 qtw, .int .i64 qtx, .int .i64 qty, .int .i64 qtz, .int .i64 near, .int .i64 wx, .int .i64 wy, .int .i64 wz] 33))
  have W := Lib.hid ((Below.refl _ w).alloc (Nat.le_refl _) (.cells #[.int .i64 k1, .int .i64 r1, .int .i64 h1x, .int .i64 h1y, .int .i64 h1z, .slice A1 N1 c1, .int .i64 k2, .int .i64 r2, .int .i64 h2x, .int .i64 h2y, .int .i64 h2z, .slice A2 N2 c2, .int .i64 pax, .int .i64 pay, .int .i64 paz, .int .i64 ptw, .int .i64 ptx, .int .i64 pty, .int .i64 ptz, .int .i64 qax, .int .i64 qay, .int .i64 qaz, .int .i64 qtw, .int .i64 qtx, .int .i64 qty, .int .i64 qtz, .int .i64 near, .int .i64 wx, .int .i64 wy, .int .i64 wz] 33))
  go_enter Try.func3, Try.ntmps3
  go_wp2_with fail
  refine (awake_calls _).mono ?_
  rintro en w1 ⟨rfl, hb⟩
  have T0 := Lib.hid ((hb.block _ (blk_lt T0.out)).trans T0.out)
  have W := Lib.hid (bthen W.out hb)
  clear hb
  go_wp2_with (refine wpList_load_row rfl 33 _ rfl w.heap.size rfl 33 _ (0, 0) _ T0.out Try.underlying33 rfl (by kernel_rfl) ?_)
  refine (HC.out _ (HA1.out.below W.out) (HA2.out.below W.out)).mono ?_
  rintro en w2 ⟨va, vb, rfl, ha, hb_, hb⟩
  obtain ⟨p, a, e, hv, hm, hway⟩ := HM.out w2 va ha
  obtain ⟨q', a', e', hvb, hm2, hway2⟩ := HM2.out w2 vb hb_
  obtain ⟨ra, hra⟩ : ∃ n, s1.radius = n := ⟨_, rfl⟩
  obtain ⟨rb, hrb⟩ : ∃ n, s2.radius = n := ⟨_, rfl⟩
  rw [hra] at hv hm
  rw [hrb] at hvb hm2
  obtain ⟨B0, B1, B2, d0, d1, d2, hva, _⟩ := hv.out
  obtain ⟨B3, B4, B5, d3, d4, d5, hvb', _⟩ := hvb.out
  have HV := Lib.hid hv
  have HVB := Lib.hid hvb
  have HAP := Lib.hid (fun (W : World) (hW : CoreV W va p a e ra) (hU : CoreV W vb q' a' e' rb) => apart_calls p a e ra q' a' e' rb va vb W hW hU hm hm2 _ rfl)
  have W := Lib.hid (bthen W.out hb)
  obtain ⟨R, hR⟩ : ∃ R, apartF p a e ra q' a' e' rb = R := ⟨_, rfl⟩
  obtain ⟨gg, by_, BB, hSP⟩ := sound_plain hm hm2 hway hway2 R hR
  have HNT := Lib.hid (fun (W : World) (hW : CoreV W va p a e ra) (hU : CoreV W vb q' a' e' rb) => sound_calls hW hU (Nat.le_trans hm.p1 (by decide)) (Nat.le_trans hm2.p1 (by decide)) R.1 R.2 gg by_ BB hSP.hg hSP.hf hSP.hby hSP.hB hSP.all)
  rw [hR] at HAP
  obtain ⟨⟨Rx, Ry, Rz⟩, Rg⟩ := R
  simp only at HAP HNT
  obtain ⟨n0, hn0⟩ : ∃ n, p.length = n := ⟨_, rfl⟩
  obtain ⟨n1, hn1⟩ : ∃ n, a.length = n := ⟨_, rfl⟩
  obtain ⟨n2, hn2⟩ : ∃ n, e.length = n := ⟨_, rfl⟩
  obtain ⟨n3, hn3⟩ : ∃ n, q'.length = n := ⟨_, rfl⟩
  obtain ⟨n4, hn4⟩ : ∃ n, a'.length = n := ⟨_, rfl⟩
  obtain ⟨n5, hn5⟩ : ∃ n, e'.length = n := ⟨_, rfl⟩
  rw [hn0, hn1, hn2] at hva
  rw [hn3, hn4, hn5] at hvb'
  subst hva hvb'
  clear hn0 hn1 hn2 hn3 hn4 hn5 hra hrb hR hv hvb ha hb_ hb hm hm2 hway hway2 hSP HC HM HM2 HS HS2 T0
  have b2 := (Below.refl w2.heap.size w2).alloc (Nat.le_refl _) (.cells #[.slice B0 n0 d0, .slice B1 n1 d1, .slice B2 n2 d2, .int .i64 ra] 36)
  have b3 := b2.alloc (by simp) (.cells #[.slice B3 n3 d3, .slice B4 n4 d4, .slice B5 n5 d5, .int .i64 rb] 36)
  have zc := (Below.heap_alloc _ (.cells #[.slice B3 n3 d3, .slice B4 n4 d4, .slice B5 n5 d5, .int .i64 rb] 36) _ (by simp)).trans (heap_alloc_new w2 (.cells #[.slice B0 n0 d0, .slice B1 n1 d1, .slice B2 n2 d2, .int .i64 ra] 36))
  have zd := heap_alloc_new (w2.alloc (.cells #[.slice B0 n0 d0, .slice B1 n1 d1, .slice B2 n2 d2, .int .i64 ra] 36)) (.cells #[.slice B3 n3 d3, .slice B4 n4 d4, .slice B5 n5 d5, .int .i64 rb] 36)
  rw [World.size_alloc] at zd
  obtain ⟨w3, hw3⟩ : ∃ V, (w2.alloc (.cells #[.slice B0 n0 d0, .slice B1 n1 d1, .slice B2 n2 d2, .int .i64 ra] 36)).alloc (.cells #[.slice B3 n3 d3, .slice B4 n4 d4, .slice B5 n5 d5, .int .i64 rb] 36) = V := ⟨_, rfl⟩
  rw [hw3] at b3 zc zd
  have b3 := Lib.hid b3
  have zc := Lib.hid zc
  have zd := Lib.hid zd
  have hw3' := Lib.hid hw3
  clear hw3 b2
  go_wp2_with fail
  rw [hw3'.out]
  refine (HAP.out w3 (HV.out.below b3.out) (HVB.out.below b3.out)).mono ?_
  rintro en w4 ⟨rfl, hb⟩
  have z4 := Lib.hid ((hb.block _ (blk_lt zc.out)).trans zc.out)
  have y4 := Lib.hid ((hb.block _ (blk_lt zd.out)).trans zd.out)
  have BB4 := Lib.hid (bthen b3.out hb)
  have x0 : w4.cell? ⟨w2.heap.size, 0, none⟩ = some (.slice B0 n0 d0) := (blk_cell z4.out 0).trans rfl
  have y0 : w4.cell? ⟨w2.heap.size + 1, 0, none⟩ = some (.slice B3 n3 d3) := (blk_cell y4.out 0).trans rfl
  have x1 : w4.cell? ⟨w2.heap.size, 1, none⟩ = some (.slice B1 n1 d1) := (blk_cell z4.out 1).trans rfl
  have y1 : w4.cell? ⟨w2.heap.size + 1, 1, none⟩ = some (.slice B4 n4 d4) := (blk_cell y4.out 1).trans rfl
  have x2 : w4.cell? ⟨w2.heap.size, 2, none⟩ = some (.slice B2 n2 d2) := (blk_cell z4.out 2).trans rfl
  have y2 : w4.cell? ⟨w2.heap.size + 1, 2, none⟩ = some (.slice B5 n5 d5) := (blk_cell y4.out 2).trans rfl
  have x3 : w4.cell? ⟨w2.heap.size, 3, none⟩ = some (.int .i64 ra) := (blk_cell z4.out 3).trans rfl
  have y3 : w4.cell? ⟨w2.heap.size + 1, 3, none⟩ = some (.int .i64 rb) := (blk_cell y4.out 3).trans rfl
  have l0 : w2.heap.size < w4.heap.size := blk_lt z4.out
  have l1 : w2.heap.size + 1 < w4.heap.size := blk_lt y4.out
  have b5 := BB4.out.alloc BB4.out.size (.cells #[.int .i64 Rx, .int .i64 Ry, .int .i64 Rz, .int .i64 Rg] 40)
  obtain ⟨w5, hw5⟩ : ∃ V, w4.alloc (.cells #[.int .i64 Rx, .int .i64 Ry, .int .i64 Rz, .int .i64 Rg] 40) = V := ⟨_, rfl⟩
  rw [hw5] at b5
  have hw5' := Lib.hid hw5
  have B5_ := Lib.hid b5
  clear hb b5 hw5 z4 y4 zc zd
  go_wp2_with fail
  rw [hw5'.out]
  refine (HNT.out w5 (HV.out.below B5_.out) (HVB.out.below B5_.out)).mono ?_
  rintro en w6 ⟨rfl, hb⟩
  have W6 := Lib.hid (bthen (bthen W.out B5_.out) hb)
  clear hb x0 x1 x2 x3 y0 y1 y2 y3 l0 l1
  go_wp2
  go_ret
  exact ⟨rfl, W6.out⟩
end Go.Proofs.Ytckdhahceelckaa.G
