import Derived.Test.YtckdhahceelckaaXN4
import Derived.Outline
import Derived.Laws.BitsAllLaws
import Derived.Laws.BitsLemmas
namespace Go.Proofs.Ytckdhahceelckaa.G
open Go.RowKit Go.Proofs.YtckdhahceelckaaW.PrintWords Go.Proofs.YtckdhahceelckaaW.PrintLast Go.Proofs.YtckdhahceelckaaW.PrintMore
attribute [local go_sem] max2_mx min2_mn max_two min_two max_three min_three max_four min_four
attribute [local go_sem high] eqA23
set_option linter.unusedVariables false
set_option linter.unusedSimpArgs false

/-- the root of a number, down -/
def isq : Nat → Nat
  | 0 => 0
  | n + 1 => if (isq n + 1) * (isq n + 1) ≤ n + 1 then isq n + 1 else isq n
theorem isq_spec : ∀ n, isq n * isq n ≤ n ∧ n < (isq n + 1) * (isq n + 1)
  | 0 => by simp [isq]
  | n + 1 => by
    obtain ⟨h1, h2⟩ := isq_spec n
    unfold isq
    split
    · rename_i h
      refine ⟨h, ?_⟩
      have e : (isq n + 1 + 1) * (isq n + 1 + 1) = (isq n + 1) * (isq n + 1) + 2 * (isq n + 1) + 1 := by grind
      omega
    · rename_i h
      exact ⟨by omega, by omega⟩
theorem isq_unique (n r : Nat) (h1 : r * r ≤ n) (h2 : n < (r + 1) * (r + 1)) : r = isq n := by
  obtain ⟨a, b⟩ := isq_spec n
  rcases Nat.lt_trichotomy r (isq n) with h | h | h
  · have := Nat.mul_le_mul (show r + 1 ≤ isq n by omega) (show r + 1 ≤ isq n by omega); omega
  · exact h
  · have := Nat.mul_le_mul (show isq n + 1 ≤ r by omega) (show isq n + 1 ≤ r by omega); omega
def dotI (p q : P3) : Int := p.x * q.x + p.y * q.y + p.z * q.z
theorem mul_bd (a b : Int) (A B : Nat) (ha : a.natAbs ≤ A) (hb : b.natAbs ≤ B) : (a * b).natAbs ≤ A * B := by rw [Int.natAbs_mul]; exact Nat.mul_le_mul ha hb
theorem dot3_eq (p q : P3) (A B : Nat) (hp : in3 A p) (hq : in3 B q) (h : A * B ≤ 1152921504606846976) : dot3 p q = dotI p q := by
  obtain ⟨a1, a2, a3, a4, a5, a6⟩ := hp
  obtain ⟨b1, b2, b3, b4, b5, b6⟩ := hq
  have m1 := mul_bd p.x q.x A B (by omega) (by omega)
  have m2 := mul_bd p.y q.y A B (by omega) (by omega)
  have m3 := mul_bd p.z q.z A B (by omega) (by omega)
  unfold dot3 dotI
  generalize p.x * q.x = u at *
  generalize p.y * q.y = v at *
  generalize p.z * q.z = t at *
  rw [w64_id u (by omega) (by omega), w64_id v (by omega) (by omega), w64_id t (by omega) (by omega), w64_id (u + v) (by omega) (by omega), w64_id _ (by omega) (by omega)]
theorem dotI_bd (p q : P3) (A B : Nat) (hp : in3 A p) (hq : in3 B q) : (dotI p q).natAbs ≤ 3 * (A * B) := by
  obtain ⟨a1, a2, a3, a4, a5, a6⟩ := hp
  obtain ⟨b1, b2, b3, b4, b5, b6⟩ := hq
  have m1 := mul_bd p.x q.x A B (by omega) (by omega)
  have m2 := mul_bd p.y q.y A B (by omega) (by omega)
  have m3 := mul_bd p.z q.z A B (by omega) (by omega)
  unfold dotI
  omega
theorem sq_nonneg (a : Int) : 0 ≤ a * a := by
  rcases Int.le_total 0 a with h | h
  · exact Int.mul_nonneg h h
  · have := Int.mul_nonneg (show 0 ≤ -a by omega) (show 0 ≤ -a by omega); rwa [Int.neg_mul_neg] at this
theorem dotI_self (p : P3) : 0 ≤ dotI p p := by have := sq_nonneg p.x; have := sq_nonneg p.y; have := sq_nonneg p.z; unfold dotI; omega
/-- the size of a direction, down; up -/
def fl3 (p : P3) : Int := isq (dotI p p).toNat
def ce3 (p : P3) : Int := if fl3 p * fl3 p < dotI p p then fl3 p + 1 else fl3 p
def sz3 (p : P3) : Int × Int := if far3 16777216 p then (0, 0) else (fl3 p, ce3 p)

theorem ofInt_i64 (a : Nat) (ha : a < 9223372036854775808) : (BitVec.ofInt 64 (a : Int)).toNat = a := by
  rw [BitVec.ofInt_natCast, BitVec.toNat_ofNat]; exact Nat.mod_eq_of_lt (by omega)
theorem i64_or_nat (a b : Nat) (ha : a < 9223372036854775808) (hb : b < 9223372036854775808) : bits .or .i64 (a : Int) (b : Int) = ((a ||| b : Nat) : Int) := by
  have hx : a ||| b < 2 ^ 63 := Nat.or_lt_two_pow (by omega) (by omega)
  show IntKind.i64.wrap ((BitVec.ofInt 64 (a : Int) ||| BitVec.ofInt 64 (b : Int)).toNat : Int) = _
  rw [BitVec.toNat_or, ofInt_i64 a ha, ofInt_i64 b hb, IntKind.wrap_i64]
  omega
theorem ret_two {k k' : IntKind} {a b c d : Int} (h : a = b) (h' : c = d) : Ending.returned (.tuple #[.int k a, .int k' c]) = Ending.returned (.tuple #[.int k b, .int k' d]) := by rw [h, h']
def SzInv (s r b : Nat) : Prop := r * r ≤ s ∧ ((b = 0 ∧ s < (r + 1) * (r + 1)) ∨ ∃ k q, k ≤ 25 ∧ b = 2 ^ k ∧ r = 2 ^ (k + 1) * q ∧ s < (r + 2 * b) * (r + 2 * b))
theorem SzInv.start (s : Nat) (h : s ≤ 844424930131968) : SzInv s 0 33554432 := ⟨by omega, .inr ⟨25, 0, by omega, by decide, by simp, by omega⟩⟩
theorem SzInv.done {s r : Nat} (h : SzInv s r 0) : r = isq s := by
  obtain ⟨h1, h2⟩ := h
  rcases h2 with ⟨_, h2⟩ | ⟨k, q, _, hb, _⟩
  · exact isq_unique s r h1 h2
  · exact absurd hb (by have := Nat.two_pow_pos k; omega)
theorem SzInv.step {s r b : Nat} (h : SzInv s r b) (hb : b ≠ 0) : r ||| b = r + b ∧ b ≤ 33554432 ∧ ((r + b) * (r + b) ≤ s → SzInv s (r + b) (b / 2)) ∧ (s < (r + b) * (r + b) → SzInv s r (b / 2)) := by
  obtain ⟨h1, h2⟩ := h
  rcases h2 with ⟨h2, _⟩ | ⟨k, q, hk, rfl, rfl, h3⟩
  · exact absurd h2 hb
  · have hp : 2 ^ k ≤ 2 ^ 25 := Nat.pow_le_pow_right (by omega) hk
    have e2 : 2 ^ (k + 1) = 2 * 2 ^ k := by rw [Nat.pow_succ]; omega
    refine ⟨?_, by simpa using hp, ?_, ?_⟩
    · exact (Nat.two_pow_add_eq_or_of_lt (show 2 ^ k < 2 ^ (k + 1) by omega) q).symm
    · intro h4
      refine ⟨h4, ?_⟩
      cases k with
      | zero => exact .inl ⟨by decide, by simpa [Nat.add_assoc] using h3⟩
      | succ k =>
        have e3 : 2 ^ (k + 1) / 2 = 2 ^ k := by rw [Nat.pow_succ]; omega
        have e4 : 2 ^ (k + 1) = 2 * 2 ^ k := by rw [Nat.pow_succ]; omega
        refine .inr ⟨k, 2 * q + 1, by omega, e3, ?_, ?_⟩
        · rw [e2, Nat.mul_add, Nat.mul_one, Nat.mul_assoc, Nat.mul_left_comm]
        · rw [e3]
          have : 2 ^ (k + 1 + 1) * q + 2 ^ (k + 1) + 2 * 2 ^ k = 2 ^ (k + 1 + 1) * q + 2 * 2 ^ (k + 1) := by omega
          rw [this]; exact h3
    · intro h4
      refine ⟨h1, ?_⟩
      cases k with
      | zero => exact .inl ⟨by decide, by simpa using h4⟩
      | succ k =>
        have e3 : 2 ^ (k + 1) / 2 = 2 ^ k := by rw [Nat.pow_succ]; omega
        have e4 : 2 ^ (k + 1) = 2 * 2 ^ k := by rw [Nat.pow_succ]; omega
        refine .inr ⟨k, 2 * q, by omega, e3, ?_, ?_⟩
        · rw [e2, Nat.mul_assoc, Nat.mul_left_comm]
        · rw [e3, ← e4]; exact h4
theorem SzInv.bd {s r b : Nat} (h : SzInv s r b) (hs : s ≤ 844424930131968) : r ≤ 33554432 := by
  rcases Nat.lt_or_ge 33554432 r with h1 | h1
  · have := Nat.mul_le_mul (show 33554432 ≤ r by omega) (show 33554432 ≤ r by omega)
    have := h.1; omega
  · exact h1

set_option maxHeartbeats 1000000 in
theorem sizes_calls (x y z : Int) (w : World) :
    Calls Try.prog 26 #[.agg #[.int .i64 x, .int .i64 y, .int .i64 z]] w fun e w' => e = .returned (.tuple #[.int .i64 (sz3 ⟨x, y, z⟩).1, .int .i64 (sz3 ⟨x, y, z⟩).2]) ∧ Below w.heap.size w w' := by
  have B1 := C3.new w (.int .i64 x) (.int .i64 y) (.int .i64 z) 23
  cases hf : far3 16777216 ⟨x, y, z⟩ with
  | true =>
    have hs : sz3 ⟨x, y, z⟩ = (0, 0) := by unfold sz3; rw [hf]; rfl
    rw [hs]
    clear hs
    go_enter Try.func26, Try.ntmps26
    go_wp2
    go_region_held3 (fun w' => w'.cell? ⟨w.heap.size, 0, none⟩ = some (.int .i64 x) ∧ w'.cell? ⟨w.heap.size, 1, none⟩ = some (.int .i64 y) ∧ w'.cell? ⟨w.heap.size, 2, none⟩ = some (.int .i64 z))
      (first | (go_keep; done) | exact ⟨c10, c11, c12⟩)
      (first
        | (go_at_call 65; refine (beyondF_calls _ _).mono ?_; rintro e w1 ⟨rfl, rfl⟩)
        | (go_at_call 121; refine (beyond1_calls _ _ _ 16777216 _ _ (by simp) (by decide) (by decide)).mono ?_; rintro e w1 ⟨rfl, hb1⟩; rw [hf]; obtain ⟨c10, c11, c12, f10, f11, f12⟩ := (B1.drew.alloc _).below hb1))
    go_wp2
    go_ret2
    exact ⟨rfl, ((((Below.refl _ w).alloc (Nat.le_refl _) _).drew).alloc (by simp) _).trans (hb1.mono (by simp; omega))⟩
  | false =>
    have hin := (far3_iff _ _ (by decide) (by decide)).1 hf
    have hd := dot3_eq ⟨x, y, z⟩ ⟨x, y, z⟩ 16777216 16777216 hin hin (by decide)
    have hd1 := dotI_bd ⟨x, y, z⟩ ⟨x, y, z⟩ 16777216 16777216 hin hin
    have hd2 := dotI_self ⟨x, y, z⟩
    have hs : sz3 ⟨x, y, z⟩ = (fl3 ⟨x, y, z⟩, ce3 ⟨x, y, z⟩) := by unfold sz3; rw [hf]; rfl
    rw [hs]
    clear hs
    unfold ce3 fl3
    obtain ⟨s, hs⟩ : ∃ s : Nat, dotI ⟨x, y, z⟩ ⟨x, y, z⟩ = s := ⟨_, (Int.toNat_of_nonneg hd2).symm⟩
    rw [hs] at hd hd1 hd2 ⊢
    rw [Int.toNat_natCast]
    have hsb : s ≤ 844424930131968 := by omega
    have HD := Lib.hid hd
    clear hd hd1 hd2 hs hin
    obtain ⟨U, hU⟩ : ∃ U : Int, (if (isq s : Int) * (isq s : Int) < (s : Int) then (isq s : Int) + 1 else (isq s : Int)) = U := ⟨_, rfl⟩
    rw [hU]
    have HU := Lib.hid hU
    clear hU
    go_enter Try.func26, Try.ntmps26
    go_wp2
    go_region_held3 (fun w' => w'.cell? ⟨w.heap.size, 0, none⟩ = some (.int .i64 x) ∧ w'.cell? ⟨w.heap.size, 1, none⟩ = some (.int .i64 y) ∧ w'.cell? ⟨w.heap.size, 2, none⟩ = some (.int .i64 z))
      (first | (go_keep; done) | exact ⟨c10, c11, c12⟩)
      (first
        | (go_at_call 65; refine (beyondF_calls _ _).mono ?_; rintro e w1 ⟨rfl, rfl⟩)
        | (go_at_call 121; refine (beyond1_calls _ _ _ 16777216 _ _ (by simp) (by decide) (by decide)).mono ?_; rintro e w1 ⟨rfl, hb1⟩; rw [hf]; obtain ⟨c10, c11, c12, f10, f11, f12⟩ := (B1.drew.alloc _).below hb1))
    go_wp2_with (go_at_call 66; refine (dot_calls _ _ _ _ _ _ _).mono ?_; rintro e w2 ⟨rfl, hb2⟩; rw [HD.out])
    have hB : Below w.heap.size w w2 := ((((Below.refl _ w).alloc (Nat.le_refl _) _).drew).alloc (by simp) _).trans ((hb1.mono (by simp; omega)).trans (hb2.mono (by have := hb1.size; simp at this; omega)))
    clear hb1 hb2 c10 c11 c12 f10 f11 f12 B1 HD
    go_loopw [5, 6, 7] (fun v5 v6 v7 wr => ∃ (r : Nat) (b : Nat), v5 = .int .i64 r ∧ v6 = .int .i64 b ∧ Hid (SzInv s r b) ∧ Below w.heap.size w wr) (fun _ b _ _ => (intOf b).toNat)
    case atStart => exact ⟨0, 33554432, rfl, rfl, SzInv.start s hsb, hB⟩
    case round =>
      obtain ⟨r, b, rfl, rfl, hi, hbr⟩ := hrel
      have hrb := hi.out.bd hsb
      by_cases hb0 : b = 0
      · subst hb0
        have hr := Lib.hid hi.out.done
        have hrr : r * r ≤ s := hi.out.1
        have hrr' : (r : Int) * r ≤ s := by exact_mod_cast hrr
        have hp : (r : Int) * r = (r * r : Nat) := by simp
        obtain ⟨m, hm⟩ : ∃ m : Nat, r * r = m := ⟨_, rfl⟩
        rw [hm] at hp hrr
        clear hrr'
        have HM := Lib.hid hm
        clear hm
        have hr' : isq s = r := hr.out.symm
        rcases Nat.lt_or_ge m s with hlt | hge
        · go_wp2
          go_ret2
          refine ⟨ret_two (by rw [hr']) ?_, hbr⟩
          rw [← HU.out, hr', hp, if_pos (by omega)]
        · go_wp2
          go_ret2
          refine ⟨ret_two (by rw [hr']) ?_, hbr⟩
          rw [← HU.out, hr', hp, if_neg (by omega)]
      · obtain ⟨h1, h2, h3, h4⟩ := hi.out.step hb0
        have hor : bits .or .i64 (r : Int) (b : Int) = ((r + b : Nat) : Int) := by rw [i64_or_nat _ _ (by omega) (by omega), h1]
        obtain ⟨t, ht⟩ : ∃ t : Nat, r + b = t := ⟨_, rfl⟩
        rw [ht] at hor h3 h4
        have htb : t ≤ 67108864 := by omega
        have htt : t * t ≤ 67108864 * 67108864 := Nat.mul_le_mul htb htb
        obtain ⟨m, hm⟩ : ∃ m : Nat, t * t = m := ⟨_, rfl⟩
        have hp : (t : Int) * t = (m : Int) := by rw [← hm]; simp
        rw [hm] at h3 h4 htt
        have H3 := Lib.hid h3
        have H4 := Lib.hid h4
        clear h1 h3 h4 ht hm
        rcases Nat.lt_or_ge s m with hlt | hge
        · go_wp2
          go_roundw
          case rel => exact ⟨r, b / 2, rfl, by go_num, H4.out hlt, hbr⟩
          case measure => simp [intOf]; omega
        · go_wp2
          go_roundw
          case rel => exact ⟨t, b / 2, rfl, by go_num, H3.out hge, hbr⟩
          case measure => simp [intOf]; omega
end Go.Proofs.Ytckdhahceelckaa.G
