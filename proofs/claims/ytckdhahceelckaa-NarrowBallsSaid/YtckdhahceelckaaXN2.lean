import Derived.Test.YtckdhahceelckaaXB
import Derived.Outline
import Derived.IntWalk
namespace Go.Proofs.Ytckdhahceelckaa.G
open Go.RowKit Go.Proofs.YtckdhahceelckaaW.PrintWords Go.Proofs.YtckdhahceelckaaW.PrintLast Go.Proofs.YtckdhahceelckaaW.PrintMore
attribute [local go_sem] max2_mx min2_mn max_two min_two max_three min_three max_four min_four
set_option linter.unusedVariables false
set_option linter.unusedSimpArgs false

theorem gcd_tmod (a b : Int) : Int.gcd b (a.tmod b) = Int.gcd a b := by
  rw [Int.tmod_def, Int.gcd_comm]
  exact Int.gcd_sub_mul_left_left b a _

theorem ret_int {k : IntKind} {a b : Int} (h : a = b) : Ending.returned (.int k a) = Ending.returned (.int k b) := by rw [h]
theorem w64_id (x : Int) (h1 : -9223372036854775808 ≤ x) (h2 : x ≤ 9223372036854775807) : wrap64 x = x := by unfold wrap64; omega

set_option maxHeartbeats 1000000 in
theorem gcd_calls (a b : Int) (w : World) (ha1 : -4611686018427387904 ≤ a) (ha2 : a ≤ 4611686018427387904) (hb1 : -4611686018427387904 ≤ b) (hb2 : b ≤ 4611686018427387904) :
    Calls Try.prog 166 #[.int .i64 a, .int .i64 b] w fun e w' => e = .returned (.int .i64 (Int.gcd a b)) ∧ Below w.heap.size w w' := by
  go_enter Try.func166, Try.ntmps166
  go_wp2
  go_loopw [0, 1] (fun v0 v1 wr => ∃ x y : Int, v0 = .int .i64 x ∧ v1 = .int .i64 y ∧ Hid (Int.gcd x y = Int.gcd a b) ∧ -4611686018427387904 ≤ x ∧ x ≤ 4611686018427387904 ∧ -4611686018427387904 ≤ y ∧ y ≤ 4611686018427387904 ∧ Below w.heap.size w wr) (fun _ y _ => (intOf y).natAbs)
  case atStart => exact ⟨a, b, rfl, rfl, rfl, ha1, ha2, hb1, hb2, Below.refl _ _⟩
  case round =>
    obtain ⟨x, y, rfl, rfl, hg, hx1, hx2, hy1, hy2, hbr⟩ := hrel
    clear ha1 ha2 hb1 hb2
    by_cases h0 : y = 0
    · subst h0
      go_wp2
      go_ret
      refine ⟨ret_int ?_, hbr⟩
      have e := hg.out
      simp at e
      rw [← e]
      unfold mx
      omega
    · have h0' : (y != 0) = true := by simpa using h0
      have h0'' : (y == 0) = false := by simpa using h0
      have hG := gcd_tmod x y
      have hm1 : (x.tmod y).natAbs < y.natAbs := by rw [Int.natAbs_tmod]; exact Nat.mod_lt _ (by omega)
      have HG : Hid (Int.gcd y (x.tmod y) = Int.gcd a b) := hG.trans hg.out
      clear hG hg
      go_wp2
      go_quiet (fail)
      go_wp2
      go_roundw
      case rel => exact ⟨y, x.tmod y, rfl, rfl, HG, by omega, by omega, by omega, by omega, pw_below_drewN hbr _⟩
      case measure => simpa [intOf] using hm1

theorem beyond_calls (x y z n : Int) (w : World) (hn1 : 0 ≤ n) (hn2 : n ≤ 9223372036854775807) :
    Calls Try.prog 123 #[.agg #[.int .i64 x, .int .i64 y, .int .i64 z], .int .i64 n] w fun e w' => e = .returned (.bool (far3 n ⟨x, y, z⟩)) ∧ Below w.heap.size w w' := by
  have hw : wrap64 (-n) = -n := w64_id _ (by omega) (by omega)
  unfold far3
  rw [hw]
  clear hw
  go_enter Try.func123, Try.ntmps123
  go_wp2
  all_goals (go_ret; exact ⟨by simp [*], ((Below.refl _ _).alloc (Nat.le_refl _) _)⟩)

theorem tdiv_le (x n : Int) (B : Nat) (hx : x.natAbs ≤ B) : (x.tdiv n).natAbs ≤ B := by
  rw [Int.natAbs_tdiv]; exact Nat.le_trans (Nat.div_le_self _ _) hx
theorem iw_id (x : Int) (h1 : -9223372036854775808 ≤ x) (h2 : x ≤ 9223372036854775807) : IntKind.i64.wrap x = x := by rw [IntKind.wrap_i64]; omega
theorem iw_tdiv (x n : Int) (h1 : -4611686018427387904 ≤ x) (h2 : x ≤ 4611686018427387904) : IntKind.i64.wrap (x.tdiv n) = x.tdiv n := by
  have := tdiv_le x n 4611686018427387904 (by omega)
  exact iw_id _ (by omega) (by omega)
def div3 (n : Int) (p : P3) : P3 := ⟨p.x.tdiv n, p.y.tdiv n, p.z.tdiv n⟩
set_option maxHeartbeats 1000000 in
theorem divisor_calls (n x y z : Int) (w : World) (hn : n ≠ 0) (hn1 : 1 ≤ n) (hx1 : -4611686018427387904 ≤ x) (hx2 : x ≤ 4611686018427387904) (hy1 : -4611686018427387904 ≤ y) (hy2 : y ≤ 4611686018427387904) (hz1 : -4611686018427387904 ≤ z) (hz2 : z ≤ 4611686018427387904) :
    Calls Try.prog 125 #[.int .i64 n, .agg #[.int .i64 x, .int .i64 y, .int .i64 z]] w fun e w' => e = .returned (.agg #[.int .i64 (div3 n ⟨x, y, z⟩).x, .int .i64 (div3 n ⟨x, y, z⟩).y, .int .i64 (div3 n ⟨x, y, z⟩).z]) ∧ Below w.heap.size w w' := by
  have hd : (n == 0) = false := by simpa using hn
  have ex := iw_tdiv x n hx1 hx2
  have ey := iw_tdiv y n hy1 hy2
  have ez := iw_tdiv z n hz1 hz2
  go_enter Try.func125, Try.ntmps125
  go_wp2
  go_region_held3 (fun w' => w'.cell? ⟨w.heap.size, 0, none⟩ = some (.int .i64 x) ∧ w'.cell? ⟨w.heap.size, 1, none⟩ = some (.int .i64 y) ∧ w'.cell? ⟨w.heap.size, 2, none⟩ = some (.int .i64 z)) (go_keep) (fail)
  go_wp2
  exact bodyPost_ret (v := .agg #[.int .i64 (div3 n ⟨x, y, z⟩).x, .int .i64 (div3 n ⟨x, y, z⟩).y, .int .i64 (div3 n ⟨x, y, z⟩).z]) (by simp [results, Try.results125, go_sem, div3]) rfl ⟨rfl, (by repeat (first | exact Below.refl _ _ | refine Below.setCell ?_ (by simp <;> omega) _ | refine Below.alloc ?_ (by simp <;> omega) _ | refine Below.drew ?_))⟩

def gcd3 (p : P3) : Int := Int.gcd (Int.gcd p.x p.y) p.z
def bare3 (p : P3) : P3 := div3 (gcd3 p) p
def in3 (n : Int) (p : P3) : Prop := -n ≤ p.x ∧ p.x ≤ n ∧ -n ≤ p.y ∧ p.y ≤ n ∧ -n ≤ p.z ∧ p.z ≤ n
theorem gcd_le_bd (a b : Int) (B : Nat) (ha : a.natAbs ≤ B) (hb : b.natAbs ≤ B) : Int.gcd a b ≤ B := by
  by_cases h : a = 0
  · subst h; simpa using hb
  · exact Nat.le_trans (Nat.le_of_dvd (by omega) (Nat.gcd_dvd_left a.natAbs b.natAbs)) ha
theorem gcd3_pos (p : P3) (h : p ≠ ⟨0, 0, 0⟩) : 1 ≤ gcd3 p := by
  unfold gcd3
  rcases Nat.eq_zero_or_pos (Int.gcd (Int.gcd p.x p.y) p.z) with h0 | h0
  · exfalso
    rw [Int.gcd_eq_zero_iff] at h0
    obtain ⟨h1, h2⟩ := h0
    have h1' : Int.gcd p.x p.y = 0 := by omega
    rw [Int.gcd_eq_zero_iff] at h1'
    exact h (by cases p; simp_all)
  · omega
theorem gcd3_le (p : P3) (B : Nat) (h : in3 B p) : gcd3 p ≤ B := by
  obtain ⟨h1, h2, h3, h4, h5, h6⟩ := h
  have := gcd_le_bd p.x p.y B (by omega) (by omega)
  have := gcd_le_bd (Int.gcd p.x p.y) p.z B (by omega) (by omega)
  unfold gcd3; omega

set_option maxHeartbeats 1000000 in
theorem bare_calls (x y z : Int) (w : World) (hp : (⟨x, y, z⟩ : P3) ≠ ⟨0, 0, 0⟩) (hx1 : -4611686018427387904 ≤ x) (hx2 : x ≤ 4611686018427387904) (hy1 : -4611686018427387904 ≤ y) (hy2 : y ≤ 4611686018427387904) (hz1 : -4611686018427387904 ≤ z) (hz2 : z ≤ 4611686018427387904) :
    Calls Try.prog 124 #[.agg #[.int .i64 x, .int .i64 y, .int .i64 z]] w fun e w' => e = .returned (.agg #[.int .i64 (bare3 ⟨x, y, z⟩).x, .int .i64 (bare3 ⟨x, y, z⟩).y, .int .i64 (bare3 ⟨x, y, z⟩).z]) ∧ Below w.heap.size w w' := by
  have k1 := gcd3_pos _ hp
  have k2 : (Int.gcd x y : Int) ≤ 4611686018427387904 := by have := gcd_le_bd x y 4611686018427387904 (by omega) (by omega); omega
  have k3 : (0 : Int) ≤ Int.gcd x y := by omega
  unfold bare3
  unfold gcd3 at k1 ⊢
  simp only at k1 ⊢
  clear hp
  obtain ⟨G, hG⟩ : ∃ G : Int, (Int.gcd x y : Int) = G := ⟨_, rfl⟩
  obtain ⟨E, hE⟩ : ∃ E : Int, (Int.gcd G z : Int) = E := ⟨_, rfl⟩
  rw [hG] at k1 k2 k3
  rw [hG, hE]
  rw [hE] at k1
  have HG := Lib.hid hG
  have HE := Lib.hid hE
  clear hG hE
  go_enter Try.func124, Try.ntmps124
  go_wp2
  have B1 := ((C3.new w (.int .i64 x) (.int .i64 y) (.int .i64 z) 23).alloc (.cells #[.int .i64 0, .int .i64 0, .int .i64 0] 23)).drew
  have B2 := (C3.new (w.alloc (.cells #[.int .i64 x, .int .i64 y, .int .i64 z] 23)) (.int .i64 0) (.int .i64 0) (.int .i64 0) 23).drew
  simp only [World.size_alloc] at B2
  go_region_held3 (fun w' => w'.cell? ⟨w.heap.size, 0, none⟩ = some (.int .i64 x) ∧ w'.cell? ⟨w.heap.size, 1, none⟩ = some (.int .i64 y) ∧ w'.cell? ⟨w.heap.size, 2, none⟩ = some (.int .i64 z))
    (first | exact ⟨c10, c11, c12⟩ | (go_keep; done))
    (first
      | (go_at_call_of 166 z; refine (gcd_calls _ _ _ ?_ ?_ ?_ ?_).mono ?_; omega; omega; omega; omega; rintro e w2 ⟨rfl, hb2⟩; rw [HE.out]; have B1 := B1.below hb2; have B2 := B2.below hb2; obtain ⟨c10, c11, c12, f10, f11, f12⟩ := id B1; obtain ⟨c20, c21, c22, f20, f21, f22⟩ := id B2)
      | (go_at_call_of 166 y; refine (gcd_calls _ _ _ ?_ ?_ ?_ ?_).mono ?_; omega; omega; omega; omega; rintro e w1 ⟨rfl, hb1⟩; rw [HG.out]; have B1 := B1.below hb1; have B2 := B2.below hb1; obtain ⟨c10, c11, c12, f10, f11, f12⟩ := id B1; obtain ⟨c20, c21, c22, f20, f21, f22⟩ := id B2)
      | (go_at_call 125; refine (divisor_calls _ _ _ _ _ ?_ ?_ ?_ ?_ ?_ ?_ ?_ ?_).mono ?_; omega; omega; omega; omega; omega; omega; omega; omega; rintro e w3 ⟨rfl, hb3⟩; have B1 := B1.below hb3; have B2 := B2.below hb3; obtain ⟨c10, c11, c12, f10, f11, f12⟩ := id B1; obtain ⟨c20, c21, c22, f20, f21, f22⟩ := id B2))
  go_wp2
  have hB : Below w.heap.size w w3 := (((((Below.refl _ w).alloc (Nat.le_refl _) _).alloc (by simp) _).drew.trans (hb1.mono (by simp; omega))).trans (hb2.mono (by have := hb1.size; simp at this; omega))).trans (hb3.mono (by have := hb1.size; have := hb2.size; simp at *; omega))
  exact bodyPost_ret (v := .agg #[.int .i64 (div3 E ⟨x, y, z⟩).x, .int .i64 (div3 E ⟨x, y, z⟩).y, .int .i64 (div3 E ⟨x, y, z⟩).z]) (by simp [results, Try.results124, go_sem, *]) rfl ⟨rfl, ((hB.setCell (by simp) _).setCell (by simp) _).setCell (by simp) _⟩
end Go.Proofs.Ytckdhahceelckaa.G
