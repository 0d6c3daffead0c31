import Derived.Test.YtckdhahceelckaaXB
import Derived.Outline
namespace Go.Proofs.Ytckdhahceelckaa.G
open Go.RowKit Go.Proofs.YtckdhahceelckaaW.PrintWords Go.Proofs.YtckdhahceelckaaW.PrintLast Go.Proofs.YtckdhahceelckaaW.PrintMore
attribute [local go_sem] max2_mx min2_mn max_two min_two max_three min_three max_four min_four
set_option linter.unusedVariables false
set_option linter.unusedSimpArgs false

theorem dot_calls (x y z a b c : Int) (w : World) :
    Calls Try.prog 66 #[.agg #[.int .i64 x, .int .i64 y, .int .i64 z], .agg #[.int .i64 a, .int .i64 b, .int .i64 c]] w fun e w' => e = .returned (.int .i64 (dot3 ⟨x, y, z⟩ ⟨a, b, c⟩)) ∧ Below w.heap.size w w' := by
  go_enter Try.func66, Try.ntmps66
  go_wp2
  go_ret
  exact ⟨rfl, ((Below.refl _ _).alloc (Nat.le_refl _) _).alloc (by simp) _⟩

theorem minus_calls (x y z a b c : Int) (w : World) :
    Calls Try.prog 61 #[.agg #[.int .i64 x, .int .i64 y, .int .i64 z], .agg #[.int .i64 a, .int .i64 b, .int .i64 c]] w fun e w' => e = .returned (.agg #[.int .i64 (minus3 ⟨x, y, z⟩ ⟨a, b, c⟩).x, .int .i64 (minus3 ⟨x, y, z⟩ ⟨a, b, c⟩).y, .int .i64 (minus3 ⟨x, y, z⟩ ⟨a, b, c⟩).z]) ∧ Below w.heap.size w w' := by
  go_enter Try.func61, Try.ntmps61
  go_wp2
  exact bodyPost_ret (v := .agg #[.int .i64 (minus3 ⟨x, y, z⟩ ⟨a, b, c⟩).x, .int .i64 (minus3 ⟨x, y, z⟩ ⟨a, b, c⟩).y, .int .i64 (minus3 ⟨x, y, z⟩ ⟨a, b, c⟩).z]) (by simp [results, Try.results61, go_sem, minus3]) rfl ⟨rfl, (by repeat (first | exact Below.refl _ _ | refine Below.setCell ?_ (by simp <;> omega) _ | refine Below.alloc ?_ (by simp <;> omega) _ | refine Below.drew ?_))⟩

theorem cross_calls (x y z a b c : Int) (w : World) :
    Calls Try.prog 117 #[.agg #[.int .i64 x, .int .i64 y, .int .i64 z], .agg #[.int .i64 a, .int .i64 b, .int .i64 c]] w fun e w' => e = .returned (.agg #[.int .i64 (cross3 ⟨x, y, z⟩ ⟨a, b, c⟩).x, .int .i64 (cross3 ⟨x, y, z⟩ ⟨a, b, c⟩).y, .int .i64 (cross3 ⟨x, y, z⟩ ⟨a, b, c⟩).z]) ∧ Below w.heap.size w w' := by
  go_enter Try.func117, Try.ntmps117
  go_wp2
  exact bodyPost_ret (v := .agg #[.int .i64 (cross3 ⟨x, y, z⟩ ⟨a, b, c⟩).x, .int .i64 (cross3 ⟨x, y, z⟩ ⟨a, b, c⟩).y, .int .i64 (cross3 ⟨x, y, z⟩ ⟨a, b, c⟩).z]) (by simp [results, Try.results117, go_sem, cross3]) rfl ⟨rfl, (by repeat (first | exact Below.refl _ _ | refine Below.setCell ?_ (by simp <;> omega) _ | refine Below.alloc ?_ (by simp <;> omega) _ | refine Below.drew ?_))⟩
def rstep (n : P3) (s : Int × Int) (p : P3) : Int × Int := (mn s.1 (dot3 n p), mx s.2 (dot3 n p))
def reachF (n p0 : P3) (r : List P3) : Int × Int := r.foldl (rstep n) (dot3 n p0, dot3 n p0)
theorem reachF_snoc (n p0 : P3) (r : List P3) (k : Nat) (h : k < r.length) : reachF n p0 (r.take (k + 1)) = rstep n (reachF n p0 (r.take k)) r[k] := by
  unfold reachF
  rw [List.take_succ_eq_append_getElem h, List.foldl_append]; rfl

set_option maxHeartbeats 1000000 in
theorem reach_calls (p0 : P3) (r : List P3) (A : Option Addr) (c : Nat) (x y z : Int) (w : World) (hr : Rd w A (p0 :: r)) (hc : r.length + 1 ≤ c) (hm : r.length < 9223372036854775807) :
    Calls Try.prog 69 #[.slice A (r.length + 1) c, .agg #[.int .i64 x, .int .i64 y, .int .i64 z]] w fun e w' => e = .returned (.tuple #[.int .i64 (reachF ⟨x, y, z⟩ p0 r).1, .int .i64 (reachF ⟨x, y, z⟩ p0 r).2]) ∧ Below w.heap.size w w' := by
  obtain ⟨b, o, rfl, hlt, h1, h2, h3⟩ := hr.get 0 (by simp)
  simp only [Nat.zero_mul, Nat.add_zero, List.getElem_cons_zero] at h1 h2 h3
  have hl0' : (0 : Int) < (r.length : Int) + 1 := by omega
  have hl1' : (1 : Int) ≤ (r.length : Int) + 1 := by omega
  have hR := Lib.hid hr
  clear hr
  obtain ⟨i0, hi0, _, hsz0, _⟩ := info_parts info23
  obtain ⟨A', hA', hcut⟩ : ∃ A' : Option Addr, (0 < r.length → A' = some ⟨b, o + 3, none⟩) ∧ ∀ W : World, (Instr.slice 24 (.slice (some ⟨b, o, none⟩) (r.length + 1) c) (some (.int .i64 1)) none none).run Try.prog W = .ok (.slice A' r.length (c - 1)) W :=
    ⟨_, fun h => if_neg (by omega), fun W => cut_from (P := Try.prog) 24 23 .i64 Try.underlying24 hi0 3 hsz0 (some ⟨b, o, none⟩) (r.length + 1) c 1 (by omega) (by omega) W⟩
  go_enter Try.func69, Try.ntmps69
  go_wp2
  go_region_held3 (fun w' => w'.cell? ⟨w.heap.size, 0, none⟩ = some (.int .i64 x) ∧ w'.cell? ⟨w.heap.size, 1, none⟩ = some (.int .i64 y) ∧ w'.cell? ⟨w.heap.size, 2, none⟩ = some (.int .i64 z) ∧ w'.cell? ⟨b, o, none⟩ = some (.int .i64 p0.x) ∧ w'.cell? ⟨b, o + 1, none⟩ = some (.int .i64 p0.y) ∧ w'.cell? ⟨b, o + 2, none⟩ = some (.int .i64 p0.z))
    (((try dsimp only); (repeat' apply And.intro) <;> first | (go_keep; done) | (rw [hc1 _ _ (by simp <;> omega)]; simp [*]; done)))
    ((go_at_call 66; refine (dot_calls _ _ _ _ _ _ _).mono ?_; rintro e w1 ⟨rfl, hb⟩; obtain ⟨hc1, hf1⟩ := bcell hb))
  have hB : Below w.heap.size w w1 := (((Below.refl _ w).alloc (Nat.le_refl _) _).drew).trans (hb.mono (by simp))
  clear hc1 hf1
  go_wp2
  obtain ⟨D, hD⟩ : ∃ D, dot3 ⟨x, y, z⟩ p0 = D := ⟨_, rfl⟩
  have hD' : dot3 ⟨x, y, z⟩ ⟨p0.x, p0.y, p0.z⟩ = D := hD
  simp only [hD']
  obtain ⟨g1, g2, g3, _⟩ := ‹w1.cell? ⟨w.heap.size, 0, none⟩ = some (.int .i64 x) ∧ w1.cell? ⟨w.heap.size, 1, none⟩ = some (.int .i64 y) ∧ w1.cell? ⟨w.heap.size, 2, none⟩ = some (.int .i64 z) ∧ _›
  have hsz : w.heap.size < w1.heap.size := by have := hb.size; simp at this; omega
  go_loopw [4, 5, 18] (fun v4 v5 v18 wr => ∃ k : Nat, k ≤ r.length ∧ v18 = .int .i64 k ∧ v4 = .int .i64 (reachF ⟨x, y, z⟩ p0 (r.take k)).1 ∧ v5 = .int .i64 (reachF ⟨x, y, z⟩ p0 (r.take k)).2 ∧ Below w1.heap.size w1 wr) (fun _ _ i _ => r.length - (intOf i).toNat)
  case atStart => exact ⟨0, Nat.zero_le _, rfl, by simp [reachF, ← hD], by simp [reachF, ← hD], Below.refl _ _⟩
  case round =>
    obtain ⟨k, hk, rfl, rfl, rfl, hbr⟩ := hrel
    obtain ⟨hcr, hfr⟩ := bcell hbr
    have q1 := (hcr _ 0 hsz).trans g1
    have q2 := (hcr _ 1 hsz).trans g2
    have q3 := (hcr _ 2 hsz).trans g3
    have hszr : w.heap.size < wr.heap.size := Nat.lt_of_lt_of_le hsz hbr.size
    have hbB : Below w.heap.size w wr := hB.trans (hbr.mono (by omega))
    clear hcr hfr g1 g2 g3 hb hD hD' h1 h2 h3
    by_cases hlt2 : k < r.length
    · obtain rfl := hA' (by omega)
      obtain ⟨b', o', hA, _, h1, h2, h3⟩ := hR.out.get (k + 1) (by simp; omega)
      simp only [Option.some.injEq, Addr.mk.injEq, and_true] at hA
      obtain ⟨rfl, rfl⟩ := hA
      simp only [List.getElem_cons_succ, show o + (k + 1) * 3 = o + 3 + k * 3 from by omega] at h1 h2 h3
      have e1 := (hbB.cell (p := ⟨b, o + 3 + k * 3, none⟩) hlt).trans h1
      have e2 := (hbB.cell (p := ⟨b, o + 3 + k * 3 + 1, none⟩) hlt).trans h2
      have e3 := (hbB.cell (p := ⟨b, o + 3 + k * 3 + 2, none⟩) hlt).trans h3
      clear h1 h2 h3
      have hS := Lib.hid (reachF_snoc ⟨x, y, z⟩ p0 r k hlt2)
      go_wp2_with (go_at_call 66; refine (dot_calls _ _ _ _ _ _ _).mono ?_; rintro e w3 ⟨rfl, hb3⟩)
      go_roundw
      case rel => exact ⟨k + 1, by omega, by go_num, by rw [hS.out]; rfl, by rw [hS.out]; rfl, hbr.trans ((((Below.refl _ wr).alloc hbr.size _)).trans (hb3.mono (by simp; have := hbr.size; omega)))⟩
      case measure => simp [intOf]; omega
    · obtain rfl : k = r.length := by omega
      go_wp2
      go_ret2
      exact ⟨by simp, hbB⟩
end Go.Proofs.Ytckdhahceelckaa.G
