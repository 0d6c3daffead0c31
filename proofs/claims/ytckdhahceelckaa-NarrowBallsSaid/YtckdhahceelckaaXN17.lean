import Derived.Test.YtckdhahceelckaaXN16
import Derived.Test.YtckdhahceelckaaXN10
namespace Go.Proofs.Ytckdhahceelckaa.G
open Go.RowKit Go.Proofs.YtckdhahceelckaaW.PrintWords Go.Proofs.YtckdhahceelckaaW.PrintLast Go.Proofs.YtckdhahceelckaaW.PrintMore
attribute [local go_sem] max2_mx min2_mn max_two min_two max_three min_three max_four min_four
attribute [local go_sem high] eqA23
set_option linter.unusedVariables false
set_option linter.unusedSimpArgs false

/-- which of n things a raw number speaks of -/
def pickF (c n : Int) : Int := (if c < 0 then -(c + 1) else c).tmod n
theorem pickF_bd (c n : Int) (hn : 0 < n) : 0 ≤ pickF c n ∧ pickF c n < n := by
  unfold pickF
  have h0 : 0 ≤ (if c < 0 then -(c + 1) else c) := by split <;> omega
  generalize (if c < 0 then -(c + 1) else c) = d at h0
  rw [Int.tmod_eq_emod_of_nonneg h0]
  exact ⟨Int.emod_nonneg _ (by omega), Int.emod_lt_of_pos _ hn⟩
set_option maxHeartbeats 1000000 in
theorem pick_calls (c n : Int) (hc1 : -9223372036854775808 ≤ c) (hc2 : c ≤ 9223372036854775807) (hn : 0 < n) (hn2 : n ≤ 4294967296) (w : World) :
    Calls Try.prog 22 #[.int .i64 c, .int .i64 n] w fun e w' => e = .returned (.int .i64 (pickF c n)) ∧ w' = w := by
  have hb := pickF_bd c n hn
  have hn0 : n ≠ 0 := by omega
  have hn1 : n ≠ -1 := by omega
  by_cases h : c < 0
  · have hd : decide (c < 0) = true := by simpa using h
    have e1 : IntKind.i64.wrap (c + 1) = c + 1 := iw_id _ (by omega) (by omega)
    have e2 : IntKind.i64.wrap (-(c + 1)) = -(c + 1) := iw_id _ (by omega) (by omega)
    have e3 : pickF c n = (-(c + 1)).tmod n := by unfold pickF; rw [if_pos h]
    have e4 : IntKind.i64.wrap ((-(c + 1)).tmod n) = (-(c + 1)).tmod n := iw_id _ (by rw [← e3]; omega) (by rw [← e3]; omega)
    rw [e3]
    go_enter Try.func22, Try.ntmps22
    go_wp2
    go_ret
    exact ⟨by show Ending.returned (Value.int .i64 (-(c + 1).tmod n)) = _; rw [Int.neg_tmod], rfl⟩
  · have hd : decide (c < 0) = false := by simpa using h
    have e3 : pickF c n = c.tmod n := by unfold pickF; rw [if_neg h]
    have e4 : IntKind.i64.wrap (c.tmod n) = c.tmod n := iw_id _ (by rw [← e3]; omega) (by rw [← e3]; omega)
    rw [e3]
    go_enter Try.func22, Try.ntmps22
    go_wp2
    go_ret
    exact ⟨by show Ending.returned (Value.int .i64 (c % n)) = _; rw [Int.tmod_eq_emod_of_nonneg (by omega)], rfl⟩
set_option maxHeartbeats 1000000 in
theorem rminus_calls (x y z a b c : Int) (w : World) :
    Calls Try.prog 23 #[.agg #[.int .i64 x, .int .i64 y, .int .i64 z], .agg #[.int .i64 a, .int .i64 b, .int .i64 c]] w fun e w' => e = .returned (.agg #[.int .i64 (minus3 ⟨x, y, z⟩ ⟨a, b, c⟩).x, .int .i64 (minus3 ⟨x, y, z⟩ ⟨a, b, c⟩).y, .int .i64 (minus3 ⟨x, y, z⟩ ⟨a, b, c⟩).z]) ∧ Below w.heap.size w w' := by
  go_enter Try.func23, Try.ntmps23
  go_wp2
  exact bodyPost_ret (v := .agg #[.int .i64 (minus3 ⟨x, y, z⟩ ⟨a, b, c⟩).x, .int .i64 (minus3 ⟨x, y, z⟩ ⟨a, b, c⟩).y, .int .i64 (minus3 ⟨x, y, z⟩ ⟨a, b, c⟩).z]) (by simp [results, Try.results23, go_sem, minus3]) rfl ⟨rfl, (by repeat (first | exact Below.refl _ _ | refine Below.setCell ?_ (by simp <;> omega) _ | refine Below.alloc ?_ (by simp <;> omega) _ | refine Below.drew ?_))⟩
set_option maxHeartbeats 1000000 in
theorem rdot_calls (x y z a b c : Int) (w : World) :
    Calls Try.prog 24 #[.agg #[.int .i64 x, .int .i64 y, .int .i64 z], .agg #[.int .i64 a, .int .i64 b, .int .i64 c]] w fun e w' => e = .returned (.int .i64 (dot3 ⟨x, y, z⟩ ⟨a, b, c⟩)) ∧ Below w.heap.size w w' := by
  go_enter Try.func24, Try.ntmps24
  go_wp2
  go_ret
  exact ⟨by simp [dot3, wrap64, go_sem], (by repeat (first | exact Below.refl _ _ | refine Below.setCell ?_ (by simp <;> omega) _ | refine Below.alloc ?_ (by simp <;> omega) _ | refine Below.drew ?_))⟩

/-- a core: what a value speaks of in this world -/
structure CoreV (w : World) (v : Value) (p a e : List P3) (r : Int) : Prop where
  out : ∃ A0 A1 A2 c0 c1 c2, v = .agg #[.slice A0 p.length c0, .slice A1 a.length c1, .slice A2 e.length c2, .int .i64 r] ∧ RdB w A0 p ∧ RdB w A1 a ∧ RdB w A2 e ∧ p.length ≤ c0 ∧ a.length ≤ c1 ∧ e.length ≤ c2
theorem RdB.below {w w1 : World} {A l} (h : RdB w A l) (hb : Below w.heap.size w w1) : RdB w1 A l := ⟨h.1.below hb, fun ad e => Nat.lt_of_lt_of_le (h.2 ad e) hb.size⟩
theorem RdB.nil (w : World) : RdB w none [] := ⟨Rd.nil _ _, fun _ e => by cases e⟩
theorem CoreV.below {w w1 : World} {v p a e r} (h : CoreV w v p a e r) (hb : Below w.heap.size w w1) : CoreV w1 v p a e r := by
  obtain ⟨A0, A1, A2, c0, c1, c2, e1, h0, h1, h2, h3⟩ := h.out
  exact ⟨A0, A1, A2, c0, c1, c2, e1, h0.below hb, h1.below hb, h2.below hb, h3⟩
/-- may this be one? -/
structure MayP (p a e : List P3) (r : Int) : Prop where
  p0 : p ≠ []
  p1 : p.length ≤ 32
  a1 : a.length ≤ 128
  e1 : e.length ≤ 128
  r0 : 0 ≤ r
  r1 : r ≤ 65536
  pf : p.any (far3 16777216) = false
  af : a.any (far3 1048576) = false
  ef : e.any (far3 1048576) = false
/-- the answer for two that may be -/
def apartF (p a e : List P3) (r : Int) (q b f : List P3) (s : Int) : P3 × Int :=
  (apF (p.headD ⟨0, 0, 0⟩) p.tail r (q.headD ⟨0, 0, 0⟩) q.tail s (rawC p a e q b f)).1
theorem apart_calls (p a e : List P3) (r : Int) (q b f : List P3) (s : Int) (v u : Value) (w : World) (hv : CoreV w v p a e r) (hu : CoreV w u q b f s) (m : MayP p a e r) (k : MayP q b f s) (R : P3 × Int) (hR : apartF p a e r q b f s = R) :
    Calls Try.prog 20 #[v, u] w fun e w' => e = .returned (.tuple #[.agg #[.int .i64 R.1.x, .int .i64 R.1.y, .int .i64 R.1.z, .int .i64 R.2], .bool true]) ∧ Below w.heap.size w w' := by
  obtain ⟨A0, A1, A2, c0, c1, c2, rfl, h0, h1, h2, h3, h4, h5⟩ := hv.out
  obtain ⟨B0, B1, B2, d0, d1, d2, rfl, g0, g1, g2, g3, g4, g5⟩ := hu.out
  obtain ⟨p0, pr, rfl⟩ := List.exists_cons_of_ne_nil m.p0
  obtain ⟨q0, qr, rfl⟩ := List.exists_cons_of_ne_nil k.p0
  subst hR
  exact (callsIn_wide (n := 20)).1 (apart_in 20 (by decide) p0 pr a e r q0 qr b f s A0 A1 A2 B0 B1 B2 c0 c1 c2 d0 d1 d2 w h0 h1 h2 g0 g1 g2 (by simpa using h3) h4 h5 (by simpa using g3) g4 g5 (by simpa using m.p1) m.a1 m.e1 (by simpa using k.p1) k.a1 k.e1 m.r0 m.r1 k.r0 k.r1 m.pf k.pf m.af k.af m.ef k.ef _ rfl)
theorem Rd_one {w : World} {g : Nat} {x y z : Int} {t : TypeId} (h : w.heap[g]? = some (.cells #[.int .i64 x, .int .i64 y, .int .i64 z] t (0, 0))) : RdB w (some ⟨g, 0, none⟩) [⟨x, y, z⟩] :=
  ⟨fun i p hp => by
    match i with
    | 0 =>
      simp at hp
      subst hp
      exact ⟨g, 0, rfl, blk_lt h, (blk_cell h 0).trans rfl, (blk_cell h 1).trans rfl, (blk_cell h 2).trans rfl⟩
    | i + 1 => simp at hp, fun ad e => by cases e; exact blk_lt h⟩
end Go.Proofs.Ytckdhahceelckaa.G
