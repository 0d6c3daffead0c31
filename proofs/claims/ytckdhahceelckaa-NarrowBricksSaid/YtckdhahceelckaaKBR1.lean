/- What the laws of this claim lean on: contracts of the functions that they reach, and plain lemmas; no condition of its own (part 1 of 1; the texts XM4, XM5, XG17, XM6, XM7). -/
import Derived.Test.YtckdhahceelckaaKM2
namespace Go.Proofs.Ytckdhahceelckaa.G
open Go.RowKit Go.Proofs.YtckdhahceelckaaW.PrintWords Go.Proofs.YtckdhahceelckaaW.PrintLast Go.Proofs.YtckdhahceelckaaW.PrintMore
attribute [local go_sem] max2_mx min2_mn max_two min_two max_three min_three max_four min_four
attribute [local go_sem high] eqA23
set_option linter.unusedVariables false
set_option linter.unusedSimpArgs false
/-- half sizes of NarrowBricks -/
def hb_ (h : P3) : Prop := 1 ≤ h.x ∧ h.x ≤ 1000 ∧ 1 ≤ h.y ∧ h.y ≤ 1000 ∧ 1 ≤ h.z ∧ h.z ≤ 1000
set_option maxHeartbeats 2000000 in
set_option maxRecDepth 100000 in
theorem sbeyond_calls (h : P3) (hh : hb_ h) (w : World) :
    Calls Try.prog 123 #[aP h, .int .i64 65536] w fun e w' => e = .returned (.bool false) ∧ Below w.heap.size w w' := by
  obtain ⟨x1, x2, y1, y2, z1, z2⟩ := hh
  obtain ⟨hx, hy, hz⟩ := h
  simp only at x1 x2 y1 y2 z1 z2
  obtain ⟨a1, a2, a3⟩ := mx_facts hx hy
  obtain ⟨c1, c2, c3⟩ := mn_facts hx hy
  obtain ⟨b1, b2, b3⟩ := mx_facts (mx hx hy) hz
  obtain ⟨d1, d2, d3⟩ := mn_facts (mn hx hy) hz
  have t1 : decide (65536 < mx (mx hx hy) hz) = false := by simp; omega
  have t2 : decide (mn (mn hx hy) hz < -65536) = false := by simp; omega
  go_enter Try.func123, Try.ntmps123
  go_wp2
  go_ret
  exact ⟨rfl, (Below.refl _ w).alloc (Nat.le_refl _) _⟩
theorem swithin_calls (a b c : Int) (w : World) (h1 : b ≤ a) (h2 : a ≤ c) :
    Calls Try.prog 132 #[.int .i64 a, .int .i64 b, .int .i64 c] w fun e w' => e = .returned (.bool true) ∧ w' = w := by
  have t1 : decide (b ≤ a) = true := by simpa using h1
  have t2 : decide (a ≤ c) = true := by simpa using h2
  go_enter Try.func132, Try.ntmps132
  go_wp2
  go_ret
  exact ⟨rfl, rfl⟩
set_option maxHeartbeats 2000000 in
set_option maxRecDepth 100000 in
theorem scheck_calls (h : P3) (hh : hb_ h) (w : World) :
    Calls Try.prog 88 #[.agg (cS 3 0 h none 0 0)] w fun e w' => e = .returned (.int .i64 0) ∧ Below w.heap.size w w' := by
  have HB := Lib.hid (sbeyond_calls h hh)
  obtain ⟨x1, x2, y1, y2, z1, z2⟩ := hh
  obtain ⟨hx, hy, hz⟩ := h
  simp only at x1 x2 y1 y2 z1 z2
  obtain ⟨c1, c2, c3⟩ := mn_facts hx hy
  obtain ⟨d1, d2, d3⟩ := mn_facts (mn hx hy) hz
  have t1 : decide (0 < mn (mn hx hy) hz) = true := by simp; omega
  go_enter Try.func88, Try.ntmps88
  go_wp2_with fail
  refine (HB.out _).mono ?_
  rintro en w1 ⟨rfl, hb⟩
  have C1 := (hb.block _ (by simp)).trans (heap_alloc_new w (.cells (cS 3 0 ⟨hx, hy, hz⟩ none 0 0) 78))
  have W1 := Lib.hid (bthen ((Below.refl _ w).alloc (Nat.le_refl _) (.cells (cS 3 0 ⟨hx, hy, hz⟩ none 0 0) 78)) hb)
  have q0 : w1.cell? ⟨w.heap.size, 0, none⟩ = some (.int .i64 3) := (blk_cell C1 0).trans rfl
  have q1 : w1.cell? ⟨w.heap.size, 1, none⟩ = some (.int .i64 0) := (blk_cell C1 1).trans rfl
  clear hb C1 HB t1
  go_wp2_with fail
  refine (swithin_calls 0 0 16384 _ (by decide) (by decide)).mono ?_
  rintro en w2 ⟨rfl, rfl⟩
  go_wp2
  go_ret
  exact ⟨rfl, W1.out⟩
end Go.Proofs.Ytckdhahceelckaa.G
namespace Go.Proofs.Ytckdhahceelckaa.G
open Go.RowKit Go.Proofs.YtckdhahceelckaaW.PrintWords Go.Proofs.YtckdhahceelckaaW.PrintLast Go.Proofs.YtckdhahceelckaaW.PrintMore
attribute [local go_sem] max2_mx min2_mn max_two min_two max_three min_three max_four min_four
attribute [local go_sem high] eqA23
set_option linter.unusedVariables false
set_option linter.unusedSimpArgs false
theorem CSt.set {w1 W : World} {v : Value} {l : List P3} {keep : List Nat} (h : CSt w1 W v l keep) {g : Nat} (hm : g ∈ keep) (hg : w1.heap.size ≤ g) (j : Nat) (u : Value) : CSt w1 (W.setCell ⟨g, j, none⟩ u) v l keep :=
  ⟨own_setCell h.own (fun e => (h.ne g hm).1 e.symm) u, h.below.setCell (p := ⟨g, j, none⟩) hg u, fun k hk => ⟨(h.ne k hk).1, by simpa using (h.ne k hk).2⟩⟩
abbrev axes3 : List P3 := [⟨1, 0, 0⟩, ⟨0, 1, 0⟩, ⟨0, 0, 1⟩]
theorem corners_two (h : P3) (k j : Nat) (hk : k < 2) (hj : j < 2) : (corners h).take (4 * k + 2 * (j + 1)) = (corners h).take (4 * k + 2 * j) ++ [⟨((k : Int) * 2 - 1) * h.x, ((j : Int) * 2 - 1) * h.y, -h.z⟩, ⟨((k : Int) * 2 - 1) * h.x, ((j : Int) * 2 - 1) * h.y, h.z⟩] := by
  rw [show 4 * k + 2 * (j + 1) = 4 * k + 2 * j + 1 + 1 by omega, corners_take _ _ (by omega), corners_take _ _ (by omega)]
  simp only [List.append_assoc, List.cons_append, List.nil_append]
  congr 1
  unfold corner
  have e1 : (4 * k + 2 * j) / 4 = k := by omega
  have e2 : (4 * k + 2 * j) / 2 % 2 = j := by omega
  have e3 : (4 * k + 2 * j) % 2 = 0 := by omega
  have e4 : (4 * k + 2 * j + 1) / 4 = k := by omega
  have e5 : (4 * k + 2 * j + 1) / 2 % 2 = j := by omega
  have e6 : (4 * k + 2 * j + 1) % 2 = 1 := by omega
  rw [e1, e2, e3, e4, e5, e6]
  simp only [List.cons.injEq, P3.mk.injEq, and_true, true_and]
  omega
theorem pair_at {W : World} {g : Nat} {x : Int} {t : TypeId} (h : W.heap[g]? = some (.cells #[.int .i64 (-x), .int .i64 x] t (0, 0))) (k : Nat) (hk : k < 2) : W.cell? ⟨g, k, none⟩ = some (.int .i64 (((k : Int) * 2 - 1) * x)) := by
  have hc : k = 0 ∨ k = 1 := by omega
  rcases hc with rfl | rfl
  · refine ((blk_cell h 0).trans rfl).trans ?_
    simp
  · refine ((blk_cell h 1).trans rfl).trans ?_
    simp
set_option maxHeartbeats 8000000 in
set_option maxRecDepth 100000 in
theorem score_calls (h : P3) (hh : hb_ h) (w : World) :
    Calls Try.prog 47 #[.agg (cS 3 0 h none 0 0)] w fun en w' => ∃ v, en = .returned (.tuple #[v, .int .i64 0]) ∧ CoreV w' v (corners h) axes3 axes3 0 ∧ Below w.heap.size w w' := by
  have HC := Lib.hid (scheck_calls h hh)
  have HT := Lib.hid (corners_two h)
  have HLN : Hid ((corners h).length = 8) := Lib.hid (by unfold corners; simp)
  obtain ⟨x1, x2, y1, y2, z1, z2⟩ := hh
  obtain ⟨hx, hy, hz⟩ := h
  simp only at x1 x2 y1 y2 z1 z2 HT
  obtain ⟨L, hL⟩ : ∃ L, corners ⟨hx, hy, hz⟩ = L := ⟨_, rfl⟩
  rw [hL] at HT HLN ⊢
  clear hL
  go_enter Try.func47, Try.ntmps47
  go_wp2_with fail
  have z0 := (Below.heap_alloc (w.alloc (.cells (cS 3 0 ⟨hx, hy, hz⟩ none 0 0) 78)) (.cells #[.slice none 0 0, .slice none 0 0, .slice none 0 0, .int .i64 0] 36) _ (by simp)).trans (heap_alloc_new w (.cells (cS 3 0 ⟨hx, hy, hz⟩ none 0 0) 78))
  have z1_ := heap_alloc_new (w.alloc (.cells (cS 3 0 ⟨hx, hy, hz⟩ none 0 0) 78)) (.cells #[.slice none 0 0, .slice none 0 0, .slice none 0 0, .int .i64 0] 36)
  rw [World.size_alloc] at z1_
  have zb := ((Below.refl _ w).alloc (Nat.le_refl _) (.cells (cS 3 0 ⟨hx, hy, hz⟩ none 0 0) 78)).alloc (by simp) (.cells #[.slice none 0 0, .slice none 0 0, .slice none 0 0, .int .i64 0] 36)
  refine (HC.out _).mono ?_
  rintro en w1 ⟨rfl, hb⟩
  have C1 := Lib.hid ((hb.block _ (blk_lt z0)).trans z0)
  have R1 := Lib.hid ((hb.block _ (blk_lt z1_)).trans z1_)
  have W1 := Lib.hid (bthen zb hb)
  clear hb z0 z1_ zb HC
  obtain ⟨OUT, hOUT⟩ : ∃ g, w1.heap.size = g := ⟨_, rfl⟩
  have b2 := (Below.refl w1.heap.size w1).alloc (Nat.le_refl _) (.cells #[.slice none 0 0, .slice none 0 0, .slice none 0 0, .int .i64 0] 36)
  have o2 := heap_alloc_new w1 (.cells #[.slice none 0 0, .slice none 0 0, .slice none 0 0, .int .i64 0] 36)
  have s2 := (CSt.start w1).more b2 (Nat.le_refl _) (blk_lt o2)
  have b3 := (Below.refl (w1.alloc (.cells #[.slice none 0 0, .slice none 0 0, .slice none 0 0, .int .i64 0] 36)).heap.size (w1.alloc (.cells #[.slice none 0 0, .slice none 0 0, .slice none 0 0, .int .i64 0] 36))).alloc (Nat.le_refl _) (.cells #[.int .i64 (-hx), .int .i64 hx] 3)
  have o3 := (b3.block _ (blk_lt o2)).trans o2
  have x3 := heap_alloc_new (w1.alloc (.cells #[.slice none 0 0, .slice none 0 0, .slice none 0 0, .int .i64 0] 36)) (.cells #[.int .i64 (-hx), .int .i64 hx] 3)
  have s3 := s2.more b3 (Nat.le_refl _) (blk_lt x3)
  rw [World.size_alloc] at x3 s3
  obtain ⟨w3, hw3⟩ : ∃ V, (w1.alloc (.cells #[.slice none 0 0, .slice none 0 0, .slice none 0 0, .int .i64 0] 36)).alloc (.cells #[.int .i64 (-hx), .int .i64 hx] 3) = V := ⟨_, rfl⟩
  rw [hw3] at o3 x3 s3
  rw [hOUT] at o3 x3 s3
  have S3 := Lib.hid s3
  have O3 := Lib.hid o3
  have X3 := Lib.hid x3
  have hw3' := Lib.hid hw3
  have hO := Lib.hid hOUT
  clear b2 o2 s2 b3 o3 x3 s3 hw3 hOUT
  have c0 : w1.cell? ⟨w.heap.size, 0, none⟩ = some (.int .i64 3) := (blk_cell C1.out 0).trans rfl
  have c1 : w1.cell? ⟨w.heap.size, 1, none⟩ = some (.int .i64 0) := (blk_cell C1.out 1).trans rfl
  have c2 : w1.cell? ⟨w.heap.size, 2, none⟩ = some (.int .i64 hx) := (blk_cell C1.out 2).trans rfl
  have l0 : w.heap.size < w1.heap.size := blk_lt C1.out
  go_wp2_with fail
  rw [hw3'.out, hO.out]
  clear c0 c1 c2 l0 hw3'
  go_loopw [53] (fun v53 wr => ∃ (k : Nat) (v : Value), k ≤ 2 ∧ v53 = .int .i64 k ∧ Hid (CSt w1 wr v (L.take (4 * k)) [OUT + 1, OUT]) ∧ Hid (wr.heap[OUT]? = some (.cells #[v, .slice none 0 0, .slice none 0 0, .int .i64 0] 36 (0, 0))) ∧ Hid (wr.heap[OUT + 1]? = some (.cells #[.int .i64 (-hx), .int .i64 hx] 3 (0, 0)))) (fun i _ => 2 - (intOf i).toNat)
  case atStart => exact ⟨0, .slice none 0 0, by omega, rfl, S3, O3, X3⟩
  case round =>
    obtain ⟨k, v, hk, rfl, hS, hO_, hX⟩ := hrel
    clear S3 O3 X3
    by_cases hlt : k < 2
    · have C2 := Lib.hid (hS.out.old C1.out)
      have d3 : wr.cell? ⟨w.heap.size, 3, none⟩ = some (.int .i64 hy) := (blk_cell C2.out 3).trans rfl
      have l0 : w.heap.size < wr.heap.size := blk_lt C2.out
      have xk := pair_at hX.out k hlt
      obtain ⟨sx, hsx⟩ : ∃ x, ((k : Int) * 2 - 1) * hx = x := ⟨_, rfl⟩
      rw [hsx] at xk
      have tk : (k : Int) < 2 := by omega
      have lX : OUT + 1 < wr.heap.size := blk_lt hX.out
      have b4 := (Below.refl wr.heap.size wr).alloc (Nat.le_refl _) (.cells #[.int .i64 (-hy), .int .i64 hy] 3)
      have y4 := heap_alloc_new wr (.cells #[.int .i64 (-hy), .int .i64 hy] 3)
      have s4 := hS.out.more b4 (Nat.le_refl _) (blk_lt y4)
      have o4 := (b4.block _ (blk_lt hO_.out)).trans hO_.out
      have x4 := (b4.block _ (blk_lt hX.out)).trans hX.out
      obtain ⟨YB, hYB⟩ : ∃ g, wr.heap.size = g := ⟨_, rfl⟩
      obtain ⟨w4, hw4⟩ : ∃ V, wr.alloc (.cells #[.int .i64 (-hy), .int .i64 hy] 3) = V := ⟨_, rfl⟩
      rw [hw4] at y4 s4 o4 x4
      rw [hYB] at y4 s4
      have Y4 := Lib.hid y4
      have S4 := Lib.hid s4
      have O4 := Lib.hid o4
      have X4 := Lib.hid x4
      have hw4' := Lib.hid hw4
      have hYB' := Lib.hid hYB
      have hsx' := Lib.hid hsx
      clear b4 y4 s4 o4 x4 hYB hw4 hsx
      go_wp2_with fail
      rw [hw4'.out, hYB'.out]
      clear d3 l0 xk lX hw4' hYB' C2
      go_loopw [66] (fun v66 wr => ∃ (j : Nat) (v : Value), j ≤ 2 ∧ v66 = .int .i64 j ∧ Hid (CSt w1 wr v (L.take (4 * k + 2 * j)) [YB, OUT + 1, OUT]) ∧ Hid (wr.heap[OUT]? = some (.cells #[v, .slice none 0 0, .slice none 0 0, .int .i64 0] 36 (0, 0))) ∧ Hid (wr.heap[OUT + 1]? = some (.cells #[.int .i64 (-hx), .int .i64 hx] 3 (0, 0))) ∧ Hid (wr.heap[YB]? = some (.cells #[.int .i64 (-hy), .int .i64 hy] 3 (0, 0)))) (fun i _ => 2 - (intOf i).toNat)
      case atStart => exact ⟨0, v, by omega, rfl, S4, O4, X4, Y4⟩
      case round =>
        clear S4 O4 X4 Y4 hS hO_ hX
        obtain ⟨j, v, hj, rfl, hS, hO_, hX, hY⟩ := hrel
        obtain ⟨wq, hwq⟩ : ∃ x : World, x = wr := ⟨_, rfl⟩
        subst hwq
        have lO : w1.heap.size ≤ OUT := Nat.le_of_eq hO.out
        by_cases hlj : j < 2
        · have C3 := Lib.hid (hS.out.old C1.out)
          have d4 : wq.cell? ⟨w.heap.size, 4, none⟩ = some (.int .i64 hz) := (blk_cell C3.out 4).trans rfl
          have l0 : w.heap.size < wq.heap.size := blk_lt C3.out
          have yj := pair_at hY.out j hlj
          obtain ⟨sy, hsy⟩ : ∃ x, ((j : Int) * 2 - 1) * hy = x := ⟨_, rfl⟩
          rw [hsy] at yj
          have HTj := Lib.hid (HT.out k j hlt hlj)
          rw [hsx'.out, hsy] at HTj
          obtain ⟨LL, hLL⟩ : ∃ l, L.take (4 * k + 2 * j) = l := ⟨_, rfl⟩
          have hlen : LL.length ≤ 8 := by rw [← hLL, ← HLN.out]; exact List.length_take_le' _ _
          rw [hLL] at hS HTj
          have tj : (j : Int) < 2 := by omega
          have o0 : wq.cell? ⟨OUT, 0, none⟩ = some v := (blk_cell hO_.out 0).trans rfl
          have lO2 : OUT < wq.heap.size := blk_lt hO_.out
          have b5 := (Below.refl wq.heap.size wq).alloc (Nat.le_refl _) (.cells #[.int .i64 sx, .int .i64 sy, .int .i64 (-hz), .int .i64 sx, .int .i64 sy, .int .i64 hz] 23)
          have r5 := Rd_pair (p := ⟨sx, sy, -hz⟩) (q := ⟨sx, sy, hz⟩) (heap_alloc_new wq (.cells #[.int .i64 sx, .int .i64 sy, .int .i64 (-hz), .int .i64 sx, .int .i64 sy, .int .i64 hz] 23))
          have S5 := Lib.hid (hS.out.grown b5)
          have O5 := Lib.hid ((b5.block _ (blk_lt hO_.out)).trans hO_.out)
          have X5 := Lib.hid ((b5.block _ (blk_lt hX.out)).trans hX.out)
          have Y5 := Lib.hid ((b5.block _ (blk_lt hY.out)).trans hY.out)
          have R5 := Lib.hid r5
          have lY : YB < wq.heap.size := blk_lt hY.out
          clear b5 r5 hsy hLL C3
          go_wp2_with (at_builtin; refine appL_ w1.heap.size rfl _ _ rfl _ LL [⟨sx, sy, -hz⟩, ⟨sx, sy, hz⟩] _ _ _ rfl rfl S5.out.own R5.out.1 rfl (by simp; omega) S5.out.below.size ?_; intro v2 w6 hv hg hat; obtain ⟨Av, nv, cv, hvv⟩ : ∃ A n c, v2 = .slice A n c := (by obtain ⟨A, c, h, _⟩ := OwnP.rd hv; exact ⟨A, _, c, h⟩); subst hvv; have S6 := Lib.hid (S5.out.app hv hg hat); have O6 := Lib.hid (S5.out.blk hg (by simp) O5.out); have X6 := Lib.hid (S5.out.blk hg (by simp) X5.out); have Y6 := Lib.hid (S5.out.blk hg (by simp) Y5.out); have u0 : w6.cell? ⟨OUT, 0, none⟩ = some v := (blk_cell O6.out 0).trans rfl; have u1 : w6.frozen? ⟨OUT, 0, none⟩ = false := blk_frozen O6.out 0; have lO6 : OUT < w6.heap.size := blk_lt O6.out; have nXO : Hid (OUT + 1 ≠ OUT ∧ YB ≠ OUT) := Lib.hid ⟨by omega, fun e => by have a := O6.out; rw [← e, Y6.out] at a; simp at a⟩; clear hv hg hat)
          go_roundw
          case rel => exact ⟨j + 1, .slice Av nv cv, by omega, by go_num, Lib.hid ((S6.out.set (by simp) lO 0 _).len HTj.out.symm), Lib.hid (blk40 O6.out (.slice Av nv cv)), Lib.hid ((Below.heap_setCell _ _ _ _ nXO.out.1).trans X6.out), Lib.hid ((Below.heap_setCell _ _ _ _ nXO.out.2).trans Y6.out)⟩
          case measure => simp [intOf]; omega
        · obtain rfl : j = 2 := by omega
          go_wp2
          go_roundw
          case rel => exact ⟨k + 1, v, by omega, by go_num, Lib.hid (hS.out.less.len (by rw [show 4 * k + 2 * 2 = 4 * (k + 1) by omega])), hO_, hX⟩
          case measure => simp [intOf]; omega
    · obtain rfl : k = 2 := by omega
      have hfull : L.take (4 * 2) = L := List.take_of_length_le (by rw [HLN.out]; decide)
      rw [hfull] at hS
      have hne := (hS.out.ne OUT (by simp)).1
      have hbl := hS.out.below
      have R2 := hS.out.old R1.out
      obtain ⟨Ap, cp, hvp, hlp, hrp, hbp⟩ := hS.out.own.rdB2
      subst hvp
      have lOp : Hid (∀ ad, Ap = some ad → ad.block ≠ OUT) := Lib.hid (fun ad e h => hne (by rw [e, ← h]; rfl))
      obtain ⟨nP, hnP⟩ : ∃ n, L.length = n := ⟨_, rfl⟩
      rw [hnP] at hO_ hlp
      have hnP' := Lib.hid hnP
      have lO : w1.heap.size ≤ OUT := Nat.le_of_eq hO.out
      have W2 := (W1.out.trans (hbl.mono W1.out.size))
      have lOr : OUT < wr.heap.size := blk_lt hO_.out
      have lR1 : w.heap.size + 1 < w1.heap.size := blk_lt R1.out
      have nR : w.heap.size + 1 ≠ OUT := by omega
      obtain ⟨AX, hAX⟩ : ∃ g, wr.heap.size = g := ⟨_, rfl⟩
      have lAX : AX ≠ OUT := by omega
      have O7 := blk41 hO_.out (.slice (some ⟨AX, 0, none⟩) 3 3)
      have R7 := (Below.heap_setCell wr ⟨OUT, 1, none⟩ (.slice (some ⟨AX, 0, none⟩) 3 3) (w.heap.size + 1) nR).trans R2
      have p7 := hrp.setc lOp.out 1 (.slice (some ⟨AX, 0, none⟩) 3 3)
      have W7 := W2.setCell (p := ⟨OUT, 1, none⟩) (show w.heap.size ≤ OUT by omega) (.slice (some ⟨AX, 0, none⟩) 3 3)
      have sz7 : (wr.setCell ⟨OUT, 1, none⟩ (.slice (some ⟨AX, 0, none⟩) 3 3)).heap.size = AX := by rw [World.size_setCell]; exact hAX
      obtain ⟨w7, hw7⟩ : ∃ V, wr.setCell ⟨OUT, 1, none⟩ (.slice (some ⟨AX, 0, none⟩) 3 3) = V := ⟨_, rfl⟩
      rw [hw7] at O7 R7 p7 W7 sz7
      have b7 := (Below.refl w7.heap.size w7).alloc (Nat.le_refl _) (.cells #[.int .i64 1, .int .i64 0, .int .i64 0, .int .i64 0, .int .i64 1, .int .i64 0, .int .i64 0, .int .i64 0, .int .i64 1] 23)
      have a8 := Rd_three (p := ⟨1, 0, 0⟩) (q := ⟨0, 1, 0⟩) (r := ⟨0, 0, 1⟩) (heap_alloc_new w7 (.cells #[.int .i64 1, .int .i64 0, .int .i64 0, .int .i64 0, .int .i64 1, .int .i64 0, .int .i64 0, .int .i64 0, .int .i64 1] 23))
      have O8 := (b7.block _ (blk_lt O7)).trans O7
      have R8 := (b7.block _ (blk_lt R7)).trans R7
      have p8 := p7.below b7
      have W8 := bthen W7 b7
      obtain ⟨w8, hw8⟩ : ∃ V, w7.alloc (.cells #[.int .i64 1, .int .i64 0, .int .i64 0, .int .i64 0, .int .i64 1, .int .i64 0, .int .i64 0, .int .i64 0, .int .i64 1] 23) = V := ⟨_, rfl⟩
      rw [hw8] at O8 R8 p8 a8 W8
      rw [sz7] at a8
      have HCL := Lib.hid (clone_calls axes3 3 (some ⟨AX, 0, none⟩) 3 w8 rfl a8.1 (by decide))
      have O8 := Lib.hid O8
      have R8 := Lib.hid R8
      have p8 := Lib.hid p8
      have a8 := Lib.hid a8
      have W8 := Lib.hid W8
      have g0 : wr.cell? ⟨OUT, 1, none⟩ = some (.slice none 0 0) := (blk_cell hO_.out 1).trans rfl
      have g1 : wr.frozen? ⟨OUT, 1, none⟩ = false := blk_frozen hO_.out 1
      have hw7' := Lib.hid hw7
      have hw8' := Lib.hid hw8
      have hAX' := Lib.hid hAX
      have lAX' := Lib.hid lAX
      have nR' := Lib.hid nR
      have hlp' := Lib.hid hlp
      clear b7 O7 R7 p7 W7 sz7 hw7 hw8 hAX hS hX hbl R2 hrp hbp hne hnP W2 lAX nR hlp
      go_wp2_with fail
      rw [hAX'.out, hw7'.out, hw8'.out]
      refine HCL.out.mono ?_
      rintro en w9 ⟨A9, c9, rfl, hlc, hrd, hb, hbs⟩
      have e3 : axes3.length = 3 := rfl
      rw [e3] at hlc ⊢
      have O9 := (hb.block _ (blk_lt O8.out)).trans O8.out
      have R9 := (hb.block _ (blk_lt R8.out)).trans R8.out
      have p9 := p8.out.below hb
      have a9 := a8.out.below hb
      have W9 := bthen W8.out hb
      have lO9 : OUT < w9.heap.size := blk_lt O9
      have lE : ∀ ad, A9 = some ad → ad.block ≠ OUT := fun ad e h => by have := hbs ad e; have := blk_lt O8.out; omega
      have g2 : w9.cell? ⟨OUT, 2, none⟩ = some (.slice none 0 0) := (blk_cell O9 2).trans rfl
      have g3 : w9.frozen? ⟨OUT, 2, none⟩ = false := blk_frozen O9 2
      have T6 := blk42 O9 (.slice A9 3 c9)
      have R10 := (Below.heap_setCell w9 ⟨OUT, 2, none⟩ (.slice A9 3 c9) (w.heap.size + 1) nR'.out).trans R9
      have p10 := p9.setc lOp.out 2 (.slice A9 3 c9)
      have a10 := a9.setc (fun ad e h => by cases e; exact lAX'.out h) 2 (.slice A9 3 c9)
      have e10 := hrd.setc lE 2 (.slice A9 3 c9)
      have W10 := W9.setCell (p := ⟨OUT, 2, none⟩) (show w.heap.size ≤ OUT by omega) (.slice A9 3 c9)
      obtain ⟨wA, hwA⟩ : ∃ V, w9.setCell ⟨OUT, 2, none⟩ (.slice A9 3 c9) = V := ⟨_, rfl⟩
      rw [hwA] at T6 R10 p10 a10 e10 W10
      have v0 : wA.cell? ⟨OUT, 0, none⟩ = some (.slice Ap nP cp) := (blk_cell T6 0).trans rfl
      have v1 : wA.cell? ⟨OUT, 1, none⟩ = some (.slice (some ⟨AX, 0, none⟩) 3 3) := (blk_cell T6 1).trans rfl
      have v2 : wA.cell? ⟨OUT, 2, none⟩ = some (.slice A9 3 c9) := (blk_cell T6 2).trans rfl
      have v3 : wA.cell? ⟨OUT, 3, none⟩ = some (.int .i64 0) := (blk_cell T6 3).trans rfl
      have r0 : wA.cell? ⟨w.heap.size + 1, 0, none⟩ = some (.slice none 0 0) := (blk_cell R10 0).trans rfl
      have r1 : wA.cell? ⟨w.heap.size + 1, 1, none⟩ = some (.slice none 0 0) := (blk_cell R10 1).trans rfl
      have r2 : wA.cell? ⟨w.heap.size + 1, 2, none⟩ = some (.slice none 0 0) := (blk_cell R10 2).trans rfl
      have r3 : wA.cell? ⟨w.heap.size + 1, 3, none⟩ = some (.int .i64 0) := (blk_cell R10 3).trans rfl
      have f0 : wA.frozen? ⟨w.heap.size + 1, 0, none⟩ = false := blk_frozen R10 0
      have f1 : wA.frozen? ⟨w.heap.size + 1, 1, none⟩ = false := blk_frozen R10 1
      have f2 : wA.frozen? ⟨w.heap.size + 1, 2, none⟩ = false := blk_frozen R10 2
      have f3 : wA.frozen? ⟨w.heap.size + 1, 3, none⟩ = false := blk_frozen R10 3
      have T7 := bs4 R10 (.slice Ap nP cp) (.slice (some ⟨AX, 0, none⟩) 3 3) (.slice A9 3 c9) (.int .i64 0)
      have HB7 := bb4 W10 (show w.heap.size ≤ w.heap.size + 1 by omega) (.slice Ap nP cp) (.slice (some ⟨AX, 0, none⟩) 3 3) (.slice A9 3 c9) (.int .i64 0)
      have pB := p10.setS R10 (.slice Ap nP cp) (.slice (some ⟨AX, 0, none⟩) 3 3) (.slice A9 3 c9) (.int .i64 0)
      have aB := a10.setS R10 (.slice Ap nP cp) (.slice (some ⟨AX, 0, none⟩) 3 3) (.slice A9 3 c9) (.int .i64 0)
      have eB := e10.setS R10 (.slice Ap nP cp) (.slice (some ⟨AX, 0, none⟩) 3 3) (.slice A9 3 c9) (.int .i64 0)
      obtain ⟨wB, hwB⟩ : ∃ V, ((((wA.setCell ⟨w.heap.size + 1, 0, none⟩ (.slice Ap nP cp)).setCell ⟨w.heap.size + 1, 1, none⟩ (.slice (some ⟨AX, 0, none⟩) 3 3)).setCell ⟨w.heap.size + 1, 2, none⟩ (.slice A9 3 c9)).setCell ⟨w.heap.size + 1, 3, none⟩ (.int .i64 0)) = V := ⟨_, rfl⟩
      rw [hwB] at T7 HB7 pB aB eB
      have y0 : wB.cell? ⟨w.heap.size + 1, 0, none⟩ = some (.slice Ap nP cp) := (blk_cell T7 0).trans rfl
      have y1 : wB.cell? ⟨w.heap.size + 1, 1, none⟩ = some (.slice (some ⟨AX, 0, none⟩) 3 3) := (blk_cell T7 1).trans rfl
      have y2 : wB.cell? ⟨w.heap.size + 1, 2, none⟩ = some (.slice A9 3 c9) := (blk_cell T7 2).trans rfl
      have y3 : wB.cell? ⟨w.heap.size + 1, 3, none⟩ = some (.int .i64 0) := (blk_cell T7 3).trans rfl
      have HB7 := Lib.hid HB7
      have hv := Lib.hid (show CoreV wB (.agg #[.slice Ap nP cp, .slice (some ⟨AX, 0, none⟩) 3 3, .slice A9 3 c9, .int .i64 0]) L axes3 axes3 0 from ⟨Ap, some ⟨AX, 0, none⟩, A9, cp, 3, c9, by rw [hnP'.out]; rfl, pB, aB, eB, by rw [hnP'.out]; exact hlp'.out, Nat.le_refl _, hlc⟩)
      clear hb hrd hbs hlc O9 R9 p9 a9 W9 T6 R10 p10 a10 e10 W10 T7 pB aB eB lE
      go_wp2
      exact bodyPost_ret (v := .tuple #[.agg #[.slice Ap nP cp, .slice (some ⟨AX, 0, none⟩) 3 3, .slice A9 3 c9, .int .i64 0], .int .i64 0]) (by simp [results, Try.results47, go_sem, y0, y1, y2, y3]) rfl ⟨_, rfl, hv.out, HB7.out⟩
end Go.Proofs.Ytckdhahceelckaa.G
namespace Go.Proofs.Ytckdhahceelckaa.G
open Go.RowKit Go.Proofs.YtckdhahceelckaaW.PrintWords
set_option linter.unusedVariables false
set_option linter.unusedSimpArgs false
theorem reach_two {n p0 : P3} {r : List P3} {lo hi : Int} (h : ∀ p ∈ p0 :: r, dot3 n p = lo ∨ dot3 n p = hi) (hl : lo ≤ hi) (h1 : ∃ p ∈ p0 :: r, dot3 n p = lo) (h2 : ∃ p ∈ p0 :: r, dot3 n p = hi) : reachF n p0 r = (lo, hi) := by
  have gen : ∀ (l : List P3) (s : Int × Int), (∀ p ∈ l, dot3 n p = lo ∨ dot3 n p = hi) → (s.1 = lo ∨ s.1 = hi) → (s.2 = lo ∨ s.2 = hi) → ((l.foldl (rstep n) s).1 = lo ∨ (l.foldl (rstep n) s).1 = hi) ∧ ((l.foldl (rstep n) s).2 = lo ∨ (l.foldl (rstep n) s).2 = hi) := by
    intro l
    induction l with
    | nil => intro s _ a b; exact ⟨a, b⟩
    | cons p l ih =>
      intro s hp a b
      rw [List.foldl_cons]
      have hq := hp p (by simp)
      refine ih _ (fun q hq => hp q (by simp [hq])) ?_ ?_
      · unfold rstep mn; simp only; split <;> omega
      · unfold rstep mx; simp only; split <;> omega
  have h0 := h p0 (by simp)
  have g := gen r (dot3 n p0, dot3 n p0) (fun q hq => h q (by simp [hq])) h0 h0
  obtain ⟨p, hp, e1⟩ := h1
  obtain ⟨q, hq, e2⟩ := h2
  have a := (reach_at n p0 r p hp).1
  have b := (reach_at n p0 r q hq).2
  have c := reachF_le n p0 r
  have e : r.foldl (rstep n) (dot3 n p0, dot3 n p0) = reachF n p0 r := rfl
  rw [e] at g
  generalize reachF n p0 r = s at a b c g
  obtain ⟨u, v⟩ := s
  simp only at a b c g
  simp only [Prod.mk.injEq]
  omega
theorem dblS {p : P3} (h : in3 524288 p) (h0 : p ≠ ⟨0, 0, 0⟩) : dbl3 p = dbl3 (two3 p) := by
  rw [dbl3, dif_neg]
  rintro (h1 | h1)
  · rw [(far3_iff _ _ (by omega) (by omega)).2 h] at h1; cases h1
  · exact h0 h1
theorem dbl_end {p : P3} (h : ¬ in3 524288 p) : dbl3 p = p := by
  rw [dbl3, dif_pos]
  left
  cases hf : far3 524288 p
  · exact absurd ((far3_iff _ _ (by omega) (by omega)).1 hf) h
  · rfl
abbrev E1 : P3 := ⟨1048576, 0, 0⟩
abbrev E2 : P3 := ⟨0, 1048576, 0⟩
abbrev E3 : P3 := ⟨0, 0, 1048576⟩
theorem long_1 : long3 ⟨1, 0, 0⟩ = E1 := by
  have e : short3 ⟨1, 0, 0⟩ = ⟨1, 0, 0⟩ := by
    have b : bare3 ⟨1, 0, 0⟩ = ⟨1, 0, 0⟩ := by unfold bare3 div3 gcd3; simp
    rw [short3_eq _ (by unfold in3; simp) (by simp), b, halve3_id _ (by unfold in3; simp), b]
  have s : ∀ x : Int, 1 ≤ x → x ≤ 524288 → dbl3 ⟨x, 0, 0⟩ = dbl3 ⟨2 * x, 0, 0⟩ := fun x h1 h2 => by
    have := dblS (p := ⟨x, 0, 0⟩) (by unfold in3; simp only; omega) (by simp; omega)
    rw [this]; unfold two3; simp
  unfold long3
  rw [e]
  refine (s 1 (by omega) (by omega)).trans ?_
  refine (s 2 (by omega) (by omega)).trans ?_
  refine (s 4 (by omega) (by omega)).trans ?_
  refine (s 8 (by omega) (by omega)).trans ?_
  refine (s 16 (by omega) (by omega)).trans ?_
  refine (s 32 (by omega) (by omega)).trans ?_
  refine (s 64 (by omega) (by omega)).trans ?_
  refine (s 128 (by omega) (by omega)).trans ?_
  refine (s 256 (by omega) (by omega)).trans ?_
  refine (s 512 (by omega) (by omega)).trans ?_
  refine (s 1024 (by omega) (by omega)).trans ?_
  refine (s 2048 (by omega) (by omega)).trans ?_
  refine (s 4096 (by omega) (by omega)).trans ?_
  refine (s 8192 (by omega) (by omega)).trans ?_
  refine (s 16384 (by omega) (by omega)).trans ?_
  refine (s 32768 (by omega) (by omega)).trans ?_
  refine (s 65536 (by omega) (by omega)).trans ?_
  refine (s 131072 (by omega) (by omega)).trans ?_
  refine (s 262144 (by omega) (by omega)).trans ?_
  refine (s 524288 (by omega) (by omega)).trans ?_
  exact dbl_end (by unfold in3; simp)
theorem long_2 : long3 ⟨0, 1, 0⟩ = E2 := by
  have e : short3 ⟨0, 1, 0⟩ = ⟨0, 1, 0⟩ := by
    have b : bare3 ⟨0, 1, 0⟩ = ⟨0, 1, 0⟩ := by unfold bare3 div3 gcd3; simp
    rw [short3_eq _ (by unfold in3; simp) (by simp), b, halve3_id _ (by unfold in3; simp), b]
  have s : ∀ x : Int, 1 ≤ x → x ≤ 524288 → dbl3 ⟨0, x, 0⟩ = dbl3 ⟨0, 2 * x, 0⟩ := fun x h1 h2 => by
    have := dblS (p := ⟨0, x, 0⟩) (by unfold in3; simp only; omega) (by simp; omega)
    rw [this]; unfold two3; simp
  unfold long3
  rw [e]
  refine (s 1 (by omega) (by omega)).trans ?_
  refine (s 2 (by omega) (by omega)).trans ?_
  refine (s 4 (by omega) (by omega)).trans ?_
  refine (s 8 (by omega) (by omega)).trans ?_
  refine (s 16 (by omega) (by omega)).trans ?_
  refine (s 32 (by omega) (by omega)).trans ?_
  refine (s 64 (by omega) (by omega)).trans ?_
  refine (s 128 (by omega) (by omega)).trans ?_
  refine (s 256 (by omega) (by omega)).trans ?_
  refine (s 512 (by omega) (by omega)).trans ?_
  refine (s 1024 (by omega) (by omega)).trans ?_
  refine (s 2048 (by omega) (by omega)).trans ?_
  refine (s 4096 (by omega) (by omega)).trans ?_
  refine (s 8192 (by omega) (by omega)).trans ?_
  refine (s 16384 (by omega) (by omega)).trans ?_
  refine (s 32768 (by omega) (by omega)).trans ?_
  refine (s 65536 (by omega) (by omega)).trans ?_
  refine (s 131072 (by omega) (by omega)).trans ?_
  refine (s 262144 (by omega) (by omega)).trans ?_
  refine (s 524288 (by omega) (by omega)).trans ?_
  exact dbl_end (by unfold in3; simp)
theorem long_3 : long3 ⟨0, 0, 1⟩ = E3 := by
  have e : short3 ⟨0, 0, 1⟩ = ⟨0, 0, 1⟩ := by
    have b : bare3 ⟨0, 0, 1⟩ = ⟨0, 0, 1⟩ := by unfold bare3 div3 gcd3; simp
    rw [short3_eq _ (by unfold in3; simp) (by simp), b, halve3_id _ (by unfold in3; simp), b]
  have s : ∀ x : Int, 1 ≤ x → x ≤ 524288 → dbl3 ⟨0, 0, x⟩ = dbl3 ⟨0, 0, 2 * x⟩ := fun x h1 h2 => by
    have := dblS (p := ⟨0, 0, x⟩) (by unfold in3; simp only; omega) (by simp; omega)
    rw [this]; unfold two3; simp
  unfold long3
  rw [e]
  refine (s 1 (by omega) (by omega)).trans ?_
  refine (s 2 (by omega) (by omega)).trans ?_
  refine (s 4 (by omega) (by omega)).trans ?_
  refine (s 8 (by omega) (by omega)).trans ?_
  refine (s 16 (by omega) (by omega)).trans ?_
  refine (s 32 (by omega) (by omega)).trans ?_
  refine (s 64 (by omega) (by omega)).trans ?_
  refine (s 128 (by omega) (by omega)).trans ?_
  refine (s 256 (by omega) (by omega)).trans ?_
  refine (s 512 (by omega) (by omega)).trans ?_
  refine (s 1024 (by omega) (by omega)).trans ?_
  refine (s 2048 (by omega) (by omega)).trans ?_
  refine (s 4096 (by omega) (by omega)).trans ?_
  refine (s 8192 (by omega) (by omega)).trans ?_
  refine (s 16384 (by omega) (by omega)).trans ?_
  refine (s 32768 (by omega) (by omega)).trans ?_
  refine (s 65536 (by omega) (by omega)).trans ?_
  refine (s 131072 (by omega) (by omega)).trans ?_
  refine (s 262144 (by omega) (by omega)).trans ?_
  refine (s 524288 (by omega) (by omega)).trans ?_
  exact dbl_end (by unfold in3; simp)
theorem corner_of {h x : P3} (hx : x ∈ corners h) : (x.x = h.x ∨ x.x = -h.x) ∧ (x.y = h.y ∨ x.y = -h.y) ∧ (x.z = h.z ∨ x.z = -h.z) := by
  unfold corners at hx
  obtain ⟨k, hk, rfl⟩ := List.mem_map.1 hx
  have hk := List.mem_range.1 hk
  unfold corner
  simp only
  have a : ((k / 4 : Nat) : Int) = 0 ∨ ((k / 4 : Nat) : Int) = 1 := by omega
  have b : ((k / 2 % 2 : Nat) : Int) = 0 ∨ ((k / 2 % 2 : Nat) : Int) = 1 := by omega
  have c : ((k % 2 : Nat) : Int) = 0 ∨ ((k % 2 : Nat) : Int) = 1 := by omega
  refine ⟨?_, ?_, ?_⟩
  · rcases a with a | a <;> rw [a] <;> simp
  · rcases b with b | b <;> rw [b] <;> simp
  · rcases c with c | c <;> rw [c] <;> simp
theorem corner_ends (h : P3) : ∃ r, corners h = ⟨-h.x, -h.y, -h.z⟩ :: r ∧ (⟨h.x, h.y, h.z⟩ : P3) ∈ corners h := by
  have e : corners h = [corner h 0, corner h 1, corner h 2, corner h 3, corner h 4, corner h 5, corner h 6, corner h 7] := rfl
  have e0 : corner h 0 = ⟨-h.x, -h.y, -h.z⟩ := by unfold corner; simp
  rw [e0] at e
  refine ⟨_, e, ?_⟩
  rw [e]
  have : corner h 7 = ⟨h.x, h.y, h.z⟩ := by unfold corner; simp
  rw [← this]
  simp
theorem corner_in3 {h x : P3} (hh : hb_ h) (hx : x ∈ corners h) : in3 1000 x := by
  obtain ⟨a, b, c⟩ := corner_of hx
  obtain ⟨h1, h2, h3, h4, h5, h6⟩ := hh
  unfold in3; omega
theorem reach_x (h : P3) (hh : hb_ h) {p0 : P3} {r : List P3} (e : corners h = p0 :: r) : reachF E1 p0 r = (-(1048576 * h.x), 1048576 * h.x) := by
  have hd : ∀ p ∈ p0 :: r, dot3 E1 p = 1048576 * p.x := fun p hp => by
    rw [← e] at hp
    have := corner_in3 hh hp
    rw [dot3_eq E1 p 1048576 1000 (by unfold in3; simp) this (by decide)]
    unfold dotI; simp
  have hh' := hh
  obtain ⟨h1, h2, h3, h4, h5, h6⟩ := hh
  obtain ⟨r', e', hl⟩ := corner_ends h
  refine reach_two (fun p hp => ?_) (by omega) ⟨⟨-h.x, -h.y, -h.z⟩, ?_, ?_⟩ ⟨⟨h.x, h.y, h.z⟩, ?_, ?_⟩
  · rw [hd p hp]
    rw [← e] at hp
    obtain ⟨a, b, c⟩ := corner_of hp
    omega
  · rw [← e, e']; simp
  · rw [hd _ (by rw [← e, e']; simp)]; simp only; omega
  · rw [← e]; exact hl
  · rw [hd _ (by rw [← e]; exact hl)]
theorem sizes_x : fl3 E1 = 1048576 ∧ ce3 E1 = 1048576 := by
  have e : dotI E1 E1 = 1099511627776 := by unfold dotI; simp
  have a : fl3 E1 = 1048576 := by
    unfold fl3
    rw [e]
    have := isq_unique (1099511627776 : Int).toNat 1048576 (by decide) (by decide)
    rw [← this]; rfl
  refine ⟨a, ?_⟩
  unfold ce3
  rw [a, e]
  simp
theorem reach_y (h : P3) (hh : hb_ h) {p0 : P3} {r : List P3} (e : corners h = p0 :: r) : reachF E2 p0 r = (-(1048576 * h.y), 1048576 * h.y) := by
  have hd : ∀ p ∈ p0 :: r, dot3 E2 p = 1048576 * p.y := fun p hp => by
    rw [← e] at hp
    have := corner_in3 hh hp
    rw [dot3_eq E2 p 1048576 1000 (by unfold in3; simp) this (by decide)]
    unfold dotI; simp
  have hh' := hh
  obtain ⟨h1, h2, h3, h4, h5, h6⟩ := hh
  obtain ⟨r', e', hl⟩ := corner_ends h
  refine reach_two (fun p hp => ?_) (by omega) ⟨⟨-h.x, -h.y, -h.z⟩, ?_, ?_⟩ ⟨⟨h.x, h.y, h.z⟩, ?_, ?_⟩
  · rw [hd p hp]
    rw [← e] at hp
    obtain ⟨a, b, c⟩ := corner_of hp
    omega
  · rw [← e, e']; simp
  · rw [hd _ (by rw [← e, e']; simp)]; simp only; omega
  · rw [← e]; exact hl
  · rw [hd _ (by rw [← e]; exact hl)]
theorem sizes_y : fl3 E2 = 1048576 ∧ ce3 E2 = 1048576 := by
  have e : dotI E2 E2 = 1099511627776 := by unfold dotI; simp
  have a : fl3 E2 = 1048576 := by
    unfold fl3
    rw [e]
    have := isq_unique (1099511627776 : Int).toNat 1048576 (by decide) (by decide)
    rw [← this]; rfl
  refine ⟨a, ?_⟩
  unfold ce3
  rw [a, e]
  simp
theorem reach_z (h : P3) (hh : hb_ h) {p0 : P3} {r : List P3} (e : corners h = p0 :: r) : reachF E3 p0 r = (-(1048576 * h.z), 1048576 * h.z) := by
  have hd : ∀ p ∈ p0 :: r, dot3 E3 p = 1048576 * p.z := fun p hp => by
    rw [← e] at hp
    have := corner_in3 hh hp
    rw [dot3_eq E3 p 1048576 1000 (by unfold in3; simp) this (by decide)]
    unfold dotI; simp
  have hh' := hh
  obtain ⟨h1, h2, h3, h4, h5, h6⟩ := hh
  obtain ⟨r', e', hl⟩ := corner_ends h
  refine reach_two (fun p hp => ?_) (by omega) ⟨⟨-h.x, -h.y, -h.z⟩, ?_, ?_⟩ ⟨⟨h.x, h.y, h.z⟩, ?_, ?_⟩
  · rw [hd p hp]
    rw [← e] at hp
    obtain ⟨a, b, c⟩ := corner_of hp
    omega
  · rw [← e, e']; simp
  · rw [hd _ (by rw [← e, e']; simp)]; simp only; omega
  · rw [← e]; exact hl
  · rw [hd _ (by rw [← e]; exact hl)]
theorem sizes_z : fl3 E3 = 1048576 ∧ ce3 E3 = 1048576 := by
  have e : dotI E3 E3 = 1099511627776 := by unfold dotI; simp
  have a : fl3 E3 = 1048576 := by
    unfold fl3
    rw [e]
    have := isq_unique (1099511627776 : Int).toNat 1048576 (by decide) (by decide)
    rw [← this]; rfl
  refine ⟨a, ?_⟩
  unfold ce3
  rw [a, e]
  simp
theorem gaps_x {p q d : P3} (hp : hb_ p) (hq : hb_ q) (hd : in3 3000 d) {p0 q0 : P3} {pr qr : List P3} (ep : corners p = p0 :: pr) (eq : corners q = q0 :: qr) : gapsF E1 p0 pr 0 (plusI d q0) (qr.map (plusI d)) 0 = (d.x - p.x - q.x, -d.x - p.x - q.x) := by
  have h1 := reach_x p hp ep
  have h2 := reach_x q hq eq
  have h3 := reach_plus (n := E1) (y := d) (p0 := q0) (r := qr) (by unfold in3; simp) (in3_le (by decide) hd) (fun x hx => in3_le (by decide) (corner_in3 hq (by rw [eq]; exact hx)))
  rw [h2] at h3
  simp only at h3
  have e : dotI E1 d = 1048576 * d.x := by unfold dotI; simp
  rw [e] at h3
  unfold gapsF
  rw [h1, h3, (sizes_x).1, (sizes_x).2]
  simp only [Prod.mk.injEq]
  unfold gapV
  obtain ⟨a1, a2, a3, a4, a5, a6⟩ := hp
  obtain ⟨b1, b2, b3, b4, b5, b6⟩ := hq
  refine ⟨?_, ?_⟩
  · split <;> omega
  · split <;> omega
theorem gaps_y {p q d : P3} (hp : hb_ p) (hq : hb_ q) (hd : in3 3000 d) {p0 q0 : P3} {pr qr : List P3} (ep : corners p = p0 :: pr) (eq : corners q = q0 :: qr) : gapsF E2 p0 pr 0 (plusI d q0) (qr.map (plusI d)) 0 = (d.y - p.y - q.y, -d.y - p.y - q.y) := by
  have h1 := reach_y p hp ep
  have h2 := reach_y q hq eq
  have h3 := reach_plus (n := E2) (y := d) (p0 := q0) (r := qr) (by unfold in3; simp) (in3_le (by decide) hd) (fun x hx => in3_le (by decide) (corner_in3 hq (by rw [eq]; exact hx)))
  rw [h2] at h3
  simp only at h3
  have e : dotI E2 d = 1048576 * d.y := by unfold dotI; simp
  rw [e] at h3
  unfold gapsF
  rw [h1, h3, (sizes_y).1, (sizes_y).2]
  simp only [Prod.mk.injEq]
  unfold gapV
  obtain ⟨a1, a2, a3, a4, a5, a6⟩ := hp
  obtain ⟨b1, b2, b3, b4, b5, b6⟩ := hq
  refine ⟨?_, ?_⟩
  · split <;> omega
  · split <;> omega
theorem gaps_z {p q d : P3} (hp : hb_ p) (hq : hb_ q) (hd : in3 3000 d) {p0 q0 : P3} {pr qr : List P3} (ep : corners p = p0 :: pr) (eq : corners q = q0 :: qr) : gapsF E3 p0 pr 0 (plusI d q0) (qr.map (plusI d)) 0 = (d.z - p.z - q.z, -d.z - p.z - q.z) := by
  have h1 := reach_z p hp ep
  have h2 := reach_z q hq eq
  have h3 := reach_plus (n := E3) (y := d) (p0 := q0) (r := qr) (by unfold in3; simp) (in3_le (by decide) hd) (fun x hx => in3_le (by decide) (corner_in3 hq (by rw [eq]; exact hx)))
  rw [h2] at h3
  simp only at h3
  have e : dotI E3 d = 1048576 * d.z := by unfold dotI; simp
  rw [e] at h3
  unfold gapsF
  rw [h1, h3, (sizes_z).1, (sizes_z).2]
  simp only [Prod.mk.injEq]
  unfold gapV
  obtain ⟨a1, a2, a3, a4, a5, a6⟩ := hp
  obtain ⟨b1, b2, b3, b4, b5, b6⟩ := hq
  refine ⟨?_, ?_⟩
  · split <;> omega
  · split <;> omega
theorem cross_axes : ∀ u ∈ axes3, ∀ v ∈ axes3, cross3 u v = ⟨0, 0, 0⟩ ∨ cross3 u v ∈ axes3 ∨ cross3 u v ∈ axes3.map negI := by
  intro u hu v hv
  simp only [axes3, List.mem_cons, List.not_mem_nil, or_false] at hu hv
  rcases hu with rfl | rfl | rfl <;> rcases hv with rfl | rfl | rfl <;> simp [cross3, wrap64, axes3, negI]
theorem long_axes : ∀ u ∈ axes3, long3 u = E1 ∨ long3 u = E2 ∨ long3 u = E3 := by
  intro u hu
  simp only [axes3, List.mem_cons, List.not_mem_nil, or_false] at hu
  rcases hu with rfl | rfl | rfl
  · exact .inl long_1
  · exact .inr (.inl long_2)
  · exact .inr (.inr long_3)
theorem long_zero : long3 ⟨0, 0, 0⟩ = ⟨0, 0, 0⟩ := by
  unfold long3
  rw [short3_zero, dbl3, dif_pos (.inr rfl)]
theorem brick_ways (p q : List P3) (hp : p.length = 8) (hq : q.length = 8) : ∀ x ∈ rawC p axes3 axes3 q axes3 axes3, long3 x ≠ ⟨0, 0, 0⟩ → ∃ n, (n = E1 ∨ n = E2 ∨ n = E3) ∧ (long3 x = n ∨ long3 x = negI n) := by
  intro x hx h0
  unfold rawC at hx
  have hmn : mn (p.length : Int) q.length > 2 := by rw [hp, hq]; unfold mn; simp
  rw [if_pos hmn, List.append_nil] at hx
  rcases List.mem_append.1 hx with h | h
  · have : x ∈ axes3 := by rcases List.mem_append.1 h with h | h <;> exact h
    exact ⟨long3 x, long_axes x this, .inl rfl⟩
  · unfold edgeW at h
    obtain ⟨u, hu, h⟩ := List.mem_flatMap.1 h
    obtain ⟨v, hv, rfl⟩ := List.mem_map.1 h
    rcases cross_axes u hu v hv with e | e | e
    · rw [e, long_zero] at h0; exact absurd rfl h0
    · exact ⟨_, long_axes _ e, .inl rfl⟩
    · obtain ⟨y, hy, e⟩ := List.mem_map.1 e
      exact ⟨long3 y, long_axes y hy, .inr (by rw [← e, long3_negI])⟩
/-- the widest way between the sides -/
def wideF (p q d : P3) : Int := mx (mx d.x (-d.x) - p.x - q.x) (mx (mx d.y (-d.y) - p.y - q.y) (mx d.z (-d.z) - p.z - q.z))
theorem bricks_gap {p q d : P3} (hp : hb_ p) (hq : hb_ q) (hd : in3 3000 d) : (apartF (corners p) axes3 axes3 0 ((corners q).map (plusI d)) axes3 axes3 0).2 = wideF p q d := by
  obtain ⟨pr, ep, _⟩ := corner_ends p
  obtain ⟨qr, eq, _⟩ := corner_ends q
  have lp : (corners p).length = 8 := by unfold corners; simp
  have lq : ((corners q).map (plusI d)).length = 8 := by unfold corners; simp
  have HW := brick_ways _ _ lp lq
  have hax : ∀ u ∈ axes3, u ∈ rawC (corners p) axes3 axes3 ((corners q).map (plusI d)) axes3 axes3 := fun u hu => by
    unfold rawC; exact List.mem_append_left _ (List.mem_append_left _ hu)
  unfold apartF
  obtain ⟨RW, hRW⟩ : ∃ l, rawC (corners p) axes3 axes3 ((corners q).map (plusI d)) axes3 axes3 = l := ⟨_, rfl⟩
  rw [hRW] at HW hax ⊢
  clear hRW
  have gx := gaps_x hp hq hd ep eq
  have gy := gaps_y hp hq hd ep eq
  have gz := gaps_z hp hq hd ep eq
  have hpI : ∀ x ∈ (⟨-p.x, -p.y, -p.z⟩ :: pr : List P3), in3 16777216 x := fun x hx => in3_le (by decide) (corner_in3 hp (by rw [ep]; exact hx))
  have hqI : ∀ x ∈ (plusI d ⟨-q.x, -q.y, -q.z⟩ :: qr.map (plusI d) : List P3), in3 16777216 x := fun x hx => by
    rw [← List.map_cons (f := plusI d), ← eq] at hx
    obtain ⟨y, hy, rfl⟩ := List.mem_map.1 hx
    exact plusI_in (in3_le (by decide) hd) (in3_le (by decide) (corner_in3 hq hy))
  rw [ep, eq]
  simp only [List.map_cons, List.headD_cons, List.tail_cons]
  have top := apF_top ⟨-p.x, -p.y, -p.z⟩ pr 0 (plusI d ⟨-q.x, -q.y, -q.z⟩) (qr.map (plusI d)) 0 RW
  have t1 := top ⟨1, 0, 0⟩ (hax _ (by simp [axes3])) (by rw [long_1]; simp)
  have t2 := top ⟨0, 1, 0⟩ (hax _ (by simp [axes3])) (by rw [long_2]; simp)
  have t3 := top ⟨0, 0, 1⟩ (hax _ (by simp [axes3])) (by rw [long_3]; simp)
  rw [long_1, gx] at t1
  rw [long_2, gy] at t2
  rw [long_3, gz] at t3
  simp only at t1 t2 t3
  obtain ⟨a1, a2, a3⟩ := mx_facts d.x (-d.x)
  obtain ⟨b1, b2, b3⟩ := mx_facts d.y (-d.y)
  obtain ⟨c1, c2, c3⟩ := mx_facts d.z (-d.z)
  unfold wideF
  obtain ⟨e1, e2, e3⟩ := mx_facts (mx d.y (-d.y) - p.y - q.y) (mx d.z (-d.z) - p.z - q.z)
  obtain ⟨f1, f2, f3⟩ := mx_facts (mx d.x (-d.x) - p.x - q.x) (mx (mx d.y (-d.y) - p.y - q.y) (mx d.z (-d.z) - p.z - q.z))
  have key : ∀ x ∈ RW, long3 x ≠ ⟨0, 0, 0⟩ → (gapsF (long3 x) ⟨-p.x, -p.y, -p.z⟩ pr 0 (plusI d ⟨-q.x, -q.y, -q.z⟩) (qr.map (plusI d)) 0).1 ≤ mx (mx d.x (-d.x) - p.x - q.x) (mx (mx d.y (-d.y) - p.y - q.y) (mx d.z (-d.z) - p.z - q.z)) ∧ (gapsF (long3 x) ⟨-p.x, -p.y, -p.z⟩ pr 0 (plusI d ⟨-q.x, -q.y, -q.z⟩) (qr.map (plusI d)) 0).2 ≤ mx (mx d.x (-d.x) - p.x - q.x) (mx (mx d.y (-d.y) - p.y - q.y) (mx d.z (-d.z) - p.z - q.z)) := by
    intro x hx h0
    obtain ⟨n, hn, hl⟩ := HW x hx h0
    have hg : (gapsF n ⟨-p.x, -p.y, -p.z⟩ pr 0 (plusI d ⟨-q.x, -q.y, -q.z⟩) (qr.map (plusI d)) 0).1 ≤ mx (mx d.x (-d.x) - p.x - q.x) (mx (mx d.y (-d.y) - p.y - q.y) (mx d.z (-d.z) - p.z - q.z)) ∧ (gapsF n ⟨-p.x, -p.y, -p.z⟩ pr 0 (plusI d ⟨-q.x, -q.y, -q.z⟩) (qr.map (plusI d)) 0).2 ≤ mx (mx d.x (-d.x) - p.x - q.x) (mx (mx d.y (-d.y) - p.y - q.y) (mx d.z (-d.z) - p.z - q.z)) := by
      rcases hn with rfl | rfl | rfl
      · rw [gx]; simp only; omega
      · rw [gy]; simp only; omega
      · rw [gz]; simp only; omega
    rcases hl with hl | hl
    · rw [hl]; exact hg
    · have hnI : in3 1048576 n := by rcases hn with rfl | rfl | rfl <;> (unfold in3; simp)
      rw [hl, gaps_negI 0 0 hnI hpI hqI, gaps_negI2 0 0 hnI hpI hqI]
      exact ⟨hg.2, hg.1⟩
  rcases apF_inv ⟨-p.x, -p.y, -p.z⟩ pr 0 (plusI d ⟨-q.x, -q.y, -q.z⟩) (qr.map (plusI d)) 0 RW with ⟨_, _, h3⟩ | ⟨_, x, hx, h0, h⟩
  · have := h3 ⟨1, 0, 0⟩ (hax _ (by simp [axes3]))
    rw [long_1] at this
    simp at this
  · have hk := key x hx h0
    have hG : (apF ⟨-p.x, -p.y, -p.z⟩ pr 0 (plusI d ⟨-q.x, -q.y, -q.z⟩) (qr.map (plusI d)) 0 RW).1.2 ≤ mx (mx d.x (-d.x) - p.x - q.x) (mx (mx d.y (-d.y) - p.y - q.y) (mx d.z (-d.z) - p.z - q.z)) := by
      rcases h with h | h
      · rw [h]; exact hk.1
      · rw [h]; exact hk.2
    omega
theorem bricks_may {p : P3} (hp : hb_ p) : MayP (corners p) axes3 axes3 0 where
  p0 := by obtain ⟨r, e, _⟩ := corner_ends p; rw [e]; simp
  p1 := by unfold corners; simp
  a1 := by simp [axes3]
  e1 := by simp [axes3]
  r0 := by decide
  r1 := by decide
  pf := any_far (by decide) (by decide) fun x hx => in3_le (by decide) (corner_in3 hp hx)
  af := any_far (by decide) (by decide) fun x hx => by
    simp only [axes3, List.mem_cons, List.not_mem_nil, or_false] at hx
    rcases hx with rfl | rfl | rfl <;> (unfold in3; simp)
  ef := any_far (by decide) (by decide) fun x hx => by
    simp only [axes3, List.mem_cons, List.not_mem_nil, or_false] at hx
    rcases hx with rfl | rfl | rfl <;> (unfold in3; simp)
end Go.Proofs.Ytckdhahceelckaa.G
namespace Go.Proofs.Ytckdhahceelckaa.G
open Go.RowKit Go.Proofs.YtckdhahceelckaaW.PrintWords Go.Proofs.YtckdhahceelckaaW.PrintLast Go.Proofs.YtckdhahceelckaaW.PrintMore
attribute [local go_sem] max2_mx min2_mn max_two min_two max_three min_three max_four min_four
attribute [local go_sem high] eqA23
set_option linter.unusedVariables false
set_option linter.unusedSimpArgs false
section
variable {P : Program} {ops : Array Oper} {Q : Exit → Act → World → Prop} {S : World → Prop}
/-- a call of a function value that holds nothing, in a region -/
theorem goesg_ {oi : Oper} {N : Option Tmp} {a : Act} {w : World} {K : Act → World → Prop} {f : FuncId} {fn : Func} {os : Array Operand} {ts : Array TypeId} (x : Operand) (hf : P.funcs[f]? = some fn) (hname : (fn.name == "runtime.NumGoroutine") = false) (hb : fn.body.isSome = true) (args : Array Value)
    (hw : Region.wanted oi (yielded ops a.tmps) = true) (hN : oi.dst = N) (hop : oi.op = .call { callee := .value x, args := os, argTypes := ts }) (hx : a.eval x = .func (.func f) #[] #[]) (hargs : os.map a.eval = args)
    (h : Calls P f args w fun e w' => ∃ v, e = .returned v ∧ K (a.put N v) w') : if Region.wanted oi (yielded ops a.tmps) = true then Oper.wp P oi a w K Q else K (a.put N undef) w := by
  refine call_ f args hw hN ?_ h
  have he := enters_ hf hname hb args w
  unfold execOp
  simp [hop, resolve, Deferred.ofValue, invoke, hx, hargs, he]
end
theorem bsize_calls (n : Int) (h1 : -3000 ≤ n) (h2 : n ≤ 3000) (w : World) : Calls Try.prog 48 #[.int .i64 n] w fun e w' => e = .returned (.int .i64 (mx n (-n))) ∧ w' = w := by
  go_enter Try.func48, Try.ntmps48
  go_wp2
  go_ret
  exact ⟨rfl, rfl⟩
set_option maxHeartbeats 4000000 in
set_option maxRecDepth 100000 in
theorem bhalf_calls (h : P3) (hh : pI64 h) (w : World) : Calls Try.prog 46 #[aP h] w fun e w' => e = .returned (aP ⟨1 + pickF h.x 1000, 1 + pickF h.y 1000, 1 + pickF h.z 1000⟩) ∧ Below w.heap.size w w' := by
  have HPX := Lib.hid (fun (W : World) => pick_calls h.x 1000 hh.1.1 hh.1.2 (by decide) (by decide) W)
  have HPY := Lib.hid (fun (W : World) => pick_calls h.y 1000 hh.2.1.1 hh.2.1.2 (by decide) (by decide) W)
  have HPZ := Lib.hid (fun (W : World) => pick_calls h.z 1000 hh.2.2.1 hh.2.2.2 (by decide) (by decide) W)
  have bx := pickF_bd h.x 1000 (by decide)
  have by_ := pickF_bd h.y 1000 (by decide)
  have bz := pickF_bd h.z 1000 (by decide)
  obtain ⟨qx, hqx⟩ : ∃ n, pickF h.x 1000 = n := ⟨_, rfl⟩
  obtain ⟨qy, hqy⟩ : ∃ n, pickF h.y 1000 = n := ⟨_, rfl⟩
  obtain ⟨qz, hqz⟩ : ∃ n, pickF h.z 1000 = n := ⟨_, rfl⟩
  rw [hqx] at HPX bx ⊢
  rw [hqy] at HPY by_ ⊢
  rw [hqz] at HPZ bz ⊢
  have wx : Hid (wrap64 (1 + qx) = 1 + qx) := Lib.hid (by unfold wrap64; omega)
  have wy : Hid (wrap64 (1 + qy) = 1 + qy) := Lib.hid (by unfold wrap64; omega)
  have wz : Hid (wrap64 (1 + qz) = 1 + qz) := Lib.hid (by unfold wrap64; omega)
  obtain ⟨hx, hy, hz⟩ := h
  simp only at HPX HPY HPZ
  clear hqx hqy hqz bx by_ bz hh
  have z0 := (Below.heap_alloc (w.alloc (.cells #[.int .i64 hx, .int .i64 hy, .int .i64 hz] 23)) (.cells #[.int .i64 0, .int .i64 0, .int .i64 0] 23) _ (by simp)).trans (heap_alloc_new w (.cells #[.int .i64 hx, .int .i64 hy, .int .i64 hz] 23))
  have z1 := heap_alloc_new (w.alloc (.cells #[.int .i64 hx, .int .i64 hy, .int .i64 hz] 23)) (.cells #[.int .i64 0, .int .i64 0, .int .i64 0] 23)
  rw [World.size_alloc] at z1
  have zb := ((Below.refl _ w).alloc (Nat.le_refl _) (.cells #[.int .i64 hx, .int .i64 hy, .int .i64 hz] 23)).alloc (by simp) (.cells #[.int .i64 0, .int .i64 0, .int .i64 0] 23)
  obtain ⟨w1, hw1⟩ : ∃ V, (w.alloc (.cells #[.int .i64 hx, .int .i64 hy, .int .i64 hz] 23)).alloc (.cells #[.int .i64 0, .int .i64 0, .int .i64 0] 23) = V := ⟨_, rfl⟩
  rw [hw1] at z0 z1 zb
  have hw1' := Lib.hid hw1
  have R1 := Lib.hid z1
  have ZB := Lib.hid zb
  have x0 : w1.cell? ⟨w.heap.size, 0, none⟩ = some (.int .i64 hx) := (blk_cell z0 0).trans rfl
  have x1 : w1.cell? ⟨w.heap.size, 1, none⟩ = some (.int .i64 hy) := (blk_cell z0 1).trans rfl
  have x2 : w1.cell? ⟨w.heap.size, 2, none⟩ = some (.int .i64 hz) := (blk_cell z0 2).trans rfl
  have l0 : w.heap.size < w1.heap.size := blk_lt z0
  clear z0 z1 zb hw1
  go_enter Try.func46, Try.ntmps46
  go_wp2_with fail
  rw [hw1'.out]
  have HB := Lib.hid ((Below.refl (w.heap.size + 1) w1).drew)
  have HA := Lib.hid (show w1.drew.heap[(w.heap.size + 1)]? = _ from R1.out)
  have FF := Lib.hid (show ∀ V, Hid (Below (w.heap.size + 1) w1 V) → V.cell? ⟨w.heap.size, 0, none⟩ = some (.int .i64 hx) ∧ V.cell? ⟨w.heap.size, 1, none⟩ = some (.int .i64 hy) ∧ V.cell? ⟨w.heap.size, 2, none⟩ = some (.int .i64 hz) from fun V HB => ⟨(HB.out.cell (p := ⟨w.heap.size, 0, none⟩) (show w.heap.size < w.heap.size + 1 by omega)).trans x0, (HB.out.cell (p := ⟨w.heap.size, 1, none⟩) (show w.heap.size < w.heap.size + 1 by omega)).trans x1, (HB.out.cell (p := ⟨w.heap.size, 2, none⟩) (show w.heap.size < w.heap.size + 1 by omega)).trans x2⟩)
  refine start_ (n := 14) (S := fun w' => w'.cell? ⟨w.heap.size, 0, none⟩ = some (.int .i64 hx) ∧ w'.cell? ⟨w.heap.size, 1, none⟩ = some (.int .i64 hy) ∧ w'.cell? ⟨w.heap.size, 2, none⟩ = some (.int .i64 hz)) (ds := [13]) (MT 0 14) (by kernel_rfl) rfl rfl (FF.out _ HB) (fun hHeld => ?_)
  obtain ⟨wd, hwd⟩ : ∃ x, w1.drew = x := ⟨_, rfl⟩
  rw [hwd] at HB hHeld HA ⊢
  clear hwd
  refine pu_ 0 3 (h := ?_)
  refine pu_ 4 7 (h := ?_)
  refine pu_ 8 11 (h := ?_)
  refine ta_ 1 4 hHeld (h := ?_)
  refine ta_ 5 8 hHeld (h := ?_)
  refine ta_ 9 12 hHeld (h := ?_)
  refine on_ 2 (some 5) (h := fun K hK => ?_)
  refine goes_ Try.func22 (by kernel_rfl) rfl #[.int .i64 hx, .int .i64 1000] (by rfl) rfl rfl (by simp only [List.map_toArray, List.map_cons, List.map_nil]; rfl) ?_
  with_reducible refine (HPX.out _).mono ?_
  rintro e' w9 ⟨rfl, rfl⟩
  refine ⟨_, rfl, ?_⟩
  refine hK.out _ _ (FF.out _ HB) (fun hHeld => ?_)
  clear hK K
  refine no_ (h := ?_)
  refine pu_ 3 6 (h := ?_)
  refine on_ 6 (some 9) (h := fun K hK => ?_)
  refine goes_ Try.func22 (by kernel_rfl) rfl #[.int .i64 hy, .int .i64 1000] (by rfl) rfl rfl (by simp only [List.map_toArray, List.map_cons, List.map_nil]; rfl) ?_
  with_reducible refine (HPY.out _).mono ?_
  rintro e' w9 ⟨rfl, rfl⟩
  refine ⟨_, rfl, ?_⟩
  refine hK.out _ _ (FF.out _ HB) (fun hHeld => ?_)
  clear hK K
  refine no_ (h := ?_)
  refine pu_ 7 10 (h := ?_)
  refine on_ 10 (some 13) (h := fun K hK => ?_)
  refine goes_ Try.func22 (by kernel_rfl) rfl #[.int .i64 hz, .int .i64 1000] (by rfl) rfl rfl (by simp only [List.map_toArray, List.map_cons, List.map_nil]; rfl) ?_
  with_reducible refine (HPZ.out _).mono ?_
  rintro e' w9 ⟨rfl, rfl⟩
  refine ⟨_, rfl, ?_⟩
  refine hK.out _ _ (FF.out _ HB) (fun hHeld => ?_)
  clear hK K
  refine no_ (h := ?_)
  refine pu_ 11 14 (h := ?_)
  refine pu_ 12 15 (h := ?_)
  refine last_ (i := 13) (N := none) (MT 14 0) rfl rfl (by kernel_rfl) (by decide) (fun K hK => ?_)
  have sc0 : World.cell? _ ⟨(w.heap.size + 1), 0, none⟩ = some (.int .i64 0) := (blk_cell HA.out 0).trans rfl
  have sf0 := blk_frozen HA.out 0
  have sc1 : World.cell? _ ⟨(w.heap.size + 1), 1, none⟩ = some (.int .i64 0) := (blk_cell HA.out 1).trans rfl
  have sf1 := blk_frozen HA.out 1
  have sc2 : World.cell? _ ⟨(w.heap.size + 1), 2, none⟩ = some (.int .i64 0) := (blk_cell HA.out 2).trans rfl
  have sf2 := blk_frozen HA.out 2
  refine skip_ (w1 := ?_) (by rfl) rfl ?_ ?_
  rotate_left
  · go_simp
    rfl
  have HA := Lib.hid (bs3 HA.out (.int .i64 (wrap64 (1 + qx))) (.int .i64 (wrap64 (1 + qy))) (.int .i64 (wrap64 (1 + qz))))
  have HB := Lib.hid (bb3 HB.out (Nat.le_refl _) (.int .i64 (wrap64 (1 + qx))) (.int .i64 (wrap64 (1 + qy))) (.int .i64 (wrap64 (1 + qz))))
  clear sc0 sf0 sc1 sf1 sc2 sf2
  refine hK.out _ _ ?_
  clear hK K
  refine done_ (by kernel_rfl) ?_
  obtain ⟨w5, hwn⟩ : ∃ V, (((w9.setCell ⟨(w.heap.size + 1), 0, none⟩ (.int .i64 (wrap64 (1 + qx)))).setCell ⟨(w.heap.size + 1), 1, none⟩ (.int .i64 (wrap64 (1 + qy)))).setCell ⟨(w.heap.size + 1), 2, none⟩ (.int .i64 (wrap64 (1 + qz)))) = V := ⟨_, rfl⟩
  rw [hwn] at HA HB ⊢
  clear hwn
  have WB := Lib.hid (ZB.out.trans (HB.out.mono (Nat.le_succ _)))
  have t0 : w5.cell? ⟨w.heap.size + 1, 0, none⟩ = some (.int .i64 (wrap64 (1 + qx))) := (blk_cell HA.out 0).trans rfl
  rw [wx.out] at t0
  have t1 : w5.cell? ⟨w.heap.size + 1, 1, none⟩ = some (.int .i64 (wrap64 (1 + qy))) := (blk_cell HA.out 1).trans rfl
  rw [wy.out] at t1
  have t2 : w5.cell? ⟨w.heap.size + 1, 2, none⟩ = some (.int .i64 (wrap64 (1 + qz))) := (blk_cell HA.out 2).trans rfl
  rw [wz.out] at t2
  clear HA HB x0 x1 x2 l0
  go_wp2
  exact bodyPost_ret (v := aP ⟨1 + qx, 1 + qy, 1 + qz⟩) (by simp [results, Try.results46, go_sem, t0, t1, t2]) rfl ⟨rfl, WB.out⟩
end Go.Proofs.Ytckdhahceelckaa.G
namespace Go.Proofs.Ytckdhahceelckaa.G
open Go.RowKit Go.Proofs.YtckdhahceelckaaW.PrintWords Go.Proofs.YtckdhahceelckaaW.PrintLast Go.Proofs.YtckdhahceelckaaW.PrintMore
attribute [local go_sem] max2_mx min2_mn max_two min_two max_three min_three max_four min_four
attribute [local go_sem high] eqA23 eqA40
set_option linter.unusedVariables false
set_option linter.unusedSimpArgs false
set_option maxHeartbeats 8000000 in
set_option maxRecDepth 100000 in
theorem bricks_law (p0 q0 e0 : P3) (hp0 : pI64 p0) (hq0 : pI64 q0) (he0 : pI64 e0) (w : World) :
    Calls Try.prog 16 #[aP p0, aP q0, aP e0] w fun e w' => e = .returned (.bool true) ∧ Below w.heap.size w w' := by
  have HHP := Lib.hid (bhalf_calls p0 hp0)
  have HHQ := Lib.hid (bhalf_calls q0 hq0)
  have HP : hb_ ⟨1 + pickF p0.x 1000, 1 + pickF p0.y 1000, 1 + pickF p0.z 1000⟩ := by
    have := pickF_bd p0.x 1000 (by decide); have := pickF_bd p0.y 1000 (by decide); have := pickF_bd p0.z 1000 (by decide); unfold hb_; simp only; omega
  have HQ : hb_ ⟨1 + pickF q0.x 1000, 1 + pickF q0.y 1000, 1 + pickF q0.z 1000⟩ := by
    have := pickF_bd q0.x 1000 (by decide); have := pickF_bd q0.y 1000 (by decide); have := pickF_bd q0.z 1000 (by decide); unfold hb_; simp only; omega
  obtain ⟨p, hpE⟩ : ∃ p : P3, ⟨1 + pickF p0.x 1000, 1 + pickF p0.y 1000, 1 + pickF p0.z 1000⟩ = p := ⟨_, rfl⟩
  obtain ⟨q, hqE⟩ : ∃ q : P3, ⟨1 + pickF q0.x 1000, 1 + pickF q0.y 1000, 1 + pickF q0.z 1000⟩ = q := ⟨_, rfl⟩
  rw [hpE] at HHP HP
  rw [hqE] at HHQ HQ
  have HDX := Lib.hid (fun (W : World) => pick_calls e0.x 6000 he0.1.1 he0.1.2 (by decide) (by decide) W)
  have HDY := Lib.hid (fun (W : World) => pick_calls e0.y 6000 he0.2.1.1 he0.2.1.2 (by decide) (by decide) W)
  have HDZ := Lib.hid (fun (W : World) => pick_calls e0.z 6000 he0.2.2.1 he0.2.2.2 (by decide) (by decide) W)
  have bdx := pickF_bd e0.x 6000 (by decide)
  have bdy := pickF_bd e0.y 6000 (by decide)
  have bdz := pickF_bd e0.z 6000 (by decide)
  obtain ⟨ex, hex⟩ : ∃ n, pickF e0.x 6000 = n := ⟨_, rfl⟩
  obtain ⟨ey, hey⟩ : ∃ n, pickF e0.y 6000 = n := ⟨_, rfl⟩
  obtain ⟨ez, hez⟩ : ∃ n, pickF e0.z 6000 = n := ⟨_, rfl⟩
  rw [hex] at HDX bdx
  rw [hey] at HDY bdy
  rw [hez] at HDZ bdz
  obtain ⟨dx, hdx⟩ : ∃ n, wrap64 (ex - 3000) = n := ⟨_, rfl⟩
  obtain ⟨dy, hdy⟩ : ∃ n, wrap64 (ey - 3000) = n := ⟨_, rfl⟩
  obtain ⟨dz, hdz⟩ : ∃ n, wrap64 (ez - 3000) = n := ⟨_, rfl⟩
  have HD : in3 3000 ⟨dx, dy, dz⟩ := by unfold in3; simp only; unfold wrap64 at hdx hdy hdz; omega
  have HGAP := bricks_gap HP HQ HD
  have HMP := bricks_may HP
  have HMQ := bricks_may HQ
  have HDH := Lib.hid HD
  have HDX' := Lib.hid hdx
  have HDY' := Lib.hid hdy
  have HDZ' := Lib.hid hdz
  have hqI : ∀ x ∈ corners q, in3 8388608 x := fun x hx => in3_le (by decide) (corner_in3 HQ hx)
  have hpI : ∀ x ∈ corners p, in3 8388608 x := fun x hx => in3_le (by decide) (corner_in3 HP hx)
  have HSP := Lib.hid (score_calls p HP)
  have HSQ := Lib.hid (score_calls q HQ)
  have HMV := Lib.hid (fun (W : World) (v : Value) (hW : CoreV W v (corners q) axes3 axes3 0) => moved_calls hW HMQ ⟨dx, dy, dz⟩ (in3_le (by decide) HDH.out) hqI)
  have HAP := Lib.hid (fun (W : World) (v u : Value) (hW : CoreV W v (corners p) axes3 axes3 0) (hU : CoreV W u ((corners q).map (plusI ⟨dx, dy, dz⟩)) axes3 axes3 0) => apart_calls (corners p) axes3 axes3 0 ((corners q).map (plusI ⟨dx, dy, dz⟩)) axes3 axes3 0 v u W hW hU HMP (HMQ.moved (in3_le (by decide) HDH.out) hqI) _ rfl)
  obtain ⟨R, hR⟩ : ∃ R, apartF (corners p) axes3 axes3 0 ((corners q).map (plusI ⟨dx, dy, dz⟩)) axes3 axes3 0 = R := ⟨_, rfl⟩
  rw [hR] at HAP HGAP
  obtain ⟨LP, hLP⟩ : ∃ l, corners p = l := ⟨_, rfl⟩
  obtain ⟨LQ, hLQ⟩ : ∃ l, corners q = l := ⟨_, rfl⟩
  obtain ⟨LM, hLM⟩ : ∃ l, (corners q).map (plusI ⟨dx, dy, dz⟩) = l := ⟨_, rfl⟩
  rw [hLM] at HAP HMV
  rw [hLP] at HAP HSP
  rw [hLQ] at HMV HSQ
  obtain ⟨⟨Rx, Ry, Rz⟩, Rg⟩ := R
  have hdb := HD
  obtain ⟨a1, a2, a3, a4, a5, a6⟩ := HP
  obtain ⟨b1, b2, b3, b4, b5, b6⟩ := HQ
  unfold wideF at HGAP
  simp only at HAP HGAP
  obtain ⟨px, py, pz⟩ := p
  obtain ⟨qx, qy, qz⟩ := q
  simp only at HGAP a1 a2 a3 a4 a5 a6 b1 b2 b3 b4 b5 b6
  unfold in3 at hdb
  simp only at hdb
  have HBX := Lib.hid (bsize_calls dx (by omega) (by omega))
  have HBY := Lib.hid (bsize_calls dy (by omega) (by omega))
  have HBZ := Lib.hid (bsize_calls dz (by omega) (by omega))
  have mX := mx_facts dx (-dx)
  have mY := mx_facts dy (-dy)
  have mZ := mx_facts dz (-dz)
  obtain ⟨sx, hsx⟩ : ∃ n, mx dx (-dx) = n := ⟨_, rfl⟩
  obtain ⟨sy, hsy⟩ : ∃ n, mx dy (-dy) = n := ⟨_, rfl⟩
  obtain ⟨sz, hsz⟩ : ∃ n, mx dz (-dz) = n := ⟨_, rfl⟩
  rw [hsx] at HBX HGAP mX
  rw [hsy] at HBY HGAP mY
  rw [hsz] at HBZ HGAP mZ
  have HG : Hid (mx (wrap64 (wrap64 (sx - px) - qx)) (mx (wrap64 (wrap64 (sy - py) - qy)) (wrap64 (wrap64 (sz - pz) - qz))) = Rg) := Lib.hid (by
    have e : ∀ a b c : Int, -3000 ≤ a ∧ a ≤ 3000 → 1 ≤ b ∧ b ≤ 1000 → 1 ≤ c ∧ c ≤ 1000 → wrap64 (wrap64 (a - b) - c) = a - b - c := fun a b c h1 h2 h3 => by
      rw [w64I (x := a - b) (by omega), w64I (by omega)]
    rw [e sx px qx (by omega) ⟨a1, a2⟩ ⟨b1, b2⟩, e sy py qy (by omega) ⟨a3, a4⟩ ⟨b3, b4⟩, e sz pz qz (by omega) ⟨a5, a6⟩ ⟨b5, b6⟩]
    exact HGAP.symm)
  clear hsx hsy hsz mX mY mZ hdb a1 a2 a3 a4 a5 a6 b1 b2 b3 b4 b5 b6 HGAP HMP HMQ hqI hpI hR hLP hLQ hLM HD hdx hdy hdz hpE hqE hex hey hez bdx bdy bdz hp0 hq0 he0
  obtain ⟨p0x, p0y, p0z⟩ := p0
  obtain ⟨q0x, q0y, q0z⟩ := q0
  obtain ⟨d0x, d0y, d0z⟩ := e0
  simp only at HDX HDY HDZ
  have z0 := three0 w (.cells #[.int .i64 p0x, .int .i64 p0y, .int .i64 p0z] 23) (.cells #[.int .i64 q0x, .int .i64 q0y, .int .i64 q0z] 23) (.cells #[.int .i64 d0x, .int .i64 d0y, .int .i64 d0z] 23)
  have z1 := three1 w (.cells #[.int .i64 p0x, .int .i64 p0y, .int .i64 p0z] 23) (.cells #[.int .i64 q0x, .int .i64 q0y, .int .i64 q0z] 23) (.cells #[.int .i64 d0x, .int .i64 d0y, .int .i64 d0z] 23)
  have z2 := three2 w (.cells #[.int .i64 p0x, .int .i64 p0y, .int .i64 p0z] 23) (.cells #[.int .i64 q0x, .int .i64 q0y, .int .i64 q0z] 23) (.cells #[.int .i64 d0x, .int .i64 d0y, .int .i64 d0z] 23)
  have zb := (((Below.refl _ w).alloc (Nat.le_refl _) (.cells #[.int .i64 p0x, .int .i64 p0y, .int .i64 p0z] 23)).alloc (by simp) (.cells #[.int .i64 q0x, .int .i64 q0y, .int .i64 q0z] 23)).alloc (by simp; omega) (.cells #[.int .i64 d0x, .int .i64 d0y, .int .i64 d0z] 23)
  obtain ⟨w0, hw0⟩ : ∃ V, ((w.alloc (.cells #[.int .i64 p0x, .int .i64 p0y, .int .i64 p0z] 23)).alloc (.cells #[.int .i64 q0x, .int .i64 q0y, .int .i64 q0z] 23)).alloc (.cells #[.int .i64 d0x, .int .i64 d0y, .int .i64 d0z] 23) = V := ⟨_, rfl⟩
  rw [hw0] at z0 z1 z2 zb
  have hw0' := Lib.hid hw0
  go_enter Try.func16, Try.ntmps16
  clear hw0
  go_wp2_with fail
  rw [hw0'.out]
  refine (awake_calls _).mono ?_
  rintro en w1 ⟨rfl, hb⟩
  have Z0 := Lib.hid ((hb.block _ (blk_lt z0)).trans z0)
  have Z1 := Lib.hid ((hb.block _ (blk_lt z1)).trans z1)
  have Z2 := Lib.hid ((hb.block _ (blk_lt z2)).trans z2)
  have W := Lib.hid (bthen zb hb)
  clear hb hw0' z0 z1 z2 zb
  have x0 : w1.cell? ⟨w.heap.size, 0, none⟩ = some (.int .i64 p0x) := (blk_cell Z0.out 0).trans rfl
  have x1 : w1.cell? ⟨w.heap.size, 1, none⟩ = some (.int .i64 p0y) := (blk_cell Z0.out 1).trans rfl
  have x2 : w1.cell? ⟨w.heap.size, 2, none⟩ = some (.int .i64 p0z) := (blk_cell Z0.out 2).trans rfl
  go_wp2_with fail
  refine (HHP.out _).mono ?_
  rintro en w2 ⟨rfl, hb⟩
  have Z0 := Lib.hid ((hb.block _ (blk_lt Z0.out)).trans Z0.out)
  have Z1 := Lib.hid ((hb.block _ (blk_lt Z1.out)).trans Z1.out)
  have Z2 := Lib.hid ((hb.block _ (blk_lt Z2.out)).trans Z2.out)
  have W := Lib.hid (bthen W.out hb)
  clear hb x0 x1 x2
  have x0 : w2.cell? ⟨w.heap.size, 0, none⟩ = some (.int .i64 p0x) := (blk_cell Z0.out 0).trans rfl
  have x1 : w2.cell? ⟨w.heap.size, 1, none⟩ = some (.int .i64 p0y) := (blk_cell Z0.out 1).trans rfl
  have x2 : w2.cell? ⟨w.heap.size, 2, none⟩ = some (.int .i64 p0z) := (blk_cell Z0.out 2).trans rfl
  have f0 : w2.frozen? ⟨w.heap.size, 0, none⟩ = false := blk_frozen Z0.out 0
  have f1 : w2.frozen? ⟨w.heap.size, 1, none⟩ = false := blk_frozen Z0.out 1
  have f2 : w2.frozen? ⟨w.heap.size, 2, none⟩ = false := blk_frozen Z0.out 2
  have s_ := bs3 Z0.out (.int .i64 px) (.int .i64 py) (.int .i64 pz)
  have oZ1 := (bo3 (show w.heap.size + 1 ≠ w.heap.size by omega) (.int .i64 px) (.int .i64 py) (.int .i64 pz)).trans Z1.out
  have oZ2 := (bo3 (show w.heap.size + 2 ≠ w.heap.size by omega) (.int .i64 px) (.int .i64 py) (.int .i64 pz)).trans Z2.out
  have b_ := bb3 W.out (show w.heap.size ≤ w.heap.size by omega) (.int .i64 px) (.int .i64 py) (.int .i64 pz)
  obtain ⟨w3, hw3⟩ : ∃ V, (((w2.setCell ⟨w.heap.size, 0, none⟩ (.int .i64 px)).setCell ⟨w.heap.size, 1, none⟩ (.int .i64 py)).setCell ⟨w.heap.size, 2, none⟩ (.int .i64 pz)) = V := ⟨_, rfl⟩
  have Z1w := Z1
  rw [hw3] at s_ oZ1 oZ2 b_
  have Z0 := Lib.hid s_
  have Z1 := Lib.hid oZ1
  have Z2 := Lib.hid oZ2
  have W := Lib.hid b_
  have hw3' := Lib.hid hw3
  clear s_ oZ1 oZ2 b_ hw3
  have y0 : w2.cell? ⟨w.heap.size + 1, 0, none⟩ = some (.int .i64 q0x) := (blk_cell Z1w.out 0).trans rfl
  have y1 : w2.cell? ⟨w.heap.size + 1, 1, none⟩ = some (.int .i64 q0y) := (blk_cell Z1w.out 1).trans rfl
  have y2 : w2.cell? ⟨w.heap.size + 1, 2, none⟩ = some (.int .i64 q0z) := (blk_cell Z1w.out 2).trans rfl
  have lp : w.heap.size < w2.heap.size := World.block_lt_of_cell? _ _ x0
  have lq : w.heap.size + 1 < w2.heap.size := World.block_lt_of_cell? _ _ y0
  go_wp2_with fail
  rw [hw3'.out]
  refine (HHQ.out _).mono ?_
  rintro en w4 ⟨rfl, hb⟩
  have Z0 := Lib.hid ((hb.block _ (blk_lt Z0.out)).trans Z0.out)
  have Z1 := Lib.hid ((hb.block _ (blk_lt Z1.out)).trans Z1.out)
  have Z2 := Lib.hid ((hb.block _ (blk_lt Z2.out)).trans Z2.out)
  have W := Lib.hid (bthen W.out hb)
  clear hb x0 x1 x2 f0 f1 f2 y0 y1 y2 lp lq hw3' Z1w
  have y0 : w4.cell? ⟨w.heap.size + 1, 0, none⟩ = some (.int .i64 q0x) := (blk_cell Z1.out 0).trans rfl
  have y1 : w4.cell? ⟨w.heap.size + 1, 1, none⟩ = some (.int .i64 q0y) := (blk_cell Z1.out 1).trans rfl
  have y2 : w4.cell? ⟨w.heap.size + 1, 2, none⟩ = some (.int .i64 q0z) := (blk_cell Z1.out 2).trans rfl
  have f0 : w4.frozen? ⟨w.heap.size + 1, 0, none⟩ = false := blk_frozen Z1.out 0
  have f1 : w4.frozen? ⟨w.heap.size + 1, 1, none⟩ = false := blk_frozen Z1.out 1
  have f2 : w4.frozen? ⟨w.heap.size + 1, 2, none⟩ = false := blk_frozen Z1.out 2
  have s_ := bs3 Z1.out (.int .i64 qx) (.int .i64 qy) (.int .i64 qz)
  have oZ0 := (bo3 (show w.heap.size ≠ w.heap.size + 1 by omega) (.int .i64 qx) (.int .i64 qy) (.int .i64 qz)).trans Z0.out
  have oZ2 := (bo3 (show w.heap.size + 2 ≠ w.heap.size + 1 by omega) (.int .i64 qx) (.int .i64 qy) (.int .i64 qz)).trans Z2.out
  have b_ := bb3 W.out (show w.heap.size ≤ w.heap.size + 1 by omega) (.int .i64 qx) (.int .i64 qy) (.int .i64 qz)
  obtain ⟨w5, hw5⟩ : ∃ V, (((w4.setCell ⟨(w.heap.size + 1), 0, none⟩ (.int .i64 qx)).setCell ⟨(w.heap.size + 1), 1, none⟩ (.int .i64 qy)).setCell ⟨(w.heap.size + 1), 2, none⟩ (.int .i64 qz)) = V := ⟨_, rfl⟩
  rw [hw5] at s_ oZ0 oZ2 b_
  have Z1 := Lib.hid s_
  have Z0 := Lib.hid oZ0
  have Z2 := Lib.hid oZ2
  have W := Lib.hid b_
  have hw5' := Lib.hid hw5
  clear s_ oZ0 oZ2 b_ hw5
  have lq : w.heap.size + 1 < w4.heap.size := World.block_lt_of_cell? _ _ y0
  go_wp2_with fail
  rw [hw5'.out]
  clear hw5' lq y0 y1 y2 f0 f1 f2
  have x0 : w5.cell? ⟨w.heap.size + 1 + 1, 0, none⟩ = some (.int .i64 d0x) := (blk_cell Z2.out 0).trans rfl
  have x1 : w5.cell? ⟨w.heap.size + 1 + 1, 1, none⟩ = some (.int .i64 d0y) := (blk_cell Z2.out 1).trans rfl
  have x2 : w5.cell? ⟨w.heap.size + 1 + 1, 2, none⟩ = some (.int .i64 d0z) := (blk_cell Z2.out 2).trans rfl
  have lx : w.heap.size + 1 + 1 < w5.heap.size := blk_lt Z2.out
  have HB := Lib.hid ((Below.refl (w5.heap.size) w5).drew)
  have K0 := Lib.hid (show w5.drew.heap[w.heap.size]? = _ from Z0.out)
  have K1 := Lib.hid (show w5.drew.heap[(w.heap.size + 1)]? = _ from Z1.out)
  have HA := Lib.hid (show w5.drew.heap[(w.heap.size + 1 + 1)]? = _ from Z2.out)
  have FF := Lib.hid (show ∀ V, Hid (Below (w5.heap.size) w5 V) → V.cell? ⟨w.heap.size + 1 + 1, 0, none⟩ = some (.int .i64 d0x) ∧ V.cell? ⟨w.heap.size + 1 + 1, 1, none⟩ = some (.int .i64 d0y) ∧ V.cell? ⟨w.heap.size + 1 + 1, 2, none⟩ = some (.int .i64 d0z) from fun V HB => ⟨(HB.out.cell (p := ⟨w.heap.size + 1 + 1, 0, none⟩) (lx)).trans x0, (HB.out.cell (p := ⟨w.heap.size + 1 + 1, 1, none⟩) (lx)).trans x1, (HB.out.cell (p := ⟨w.heap.size + 1 + 1, 2, none⟩) (lx)).trans x2⟩)
  refine start_ (n := 14) (S := fun w' => w'.cell? ⟨w.heap.size + 1 + 1, 0, none⟩ = some (.int .i64 d0x) ∧ w'.cell? ⟨w.heap.size + 1 + 1, 1, none⟩ = some (.int .i64 d0y) ∧ w'.cell? ⟨w.heap.size + 1 + 1, 2, none⟩ = some (.int .i64 d0z)) (ds := [13]) (MT 0 14) (by kernel_rfl) rfl rfl (FF.out _ HB) (fun hHeld => ?_)
  obtain ⟨wd, hwd⟩ : ∃ x, w5.drew = x := ⟨_, rfl⟩
  rw [hwd] at HB hHeld HA K0 K1 ⊢
  clear hwd
  refine pu_ 0 24 (h := ?_)
  refine pu_ 4 28 (h := ?_)
  refine pu_ 8 32 (h := ?_)
  refine ta_ 1 25 hHeld (h := ?_)
  refine ta_ 5 29 hHeld (h := ?_)
  refine ta_ 9 33 hHeld (h := ?_)
  refine on_ 2 (some 26) (h := fun K hK => ?_)
  refine goes_ Try.func22 (by kernel_rfl) rfl #[.int .i64 d0x, .int .i64 6000] (by rfl) rfl rfl (by simp only [List.map_toArray, List.map_cons, List.map_nil]; rfl) ?_
  with_reducible refine (HDX.out _).mono ?_
  rintro e' wz ⟨rfl, rfl⟩
  refine ⟨_, rfl, ?_⟩
  refine hK.out _ _ (FF.out _ HB) (fun hHeld => ?_)
  clear hK K
  refine no_ (h := ?_)
  refine pu_ 3 27 (h := ?_)
  refine on_ 6 (some 30) (h := fun K hK => ?_)
  refine goes_ Try.func22 (by kernel_rfl) rfl #[.int .i64 d0y, .int .i64 6000] (by rfl) rfl rfl (by simp only [List.map_toArray, List.map_cons, List.map_nil]; rfl) ?_
  with_reducible refine (HDY.out _).mono ?_
  rintro e' wz ⟨rfl, rfl⟩
  refine ⟨_, rfl, ?_⟩
  refine hK.out _ _ (FF.out _ HB) (fun hHeld => ?_)
  clear hK K
  refine no_ (h := ?_)
  refine pu_ 7 31 (h := ?_)
  refine on_ 10 (some 34) (h := fun K hK => ?_)
  refine goes_ Try.func22 (by kernel_rfl) rfl #[.int .i64 d0z, .int .i64 6000] (by rfl) rfl rfl (by simp only [List.map_toArray, List.map_cons, List.map_nil]; rfl) ?_
  with_reducible refine (HDZ.out _).mono ?_
  rintro e' wz ⟨rfl, rfl⟩
  refine ⟨_, rfl, ?_⟩
  refine hK.out _ _ (FF.out _ HB) (fun hHeld => ?_)
  clear hK K
  refine no_ (h := ?_)
  refine pu_ 11 35 (h := ?_)
  refine pu_ 12 36 (h := ?_)
  refine last_ (i := 13) (N := none) (MT 14 0) rfl rfl (by kernel_rfl) (by decide) (fun K hK => ?_)
  have sc0 : World.cell? _ ⟨(w.heap.size + 1 + 1), 0, none⟩ = some (.int .i64 d0x) := (blk_cell HA.out 0).trans rfl
  have sf0 := blk_frozen HA.out 0
  have sc1 : World.cell? _ ⟨(w.heap.size + 1 + 1), 1, none⟩ = some (.int .i64 d0y) := (blk_cell HA.out 1).trans rfl
  have sf1 := blk_frozen HA.out 1
  have sc2 : World.cell? _ ⟨(w.heap.size + 1 + 1), 2, none⟩ = some (.int .i64 d0z) := (blk_cell HA.out 2).trans rfl
  have sf2 := blk_frozen HA.out 2
  refine skip_ (w1 := ?_) (by rfl) rfl ?_ ?_
  rotate_left
  · go_simp
    rfl
  have HB := Lib.hid (show Below (w.heap.size) _ _ from HB.out.mono (show w.heap.size ≤ _ by have := lx; omega))
  have HA := Lib.hid (bs3 HA.out (.int .i64 (wrap64 (ex - 3000))) (.int .i64 (wrap64 (ey - 3000))) (.int .i64 (wrap64 (ez - 3000))))
  have HB := Lib.hid (bb3 HB.out (show w.heap.size ≤ w.heap.size + 1 + 1 by omega) (.int .i64 (wrap64 (ex - 3000))) (.int .i64 (wrap64 (ey - 3000))) (.int .i64 (wrap64 (ez - 3000))))
  clear sc0 sf0 sc1 sf1 sc2 sf2
  refine hK.out _ _ ?_
  clear hK K
  refine done_ (by kernel_rfl) ?_
  have K0 := Lib.hid ((bo3 (show w.heap.size ≠ w.heap.size + 1 + 1 by omega) (.int .i64 (wrap64 (ex - 3000))) (.int .i64 (wrap64 (ey - 3000))) (.int .i64 (wrap64 (ez - 3000)))).trans K0.out)
  have K1 := Lib.hid ((bo3 (show w.heap.size + 1 ≠ w.heap.size + 1 + 1 by omega) (.int .i64 (wrap64 (ex - 3000))) (.int .i64 (wrap64 (ey - 3000))) (.int .i64 (wrap64 (ez - 3000)))).trans K1.out)
  obtain ⟨w6, hwn⟩ : ∃ V, (((wz.setCell ⟨(w.heap.size + 1 + 1), 0, none⟩ (.int .i64 (wrap64 (ex - 3000)))).setCell ⟨(w.heap.size + 1 + 1), 1, none⟩ (.int .i64 (wrap64 (ey - 3000)))).setCell ⟨(w.heap.size + 1 + 1), 2, none⟩ (.int .i64 (wrap64 (ez - 3000)))) = V := ⟨_, rfl⟩
  rw [hwn] at HA HB K0 K1 ⊢
  clear hwn
  have z2_ := HA.out
  rw [HDX'.out, HDY'.out, HDZ'.out] at z2_
  have Z2 := Lib.hid z2_
  have Z0 := K0
  have Z1 := K1
  have W := Lib.hid (W.out.trans HB.out)
  clear HA HB z2_ K0 K1 x0 x1 x2 lx
  have x0 : w6.cell? ⟨w.heap.size, 0, none⟩ = some (.int .i64 px) := (blk_cell Z0.out 0).trans rfl
  have x1 : w6.cell? ⟨w.heap.size, 1, none⟩ = some (.int .i64 py) := (blk_cell Z0.out 1).trans rfl
  have x2 : w6.cell? ⟨w.heap.size, 2, none⟩ = some (.int .i64 pz) := (blk_cell Z0.out 2).trans rfl
  go_wp2_with fail
  refine (HSP.out _).mono ?_
  rintro en w7 ⟨va, rfl, hva, hb⟩
  have Z0 := Lib.hid ((hb.block _ (blk_lt Z0.out)).trans Z0.out)
  have Z1 := Lib.hid ((hb.block _ (blk_lt Z1.out)).trans Z1.out)
  have Z2 := Lib.hid ((hb.block _ (blk_lt Z2.out)).trans Z2.out)
  have W := Lib.hid (bthen W.out hb)
  clear hb x0 x1 x2
  obtain ⟨B0, B1, B2, d0, d1, d2, hvae, _⟩ := hva.out
  obtain ⟨n0, hn0⟩ : ∃ n, LP.length = n := ⟨_, rfl⟩
  obtain ⟨n1, hn1⟩ : ∃ n, axes3.length = n := ⟨_, rfl⟩
  rw [hn0, hn1] at hvae
  subst hvae
  have HVA := Lib.hid hva
  clear hn0 hva
  have hn1' := Lib.hid hn1
  clear hn1
  have x0 : w7.cell? ⟨w.heap.size + 1, 0, none⟩ = some (.int .i64 qx) := (blk_cell Z1.out 0).trans rfl
  have x1 : w7.cell? ⟨w.heap.size + 1, 1, none⟩ = some (.int .i64 qy) := (blk_cell Z1.out 1).trans rfl
  have x2 : w7.cell? ⟨w.heap.size + 1, 2, none⟩ = some (.int .i64 qz) := (blk_cell Z1.out 2).trans rfl
  have lx : w.heap.size + 1 < w7.heap.size := blk_lt Z1.out
  have hb := (Below.refl w7.heap.size w7).alloc (Nat.le_refl _) (.cells #[.slice B0 n0 d0, .slice B1 n1 d1, .slice B2 n1 d2, .int .i64 0] 36)
  have a8 := heap_alloc_new w7 (.cells #[.slice B0 n0 d0, .slice B1 n1 d1, .slice B2 n1 d2, .int .i64 0] 36)
  obtain ⟨w8, hw8⟩ : ∃ V, w7.alloc (.cells #[.slice B0 n0 d0, .slice B1 n1 d1, .slice B2 n1 d2, .int .i64 0] 36) = V := ⟨_, rfl⟩
  obtain ⟨g7, hg7⟩ : ∃ g, w7.heap.size = g := ⟨_, rfl⟩
  rw [hw8] at hb a8
  rw [hg7] at a8
  have G7 := Lib.hid a8
  have Z0 := Lib.hid ((hb.block _ (blk_lt Z0.out)).trans Z0.out)
  have Z1 := Lib.hid ((hb.block _ (blk_lt Z1.out)).trans Z1.out)
  have Z2 := Lib.hid ((hb.block _ (blk_lt Z2.out)).trans Z2.out)
  have W := Lib.hid (bthen W.out hb)
  have HVA := Lib.hid (HVA.out.below hb)
  have hw8' := Lib.hid hw8
  have hg7' := Lib.hid hg7
  clear hb a8 hw8 hg7
  go_wp2_with fail
  rw [hw8'.out, hg7'.out]
  refine (HSQ.out _).mono ?_
  rintro en w9 ⟨vb, rfl, hvb, hb⟩
  have Z0 := Lib.hid ((hb.block _ (blk_lt Z0.out)).trans Z0.out)
  have Z1 := Lib.hid ((hb.block _ (blk_lt Z1.out)).trans Z1.out)
  have Z2 := Lib.hid ((hb.block _ (blk_lt Z2.out)).trans Z2.out)
  have G7 := Lib.hid ((hb.block _ (blk_lt G7.out)).trans G7.out)
  have HVA := Lib.hid (HVA.out.below hb)
  have W := Lib.hid (bthen W.out hb)
  clear hb x0 x1 x2
  obtain ⟨B3, B4, B5, d3, d4, d5, hvbe, _⟩ := hvb.out
  obtain ⟨n3, hn3⟩ : ∃ n, LQ.length = n := ⟨_, rfl⟩
  have hn1 := hn1'.out
  rw [hn3, hn1] at hvbe
  subst hvbe
  have HVB := Lib.hid hvb
  clear hn3 hvb hn1 lx hw8' hg7'
  have hb := (Below.refl w9.heap.size w9).alloc (Nat.le_refl _) (.cells #[.slice B3 n3 d3, .slice B4 n1 d4, .slice B5 n1 d5, .int .i64 0] 36)
  have a10 := heap_alloc_new w9 (.cells #[.slice B3 n3 d3, .slice B4 n1 d4, .slice B5 n1 d5, .int .i64 0] 36)
  obtain ⟨w10, hw10⟩ : ∃ V, w9.alloc (.cells #[.slice B3 n3 d3, .slice B4 n1 d4, .slice B5 n1 d5, .int .i64 0] 36) = V := ⟨_, rfl⟩
  obtain ⟨g9, hg9⟩ : ∃ g, w9.heap.size = g := ⟨_, rfl⟩
  rw [hw10] at hb a10
  rw [hg9] at a10
  have G9 := Lib.hid a10
  have Z0 := Lib.hid ((hb.block _ (blk_lt Z0.out)).trans Z0.out)
  have Z1 := Lib.hid ((hb.block _ (blk_lt Z1.out)).trans Z1.out)
  have Z2 := Lib.hid ((hb.block _ (blk_lt Z2.out)).trans Z2.out)
  have G7 := Lib.hid ((hb.block _ (blk_lt G7.out)).trans G7.out)
  have W := Lib.hid (bthen W.out hb)
  have HVA := Lib.hid (HVA.out.below hb)
  have HVB := Lib.hid (HVB.out.below hb)
  have hw10' := Lib.hid hw10
  have hg9' := Lib.hid hg9
  clear hb a10 hw10 hg9
  go_wp2_with fail
  rw [hw10'.out, hg9'.out]
  clear hw10' hg9'
  have x0 : w10.cell? ⟨g7, 0, none⟩ = some (.slice B0 n0 d0) := (blk_cell G7.out 0).trans rfl
  have x1 : w10.cell? ⟨g7, 1, none⟩ = some (.slice B1 n1 d1) := (blk_cell G7.out 1).trans rfl
  have x2 : w10.cell? ⟨g7, 2, none⟩ = some (.slice B2 n1 d2) := (blk_cell G7.out 2).trans rfl
  have x3 : w10.cell? ⟨g7, 3, none⟩ = some (.int .i64 0) := (blk_cell G7.out 3).trans rfl
  have y0 : w10.cell? ⟨g9, 0, none⟩ = some (.slice B3 n3 d3) := (blk_cell G9.out 0).trans rfl
  have y1 : w10.cell? ⟨g9, 1, none⟩ = some (.slice B4 n1 d4) := (blk_cell G9.out 1).trans rfl
  have y2 : w10.cell? ⟨g9, 2, none⟩ = some (.slice B5 n1 d5) := (blk_cell G9.out 2).trans rfl
  have y3 : w10.cell? ⟨g9, 3, none⟩ = some (.int .i64 0) := (blk_cell G9.out 3).trans rfl
  have v0 : w10.cell? ⟨w.heap.size + 1 + 1, 0, none⟩ = some (.int .i64 dx) := (blk_cell Z2.out 0).trans rfl
  have v1 : w10.cell? ⟨w.heap.size + 1 + 1, 1, none⟩ = some (.int .i64 dy) := (blk_cell Z2.out 1).trans rfl
  have v2 : w10.cell? ⟨w.heap.size + 1 + 1, 2, none⟩ = some (.int .i64 dz) := (blk_cell Z2.out 2).trans rfl
  have l0 : g7 < w10.heap.size := blk_lt G7.out
  have l1 : g9 < w10.heap.size := blk_lt G9.out
  have lv : w.heap.size + 1 + 1 < w10.heap.size := blk_lt Z2.out
  have HB := Lib.hid ((Below.refl (w10.heap.size) w10).drew)
  have FF := Lib.hid (show ∀ V, Hid (Below (w10.heap.size) w10 V) → V.cell? ⟨g7, 0, none⟩ = some (.slice B0 n0 d0) ∧ V.cell? ⟨g7, 1, none⟩ = some (.slice B1 n1 d1) ∧ V.cell? ⟨g7, 2, none⟩ = some (.slice B2 n1 d2) ∧ V.cell? ⟨g7, 3, none⟩ = some (.int .i64 0) ∧ V.cell? ⟨g9, 0, none⟩ = some (.slice B3 n3 d3) ∧ V.cell? ⟨g9, 1, none⟩ = some (.slice B4 n1 d4) ∧ V.cell? ⟨g9, 2, none⟩ = some (.slice B5 n1 d5) ∧ V.cell? ⟨g9, 3, none⟩ = some (.int .i64 0) ∧ V.cell? ⟨w.heap.size + 1 + 1, 0, none⟩ = some (.int .i64 dx) ∧ V.cell? ⟨w.heap.size + 1 + 1, 1, none⟩ = some (.int .i64 dy) ∧ V.cell? ⟨w.heap.size + 1 + 1, 2, none⟩ = some (.int .i64 dz) from fun V HB => ⟨(HB.out.cell (p := ⟨g7, 0, none⟩) (l0)).trans x0, (HB.out.cell (p := ⟨g7, 1, none⟩) (l0)).trans x1, (HB.out.cell (p := ⟨g7, 2, none⟩) (l0)).trans x2, (HB.out.cell (p := ⟨g7, 3, none⟩) (l0)).trans x3, (HB.out.cell (p := ⟨g9, 0, none⟩) (l1)).trans y0, (HB.out.cell (p := ⟨g9, 1, none⟩) (l1)).trans y1, (HB.out.cell (p := ⟨g9, 2, none⟩) (l1)).trans y2, (HB.out.cell (p := ⟨g9, 3, none⟩) (l1)).trans y3, (HB.out.cell (p := ⟨w.heap.size + 1 + 1, 0, none⟩) (lv)).trans v0, (HB.out.cell (p := ⟨w.heap.size + 1 + 1, 1, none⟩) (lv)).trans v1, (HB.out.cell (p := ⟨w.heap.size + 1 + 1, 2, none⟩) (lv)).trans v2⟩)
  refine start_ (n := 11) (S := fun w' => w'.cell? ⟨g7, 0, none⟩ = some (.slice B0 n0 d0) ∧ w'.cell? ⟨g7, 1, none⟩ = some (.slice B1 n1 d1) ∧ w'.cell? ⟨g7, 2, none⟩ = some (.slice B2 n1 d2) ∧ w'.cell? ⟨g7, 3, none⟩ = some (.int .i64 0) ∧ w'.cell? ⟨g9, 0, none⟩ = some (.slice B3 n3 d3) ∧ w'.cell? ⟨g9, 1, none⟩ = some (.slice B4 n1 d4) ∧ w'.cell? ⟨g9, 2, none⟩ = some (.slice B5 n1 d5) ∧ w'.cell? ⟨g9, 3, none⟩ = some (.int .i64 0) ∧ w'.cell? ⟨w.heap.size + 1 + 1, 0, none⟩ = some (.int .i64 dx) ∧ w'.cell? ⟨w.heap.size + 1 + 1, 1, none⟩ = some (.int .i64 dy) ∧ w'.cell? ⟨w.heap.size + 1 + 1, 2, none⟩ = some (.int .i64 dz)) (ds := []) (MT 0 11) (by kernel_rfl) rfl rfl (FF.out _ HB) (fun hHeld => ?_)
  obtain ⟨wd, hwd⟩ : ∃ x, w10.drew = x := ⟨_, rfl⟩
  rw [hwd] at HB hHeld ⊢
  clear hwd
  refine ta_ 0 60 hHeld (h := ?_)
  refine ta_ 1 61 hHeld (h := ?_)
  refine ta_ 2 62 hHeld (h := ?_)
  refine join_ (σ := Nat × Value) 2 (MT 9 2) (fun s => [(63, s.2), (64, .tuple #[.agg #[.int .i64 Rx, .int .i64 Ry, .int .i64 Rz, .int .i64 Rg], .bool true]), (59, .tuple #[.agg #[.int .i64 Rx, .int .i64 Ry, .int .i64 Rz, .int .i64 Rg], .bool true]), (65, .agg #[.int .i64 Rx, .int .i64 Ry, .int .i64 Rz, .int .i64 Rg]), (66, .bool true), (13, .pointer (some ⟨s.1, 0, none⟩))]) (fun (s : Nat × Value) w' => match s with | (s1, s2) => w10.heap.size ≤ s1 ∧ w'.heap[s1]? = some (.cells #[.int .i64 0, .int .i64 0, .int .i64 0, .int .i64 0] 40 (0, 0)) ∧ Below (w10.heap.size) w10 w') ?_ ?_
  rotate_left
  · intro hCont
    refine two_ (i := 3) (j := 8) (Ni := some 63) (Nj := some 13) (MT 4 7) #[true, true, true, false, false, false, false, false, true, false, false] rfl rfl rfl rfl (by kernel_rfl) (by decide) (by decide) (fun K hK => ?_) (fun K hK => ?_)
    · skip
      refine goes_ Try.func30 (by kernel_rfl) rfl #[.agg #[.slice B3 n3 d3, .slice B4 n1 d4, .slice B5 n1 d5, .int .i64 0], aP ⟨dx, dy, dz⟩] (by rfl) rfl rfl (by simp only [List.map_toArray, List.map_cons, List.map_nil]; rfl) ?_
      with_reducible refine (HMV.out _ _ (HVB.out.below HB.out)).mono ?_
      rintro en wz ⟨UB, rfl, hv, hb⟩
      have KB := Lib.hid hv
      have HB := Lib.hid (HB.out.trans (hb.mono (Nat.le_trans (Nat.le_refl _) HB.out.size)))
      clear hb hv
      refine ⟨_, rfl, ?_⟩
      refine hK.out _ _ (FF.out _ HB) (fun hHeld => ?_)
      clear hK K
      refine no_ (h := ?_)
      refine two_ (i := 4) (j := 8) (Ni := some 64) (Nj := some 13) (MT 5 6) #[true, true, true, true, false, false, false, false, true, false, false] rfl rfl rfl rfl (by kernel_rfl) (by decide) (by decide) (fun K hK => ?_) (fun K hK => ?_)
      · skip
        refine goes_ Try.func20 (by kernel_rfl) rfl #[.agg #[.slice B0 n0 d0, .slice B1 n1 d1, .slice B2 n1 d2, .int .i64 0], UB] (by rfl) rfl rfl (by simp only [List.map_toArray, List.map_cons, List.map_nil]; rfl) ?_
        with_reducible refine (HAP.out _ _ _ (HVA.out.below HB.out) KB.out).mono ?_
        rintro en wz ⟨rfl, hb⟩
        have HB := Lib.hid (HB.out.trans (hb.mono (Nat.le_trans (Nat.le_refl _) HB.out.size)))
        clear hb
        refine ⟨_, rfl, ?_⟩
        refine hK.out _ _ (FF.out _ HB) (fun hHeld => ?_)
        clear hK K
        refine no_ (h := ?_)
        refine pu_ 5 59 (h := ?_)
        refine pu_ 6 65 (h := ?_)
        refine pu_ 7 66 (h := ?_)
        refine on_ 8 (some 13) (h := fun K hK => ?_)
        refine value_ (w1 := ?_) (v := ?_) (by rfl) rfl ?_ ?_
        rotate_left 2
        · go_simp
          constructor
          · rfl
          · rfl
        have HA := Lib.hid (ha_new HB.out (.cells #[.int .i64 0, .int .i64 0, .int .i64 0, .int .i64 0] 40))
        have hge := HB.out.size
        have HB := Lib.hid (HB.out.alloc (Nat.le_trans (Nat.le_refl _) HB.out.size) (.cells #[.int .i64 0, .int .i64 0, .int .i64 0, .int .i64 0] 40))
        refine hK.out _ _ (FF.out _ HB) (fun hHeld => ?_)
        clear hK K
        refine no_ (h := ?_)
        exact norm_ (by simp only [putAll, Act.put, List.setIfInBounds_toArray, List.set_cons_zero, List.set_cons_succ]) (hCont (_, UB) _ ⟨hge, HA.out, HB.out⟩)
      · skip
        refine value_ (w1 := ?_) (v := ?_) (by rfl) rfl ?_ ?_
        rotate_left 2
        · go_simp
          constructor
          · rfl
          · rfl
        have HA := Lib.hid (ha_new HB.out (.cells #[.int .i64 0, .int .i64 0, .int .i64 0, .int .i64 0] 40))
        have hge := HB.out.size
        have KB := Lib.hid (KB.out.below ((Below.refl _ _).alloc (Nat.le_refl _) (.cells #[.int .i64 0, .int .i64 0, .int .i64 0, .int .i64 0] 40)))
        have HB := Lib.hid (HB.out.alloc (Nat.le_trans (Nat.le_refl _) HB.out.size) (.cells #[.int .i64 0, .int .i64 0, .int .i64 0, .int .i64 0] 40))
        refine hK.out _ _ (FF.out _ HB) (fun hHeld => ?_)
        clear hK K
        refine no_ (h := ?_)
        refine on_ 4 (some 64) (h := fun K hK => ?_)
        refine goes_ Try.func20 (by kernel_rfl) rfl #[.agg #[.slice B0 n0 d0, .slice B1 n1 d1, .slice B2 n1 d2, .int .i64 0], UB] (by rfl) rfl rfl (by simp only [List.map_toArray, List.map_cons, List.map_nil]; rfl) ?_
        with_reducible refine (HAP.out _ _ _ (HVA.out.below HB.out) KB.out).mono ?_
        rintro en wz ⟨rfl, hb⟩
        have HA := Lib.hid ((hb.block _ (blk_lt HA.out)).trans HA.out)
        have HB := Lib.hid (HB.out.trans (hb.mono (Nat.le_trans (Nat.le_refl _) HB.out.size)))
        clear hb
        refine ⟨_, rfl, ?_⟩
        refine hK.out _ _ (FF.out _ HB) (fun hHeld => ?_)
        clear hK K
        refine no_ (h := ?_)
        refine pu_ 5 59 (h := ?_)
        refine pu_ 6 65 (h := ?_)
        refine pu_ 7 66 (h := ?_)
        exact norm_ (by simp only [putAll, Act.put, List.setIfInBounds_toArray, List.set_cons_zero, List.set_cons_succ]) (hCont (_, UB) _ ⟨hge, HA.out, HB.out⟩)
    · skip
      refine value_ (w1 := ?_) (v := ?_) (by rfl) rfl ?_ ?_
      rotate_left 2
      · go_simp
        constructor
        · rfl
        · rfl
      have HA := Lib.hid (ha_new HB.out (.cells #[.int .i64 0, .int .i64 0, .int .i64 0, .int .i64 0] 40))
      have hge := HB.out.size
      have HB := Lib.hid (HB.out.alloc (Nat.le_trans (Nat.le_refl _) HB.out.size) (.cells #[.int .i64 0, .int .i64 0, .int .i64 0, .int .i64 0] 40))
      refine hK.out _ _ (FF.out _ HB) (fun hHeld => ?_)
      clear hK K
      refine no_ (h := ?_)
      refine on_ 3 (some 63) (h := fun K hK => ?_)
      refine goes_ Try.func30 (by kernel_rfl) rfl #[.agg #[.slice B3 n3 d3, .slice B4 n1 d4, .slice B5 n1 d5, .int .i64 0], aP ⟨dx, dy, dz⟩] (by rfl) rfl rfl (by simp only [List.map_toArray, List.map_cons, List.map_nil]; rfl) ?_
      with_reducible refine (HMV.out _ _ (HVB.out.below HB.out)).mono ?_
      rintro en wz ⟨UB, rfl, hv, hb⟩
      have HA := Lib.hid ((hb.block _ (blk_lt HA.out)).trans HA.out)
      have KB := Lib.hid hv
      have HB := Lib.hid (HB.out.trans (hb.mono (Nat.le_trans (Nat.le_refl _) HB.out.size)))
      clear hb hv
      refine ⟨_, rfl, ?_⟩
      refine hK.out _ _ (FF.out _ HB) (fun hHeld => ?_)
      clear hK K
      refine no_ (h := ?_)
      refine on_ 4 (some 64) (h := fun K hK => ?_)
      refine goes_ Try.func20 (by kernel_rfl) rfl #[.agg #[.slice B0 n0 d0, .slice B1 n1 d1, .slice B2 n1 d2, .int .i64 0], UB] (by rfl) rfl rfl (by simp only [List.map_toArray, List.map_cons, List.map_nil]; rfl) ?_
      with_reducible refine (HAP.out _ _ _ (HVA.out.below HB.out) KB.out).mono ?_
      rintro en wz ⟨rfl, hb⟩
      have HA := Lib.hid ((hb.block _ (blk_lt HA.out)).trans HA.out)
      have HB := Lib.hid (HB.out.trans (hb.mono (Nat.le_trans (Nat.le_refl _) HB.out.size)))
      clear hb
      refine ⟨_, rfl, ?_⟩
      refine hK.out _ _ (FF.out _ HB) (fun hHeld => ?_)
      clear hK K
      refine no_ (h := ?_)
      refine pu_ 5 59 (h := ?_)
      refine pu_ 6 65 (h := ?_)
      refine pu_ 7 66 (h := ?_)
      exact norm_ (by simp only [putAll, Act.put, List.setIfInBounds_toArray, List.set_cons_zero, List.set_cons_succ]) (hCont (_, UB) _ ⟨hge, HA.out, HB.out⟩)
  rintro ⟨AB, UB⟩ wj ⟨hge, HA, HB⟩
  (try simp only at hge HA HB)
  have HA := Lib.hid HA
  have HB := Lib.hid HB
  have hHeld : wj.cell? ⟨g7, 0, none⟩ = some (.slice B0 n0 d0) ∧ wj.cell? ⟨g7, 1, none⟩ = some (.slice B1 n1 d1) ∧ wj.cell? ⟨g7, 2, none⟩ = some (.slice B2 n1 d2) ∧ wj.cell? ⟨g7, 3, none⟩ = some (.int .i64 0) ∧ wj.cell? ⟨g9, 0, none⟩ = some (.slice B3 n3 d3) ∧ wj.cell? ⟨g9, 1, none⟩ = some (.slice B4 n1 d4) ∧ wj.cell? ⟨g9, 2, none⟩ = some (.slice B5 n1 d5) ∧ wj.cell? ⟨g9, 3, none⟩ = some (.int .i64 0) ∧ wj.cell? ⟨w.heap.size + 1 + 1, 0, none⟩ = some (.int .i64 dx) ∧ wj.cell? ⟨w.heap.size + 1 + 1, 1, none⟩ = some (.int .i64 dy) ∧ wj.cell? ⟨w.heap.size + 1 + 1, 2, none⟩ = some (.int .i64 dz) := (FF.out _ HB)
  refine no_ (h := ?_)
  refine on_ 9 (none) (h := fun K hK => ?_)
  have sc0 : World.cell? _ ⟨AB, 0, none⟩ = some (.int .i64 0) := (blk_cell HA.out 0).trans rfl
  have sf0 := blk_frozen HA.out 0
  have sc1 : World.cell? _ ⟨AB, 1, none⟩ = some (.int .i64 0) := (blk_cell HA.out 1).trans rfl
  have sf1 := blk_frozen HA.out 1
  have sc2 : World.cell? _ ⟨AB, 2, none⟩ = some (.int .i64 0) := (blk_cell HA.out 2).trans rfl
  have sf2 := blk_frozen HA.out 2
  have sc3 : World.cell? _ ⟨AB, 3, none⟩ = some (.int .i64 0) := (blk_cell HA.out 3).trans rfl
  have sf3 := blk_frozen HA.out 3
  refine skip_ (w1 := ?_) (by rfl) rfl ?_ ?_
  rotate_left
  · go_simp
    rfl
  have HA := Lib.hid (bs4 HA.out (.int .i64 Rx) (.int .i64 Ry) (.int .i64 Rz) (.int .i64 Rg))
  have HB := Lib.hid (bb4 HB.out (Nat.le_trans (Nat.le_refl _) hge) (.int .i64 Rx) (.int .i64 Ry) (.int .i64 Rz) (.int .i64 Rg))
  clear sc0 sf0 sc1 sf1 sc2 sf2 sc3 sf3
  refine hK.out _ _ (FF.out _ HB) (fun hHeld => ?_)
  clear hK K
  refine pu_ 10 14 (h := ?_)
  refine done_ (by kernel_rfl) ?_
  obtain ⟨w11, hwn⟩ : ∃ V, ((((wj.setCell ⟨AB, 0, none⟩ (.int .i64 Rx)).setCell ⟨AB, 1, none⟩ (.int .i64 Ry)).setCell ⟨AB, 2, none⟩ (.int .i64 Rz)).setCell ⟨AB, 3, none⟩ (.int .i64 Rg)) = V := ⟨_, rfl⟩
  rw [hwn] at HA HB ⊢
  clear hwn
  have V11 := HA
  have hb := HB.out
  have Z0 := Lib.hid ((hb.block _ (blk_lt Z0.out)).trans Z0.out)
  have Z1 := Lib.hid ((hb.block _ (blk_lt Z1.out)).trans Z1.out)
  have Z2 := Lib.hid ((hb.block _ (blk_lt Z2.out)).trans Z2.out)
  have W := Lib.hid (bthen W.out hb)
  clear HA HB hb hge x0 x1 x2 x3 y0 y1 y2 y3 v0 v1 v2 lv l0 l1 HVA HVB HMV HAP
  have x0 : w11.cell? ⟨w.heap.size, 0, none⟩ = some (.int .i64 px) := (blk_cell Z0.out 0).trans rfl
  have x1 : w11.cell? ⟨w.heap.size, 1, none⟩ = some (.int .i64 py) := (blk_cell Z0.out 1).trans rfl
  have x2 : w11.cell? ⟨w.heap.size, 2, none⟩ = some (.int .i64 pz) := (blk_cell Z0.out 2).trans rfl
  have y0 : w11.cell? ⟨w.heap.size + 1, 0, none⟩ = some (.int .i64 qx) := (blk_cell Z1.out 0).trans rfl
  have y1 : w11.cell? ⟨w.heap.size + 1, 1, none⟩ = some (.int .i64 qy) := (blk_cell Z1.out 1).trans rfl
  have y2 : w11.cell? ⟨w.heap.size + 1, 2, none⟩ = some (.int .i64 qz) := (blk_cell Z1.out 2).trans rfl
  have v0 : w11.cell? ⟨w.heap.size + 1 + 1, 0, none⟩ = some (.int .i64 dx) := (blk_cell Z2.out 0).trans rfl
  have v1 : w11.cell? ⟨w.heap.size + 1 + 1, 1, none⟩ = some (.int .i64 dy) := (blk_cell Z2.out 1).trans rfl
  have v2 : w11.cell? ⟨w.heap.size + 1 + 1, 2, none⟩ = some (.int .i64 dz) := (blk_cell Z2.out 2).trans rfl
  have l0 : w.heap.size < w11.heap.size := blk_lt Z0.out
  have l1 : w.heap.size + 1 < w11.heap.size := blk_lt Z1.out
  have lv : w.heap.size + 1 + 1 < w11.heap.size := blk_lt Z2.out
  go_wp2_with fail
  have HB := Lib.hid ((Below.refl (w11.heap.size) w11).drew)
  have FF := Lib.hid (show ∀ V, Hid (Below (w11.heap.size) w11 V) → V.cell? ⟨w.heap.size, 0, none⟩ = some (.int .i64 px) ∧ V.cell? ⟨w.heap.size, 1, none⟩ = some (.int .i64 py) ∧ V.cell? ⟨w.heap.size, 2, none⟩ = some (.int .i64 pz) ∧ V.cell? ⟨w.heap.size + 1, 0, none⟩ = some (.int .i64 qx) ∧ V.cell? ⟨w.heap.size + 1, 1, none⟩ = some (.int .i64 qy) ∧ V.cell? ⟨w.heap.size + 1, 2, none⟩ = some (.int .i64 qz) ∧ V.cell? ⟨w.heap.size + 1 + 1, 0, none⟩ = some (.int .i64 dx) ∧ V.cell? ⟨w.heap.size + 1 + 1, 1, none⟩ = some (.int .i64 dy) ∧ V.cell? ⟨w.heap.size + 1 + 1, 2, none⟩ = some (.int .i64 dz) from fun V HB => ⟨(HB.out.cell (p := ⟨w.heap.size, 0, none⟩) (l0)).trans x0, (HB.out.cell (p := ⟨w.heap.size, 1, none⟩) (l0)).trans x1, (HB.out.cell (p := ⟨w.heap.size, 2, none⟩) (l0)).trans x2, (HB.out.cell (p := ⟨w.heap.size + 1, 0, none⟩) (l1)).trans y0, (HB.out.cell (p := ⟨w.heap.size + 1, 1, none⟩) (l1)).trans y1, (HB.out.cell (p := ⟨w.heap.size + 1, 2, none⟩) (l1)).trans y2, (HB.out.cell (p := ⟨w.heap.size + 1 + 1, 0, none⟩) (lv)).trans v0, (HB.out.cell (p := ⟨w.heap.size + 1 + 1, 1, none⟩) (lv)).trans v1, (HB.out.cell (p := ⟨w.heap.size + 1 + 1, 2, none⟩) (lv)).trans v2⟩)
  refine start_ (n := 33) (S := fun w' => w'.cell? ⟨w.heap.size, 0, none⟩ = some (.int .i64 px) ∧ w'.cell? ⟨w.heap.size, 1, none⟩ = some (.int .i64 py) ∧ w'.cell? ⟨w.heap.size, 2, none⟩ = some (.int .i64 pz) ∧ w'.cell? ⟨w.heap.size + 1, 0, none⟩ = some (.int .i64 qx) ∧ w'.cell? ⟨w.heap.size + 1, 1, none⟩ = some (.int .i64 qy) ∧ w'.cell? ⟨w.heap.size + 1, 2, none⟩ = some (.int .i64 qz) ∧ w'.cell? ⟨w.heap.size + 1 + 1, 0, none⟩ = some (.int .i64 dx) ∧ w'.cell? ⟨w.heap.size + 1 + 1, 1, none⟩ = some (.int .i64 dy) ∧ w'.cell? ⟨w.heap.size + 1 + 1, 2, none⟩ = some (.int .i64 dz)) (ds := []) (MT 0 33) (by kernel_rfl) rfl rfl (FF.out _ HB) (fun hHeld => ?_)
  obtain ⟨wd, hwd⟩ : ∃ x, w11.drew = x := ⟨_, rfl⟩
  rw [hwd] at HB hHeld ⊢
  clear hwd
  refine pu_ 0 67 (h := ?_)
  refine pu_ 1 68 (h := ?_)
  refine pu_ 4 71 (h := ?_)
  refine pu_ 7 74 (h := ?_)
  refine pu_ 10 77 (h := ?_)
  refine pu_ 11 78 (h := ?_)
  refine pu_ 14 81 (h := ?_)
  refine pu_ 17 84 (h := ?_)
  refine pu_ 20 87 (h := ?_)
  refine pu_ 21 88 (h := ?_)
  refine pu_ 24 91 (h := ?_)
  refine pu_ 27 94 (h := ?_)
  refine ta_ 2 69 hHeld (h := ?_)
  refine ta_ 5 72 hHeld (h := ?_)
  refine ta_ 8 75 hHeld (h := ?_)
  refine ta_ 12 79 hHeld (h := ?_)
  refine ta_ 15 82 hHeld (h := ?_)
  refine ta_ 18 85 hHeld (h := ?_)
  refine ta_ 22 89 hHeld (h := ?_)
  refine ta_ 25 92 hHeld (h := ?_)
  refine ta_ 28 95 hHeld (h := ?_)
  refine on_ 3 (some 70) (h := fun K hK => ?_)
  refine goesg_ (.tmp 67) Try.func48 (by kernel_rfl) rfl #[.int .i64 dx] (by rfl) rfl rfl (by rfl) (by simp only [List.map_toArray, List.map_cons, List.map_nil]; rfl) ?_
  with_reducible refine (HBX.out _).mono ?_
  rintro e' wz ⟨rfl, rfl⟩
  refine ⟨_, rfl, ?_⟩
  refine hK.out _ _ (FF.out _ HB) (fun hHeld => ?_)
  clear hK K
  refine no_ (h := ?_)
  refine pu_ 6 73 (h := ?_)
  refine pu_ 9 76 (h := ?_)
  refine on_ 13 (some 80) (h := fun K hK => ?_)
  refine goesg_ (.tmp 77) Try.func48 (by kernel_rfl) rfl #[.int .i64 dy] (by rfl) rfl rfl (by rfl) (by simp only [List.map_toArray, List.map_cons, List.map_nil]; rfl) ?_
  with_reducible refine (HBY.out _).mono ?_
  rintro e' wz ⟨rfl, rfl⟩
  refine ⟨_, rfl, ?_⟩
  refine hK.out _ _ (FF.out _ HB) (fun hHeld => ?_)
  clear hK K
  refine no_ (h := ?_)
  refine pu_ 16 83 (h := ?_)
  refine pu_ 19 86 (h := ?_)
  refine on_ 23 (some 90) (h := fun K hK => ?_)
  refine goesg_ (.tmp 87) Try.func48 (by kernel_rfl) rfl #[.int .i64 dz] (by rfl) rfl rfl (by rfl) (by simp only [List.map_toArray, List.map_cons, List.map_nil]; rfl) ?_
  with_reducible refine (HBZ.out _).mono ?_
  rintro e' wz ⟨rfl, rfl⟩
  refine ⟨_, rfl, ?_⟩
  refine hK.out _ _ (FF.out _ HB) (fun hHeld => ?_)
  clear hK K
  refine no_ (h := ?_)
  refine pu_ 26 93 (h := ?_)
  refine pu_ 29 96 (h := ?_)
  refine pu_ 30 97 (h := ?_)
  refine pu_ 31 98 (h := ?_)
  refine pu_ 32 16 (h := ?_)
  refine done_ (by kernel_rfl) ?_
  have s3 : wz.cell? ⟨AB, 3, none⟩ = some (.int .i64 Rg) := (blk_cell ((HB.out.block _ (blk_lt V11.out)).trans V11.out) 3).trans rfl
  have hG := HG.out
  have W := Lib.hid (bthen W.out HB.out)
  clear HB x0 x1 x2 y0 y1 y2 v0 v1 v2 l0 l1 lv
  go_wp2
  go_ret
  exact ⟨rfl, W.out⟩
end Go.Proofs.Ytckdhahceelckaa.G
