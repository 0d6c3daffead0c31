/- What the laws of this claim lean on: contracts of the functions that they reach, and plain lemmas; no condition of its own (part 4 of 6; the texts XW31, XW32, XG6, XW29, XW33, XW34, XW35, XG4, XG7, XW36, XW37, XL2, XR2, XG9). -/
import Derived.Test.YtckdhahceelckaaKSU3
import Derived.Maps.AppendAt
namespace Go.Proofs.Ytckdhahceelckaa.G
open Go.RowKit Go.Proofs.YtckdhahceelckaaW.PrintWords Go.Proofs.YtckdhahceelckaaW.PrintLast Go.Proofs.YtckdhahceelckaaW.PrintMore
attribute [local go_sem] max2_mx min2_mn max_two min_two max_three min_three max_four min_four
attribute [local go_sem high] eqA23
set_option linter.unusedVariables false
set_option linter.unusedSimpArgs false
theorem RdB_blk {w : World} {g : Nat} {l : List P3} {t : TypeId} (h : w.heap[g]? = some (.cells (cells3 l).toArray t (0, 0))) : RdB w (some ⟨g, 0, none⟩) l :=
  ⟨Rd.of_cells (blk_lt h) (fun j u hu => by rw [Nat.zero_add]; exact (blk_cell h j).trans (by rw [List.getElem?_toArray]; exact hu)), fun ad e => by cases e; exact blk_lt h⟩
set_option maxHeartbeats 4000000 in
set_option maxRecDepth 100000 in
theorem core_2 (r : Int) (h : P3) (A : Option Addr) (n c : Nat) (hr0 : 1 ≤ r) (hr1 : r ≤ 16384) (hh : halfOk h) (w : World) :
    Calls Try.prog 53 #[.agg (cS 2 r h A n c)] w (CorePost [⟨-h.x, 0, 0⟩, ⟨h.x, 0, 0⟩] [] [⟨1, 0, 0⟩] r w) := by
  have HC := Lh (check_123 2 r h A n c (.inr (.inl rfl)) hr0 hr1 hh)
  have hx1 := hh.1
  have hx2 := hh.2.1
  clear hr0 hr1 hh
  obtain ⟨hx, hy, hz⟩ := h
  simp only at hx1 hx2
  go_enter Try.func53, Try.ntmps53
  go_wp2_with fail
  obtain ⟨w0, hw0⟩ : ∃ w0, (w.alloc (.cells (cS 2 r ⟨hx, hy, hz⟩ A n c) 78)).alloc (.cells #[.slice none 0 0, .slice none 0 0, .slice none 0 0, .int .i64 0] 36) = w0 := ⟨_, rfl⟩
  have C0 : Hid (w0.heap[w.heap.size]? = some (.cells (cS 2 r ⟨hx, hy, hz⟩ A n c) 78 (0, 0))) := Lh (by rw [← hw0]; exact (Below.heap_alloc _ _ _ (by simp)).trans (heap_alloc_new w _))
  have R0 : Hid (w0.heap[w.heap.size + 1]? = some (.cells #[.slice none 0 0, .slice none 0 0, .slice none 0 0, .int .i64 0] 36 (0, 0))) := Lh (by rw [← hw0]; have h := heap_alloc_new (w.alloc (.cells (cS 2 r ⟨hx, hy, hz⟩ A n c) 78)) (.cells #[.slice none 0 0, .slice none 0 0, .slice none 0 0, .int .i64 0] 36); rw [World.size_alloc] at h; exact h)
  have W0 := Lh (show Below w.heap.size w w0 by rw [← hw0]; exact ((Below.refl _ w).alloc (Nat.le_refl _) _).alloc (by simp) _)
  rw [hw0]
  clear hw0
  refine (HC.out _).mono ?_
  rintro e w1 ⟨rfl, hb⟩
  have C1 := Lh ((hb.block _ (blk_lt C0.out)).trans C0.out)
  have R1 := Lh ((hb.block _ (blk_lt R0.out)).trans R0.out)
  have W1 := Lh (bthen W0.out hb)
  clear hb C0 R0 W0
  have c0 : w1.cell? ⟨w.heap.size, 0, none⟩ = some (.int .i64 2) := (blk_cell C1.out 0).trans rfl
  have c2 : w1.cell? ⟨w.heap.size, 2, none⟩ = some (.int .i64 hx) := (blk_cell C1.out 2).trans rfl
  have c1 : w1.cell? ⟨w.heap.size, 1, none⟩ = some (.int .i64 r) := (blk_cell C1.out 1).trans rfl
  have l0 : w.heap.size < w1.heap.size := blk_lt C1.out
  have l1 : w.heap.size + 1 < w1.heap.size := blk_lt R1.out
  have r0 : w1.cell? ⟨w.heap.size + 1, 0, none⟩ = some (.slice none 0 0) := (blk_cell R1.out 0).trans rfl
  have r1 : w1.cell? ⟨w.heap.size + 1, 1, none⟩ = some (.slice none 0 0) := (blk_cell R1.out 1).trans rfl
  have r2 : w1.cell? ⟨w.heap.size + 1, 2, none⟩ = some (.slice none 0 0) := (blk_cell R1.out 2).trans rfl
  have r3 : w1.cell? ⟨w.heap.size + 1, 3, none⟩ = some (.int .i64 0) := (blk_cell R1.out 3).trans rfl
  have f0 : w1.frozen? ⟨w.heap.size + 1, 0, none⟩ = false := blk_frozen R1.out 0
  have f1 : w1.frozen? ⟨w.heap.size + 1, 1, none⟩ = false := blk_frozen R1.out 1
  have f2 : w1.frozen? ⟨w.heap.size + 1, 2, none⟩ = false := blk_frozen R1.out 2
  have f3 : w1.frozen? ⟨w.heap.size + 1, 3, none⟩ = false := blk_frozen R1.out 3
  have T := bs4 R1.out (.slice (some ⟨w1.heap.size + 1, 0, none⟩) 2 2) (.slice none 0 0) (.slice (some ⟨w1.heap.size + 1 + 1, 0, none⟩) 1 1) (.int .i64 r)
  have HB := bb4 W1.out (show w.heap.size ≤ w.heap.size + 1 by omega) (.slice (some ⟨w1.heap.size + 1, 0, none⟩) 2 2) (.slice none 0 0) (.slice (some ⟨w1.heap.size + 1 + 1, 0, none⟩) 1 1) (.int .i64 r)
  obtain ⟨w2, hw2⟩ : ∃ V, ((((w1.setCell ⟨w.heap.size + 1, 0, none⟩ (.slice (some ⟨w1.heap.size + 1, 0, none⟩) 2 2)).setCell ⟨w.heap.size + 1, 1, none⟩ (.slice none 0 0)).setCell ⟨w.heap.size + 1, 2, none⟩ (.slice (some ⟨w1.heap.size + 1 + 1, 0, none⟩) 1 1)).setCell ⟨w.heap.size + 1, 3, none⟩ (.int .i64 r)) = V := ⟨_, rfl⟩
  have z2 : w2.heap.size = w1.heap.size := by rw [← hw2]; simp
  rw [hw2] at T HB
  have Z2 := Lh z2
  clear z2
  have T := Lh T
  have HB := Lh HB
  have H2 := Lh hw2
  clear hw2
  go_wp2
  rw [H2.out]
  have l2 : w.heap.size ≤ w2.heap.size := HB.out.size
  have B3 := (Below.refl w2.heap.size w2).alloc (Nat.le_refl _) (.cells #[.slice (some ⟨w1.heap.size + 1, 0, none⟩) 2 2, .slice none 0 0, .slice (some ⟨w1.heap.size + 1 + 1, 0, none⟩) 1 1, .int .i64 r] 36)
  have B4 := B3.alloc (by simp) (.cells #[.int .i64 (-hx), .int .i64 0, .int .i64 0, .int .i64 hx, .int .i64 0, .int .i64 0] 23)
  have B5 := B4.alloc (by simp; omega) (.cells #[.int .i64 1, .int .i64 0, .int .i64 0] 23)
  have QT := heap_alloc_new (w2.alloc (.cells #[.slice (some ⟨w1.heap.size + 1, 0, none⟩) 2 2, .slice none 0 0, .slice (some ⟨w1.heap.size + 1 + 1, 0, none⟩) 1 1, .int .i64 r] 36)) (.cells #[.int .i64 (-hx), .int .i64 0, .int .i64 0, .int .i64 hx, .int .i64 0, .int .i64 0] 23)
  rw [World.size_alloc, Z2.out] at QT
  have QT := (Below.heap_alloc _ (.cells #[.int .i64 1, .int .i64 0, .int .i64 0] 23) _ (blk_lt QT)).trans QT
  have QE := heap_alloc_new ((w2.alloc (.cells #[.slice (some ⟨w1.heap.size + 1, 0, none⟩) 2 2, .slice none 0 0, .slice (some ⟨w1.heap.size + 1 + 1, 0, none⟩) 1 1, .int .i64 r] 36)).alloc (.cells #[.int .i64 (-hx), .int .i64 0, .int .i64 0, .int .i64 hx, .int .i64 0, .int .i64 0] 23)) (.cells #[.int .i64 1, .int .i64 0, .int .i64 0] 23)
  rw [World.size_alloc, World.size_alloc, Z2.out] at QE
  have T4 := (B5.block _ (blk_lt T.out)).trans T.out
  have y0 : (((w2.alloc (.cells #[.slice (some ⟨w1.heap.size + 1, 0, none⟩) 2 2, .slice none 0 0, .slice (some ⟨w1.heap.size + 1 + 1, 0, none⟩) 1 1, .int .i64 r] 36)).alloc (.cells #[.int .i64 (-hx), .int .i64 0, .int .i64 0, .int .i64 hx, .int .i64 0, .int .i64 0] 23)).alloc (.cells #[.int .i64 1, .int .i64 0, .int .i64 0] 23)).cell? ⟨w.heap.size + 1, 0, none⟩ = some (.slice (some ⟨w1.heap.size + 1, 0, none⟩) 2 2) := (blk_cell T4 0).trans rfl
  have y1 : (((w2.alloc (.cells #[.slice (some ⟨w1.heap.size + 1, 0, none⟩) 2 2, .slice none 0 0, .slice (some ⟨w1.heap.size + 1 + 1, 0, none⟩) 1 1, .int .i64 r] 36)).alloc (.cells #[.int .i64 (-hx), .int .i64 0, .int .i64 0, .int .i64 hx, .int .i64 0, .int .i64 0] 23)).alloc (.cells #[.int .i64 1, .int .i64 0, .int .i64 0] 23)).cell? ⟨w.heap.size + 1, 1, none⟩ = some (.slice none 0 0) := (blk_cell T4 1).trans rfl
  have y2 : (((w2.alloc (.cells #[.slice (some ⟨w1.heap.size + 1, 0, none⟩) 2 2, .slice none 0 0, .slice (some ⟨w1.heap.size + 1 + 1, 0, none⟩) 1 1, .int .i64 r] 36)).alloc (.cells #[.int .i64 (-hx), .int .i64 0, .int .i64 0, .int .i64 hx, .int .i64 0, .int .i64 0] 23)).alloc (.cells #[.int .i64 1, .int .i64 0, .int .i64 0] 23)).cell? ⟨w.heap.size + 1, 2, none⟩ = some (.slice (some ⟨w1.heap.size + 1 + 1, 0, none⟩) 1 1) := (blk_cell T4 2).trans rfl
  have y3 : (((w2.alloc (.cells #[.slice (some ⟨w1.heap.size + 1, 0, none⟩) 2 2, .slice none 0 0, .slice (some ⟨w1.heap.size + 1 + 1, 0, none⟩) 1 1, .int .i64 r] 36)).alloc (.cells #[.int .i64 (-hx), .int .i64 0, .int .i64 0, .int .i64 hx, .int .i64 0, .int .i64 0] 23)).alloc (.cells #[.int .i64 1, .int .i64 0, .int .i64 0] 23)).cell? ⟨w.heap.size + 1, 3, none⟩ = some (.int .i64 r) := (blk_cell T4 3).trans rfl
  have HB4 := HB.out.trans (B5.mono l2)
  exact bodyPost_ret (v := .tuple #[.agg #[.slice (some ⟨w1.heap.size + 1, 0, none⟩) 2 2, .slice none 0 0, .slice (some ⟨w1.heap.size + 1 + 1, 0, none⟩) 1 1, .int .i64 r], .int .i64 0]) (by simp [results, Try.results53, go_sem, y0, y1, y2, y3]) rfl ⟨_, rfl, ⟨_, none, _, 2, 0, 1, rfl, RdB_blk QT, RdB.nil _, Rd_one QE, Nat.le_refl _, Nat.le_refl _, Nat.le_refl _⟩, HB4⟩
end Go.Proofs.Ytckdhahceelckaa.G
namespace Go.Proofs.Ytckdhahceelckaa.G
open Go.RowKit Go.Proofs.YtckdhahceelckaaW.PrintWords Go.Proofs.YtckdhahceelckaaW.PrintLast Go.Proofs.YtckdhahceelckaaW.PrintMore
attribute [local go_sem] max2_mx min2_mn max_two min_two max_three min_three max_four min_four
attribute [local go_sem high] eqA23
set_option linter.unusedVariables false
set_option linter.unusedSimpArgs false
def corner (h : P3) (k : Nat) : P3 := ⟨(((k / 4 : Nat) : Int) * 2 - 1) * h.x, (((k / 2 % 2 : Nat) : Int) * 2 - 1) * h.y, (((k % 2 : Nat) : Int) * 2 - 1) * h.z⟩
def corners (h : P3) : List P3 := (List.range 8).map (corner h)
theorem corners_take (h : P3) (k : Nat) (hk : k < 8) : (corners h).take (k + 1) = (corners h).take k ++ [corner h k] := by
  unfold corners
  rw [← List.map_take, ← List.map_take, List.take_range, List.take_range, show min (k + 1) 8 = k + 1 by omega, show min k 8 = k by omega, List.range_succ, List.map_append]
  rfl
theorem sg_in (u : Int) (x : Int) (hu : u = 0 ∨ u = 1) (h1 : 1 ≤ x) (h2 : x ≤ 65536) : -65536 ≤ (u * 2 - 1) * x ∧ (u * 2 - 1) * x ≤ 65536 := by rcases hu with rfl | rfl <;> simp <;> omega
theorem quo_nat (k m : Nat) : (k : Int).tdiv (m : Int) = ((k / m : Nat) : Int) := rfl
theorem rem_nat (k m : Nat) : (k : Int).tmod (m : Int) = ((k % m : Nat) : Int) := rfl
set_option maxHeartbeats 4000000 in
set_option maxRecDepth 100000 in
theorem core_3 (r : Int) (h : P3) (A : Option Addr) (n c : Nat) (hr0 : 1 ≤ r) (hr1 : r ≤ 16384) (hh : halfOk h) (w : World) :
    Calls Try.prog 53 #[.agg (cS 3 r h A n c)] w (CorePost (corners h) [⟨1, 0, 0⟩, ⟨0, 1, 0⟩, ⟨0, 0, 1⟩] [⟨1, 0, 0⟩, ⟨0, 1, 0⟩, ⟨0, 0, 1⟩] r w) := by
  have HC := Lh (check_123 3 r h A n c (.inr (.inr rfl)) hr0 hr1 hh)
  obtain ⟨hx1, hx2, hy1, hy2, hz1, hz2⟩ := hh
  have HX := Lh (fun u hu => sg_in u h.x hu hx1 hx2)
  have HY := Lh (fun u hu => sg_in u h.y hu hy1 hy2)
  have HZ := Lh (fun u hu => sg_in u h.z hu hz1 hz2)
  clear hr0 hr1 hx1 hx2 hy1 hy2 hz1 hz2
  obtain ⟨hx, hy, hz⟩ := h
  simp only at HX HY HZ
  go_enter Try.func53, Try.ntmps53
  go_wp2_with fail
  obtain ⟨w0, hw0⟩ : ∃ w0, (w.alloc (.cells (cS 3 r ⟨hx, hy, hz⟩ A n c) 78)).alloc (.cells #[.slice none 0 0, .slice none 0 0, .slice none 0 0, .int .i64 0] 36) = w0 := ⟨_, rfl⟩
  have C0 : Hid (w0.heap[w.heap.size]? = some (.cells (cS 3 r ⟨hx, hy, hz⟩ A n c) 78 (0, 0))) := Lh (by rw [← hw0]; exact (Below.heap_alloc _ _ _ (by simp)).trans (heap_alloc_new w _))
  have R0 : Hid (w0.heap[w.heap.size + 1]? = some (.cells #[.slice none 0 0, .slice none 0 0, .slice none 0 0, .int .i64 0] 36 (0, 0))) := Lh (by rw [← hw0]; have h := heap_alloc_new (w.alloc (.cells (cS 3 r ⟨hx, hy, hz⟩ A n c) 78)) (.cells #[.slice none 0 0, .slice none 0 0, .slice none 0 0, .int .i64 0] 36); rw [World.size_alloc] at h; exact h)
  have W0 := Lh (show Below w.heap.size w w0 by rw [← hw0]; exact ((Below.refl _ w).alloc (Nat.le_refl _) _).alloc (by simp) _)
  rw [hw0]
  clear hw0
  refine (HC.out _).mono ?_
  rintro e w1 ⟨rfl, hb⟩
  have C1 := Lh ((hb.block _ (blk_lt C0.out)).trans C0.out)
  have R1 := Lh ((hb.block _ (blk_lt R0.out)).trans R0.out)
  have W1 := Lh (bthen W0.out hb)
  clear hb C0 R0 W0
  have c0 : w1.cell? ⟨w.heap.size, 0, none⟩ = some (.int .i64 3) := (blk_cell C1.out 0).trans rfl
  have c1 : w1.cell? ⟨w.heap.size, 1, none⟩ = some (.int .i64 r) := (blk_cell C1.out 1).trans rfl
  have l0 : w.heap.size < w1.heap.size := blk_lt C1.out
  have l1 : w.heap.size + 1 < w1.heap.size := blk_lt R1.out
  obtain ⟨w2, hw2⟩ : ∃ w2, w1.alloc (.cells #[.slice none 0 0, .slice none 0 0, .slice none 0 0, .int .i64 r] 36) = w2 := ⟨_, rfl⟩
  obtain ⟨CB, hCB⟩ : ∃ g, w1.heap.size = g := ⟨_, rfl⟩
  have hCBs := Lh hCB
  have B2 := (Below.refl w1.heap.size w1).alloc (Nat.le_refl _) (.cells #[.slice none 0 0, .slice none 0 0, .slice none 0 0, .int .i64 r] 36)
  have O2 := heap_alloc_new w1 (.cells #[.slice none 0 0, .slice none 0 0, .slice none 0 0, .int .i64 r] 36)
  rw [hw2] at B2 O2
  rw [hCB] at O2
  have C2 := Lh ((B2.block _ l0).trans C1.out)
  have R2 := Lh ((B2.block _ l1).trans R1.out)
  have W2 := Lh (bthen W1.out B2)
  have O2 := Lh O2
  have z2 : w2.heap.size = CB + 1 := by rw [← hw2, ← hCB]; simp
  have Z2 := Lh z2
  have lS : w.heap.size + 1 < CB := by omega
  have hw2' := Lh hw2
  have hlS := Lh lS
  clear hw2 B2 z2 hCB C1 R1 W1 lS
  go_wp2_with fail
  rw [hw2'.out, hCBs.out]
  clear hw2' hCBs c0 c1 l0 l1
  have HC' := HC
  clear HC
  go_loopw [6] (fun v6 wr => ∃ (k : Nat) (vp : Value), k ≤ 8 ∧ v6 = .int .i64 k ∧ Hid (OwnP wr (CB + 1) vp ((corners ⟨hx, hy, hz⟩).take k)) ∧ Hid (wr.heap[CB]? = some (.cells #[vp, .slice none 0 0, .slice none 0 0, .int .i64 r] 36 (0, 0))) ∧ Hid (Below CB w2 wr)) (fun i _ => 8 - (intOf i).toNat)
  case atStart => exact ⟨0, .slice none 0 0, by omega, rfl, Lh (OwnP.nil _ _), O2, Lh (Below.refl _ _)⟩
  case round =>
    obtain ⟨k, vp, hk, rfl, hO, hT, hB⟩ := hrel
    obtain ⟨wo, hwo⟩ : ∃ wo : World, wo = wr := ⟨_, rfl⟩
    subst hwo
    have lS := hlS.out
    have C3 := Lh ((hB.out.block _ (show w.heap.size < CB by omega)).trans C2.out)
    have lC : CB < wo.heap.size := blk_lt hT.out
    have hlC := Lh lC
    have c0 : wo.cell? ⟨CB, 0, none⟩ = some vp := (blk_cell hT.out 0).trans rfl
    by_cases hlt : k < 8
    · have hTK := corners_take ⟨hx, hy, hz⟩ k hlt
      obtain ⟨ok, hok⟩ : ∃ ok, (corners ⟨hx, hy, hz⟩).take k = ok := ⟨_, rfl⟩
      have hlen : ok.length ≤ 1000 := by rw [← hok]; have := List.length_take_le k (corners ⟨hx, hy, hz⟩); omega
      rw [hok] at hO hTK
      have b2 : wo.cell? ⟨w.heap.size, 2, none⟩ = some (.int .i64 hx) := (blk_cell C3.out 2).trans rfl
      have b3 : wo.cell? ⟨w.heap.size, 3, none⟩ = some (.int .i64 hy) := (blk_cell C3.out 3).trans rfl
      have b4 : wo.cell? ⟨w.heap.size, 4, none⟩ = some (.int .i64 hz) := (blk_cell C3.out 4).trans rfl
      have q4 : (k : Int).tdiv 4 = ((k / 4 : Nat) : Int) := quo_nat k 4
      have q2 : (k : Int).tdiv 2 = ((k / 2 : Nat) : Int) := quo_nat k 2
      have m2 : ((k / 2 : Nat) : Int).tmod 2 = ((k / 2 % 2 : Nat) : Int) := rem_nat (k / 2) 2
      have s2 : (k : Int).tmod 2 = ((k % 2 : Nat) : Int) := rem_nat k 2
      have o1 : ((k / 4 : Nat) : Int) = 0 ∨ ((k / 4 : Nat) : Int) = 1 := by omega
      have o2 : ((k / 2 : Nat) : Int) ≤ 4 ∧ 0 ≤ ((k / 2 : Nat) : Int) := by omega
      have o3 : ((k / 2 % 2 : Nat) : Int) = 0 ∨ ((k / 2 % 2 : Nat) : Int) = 1 := by omega
      have o4 : ((k % 2 : Nat) : Int) = 0 ∨ ((k % 2 : Nat) : Int) = 1 := by omega
      have hcr : corner ⟨hx, hy, hz⟩ k = ⟨(((k / 4 : Nat) : Int) * 2 - 1) * hx, (((k / 2 % 2 : Nat) : Int) * 2 - 1) * hy, (((k % 2 : Nat) : Int) * 2 - 1) * hz⟩ := rfl
      obtain ⟨u4, hu4⟩ : ∃ u, ((k / 4 : Nat) : Int) = u := ⟨_, rfl⟩
      obtain ⟨u2, hu2⟩ : ∃ u, ((k / 2 : Nat) : Int) = u := ⟨_, rfl⟩
      obtain ⟨v2, hv2⟩ : ∃ u, ((k / 2 % 2 : Nat) : Int) = u := ⟨_, rfl⟩
      obtain ⟨z2, hz2⟩ : ∃ u, ((k % 2 : Nat) : Int) = u := ⟨_, rfl⟩
      rw [hu4] at q4 o1 hcr
      rw [hu2] at q2 m2 o2
      rw [hv2] at m2 o3 hcr
      rw [hz2] at s2 o4 hcr
      clear hu4 hu2 hv2 hz2
      obtain ⟨x1, x2⟩ := HX.out u4 o1
      obtain ⟨y1, y2⟩ := HY.out v2 o3
      obtain ⟨z1, z3⟩ := HZ.out z2 o4
      obtain ⟨g1, g1'⟩ : ∃ g, u4 * 2 - 1 = g := ⟨_, rfl⟩
      obtain ⟨g2, g2'⟩ : ∃ g, v2 * 2 - 1 = g := ⟨_, rfl⟩
      obtain ⟨g3, g3'⟩ : ∃ g, z2 * 2 - 1 = g := ⟨_, rfl⟩
      rw [g1'] at x1 x2 hcr
      rw [g2'] at y1 y2 hcr
      rw [g3'] at z1 z3 hcr
      obtain ⟨dx, hdx⟩ : ∃ g, g1 * hx = g := ⟨_, rfl⟩
      obtain ⟨dy, hdy⟩ : ∃ g, g2 * hy = g := ⟨_, rfl⟩
      obtain ⟨dz, hdz⟩ : ∃ g, g3 * hz = g := ⟨_, rfl⟩
      rw [hdx] at x1 x2 hcr
      rw [hdy] at y1 y2 hcr
      rw [hdz] at z1 z3 hcr
      rw [hcr] at hTK
      have hTK := Lh hTK
      clear hcr hok
      have hki : (k : Int) < 8 := by omega
      have hO9 := Lh (hO.out.grown ((Below.refl _ wo).alloc (Nat.le_refl _) (.cells #[.int .i64 dx, .int .i64 dy, .int .i64 dz] 23)))
      have hT9 := Lh ((Below.heap_alloc _ (.cells #[.int .i64 dx, .int .i64 dy, .int .i64 dz] 23) _ lC).trans hT.out)
      have hB9 := Lh (hB.out.alloc (Nat.le_of_lt lC) (.cells #[.int .i64 dx, .int .i64 dy, .int .i64 dz] 23))
      have hR9 := (Rd_one (heap_alloc_new wo (.cells #[.int .i64 dx, .int .i64 dy, .int .i64 dz] 23))).1
      clear lS
      go_wp2_with (at_builtin; refine append_pts (CB + 1) rfl _ _ rfl _ ok [⟨dx, dy, dz⟩] _ _ _ rfl rfl hO9.out hR9 rfl (by simp; omega) (by simp; omega) ?_; intro v2 w9 hv2 hg2; obtain ⟨Av, nv, cv, hvv⟩ : ∃ A n c, v2 = .slice A n c := (by obtain ⟨A, c, h, _⟩ := OwnP.rd hv2; exact ⟨A, _, c, h⟩); subst hvv; have hT10 := Lh ((hg2.block CB (blk_lt hT9.out) (fun e => by have := hO9.out.base_ _ e.symm; omega)).trans hT9.out); have hB10 := Lh (hB9.out.grown hg2 (by simp; omega) (fun k hk => by have := hO9.out.base_ k hk; omega)); have o1 : w9.cell? ⟨CB, 0, none⟩ = some vp := (blk_cell hT10.out 0).trans rfl; have o2 : w9.frozen? ⟨CB, 0, none⟩ = false := blk_frozen hT10.out 0; have hv2' := Lh hv2; clear hv2 hg2)
      go_roundw
      case rel => exact ⟨k + 1, .slice Av nv cv, by omega, by go_num, by rw [hTK.out]; exact Lh (ownsRow_setCell_below hv2'.out (show CB < CB + 1 by omega) (.slice Av nv cv)), Lh (blk40 hT10.out (.slice Av nv cv)), Lh (hB10.out.setCell (p := ⟨CB, 0, none⟩) (Nat.le_refl _) (.slice Av nv cv))⟩
      case measure => simp [intOf]; omega
    · obtain rfl : k = 8 := by omega
      rw [show (corners ⟨hx, hy, hz⟩).take 8 = corners ⟨hx, hy, hz⟩ from rfl] at hO
      have R3 := Lh ((hB.out.block _ (show w.heap.size + 1 < CB by omega)).trans R2.out)
      have W3 := Lh (W2.out.trans (hB.out.mono (show w.heap.size ≤ CB by omega)))
      obtain ⟨Ap, cp, rfl, hlp, hrp, hbp⟩ := hO.out.rdB
      have hlc : (corners ⟨hx, hy, hz⟩).length = 8 := rfl
      rw [hlc] at hT hlp c0
      have hrp := Lh hrp
      have hbp := Lh hbp
      clear hO HX HY HZ lS hlt hk
      have g1 : wo.cell? ⟨CB, 1, none⟩ = some (.slice none 0 0) := (blk_cell hT.out 1).trans rfl
      have g2 : wo.cell? ⟨CB, 2, none⟩ = some (.slice none 0 0) := (blk_cell hT.out 2).trans rfl
      have g3 : wo.cell? ⟨CB, 3, none⟩ = some (.int .i64 r) := (blk_cell hT.out 3).trans rfl
      have k1 : wo.frozen? ⟨CB, 1, none⟩ = false := blk_frozen hT.out 1
      have k2 : wo.frozen? ⟨CB, 2, none⟩ = false := blk_frozen hT.out 2
      have lRR : w.heap.size + 1 < wo.heap.size := blk_lt R3.out
      have r0 : wo.cell? ⟨w.heap.size + 1, 0, none⟩ = some (.slice none 0 0) := (blk_cell R3.out 0).trans rfl
      have f0 : wo.frozen? ⟨w.heap.size + 1, 0, none⟩ = false := blk_frozen R3.out 0
      have r1 : wo.cell? ⟨w.heap.size + 1, 1, none⟩ = some (.slice none 0 0) := (blk_cell R3.out 1).trans rfl
      have f1 : wo.frozen? ⟨w.heap.size + 1, 1, none⟩ = false := blk_frozen R3.out 1
      have r2 : wo.cell? ⟨w.heap.size + 1, 2, none⟩ = some (.slice none 0 0) := (blk_cell R3.out 2).trans rfl
      have f2 : wo.frozen? ⟨w.heap.size + 1, 2, none⟩ = false := blk_frozen R3.out 2
      have r3 : wo.cell? ⟨w.heap.size + 1, 3, none⟩ = some (.int .i64 0) := (blk_cell R3.out 3).trans rfl
      have f3 : wo.frozen? ⟨w.heap.size + 1, 3, none⟩ = false := blk_frozen R3.out 3
      have n1 : ∀ ad, Ap = some ad → ad.block ≠ CB := fun ad e => by have := hbp.out ad e; omega
      have n2 : ∀ ad, Ap = some ad → ad.block ≠ w.heap.size + 1 := fun ad e => by have := hbp.out ad e; have := hlS.out; omega
      have T1 := blk41 hT.out (.slice (some ⟨wo.heap.size, 0, none⟩) 3 3)
      have T2 := blk42 T1 (.slice (some ⟨wo.heap.size + 1, 0, none⟩) 3 3)
      have R4 := (Below.heap_setCell wo ⟨CB, 1, none⟩ (.slice (some ⟨wo.heap.size, 0, none⟩) 3 3) (w.heap.size + 1) (by have := hlS.out; simp; omega)).trans R3.out
      have R5 := (Below.heap_setCell (wo.setCell ⟨CB, 1, none⟩ (.slice (some ⟨wo.heap.size, 0, none⟩) 3 3)) ⟨CB, 2, none⟩ (.slice (some ⟨wo.heap.size + 1, 0, none⟩) 3 3) (w.heap.size + 1) (by have := hlS.out; simp; omega)).trans R4
      have B5 := (W3.out.setCell (p := ⟨CB, 1, none⟩) (show w.heap.size ≤ CB by have := hlS.out; omega) (.slice (some ⟨wo.heap.size, 0, none⟩) 3 3)).setCell (p := ⟨CB, 2, none⟩) (show w.heap.size ≤ CB by have := hlS.out; omega) (.slice (some ⟨wo.heap.size + 1, 0, none⟩) 3 3)
      have p5 := (hrp.out.setc n1 1 (.slice (some ⟨wo.heap.size, 0, none⟩) 3 3)).setc n1 2 (.slice (some ⟨wo.heap.size + 1, 0, none⟩) 3 3)
      obtain ⟨w5, hw5⟩ : ∃ V, (wo.setCell ⟨CB, 1, none⟩ (.slice (some ⟨wo.heap.size, 0, none⟩) 3 3)).setCell ⟨CB, 2, none⟩ (.slice (some ⟨wo.heap.size + 1, 0, none⟩) 3 3) = V := ⟨_, rfl⟩
      have z5 : w5.heap.size = wo.heap.size := by rw [← hw5]; simp
      rw [hw5] at T2 R5 B5 p5
      have T6 := bs4 R5 (.slice Ap 8 cp) (.slice (some ⟨wo.heap.size, 0, none⟩) 3 3) (.slice (some ⟨wo.heap.size + 1, 0, none⟩) 3 3) (.int .i64 r)
      have B6 := bb4 B5 (show w.heap.size ≤ w.heap.size + 1 by omega) (.slice Ap 8 cp) (.slice (some ⟨wo.heap.size, 0, none⟩) 3 3) (.slice (some ⟨wo.heap.size + 1, 0, none⟩) 3 3) (.int .i64 r)
      have p6 := (((p5.setc n2 0 (.slice Ap 8 cp)).setc n2 1 (.slice (some ⟨wo.heap.size, 0, none⟩) 3 3)).setc n2 2 (.slice (some ⟨wo.heap.size + 1, 0, none⟩) 3 3)).setc n2 3 (.int .i64 r)
      obtain ⟨w6, hw6⟩ : ∃ V, (((w5.setCell ⟨w.heap.size + 1, 0, none⟩ (.slice Ap 8 cp)).setCell ⟨w.heap.size + 1, 1, none⟩ (.slice (some ⟨wo.heap.size, 0, none⟩) 3 3)).setCell ⟨w.heap.size + 1, 2, none⟩ (.slice (some ⟨wo.heap.size + 1, 0, none⟩) 3 3)).setCell ⟨w.heap.size + 1, 3, none⟩ (.int .i64 r) = V := ⟨_, rfl⟩
      have z6 : w6.heap.size = wo.heap.size := by rw [← hw6, ← z5]; simp
      rw [hw6] at T6 B6 p6
      have hv6 := Lh hw6
      clear hw6
      have e0 : w5.cell? ⟨CB, 0, none⟩ = some (.slice Ap 8 cp) := (blk_cell T2 0).trans rfl
      have e1 : w5.cell? ⟨CB, 1, none⟩ = some (.slice (some ⟨wo.heap.size, 0, none⟩) 3 3) := (blk_cell T2 1).trans rfl
      have e2 : w5.cell? ⟨CB, 2, none⟩ = some (.slice (some ⟨wo.heap.size + 1, 0, none⟩) 3 3) := (blk_cell T2 2).trans rfl
      have e3 : w5.cell? ⟨CB, 3, none⟩ = some (.int .i64 r) := (blk_cell T2 3).trans rfl
      have e4 : CB < w5.heap.size := blk_lt T2
      have e5 : w.heap.size + 1 < w5.heap.size := blk_lt R5
      have e6 : w.heap.size < w5.heap.size := by omega
      have r0 : w5.cell? ⟨w.heap.size + 1, 0, none⟩ = some (.slice none 0 0) := (blk_cell R5 0).trans rfl
      have r1 : w5.cell? ⟨w.heap.size + 1, 1, none⟩ = some (.slice none 0 0) := (blk_cell R5 1).trans rfl
      have r2 : w5.cell? ⟨w.heap.size + 1, 2, none⟩ = some (.slice none 0 0) := (blk_cell R5 2).trans rfl
      have r3 : w5.cell? ⟨w.heap.size + 1, 3, none⟩ = some (.int .i64 0) := (blk_cell R5 3).trans rfl
      have f0 : w5.frozen? ⟨w.heap.size + 1, 0, none⟩ = false := blk_frozen R5 0
      have f1 : w5.frozen? ⟨w.heap.size + 1, 1, none⟩ = false := blk_frozen R5 1
      have f2 : w5.frozen? ⟨w.heap.size + 1, 2, none⟩ = false := blk_frozen R5 2
      have f3 : w5.frozen? ⟨w.heap.size + 1, 3, none⟩ = false := blk_frozen R5 3
      have T6 := Lh T6
      have B6 := Lh B6
      have p6 := Lh p6
      have Z6 := Lh z6
      clear T1 T2 R4 R5 B5 p5 z5 z6 n1 n2
      go_wp2
      rw [hv6.out]
      have l2 : w.heap.size ≤ w6.heap.size := B6.out.size
      have B7 := (Below.refl w6.heap.size w6).alloc (Nat.le_refl _) (.cells #[.int .i64 1, .int .i64 0, .int .i64 0, .int .i64 0, .int .i64 1, .int .i64 0, .int .i64 0, .int .i64 0, .int .i64 1] 23)
      have B8 := B7.alloc (by simp) (.cells #[.int .i64 1, .int .i64 0, .int .i64 0, .int .i64 0, .int .i64 1, .int .i64 0, .int .i64 0, .int .i64 0, .int .i64 1] 23)
      have QT := heap_alloc_new w6 (.cells #[.int .i64 1, .int .i64 0, .int .i64 0, .int .i64 0, .int .i64 1, .int .i64 0, .int .i64 0, .int .i64 0, .int .i64 1] 23)
      have QT := (Below.heap_alloc _ (.cells #[.int .i64 1, .int .i64 0, .int .i64 0, .int .i64 0, .int .i64 1, .int .i64 0, .int .i64 0, .int .i64 0, .int .i64 1] 23) _ (blk_lt QT)).trans QT
      have QE := heap_alloc_new (w6.alloc (.cells #[.int .i64 1, .int .i64 0, .int .i64 0, .int .i64 0, .int .i64 1, .int .i64 0, .int .i64 0, .int .i64 0, .int .i64 1] 23)) (.cells #[.int .i64 1, .int .i64 0, .int .i64 0, .int .i64 0, .int .i64 1, .int .i64 0, .int .i64 0, .int .i64 0, .int .i64 1] 23)
      rw [World.size_alloc] at QE
      rw [Z6.out] at QT QE
      have T8 := (B8.block _ (blk_lt T6.out)).trans T6.out
      have p8 := p6.out.below B8
      have y0 : ((w6.alloc (.cells #[.int .i64 1, .int .i64 0, .int .i64 0, .int .i64 0, .int .i64 1, .int .i64 0, .int .i64 0, .int .i64 0, .int .i64 1] 23)).alloc (.cells #[.int .i64 1, .int .i64 0, .int .i64 0, .int .i64 0, .int .i64 1, .int .i64 0, .int .i64 0, .int .i64 0, .int .i64 1] 23)).cell? ⟨w.heap.size + 1, 0, none⟩ = some (.slice Ap 8 cp) := (blk_cell T8 0).trans rfl
      have y1 : ((w6.alloc (.cells #[.int .i64 1, .int .i64 0, .int .i64 0, .int .i64 0, .int .i64 1, .int .i64 0, .int .i64 0, .int .i64 0, .int .i64 1] 23)).alloc (.cells #[.int .i64 1, .int .i64 0, .int .i64 0, .int .i64 0, .int .i64 1, .int .i64 0, .int .i64 0, .int .i64 0, .int .i64 1] 23)).cell? ⟨w.heap.size + 1, 1, none⟩ = some (.slice (some ⟨wo.heap.size, 0, none⟩) 3 3) := (blk_cell T8 1).trans rfl
      have y2 : ((w6.alloc (.cells #[.int .i64 1, .int .i64 0, .int .i64 0, .int .i64 0, .int .i64 1, .int .i64 0, .int .i64 0, .int .i64 0, .int .i64 1] 23)).alloc (.cells #[.int .i64 1, .int .i64 0, .int .i64 0, .int .i64 0, .int .i64 1, .int .i64 0, .int .i64 0, .int .i64 0, .int .i64 1] 23)).cell? ⟨w.heap.size + 1, 2, none⟩ = some (.slice (some ⟨wo.heap.size + 1, 0, none⟩) 3 3) := (blk_cell T8 2).trans rfl
      have y3 : ((w6.alloc (.cells #[.int .i64 1, .int .i64 0, .int .i64 0, .int .i64 0, .int .i64 1, .int .i64 0, .int .i64 0, .int .i64 0, .int .i64 1] 23)).alloc (.cells #[.int .i64 1, .int .i64 0, .int .i64 0, .int .i64 0, .int .i64 1, .int .i64 0, .int .i64 0, .int .i64 0, .int .i64 1] 23)).cell? ⟨w.heap.size + 1, 3, none⟩ = some (.int .i64 r) := (blk_cell T8 3).trans rfl
      have B9 := B6.out.trans (B8.mono l2)
      exact bodyPost_ret (v := .tuple #[.agg #[.slice Ap 8 cp, .slice (some ⟨wo.heap.size, 0, none⟩) 3 3, .slice (some ⟨wo.heap.size + 1, 0, none⟩) 3 3, .int .i64 r], .int .i64 0]) (by simp [results, Try.results53, go_sem, y0, y1, y2, y3]) rfl ⟨_, rfl, ⟨Ap, _, _, cp, 3, 3, rfl, p8, RdB_blk QT, RdB_blk QE, hlp, Nat.le_refl _, Nat.le_refl _⟩, B9⟩
end Go.Proofs.Ytckdhahceelckaa.G
namespace Go.Proofs.Ytckdhahceelckaa.G
set_option linter.unusedVariables false
theorem nodup_sub_length {α : Type} [DecidableEq α] : ∀ (l m : List α), l.Nodup → (∀ x ∈ l, x ∈ m) → l.length ≤ m.length
  | [], m, _, _ => by simp
  | x :: l, m, hn, hs => by
    have hx : x ∈ m := hs x (.head _)
    obtain ⟨h1, h2⟩ := List.nodup_cons.1 hn
    have ih := nodup_sub_length l (m.erase x) h2 (fun y hy => (List.mem_erase_of_ne (fun e => h1 (by rw [← e]; exact hy))).2 (hs y (.tail _ hy)))
    rw [List.length_erase_of_mem hx] at ih
    have := List.length_pos_of_mem hx
    simp only [List.length_cons]; omega
def subI (a b : P3) : P3 := ⟨a.x - b.x, a.y - b.y, a.z - b.z⟩
def crossI (a b : P3) : P3 := ⟨a.y * b.z - a.z * b.y, a.z * b.x - a.x * b.z, a.x * b.y - a.y * b.x⟩
theorem cross3_eq (p q : P3) (A B : Nat) (hp : in3 A p) (hq : in3 B q) (h : A * B ≤ 1152921504606846976) : cross3 p q = crossI p q ∧ in3 (2 * (A * B)) (crossI p q) := by
  obtain ⟨a1, a2, a3, a4, a5, a6⟩ := hp
  obtain ⟨b1, b2, b3, b4, b5, b6⟩ := hq
  have m1 := mul_bd p.y q.z A B (by omega) (by omega)
  have m2 := mul_bd p.z q.y A B (by omega) (by omega)
  have m3 := mul_bd p.z q.x A B (by omega) (by omega)
  have m4 := mul_bd p.x q.z A B (by omega) (by omega)
  have m5 := mul_bd p.x q.y A B (by omega) (by omega)
  have m6 := mul_bd p.y q.x A B (by omega) (by omega)
  unfold cross3 crossI in3
  simp only
  generalize p.y * q.z = u1 at *
  generalize p.z * q.y = u2 at *
  generalize p.z * q.x = u3 at *
  generalize p.x * q.z = u4 at *
  generalize p.x * q.y = u5 at *
  generalize p.y * q.x = u6 at *
  refine ⟨?_, by omega⟩
  rw [w64_id u1 (by omega) (by omega), w64_id u2 (by omega) (by omega), w64_id u3 (by omega) (by omega), w64_id u4 (by omega) (by omega), w64_id u5 (by omega) (by omega), w64_id u6 (by omega) (by omega), w64_id _ (by omega) (by omega), w64_id _ (by omega) (by omega), w64_id _ (by omega) (by omega)]
/-- the product of three -/
def detI (d u v : P3) : Int := dotI (crossI d u) v
theorem det_swap (d u v : P3) : detI d v u = -detI d u v := by unfold detI dotI crossI; grind
theorem cross_cross (d u v : P3) : crossI (crossI d u) (crossI d v) = ⟨detI d u v * d.x, detI d u v * d.y, detI d u v * d.z⟩ := by
  unfold crossI detI dotI crossI; simp only [P3.mk.injEq]; refine ⟨?_, ?_, ?_⟩ <;> grind
theorem crI_cross (a b : P3) : crI a b = dotI (crossI a b) (crossI a b) := by unfold crI dotI crossI; grind
theorem dotI_zero (u : P3) (h : dotI u u = 0) : u = ⟨0, 0, 0⟩ := by
  have a := sq_nonneg u.x
  have b := sq_nonneg u.y
  have c := sq_nonneg u.z
  unfold dotI at h
  have q : ∀ t : Int, t * t = 0 → t = 0 := fun t ht => by rcases Int.mul_eq_zero.1 ht with h | h <;> exact h
  have x := q _ (show u.x * u.x = 0 by omega)
  have y := q _ (show u.y * u.y = 0 by omega)
  have z := q _ (show u.z * u.z = 0 by omega)
  cases u; simp_all
/-- two that are parallel, the same way -/
theorem par_of_cross (a b : P3) (ha : a ≠ ⟨0, 0, 0⟩) (hc : crossI a b = ⟨0, 0, 0⟩) (hd : 0 < dotI a b) : Par b a := by
  unfold crossI at hc
  simp only [P3.mk.injEq] at hc
  obtain ⟨c1, c2, c3⟩ := hc
  refine ⟨dotI a a, dotI a b, dotI_pos a ha, hd, ?_, ?_, ?_⟩ <;> unfold dotI <;> grind
theorem dot_par_ne (a b : P3) (ha : a ≠ ⟨0, 0, 0⟩) (hb : b ≠ ⟨0, 0, 0⟩) (hc : crossI a b = ⟨0, 0, 0⟩) : dotI a b ≠ 0 := by
  intro h0
  have h := lagI a b
  rw [crI_cross, hc, h0] at h
  have p := Int.mul_pos (dotI_pos a ha) (dotI_pos b hb)
  rw [h] at p
  revert p; decide
/-- three in one plane span nothing -/
theorem det_plane (n x y z : P3) (hn : n ≠ ⟨0, 0, 0⟩) (hx : dotI n x = 0) (hy : dotI n y = 0) (hz : dotI n z = 0) : detI x y z = 0 := by
  have e : detI x y z * dotI n n = 0 := by
    have : detI x y z * dotI n n = dotI n x * dotI (crossI y z) n + dotI n y * dotI (crossI z x) n + dotI n z * dotI (crossI x y) n := by unfold detI dotI crossI; grind
    rw [this, hx, hy, hz]; simp
  rcases Int.mul_eq_zero.1 e with h | h
  · exact h
  · exact absurd (dotI_zero n h) hn
def negI (u : P3) : P3 := ⟨-u.x, -u.y, -u.z⟩
/-- the greatest number that divides is that of parallel ones -/
theorem gcd3_scale (k : Nat) (p : P3) : gcd3 ⟨(k : Int) * p.x, k * p.y, k * p.z⟩ = k * gcd3 p := by
  unfold gcd3
  simp only
  rw [Int.gcd_mul_left]
  have e : ((((k : Int).natAbs * Int.gcd p.x p.y : Nat)) : Int) = (k : Int) * (Int.gcd p.x p.y : Int) := by simp
  rw [e, Int.gcd_mul_left]
  simp
theorem bare3_par_eq (u v : P3) (hu : u ≠ ⟨0, 0, 0⟩) (hv : v ≠ ⟨0, 0, 0⟩) (h : Par u v) : bare3 u = bare3 v := by
  obtain ⟨a, b, ha, hb, e1, e2, e3⟩ := h
  have g1 := gcd3_scale a.toNat u
  have g2 := gcd3_scale b.toNat v
  rw [show (a.toNat : Int) = a by omega] at g1
  rw [show (b.toNat : Int) = b by omega] at g2
  rw [e1, e2, e3, g2] at g1
  obtain ⟨x1, x2, x3⟩ := bare3_eq u
  obtain ⟨y1, y2, y3⟩ := bare3_eq v
  have p1 := gcd3_pos u hu
  have hk : 0 < a * gcd3 u := Int.mul_pos ha (by omega)
  rw [x1, y1] at e1
  rw [x2, y2] at e2
  rw [x3, y3] at e3
  have f : ∀ s t : Int, a * (gcd3 u * s) = b * (gcd3 v * t) → s = t := fun s t hst => by
    have : a * gcd3 u * s = a * gcd3 u * t := by rw [Int.mul_assoc, hst, ← Int.mul_assoc, g1]
    exact Int.eq_of_mul_eq_mul_left (by omega) this
  have r1 := f _ _ e1
  have r2 := f _ _ e2
  have r3 := f _ _ e3
  cases hbu : bare3 u; cases hbv : bare3 v
  rw [hbu, hbv] at r1 r2 r3
  simp_all
theorem short3_par_eq (u v : P3) (hu : in3 4398046511104 u) (hv : in3 4398046511104 v) (hu0 : u ≠ ⟨0, 0, 0⟩) (hv0 : v ≠ ⟨0, 0, 0⟩) (h : Par u v) : short3 u = short3 v := by
  rw [short3_eq u hu hu0, short3_eq v hv hv0, bare3_par_eq u v hu0 hv0 h]
end Go.Proofs.Ytckdhahceelckaa.G
namespace Go.Proofs.Ytckdhahceelckaa.G
open Go.RowKit Go.Proofs.YtckdhahceelckaaW.PrintWords Go.Proofs.YtckdhahceelckaaW.PrintLast Go.Proofs.YtckdhahceelckaaW.PrintMore
attribute [local go_sem] max2_mx min2_mn max_two min_two max_three min_three max_four min_four
attribute [local go_sem high] eqA23
set_option linter.unusedVariables false
set_option linter.unusedSimpArgs false
theorem wpList_one_at {w : World} {ops : Array Oper} {rest : List Oper} {o : Oper} {a : Act} {Q : Exit → Act → World → Prop} (base : Nat) (hgd : o.guard = none) (s x : Operand) (ho : o.op = .call { callee := .builtin .append, args := #[s, x], argTypes := #[24, 24] })
    (v : Value) (l : List P3) (g c : Nat) (p : P3) (t : TypeId) (hs : a.eval s = v) (hx : a.eval x = .slice (some ⟨g, 0, none⟩) 1 c) (hown : OwnP w base v l) (hr : w.heap[g]? = some (.cells #[.int .i64 p.x, .int .i64 p.y, .int .i64 p.z] t (0, 0))) (hsz : l.length ≤ 999999) (hbase : base ≤ w.heap.size)
    (h : ∀ v' w', OwnP w' base v' (l ++ [p]) → w.grownBy w' v.ownBlock → (v'.ownBlock = v.ownBlock ∨ v'.ownBlock = some w.heap.size) → wpList Try.prog ops Q rest (a.put o.dst v') w') : wpList Try.prog ops Q (o :: rest) a w := by
  obtain ⟨i0, hi, hz0, hz1, hz2⟩ := info_parts info23
  have hrd := (Rd_one (t := t) (x := p.x) (y := p.y) (z := p.z) hr).1
  refine wpList_append_own_at w hgd s x 24 ho base 23 i0 _ 3 24 Try.underlying24 hi hz0 hz1 hz2 rfl (by omega) v l.length (cells3 l) hs hown ⟨g, 0, none⟩ 1 c (cells3 [p]) hx (by rw [cells3_length]; rfl) (fun j u hj => by rw [add_at]; exact hrd.cells j u hj) (cells3_one _) (by unfold maxLen; omega) (by omega) hbase ?_
  intro v' w' h1 h2 _ h4
  refine h v' w' ?_ h2 h4
  show w'.ownsRow base 23 3 v' (l ++ [p]).length (cells3 (l ++ [p]))
  rw [cells3_append, List.length_append]
  exact h1
theorem Rd_three {w : World} {g : Nat} {p q r : P3} {t : TypeId} (h : w.heap[g]? = some (.cells #[.int .i64 p.x, .int .i64 p.y, .int .i64 p.z, .int .i64 q.x, .int .i64 q.y, .int .i64 q.z, .int .i64 r.x, .int .i64 r.y, .int .i64 r.z] t (0, 0))) : RdB w (some ⟨g, 0, none⟩) [p, q, r] :=
  ⟨fun i u hu => by
    match i, hu with
    | 0, hu => simp at hu; subst hu; exact ⟨g, 0, rfl, blk_lt h, (blk_cell h 0).trans rfl, (blk_cell h 1).trans rfl, (blk_cell h 2).trans rfl⟩
    | 1, hu => simp at hu; subst hu; exact ⟨g, 0, rfl, blk_lt h, (blk_cell h 3).trans rfl, (blk_cell h 4).trans rfl, (blk_cell h 5).trans rfl⟩
    | 2, hu => simp at hu; subst hu; exact ⟨g, 0, rfl, blk_lt h, (blk_cell h 6).trans rfl, (blk_cell h 7).trans rfl, (blk_cell h 8).trans rfl⟩, fun ad e => by cases e; exact blk_lt h⟩
def axisF (s : Int) (n : P3) : P3 := short3 ⟨s * n.x, s * n.y, s * n.z⟩
/-- an axis of three points -/
def AxAt (l : List P3) (i j k : Nat) (a : P3) : Prop := ∃ pa pb pc, l[i]? = some pa ∧ l[j]? = some pb ∧ l[k]? = some pc ∧ nrm3 pa pb pc ≠ ⟨0, 0, 0⟩ ∧ sideF l (nrm3 pa pb pc) pa ≠ 0 ∧ a = axisF (sideF l (nrm3 pa pb pc) pa) (nrm3 pa pb pc)
def AxP (l : List P3) (a : P3) : Prop := ∃ i j k, i < j ∧ j < k ∧ AxAt l i j k a
def EdAt (l : List P3) (i j : Nat) (e : P3) : Prop := ∃ pa pb, l[i]? = some pa ∧ l[j]? = some pb ∧ e = short3 (minus3 pb pa)
def EdP (l : List P3) (e : P3) : Prop := ∃ i j, i < j ∧ EdAt l i j e
def DoneA (l axes : List P3) (i j k : Nat) : Prop := ∀ i' j' k' a, i' < j' → j' < k' → (i' < i ∨ (i' = i ∧ (j' < j ∨ (j' = j ∧ k' < k)))) → AxAt l i' j' k' a → a ∈ axes
theorem AxAt.lt {l : List P3} {i j k : Nat} {a : P3} (h : AxAt l i j k a) : i < l.length ∧ j < l.length ∧ k < l.length := by
  obtain ⟨pa, pb, pc, h1, h2, h3, _⟩ := h
  exact ⟨(List.getElem?_eq_some_iff.1 h1).1, (List.getElem?_eq_some_iff.1 h2).1, (List.getElem?_eq_some_iff.1 h3).1⟩
theorem DoneA.to {l axes : List P3} {i j k i1 j1 k1 : Nat} (h : DoneA l axes i j k) (hc : ∀ i' j' k', i' < j' → j' < k' → k' < l.length → (i' < i1 ∨ (i' = i1 ∧ (j' < j1 ∨ (j' = j1 ∧ k' < k1)))) → (i' < i ∨ (i' = i ∧ (j' < j ∨ (j' = j ∧ k' < k))))) : DoneA l axes i1 j1 k1 :=
  fun i' j' k' a h1 h2 h3 h4 => h i' j' k' a h1 h2 (hc i' j' k' h1 h2 h4.lt.2.2 h3) h4
theorem DoneA.step {l axes axes' : List P3} {i j k : Nat} (h : DoneA l axes i j k) (hs : ∀ a ∈ axes, a ∈ axes') (hn : ∀ a, AxAt l i j k a → a ∈ axes') : DoneA l axes' i j (k + 1) := fun i' j' k' a h1 h2 h3 h4 => by
  by_cases e : i' = i ∧ j' = j ∧ k' = k
  · obtain ⟨rfl, rfl, rfl⟩ := e; exact hn a h4
  · exact hs a (h i' j' k' a h1 h2 (by omega) h4)
structure HSt (l : List P3) (w wr : World) (v4 v5 : Value) (axes edges : List P3) : Prop where
  o4 : OwnP wr w.heap.size v4 axes
  o5 : OwnP wr w.heap.size v5 edges
  dj : ∀ k, v4.ownBlock = some k → v5.ownBlock = some k → False
  bl : Below w.heap.size w wr
  n4 : axes.Nodup
  a4 : ∀ a ∈ axes, AxP l a
  n5 : edges.Nodup
  a5 : ∀ e ∈ edges, EdP l e
theorem HSt.grown {l w wr wr' v4 v5 axes edges} (h : HSt l w wr v4 v5 axes edges) (hb : Below wr.heap.size wr wr') : HSt l w wr' v4 v5 axes edges :=
  ⟨h.o4.grown hb, h.o5.grown hb, h.dj, bthen h.bl hb, h.n4, h.a4, h.n5, h.a5⟩
theorem OwnP.other {w w' : World} {base : Nat} {v u : Value} {l : List P3} (h : OwnP w base v l) (hg : w.grownBy w' u.ownBlock) (hd : ∀ k, v.ownBlock = some k → u.ownBlock = some k → False) : OwnP w' base v l := by
  refine ⟨h.1, ?_⟩
  rcases h.2 with hn | ⟨g, cap, cur, hv, hb, hgg, rest⟩
  · exact .inl hn
  · refine .inr ⟨g, cap, cur, hv, hb, ?_, rest⟩
    have hlt := (Array.getElem?_eq_some_iff.1 hgg).1
    exact (hg.block g hlt (fun e => hd g (by rw [hv]; rfl) e.symm)).trans hgg
theorem nodup_snoc {l : List P3} {a : P3} (h : l.Nodup) (ha : a ∉ l) : (l ++ [a]).Nodup := List.nodup_append.2 ⟨h, by simp, fun x hx y hy => by simp only [List.mem_singleton] at hy; subst hy; exact fun e => ha (e ▸ hx)⟩
theorem HSt.add4 {l w wr w' v4 v5 axes edges} {v' : Value} {a : P3} (h : HSt l w wr v4 v5 axes edges) (ho : OwnP w' w.heap.size v' (axes ++ [a])) (hg : wr.grownBy w' v4.ownBlock) (hat : v'.ownBlock = v4.ownBlock ∨ v'.ownBlock = some wr.heap.size) (hna : a ∉ axes) (hax : AxP l a) : HSt l w w' v' v5 (axes ++ [a]) edges :=
  ⟨ho, h.o5.other hg (fun k h1 h2 => h.dj k h2 h1), fun k h1 h2 => by
    rcases hat with e | e
    · exact h.dj k (e ▸ h1) h2
    · rw [e] at h1; cases h1; exact absurd (OwnP.lt h.o5 _ h2) (Nat.lt_irrefl _), h.bl.grown hg h.bl.size (fun k hk => h.o4.base_ k hk), nodup_snoc h.n4 hna, fun x hx => by
    rcases List.mem_append.1 hx with hx | hx
    · exact h.a4 x hx
    · simp only [List.mem_singleton] at hx; subst hx; exact hax, h.n5, h.a5⟩
theorem HSt.add5 {l w wr w' v4 v5 axes edges} {v' : Value} {a : P3} (h : HSt l w wr v4 v5 axes edges) (ho : OwnP w' w.heap.size v' (edges ++ [a])) (hg : wr.grownBy w' v5.ownBlock) (hat : v'.ownBlock = v5.ownBlock ∨ v'.ownBlock = some wr.heap.size) (hna : a ∉ edges) (hax : EdP l a) : HSt l w w' v4 v' axes (edges ++ [a]) :=
  ⟨h.o4.other hg (fun k h1 h2 => h.dj k h1 h2), ho, fun k h1 h2 => by
    rcases hat with e | e
    · exact h.dj k h1 (e ▸ h2)
    · rw [e] at h2; cases h2; exact absurd (OwnP.lt h.o4 _ h1) (Nat.lt_irrefl _), h.bl.grown hg h.bl.size (fun k hk => h.o5.base_ k hk), h.n4, h.a4, nodup_snoc h.n5 hna, fun x hx => by
    rcases List.mem_append.1 hx with hx | hx
    · exact h.a5 x hx
    · simp only [List.mem_singleton] at hx; subst hx; exact hax⟩
theorem hasF_no {l : List P3} {p : P3} {b : Bool} (h : hasF l p b = false) : p ∉ l := fun hp => by
  have := List.any_eq_false.1 h p hp
  simp [hasB] at this
theorem hasF_yes {l : List P3} {p : P3} (h : hasF l p false = true) : p ∈ l := by
  obtain ⟨x, hx, hb⟩ := List.any_eq_true.1 h
  simp [hasB] at hb
  exact hb ▸ hx
theorem nrm_in {a b c : P3} (ha : in3 65536 a) (hb : in3 65536 b) (hc : in3 65536 c) : in3 34359738368 (nrm3 a b c) ∧ in3 131072 (minus3 b a) ∧ in3 131072 (minus3 c a) ∧ in3 131072 (minus3 c b) := by
  have q : ∀ x y : P3, in3 65536 x → in3 65536 y → in3 131072 (minus3 x y) := fun x y hx hy => by
    obtain ⟨a1, a2, a3, a4, a5, a6⟩ := hx
    obtain ⟨b1, b2, b3, b4, b5, b6⟩ := hy
    unfold minus3 in3; simp only
    rw [w64_id _ (by omega) (by omega), w64_id _ (by omega) (by omega), w64_id _ (by omega) (by omega)]; omega
  have h1 := q b a hb ha
  have h2 := q c a hc ha
  refine ⟨?_, h1, h2, q c b hc hb⟩
  obtain ⟨e, hi⟩ := cross3_eq (minus3 b a) (minus3 c a) 131072 131072 h1 h2 (by decide)
  unfold nrm3; rw [e]; exact hi
theorem sideF_cases (l : List P3) (n a : P3) : sideF l n a = 1 ∨ sideF l n a = -1 ∨ sideF l n a = 0 := by
  by_cases h1 : (sdF l n a).2 ≤ 0
  · left; unfold sideF sideV; rw [if_pos h1]
  · by_cases h2 : 0 ≤ (sdF l n a).1
    · right; left; unfold sideF sideV; rw [if_neg h1, if_pos h2]
    · right; right; unfold sideF sideV; rw [if_neg h1, if_neg h2]
def HullPost (l : List P3) (w : World) (en : Ending) (w' : World) : Prop := ∃ axes edges Ax Ae cx ce, en = .returned (.tuple #[.slice Ax axes.length cx, .slice Ae edges.length ce]) ∧ axes.length ≤ cx ∧ edges.length ≤ ce ∧ RdB w' Ax axes ∧ RdB w' Ae edges ∧ Below w.heap.size w w' ∧ axes.Nodup ∧ (∀ a ∈ axes, AxP l a) ∧ edges.Nodup ∧ (∀ e ∈ edges, EdP l e) ∧ DoneA l axes l.length 0 0 ∧ (∀ ad, Ax = some ad → w.heap.size ≤ ad.block) ∧ (∀ ad, Ae = some ad → w.heap.size ≤ ad.block)
set_option maxHeartbeats 16000000 in
set_option maxRecDepth 100000 in
theorem hull_calls (l : List P3) (A : Option Addr) (c : Nat) (w : World) (hA : RdB w A l) (hl : l.length ≤ 12) (hp : ∀ p ∈ l, in3 65536 p) :
    Calls Try.prog 103 #[.slice A l.length c] w (HullPost l w) := by
  have HAA := Lh hA
  have HP := Lh hp
  have HNO := Lh (fun (a b c : P3) W => normal_calls a b c W)
  have HSD := Lh (fun (n a : P3) (W : World) (h : Rd W A l) => side_calls l A c n a W h (by omega))
  have HDT := Lh (fun (axes : List P3) (i j k i1 j1 k1 : Nat) (h : DoneA l axes i j k) hc => DoneA.to (i1 := i1) (j1 := j1) (k1 := k1) h hc)
  obtain ⟨N, hN⟩ : ∃ N, l.length = N := ⟨_, rfl⟩
  have HN := Lh hN
  rw [hN] at hl HSD ⊢
  clear hA hN hp
  go_enter Try.func103, Try.ntmps103
  go_wp2
  go_loopw [4, 5, 6, 7, 8, 9, 10, 11, 12, 13, 14, 15] (fun v4 v5 v6 v7 v8 v9 v10 v11 v12 v13 v14 v15 wr => ∃ (i : Nat) (axes edges : List P3), i ≤ N ∧ v6 = .int .i64 i ∧ Hid (HSt l w wr v4 v5 axes edges) ∧ Hid (DoneA l axes i 0 0) ∧ axes.length ≤ 144 * i ∧ edges.length ≤ 432 * i) (fun _ _ i _ _ _ _ _ _ _ _ _ _ => N - (intOf i).toNat)
  case atStart => exact ⟨0, [], [], by omega, rfl, Lh ⟨OwnP.nil _ _, OwnP.nil _ _, fun k h => (by cases h), Below.refl _ _, by simp, by simp, by simp, by simp⟩, Lh (fun i' j' k' a h1 h2 h3 => by omega), by simp, by simp⟩
  case round =>
    obtain ⟨i, axes, edges, hi, rfl, hS, hD, la, le⟩ := hrel
    obtain ⟨wa, hwa⟩ : ∃ wo : World, wo = wr := ⟨_, rfl⟩
    subst hwa
    by_cases hlt : i < N
    · have hil : i < l.length := by rw [HN.out]; exact hlt
      obtain ⟨b, o, rfl, lbw, _⟩ := HAA.out.1.get i hil
      have HRD : Hid (∀ W, Below w.heap.size w W → ∀ j p, l[j]? = some p → W.cell? ⟨b, o + j * 3, none⟩ = some (.int .i64 p.x) ∧ W.cell? ⟨b, o + j * 3 + 1, none⟩ = some (.int .i64 p.y) ∧ W.cell? ⟨b, o + j * 3 + 2, none⟩ = some (.int .i64 p.z)) := Lh (fun W hW j p hj => by
        obtain ⟨b', o', e', _, h0, h1, h2⟩ := (HAA.out.1.below hW) j p hj
        simp only [Option.some.injEq, Addr.mk.injEq, and_true] at e'
        obtain ⟨rfl, rfl⟩ := e'
        exact ⟨h0, h1, h2⟩)
      obtain ⟨⟨ix, iy, iz⟩, hpi⟩ : ∃ p, l[i]? = some p := ⟨_, List.getElem?_eq_getElem hil⟩
      have ini := Lh (HP.out _ (List.mem_of_getElem? hpi))
      have hpi := Lh hpi
      have hiN : (i : Int) < (N : Int) := by omega
      have hD2 := Lh (HDT.out axes i 0 0 i (i + 1) 0 hD.out (fun i' j' k' h1 h2 h3 h4 => by omega))
      clear hD
      go_wp2
      go_loopw [4, 5, 7, 8, 9, 10, 11, 12, 13, 14, 15] (fun v4 v5 v7 v8 v9 v10 v11 v12 v13 v14 v15 wr => ∃ (j : Nat) (axes edges : List P3), i < j ∧ j ≤ N ∧ v7 = .int .i64 j ∧ Hid (HSt l w wr v4 v5 axes edges) ∧ Hid (DoneA l axes i j 0) ∧ axes.length ≤ 144 * i + 12 * j ∧ edges.length ≤ 432 * i + 36 * j) (fun _ _ j _ _ _ _ _ _ _ _ _ => N - (intOf j).toNat)
      case atStart => exact ⟨i + 1, axes, edges, by omega, by omega, by go_num, hS, hD2, by omega, by omega⟩
      case round =>
        clear hS hD2 la le
        obtain ⟨j, axes, edges, hij, hj, rfl, hS, hD, la, le⟩ := hrel
        obtain ⟨wb, hwb⟩ : ∃ wo : World, wo = wr := ⟨_, rfl⟩
        subst hwb
        by_cases hjN : j < N
        · obtain ⟨⟨jx, jy, jz⟩, hpj⟩ : ∃ p, l[j]? = some p := ⟨_, List.getElem?_eq_getElem (show j < l.length by rw [HN.out]; exact hjN)⟩
          have inj := Lh (HP.out _ (List.mem_of_getElem? hpj))
          have hpj := Lh hpj
          have hjN1 : (j : Int) < (N : Int) := by omega
          have hD2 := Lh (HDT.out axes i j 0 i j (j + 1) hD.out (fun i' j' k' h1 h2 h3 h4 => by omega))
          clear hD
          go_wp2
          go_loopw [4, 5, 8, 9, 10, 11, 12, 13, 14, 15] (fun v4 v5 v8 v9 v10 v11 v12 v13 v14 v15 wr => ∃ (k : Nat) (axes edges : List P3), j < k ∧ k ≤ N ∧ v8 = .int .i64 k ∧ Hid (HSt l w wr v4 v5 axes edges) ∧ Hid (DoneA l axes i j k) ∧ axes.length ≤ 144 * i + 12 * j + k ∧ edges.length ≤ 432 * i + 36 * j + 3 * k) (fun _ _ k _ _ _ _ _ _ _ _ => N - (intOf k).toNat)
          case atStart => exact ⟨j + 1, axes, edges, by omega, by omega, by go_num, hS, hD2, by omega, by omega⟩
          case round =>
            clear hS hD2 la le
            obtain ⟨k, axes, edges, hjk, hk, rfl, hS, hD, la, le⟩ := hrel
            obtain ⟨wc, hwc⟩ : ∃ wo : World, wo = wr := ⟨_, rfl⟩
            subst hwc
            by_cases hkN : k < N
            · obtain ⟨⟨kx, ky, kz⟩, hpk⟩ : ∃ p, l[k]? = some p := ⟨_, List.getElem?_eq_getElem (show k < l.length by rw [HN.out]; exact hkN)⟩
              have ink := Lh (HP.out _ (List.mem_of_getElem? hpk))
              have hpk := Lh hpk
              have hkN1 : (k : Int) < (N : Int) := by omega
              obtain ⟨i0, i1, i2⟩ := HRD.out _ hS.out.bl i _ hpi.out
              obtain ⟨j0, j1, j2⟩ := HRD.out _ hS.out.bl j _ hpj.out
              obtain ⟨k0, k1, k2⟩ := HRD.out _ hS.out.bl k _ hpk.out
              simp only at i0 i1 i2 j0 j1 j2 k0 k1 k2
              have hNO := HNO.out ⟨ix, iy, iz⟩ ⟨jx, jy, jz⟩ ⟨kx, ky, kz⟩
              obtain ⟨ni1, ni2, ni3, ni4⟩ := nrm_in ini.out inj.out ink.out
              have hAT := Lh (show ∀ a, AxAt l i j k a → nrm3 ⟨ix, iy, iz⟩ ⟨jx, jy, jz⟩ ⟨kx, ky, kz⟩ ≠ ⟨0, 0, 0⟩ ∧ sideF l (nrm3 ⟨ix, iy, iz⟩ ⟨jx, jy, jz⟩ ⟨kx, ky, kz⟩) ⟨ix, iy, iz⟩ ≠ 0 ∧ a = axisF (sideF l (nrm3 ⟨ix, iy, iz⟩ ⟨jx, jy, jz⟩ ⟨kx, ky, kz⟩) ⟨ix, iy, iz⟩) (nrm3 ⟨ix, iy, iz⟩ ⟨jx, jy, jz⟩ ⟨kx, ky, kz⟩) from fun a ha => by
                obtain ⟨pa, pb, pc, g1, g2, g3, g4, g5, g6⟩ := ha
                rw [hpi.out] at g1; rw [hpj.out] at g2; rw [hpk.out] at g3
                cases g1; cases g2; cases g3
                exact ⟨g4, g5, g6⟩)
              have hAI := Lh (show ∀ a, nrm3 ⟨ix, iy, iz⟩ ⟨jx, jy, jz⟩ ⟨kx, ky, kz⟩ ≠ ⟨0, 0, 0⟩ → sideF l (nrm3 ⟨ix, iy, iz⟩ ⟨jx, jy, jz⟩ ⟨kx, ky, kz⟩) ⟨ix, iy, iz⟩ ≠ 0 → a = axisF (sideF l (nrm3 ⟨ix, iy, iz⟩ ⟨jx, jy, jz⟩ ⟨kx, ky, kz⟩) ⟨ix, iy, iz⟩) (nrm3 ⟨ix, iy, iz⟩ ⟨jx, jy, jz⟩ ⟨kx, ky, kz⟩) → AxP l a from fun a h1 h2 h3 => ⟨i, j, k, hij, hjk, _, _, _, hpi.out, hpj.out, hpk.out, h1, h2, h3⟩)
              have hsd := sideF_cases l (nrm3 ⟨ix, iy, iz⟩ ⟨jx, jy, jz⟩ ⟨kx, ky, kz⟩) ⟨ix, iy, iz⟩
              have hSD := HSD.out (nrm3 ⟨ix, iy, iz⟩ ⟨jx, jy, jz⟩ ⟨kx, ky, kz⟩) ⟨ix, iy, iz⟩
              obtain ⟨⟨nx, ny, nz⟩, hn⟩ : ∃ n, nrm3 ⟨ix, iy, iz⟩ ⟨jx, jy, jz⟩ ⟨kx, ky, kz⟩ = n := ⟨_, rfl⟩
              rw [hn] at hNO hAT hAI hsd hSD ni1
              obtain ⟨sg, hsg⟩ : ∃ s, sideF l ⟨nx, ny, nz⟩ ⟨ix, iy, iz⟩ = s := ⟨_, rfl⟩
              rw [hsg] at hAT hAI hsd hSD
              have hNO := Lh hNO
              have hSD := Lh hSD
              have hsd := Lh hsd
              have hE1 := Lh (show EdP l (short3 (minus3 ⟨jx, jy, jz⟩ ⟨ix, iy, iz⟩)) from ⟨i, j, hij, _, _, hpi.out, hpj.out, rfl⟩)
              have hE2 := Lh (show EdP l (short3 (minus3 ⟨kx, ky, kz⟩ ⟨ix, iy, iz⟩)) from ⟨i, k, by omega, _, _, hpi.out, hpk.out, rfl⟩)
              have hE3 := Lh (show EdP l (short3 (minus3 ⟨kx, ky, kz⟩ ⟨jx, jy, jz⟩)) from ⟨j, k, hjk, _, _, hpj.out, hpk.out, rfl⟩)
              have hn := Lh hn
              have ni1 := Lh ni1
              have ni2 := Lh ni2
              have ni3 := Lh ni3
              have ni4 := Lh ni4
              have lbc : b < wc.heap.size := by have := hS.out.bl.size; omega
              clear hsg
              go_wp2_with fail
              have HB := Lh ((Below.refl (wc.heap.size) wc).drew)
              have FF := Lh (show ∀ V, Hid (Below (wc.heap.size) wc V) → V.cell? ⟨b, o + i * 3, none⟩ = some (.int .i64 ix) ∧ V.cell? ⟨b, o + i * 3 + 1, none⟩ = some (.int .i64 iy) ∧ V.cell? ⟨b, o + i * 3 + 2, none⟩ = some (.int .i64 iz) ∧ V.cell? ⟨b, o + j * 3, none⟩ = some (.int .i64 jx) ∧ V.cell? ⟨b, o + j * 3 + 1, none⟩ = some (.int .i64 jy) ∧ V.cell? ⟨b, o + j * 3 + 2, none⟩ = some (.int .i64 jz) ∧ V.cell? ⟨b, o + k * 3, none⟩ = some (.int .i64 kx) ∧ V.cell? ⟨b, o + k * 3 + 1, none⟩ = some (.int .i64 ky) ∧ V.cell? ⟨b, o + k * 3 + 2, none⟩ = some (.int .i64 kz) from fun V HB => ⟨(HB.out.cell (p := ⟨b, o + i * 3, none⟩) (lbc)).trans i0, (HB.out.cell (p := ⟨b, o + i * 3 + 1, none⟩) (lbc)).trans i1, (HB.out.cell (p := ⟨b, o + i * 3 + 2, none⟩) (lbc)).trans i2, (HB.out.cell (p := ⟨b, o + j * 3, none⟩) (lbc)).trans j0, (HB.out.cell (p := ⟨b, o + j * 3 + 1, none⟩) (lbc)).trans j1, (HB.out.cell (p := ⟨b, o + j * 3 + 2, none⟩) (lbc)).trans j2, (HB.out.cell (p := ⟨b, o + k * 3, none⟩) (lbc)).trans k0, (HB.out.cell (p := ⟨b, o + k * 3 + 1, none⟩) (lbc)).trans k1, (HB.out.cell (p := ⟨b, o + k * 3 + 2, none⟩) (lbc)).trans k2⟩)
              refine start_ (n := 15) (S := fun w' => w'.cell? ⟨b, o + i * 3, none⟩ = some (.int .i64 ix) ∧ w'.cell? ⟨b, o + i * 3 + 1, none⟩ = some (.int .i64 iy) ∧ w'.cell? ⟨b, o + i * 3 + 2, none⟩ = some (.int .i64 iz) ∧ w'.cell? ⟨b, o + j * 3, none⟩ = some (.int .i64 jx) ∧ w'.cell? ⟨b, o + j * 3 + 1, none⟩ = some (.int .i64 jy) ∧ w'.cell? ⟨b, o + j * 3 + 2, none⟩ = some (.int .i64 jz) ∧ w'.cell? ⟨b, o + k * 3, none⟩ = some (.int .i64 kx) ∧ w'.cell? ⟨b, o + k * 3 + 1, none⟩ = some (.int .i64 ky) ∧ w'.cell? ⟨b, o + k * 3 + 2, none⟩ = some (.int .i64 kz)) (ds := []) (MT 0 15) (by kernel_rfl) rfl rfl (FF.out _ HB) (fun hHeld => ?_)
              obtain ⟨wd, hwd⟩ : ∃ x, wc.drew = x := ⟨_, rfl⟩
              rw [hwd] at HB hHeld ⊢
              clear hwd
              refine pu_ 0 38 (h := ?_)
              refine pu_ 1 39 (h := ?_)
              refine pu_ 2 40 (h := ?_)
              refine pu_ 4 42 (h := ?_)
              refine pu_ 5 43 (h := ?_)
              refine pu_ 6 44 (h := ?_)
              refine pu_ 8 46 (h := ?_)
              refine pu_ 9 47 (h := ?_)
              refine pu_ 10 48 (h := ?_)
              refine ta_ 3 41 hHeld (h := ?_)
              refine ta_ 7 45 hHeld (h := ?_)
              refine ta_ 11 49 hHeld (h := ?_)
              refine join_ (σ := Nat) 1 (MT 14 1) (fun s => [(9, .pointer (some ⟨s, 0, none⟩)), (50, .agg #[.int .i64 nx, .int .i64 ny, .int .i64 nz])]) (fun s w' => wc.heap.size ≤ s ∧ w'.heap[s]? = some (.cells #[.int .i64 0, .int .i64 0, .int .i64 0] 23 (0, 0)) ∧ Below (wc.heap.size) wc w') ?_ ?_
              rotate_left
              · intro hCont
                refine two_ (i := 12) (j := 13) (Ni := some 50) (Nj := some 9) (MT 13 2) #[true, true, true, true, true, true, true, true, true, true, true, true, false, true, false] rfl rfl rfl rfl (by kernel_rfl) (by decide) (by decide) (fun K hK => ?_) (fun K hK => ?_)
                · skip
                  refine gs_ Try.func155 #[.agg #[.int .i64 ix, .int .i64 iy, .int .i64 iz], .agg #[.int .i64 jx, .int .i64 jy, .int .i64 jz], .agg #[.int .i64 kx, .int .i64 ky, .int .i64 kz]] ?_
                  with_reducible refine (hNO.out _).mono ?_
                  rintro e w3 ⟨rfl, hb⟩
                  have HB := Lh (HB.out.trans (hb.mono HB.out.size))
                  clear hb
                  refine ⟨_, rfl, ?_⟩
                  refine hK.out _ _ (FF.out _ HB) (fun hHeld => ?_)
                  clear hK K
                  refine no_ (h := ?_)
                  refine on_ 13 (some 9) (h := fun K hK => ?_)
                  refine value_ (w1 := ?_) (v := ?_) (by rfl) rfl ?_ ?_
                  rotate_left 2
                  · go_simp
                    constructor
                    · rfl
                    · rfl
                  have HA := Lh (ha_new HB.out (.cells #[.int .i64 0, .int .i64 0, .int .i64 0] 23))
                  have hge := HB.out.size
                  have HB := Lh (HB.out.alloc (Nat.le_trans (Nat.le_refl _) HB.out.size) (.cells #[.int .i64 0, .int .i64 0, .int .i64 0] 23))
                  refine hK.out _ _ (FF.out _ HB) (fun hHeld => ?_)
                  clear hK K
                  refine no_ (h := ?_)
                  exact norm_ (by simp only [putAll, Act.put, List.setIfInBounds_toArray, List.set_cons_zero, List.set_cons_succ]) (hCont _ _ ⟨hge, HA.out, HB.out⟩)
                · skip
                  refine value_ (w1 := ?_) (v := ?_) (by rfl) rfl ?_ ?_
                  rotate_left 2
                  · go_simp
                    constructor
                    · rfl
                    · rfl
                  have HA := Lh (ha_new HB.out (.cells #[.int .i64 0, .int .i64 0, .int .i64 0] 23))
                  have hge := HB.out.size
                  have HB := Lh (HB.out.alloc (Nat.le_trans (Nat.le_refl _) HB.out.size) (.cells #[.int .i64 0, .int .i64 0, .int .i64 0] 23))
                  refine hK.out _ _ (FF.out _ HB) (fun hHeld => ?_)
                  clear hK K
                  refine no_ (h := ?_)
                  refine on_ 12 (some 50) (h := fun K hK => ?_)
                  refine gs_ Try.func155 #[.agg #[.int .i64 ix, .int .i64 iy, .int .i64 iz], .agg #[.int .i64 jx, .int .i64 jy, .int .i64 jz], .agg #[.int .i64 kx, .int .i64 ky, .int .i64 kz]] ?_
                  with_reducible refine (hNO.out _).mono ?_
                  rintro e w3 ⟨rfl, hb⟩
                  have HB := Lh (HB.out.trans (hb.mono HB.out.size))
                  have HA := Lh ((hb.block _ (blk_lt HA.out)).trans HA.out)
                  clear hb
                  refine ⟨_, rfl, ?_⟩
                  refine hK.out _ _ (FF.out _ HB) (fun hHeld => ?_)
                  clear hK K
                  refine no_ (h := ?_)
                  exact norm_ (by simp only [putAll, Act.put, List.setIfInBounds_toArray, List.set_cons_zero, List.set_cons_succ]) (hCont _ _ ⟨hge, HA.out, HB.out⟩)
              rintro AB wj ⟨hge, HA, HB⟩
              have HA := Lh HA
              have HB := Lh HB
              have hHeld := FF.out _ HB
              refine no_ (h := ?_)
              refine on_ 14 (none) (h := fun K hK => ?_)
              have sc0 : World.cell? _ ⟨AB, 0, none⟩ = some (.int .i64 0) := (blk_cell HA.out 0).trans rfl
              have sf0 := blk_frozen HA.out 0
              have sc1 : World.cell? _ ⟨AB, 1, none⟩ = some (.int .i64 0) := (blk_cell HA.out 1).trans rfl
              have sf1 := blk_frozen HA.out 1
              have sc2 : World.cell? _ ⟨AB, 2, none⟩ = some (.int .i64 0) := (blk_cell HA.out 2).trans rfl
              have sf2 := blk_frozen HA.out 2
              refine skip_ (w1 := ?_) (by rfl) rfl ?_ ?_
              rotate_left
              · go_simp
                rfl
              have HA := Lh (bs3 HA.out (.int .i64 nx) (.int .i64 ny) (.int .i64 nz))
              have HB := Lh (bb3 HB.out (Nat.le_trans (Nat.le_refl _) hge) (.int .i64 nx) (.int .i64 ny) (.int .i64 nz))
              clear sc0 sf0 sc1 sf1 sc2 sf2
              refine hK.out _ _ (FF.out _ HB) (fun hHeld => ?_)
              clear hK K
              refine done_ (by kernel_rfl) ?_
              obtain ⟨w5, hwn⟩ : ∃ V, (((wj.setCell ⟨AB, 0, none⟩ (.int .i64 nx)).setCell ⟨AB, 1, none⟩ (.int .i64 ny)).setCell ⟨AB, 2, none⟩ (.int .i64 nz)) = V := ⟨_, rfl⟩
              rw [hwn] at HA HB ⊢
              clear hwn
              have hS5 := Lh (hS.out.grown HB.out)
              have hA5 := HA
              have lA5 : AB < w5.heap.size := blk_lt hA5.out
              clear hHeld HB HA hge i0 i1 i2 j0 j1 j2 k0 k1 k2 hS lbc
              obtain ⟨i0, i1, i2⟩ := HRD.out _ hS5.out.bl i _ hpi.out
              simp only at i0 i1 i2
              have n0 : w5.cell? ⟨AB, 0, none⟩ = some (.int .i64 nx) := (blk_cell hA5.out 0).trans rfl
              have n1 : w5.cell? ⟨AB, 1, none⟩ = some (.int .i64 ny) := (blk_cell hA5.out 1).trans rfl
              have n2 : w5.cell? ⟨AB, 2, none⟩ = some (.int .i64 nz) := (blk_cell hA5.out 2).trans rfl
              have lb5 : b < w5.heap.size := by have := hS5.out.bl.size; omega
              have hRD5 := Lh (HAA.out.1.below hS5.out.bl)
              go_wp2_with fail
              have HB := Lh ((Below.refl (w5.heap.size) w5).drew)
              refine start_ (n := 8) (S := fun w' => w'.cell? ⟨AB, 0, none⟩ = some (.int .i64 nx) ∧ w'.cell? ⟨AB, 1, none⟩ = some (.int .i64 ny) ∧ w'.cell? ⟨AB, 2, none⟩ = some (.int .i64 nz) ∧ w'.cell? ⟨b, o + i * 3, none⟩ = some (.int .i64 ix) ∧ w'.cell? ⟨b, o + i * 3 + 1, none⟩ = some (.int .i64 iy) ∧ w'.cell? ⟨b, o + i * 3 + 2, none⟩ = some (.int .i64 iz)) (ds := []) (MT 0 8) (by kernel_rfl) rfl rfl ⟨(HB.out.cell (p := ⟨AB, 0, none⟩) (lA5)).trans n0, (HB.out.cell (p := ⟨AB, 1, none⟩) (lA5)).trans n1, (HB.out.cell (p := ⟨AB, 2, none⟩) (lA5)).trans n2, (HB.out.cell (p := ⟨b, o + i * 3, none⟩) (lb5)).trans i0, (HB.out.cell (p := ⟨b, o + i * 3 + 1, none⟩) (lb5)).trans i1, (HB.out.cell (p := ⟨b, o + i * 3 + 2, none⟩) (lb5)).trans i2⟩ (fun hHeld => ?_)
              have hRDd := Lh (show Rd w5.drew (some ⟨b, o, none⟩) l from hRD5.out)
              obtain ⟨wd, hwd⟩ : ∃ x, w5.drew = x := ⟨_, rfl⟩
              rw [hwd] at HB hHeld hRDd ⊢
              clear hwd
              refine pu_ 0 51 (h := ?_)
              refine pu_ 2 53 (h := ?_)
              refine pu_ 3 54 (h := ?_)
              refine pu_ 4 55 (h := ?_)
              refine ta_ 1 52 hHeld (h := ?_)
              refine ta_ 5 56 hHeld (h := ?_)
              refine on_ 6 (some 57) (h := fun K hK => ?_)
              refine gs_ Try.func156 #[.slice (some ⟨b, o, none⟩) N c, .agg #[.int .i64 nx, .int .i64 ny, .int .i64 nz], .agg #[.int .i64 ix, .int .i64 iy, .int .i64 iz]] ?_
              with_reducible refine (hSD.out _ hRDd.out).mono ?_
              rintro e w3 ⟨rfl, hb⟩
              have HB := Lh (HB.out.trans (hb.mono HB.out.size))
              clear hb
              refine ⟨_, rfl, ?_⟩
              refine hK.out _ _ ⟨(HB.out.cell (p := ⟨AB, 0, none⟩) (lA5)).trans n0, (HB.out.cell (p := ⟨AB, 1, none⟩) (lA5)).trans n1, (HB.out.cell (p := ⟨AB, 2, none⟩) (lA5)).trans n2, (HB.out.cell (p := ⟨b, o + i * 3, none⟩) (lb5)).trans i0, (HB.out.cell (p := ⟨b, o + i * 3 + 1, none⟩) (lb5)).trans i1, (HB.out.cell (p := ⟨b, o + i * 3 + 2, none⟩) (lb5)).trans i2⟩ (fun hHeld => ?_)
              clear hK K
              refine no_ (h := ?_)
              refine pu_ 7 10 (h := ?_)
              refine done_ (by kernel_rfl) ?_
              have hS6 := Lh (hS5.out.grown HB.out)
              have hA6 := Lh ((HB.out.block _ lA5).trans hA5.out)
              clear hHeld HB hRDd hRD5 i0 i1 i2 n0 n1 n2 hS5 hA5 lA5 lb5
              have n0 : w3.cell? ⟨AB, 0, none⟩ = some (.int .i64 nx) := (blk_cell hA6.out 0).trans rfl
              have n1 : w3.cell? ⟨AB, 1, none⟩ = some (.int .i64 ny) := (blk_cell hA6.out 1).trans rfl
              have n2 : w3.cell? ⟨AB, 2, none⟩ = some (.int .i64 nz) := (blk_cell hA6.out 2).trans rfl
              by_cases hskip : (⟨nx, ny, nz⟩ : P3) = ⟨0, 0, 0⟩ ∨ sg = 0
              · have hD2 := Lh (hD.out.step (fun a ha => ha) (fun a ha => by
                  obtain ⟨g1, g2, _⟩ := hAT.out a ha
                  rcases hskip with h | h
                  · exact absurd h g1
                  · exact absurd h g2))
                have hcase : eqP nx ny nz 0 0 0 = true ∨ (eqP nx ny nz 0 0 0 = false ∧ (sg == 0) = true) := by
                  by_cases h : (⟨nx, ny, nz⟩ : P3) = ⟨0, 0, 0⟩
                  · exact .inl (eqP_yes h)
                  · refine .inr ⟨eqP_no h, ?_⟩
                    rcases hskip with h' | h'
                    · exact absurd h' h
                    · simp [h']
                clear hskip
                rcases hcase with he | ⟨he, hs0⟩
                all_goals
                  go_wp2
                  go_roundw
                  case rel => exact ⟨k + 1, axes, edges, by omega, by omega, by go_num, hS6, hD2, by omega, by omega⟩
                  case measure => simp [intOf]; omega
              · have hn0 : (⟨nx, ny, nz⟩ : P3) ≠ ⟨0, 0, 0⟩ := fun h => hskip (.inl h)
                have hs0 : sg ≠ 0 := fun h => hskip (.inr h)
                have he := eqP_no hn0
                have hs0' : (sg == 0) = false := by simpa using hs0
                obtain ⟨nb1, nb2, nb3, nb4, nb5, nb6⟩ := ni1.out
                simp only at nb1 nb2 nb3 nb4 nb5 nb6
                have hsb : sg = 1 ∨ sg = -1 := by
                  rcases hsd.out with h | h | h
                  · exact .inl h
                  · exact .inr h
                  · exact absurd h hs0
                have m1 : -34359738368 ≤ sg * nx ∧ sg * nx ≤ 34359738368 := by rcases hsb with rfl | rfl <;> omega
                have m2 : -34359738368 ≤ sg * ny ∧ sg * ny ≤ 34359738368 := by rcases hsb with rfl | rfl <;> omega
                have m3 : -34359738368 ≤ sg * nz ∧ sg * nz ≤ 34359738368 := by rcases hsb with rfl | rfl <;> omega
                have w1' : IntKind.i64.wrap (sg * nx) = sg * nx := iw_id _ (by omega) (by omega)
                have w2' : IntKind.i64.wrap (sg * ny) = sg * ny := iw_id _ (by omega) (by omega)
                have w3' : IntKind.i64.wrap (sg * nz) = sg * nz := iw_id _ (by omega) (by omega)
                have w4' : wrap64 (sg * nx) = sg * nx := w64_id _ (by omega) (by omega)
                have w5' : wrap64 (sg * ny) = sg * ny := w64_id _ (by omega) (by omega)
                have w6' : wrap64 (sg * nz) = sg * nz := w64_id _ (by omega) (by omega)
                have hSH := Lh (fun W => rshort_calls ⟨sg * nx, sg * ny, sg * nz⟩ W (by unfold in3; simp only; omega))
                have hAX := Lh (hAI.out _ hn0 hs0 rfl)
                have hATE := Lh (fun a (ha : AxAt l i j k a) => (hAT.out a ha).2.2)
                have haI := Lh (short3_in ⟨sg * nx, sg * ny, sg * nz⟩)
                unfold axisF at hAX hATE
                simp only at hAX hATE
                obtain ⟨a, ha⟩ : ∃ a, short3 ⟨sg * nx, sg * ny, sg * nz⟩ = a := ⟨_, rfl⟩
                rw [ha] at hSH hAX hATE haI
                clear ha hskip hn0 hs0 hsb m1 m2 m3 nb1 nb2 nb3 nb4 nb5 nb6
                go_wp2_with fail
                refine (hSH.out _).mono ?_
                rintro e w6 ⟨rfl, hb⟩
                have hS7 := Lh (hS6.out.grown hb)
                clear hb hS6 hA6 n0 n1 n2 he hs0' w1' w2' w3' w4' w5' w6'
                obtain ⟨Ax, cx, hvx, hlx, hrx, hbx⟩ := OwnP.rdB hS7.out.o4
                have hS8 := Lh (hS7.out.grown ((Below.refl _ w6).alloc (Nat.le_refl _) (.cells #[.int .i64 a.x, .int .i64 a.y, .int .i64 a.z] 23)))
                have hR8 := Lh (hrx.1.below ((Below.refl _ w6).alloc (Nat.le_refl _) (.cells #[.int .i64 a.x, .int .i64 a.y, .int .i64 a.z] 23)))
                have hA8 := Lh (heap_alloc_new w6 (.cells #[.int .i64 a.x, .int .i64 a.y, .int .i64 a.z] 23))
                obtain ⟨w8, hw8⟩ : ∃ x, w6.alloc (.cells #[.int .i64 a.x, .int .i64 a.y, .int .i64 a.z] 23) = x := ⟨_, rfl⟩
                rw [hw8] at hS8 hR8 hA8
                obtain ⟨BA, hBA⟩ : ∃ x, w6.heap.size = x := ⟨_, rfl⟩
                rw [hBA] at hA8
                have lBA : BA < w8.heap.size := blk_lt hA8.out
                subst hvx
                clear hS7 hrx
                have lax : axes.length ≤ 2000 := by omega
                have hc0 : w8.cell? ⟨BA, 0, none⟩ = some (.int .i64 a.x) := (blk_cell hA8.out 0).trans rfl
                have hc1 : w8.cell? ⟨BA, 1, none⟩ = some (.int .i64 a.y) := (blk_cell hA8.out 1).trans rfl
                have hc2 : w8.cell? ⟨BA, 2, none⟩ = some (.int .i64 a.z) := (blk_cell hA8.out 2).trans rfl
                have hHas := Lh (fun r hr => has_calls axes Ax cx a false w8 hR8.out (by omega) haI.out r hr)
                have hlx := Lh hlx
                have hbx := Lh hbx
                go_wp2_with fail
                (try rw [hw8])
                obtain ⟨hb4, hhb⟩ : ∃ b, hasF axes a false = b := ⟨_, rfl⟩
                refine (hHas.out hb4 hhb).mono ?_
                rintro e wh ⟨rfl, hb⟩
                have hhb := Lh hhb
                have hS9 := Lh (hS8.out.grown hb)
                have hA9 := Lh ((hb.block _ lBA).trans hA8.out)
                clear hb hHas hS8 hR8 hA8 hc0 hc1 hc2 hw8 hBA lBA
                have hc0 : wh.cell? ⟨BA, 0, none⟩ = some (.int .i64 a.x) := (blk_cell hA9.out 0).trans rfl
                have hc1 : wh.cell? ⟨BA, 1, none⟩ = some (.int .i64 a.y) := (blk_cell hA9.out 1).trans rfl
                have hc2 : wh.cell? ⟨BA, 2, none⟩ = some (.int .i64 a.z) := (blk_cell hA9.out 2).trans rfl
                -- the three edges
                obtain ⟨⟨d1, d2, d3⟩, hd⟩ : ∃ d, minus3 ⟨jx, jy, jz⟩ ⟨ix, iy, iz⟩ = d := ⟨_, rfl⟩
                obtain ⟨⟨f1, f2, f3⟩, hf⟩ : ∃ d, minus3 ⟨kx, ky, kz⟩ ⟨ix, iy, iz⟩ = d := ⟨_, rfl⟩
                obtain ⟨⟨g1, g2, g3⟩, hg⟩ : ∃ d, minus3 ⟨kx, ky, kz⟩ ⟨jx, jy, jz⟩ = d := ⟨_, rfl⟩
                have M1 := (fun W => rminus_calls jx jy jz ix iy iz W)
                have M2 := (fun W => rminus_calls kx ky kz ix iy iz W)
                have M3' := (fun W => rminus_calls kx ky kz jx jy jz W)
                have E1 := hE1.out
                have E2 := hE2.out
                have E3 := hE3.out
                have j1 := ni2.out
                have j2 := ni3.out
                have j3 := ni4.out
                rw [hd] at M1 E1 j1
                rw [hf] at M2 E2 j2
                rw [hg] at M3' E3 j3
                have S1 := (fun W => rshort_calls ⟨d1, d2, d3⟩ W (in3_le (by decide) j1))
                have S2 := (fun W => rshort_calls ⟨f1, f2, f3⟩ W (in3_le (by decide) j2))
                have S3 := (fun W => rshort_calls ⟨g1, g2, g3⟩ W (in3_le (by decide) j3))
                have I1 := short3_in ⟨d1, d2, d3⟩
                have I2 := short3_in ⟨f1, f2, f3⟩
                have I3 := short3_in ⟨g1, g2, g3⟩
                obtain ⟨e1, he1⟩ : ∃ e, short3 ⟨d1, d2, d3⟩ = e := ⟨_, rfl⟩
                obtain ⟨e2, he2⟩ : ∃ e, short3 ⟨f1, f2, f3⟩ = e := ⟨_, rfl⟩
                obtain ⟨e3, he3⟩ : ∃ e, short3 ⟨g1, g2, g3⟩ = e := ⟨_, rfl⟩
                rw [he1] at S1 I1 E1
                rw [he2] at S2 I2 E2
                rw [he3] at S3 I3 E3
                have EL := Lh (show ∀ e ∈ [e1, e2, e3], EdP l e ∧ in3 1048576 e by
                  intro e he
                  simp only [List.mem_cons, List.not_mem_nil, or_false] at he
                  rcases he with rfl | rfl | rfl
                  · exact ⟨E1, I1⟩
                  · exact ⟨E2, I2⟩
                  · exact ⟨E3, I3⟩)
                have M1 := Lh M1
                have M2 := Lh M2
                have M3' := Lh M3'
                have S1 := Lh S1
                have S2 := Lh S2
                have S3 := Lh S3
                clear hd hf hg he1 he2 he3 E1 E2 E3 I1 I2 I3 j1 j2 j3 hE1 hE2 hE3
                cases hb4
                · have hS10 := Lh (hS9.out.grown ((Below.refl _ wh).alloc (Nat.le_refl _) (.cells #[.int .i64 a.x, .int .i64 a.y, .int .i64 a.z] 23)))
                  have hA10 := Lh (heap_alloc_new wh (.cells #[.int .i64 a.x, .int .i64 a.y, .int .i64 a.z] 23))
                  have hna := Lh (hasF_no hhb.out)
                  go_wp2_with (at_builtin; refine wpList_one_at w.heap.size rfl _ _ rfl _ axes _ _ a 23 rfl rfl hS10.out.o4 hA10.out (by omega) (by have := hS10.out.bl.size; omega) ?_; intro v9 w9 hv9 hg9 hat9; have hS11 := Lh (hS10.out.add4 hv9 hg9 hat9 hna.out hAX.out); clear hv9 hg9 hat9)
                  have hDn := Lh (show DoneA l (axes ++ [a]) i j (k + 1) from hD.out.step (fun x hx => List.mem_append_left _ hx) (fun x hx => by rw [hATE.out x hx]; simp))
                  clear hS9 hA9 hS10 hA10 hc0 hc1 hc2 hna
                  obtain ⟨i0, i1, i2⟩ := HRD.out _ hS11.out.bl i _ hpi.out
                  obtain ⟨j0, j1, j2⟩ := HRD.out _ hS11.out.bl j _ hpj.out
                  obtain ⟨k0, k1, k2⟩ := HRD.out _ hS11.out.bl k _ hpk.out
                  simp only at i0 i1 i2 j0 j1 j2 k0 k1 k2
                  have lb9 : b < w9.heap.size := by have := hS11.out.bl.size; omega
                  have HB := Lh ((Below.refl (w9.heap.size) w9).drew)
                  have FF := Lh (show ∀ V, Hid (Below (w9.heap.size) w9 V) → V.cell? ⟨b, o + i * 3, none⟩ = some (.int .i64 ix) ∧ V.cell? ⟨b, o + i * 3 + 1, none⟩ = some (.int .i64 iy) ∧ V.cell? ⟨b, o + i * 3 + 2, none⟩ = some (.int .i64 iz) ∧ V.cell? ⟨b, o + j * 3, none⟩ = some (.int .i64 jx) ∧ V.cell? ⟨b, o + j * 3 + 1, none⟩ = some (.int .i64 jy) ∧ V.cell? ⟨b, o + j * 3 + 2, none⟩ = some (.int .i64 jz) ∧ V.cell? ⟨b, o + k * 3, none⟩ = some (.int .i64 kx) ∧ V.cell? ⟨b, o + k * 3 + 1, none⟩ = some (.int .i64 ky) ∧ V.cell? ⟨b, o + k * 3 + 2, none⟩ = some (.int .i64 kz) from fun V HB => ⟨(HB.out.cell (p := ⟨b, o + i * 3, none⟩) (lb9)).trans i0, (HB.out.cell (p := ⟨b, o + i * 3 + 1, none⟩) (lb9)).trans i1, (HB.out.cell (p := ⟨b, o + i * 3 + 2, none⟩) (lb9)).trans i2, (HB.out.cell (p := ⟨b, o + j * 3, none⟩) (lb9)).trans j0, (HB.out.cell (p := ⟨b, o + j * 3 + 1, none⟩) (lb9)).trans j1, (HB.out.cell (p := ⟨b, o + j * 3 + 2, none⟩) (lb9)).trans j2, (HB.out.cell (p := ⟨b, o + k * 3, none⟩) (lb9)).trans k0, (HB.out.cell (p := ⟨b, o + k * 3 + 1, none⟩) (lb9)).trans k1, (HB.out.cell (p := ⟨b, o + k * 3 + 2, none⟩) (lb9)).trans k2⟩)
                  refine start_ (n := 32) (S := fun w' => w'.cell? ⟨b, o + i * 3, none⟩ = some (.int .i64 ix) ∧ w'.cell? ⟨b, o + i * 3 + 1, none⟩ = some (.int .i64 iy) ∧ w'.cell? ⟨b, o + i * 3 + 2, none⟩ = some (.int .i64 iz) ∧ w'.cell? ⟨b, o + j * 3, none⟩ = some (.int .i64 jx) ∧ w'.cell? ⟨b, o + j * 3 + 1, none⟩ = some (.int .i64 jy) ∧ w'.cell? ⟨b, o + j * 3 + 2, none⟩ = some (.int .i64 jz) ∧ w'.cell? ⟨b, o + k * 3, none⟩ = some (.int .i64 kx) ∧ w'.cell? ⟨b, o + k * 3 + 1, none⟩ = some (.int .i64 ky) ∧ w'.cell? ⟨b, o + k * 3 + 2, none⟩ = some (.int .i64 kz)) (ds := []) (MT 0 32) (by kernel_rfl) rfl rfl (FF.out _ HB) (fun hHeld => ?_)
                  obtain ⟨wd, hwd⟩ : ∃ x, w9.drew = x := ⟨_, rfl⟩
                  rw [hwd] at HB hHeld ⊢
                  clear hwd
                  refine pu_ 0 88 (h := ?_)
                  refine pu_ 1 89 (h := ?_)
                  refine pu_ 2 90 (h := ?_)
                  refine pu_ 4 92 (h := ?_)
                  refine pu_ 5 93 (h := ?_)
                  refine pu_ 6 94 (h := ?_)
                  refine pu_ 10 98 (h := ?_)
                  refine pu_ 11 99 (h := ?_)
                  refine pu_ 12 100 (h := ?_)
                  refine pu_ 14 102 (h := ?_)
                  refine pu_ 15 103 (h := ?_)
                  refine pu_ 16 104 (h := ?_)
                  refine pu_ 20 108 (h := ?_)
                  refine pu_ 21 109 (h := ?_)
                  refine pu_ 22 110 (h := ?_)
                  refine pu_ 24 112 (h := ?_)
                  refine pu_ 25 113 (h := ?_)
                  refine pu_ 26 114 (h := ?_)
                  refine ta_ 3 91 hHeld (h := ?_)
                  refine ta_ 7 95 hHeld (h := ?_)
                  refine ta_ 13 101 hHeld (h := ?_)
                  refine ta_ 17 105 hHeld (h := ?_)
                  refine ta_ 23 111 hHeld (h := ?_)
                  refine ta_ 27 115 hHeld (h := ?_)
                  refine on_ 8 (some 96) (h := fun K hK => ?_)
                  refine gs_ Try.func23 #[.agg #[.int .i64 jx, .int .i64 jy, .int .i64 jz], .agg #[.int .i64 ix, .int .i64 iy, .int .i64 iz]] ?_
                  with_reducible refine (M1.out _).mono ?_
                  rintro e w3 ⟨rfl, hb⟩
                  have HB := Lh (HB.out.trans (hb.mono HB.out.size))
                  clear hb
                  refine ⟨_, rfl, ?_⟩
                  refine hK.out _ _ (FF.out _ HB) (fun hHeld => ?_)
                  clear hK K
                  refine no_ (h := ?_)
                  refine on_ 9 (some 97) (h := fun K hK => ?_)
                  refine gs_ Try.func81 #[aP ⟨d1, d2, d3⟩] ?_
                  with_reducible refine (S1.out _).mono ?_
                  rintro e w3 ⟨rfl, hb⟩
                  have HB := Lh (HB.out.trans (hb.mono HB.out.size))
                  clear hb
                  refine ⟨_, rfl, ?_⟩
                  refine hK.out _ _ (FF.out _ HB) (fun hHeld => ?_)
                  clear hK K
                  refine no_ (h := ?_)
                  refine on_ 18 (some 106) (h := fun K hK => ?_)
                  refine gs_ Try.func23 #[.agg #[.int .i64 kx, .int .i64 ky, .int .i64 kz], .agg #[.int .i64 ix, .int .i64 iy, .int .i64 iz]] ?_
                  with_reducible refine (M2.out _).mono ?_
                  rintro e w3 ⟨rfl, hb⟩
                  have HB := Lh (HB.out.trans (hb.mono HB.out.size))
                  clear hb
                  refine ⟨_, rfl, ?_⟩
                  refine hK.out _ _ (FF.out _ HB) (fun hHeld => ?_)
                  clear hK K
                  refine no_ (h := ?_)
                  refine on_ 19 (some 107) (h := fun K hK => ?_)
                  refine gs_ Try.func81 #[aP ⟨f1, f2, f3⟩] ?_
                  with_reducible refine (S2.out _).mono ?_
                  rintro e w3 ⟨rfl, hb⟩
                  have HB := Lh (HB.out.trans (hb.mono HB.out.size))
                  clear hb
                  refine ⟨_, rfl, ?_⟩
                  refine hK.out _ _ (FF.out _ HB) (fun hHeld => ?_)
                  clear hK K
                  refine no_ (h := ?_)
                  refine on_ 28 (some 116) (h := fun K hK => ?_)
                  refine gs_ Try.func23 #[.agg #[.int .i64 kx, .int .i64 ky, .int .i64 kz], .agg #[.int .i64 jx, .int .i64 jy, .int .i64 jz]] ?_
                  with_reducible refine (M3'.out _).mono ?_
                  rintro e w3 ⟨rfl, hb⟩
                  have HB := Lh (HB.out.trans (hb.mono HB.out.size))
                  clear hb
                  refine ⟨_, rfl, ?_⟩
                  refine hK.out _ _ (FF.out _ HB) (fun hHeld => ?_)
                  clear hK K
                  refine no_ (h := ?_)
                  refine on_ 29 (some 117) (h := fun K hK => ?_)
                  refine gs_ Try.func81 #[aP ⟨g1, g2, g3⟩] ?_
                  with_reducible refine (S3.out _).mono ?_
                  rintro e w3 ⟨rfl, hb⟩
                  have HB := Lh (HB.out.trans (hb.mono HB.out.size))
                  clear hb
                  refine ⟨_, rfl, ?_⟩
                  refine hK.out _ _ (FF.out _ HB) (fun hHeld => ?_)
                  clear hK K
                  refine no_ (h := ?_)
                  refine on_ 30 (some 118) (h := fun K hK => ?_)
                  refine value_ (w1 := ?_) (v := ?_) (by rfl) rfl ?_ ?_
                  rotate_left 2
                  · go_simp
                    constructor
                    · rfl
                    · rfl
                  have HA := Lh (ha_new HB.out (.cells #[.int .i64 e1.x, .int .i64 e1.y, .int .i64 e1.z, .int .i64 e2.x, .int .i64 e2.y, .int .i64 e2.z, .int .i64 e3.x, .int .i64 e3.y, .int .i64 e3.z] 23))
                  have hge := HB.out.size
                  have HB := Lh (HB.out.alloc (Nat.le_trans (Nat.le_refl _) HB.out.size) (.cells #[.int .i64 e1.x, .int .i64 e1.y, .int .i64 e1.z, .int .i64 e2.x, .int .i64 e2.y, .int .i64 e2.z, .int .i64 e3.x, .int .i64 e3.y, .int .i64 e3.z] 23))
                  refine hK.out _ _ (FF.out _ HB) (fun hHeld => ?_)
                  clear hK K
                  refine no_ (h := ?_)
                  refine pu_ 31 13 (h := ?_)
                  refine done_ (by kernel_rfl) ?_
                  obtain ⟨w10, hw10⟩ : ∃ x, w3.alloc (.cells #[.int .i64 e1.x, .int .i64 e1.y, .int .i64 e1.z, .int .i64 e2.x, .int .i64 e2.y, .int .i64 e2.z, .int .i64 e3.x, .int .i64 e3.y, .int .i64 e3.z] 23) = x := ⟨_, rfl⟩
                  obtain ⟨EB, hEB⟩ : ∃ x, w3.heap.size = x := ⟨_, rfl⟩
                  rw [hw10] at HB HA ⊢
                  rw [hEB] at HA hge ⊢
                  have hS12 := Lh (hS11.out.grown HB.out)
                  have hne := Lh (fun q (h : (_ : Value).ownBlock = some q) => show q ≠ EB by have := OwnP.lt hS11.out.o5 q h; omega)
                  have hE := HA
                  have lE : EB < w10.heap.size := blk_lt hE.out
                  clear hHeld HB HA hge hw10 hEB i0 i1 i2 j0 j1 j2 k0 k1 k2 hS11 lb9 M1 M2 M3' S1 S2 S3
                  go_wp2
                  go_loopw [5, 14, 15] (fun v5 v14 v15 wr => ∃ (q : Nat) (edges2 : List P3), q ≤ 3 ∧ v14 = .int .i64 q ∧ Hid (HSt l w wr _ v5 (axes ++ [a]) edges2) ∧ Hid (wr.heap[EB]? = some (.cells #[.int .i64 e1.x, .int .i64 e1.y, .int .i64 e1.z, .int .i64 e2.x, .int .i64 e2.y, .int .i64 e2.z, .int .i64 e3.x, .int .i64 e3.y, .int .i64 e3.z] 23 (0, 0))) ∧ Hid (∀ z, v5.ownBlock = some z → z ≠ EB) ∧ edges2.length ≤ edges.length + q) (fun _ q _ _ => 3 - (intOf q).toNat)
                  case atStart => exact ⟨0, edges, by omega, rfl, hS12, hE, hne, by omega⟩
                  case round =>
                    clear hS12 hE hne lE
                    obtain ⟨q, edges2, hq3, rfl, hS, hE, hne, hle⟩ := hrel
                    by_cases hq : q < 3
                    · obtain ⟨eb, eo, ee, _, q0, q1, q2⟩ := (Rd_three hE.out).1.get q (by simpa using hq)
                      simp only [Option.some.injEq, Addr.mk.injEq, and_true] at ee
                      obtain ⟨rfl, rfl⟩ := ee
                      obtain ⟨hEP, hEI⟩ := EL.out _ (List.getElem_mem (show q < [e1, e2, e3].length by simpa using hq))
                      obtain ⟨ev, hev⟩ : ∃ ev, [e1, e2, e3][q]'(by simpa using hq) = ev := ⟨_, rfl⟩
                      rw [hev] at q0 q1 q2 hEP hEI
                      have hEP := Lh hEP
                      have HEV := Lh hev
                      clear hev
                      obtain ⟨Ae, ce, hve, hle2, hre, hbe⟩ := OwnP.rdB hS.out.o5
                      have hHas := Lh (fun r hr => has_calls edges2 Ae ce ev true _ hre.1 (by omega) hEI r hr)
                      obtain ⟨be, hbe2⟩ : ∃ b, hasF edges2 ev true = b := ⟨_, rfl⟩
                      have lEr : EB < wr.heap.size := blk_lt hE.out
                      obtain ⟨wo2, hwo2⟩ : ∃ wo : World, wo = wr := ⟨_, rfl⟩
                      subst hwo2
                      subst hve
                      rw [Nat.zero_add] at q0 q1 q2
                      go_wp2_with fail
                      refine (hHas.out be hbe2).mono ?_
                      rintro e w13 ⟨rfl, hb⟩
                      have hS13 := Lh (hS.out.grown hb)
                      have hE13 := Lh ((hb.block _ lEr).trans hE.out)
                      have l13 : EB < w13.heap.size := blk_lt hE13.out
                      clear hb hHas q0 q1 q2 hre
                      obtain ⟨eb, eo, ee, _, q0, q1, q2⟩ := (Rd_three hE13.out).1.get q (by simpa using hq)
                      simp only [Option.some.injEq, Addr.mk.injEq, and_true] at ee
                      obtain ⟨rfl, rfl⟩ := ee
                      rw [HEV.out] at q0 q1 q2
                      rw [Nat.zero_add] at q0 q1 q2
                      cases be
                      · have hnb := Lh (hasF_no hbe2)
                        have hS14 := Lh (hS13.out.grown ((Below.refl _ w13).alloc (Nat.le_refl _) (.cells #[.int .i64 ev.x, .int .i64 ev.y, .int .i64 ev.z] 23)))
                        have hA14 := Lh (heap_alloc_new w13 (.cells #[.int .i64 ev.x, .int .i64 ev.y, .int .i64 ev.z] 23))
                        have hE14 := Lh ((Below.heap_alloc _ (.cells #[.int .i64 ev.x, .int .i64 ev.y, .int .i64 ev.z] 23) _ l13).trans hE13.out)
                        have hbe2 := Lh hbe2
                        go_wp2_with (at_builtin; refine wpList_one_at w.heap.size rfl _ _ rfl _ edges2 _ _ ev 23 rfl rfl hS14.out.o5 hA14.out (by omega) (by have := hS14.out.bl.size; omega) ?_; intro v15 w15 hv15 hg15 hat15; have hS15 := Lh (hS14.out.add5 hv15 hg15 hat15 hnb.out hEP.out); have hE15 := Lh ((hg15.block EB (blk_lt hE14.out) (fun e => hne.out EB e.symm rfl)).trans hE14.out); have hne15 := Lh (fun z (hz : v15.ownBlock = some z) => show z ≠ EB from by rcases hat15 with e | e; exact hne.out z (e ▸ hz); rw [e] at hz; cases hz; simp; omega); clear hv15 hg15 hat15)
                        go_roundw
                        case rel => exact ⟨q + 1, edges2 ++ [ev], by omega, by go_num, hS15, hE15, hne15, by simp; omega⟩
                        case measure => simp [intOf]; omega
                      · have hbe2 := Lh hbe2
                        go_wp2
                        go_roundw
                        case rel => exact ⟨q + 1, edges2, by omega, by go_num, hS13, hE13, hne, by omega⟩
                        case measure => simp [intOf]; omega
                    · obtain rfl : q = 3 := by omega
                      go_wp2
                      go_roundw
                      case rel => exact ⟨k + 1, axes ++ [a], edges2, by omega, by omega, by go_num, hS, hDn, by first | omega | (simp; omega), by omega⟩
                      case measure => simp [intOf]; omega
                · have hDn := Lh (show DoneA l axes i j (k + 1) from hD.out.step (fun x hx => hx) (fun x hx => by rw [hATE.out x hx]; exact hasF_yes hhb.out))
                  go_wp2_with fail
                  obtain ⟨w9, hw9⟩ : ∃ x : World, x = wh := ⟨_, rfl⟩
                  subst hw9
                  have hS11 := hS9
                  clear hA9 hc0 hc1 hc2 hS9
                  obtain ⟨i0, i1, i2⟩ := HRD.out _ hS11.out.bl i _ hpi.out
                  obtain ⟨j0, j1, j2⟩ := HRD.out _ hS11.out.bl j _ hpj.out
                  obtain ⟨k0, k1, k2⟩ := HRD.out _ hS11.out.bl k _ hpk.out
                  simp only at i0 i1 i2 j0 j1 j2 k0 k1 k2
                  have lb9 : b < w9.heap.size := by have := hS11.out.bl.size; omega
                  have HB := Lh ((Below.refl (w9.heap.size) w9).drew)
                  have FF := Lh (show ∀ V, Hid (Below (w9.heap.size) w9 V) → V.cell? ⟨b, o + i * 3, none⟩ = some (.int .i64 ix) ∧ V.cell? ⟨b, o + i * 3 + 1, none⟩ = some (.int .i64 iy) ∧ V.cell? ⟨b, o + i * 3 + 2, none⟩ = some (.int .i64 iz) ∧ V.cell? ⟨b, o + j * 3, none⟩ = some (.int .i64 jx) ∧ V.cell? ⟨b, o + j * 3 + 1, none⟩ = some (.int .i64 jy) ∧ V.cell? ⟨b, o + j * 3 + 2, none⟩ = some (.int .i64 jz) ∧ V.cell? ⟨b, o + k * 3, none⟩ = some (.int .i64 kx) ∧ V.cell? ⟨b, o + k * 3 + 1, none⟩ = some (.int .i64 ky) ∧ V.cell? ⟨b, o + k * 3 + 2, none⟩ = some (.int .i64 kz) from fun V HB => ⟨(HB.out.cell (p := ⟨b, o + i * 3, none⟩) (lb9)).trans i0, (HB.out.cell (p := ⟨b, o + i * 3 + 1, none⟩) (lb9)).trans i1, (HB.out.cell (p := ⟨b, o + i * 3 + 2, none⟩) (lb9)).trans i2, (HB.out.cell (p := ⟨b, o + j * 3, none⟩) (lb9)).trans j0, (HB.out.cell (p := ⟨b, o + j * 3 + 1, none⟩) (lb9)).trans j1, (HB.out.cell (p := ⟨b, o + j * 3 + 2, none⟩) (lb9)).trans j2, (HB.out.cell (p := ⟨b, o + k * 3, none⟩) (lb9)).trans k0, (HB.out.cell (p := ⟨b, o + k * 3 + 1, none⟩) (lb9)).trans k1, (HB.out.cell (p := ⟨b, o + k * 3 + 2, none⟩) (lb9)).trans k2⟩)
                  refine start_ (n := 32) (S := fun w' => w'.cell? ⟨b, o + i * 3, none⟩ = some (.int .i64 ix) ∧ w'.cell? ⟨b, o + i * 3 + 1, none⟩ = some (.int .i64 iy) ∧ w'.cell? ⟨b, o + i * 3 + 2, none⟩ = some (.int .i64 iz) ∧ w'.cell? ⟨b, o + j * 3, none⟩ = some (.int .i64 jx) ∧ w'.cell? ⟨b, o + j * 3 + 1, none⟩ = some (.int .i64 jy) ∧ w'.cell? ⟨b, o + j * 3 + 2, none⟩ = some (.int .i64 jz) ∧ w'.cell? ⟨b, o + k * 3, none⟩ = some (.int .i64 kx) ∧ w'.cell? ⟨b, o + k * 3 + 1, none⟩ = some (.int .i64 ky) ∧ w'.cell? ⟨b, o + k * 3 + 2, none⟩ = some (.int .i64 kz)) (ds := []) (MT 0 32) (by kernel_rfl) rfl rfl (FF.out _ HB) (fun hHeld => ?_)
                  obtain ⟨wd, hwd⟩ : ∃ x, w9.drew = x := ⟨_, rfl⟩
                  rw [hwd] at HB hHeld ⊢
                  clear hwd
                  refine pu_ 0 88 (h := ?_)
                  refine pu_ 1 89 (h := ?_)
                  refine pu_ 2 90 (h := ?_)
                  refine pu_ 4 92 (h := ?_)
                  refine pu_ 5 93 (h := ?_)
                  refine pu_ 6 94 (h := ?_)
                  refine pu_ 10 98 (h := ?_)
                  refine pu_ 11 99 (h := ?_)
                  refine pu_ 12 100 (h := ?_)
                  refine pu_ 14 102 (h := ?_)
                  refine pu_ 15 103 (h := ?_)
                  refine pu_ 16 104 (h := ?_)
                  refine pu_ 20 108 (h := ?_)
                  refine pu_ 21 109 (h := ?_)
                  refine pu_ 22 110 (h := ?_)
                  refine pu_ 24 112 (h := ?_)
                  refine pu_ 25 113 (h := ?_)
                  refine pu_ 26 114 (h := ?_)
                  refine ta_ 3 91 hHeld (h := ?_)
                  refine ta_ 7 95 hHeld (h := ?_)
                  refine ta_ 13 101 hHeld (h := ?_)
                  refine ta_ 17 105 hHeld (h := ?_)
                  refine ta_ 23 111 hHeld (h := ?_)
                  refine ta_ 27 115 hHeld (h := ?_)
                  refine on_ 8 (some 96) (h := fun K hK => ?_)
                  refine gs_ Try.func23 #[.agg #[.int .i64 jx, .int .i64 jy, .int .i64 jz], .agg #[.int .i64 ix, .int .i64 iy, .int .i64 iz]] ?_
                  with_reducible refine (M1.out _).mono ?_
                  rintro e w3 ⟨rfl, hb⟩
                  have HB := Lh (HB.out.trans (hb.mono HB.out.size))
                  clear hb
                  refine ⟨_, rfl, ?_⟩
                  refine hK.out _ _ (FF.out _ HB) (fun hHeld => ?_)
                  clear hK K
                  refine no_ (h := ?_)
                  refine on_ 9 (some 97) (h := fun K hK => ?_)
                  refine gs_ Try.func81 #[aP ⟨d1, d2, d3⟩] ?_
                  with_reducible refine (S1.out _).mono ?_
                  rintro e w3 ⟨rfl, hb⟩
                  have HB := Lh (HB.out.trans (hb.mono HB.out.size))
                  clear hb
                  refine ⟨_, rfl, ?_⟩
                  refine hK.out _ _ (FF.out _ HB) (fun hHeld => ?_)
                  clear hK K
                  refine no_ (h := ?_)
                  refine on_ 18 (some 106) (h := fun K hK => ?_)
                  refine gs_ Try.func23 #[.agg #[.int .i64 kx, .int .i64 ky, .int .i64 kz], .agg #[.int .i64 ix, .int .i64 iy, .int .i64 iz]] ?_
                  with_reducible refine (M2.out _).mono ?_
                  rintro e w3 ⟨rfl, hb⟩
                  have HB := Lh (HB.out.trans (hb.mono HB.out.size))
                  clear hb
                  refine ⟨_, rfl, ?_⟩
                  refine hK.out _ _ (FF.out _ HB) (fun hHeld => ?_)
                  clear hK K
                  refine no_ (h := ?_)
                  refine on_ 19 (some 107) (h := fun K hK => ?_)
                  refine gs_ Try.func81 #[aP ⟨f1, f2, f3⟩] ?_
                  with_reducible refine (S2.out _).mono ?_
                  rintro e w3 ⟨rfl, hb⟩
                  have HB := Lh (HB.out.trans (hb.mono HB.out.size))
                  clear hb
                  refine ⟨_, rfl, ?_⟩
                  refine hK.out _ _ (FF.out _ HB) (fun hHeld => ?_)
                  clear hK K
                  refine no_ (h := ?_)
                  refine on_ 28 (some 116) (h := fun K hK => ?_)
                  refine gs_ Try.func23 #[.agg #[.int .i64 kx, .int .i64 ky, .int .i64 kz], .agg #[.int .i64 jx, .int .i64 jy, .int .i64 jz]] ?_
                  with_reducible refine (M3'.out _).mono ?_
                  rintro e w3 ⟨rfl, hb⟩
                  have HB := Lh (HB.out.trans (hb.mono HB.out.size))
                  clear hb
                  refine ⟨_, rfl, ?_⟩
                  refine hK.out _ _ (FF.out _ HB) (fun hHeld => ?_)
                  clear hK K
                  refine no_ (h := ?_)
                  refine on_ 29 (some 117) (h := fun K hK => ?_)
                  refine gs_ Try.func81 #[aP ⟨g1, g2, g3⟩] ?_
                  with_reducible refine (S3.out _).mono ?_
                  rintro e w3 ⟨rfl, hb⟩
                  have HB := Lh (HB.out.trans (hb.mono HB.out.size))
                  clear hb
                  refine ⟨_, rfl, ?_⟩
                  refine hK.out _ _ (FF.out _ HB) (fun hHeld => ?_)
                  clear hK K
                  refine no_ (h := ?_)
                  refine on_ 30 (some 118) (h := fun K hK => ?_)
                  refine value_ (w1 := ?_) (v := ?_) (by rfl) rfl ?_ ?_
                  rotate_left 2
                  · go_simp
                    constructor
                    · rfl
                    · rfl
                  have HA := Lh (ha_new HB.out (.cells #[.int .i64 e1.x, .int .i64 e1.y, .int .i64 e1.z, .int .i64 e2.x, .int .i64 e2.y, .int .i64 e2.z, .int .i64 e3.x, .int .i64 e3.y, .int .i64 e3.z] 23))
                  have hge := HB.out.size
                  have HB := Lh (HB.out.alloc (Nat.le_trans (Nat.le_refl _) HB.out.size) (.cells #[.int .i64 e1.x, .int .i64 e1.y, .int .i64 e1.z, .int .i64 e2.x, .int .i64 e2.y, .int .i64 e2.z, .int .i64 e3.x, .int .i64 e3.y, .int .i64 e3.z] 23))
                  refine hK.out _ _ (FF.out _ HB) (fun hHeld => ?_)
                  clear hK K
                  refine no_ (h := ?_)
                  refine pu_ 31 13 (h := ?_)
                  refine done_ (by kernel_rfl) ?_
                  obtain ⟨w10, hw10⟩ : ∃ x, w3.alloc (.cells #[.int .i64 e1.x, .int .i64 e1.y, .int .i64 e1.z, .int .i64 e2.x, .int .i64 e2.y, .int .i64 e2.z, .int .i64 e3.x, .int .i64 e3.y, .int .i64 e3.z] 23) = x := ⟨_, rfl⟩
                  obtain ⟨EB, hEB⟩ : ∃ x, w3.heap.size = x := ⟨_, rfl⟩
                  rw [hw10] at HB HA ⊢
                  rw [hEB] at HA hge ⊢
                  have hS12 := Lh (hS11.out.grown HB.out)
                  have hne := Lh (fun q (h : (_ : Value).ownBlock = some q) => show q ≠ EB by have := OwnP.lt hS11.out.o5 q h; omega)
                  have hE := HA
                  have lE : EB < w10.heap.size := blk_lt hE.out
                  clear hHeld HB HA hge hw10 hEB i0 i1 i2 j0 j1 j2 k0 k1 k2 hS11 lb9 M1 M2 M3' S1 S2 S3
                  go_wp2
                  go_loopw [5, 14, 15] (fun v5 v14 v15 wr => ∃ (q : Nat) (edges2 : List P3), q ≤ 3 ∧ v14 = .int .i64 q ∧ Hid (HSt l w wr _ v5 (axes) edges2) ∧ Hid (wr.heap[EB]? = some (.cells #[.int .i64 e1.x, .int .i64 e1.y, .int .i64 e1.z, .int .i64 e2.x, .int .i64 e2.y, .int .i64 e2.z, .int .i64 e3.x, .int .i64 e3.y, .int .i64 e3.z] 23 (0, 0))) ∧ Hid (∀ z, v5.ownBlock = some z → z ≠ EB) ∧ edges2.length ≤ edges.length + q) (fun _ q _ _ => 3 - (intOf q).toNat)
                  case atStart => exact ⟨0, edges, by omega, rfl, hS12, hE, hne, by omega⟩
                  case round =>
                    clear hS12 hE hne lE
                    obtain ⟨q, edges2, hq3, rfl, hS, hE, hne, hle⟩ := hrel
                    by_cases hq : q < 3
                    · obtain ⟨eb, eo, ee, _, q0, q1, q2⟩ := (Rd_three hE.out).1.get q (by simpa using hq)
                      simp only [Option.some.injEq, Addr.mk.injEq, and_true] at ee
                      obtain ⟨rfl, rfl⟩ := ee
                      obtain ⟨hEP, hEI⟩ := EL.out _ (List.getElem_mem (show q < [e1, e2, e3].length by simpa using hq))
                      obtain ⟨ev, hev⟩ : ∃ ev, [e1, e2, e3][q]'(by simpa using hq) = ev := ⟨_, rfl⟩
                      rw [hev] at q0 q1 q2 hEP hEI
                      have hEP := Lh hEP
                      have HEV := Lh hev
                      clear hev
                      obtain ⟨Ae, ce, hve, hle2, hre, hbe⟩ := OwnP.rdB hS.out.o5
                      have hHas := Lh (fun r hr => has_calls edges2 Ae ce ev true _ hre.1 (by omega) hEI r hr)
                      obtain ⟨be, hbe2⟩ : ∃ b, hasF edges2 ev true = b := ⟨_, rfl⟩
                      have lEr : EB < wr.heap.size := blk_lt hE.out
                      obtain ⟨wo2, hwo2⟩ : ∃ wo : World, wo = wr := ⟨_, rfl⟩
                      subst hwo2
                      subst hve
                      rw [Nat.zero_add] at q0 q1 q2
                      go_wp2_with fail
                      refine (hHas.out be hbe2).mono ?_
                      rintro e w13 ⟨rfl, hb⟩
                      have hS13 := Lh (hS.out.grown hb)
                      have hE13 := Lh ((hb.block _ lEr).trans hE.out)
                      have l13 : EB < w13.heap.size := blk_lt hE13.out
                      clear hb hHas q0 q1 q2 hre
                      obtain ⟨eb, eo, ee, _, q0, q1, q2⟩ := (Rd_three hE13.out).1.get q (by simpa using hq)
                      simp only [Option.some.injEq, Addr.mk.injEq, and_true] at ee
                      obtain ⟨rfl, rfl⟩ := ee
                      rw [HEV.out] at q0 q1 q2
                      rw [Nat.zero_add] at q0 q1 q2
                      cases be
                      · have hnb := Lh (hasF_no hbe2)
                        have hS14 := Lh (hS13.out.grown ((Below.refl _ w13).alloc (Nat.le_refl _) (.cells #[.int .i64 ev.x, .int .i64 ev.y, .int .i64 ev.z] 23)))
                        have hA14 := Lh (heap_alloc_new w13 (.cells #[.int .i64 ev.x, .int .i64 ev.y, .int .i64 ev.z] 23))
                        have hE14 := Lh ((Below.heap_alloc _ (.cells #[.int .i64 ev.x, .int .i64 ev.y, .int .i64 ev.z] 23) _ l13).trans hE13.out)
                        have hbe2 := Lh hbe2
                        go_wp2_with (at_builtin; refine wpList_one_at w.heap.size rfl _ _ rfl _ edges2 _ _ ev 23 rfl rfl hS14.out.o5 hA14.out (by omega) (by have := hS14.out.bl.size; omega) ?_; intro v15 w15 hv15 hg15 hat15; have hS15 := Lh (hS14.out.add5 hv15 hg15 hat15 hnb.out hEP.out); have hE15 := Lh ((hg15.block EB (blk_lt hE14.out) (fun e => hne.out EB e.symm rfl)).trans hE14.out); have hne15 := Lh (fun z (hz : v15.ownBlock = some z) => show z ≠ EB from by rcases hat15 with e | e; exact hne.out z (e ▸ hz); rw [e] at hz; cases hz; simp; omega); clear hv15 hg15 hat15)
                        go_roundw
                        case rel => exact ⟨q + 1, edges2 ++ [ev], by omega, by go_num, hS15, hE15, hne15, by simp; omega⟩
                        case measure => simp [intOf]; omega
                      · have hbe2 := Lh hbe2
                        go_wp2
                        go_roundw
                        case rel => exact ⟨q + 1, edges2, by omega, by go_num, hS13, hE13, hne, by omega⟩
                        case measure => simp [intOf]; omega
                    · obtain rfl : q = 3 := by omega
                      go_wp2
                      go_roundw
                      case rel => exact ⟨k + 1, axes, edges2, by omega, by omega, by go_num, hS, hDn, by first | omega | (simp; omega), by omega⟩
                      case measure => simp [intOf]; omega
            · obtain rfl : k = N := by omega
              have hD2 := Lh (HDT.out axes i j k i (j + 1) 0 hD.out (fun i' j' k' h1 h2 h3 h4 => by rw [HN.out] at h3; omega))
              go_wp2
              go_roundw
              case rel => exact ⟨j + 1, axes, edges, by omega, by omega, by go_num, hS, hD2, by omega, by omega⟩
              case measure => simp [intOf]; omega
        · obtain rfl : j = N := by omega
          have hD2 := Lh (HDT.out axes i j 0 (i + 1) 0 0 hD.out (fun i' j' k' h1 h2 h3 h4 => by rw [HN.out] at h3; omega))
          go_wp2
          go_roundw
          case rel => exact ⟨i + 1, axes, edges, by omega, by go_num, hS, hD2, by omega, by omega⟩
          case measure => simp [intOf]; omega
    · obtain rfl : i = N := by omega
      obtain ⟨Ax, cx, hvx, hlx, hrx, hbx⟩ := OwnP.rdB hS.out.o4
      obtain ⟨Ae, ce, hve, hle, hre, hbe⟩ := OwnP.rdB hS.out.o5
      subst hvx
      subst hve
      have hF := Lh (show HullPost l w (.returned (.tuple #[.slice Ax axes.length cx, .slice Ae edges.length ce])) wa from ⟨axes, edges, Ax, Ae, cx, ce, rfl, hlx, hle, hrx, hre, hS.out.bl, hS.out.n4, hS.out.a4, hS.out.n5, hS.out.a5, by rw [HN.out]; exact hD.out, hbx, hbe⟩)
      clear hlx hle hrx hre hbx hbe
      go_wp2
      go_ret2
      exact hF.out
end Go.Proofs.Ytckdhahceelckaa.G
namespace Go.Proofs.Ytckdhahceelckaa.G
open Go.RowKit Go.Proofs.YtckdhahceelckaaW.PrintWords Go.Proofs.YtckdhahceelckaaW.PrintLast Go.Proofs.YtckdhahceelckaaW.PrintMore
attribute [local go_sem] max2_mx min2_mn max_two min_two max_three min_three max_four min_four
attribute [local go_sem high] eqA23
set_option linter.unusedVariables false
set_option linter.unusedSimpArgs false
structure HullOk (l axes edges : List P3) : Prop where
  axn : axes.Nodup
  ax : ∀ a ∈ axes, AxP l a
  edn : edges.Nodup
  ed : ∀ e ∈ edges, EdP l e
  done : DoneA l axes l.length 0 0
def CorePost4 (l : List P3) (r : Int) (w : World) (en : Ending) (w' : World) : Prop := ∃ axes edges, HullOk l axes edges ∧ CorePost l axes edges r w en w'
set_option maxHeartbeats 4000000 in
set_option maxRecDepth 100000 in
theorem core_4 (r : Int) (h : P3) (l : List P3) (A : Option Addr) (c : Nat) (hr0 : 0 ≤ r) (hr1 : r ≤ 16384) (hl : l.length ≤ 12) (hp : ∀ p ∈ l, in3 65536 p) (hok : chkOk l) (w : World) (hA : RdB w A l) :
    Calls Try.prog 53 #[.agg (cS 4 r h A l.length c)] w (CorePost4 l r w) := by
  have HC := Lh (fun (W : World) (hW : RdB W A l) => check_4 r h l A c hr0 hr1 hl hp W hW)
  have HH := Lh (fun (W : World) (hW : RdB W A l) => hull_calls l A c W hW hl hp)
  have HOK := Lh hok
  have HAA := Lh hA
  obtain ⟨N, hN⟩ : ∃ N, l.length = N := ⟨_, rfl⟩
  have HN := Lh hN
  rw [hN] at hl HC HH ⊢
  clear hN hr0 hr1 hp hok hA
  obtain ⟨hx, hy, hz⟩ := h
  go_enter Try.func53, Try.ntmps53
  go_wp2_with fail
  obtain ⟨w0, hw0⟩ : ∃ w0, (w.alloc (.cells (cS 4 r ⟨hx, hy, hz⟩ A N c) 78)).alloc (.cells #[.slice none 0 0, .slice none 0 0, .slice none 0 0, .int .i64 0] 36) = w0 := ⟨_, rfl⟩
  have C0 : Hid (w0.heap[w.heap.size]? = some (.cells (cS 4 r ⟨hx, hy, hz⟩ A N c) 78 (0, 0))) := Lh (by rw [← hw0]; exact (Below.heap_alloc _ _ _ (by simp)).trans (heap_alloc_new w _))
  have R0 : Hid (w0.heap[w.heap.size + 1]? = some (.cells #[.slice none 0 0, .slice none 0 0, .slice none 0 0, .int .i64 0] 36 (0, 0))) := Lh (by rw [← hw0]; have h := heap_alloc_new (w.alloc (.cells (cS 4 r ⟨hx, hy, hz⟩ A N c) 78)) (.cells #[.slice none 0 0, .slice none 0 0, .slice none 0 0, .int .i64 0] 36); rw [World.size_alloc] at h; exact h)
  have W0 := Lh (show Below w.heap.size w w0 by rw [← hw0]; exact ((Below.refl _ w).alloc (Nat.le_refl _) _).alloc (by simp) _)
  rw [hw0]
  clear hw0
  refine (HC.out w0 (HAA.out.below W0.out)).mono ?_
  rintro e w1 ⟨n, rfl, hn0, hb⟩
  obtain rfl : n = 0 := hn0.2 HOK.out
  have C1 := Lh ((hb.block _ (blk_lt C0.out)).trans C0.out)
  have R1 := Lh ((hb.block _ (blk_lt R0.out)).trans R0.out)
  have W1 := Lh (bthen W0.out hb)
  clear hb hn0 C0 R0 W0
  have c0 : w1.cell? ⟨w.heap.size, 0, none⟩ = some (.int .i64 4) := (blk_cell C1.out 0).trans rfl
  have c1 : w1.cell? ⟨w.heap.size, 1, none⟩ = some (.int .i64 r) := (blk_cell C1.out 1).trans rfl
  have c5 : w1.cell? ⟨w.heap.size, 5, none⟩ = some (.slice A N c) := (blk_cell C1.out 5).trans rfl
  have l0 : w.heap.size < w1.heap.size := blk_lt C1.out
  have l1 : w.heap.size + 1 < w1.heap.size := blk_lt R1.out
  obtain ⟨w2, hw2⟩ : ∃ w2, w1.alloc (.cells #[.slice none 0 0, .slice none 0 0, .slice none 0 0, .int .i64 r] 36) = w2 := ⟨_, rfl⟩
  obtain ⟨CB, hCB⟩ : ∃ g, w1.heap.size = g := ⟨_, rfl⟩
  have hCBs := Lh hCB
  have B2 := (Below.refl w1.heap.size w1).alloc (Nat.le_refl _) (.cells #[.slice none 0 0, .slice none 0 0, .slice none 0 0, .int .i64 r] 36)
  have O2 := heap_alloc_new w1 (.cells #[.slice none 0 0, .slice none 0 0, .slice none 0 0, .int .i64 r] 36)
  rw [hw2] at B2 O2
  rw [hCB] at O2
  have C2 := Lh ((B2.block _ l0).trans C1.out)
  have R2 := Lh ((B2.block _ l1).trans R1.out)
  have W2 := Lh (bthen W1.out B2)
  have O2 := Lh O2
  have z2 : w2.heap.size = CB + 1 := by rw [← hw2, ← hCB]; simp
  have Z2 := Lh z2
  have lS : w.heap.size + 1 < CB := by omega
  have hlS := Lh lS
  have hrl := (HAA.out.below W2.out)
  have hrl' := Lh hrl
  have hN12 := Lh hl
  obtain ⟨vp, hvp0⟩ : ∃ v : Value, v = .slice none 0 0 := ⟨_, rfl⟩
  have o0 : w2.cell? ⟨CB, 0, none⟩ = some vp := by rw [hvp0]; exact (blk_cell O2.out 0).trans rfl
  have d5 : w2.cell? ⟨w.heap.size, 5, none⟩ = some (.slice A N c) := (blk_cell C2.out 5).trans rfl
  have d0 : w2.cell? ⟨w.heap.size, 0, none⟩ = some (.int .i64 4) := (blk_cell C2.out 0).trans rfl
  have hvp := Lh hvp0
  clear hvp0
  have hCBs := Lh hCB
  clear B2 z2 C1 R1 W1 lS
  have hO9 : Hid (OwnP w2 (CB + 1) vp []) := Lh (by rw [hvp.out]; exact OwnP.nil _ _)
  have HG : Hid (∀ v2 w9, OwnP w9 (CB + 1) v2 ([] ++ l) → w2.grownBy w9 vp.ownBlock → ∃ Ap cp, v2 = .slice Ap N cp ∧ N ≤ cp ∧ RdB w9 Ap l ∧ (∀ ad, Ap = some ad → CB + 1 ≤ ad.block) ∧ w9.heap[CB]? = some (.cells #[.slice none 0 0, .slice none 0 0, .slice none 0 0, .int .i64 r] 36 (0, 0)) ∧ Below CB w2 w9) := Lh (by
    intro v2 w9 hv2 hg2
    rw [hvp.out] at hg2
    have hT10 := (hg2.block CB (blk_lt O2.out) (fun e => by exact absurd (show some CB = none from e) (by simp))).trans O2.out
    have hB10 := Below.grown (B := CB) (Below.refl _ w2) hg2 (by have := Z2.out; omega) (fun k hk => by exact absurd (show none = some k from hk) (by simp))
    obtain ⟨Ap, cp, hvv, hcp, hrp, hbp⟩ := OwnP.rdB hv2
    simp only [List.nil_append] at hvv hcp hrp
    rw [HN.out] at hvv hcp
    exact ⟨Ap, cp, hvv, hcp, hrp, hbp, hT10, hB10⟩)
  have hsz : ([] : List P3).length + N ≤ 1000000 := by have := hN12.out; simp; omega
  have hsz := Lh hsz
  have hbs : CB + 1 ≤ w2.heap.size := by have := Z2.out; omega
  have hbs := Lh hbs
  go_wp2_with (at_builtin; refine append_pts (CB + 1) rfl _ _ rfl _ [] l _ _ _ rfl rfl hO9.out hrl'.out.1 HN.out hsz.out hbs.out ?_; intro v2 w9 hv2 hg2; obtain ⟨Ap, cp, hvv, hcp, hrp, hbp, hT10, hB10⟩ := HG.out v2 w9 hv2 hg2; subst hvv; have o1 : w9.cell? ⟨CB, 0, none⟩ = some (.slice none 0 0) := (blk_cell hT10 0).trans rfl; have o2 : w9.frozen? ⟨CB, 0, none⟩ = false := blk_frozen hT10 0; have hlS1 := hlS.out; have C9 := Lh ((hB10.block _ (show w.heap.size < CB by omega)).trans C2.out); have c9 : w9.cell? ⟨w.heap.size, 5, none⟩ = some (.slice A N c) := (blk_cell C9.out 5).trans rfl; have hne : ¬ (w.heap.size = CB) := (by omega); have hne2 : ¬ (CB = w.heap.size) := (by omega); have hrp := Lh hrp; have hbp := Lh hbp; have hT10 := Lh hT10; have hB10 := Lh hB10; clear hlS1 hv2 hg2 HG hO9 hsz hbs c0 c1 c5 l0 l1 hrl hw2 hCB d5 d0 o0)
  have l2 : CB < w9.heap.size := blk_lt hT10.out
  have hTa := blk40 hT10.out (.slice Ap N cp)
  have hBa := hB10.out.setCell (p := ⟨CB, 0, none⟩) (Nat.le_refl _) (.slice Ap N cp)
  have hra := hrp.out.setc (g := CB) (fun ad e => by have := hbp.out ad e; omega) 0 (.slice Ap N cp)
  obtain ⟨wa, hwa⟩ : ∃ V, w9.setCell ⟨CB, 0, none⟩ (.slice Ap N cp) = V := ⟨_, rfl⟩
  rw [hwa] at hTa hBa hra
  try rw [hwa]
  have hWa := W2.out.trans (hBa.mono (show w.heap.size ≤ CB by have := hlS.out; omega))
  have la : CB < wa.heap.size := blk_lt hTa
  refine (HH.out wa (HAA.out.below hWa)).mono ?_
  rintro e wo ⟨axes, edges, Ax, Ae, cx, ce, rfl, hx1, he1, hxr, her, hb, hxn, hxa, hen, hed, hdone, hxb, heb⟩
  have hok := Lh (show HullOk l axes edges from ⟨hxn, hxa, hen, hed, hdone⟩)
  have hT := Lh ((hb.block _ la).trans hTa)
  have hB := Lh (hBa.trans (hb.mono (Nat.le_of_lt la)))
  have hrp := Lh (hra.below hb)
  have W3 := Lh (bthen hWa hb)
  have R3 := Lh ((hB.out.block _ (show w.heap.size + 1 < CB by exact hlS.out)).trans R2.out)
  have nx1 : ∀ ad, Ax = some ad → ad.block ≠ CB := fun ad e => by have := hxb ad e; omega
  have nx2 : ∀ ad, Ax = some ad → ad.block ≠ w.heap.size + 1 := fun ad e => by have := hxb ad e; have := hlS.out; omega
  have ne1 : ∀ ad, Ae = some ad → ad.block ≠ CB := fun ad e => by have := heb ad e; omega
  have ne2 : ∀ ad, Ae = some ad → ad.block ≠ w.heap.size + 1 := fun ad e => by have := heb ad e; have := hlS.out; omega
  obtain ⟨nx, hnx⟩ : ∃ n, axes.length = n := ⟨_, rfl⟩
  obtain ⟨ny, hny⟩ : ∃ n, edges.length = n := ⟨_, rfl⟩
  rw [hnx] at hx1 ⊢
  rw [hny] at he1 ⊢
  have hnx := Lh hnx
  have hny := Lh hny
  have nx1 := Lh nx1
  have nx2 := Lh nx2
  have ne1 := Lh ne1
  have ne2 := Lh ne2
  have hxr := Lh hxr
  have her := Lh her
  clear hxn hxa hen hed hdone hxb heb hb hTa hBa hra hWa la hwa l2 hT10 hB10 o1 o2 c9 C9 hne hne2
  have g1 : wo.cell? ⟨CB, 1, none⟩ = some (.slice none 0 0) := (blk_cell hT.out 1).trans rfl
  have g2 : wo.cell? ⟨CB, 2, none⟩ = some (.slice none 0 0) := (blk_cell hT.out 2).trans rfl
  have g3 : wo.cell? ⟨CB, 3, none⟩ = some (.int .i64 r) := (blk_cell hT.out 3).trans rfl
  have k1 : wo.frozen? ⟨CB, 1, none⟩ = false := blk_frozen hT.out 1
  have k2 : wo.frozen? ⟨CB, 2, none⟩ = false := blk_frozen hT.out 2
  have lRR : w.heap.size + 1 < wo.heap.size := blk_lt R3.out
  have r0 : wo.cell? ⟨w.heap.size + 1, 0, none⟩ = some (.slice none 0 0) := (blk_cell R3.out 0).trans rfl
  have f0 : wo.frozen? ⟨w.heap.size + 1, 0, none⟩ = false := blk_frozen R3.out 0
  have r1 : wo.cell? ⟨w.heap.size + 1, 1, none⟩ = some (.slice none 0 0) := (blk_cell R3.out 1).trans rfl
  have f1 : wo.frozen? ⟨w.heap.size + 1, 1, none⟩ = false := blk_frozen R3.out 1
  have r2 : wo.cell? ⟨w.heap.size + 1, 2, none⟩ = some (.slice none 0 0) := (blk_cell R3.out 2).trans rfl
  have f2 : wo.frozen? ⟨w.heap.size + 1, 2, none⟩ = false := blk_frozen R3.out 2
  have r3 : wo.cell? ⟨w.heap.size + 1, 3, none⟩ = some (.int .i64 0) := (blk_cell R3.out 3).trans rfl
  have f3 : wo.frozen? ⟨w.heap.size + 1, 3, none⟩ = false := blk_frozen R3.out 3
  have n1 : ∀ ad, Ap = some ad → ad.block ≠ CB := fun ad e => by have := hbp.out ad e; omega
  have n2 : ∀ ad, Ap = some ad → ad.block ≠ w.heap.size + 1 := fun ad e => by have := hbp.out ad e; have := hlS.out; omega
  have T1 := blk41 hT.out (.slice Ax nx cx)
  have T2 := blk42 T1 (.slice Ae ny ce)
  have R4 := (Below.heap_setCell wo ⟨CB, 1, none⟩ (.slice Ax nx cx) (w.heap.size + 1) (by have := hlS.out; simp; omega)).trans R3.out
  have R5 := (Below.heap_setCell (wo.setCell ⟨CB, 1, none⟩ (.slice Ax nx cx)) ⟨CB, 2, none⟩ (.slice Ae ny ce) (w.heap.size + 1) (by have := hlS.out; simp; omega)).trans R4
  have B5 := (W3.out.setCell (p := ⟨CB, 1, none⟩) (show w.heap.size ≤ CB by have := hlS.out; omega) (.slice Ax nx cx)).setCell (p := ⟨CB, 2, none⟩) (show w.heap.size ≤ CB by have := hlS.out; omega) (.slice Ae ny ce)
  have p5 := (hrp.out.setc n1 1 (.slice Ax nx cx)).setc n1 2 (.slice Ae ny ce)
  have x5 := (hxr.out.setc nx1.out 1 (.slice Ax nx cx)).setc nx1.out 2 (.slice Ae ny ce)
  have y5 := (her.out.setc ne1.out 1 (.slice Ax nx cx)).setc ne1.out 2 (.slice Ae ny ce)
  obtain ⟨w5, hw5⟩ : ∃ V, (wo.setCell ⟨CB, 1, none⟩ (.slice Ax nx cx)).setCell ⟨CB, 2, none⟩ (.slice Ae ny ce) = V := ⟨_, rfl⟩
  have z5 : w5.heap.size = wo.heap.size := by rw [← hw5]; simp
  rw [hw5] at T2 R5 B5 p5 x5 y5
  have T6 := bs4 R5 (.slice Ap N cp) (.slice Ax nx cx) (.slice Ae ny ce) (.int .i64 r)
  have B6 := bb4 B5 (show w.heap.size ≤ w.heap.size + 1 by omega) (.slice Ap N cp) (.slice Ax nx cx) (.slice Ae ny ce) (.int .i64 r)
  have p6 := (((p5.setc n2 0 (.slice Ap N cp)).setc n2 1 (.slice Ax nx cx)).setc n2 2 (.slice Ae ny ce)).setc n2 3 (.int .i64 r)
  have x6 := (((x5.setc nx2.out 0 (.slice Ap N cp)).setc nx2.out 1 (.slice Ax nx cx)).setc nx2.out 2 (.slice Ae ny ce)).setc nx2.out 3 (.int .i64 r)
  have y6 := (((y5.setc ne2.out 0 (.slice Ap N cp)).setc ne2.out 1 (.slice Ax nx cx)).setc ne2.out 2 (.slice Ae ny ce)).setc ne2.out 3 (.int .i64 r)
  obtain ⟨w6, hw6⟩ : ∃ V, (((w5.setCell ⟨w.heap.size + 1, 0, none⟩ (.slice Ap N cp)).setCell ⟨w.heap.size + 1, 1, none⟩ (.slice Ax nx cx)).setCell ⟨w.heap.size + 1, 2, none⟩ (.slice Ae ny ce)).setCell ⟨w.heap.size + 1, 3, none⟩ (.int .i64 r) = V := ⟨_, rfl⟩
  have z6 : w6.heap.size = wo.heap.size := by rw [← hw6, ← z5]; simp
  rw [hw6] at T6 B6 p6 x6 y6
  have hv6 := Lh hw6
  clear hw6
  have e0 : w5.cell? ⟨CB, 0, none⟩ = some (.slice Ap N cp) := (blk_cell T2 0).trans rfl
  have e1 : w5.cell? ⟨CB, 1, none⟩ = some (.slice Ax nx cx) := (blk_cell T2 1).trans rfl
  have e2 : w5.cell? ⟨CB, 2, none⟩ = some (.slice Ae ny ce) := (blk_cell T2 2).trans rfl
  have e3 : w5.cell? ⟨CB, 3, none⟩ = some (.int .i64 r) := (blk_cell T2 3).trans rfl
  have e4 : CB < w5.heap.size := blk_lt T2
  have e5 : w.heap.size + 1 < w5.heap.size := blk_lt R5
  have e6 : w.heap.size < w5.heap.size := by omega
  have r0 : w5.cell? ⟨w.heap.size + 1, 0, none⟩ = some (.slice none 0 0) := (blk_cell R5 0).trans rfl
  have r1 : w5.cell? ⟨w.heap.size + 1, 1, none⟩ = some (.slice none 0 0) := (blk_cell R5 1).trans rfl
  have r2 : w5.cell? ⟨w.heap.size + 1, 2, none⟩ = some (.slice none 0 0) := (blk_cell R5 2).trans rfl
  have r3 : w5.cell? ⟨w.heap.size + 1, 3, none⟩ = some (.int .i64 0) := (blk_cell R5 3).trans rfl
  have f0 : w5.frozen? ⟨w.heap.size + 1, 0, none⟩ = false := blk_frozen R5 0
  have f1 : w5.frozen? ⟨w.heap.size + 1, 1, none⟩ = false := blk_frozen R5 1
  have f2 : w5.frozen? ⟨w.heap.size + 1, 2, none⟩ = false := blk_frozen R5 2
  have f3 : w5.frozen? ⟨w.heap.size + 1, 3, none⟩ = false := blk_frozen R5 3
  have T6 := Lh T6
  have B6 := Lh B6
  have p6 := Lh p6
  have x6 := Lh x6
  have y6 := Lh y6
  have Z6 := Lh z6
  clear T1 T2 R4 R5 B5 p5 x5 y5 z5 z6 n1 n2
  go_wp2
  rw [hv6.out]
  have v0 : w6.cell? ⟨w.heap.size + 1, 0, none⟩ = some (.slice Ap N cp) := (blk_cell T6.out 0).trans rfl
  have v1 : w6.cell? ⟨w.heap.size + 1, 1, none⟩ = some (.slice Ax nx cx) := (blk_cell T6.out 1).trans rfl
  have v2 : w6.cell? ⟨w.heap.size + 1, 2, none⟩ = some (.slice Ae ny ce) := (blk_cell T6.out 2).trans rfl
  have v3 : w6.cell? ⟨w.heap.size + 1, 3, none⟩ = some (.int .i64 r) := (blk_cell T6.out 3).trans rfl
  exact bodyPost_ret (v := .tuple #[.agg #[.slice Ap N cp, .slice Ax nx cx, .slice Ae ny ce, .int .i64 r], .int .i64 0]) (by simp [results, Try.results53, go_sem, v0, v1, v2, v3]) rfl ⟨axes, edges, hok.out, _, rfl, ⟨Ap, Ax, Ae, cp, cx, ce, by rw [HN.out, hnx.out, hny.out], p6.out, x6.out, y6.out, by rw [HN.out]; exact hcp, by rw [hnx.out]; exact hx1, by rw [hny.out]; exact he1⟩, B6.out⟩
end Go.Proofs.Ytckdhahceelckaa.G
namespace Go.Proofs.Ytckdhahceelckaa.G
open Go.RowKit Go.Proofs.YtckdhahceelckaaW.PrintWords Go.Proofs.YtckdhahceelckaaW.PrintLast Go.Proofs.YtckdhahceelckaaW.PrintMore
attribute [local go_sem] max2_mx min2_mn max_two min_two max_three min_three max_four min_four
attribute [local go_sem high] eqA23
set_option linter.unusedVariables false
set_option linter.unusedSimpArgs false
def part3 (p : P3) : P3 := ⟨partF p.x 65536, partF p.y 65536, partF p.z 65536⟩
def pI64 (p : P3) : Prop := i64 p.x ∧ i64 p.y ∧ i64 p.z
open Classical in
/-- the shape that a raw one stands for -/
noncomputable def rightS (k r : Int) (h : P3) (l : List P3) : Shp :=
  if 1 + pickF k 4 = 4 then (if chkOk ((l.take 12).map part3) then ⟨4, 1 + pickF r 16384, ⟨1 + pickF h.x 65536, 1 + pickF h.y 65536, 1 + pickF h.z 65536⟩, (l.take 12).map part3⟩ else ⟨3, 1 + pickF r 16384, ⟨1 + pickF h.x 65536, 1 + pickF h.y 65536, 1 + pickF h.z 65536⟩, []⟩)
  else ⟨1 + pickF k 4, 1 + pickF r 16384, ⟨1 + pickF h.x 65536, 1 + pickF h.y 65536, 1 + pickF h.z 65536⟩, []⟩
theorem part3_in (p : P3) : in3 65536 (part3 p) := by
  have a := partF_bd p.x 65536 (by decide)
  have b := partF_bd p.y 65536 (by decide)
  have c := partF_bd p.z 65536 (by decide)
  unfold in3 part3; exact ⟨a.1, a.2, b.1, b.2, c.1, c.2⟩
/-- a shape that may be -/
structure ShpOk (s : Shp) : Prop where
  kind : s.kind = 1 ∨ s.kind = 2 ∨ s.kind = 3 ∨ s.kind = 4
  r0 : 1 ≤ s.radius
  r1 : s.radius ≤ 16384
  half : halfOk s.half
  len : s.pts.length ≤ 12
  pts : ∀ p ∈ s.pts, in3 65536 p
  hull : s.kind = 4 → chkOk s.pts
theorem rightS_ok (k r : Int) (h : P3) (l : List P3) : ShpOk (rightS k r h l) := by
  have b1 := pickF_bd k 4 (by decide)
  have b2 := pickF_bd r 16384 (by decide)
  have b3 := pickF_bd h.x 65536 (by decide)
  have b4 := pickF_bd h.y 65536 (by decide)
  have b5 := pickF_bd h.z 65536 (by decide)
  have hh : halfOk ⟨1 + pickF h.x 65536, 1 + pickF h.y 65536, 1 + pickF h.z 65536⟩ := ⟨by simp only; omega, by simp only; omega, by simp only; omega, by simp only; omega, by simp only; omega, by simp only; omega⟩
  unfold rightS
  split
  · split
    · rename_i h1 h2
      exact ⟨by simp, by simp only; omega, by simp only; omega, hh, by simp only [List.length_map, List.length_take]; omega, fun p hp => by simp only [List.mem_map] at hp; obtain ⟨q, _, rfl⟩ := hp; exact part3_in q, fun _ => h2⟩
    · exact ⟨by simp, by simp only; omega, by simp only; omega, hh, by simp, by simp, by simp⟩
  · rename_i h1
    exact ⟨by simp only; omega, by simp only; omega, by simp only; omega, hh, by simp, by simp, fun e => absurd e h1⟩
theorem blk6m {w : World} {g : Nat} {a b c d e f : Value} {t : TypeId} (h : w.heap[g]? = some (.cells #[a, b, c, d, e, f] t (0, 0))) (u v x : Value) : (((w.setCell ⟨g, 2, none⟩ u).setCell ⟨g, 3, none⟩ v).setCell ⟨g, 4, none⟩ x).heap[g]? = some (.cells #[a, b, u, v, x, f] t (0, 0)) := by
  have h8 := blk_set (blk_set (blk_set h 2 u) 3 v) 4 x
  simp only [List.setIfInBounds_toArray, List.set_cons_zero, List.set_cons_succ] at h8
  exact h8
theorem blk65 {w : World} {g : Nat} {a b c d e f : Value} {t : TypeId} (h : w.heap[g]? = some (.cells #[a, b, c, d, e, f] t (0, 0))) (u : Value) : (w.setCell ⟨g, 5, none⟩ u).heap[g]? = some (.cells #[a, b, c, d, e, u] t (0, 0)) := by
  have h8 := blk_set h 5 u
  simp only [List.setIfInBounds_toArray, List.set_cons_zero, List.set_cons_succ] at h8
  exact h8
theorem blk60 {w : World} {g : Nat} {a b c d e f : Value} {t : TypeId} (h : w.heap[g]? = some (.cells #[a, b, c, d, e, f] t (0, 0))) (u : Value) : (w.setCell ⟨g, 0, none⟩ u).heap[g]? = some (.cells #[u, b, c, d, e, f] t (0, 0)) := by
  have h8 := blk_set h 0 u
  simp only [List.setIfInBounds_toArray, List.set_cons_zero, List.set_cons_succ] at h8
  exact h8
section
variable {ops : Array Oper} {o : Oper} {a : Act} {W : World} {Q : Exit → Act → World → Prop} {K : Act → World → Prop} {N : Option Tmp}
/-- append of points inside a region that draws its order -/
theorem apnd_ (base : Nat) (hw : Region.wanted o (yielded ops a.tmps) = true) (hN : o.dst = N) (s x : Operand) (ho : o.op = .call { callee := .builtin .append, args := #[s, x], argTypes := #[24, 24] })
    (v : Value) (l l2 : List P3) (b of m c : Nat) (hs : a.eval s = v) (hx : a.eval x = .slice (some ⟨b, of, none⟩) m c) (hown : OwnP W base v l) (hr : Rd W (some ⟨b, of, none⟩) l2) (hm : l2.length = m) (hsz : l.length + m ≤ 1000000) (hbase : base ≤ W.heap.size)
    (h : ∀ v' w', OwnP w' base v' (l ++ l2) → W.grownBy w' v.ownBlock → K (a.put N v') w') :
    if Region.wanted o (yielded ops a.tmps) = true then Oper.wp Try.prog o a W K Q else K (a.put N undef) W := by
  rw [if_pos hw]
  subst hN
  obtain ⟨i0, hi, hz0, hz1, hz2⟩ := info_parts info23
  have hnews : ∀ j u, (cells3 l2)[j]? = some u → W.cell? ((⟨b, of, none⟩ : Addr).add j) = some u := by
    intro j u hj
    rw [add_at]
    exact hr.cells j u hj
  obtain ⟨v1, w1, hr1, hown1, hg, _, _⟩ := Go.run_append_own_at (P := Try.prog) W base 24 o.type 23 i0 _ 3 24 Try.underlying24 hi hz0 hz1 hz2 rfl (by omega) v l.length (cells3 l) hown ⟨b, of, none⟩ m c (cells3 l2) (by rw [cells3_length, hm]) hnews (cells3_one l2) (by unfold maxLen; omega) (by omega) hbase
  unfold Oper.wp execOp
  simp only [ho, resolve, invoke, builtin, Sem.run_bind, Sem.run_pure, Result.andThen_ok, List.map_toArray, List.map_cons, List.map_nil, hs, hx, hr1]
  refine h v1 w1 ?_ hg
  show w1.ownsRow base 23 3 v1 (l ++ l2).length (cells3 (l ++ l2))
  rw [cells3_append, List.length_append, hm]
  exact hown1
end
def RightPost (s : Shp) (w : World) (en : Ending) (w' : World) : Prop := ∃ A c, en = .returned (.agg (cS s.kind s.radius s.half A s.pts.length c)) ∧ RdB w' A s.pts ∧ s.pts.length ≤ c ∧ Below w.heap.size w w'
set_option maxHeartbeats 8000000 in
set_option maxRecDepth 100000 in
theorem right5_calls (k r : Int) (h : P3) (l : List P3) (A : Option Addr) (c : Nat) (w : World) (hA : RdB w A l) (hl : l.length ≤ 4611686018427387904) (hk : i64 k) (hr : i64 r) (hh : pI64 h) (hp : ∀ p ∈ l, pI64 p) :
    Calls Try.prog 54 #[.agg (cS k r h A l.length c)] w (RightPost (rightS k r h l) w) := by
  have HS := Lh (rightS_ok k r h l)
  have HRS : Hid (∀ s, rightS k r h l = s → s = rightS k r h l) := Lh (fun _ e => e.symm)
  have HPK := Lh (fun W => pick5_calls k 4 hk.1 hk.2 (by decide) (by decide) W)
  have HPR := Lh (fun W => pick5_calls r 16384 hr.1 hr.2 (by decide) (by decide) W)
  have HPX := Lh (fun W => pick5_calls h.x 65536 hh.1.1 hh.1.2 (by decide) (by decide) W)
  have HPY := Lh (fun W => pick5_calls h.y 65536 hh.2.1.1 hh.2.1.2 (by decide) (by decide) W)
  have HPZ := Lh (fun W => pick5_calls h.z 65536 hh.2.2.1 hh.2.2.2 (by decide) (by decide) W)
  have b1 := pickF_bd k 4 (by decide)
  have b2 := pickF_bd r 16384 (by decide)
  have b3 := pickF_bd h.x 65536 (by decide)
  have b4 := pickF_bd h.y 65536 (by decide)
  have b5 := pickF_bd h.z 65536 (by decide)
  have HD : Hid (rightS k r h l = _) := Lh (by unfold rightS; rfl)
  obtain ⟨qk, hqk⟩ : ∃ q, pickF k 4 = q := ⟨_, rfl⟩
  obtain ⟨qr, hqr⟩ : ∃ q, pickF r 16384 = q := ⟨_, rfl⟩
  obtain ⟨qx, hqx⟩ : ∃ q, pickF h.x 65536 = q := ⟨_, rfl⟩
  obtain ⟨qy, hqy⟩ : ∃ q, pickF h.y 65536 = q := ⟨_, rfl⟩
  obtain ⟨qz, hqz⟩ : ∃ q, pickF h.z 65536 = q := ⟨_, rfl⟩
  rw [hqk, hqr, hqx, hqy, hqz] at HD
  rw [hqk] at HPK b1
  rw [hqr] at HPR b2
  rw [hqx] at HPX b3
  rw [hqy] at HPY b4
  rw [hqz] at HPZ b5
  have HAA := Lh hA
  have HP := Lh hp
  have K1 : 1 + qk = 1 + qk := rfl
  obtain ⟨kk, hkk⟩ : ∃ q, 1 + qk = q := ⟨_, rfl⟩
  obtain ⟨rr, hrr⟩ : ∃ q, 1 + qr = q := ⟨_, rfl⟩
  obtain ⟨xx, hxx⟩ : ∃ q, 1 + qx = q := ⟨_, rfl⟩
  obtain ⟨yy, hyy⟩ : ∃ q, 1 + qy = q := ⟨_, rfl⟩
  obtain ⟨zz, hzz⟩ : ∃ q, 1 + qz = q := ⟨_, rfl⟩
  rw [hkk, hrr, hxx, hyy, hzz] at HD
  have kb : 1 ≤ kk ∧ kk ≤ 4 := by omega
  have HKB := Lh kb
  have wk : wrap64 kk = kk := by unfold wrap64; omega
  have wr : wrap64 rr = rr := by unfold wrap64; omega
  have wx : wrap64 xx = xx := by unfold wrap64; omega
  have wy : wrap64 yy = yy := by unfold wrap64; omega
  have wz : wrap64 zz = zz := by unfold wrap64; omega
  obtain ⟨N, hN⟩ : ∃ N, l.length = N := ⟨_, rfl⟩
  have HN := Lh hN
  rw [hN] at hl ⊢
  clear hN hA hp hk hr hh hqk hqr hqx hqy hqz HRS HS K1 kb
  obtain ⟨hx, hy, hz⟩ := h
  simp only at HPX HPY HPZ
  go_enter Try.func54, Try.ntmps54
  go_wp2_with fail
  obtain ⟨w0, hw0⟩ : ∃ w0, (w.alloc (.cells (cS k r ⟨hx, hy, hz⟩ A N c) 26)).alloc (.cells #[.int .i64 0, .int .i64 0, .int .i64 0, .int .i64 0, .int .i64 0, .slice none 0 0] 78) = w0 := ⟨_, rfl⟩
  have C0 : Hid (w0.heap[w.heap.size]? = some (.cells (cS k r ⟨hx, hy, hz⟩ A N c) 26 (0, 0))) := Lh (by rw [← hw0]; exact (Below.heap_alloc _ _ _ (by simp)).trans (heap_alloc_new w _))
  have R0 : Hid (w0.heap[w.heap.size + 1]? = some (.cells #[.int .i64 0, .int .i64 0, .int .i64 0, .int .i64 0, .int .i64 0, .slice none 0 0] 78 (0, 0))) := Lh (by rw [← hw0]; have h := heap_alloc_new (w.alloc (.cells (cS k r ⟨hx, hy, hz⟩ A N c) 26)) (.cells #[.int .i64 0, .int .i64 0, .int .i64 0, .int .i64 0, .int .i64 0, .slice none 0 0] 78); rw [World.size_alloc] at h; exact h)
  have W0 := Lh (show Below w.heap.size w w0 by rw [← hw0]; exact ((Below.refl _ w).alloc (Nat.le_refl _) _).alloc (by simp) _)
  rw [hw0]
  clear hw0
  have c0 : w0.cell? ⟨w.heap.size, 0, none⟩ = some (.int .i64 k) := (blk_cell C0.out 0).trans rfl
  have c1 : w0.cell? ⟨w.heap.size, 1, none⟩ = some (.int .i64 r) := (blk_cell C0.out 1).trans rfl
  have l0 : w.heap.size < w0.heap.size := blk_lt C0.out
  have HB := Lh ((Below.refl (w0.heap.size) w0).drew)
  refine start_ (n := 11) (S := fun w' => w'.cell? ⟨w.heap.size, 0, none⟩ = some (.int .i64 k) ∧ w'.cell? ⟨w.heap.size, 1, none⟩ = some (.int .i64 r)) (ds := []) (MT 0 11) (by kernel_rfl) rfl rfl ⟨(HB.out.cell (p := ⟨w.heap.size, 0, none⟩) (l0)).trans c0, (HB.out.cell (p := ⟨w.heap.size, 1, none⟩) (l0)).trans c1⟩ (fun hHeld => ?_)
  obtain ⟨wd, hwd⟩ : ∃ x, w0.drew = x := ⟨_, rfl⟩
  rw [hwd] at HB hHeld ⊢
  clear hwd
  refine pu_ 0 6 (h := ?_)
  refine pu_ 4 10 (h := ?_)
  refine ta_ 1 7 hHeld (h := ?_)
  refine ta_ 5 11 hHeld (h := ?_)
  refine join_ (σ := Nat) 1 (MT 10 1) (fun s => [(3, .pointer (some ⟨s, 0, none⟩)), (8, .int .i64 qk), (9, .int .i64 (wrap64 kk)), (12, .int .i64 qr), (13, .int .i64 (wrap64 rr)), (14, .agg #[.int .i64 kk, .int .i64 rr, .int .i64 0, .int .i64 0, .int .i64 0, .slice none 0 0])]) (fun s w' => w0.heap.size ≤ s ∧ w'.heap[s]? = some (.cells #[.int .i64 0, .int .i64 0, .int .i64 0, .int .i64 0, .int .i64 0, .slice none 0 0] 78 (0, 0)) ∧ Below (w0.heap.size) w0 w') ?_ ?_
  rotate_left
  · intro hCont
    refine two_ (i := 2) (j := 9) (Ni := some 8) (Nj := some 3) #[true, true, true, false, true, true, false, false, false, false, false] #[true, true, false, false, true, true, false, false, false, true, false] rfl rfl rfl rfl (by kernel_rfl) (by decide) (by decide) (fun K hK => ?_) (fun K hK => ?_)
    · skip
      refine gs_ Try.func104 #[.int .i64 k, .int .i64 4] ?_
      with_reducible refine (HPK.out _).mono ?_
      rintro e' w4 ⟨rfl, rfl⟩
      refine ⟨_, rfl, ?_⟩
      refine hK.out _ _ ⟨(HB.out.cell (p := ⟨w.heap.size, 0, none⟩) (l0)).trans c0, (HB.out.cell (p := ⟨w.heap.size, 1, none⟩) (l0)).trans c1⟩ (fun hHeld => ?_)
      clear hK K
      refine no_ (h := ?_)
      refine pu_ 3 9 (h := ?_)
      refine two_ (i := 6) (j := 9) (Ni := some 12) (Nj := some 3) (MT 7 4) #[true, true, true, true, true, true, false, false, false, true, false] rfl rfl rfl rfl (by kernel_rfl) (by decide) (by decide) (fun K hK => ?_) (fun K hK => ?_)
      · skip
        refine gs_ Try.func104 #[.int .i64 r, .int .i64 16384] ?_
        with_reducible refine (HPR.out _).mono ?_
        rintro e' w4 ⟨rfl, rfl⟩
        refine ⟨_, rfl, ?_⟩
        refine hK.out _ _ ⟨(HB.out.cell (p := ⟨w.heap.size, 0, none⟩) (l0)).trans c0, (HB.out.cell (p := ⟨w.heap.size, 1, none⟩) (l0)).trans c1⟩ (fun hHeld => ?_)
        clear hK K
        refine no_ (h := ?_)
        refine pu_ 7 13 (h := ?_)
        refine pu_ 8 14 (h := ?_)
        refine on_ 9 (some 3) (h := fun K hK => ?_)
        refine value_ (w1 := ?_) (v := ?_) (by rfl) rfl ?_ ?_
        rotate_left 2
        · go_simp
          constructor
          · rfl
          · rfl
        have HA := Lh (ha_new HB.out (.cells #[.int .i64 0, .int .i64 0, .int .i64 0, .int .i64 0, .int .i64 0, .slice none 0 0] 78))
        have hge := HB.out.size
        have HB := Lh (HB.out.alloc (Nat.le_trans (Nat.le_refl _) HB.out.size) (.cells #[.int .i64 0, .int .i64 0, .int .i64 0, .int .i64 0, .int .i64 0, .slice none 0 0] 78))
        refine hK.out _ _ ⟨(HB.out.cell (p := ⟨w.heap.size, 0, none⟩) (l0)).trans c0, (HB.out.cell (p := ⟨w.heap.size, 1, none⟩) (l0)).trans c1⟩ (fun hHeld => ?_)
        clear hK K
        refine no_ (h := ?_)
        exact norm_ (by simp only [putAll, Act.put, List.setIfInBounds_toArray, List.set_cons_zero, List.set_cons_succ]) (hCont _ _ ⟨hge, HA.out, HB.out⟩)
      · skip
        refine value_ (w1 := ?_) (v := ?_) (by rfl) rfl ?_ ?_
        rotate_left 2
        · go_simp
          constructor
          · rfl
          · rfl
        have HA := Lh (ha_new HB.out (.cells #[.int .i64 0, .int .i64 0, .int .i64 0, .int .i64 0, .int .i64 0, .slice none 0 0] 78))
        have hge := HB.out.size
        have HB := Lh (HB.out.alloc (Nat.le_trans (Nat.le_refl _) HB.out.size) (.cells #[.int .i64 0, .int .i64 0, .int .i64 0, .int .i64 0, .int .i64 0, .slice none 0 0] 78))
        refine hK.out _ _ ⟨(HB.out.cell (p := ⟨w.heap.size, 0, none⟩) (l0)).trans c0, (HB.out.cell (p := ⟨w.heap.size, 1, none⟩) (l0)).trans c1⟩ (fun hHeld => ?_)
        clear hK K
        refine no_ (h := ?_)
        refine on_ 6 (some 12) (h := fun K hK => ?_)
        refine gs_ Try.func104 #[.int .i64 r, .int .i64 16384] ?_
        with_reducible refine (HPR.out _).mono ?_
        rintro e' w4 ⟨rfl, rfl⟩
        refine ⟨_, rfl, ?_⟩
        refine hK.out _ _ ⟨(HB.out.cell (p := ⟨w.heap.size, 0, none⟩) (l0)).trans c0, (HB.out.cell (p := ⟨w.heap.size, 1, none⟩) (l0)).trans c1⟩ (fun hHeld => ?_)
        clear hK K
        refine no_ (h := ?_)
        refine pu_ 7 13 (h := ?_)
        refine pu_ 8 14 (h := ?_)
        exact norm_ (by simp only [putAll, Act.put, List.setIfInBounds_toArray, List.set_cons_zero, List.set_cons_succ]) (hCont _ _ ⟨hge, HA.out, HB.out⟩)
    · skip
      refine value_ (w1 := ?_) (v := ?_) (by rfl) rfl ?_ ?_
      rotate_left 2
      · go_simp
        constructor
        · rfl
        · rfl
      have HA := Lh (ha_new HB.out (.cells #[.int .i64 0, .int .i64 0, .int .i64 0, .int .i64 0, .int .i64 0, .slice none 0 0] 78))
      have hge := HB.out.size
      have HB := Lh (HB.out.alloc (Nat.le_trans (Nat.le_refl _) HB.out.size) (.cells #[.int .i64 0, .int .i64 0, .int .i64 0, .int .i64 0, .int .i64 0, .slice none 0 0] 78))
      refine hK.out _ _ ⟨(HB.out.cell (p := ⟨w.heap.size, 0, none⟩) (l0)).trans c0, (HB.out.cell (p := ⟨w.heap.size, 1, none⟩) (l0)).trans c1⟩ (fun hHeld => ?_)
      clear hK K
      refine no_ (h := ?_)
      refine on_ 2 (some 8) (h := fun K hK => ?_)
      refine gs_ Try.func104 #[.int .i64 k, .int .i64 4] ?_
      with_reducible refine (HPK.out _).mono ?_
      rintro e' w4 ⟨rfl, rfl⟩
      refine ⟨_, rfl, ?_⟩
      refine hK.out _ _ ⟨(HB.out.cell (p := ⟨w.heap.size, 0, none⟩) (l0)).trans c0, (HB.out.cell (p := ⟨w.heap.size, 1, none⟩) (l0)).trans c1⟩ (fun hHeld => ?_)
      clear hK K
      refine no_ (h := ?_)
      refine pu_ 3 9 (h := ?_)
      refine on_ 6 (some 12) (h := fun K hK => ?_)
      refine gs_ Try.func104 #[.int .i64 r, .int .i64 16384] ?_
      with_reducible refine (HPR.out _).mono ?_
      rintro e' w4 ⟨rfl, rfl⟩
      refine ⟨_, rfl, ?_⟩
      refine hK.out _ _ ⟨(HB.out.cell (p := ⟨w.heap.size, 0, none⟩) (l0)).trans c0, (HB.out.cell (p := ⟨w.heap.size, 1, none⟩) (l0)).trans c1⟩ (fun hHeld => ?_)
      clear hK K
      refine no_ (h := ?_)
      refine pu_ 7 13 (h := ?_)
      refine pu_ 8 14 (h := ?_)
      exact norm_ (by simp only [putAll, Act.put, List.setIfInBounds_toArray, List.set_cons_zero, List.set_cons_succ]) (hCont _ _ ⟨hge, HA.out, HB.out⟩)
  rintro AB wj ⟨hge, HA, HB⟩
  have HA := Lh HA
  have HB := Lh HB
  have hHeld : wj.cell? ⟨w.heap.size, 0, none⟩ = some (.int .i64 k) ∧ wj.cell? ⟨w.heap.size, 1, none⟩ = some (.int .i64 r) := ⟨(HB.out.cell (p := ⟨w.heap.size, 0, none⟩) (l0)).trans c0, (HB.out.cell (p := ⟨w.heap.size, 1, none⟩) (l0)).trans c1⟩
  refine no_ (h := ?_)
  refine on_ 10 (none) (h := fun K hK => ?_)
  have sc0 : World.cell? _ ⟨AB, 0, none⟩ = some (.int .i64 0) := (blk_cell HA.out 0).trans rfl
  have sf0 := blk_frozen HA.out 0
  have sc1 : World.cell? _ ⟨AB, 1, none⟩ = some (.int .i64 0) := (blk_cell HA.out 1).trans rfl
  have sf1 := blk_frozen HA.out 1
  have sc2 : World.cell? _ ⟨AB, 2, none⟩ = some (.int .i64 0) := (blk_cell HA.out 2).trans rfl
  have sf2 := blk_frozen HA.out 2
  have sc3 : World.cell? _ ⟨AB, 3, none⟩ = some (.int .i64 0) := (blk_cell HA.out 3).trans rfl
  have sf3 := blk_frozen HA.out 3
  have sc4 : World.cell? _ ⟨AB, 4, none⟩ = some (.int .i64 0) := (blk_cell HA.out 4).trans rfl
  have sf4 := blk_frozen HA.out 4
  have sc5 : World.cell? _ ⟨AB, 5, none⟩ = some (.slice none 0 0) := (blk_cell HA.out 5).trans rfl
  have sf5 := blk_frozen HA.out 5
  refine skip_ (w1 := ?_) (by rfl) rfl ?_ ?_
  rotate_left
  · go_simp
    rfl
  have HA := Lh (bs6 HA.out (.int .i64 kk) (.int .i64 rr) (.int .i64 0) (.int .i64 0) (.int .i64 0) (.slice none 0 0))
  have HB := Lh (bb6 HB.out (Nat.le_trans (Nat.le_refl _) hge) (.int .i64 kk) (.int .i64 rr) (.int .i64 0) (.int .i64 0) (.int .i64 0) (.slice none 0 0))
  clear sc0 sf0 sc1 sf1 sc2 sf2 sc3 sf3 sc4 sf4 sc5 sf5
  refine hK.out _ _ ⟨(HB.out.cell (p := ⟨w.heap.size, 0, none⟩) (l0)).trans c0, (HB.out.cell (p := ⟨w.heap.size, 1, none⟩) (l0)).trans c1⟩ (fun hHeld => ?_)
  clear hK K
  refine done_ (by kernel_rfl) ?_
  obtain ⟨w1, hwn⟩ : ∃ V, ((((((wj.setCell ⟨AB, 0, none⟩ (.int .i64 kk)).setCell ⟨AB, 1, none⟩ (.int .i64 rr)).setCell ⟨AB, 2, none⟩ (.int .i64 0)).setCell ⟨AB, 3, none⟩ (.int .i64 0)).setCell ⟨AB, 4, none⟩ (.int .i64 0)).setCell ⟨AB, 5, none⟩ (.slice none 0 0)) = V := ⟨_, rfl⟩
  rw [hwn] at HA HB ⊢
  clear hwn
  have hb1 := HB.out.size
  have c2 : w1.cell? ⟨w.heap.size, 2, none⟩ = some (.int .i64 hx) := (blk_cell ((HB.out.block _ l0).trans C0.out) 2).trans rfl
  have c3 : w1.cell? ⟨w.heap.size, 3, none⟩ = some (.int .i64 hy) := (blk_cell ((HB.out.block _ l0).trans C0.out) 3).trans rfl
  have c4 : w1.cell? ⟨w.heap.size, 4, none⟩ = some (.int .i64 hz) := (blk_cell ((HB.out.block _ l0).trans C0.out) 4).trans rfl
  have B1 := HB
  have A1 := HA
  clear HB HA hHeld
  go_wp2_with fail
  have HB := Lh ((Below.refl (w0.heap.size) w1).drew)
  have HA := Lh (show w1.drew.heap[AB]? = _ from A1.out)
  have FF := Lh (show ∀ V, Hid (Below (w0.heap.size) w1 V) → V.cell? ⟨w.heap.size, 2, none⟩ = some (.int .i64 hx) ∧ V.cell? ⟨w.heap.size, 3, none⟩ = some (.int .i64 hy) ∧ V.cell? ⟨w.heap.size, 4, none⟩ = some (.int .i64 hz) from fun V HB => ⟨(HB.out.cell (p := ⟨w.heap.size, 2, none⟩) (l0)).trans c2, (HB.out.cell (p := ⟨w.heap.size, 3, none⟩) (l0)).trans c3, (HB.out.cell (p := ⟨w.heap.size, 4, none⟩) (l0)).trans c4⟩)
  refine start_ (n := 18) (S := fun w' => w'.cell? ⟨w.heap.size, 2, none⟩ = some (.int .i64 hx) ∧ w'.cell? ⟨w.heap.size, 3, none⟩ = some (.int .i64 hy) ∧ w'.cell? ⟨w.heap.size, 4, none⟩ = some (.int .i64 hz)) (ds := []) (MT 0 18) (by kernel_rfl) rfl rfl (FF.out _ HB) (fun hHeld => ?_)
  obtain ⟨wd, hwd⟩ : ∃ x, w1.drew = x := ⟨_, rfl⟩
  rw [hwd] at HB hHeld HA ⊢
  clear hwd
  refine pu_ 0 15 (h := ?_)
  refine pu_ 1 16 (h := ?_)
  refine pu_ 5 20 (h := ?_)
  refine pu_ 6 21 (h := ?_)
  refine pu_ 10 25 (h := ?_)
  refine pu_ 11 26 (h := ?_)
  refine ta_ 2 17 hHeld (h := ?_)
  refine ta_ 7 22 hHeld (h := ?_)
  refine ta_ 12 27 hHeld (h := ?_)
  refine on_ 3 (some 18) (h := fun K hK => ?_)
  refine gs_ Try.func104 #[.int .i64 hx, .int .i64 65536] ?_
  with_reducible refine (HPX.out _).mono ?_
  rintro e' w4 ⟨rfl, rfl⟩
  refine ⟨_, rfl, ?_⟩
  refine hK.out _ _ (FF.out _ HB) (fun hHeld => ?_)
  clear hK K
  refine no_ (h := ?_)
  refine pu_ 4 19 (h := ?_)
  refine on_ 8 (some 23) (h := fun K hK => ?_)
  refine gs_ Try.func104 #[.int .i64 hy, .int .i64 65536] ?_
  with_reducible refine (HPY.out _).mono ?_
  rintro e' w4 ⟨rfl, rfl⟩
  refine ⟨_, rfl, ?_⟩
  refine hK.out _ _ (FF.out _ HB) (fun hHeld => ?_)
  clear hK K
  refine no_ (h := ?_)
  refine pu_ 9 24 (h := ?_)
  refine on_ 13 (some 28) (h := fun K hK => ?_)
  refine gs_ Try.func104 #[.int .i64 hz, .int .i64 65536] ?_
  with_reducible refine (HPZ.out _).mono ?_
  rintro e' w4 ⟨rfl, rfl⟩
  refine ⟨_, rfl, ?_⟩
  refine hK.out _ _ (FF.out _ HB) (fun hHeld => ?_)
  clear hK K
  refine no_ (h := ?_)
  refine pu_ 14 29 (h := ?_)
  refine pu_ 15 30 (h := ?_)
  refine pu_ 16 31 (h := ?_)
  refine on_ 17 (none) (h := fun K hK => ?_)
  have sc2 : World.cell? _ ⟨AB, 2, none⟩ = some (.int .i64 0) := (blk_cell HA.out 2).trans rfl
  have sf2 := blk_frozen HA.out 2
  have sc3 : World.cell? _ ⟨AB, 3, none⟩ = some (.int .i64 0) := (blk_cell HA.out 3).trans rfl
  have sf3 := blk_frozen HA.out 3
  have sc4 : World.cell? _ ⟨AB, 4, none⟩ = some (.int .i64 0) := (blk_cell HA.out 4).trans rfl
  have sf4 := blk_frozen HA.out 4
  refine skip_ (w1 := ?_) (by rfl) rfl ?_ ?_
  rotate_left
  · go_simp
    rfl
  have HA := Lh (blk6m HA.out (.int .i64 xx) (.int .i64 yy) (.int .i64 zz))
  have HB := Lh (((HB.out.setCell (p := ⟨AB, 2, none⟩) hge (.int .i64 xx)).setCell (p := ⟨AB, 3, none⟩) hge (.int .i64 yy)).setCell (p := ⟨AB, 4, none⟩) hge (.int .i64 zz))
  clear sc2 sc3 sc4 sf2 sf3 sf4
  refine hK.out _ _ (FF.out _ HB) (fun hHeld => ?_)
  clear hK K
  refine done_ (by kernel_rfl) ?_
  obtain ⟨w2, hwn⟩ : ∃ V, ((w4.setCell ⟨AB, 2, none⟩ (.int .i64 xx)).setCell ⟨AB, 3, none⟩ (.int .i64 yy)).setCell ⟨AB, 4, none⟩ (.int .i64 zz) = V := ⟨_, rfl⟩
  rw [hwn] at HA HB ⊢
  clear hwn
  have B2 := Lh (B1.out.trans HB.out)
  have A2 := HA
  clear HA HB B1 A1 c0 c1 c2 c3 c4 hHeld
  have bh : halfOk ⟨xx, yy, zz⟩ := by refine ⟨?_, ?_, ?_, ?_, ?_, ?_⟩ <;> simp only <;> omega
  have br1 : 1 ≤ rr := by omega
  have br2 : rr ≤ 16384 := by omega
  have BH := Lh (And.intro bh (And.intro br1 br2))
  have hgA := Lh hge
  have hlA : w.heap.size + 1 < AB := by have := blk_lt R0.out; omega
  have hlA := Lh hlA
  clear wk wr wx wy wz hkk hrr hxx hyy hzz b1 b2 b3 b4 b5 bh br1 br2 hb1 l0 hge
  by_cases h4 : kk = 4
  · subst h4
    have d0 : w2.cell? ⟨AB, 0, none⟩ = some (.int .i64 4) := (blk_cell A2.out 0).trans rfl
    go_wp2_with fail
    clear d0
    go_loopw [4, 5] (fun v4 v5 wr => ∃ (i : Nat) (vp : Value), i ≤ N ∧ i ≤ 12 ∧ v4 = .int .i64 i ∧ Hid (OwnP wr (AB + 1) vp ((l.take i).map part3)) ∧ Hid (wr.heap[AB]? = some (.cells #[.int .i64 4, .int .i64 rr, .int .i64 xx, .int .i64 yy, .int .i64 zz, vp] 78 (0, 0))) ∧ Hid (Below AB w2 wr)) (fun i _ _ => 12 - (intOf i).toNat)
    case atStart => exact ⟨0, .slice none 0 0, by omega, by omega, rfl, Lh (OwnP.nil _ _), A2, Lh (Below.refl _ _)⟩
    case round =>
      obtain ⟨i, vp, hi, hi2, rfl, hO, hT, hB⟩ := hrel
      obtain ⟨wo, hwo⟩ : ∃ wo : World, wo = wr := ⟨_, rfl⟩
      subst hwo
      have C3 := Lh ((hB.out.block _ (show w.heap.size < AB by have := hlA.out; omega)).trans ((B2.out.block _ (blk_lt C0.out)).trans C0.out))
      have hBw := Lh (W0.out.trans ((B2.out.mono (show w.heap.size ≤ w0.heap.size from Nat.le_of_lt (blk_lt C0.out))).trans (hB.out.mono (show w.heap.size ≤ AB by have := hlA.out; omega))))
      have lC : AB < wo.heap.size := blk_lt hT.out
      have hlC := Lh lC
      have c5 : wo.cell? ⟨w.heap.size, 5, none⟩ = some (.slice A N c) := (blk_cell C3.out 5).trans rfl
      by_cases h1 : i < N
      · by_cases h2 : i < 12
        · have hil : i < l.length := by rw [HN.out]; exact h1
          obtain ⟨b, o, rfl, lb, e0, e1, e2⟩ := (HAA.out.1.below hBw.out).get i hil
          have hpp := HP.out _ (List.getElem_mem hil)
          have hTK : (l.take (i + 1)).map part3 = (l.take i).map part3 ++ [part3 l[i]] := by rw [List.take_succ_eq_append_getElem hil, List.map_append]; rfl
          obtain ⟨ok, hok⟩ : ∃ ok, (l.take i).map part3 = ok := ⟨_, rfl⟩
          have hlen : ok.length ≤ 1000 := by rw [← hok, List.length_map, List.length_take]; omega
          rw [hok] at hO hTK
          obtain ⟨⟨px, py, pz⟩, hpe⟩ : ∃ p1, l[i] = p1 := ⟨_, rfl⟩
          rw [hpe] at e0 e1 e2 hpp hTK
          simp only at e0 e1 e2
          obtain ⟨i1, i2, i3⟩ := hpp
          simp only at i1 i2 i3
          have HX := Lh (fun W => part5_calls px 65536 i1.1 i1.2 (by decide) (by decide) W)
          have HY := Lh (fun W => part5_calls py 65536 i2.1 i2.2 (by decide) (by decide) W)
          have HZ := Lh (fun W => part5_calls pz 65536 i3.1 i3.2 (by decide) (by decide) W)
          have hP3 : part3 ⟨px, py, pz⟩ = ⟨partF px 65536, partF py 65536, partF pz 65536⟩ := rfl
          rw [hP3] at hTK
          obtain ⟨dx, hdx⟩ : ∃ d, partF px 65536 = d := ⟨_, rfl⟩
          obtain ⟨dy, hdy⟩ : ∃ d, partF py 65536 = d := ⟨_, rfl⟩
          obtain ⟨dz, hdz⟩ : ∃ d, partF pz 65536 = d := ⟨_, rfl⟩
          rw [hdx] at HX hTK
          rw [hdy] at HY hTK
          rw [hdz] at HZ hTK
          have hTK := Lh hTK
          have hlen := Lh hlen
          clear hdx hdy hdz hP3 i1 i2 i3 hpe hok
          have hiN : (i : Int) < (N : Int) := by omega
          have hi12 : (i : Int) < 12 := by omega
          go_wp2_with fail
          obtain ⟨QB, hQB⟩ : ∃ q, wo.heap.size = q := ⟨_, rfl⟩
          obtain ⟨w3, hw3⟩ : ∃ V, wo.alloc (.cells #[.int .i64 px, .int .i64 py, .int .i64 pz] 23) = V := ⟨_, rfl⟩
          have q3 := heap_alloc_new wo (.cells #[.int .i64 px, .int .i64 py, .int .i64 pz] 23)
          have hO3 := hO.out.grown ((Below.refl _ wo).alloc (Nat.le_refl _) (.cells #[.int .i64 px, .int .i64 py, .int .i64 pz] 23))
          have hT3 := (Below.heap_alloc _ (.cells #[.int .i64 px, .int .i64 py, .int .i64 pz] 23) _ lC).trans hT.out
          have hB3 := hB.out.alloc (Nat.le_of_lt lC) (.cells #[.int .i64 px, .int .i64 py, .int .i64 pz] 23)
          rw [hw3] at q3 hO3 hT3 hB3 ⊢
          rw [hQB] at q3
          (try rw [hQB])
          have hO3 := Lh hO3
          have hT3 := Lh hT3
          have hB3 := Lh hB3
          have x0 : w3.cell? ⟨AB, 5, none⟩ = some vp := (blk_cell hT3.out 5).trans rfl
          have x1 : w3.cell? ⟨QB, 0, none⟩ = some (.int .i64 px) := (blk_cell q3 0).trans rfl
          have x2 : w3.cell? ⟨QB, 1, none⟩ = some (.int .i64 py) := (blk_cell q3 1).trans rfl
          have x3 : w3.cell? ⟨QB, 2, none⟩ = some (.int .i64 pz) := (blk_cell q3 2).trans rfl
          have m0 : AB < w3.heap.size := blk_lt hT3.out
          have m1 : QB < w3.heap.size := blk_lt q3
          have M0 := Lh m0
          clear hw3 hQB e0 e1 e2 lC c5 hlC lb q3
          have HB := Lh ((Below.refl (w3.heap.size) w3).drew)
          have FF := Lh (show ∀ V, Hid (Below (w3.heap.size) w3 V) → V.cell? ⟨AB, 5, none⟩ = some (vp) ∧ V.cell? ⟨QB, 0, none⟩ = some (.int .i64 px) ∧ V.cell? ⟨QB, 1, none⟩ = some (.int .i64 py) ∧ V.cell? ⟨QB, 2, none⟩ = some (.int .i64 pz) from fun V HB => ⟨(HB.out.cell (p := ⟨AB, 5, none⟩) (m0)).trans x0, (HB.out.cell (p := ⟨QB, 0, none⟩) (m1)).trans x1, (HB.out.cell (p := ⟨QB, 1, none⟩) (m1)).trans x2, (HB.out.cell (p := ⟨QB, 2, none⟩) (m1)).trans x3⟩)
          refine start_ (n := 16) (S := fun w' => w'.cell? ⟨AB, 5, none⟩ = some (vp) ∧ w'.cell? ⟨QB, 0, none⟩ = some (.int .i64 px) ∧ w'.cell? ⟨QB, 1, none⟩ = some (.int .i64 py) ∧ w'.cell? ⟨QB, 2, none⟩ = some (.int .i64 pz)) (ds := [13, 15]) (MT 0 16) (by kernel_rfl) rfl rfl (FF.out _ HB) (fun hHeld => ?_)
          obtain ⟨wd, hwd⟩ : ∃ x, w3.drew = x := ⟨_, rfl⟩
          rw [hwd] at HB hHeld ⊢
          clear hwd
          refine pu_ 0 51 (h := ?_)
          refine pu_ 2 53 (h := ?_)
          refine pu_ 5 56 (h := ?_)
          refine pu_ 8 59 (h := ?_)
          refine ta_ 1 52 hHeld (h := ?_)
          refine ta_ 3 54 hHeld (h := ?_)
          refine ta_ 6 57 hHeld (h := ?_)
          refine ta_ 9 60 hHeld (h := ?_)
          refine on_ 4 (some 55) (h := fun K hK => ?_)
          refine gs_ Try.func105 #[.int .i64 px, .int .i64 65536] ?_
          with_reducible refine (HX.out _).mono ?_
          rintro e' w4 ⟨rfl, rfl⟩
          refine ⟨_, rfl, ?_⟩
          refine hK.out _ _ (FF.out _ HB) (fun hHeld => ?_)
          clear hK K
          refine no_ (h := ?_)
          refine on_ 7 (some 58) (h := fun K hK => ?_)
          refine gs_ Try.func105 #[.int .i64 py, .int .i64 65536] ?_
          with_reducible refine (HY.out _).mono ?_
          rintro e' w4 ⟨rfl, rfl⟩
          refine ⟨_, rfl, ?_⟩
          refine hK.out _ _ (FF.out _ HB) (fun hHeld => ?_)
          clear hK K
          refine no_ (h := ?_)
          refine on_ 10 (some 61) (h := fun K hK => ?_)
          refine gs_ Try.func105 #[.int .i64 pz, .int .i64 65536] ?_
          with_reducible refine (HZ.out _).mono ?_
          rintro e' w4 ⟨rfl, rfl⟩
          refine ⟨_, rfl, ?_⟩
          refine hK.out _ _ (FF.out _ HB) (fun hHeld => ?_)
          clear hK K
          refine no_ (h := ?_)
          refine pu_ 11 62 (h := ?_)
          refine on_ 12 (some 63) (h := fun K hK => ?_)
          refine value_ (w1 := ?_) (v := ?_) (by rfl) rfl ?_ ?_
          rotate_left 2
          · go_simp
            constructor
            · rfl
            · rfl
          have HA := Lh (ha_new HB.out (.cells #[.int .i64 dx, .int .i64 dy, .int .i64 dz] 23))
          have hge := HB.out.size
          have HB := Lh (HB.out.alloc (Nat.le_trans (Nat.le_refl _) HB.out.size) (.cells #[.int .i64 dx, .int .i64 dy, .int .i64 dz] 23))
          refine hK.out _ _ (FF.out _ HB) (fun hHeld => ?_)
          clear hK K
          refine no_ (h := ?_)
          refine last_ (i := 13) (N := some 64) (MT 14 2) rfl rfl (by kernel_rfl) (by decide) (fun K hK => ?_)
          have hRD := (Rd_one HA.out).1
          have hO8 := hO3.out.grown HB.out
          refine apnd_ (AB + 1) (by rfl) rfl _ _ rfl _ ok [⟨dx, dy, dz⟩] _ _ _ _ rfl rfl hO8 hRD rfl (by have := hlen.out; simp; omega) (by have := M0.out; have := HB.out.size; omega) ?_
          intro v2 w9 hv2 hg2
          obtain ⟨Av, nv, cv, hvv⟩ : ∃ A n c, v2 = .slice A n c := (by obtain ⟨A, c, h, _⟩ := OwnP.rd hv2; exact ⟨A, _, c, h⟩)
          subst hvv
          have hT8 := (HB.out.block _ m0).trans hT3.out
          have hB8 := hB3.out.trans (HB.out.mono (Nat.le_of_lt m0))
          have hT10 := Lh ((hg2.block AB (blk_lt hT8) (fun e => by have := hO8.base_ _ e.symm; omega)).trans hT8)
          have hB10 := Lh (hB8.grown hg2 (Nat.le_of_lt (blk_lt hT8)) (fun k hk => by have := hO8.base_ k hk; omega))
          have hv2' := Lh hv2
          clear hv2 hg2 hRD hO8 hT8 hB8
          refine hK.out _ _ ?_
          clear hK K
          refine no_ (h := ?_)
          refine pu_ 14 65 (h := ?_)
          refine last_ (i := 15) (N := none) (MT 16 0) rfl rfl (by kernel_rfl) (by decide) (fun K hK => ?_)
          have sc5 : World.cell? _ ⟨AB, 5, none⟩ = some vp := (blk_cell hT10.out 5).trans rfl
          have sf5 := blk_frozen hT10.out 5
          refine skip_ (w1 := ?_) (by rfl) rfl ?_ ?_
          rotate_left
          · go_simp
            rfl
          refine hK.out _ _ ?_
          clear hK K
          refine done_ (by kernel_rfl) ?_
          go_wp2_with fail
          go_roundw
          case rel => exact ⟨i + 1, .slice Av nv cv, by omega, by omega, by go_num, by rw [hTK.out]; exact Lh (ownsRow_setCell_below hv2'.out (show AB < AB + 1 by omega) (.slice Av nv cv)), Lh (blk65 hT10.out (.slice Av nv cv)), Lh (hB10.out.setCell (p := ⟨AB, 5, none⟩) (Nat.le_refl _) (.slice Av nv cv))⟩
          case measure => simp [intOf]; omega
        · have hiN : (i : Int) < (N : Int) := by omega
          have hi12 : ¬ ((i : Int) < 12) := by omega
          have hT12 : l.take i = l.take 12 := by rw [show i = 12 by omega]
          rw [hT12] at hO
          have hLl : ((l.take 12).map part3).length ≤ 12 := by rw [List.length_map, List.length_take]; omega
          have hLin : ∀ p ∈ (l.take 12).map part3, in3 65536 p := fun p hp => by simp only [List.mem_map] at hp; obtain ⟨q, _, rfl⟩ := hp; exact part3_in q
          have HD4 := Lh (HD.out.trans (if_pos trivial))
          obtain ⟨LP, hLP⟩ : ∃ LP, (l.take 12).map part3 = LP := ⟨_, rfl⟩
          rw [hLP] at hO hLl hLin HD4
          obtain ⟨Ap, cp, rfl, hlp, hrp, hbp⟩ := hO.out.rdB
          have HCK := Lh (fun (W : World) (hW : RdB W Ap LP) => check_4 rr ⟨xx, yy, zz⟩ LP Ap cp (by have := BH.out.2.1; omega) BH.out.2.2 hLl hLin W hW)
          obtain ⟨nP, hnP⟩ : ∃ n, LP.length = n := ⟨_, rfl⟩
          rw [hnP] at hT hlp HCK
          have hnP := Lh hnP
          have hlp := Lh hlp
          have hrp := Lh hrp
          have hbp := Lh hbp
          have hlB := Lh lC
          have R3 := Lh ((hB.out.block _ (show w.heap.size + 1 < AB from hlA.out)).trans ((B2.out.block _ (blk_lt R0.out)).trans R0.out))
          clear hLl hLin hLP hO
          have d0 : wo.cell? ⟨AB, 0, none⟩ = some (.int .i64 4) := (blk_cell hT.out 0).trans rfl
          have d1 : wo.cell? ⟨AB, 1, none⟩ = some (.int .i64 rr) := (blk_cell hT.out 1).trans rfl
          have d2 : wo.cell? ⟨AB, 2, none⟩ = some (.int .i64 xx) := (blk_cell hT.out 2).trans rfl
          have d3 : wo.cell? ⟨AB, 3, none⟩ = some (.int .i64 yy) := (blk_cell hT.out 3).trans rfl
          have d4 : wo.cell? ⟨AB, 4, none⟩ = some (.int .i64 zz) := (blk_cell hT.out 4).trans rfl
          have d5 : wo.cell? ⟨AB, 5, none⟩ = some (.slice Ap nP cp) := (blk_cell hT.out 5).trans rfl
          go_wp2_with fail
          refine (HCK.out wo hrp.out).mono ?_
          rintro e w5 ⟨n, rfl, hn0, hb⟩
          have A5 := Lh ((hb.block _ hlB.out).trans hT.out)
          have R5 := Lh ((hb.block _ (blk_lt R3.out)).trans R3.out)
          have W5 := Lh (bthen hBw.out hb)
          have p5 := Lh (hrp.out.below hb)
          have nR : ∀ ad, Ap = some ad → ad.block ≠ w.heap.size + 1 := fun ad e => by have := hbp.out ad e; have := hlA.out; omega
          have nR := Lh nR
          clear hb d0 d1 d2 d3 d4 d5 lC c5
          by_cases hc : chkOk LP
          · obtain rfl : n = 0 := hn0.2 hc
            have l5 : AB < w5.heap.size := blk_lt A5.out
            have l6 : w.heap.size + 1 < w5.heap.size := blk_lt R5.out
            have HD5 := Lh (HD4.out.trans (if_pos hc))
            clear hn0 hc
            have d0 : w5.cell? ⟨AB, 0, none⟩ = some (.int .i64 4) := (blk_cell A5.out 0).trans rfl
            have r0 : w5.cell? ⟨w.heap.size + 1, 0, none⟩ = some (.int .i64 0) := (blk_cell R5.out 0).trans rfl
            have f0 : w5.frozen? ⟨w.heap.size + 1, 0, none⟩ = false := blk_frozen R5.out 0
            have d1 : w5.cell? ⟨AB, 1, none⟩ = some (.int .i64 rr) := (blk_cell A5.out 1).trans rfl
            have r1 : w5.cell? ⟨w.heap.size + 1, 1, none⟩ = some (.int .i64 0) := (blk_cell R5.out 1).trans rfl
            have f1 : w5.frozen? ⟨w.heap.size + 1, 1, none⟩ = false := blk_frozen R5.out 1
            have d2 : w5.cell? ⟨AB, 2, none⟩ = some (.int .i64 xx) := (blk_cell A5.out 2).trans rfl
            have r2 : w5.cell? ⟨w.heap.size + 1, 2, none⟩ = some (.int .i64 0) := (blk_cell R5.out 2).trans rfl
            have f2 : w5.frozen? ⟨w.heap.size + 1, 2, none⟩ = false := blk_frozen R5.out 2
            have d3 : w5.cell? ⟨AB, 3, none⟩ = some (.int .i64 yy) := (blk_cell A5.out 3).trans rfl
            have r3 : w5.cell? ⟨w.heap.size + 1, 3, none⟩ = some (.int .i64 0) := (blk_cell R5.out 3).trans rfl
            have f3 : w5.frozen? ⟨w.heap.size + 1, 3, none⟩ = false := blk_frozen R5.out 3
            have d4 : w5.cell? ⟨AB, 4, none⟩ = some (.int .i64 zz) := (blk_cell A5.out 4).trans rfl
            have r4 : w5.cell? ⟨w.heap.size + 1, 4, none⟩ = some (.int .i64 0) := (blk_cell R5.out 4).trans rfl
            have f4 : w5.frozen? ⟨w.heap.size + 1, 4, none⟩ = false := blk_frozen R5.out 4
            have d5 : w5.cell? ⟨AB, 5, none⟩ = some (.slice Ap nP cp) := (blk_cell A5.out 5).trans rfl
            have r5 : w5.cell? ⟨w.heap.size + 1, 5, none⟩ = some (.slice none 0 0) := (blk_cell R5.out 5).trans rfl
            have f5 : w5.frozen? ⟨w.heap.size + 1, 5, none⟩ = false := blk_frozen R5.out 5
            have T7 := bs6 R5.out (.int .i64 4) (.int .i64 rr) (.int .i64 xx) (.int .i64 yy) (.int .i64 zz) (.slice Ap nP cp)
            have B7 := bb6 W5.out (show w.heap.size ≤ w.heap.size + 1 by omega) (.int .i64 4) (.int .i64 rr) (.int .i64 xx) (.int .i64 yy) (.int .i64 zz) (.slice Ap nP cp)
            have p7 := ((((((p5.out.setc nR.out 0 (.int .i64 4)).setc nR.out 1 (.int .i64 rr)).setc nR.out 2 (.int .i64 xx)).setc nR.out 3 (.int .i64 yy)).setc nR.out 4 (.int .i64 zz)).setc nR.out 5 (.slice Ap nP cp))
            obtain ⟨w7, hw7⟩ : ∃ V, ((((((w5.setCell ⟨w.heap.size + 1, 0, none⟩ (.int .i64 4)).setCell ⟨w.heap.size + 1, 1, none⟩ (.int .i64 rr)).setCell ⟨w.heap.size + 1, 2, none⟩ (.int .i64 xx)).setCell ⟨w.heap.size + 1, 3, none⟩ (.int .i64 yy)).setCell ⟨w.heap.size + 1, 4, none⟩ (.int .i64 zz)).setCell ⟨w.heap.size + 1, 5, none⟩ (.slice Ap nP cp)) = V := ⟨_, rfl⟩
            rw [hw7] at T7 B7 p7
            have hv7 := Lh hw7
            have T7 := Lh T7
            have B7 := Lh B7
            have p7 := Lh p7
            clear hw7
            go_wp2
            rw [hv7.out]
            have y0 : w7.cell? ⟨w.heap.size + 1, 0, none⟩ = some (.int .i64 4) := (blk_cell T7.out 0).trans rfl
            have y1 : w7.cell? ⟨w.heap.size + 1, 1, none⟩ = some (.int .i64 rr) := (blk_cell T7.out 1).trans rfl
            have y2 : w7.cell? ⟨w.heap.size + 1, 2, none⟩ = some (.int .i64 xx) := (blk_cell T7.out 2).trans rfl
            have y3 : w7.cell? ⟨w.heap.size + 1, 3, none⟩ = some (.int .i64 yy) := (blk_cell T7.out 3).trans rfl
            have y4 : w7.cell? ⟨w.heap.size + 1, 4, none⟩ = some (.int .i64 zz) := (blk_cell T7.out 4).trans rfl
            have y5 : w7.cell? ⟨w.heap.size + 1, 5, none⟩ = some (.slice Ap nP cp) := (blk_cell T7.out 5).trans rfl
            exact bodyPost_ret (v := .agg #[.int .i64 4, .int .i64 rr, .int .i64 xx, .int .i64 yy, .int .i64 zz, .slice Ap nP cp]) (by simp [results, Try.results54, go_sem, y0, y1, y2, y3, y4, y5]) rfl (by rw [HD5.out]; exact ⟨Ap, cp, by rw [← hnP.out], p7.out, by have := hlp.out; have := hnP.out; simp only; omega, B7.out⟩)
          · have hne : n ≠ 0 := fun e => hc (hn0.1 e)
            have hne2 : (n == 0) = false := by simpa using hne
            have l5 : AB < w5.heap.size := blk_lt A5.out
            have l6 : w.heap.size + 1 < w5.heap.size := blk_lt R5.out
            have HD5 := Lh (HD4.out.trans (if_neg hc))
            have k0 : w5.cell? ⟨AB, 0, none⟩ = some (.int .i64 4) := (blk_cell A5.out 0).trans rfl
            have k0 : w5.cell? ⟨AB, 0, none⟩ = some (.int .i64 4) := (blk_cell A5.out 0).trans rfl
            have g0 : w5.frozen? ⟨AB, 0, none⟩ = false := blk_frozen A5.out 0
            have k1 : w5.cell? ⟨AB, 1, none⟩ = some (.int .i64 rr) := (blk_cell A5.out 1).trans rfl
            have g1 : w5.frozen? ⟨AB, 1, none⟩ = false := blk_frozen A5.out 1
            have k2 : w5.cell? ⟨AB, 2, none⟩ = some (.int .i64 xx) := (blk_cell A5.out 2).trans rfl
            have g2 : w5.frozen? ⟨AB, 2, none⟩ = false := blk_frozen A5.out 2
            have k3 : w5.cell? ⟨AB, 3, none⟩ = some (.int .i64 yy) := (blk_cell A5.out 3).trans rfl
            have g3 : w5.frozen? ⟨AB, 3, none⟩ = false := blk_frozen A5.out 3
            have k4 : w5.cell? ⟨AB, 4, none⟩ = some (.int .i64 zz) := (blk_cell A5.out 4).trans rfl
            have g4 : w5.frozen? ⟨AB, 4, none⟩ = false := blk_frozen A5.out 4
            have k5 : w5.cell? ⟨AB, 5, none⟩ = some (.slice Ap nP cp) := (blk_cell A5.out 5).trans rfl
            have g5 : w5.frozen? ⟨AB, 5, none⟩ = false := blk_frozen A5.out 5
            have T6 := blk65 (blk60 A5.out (.int .i64 3)) (.slice none 0 0)
            have R6 := (Below.heap_setCell (w5.setCell ⟨AB, 0, none⟩ (.int .i64 3)) ⟨AB, 5, none⟩ (.slice none 0 0) (w.heap.size + 1) (by have := hlA.out; simp; omega)).trans ((Below.heap_setCell w5 ⟨AB, 0, none⟩ (.int .i64 3) (w.heap.size + 1) (by have := hlA.out; simp; omega)).trans R5.out)
            have W6 := (W5.out.setCell (p := ⟨AB, 0, none⟩) (show w.heap.size ≤ AB by have := hlA.out; omega) (.int .i64 3)).setCell (p := ⟨AB, 5, none⟩) (show w.heap.size ≤ AB by have := hlA.out; omega) (.slice none 0 0)
            obtain ⟨w6, hw6⟩ : ∃ V, (w5.setCell ⟨AB, 0, none⟩ (.int .i64 3)).setCell ⟨AB, 5, none⟩ (.slice none 0 0) = V := ⟨_, rfl⟩
            rw [hw6] at T6 R6 W6
            have l7 : AB < w6.heap.size := blk_lt T6
            have l8 : w.heap.size + 1 < w6.heap.size := blk_lt R6
            have l9 : w.heap.size < w6.heap.size := by omega
            have T6 := Lh T6
            have R6 := Lh R6
            have W6 := Lh W6
            clear hn0 hc
            have d0 : w6.cell? ⟨AB, 0, none⟩ = some (.int .i64 3) := (blk_cell T6.out 0).trans rfl
            have r0 : w6.cell? ⟨w.heap.size + 1, 0, none⟩ = some (.int .i64 0) := (blk_cell R6.out 0).trans rfl
            have f0 : w6.frozen? ⟨w.heap.size + 1, 0, none⟩ = false := blk_frozen R6.out 0
            have d1 : w6.cell? ⟨AB, 1, none⟩ = some (.int .i64 rr) := (blk_cell T6.out 1).trans rfl
            have r1 : w6.cell? ⟨w.heap.size + 1, 1, none⟩ = some (.int .i64 0) := (blk_cell R6.out 1).trans rfl
            have f1 : w6.frozen? ⟨w.heap.size + 1, 1, none⟩ = false := blk_frozen R6.out 1
            have d2 : w6.cell? ⟨AB, 2, none⟩ = some (.int .i64 xx) := (blk_cell T6.out 2).trans rfl
            have r2 : w6.cell? ⟨w.heap.size + 1, 2, none⟩ = some (.int .i64 0) := (blk_cell R6.out 2).trans rfl
            have f2 : w6.frozen? ⟨w.heap.size + 1, 2, none⟩ = false := blk_frozen R6.out 2
            have d3 : w6.cell? ⟨AB, 3, none⟩ = some (.int .i64 yy) := (blk_cell T6.out 3).trans rfl
            have r3 : w6.cell? ⟨w.heap.size + 1, 3, none⟩ = some (.int .i64 0) := (blk_cell R6.out 3).trans rfl
            have f3 : w6.frozen? ⟨w.heap.size + 1, 3, none⟩ = false := blk_frozen R6.out 3
            have d4 : w6.cell? ⟨AB, 4, none⟩ = some (.int .i64 zz) := (blk_cell T6.out 4).trans rfl
            have r4 : w6.cell? ⟨w.heap.size + 1, 4, none⟩ = some (.int .i64 0) := (blk_cell R6.out 4).trans rfl
            have f4 : w6.frozen? ⟨w.heap.size + 1, 4, none⟩ = false := blk_frozen R6.out 4
            have d5 : w6.cell? ⟨AB, 5, none⟩ = some (.slice none 0 0) := (blk_cell T6.out 5).trans rfl
            have r5 : w6.cell? ⟨w.heap.size + 1, 5, none⟩ = some (.slice none 0 0) := (blk_cell R6.out 5).trans rfl
            have f5 : w6.frozen? ⟨w.heap.size + 1, 5, none⟩ = false := blk_frozen R6.out 5
            have T7 := bs6 R6.out (.int .i64 3) (.int .i64 rr) (.int .i64 xx) (.int .i64 yy) (.int .i64 zz) (.slice none 0 0)
            have B7 := bb6 W6.out (show w.heap.size ≤ w.heap.size + 1 by omega) (.int .i64 3) (.int .i64 rr) (.int .i64 xx) (.int .i64 yy) (.int .i64 zz) (.slice none 0 0)
            obtain ⟨w7, hw7⟩ : ∃ V, ((((((w6.setCell ⟨w.heap.size + 1, 0, none⟩ (.int .i64 3)).setCell ⟨w.heap.size + 1, 1, none⟩ (.int .i64 rr)).setCell ⟨w.heap.size + 1, 2, none⟩ (.int .i64 xx)).setCell ⟨w.heap.size + 1, 3, none⟩ (.int .i64 yy)).setCell ⟨w.heap.size + 1, 4, none⟩ (.int .i64 zz)).setCell ⟨w.heap.size + 1, 5, none⟩ (.slice none 0 0)) = V := ⟨_, rfl⟩
            rw [hw7] at T7 B7
            have hv7 := Lh hw7
            have T7 := Lh T7
            have B7 := Lh B7
            clear hw7
            go_wp2
            rw [hv7.out]
            have y0 : w7.cell? ⟨w.heap.size + 1, 0, none⟩ = some (.int .i64 3) := (blk_cell T7.out 0).trans rfl
            have y1 : w7.cell? ⟨w.heap.size + 1, 1, none⟩ = some (.int .i64 rr) := (blk_cell T7.out 1).trans rfl
            have y2 : w7.cell? ⟨w.heap.size + 1, 2, none⟩ = some (.int .i64 xx) := (blk_cell T7.out 2).trans rfl
            have y3 : w7.cell? ⟨w.heap.size + 1, 3, none⟩ = some (.int .i64 yy) := (blk_cell T7.out 3).trans rfl
            have y4 : w7.cell? ⟨w.heap.size + 1, 4, none⟩ = some (.int .i64 zz) := (blk_cell T7.out 4).trans rfl
            have y5 : w7.cell? ⟨w.heap.size + 1, 5, none⟩ = some (.slice none 0 0) := (blk_cell T7.out 5).trans rfl
            exact bodyPost_ret (v := .agg #[.int .i64 3, .int .i64 rr, .int .i64 xx, .int .i64 yy, .int .i64 zz, .slice none 0 0]) (by simp [results, Try.results54, go_sem, y0, y1, y2, y3, y4, y5]) rfl (by rw [HD5.out]; exact ⟨none, 0, rfl, RdB.nil _, Nat.le_refl _, B7.out⟩)
      · have hiN : ¬ ((i : Int) < (N : Int)) := by omega
        have hT12 : l.take i = l.take 12 := by rw [List.take_of_length_le (by rw [HN.out]; omega), List.take_of_length_le (by rw [HN.out]; omega)]
        rw [hT12] at hO
        have hLl : ((l.take 12).map part3).length ≤ 12 := by rw [List.length_map, List.length_take]; omega
        have hLin : ∀ p ∈ (l.take 12).map part3, in3 65536 p := fun p hp => by simp only [List.mem_map] at hp; obtain ⟨q, _, rfl⟩ := hp; exact part3_in q
        have HD4 := Lh (HD.out.trans (if_pos trivial))
        obtain ⟨LP, hLP⟩ : ∃ LP, (l.take 12).map part3 = LP := ⟨_, rfl⟩
        rw [hLP] at hO hLl hLin HD4
        obtain ⟨Ap, cp, rfl, hlp, hrp, hbp⟩ := hO.out.rdB
        have HCK := Lh (fun (W : World) (hW : RdB W Ap LP) => check_4 rr ⟨xx, yy, zz⟩ LP Ap cp (by have := BH.out.2.1; omega) BH.out.2.2 hLl hLin W hW)
        obtain ⟨nP, hnP⟩ : ∃ n, LP.length = n := ⟨_, rfl⟩
        rw [hnP] at hT hlp HCK
        have hnP := Lh hnP
        have hlp := Lh hlp
        have hrp := Lh hrp
        have hbp := Lh hbp
        have hlB := Lh lC
        have R3 := Lh ((hB.out.block _ (show w.heap.size + 1 < AB from hlA.out)).trans ((B2.out.block _ (blk_lt R0.out)).trans R0.out))
        clear hLl hLin hLP hO
        have d0 : wo.cell? ⟨AB, 0, none⟩ = some (.int .i64 4) := (blk_cell hT.out 0).trans rfl
        have d1 : wo.cell? ⟨AB, 1, none⟩ = some (.int .i64 rr) := (blk_cell hT.out 1).trans rfl
        have d2 : wo.cell? ⟨AB, 2, none⟩ = some (.int .i64 xx) := (blk_cell hT.out 2).trans rfl
        have d3 : wo.cell? ⟨AB, 3, none⟩ = some (.int .i64 yy) := (blk_cell hT.out 3).trans rfl
        have d4 : wo.cell? ⟨AB, 4, none⟩ = some (.int .i64 zz) := (blk_cell hT.out 4).trans rfl
        have d5 : wo.cell? ⟨AB, 5, none⟩ = some (.slice Ap nP cp) := (blk_cell hT.out 5).trans rfl
        go_wp2_with fail
        refine (HCK.out wo hrp.out).mono ?_
        rintro e w5 ⟨n, rfl, hn0, hb⟩
        have A5 := Lh ((hb.block _ hlB.out).trans hT.out)
        have R5 := Lh ((hb.block _ (blk_lt R3.out)).trans R3.out)
        have W5 := Lh (bthen hBw.out hb)
        have p5 := Lh (hrp.out.below hb)
        have nR : ∀ ad, Ap = some ad → ad.block ≠ w.heap.size + 1 := fun ad e => by have := hbp.out ad e; have := hlA.out; omega
        have nR := Lh nR
        clear hb d0 d1 d2 d3 d4 d5 lC c5
        by_cases hc : chkOk LP
        · obtain rfl : n = 0 := hn0.2 hc
          have l5 : AB < w5.heap.size := blk_lt A5.out
          have l6 : w.heap.size + 1 < w5.heap.size := blk_lt R5.out
          have HD5 := Lh (HD4.out.trans (if_pos hc))
          clear hn0 hc
          have d0 : w5.cell? ⟨AB, 0, none⟩ = some (.int .i64 4) := (blk_cell A5.out 0).trans rfl
          have r0 : w5.cell? ⟨w.heap.size + 1, 0, none⟩ = some (.int .i64 0) := (blk_cell R5.out 0).trans rfl
          have f0 : w5.frozen? ⟨w.heap.size + 1, 0, none⟩ = false := blk_frozen R5.out 0
          have d1 : w5.cell? ⟨AB, 1, none⟩ = some (.int .i64 rr) := (blk_cell A5.out 1).trans rfl
          have r1 : w5.cell? ⟨w.heap.size + 1, 1, none⟩ = some (.int .i64 0) := (blk_cell R5.out 1).trans rfl
          have f1 : w5.frozen? ⟨w.heap.size + 1, 1, none⟩ = false := blk_frozen R5.out 1
          have d2 : w5.cell? ⟨AB, 2, none⟩ = some (.int .i64 xx) := (blk_cell A5.out 2).trans rfl
          have r2 : w5.cell? ⟨w.heap.size + 1, 2, none⟩ = some (.int .i64 0) := (blk_cell R5.out 2).trans rfl
          have f2 : w5.frozen? ⟨w.heap.size + 1, 2, none⟩ = false := blk_frozen R5.out 2
          have d3 : w5.cell? ⟨AB, 3, none⟩ = some (.int .i64 yy) := (blk_cell A5.out 3).trans rfl
          have r3 : w5.cell? ⟨w.heap.size + 1, 3, none⟩ = some (.int .i64 0) := (blk_cell R5.out 3).trans rfl
          have f3 : w5.frozen? ⟨w.heap.size + 1, 3, none⟩ = false := blk_frozen R5.out 3
          have d4 : w5.cell? ⟨AB, 4, none⟩ = some (.int .i64 zz) := (blk_cell A5.out 4).trans rfl
          have r4 : w5.cell? ⟨w.heap.size + 1, 4, none⟩ = some (.int .i64 0) := (blk_cell R5.out 4).trans rfl
          have f4 : w5.frozen? ⟨w.heap.size + 1, 4, none⟩ = false := blk_frozen R5.out 4
          have d5 : w5.cell? ⟨AB, 5, none⟩ = some (.slice Ap nP cp) := (blk_cell A5.out 5).trans rfl
          have r5 : w5.cell? ⟨w.heap.size + 1, 5, none⟩ = some (.slice none 0 0) := (blk_cell R5.out 5).trans rfl
          have f5 : w5.frozen? ⟨w.heap.size + 1, 5, none⟩ = false := blk_frozen R5.out 5
          have T7 := bs6 R5.out (.int .i64 4) (.int .i64 rr) (.int .i64 xx) (.int .i64 yy) (.int .i64 zz) (.slice Ap nP cp)
          have B7 := bb6 W5.out (show w.heap.size ≤ w.heap.size + 1 by omega) (.int .i64 4) (.int .i64 rr) (.int .i64 xx) (.int .i64 yy) (.int .i64 zz) (.slice Ap nP cp)
          have p7 := ((((((p5.out.setc nR.out 0 (.int .i64 4)).setc nR.out 1 (.int .i64 rr)).setc nR.out 2 (.int .i64 xx)).setc nR.out 3 (.int .i64 yy)).setc nR.out 4 (.int .i64 zz)).setc nR.out 5 (.slice Ap nP cp))
          obtain ⟨w7, hw7⟩ : ∃ V, ((((((w5.setCell ⟨w.heap.size + 1, 0, none⟩ (.int .i64 4)).setCell ⟨w.heap.size + 1, 1, none⟩ (.int .i64 rr)).setCell ⟨w.heap.size + 1, 2, none⟩ (.int .i64 xx)).setCell ⟨w.heap.size + 1, 3, none⟩ (.int .i64 yy)).setCell ⟨w.heap.size + 1, 4, none⟩ (.int .i64 zz)).setCell ⟨w.heap.size + 1, 5, none⟩ (.slice Ap nP cp)) = V := ⟨_, rfl⟩
          rw [hw7] at T7 B7 p7
          have hv7 := Lh hw7
          have T7 := Lh T7
          have B7 := Lh B7
          have p7 := Lh p7
          clear hw7
          go_wp2
          rw [hv7.out]
          have y0 : w7.cell? ⟨w.heap.size + 1, 0, none⟩ = some (.int .i64 4) := (blk_cell T7.out 0).trans rfl
          have y1 : w7.cell? ⟨w.heap.size + 1, 1, none⟩ = some (.int .i64 rr) := (blk_cell T7.out 1).trans rfl
          have y2 : w7.cell? ⟨w.heap.size + 1, 2, none⟩ = some (.int .i64 xx) := (blk_cell T7.out 2).trans rfl
          have y3 : w7.cell? ⟨w.heap.size + 1, 3, none⟩ = some (.int .i64 yy) := (blk_cell T7.out 3).trans rfl
          have y4 : w7.cell? ⟨w.heap.size + 1, 4, none⟩ = some (.int .i64 zz) := (blk_cell T7.out 4).trans rfl
          have y5 : w7.cell? ⟨w.heap.size + 1, 5, none⟩ = some (.slice Ap nP cp) := (blk_cell T7.out 5).trans rfl
          exact bodyPost_ret (v := .agg #[.int .i64 4, .int .i64 rr, .int .i64 xx, .int .i64 yy, .int .i64 zz, .slice Ap nP cp]) (by simp [results, Try.results54, go_sem, y0, y1, y2, y3, y4, y5]) rfl (by rw [HD5.out]; exact ⟨Ap, cp, by rw [← hnP.out], p7.out, by have := hlp.out; have := hnP.out; simp only; omega, B7.out⟩)
        · have hne : n ≠ 0 := fun e => hc (hn0.1 e)
          have hne2 : (n == 0) = false := by simpa using hne
          have l5 : AB < w5.heap.size := blk_lt A5.out
          have l6 : w.heap.size + 1 < w5.heap.size := blk_lt R5.out
          have HD5 := Lh (HD4.out.trans (if_neg hc))
          have k0 : w5.cell? ⟨AB, 0, none⟩ = some (.int .i64 4) := (blk_cell A5.out 0).trans rfl
          have k0 : w5.cell? ⟨AB, 0, none⟩ = some (.int .i64 4) := (blk_cell A5.out 0).trans rfl
          have g0 : w5.frozen? ⟨AB, 0, none⟩ = false := blk_frozen A5.out 0
          have k1 : w5.cell? ⟨AB, 1, none⟩ = some (.int .i64 rr) := (blk_cell A5.out 1).trans rfl
          have g1 : w5.frozen? ⟨AB, 1, none⟩ = false := blk_frozen A5.out 1
          have k2 : w5.cell? ⟨AB, 2, none⟩ = some (.int .i64 xx) := (blk_cell A5.out 2).trans rfl
          have g2 : w5.frozen? ⟨AB, 2, none⟩ = false := blk_frozen A5.out 2
          have k3 : w5.cell? ⟨AB, 3, none⟩ = some (.int .i64 yy) := (blk_cell A5.out 3).trans rfl
          have g3 : w5.frozen? ⟨AB, 3, none⟩ = false := blk_frozen A5.out 3
          have k4 : w5.cell? ⟨AB, 4, none⟩ = some (.int .i64 zz) := (blk_cell A5.out 4).trans rfl
          have g4 : w5.frozen? ⟨AB, 4, none⟩ = false := blk_frozen A5.out 4
          have k5 : w5.cell? ⟨AB, 5, none⟩ = some (.slice Ap nP cp) := (blk_cell A5.out 5).trans rfl
          have g5 : w5.frozen? ⟨AB, 5, none⟩ = false := blk_frozen A5.out 5
          have T6 := blk65 (blk60 A5.out (.int .i64 3)) (.slice none 0 0)
          have R6 := (Below.heap_setCell (w5.setCell ⟨AB, 0, none⟩ (.int .i64 3)) ⟨AB, 5, none⟩ (.slice none 0 0) (w.heap.size + 1) (by have := hlA.out; simp; omega)).trans ((Below.heap_setCell w5 ⟨AB, 0, none⟩ (.int .i64 3) (w.heap.size + 1) (by have := hlA.out; simp; omega)).trans R5.out)
          have W6 := (W5.out.setCell (p := ⟨AB, 0, none⟩) (show w.heap.size ≤ AB by have := hlA.out; omega) (.int .i64 3)).setCell (p := ⟨AB, 5, none⟩) (show w.heap.size ≤ AB by have := hlA.out; omega) (.slice none 0 0)
          obtain ⟨w6, hw6⟩ : ∃ V, (w5.setCell ⟨AB, 0, none⟩ (.int .i64 3)).setCell ⟨AB, 5, none⟩ (.slice none 0 0) = V := ⟨_, rfl⟩
          rw [hw6] at T6 R6 W6
          have l7 : AB < w6.heap.size := blk_lt T6
          have l8 : w.heap.size + 1 < w6.heap.size := blk_lt R6
          have l9 : w.heap.size < w6.heap.size := by omega
          have T6 := Lh T6
          have R6 := Lh R6
          have W6 := Lh W6
          clear hn0 hc
          have d0 : w6.cell? ⟨AB, 0, none⟩ = some (.int .i64 3) := (blk_cell T6.out 0).trans rfl
          have r0 : w6.cell? ⟨w.heap.size + 1, 0, none⟩ = some (.int .i64 0) := (blk_cell R6.out 0).trans rfl
          have f0 : w6.frozen? ⟨w.heap.size + 1, 0, none⟩ = false := blk_frozen R6.out 0
          have d1 : w6.cell? ⟨AB, 1, none⟩ = some (.int .i64 rr) := (blk_cell T6.out 1).trans rfl
          have r1 : w6.cell? ⟨w.heap.size + 1, 1, none⟩ = some (.int .i64 0) := (blk_cell R6.out 1).trans rfl
          have f1 : w6.frozen? ⟨w.heap.size + 1, 1, none⟩ = false := blk_frozen R6.out 1
          have d2 : w6.cell? ⟨AB, 2, none⟩ = some (.int .i64 xx) := (blk_cell T6.out 2).trans rfl
          have r2 : w6.cell? ⟨w.heap.size + 1, 2, none⟩ = some (.int .i64 0) := (blk_cell R6.out 2).trans rfl
          have f2 : w6.frozen? ⟨w.heap.size + 1, 2, none⟩ = false := blk_frozen R6.out 2
          have d3 : w6.cell? ⟨AB, 3, none⟩ = some (.int .i64 yy) := (blk_cell T6.out 3).trans rfl
          have r3 : w6.cell? ⟨w.heap.size + 1, 3, none⟩ = some (.int .i64 0) := (blk_cell R6.out 3).trans rfl
          have f3 : w6.frozen? ⟨w.heap.size + 1, 3, none⟩ = false := blk_frozen R6.out 3
          have d4 : w6.cell? ⟨AB, 4, none⟩ = some (.int .i64 zz) := (blk_cell T6.out 4).trans rfl
          have r4 : w6.cell? ⟨w.heap.size + 1, 4, none⟩ = some (.int .i64 0) := (blk_cell R6.out 4).trans rfl
          have f4 : w6.frozen? ⟨w.heap.size + 1, 4, none⟩ = false := blk_frozen R6.out 4
          have d5 : w6.cell? ⟨AB, 5, none⟩ = some (.slice none 0 0) := (blk_cell T6.out 5).trans rfl
          have r5 : w6.cell? ⟨w.heap.size + 1, 5, none⟩ = some (.slice none 0 0) := (blk_cell R6.out 5).trans rfl
          have f5 : w6.frozen? ⟨w.heap.size + 1, 5, none⟩ = false := blk_frozen R6.out 5
          have T7 := bs6 R6.out (.int .i64 3) (.int .i64 rr) (.int .i64 xx) (.int .i64 yy) (.int .i64 zz) (.slice none 0 0)
          have B7 := bb6 W6.out (show w.heap.size ≤ w.heap.size + 1 by omega) (.int .i64 3) (.int .i64 rr) (.int .i64 xx) (.int .i64 yy) (.int .i64 zz) (.slice none 0 0)
          obtain ⟨w7, hw7⟩ : ∃ V, ((((((w6.setCell ⟨w.heap.size + 1, 0, none⟩ (.int .i64 3)).setCell ⟨w.heap.size + 1, 1, none⟩ (.int .i64 rr)).setCell ⟨w.heap.size + 1, 2, none⟩ (.int .i64 xx)).setCell ⟨w.heap.size + 1, 3, none⟩ (.int .i64 yy)).setCell ⟨w.heap.size + 1, 4, none⟩ (.int .i64 zz)).setCell ⟨w.heap.size + 1, 5, none⟩ (.slice none 0 0)) = V := ⟨_, rfl⟩
          rw [hw7] at T7 B7
          have hv7 := Lh hw7
          have T7 := Lh T7
          have B7 := Lh B7
          clear hw7
          go_wp2
          rw [hv7.out]
          have y0 : w7.cell? ⟨w.heap.size + 1, 0, none⟩ = some (.int .i64 3) := (blk_cell T7.out 0).trans rfl
          have y1 : w7.cell? ⟨w.heap.size + 1, 1, none⟩ = some (.int .i64 rr) := (blk_cell T7.out 1).trans rfl
          have y2 : w7.cell? ⟨w.heap.size + 1, 2, none⟩ = some (.int .i64 xx) := (blk_cell T7.out 2).trans rfl
          have y3 : w7.cell? ⟨w.heap.size + 1, 3, none⟩ = some (.int .i64 yy) := (blk_cell T7.out 3).trans rfl
          have y4 : w7.cell? ⟨w.heap.size + 1, 4, none⟩ = some (.int .i64 zz) := (blk_cell T7.out 4).trans rfl
          have y5 : w7.cell? ⟨w.heap.size + 1, 5, none⟩ = some (.slice none 0 0) := (blk_cell T7.out 5).trans rfl
          exact bodyPost_ret (v := .agg #[.int .i64 3, .int .i64 rr, .int .i64 xx, .int .i64 yy, .int .i64 zz, .slice none 0 0]) (by simp [results, Try.results54, go_sem, y0, y1, y2, y3, y4, y5]) rfl (by rw [HD5.out]; exact ⟨none, 0, rfl, RdB.nil _, Nat.le_refl _, B7.out⟩)
  · have h4' : (kk == 4) = false := by simpa using h4
    have HD5 := Lh (HD.out.trans (if_neg h4))
    have W2 := Lh (W0.out.trans (B2.out.mono (show w.heap.size ≤ w0.heap.size from Nat.le_of_lt (blk_lt C0.out))))
    have R2 := Lh ((B2.out.block _ (blk_lt R0.out)).trans R0.out)
    have hlB := Lh (blk_lt A2.out)
    clear h4
    have l5 : AB < w2.heap.size := hlB.out
    have l6 : w.heap.size + 1 < w2.heap.size := blk_lt R2.out
    have d0 : w2.cell? ⟨AB, 0, none⟩ = some (.int .i64 kk) := (blk_cell A2.out 0).trans rfl
    have r0 : w2.cell? ⟨w.heap.size + 1, 0, none⟩ = some (.int .i64 0) := (blk_cell R2.out 0).trans rfl
    have f0 : w2.frozen? ⟨w.heap.size + 1, 0, none⟩ = false := blk_frozen R2.out 0
    have d1 : w2.cell? ⟨AB, 1, none⟩ = some (.int .i64 rr) := (blk_cell A2.out 1).trans rfl
    have r1 : w2.cell? ⟨w.heap.size + 1, 1, none⟩ = some (.int .i64 0) := (blk_cell R2.out 1).trans rfl
    have f1 : w2.frozen? ⟨w.heap.size + 1, 1, none⟩ = false := blk_frozen R2.out 1
    have d2 : w2.cell? ⟨AB, 2, none⟩ = some (.int .i64 xx) := (blk_cell A2.out 2).trans rfl
    have r2 : w2.cell? ⟨w.heap.size + 1, 2, none⟩ = some (.int .i64 0) := (blk_cell R2.out 2).trans rfl
    have f2 : w2.frozen? ⟨w.heap.size + 1, 2, none⟩ = false := blk_frozen R2.out 2
    have d3 : w2.cell? ⟨AB, 3, none⟩ = some (.int .i64 yy) := (blk_cell A2.out 3).trans rfl
    have r3 : w2.cell? ⟨w.heap.size + 1, 3, none⟩ = some (.int .i64 0) := (blk_cell R2.out 3).trans rfl
    have f3 : w2.frozen? ⟨w.heap.size + 1, 3, none⟩ = false := blk_frozen R2.out 3
    have d4 : w2.cell? ⟨AB, 4, none⟩ = some (.int .i64 zz) := (blk_cell A2.out 4).trans rfl
    have r4 : w2.cell? ⟨w.heap.size + 1, 4, none⟩ = some (.int .i64 0) := (blk_cell R2.out 4).trans rfl
    have f4 : w2.frozen? ⟨w.heap.size + 1, 4, none⟩ = false := blk_frozen R2.out 4
    have d5 : w2.cell? ⟨AB, 5, none⟩ = some (.slice none 0 0) := (blk_cell A2.out 5).trans rfl
    have r5 : w2.cell? ⟨w.heap.size + 1, 5, none⟩ = some (.slice none 0 0) := (blk_cell R2.out 5).trans rfl
    have f5 : w2.frozen? ⟨w.heap.size + 1, 5, none⟩ = false := blk_frozen R2.out 5
    have T7 := bs6 R2.out (.int .i64 kk) (.int .i64 rr) (.int .i64 xx) (.int .i64 yy) (.int .i64 zz) (.slice none 0 0)
    have B7 := bb6 W2.out (show w.heap.size ≤ w.heap.size + 1 by omega) (.int .i64 kk) (.int .i64 rr) (.int .i64 xx) (.int .i64 yy) (.int .i64 zz) (.slice none 0 0)
    obtain ⟨w7, hw7⟩ : ∃ V, ((((((w2.setCell ⟨w.heap.size + 1, 0, none⟩ (.int .i64 kk)).setCell ⟨w.heap.size + 1, 1, none⟩ (.int .i64 rr)).setCell ⟨w.heap.size + 1, 2, none⟩ (.int .i64 xx)).setCell ⟨w.heap.size + 1, 3, none⟩ (.int .i64 yy)).setCell ⟨w.heap.size + 1, 4, none⟩ (.int .i64 zz)).setCell ⟨w.heap.size + 1, 5, none⟩ (.slice none 0 0)) = V := ⟨_, rfl⟩
    rw [hw7] at T7 B7
    have hv7 := Lh hw7
    have T7 := Lh T7
    have B7 := Lh B7
    clear hw7
    go_wp2
    rw [hv7.out]
    have y0 : w7.cell? ⟨w.heap.size + 1, 0, none⟩ = some (.int .i64 kk) := (blk_cell T7.out 0).trans rfl
    have y1 : w7.cell? ⟨w.heap.size + 1, 1, none⟩ = some (.int .i64 rr) := (blk_cell T7.out 1).trans rfl
    have y2 : w7.cell? ⟨w.heap.size + 1, 2, none⟩ = some (.int .i64 xx) := (blk_cell T7.out 2).trans rfl
    have y3 : w7.cell? ⟨w.heap.size + 1, 3, none⟩ = some (.int .i64 yy) := (blk_cell T7.out 3).trans rfl
    have y4 : w7.cell? ⟨w.heap.size + 1, 4, none⟩ = some (.int .i64 zz) := (blk_cell T7.out 4).trans rfl
    have y5 : w7.cell? ⟨w.heap.size + 1, 5, none⟩ = some (.slice none 0 0) := (blk_cell T7.out 5).trans rfl
    exact bodyPost_ret (v := .agg #[.int .i64 kk, .int .i64 rr, .int .i64 xx, .int .i64 yy, .int .i64 zz, .slice none 0 0]) (by simp [results, Try.results54, go_sem, y0, y1, y2, y3, y4, y5]) rfl (by rw [HD5.out]; exact ⟨none, 0, rfl, RdB.nil _, Nat.le_refl _, B7.out⟩)
end Go.Proofs.Ytckdhahceelckaa.G
namespace Go.Proofs.Ytckdhahceelckaa.G
open Go.RowKit Go.Proofs.YtckdhahceelckaaW.PrintWords Go.Proofs.YtckdhahceelckaaW.PrintLast Go.Proofs.YtckdhahceelckaaW.PrintMore
set_option linter.unusedVariables false
set_option linter.unusedSimpArgs false
theorem sq_le_bd {a n : Int} (hn : 0 ≤ n) (h : a * a < (n + 1) * (n + 1)) : -n ≤ a ∧ a ≤ n := by
  have key : a.natAbs < n.natAbs + 1 := by
    rcases Nat.lt_or_ge a.natAbs (n.natAbs + 1) with h1 | h1
    · exact h1
    · have h2 := Nat.mul_le_mul h1 h1
      have h3 : ((a.natAbs * a.natAbs : Nat) : Int) = a * a := Int.natAbs_mul_self
      have h4 : (((n.natAbs + 1) * (n.natAbs + 1) : Nat) : Int) = (n + 1) * (n + 1) := by
        rw [Int.natCast_mul, Int.natCast_add, Int.natAbs_of_nonneg hn]; rfl
      omega
  omega
theorem unit_one {x L : Int} (hL : 0 < L) (h1 : -L ≤ x) (h2 : x ≤ L) : -4294967296 ≤ x * 4294967296 / L ∧ x * 4294967296 / L ≤ 4294967296 := by
  constructor
  · rw [Int.le_ediv_iff_mul_le hL]; omega
  · have : x * 4294967296 / L < 4294967296 + 1 := by rw [Int.ediv_lt_iff_lt_mul hL]; omega
    omega
def q32 (q : Q4) : Prop := (-4294967296 ≤ q.w ∧ q.w ≤ 4294967296) ∧ (-4294967296 ≤ q.x ∧ q.x ≤ 4294967296) ∧ (-4294967296 ≤ q.y ∧ q.y ≤ 4294967296) ∧ (-4294967296 ≤ q.z ∧ q.z ≤ 4294967296)
theorem unitF_q32 (q : Q4) (h : 0 < lenF q) : q32 (unitF q) := by
  obtain ⟨w, x, y, z⟩ := q
  have hw := sq_nonneg w
  have hx := sq_nonneg x
  have hy := sq_nonneg y
  have hz := sq_nonneg z
  obtain ⟨h0, _, h1⟩ := rtI_spec (v := w * w + x * x + y * y + z * z) (by omega)
  have e : lenF ⟨w, x, y, z⟩ = rtI (w * w + x * x + y * y + z * z) := rfl
  rw [← e] at h0 h1
  have bw := sq_le_bd (a := w) h0 (by omega)
  have bx := sq_le_bd (a := x) h0 (by omega)
  have by_ := sq_le_bd (a := y) h0 (by omega)
  have bz := sq_le_bd (a := z) h0 (by omega)
  exact ⟨unit_one h bw.1 bw.2, unit_one h bx.1 bx.2, unit_one h by_.1 by_.2, unit_one h bz.1 bz.2⟩
theorem wholeF_q32 (q : Q4) : q32 (wholeF q) := by
  unfold wholeF
  split
  · unfold q32; simp
  · exact unitF_q32 q (by omega)
theorem mul32 {a b : Int} (ha : -4294967296 ≤ a ∧ a ≤ 4294967296) (hb : -4294967296 ≤ b ∧ b ≤ 4294967296) : -18446744073709551616 ≤ a * b ∧ a * b ≤ 18446744073709551616 := by
  have h : (a * b).natAbs ≤ 4294967296 * 4294967296 := by rw [Int.natAbs_mul]; exact Nat.mul_le_mul (by omega) (by omega)
  omega
theorem D2_32 {a b c d : Int} (ha : -4294967296 ≤ a ∧ a ≤ 4294967296) (hb : -4294967296 ≤ b ∧ b ≤ 4294967296) (hc : -4294967296 ≤ c ∧ c ≤ 4294967296) (hd : -4294967296 ≤ d ∧ d ≤ 4294967296) :
    -17179869184 ≤ D2 (a + a) (b + b) c d ∧ D2 (a + a) (b + b) c d ≤ 17179869184 := by
  have h1 := mul32 ha hc
  have h2 := mul32 hb hd
  have e : D2 (a + a) (b + b) c d = (2 * (a * c) + 2 * (b * d)) / 4294967296 := by
    unfold D2; congr 1; rw [Int.add_mul, Int.add_mul]; omega
  rw [e]; omega
theorem neg32 {a : Int} (ha : -4294967296 ≤ a ∧ a ≤ 4294967296) : -4294967296 ≤ -a ∧ -a ≤ 4294967296 := by omega
theorem rows_mOk {q : Q4} (h : q32 q) : mOk (rowsF q) := by
  obtain ⟨hw, hx, hy, hz⟩ := h
  have a1 := D2_32 hy hz hy hz
  have a2 := D2_32 hx hw hy (neg32 hz)
  have a3 := D2_32 hx hw hz hy
  have b1 := D2_32 hx hw hy hz
  have b2 := D2_32 hx hz hx hz
  have b3 := D2_32 hy hw hz (neg32 hx)
  have c1 := D2_32 hx hw hz (neg32 hy)
  have c2 := D2_32 hy hw hz hx
  have c3 := D2_32 hx hy hx hy
  refine ⟨⟨?_, ?_, ?_, ?_, ?_, ?_⟩, ⟨?_, ?_, ?_, ?_, ?_, ?_⟩, ⟨?_, ?_, ?_, ?_, ?_, ?_⟩⟩ <;> simp only [rowsF] <;> omega
theorem q32.quat {q : Q4} (h : q32 q) : quat q := by unfold q32 at h; unfold G.quat; omega
theorem partV_at (p : P3) : atOk (partV p) := by
  have a := partF_bd p.x 4398046511104 (by decide)
  have b := partF_bd p.y 4398046511104 (by decide)
  have c := partF_bd p.z 4398046511104 (by decide)
  unfold atOk in3 partV; simp only; omega
/-- the core of a shape -/
def CoreIs (s : Shp) (p a e : List P3) : Prop :=
  (s.kind = 1 ∧ p = [⟨0, 0, 0⟩] ∧ a = [] ∧ e = []) ∨ (s.kind = 2 ∧ p = [⟨-s.half.x, 0, 0⟩, ⟨s.half.x, 0, 0⟩] ∧ a = [] ∧ e = [⟨1, 0, 0⟩]) ∨
  (s.kind = 3 ∧ p = corners s.half ∧ a = [⟨1, 0, 0⟩, ⟨0, 1, 0⟩, ⟨0, 0, 1⟩] ∧ e = [⟨1, 0, 0⟩, ⟨0, 1, 0⟩, ⟨0, 0, 1⟩]) ∨ (s.kind = 4 ∧ p = s.pts ∧ HullOk s.pts a e)
def CorePostS (s : Shp) (w : World) (en : Ending) (w' : World) : Prop := ∃ p a e, CoreIs s p a e ∧ CorePost p a e s.radius w en w'
theorem core_calls (s : Shp) (A : Option Addr) (c : Nat) (hok : ShpOk s) (w : World) (hA : RdB w A s.pts) :
    Calls Try.prog 53 #[.agg (cS s.kind s.radius s.half A s.pts.length c)] w (CorePostS s w) := by
  obtain ⟨k, r, h, l⟩ := s
  obtain ⟨hk, r0, r1, hh, hl, hp, hc⟩ := hok
  simp only at hk r0 r1 hh hl hp hc hA ⊢
  rcases hk with rfl | rfl | rfl | rfl
  · exact (core_1 r h A _ c r0 r1 hh w).mono fun en w' hq => ⟨_, _, _, .inl ⟨rfl, rfl, rfl, rfl⟩, hq⟩
  · exact (core_2 r h A _ c r0 r1 hh w).mono fun en w' hq => ⟨_, _, _, .inr (.inl ⟨rfl, rfl, rfl, rfl⟩), hq⟩
  · exact (core_3 r h A _ c r0 r1 hh w).mono fun en w' hq => ⟨_, _, _, .inr (.inr (.inl ⟨rfl, rfl, rfl, rfl⟩)), hq⟩
  · exact (core_4 r h l A c (by omega) r1 hl hp (hc rfl) w hA).mono fun en w' ⟨axes, edges, hq, hq2⟩ => ⟨_, _, _, .inr (.inr (.inr ⟨rfl, rfl, hq⟩)), hq2⟩
end Go.Proofs.Ytckdhahceelckaa.G
namespace Go.Proofs.Ytckdhahceelckaa.G
open Go.RowKit
set_option linter.unusedVariables false
set_option linter.unusedSimpArgs false
theorem minus3_eq (p q : P3) (hp : in3 1073741824 p) (hq : in3 1073741824 q) : minus3 p q = ⟨p.x - q.x, p.y - q.y, p.z - q.z⟩ := by
  unfold in3 at hp hq
  unfold minus3
  rw [w64_id _ (by omega) (by omega), w64_id _ (by omega) (by omega), w64_id _ (by omega) (by omega)]
theorem rawC_balls (p q : P3) : rawC [p] [] [] [q] [] [] = [short3 (minus3 q p)] := by
  unfold rawC edgeW pointW roundW
  rw [if_neg (by simp [YtckdhahceelckaaW.PrintWords.mn])]; rfl
end Go.Proofs.Ytckdhahceelckaa.G
namespace Go.Proofs.Ytckdhahceelckaa.G
open Go.RowKit Go.Proofs.YtckdhahceelckaaW.PrintWords Go.Proofs.YtckdhahceelckaaW.PrintLast Go.Proofs.YtckdhahceelckaaW.PrintMore
set_option linter.unusedVariables false
set_option linter.unusedSimpArgs false
theorem fold_bd (n a : P3) (l : List P3) : ∀ (s : Int × Int), (l.foldl (sdStep n a) s).1 ≤ s.1 ∧ s.2 ≤ (l.foldl (sdStep n a) s).2 ∧ ∀ o ∈ l, (l.foldl (sdStep n a) s).1 ≤ dot3 n (minus3 o a) ∧ dot3 n (minus3 o a) ≤ (l.foldl (sdStep n a) s).2 := by
  induction l with
  | nil => intro s; simp
  | cons p l ih =>
    intro s
    obtain ⟨h1, h2, h3⟩ := ih (sdStep n a s p)
    have m1 : (sdStep n a s p).1 ≤ s.1 ∧ (sdStep n a s p).1 ≤ dot3 n (minus3 p a) := by unfold sdStep mn; simp only; split <;> omega
    have m2 : s.2 ≤ (sdStep n a s p).2 ∧ dot3 n (minus3 p a) ≤ (sdStep n a s p).2 := by unfold sdStep mx; simp only; split <;> omega
    simp only [List.foldl_cons]
    refine ⟨by omega, by omega, fun o ho => ?_⟩
    rcases List.mem_cons.1 ho with rfl | ho
    · exact ⟨by omega, by omega⟩
    · exact h3 o ho
theorem side_spec {l : List P3} {n a : P3} (h : sideF l n a ≠ 0) : (sideF l n a = 1 ∨ sideF l n a = -1) ∧ ∀ o ∈ l, sideF l n a * dot3 n (minus3 o a) ≤ 0 := by
  obtain ⟨h1, h2, h3⟩ := fold_bd n a l (0, 0)
  unfold sideF sideV at *
  unfold sdF at *
  split
  · rename_i h4
    exact ⟨.inl rfl, fun o ho => by have := h3 o ho; omega⟩
  · rename_i h4
    rw [if_neg h4] at h
    split
    · exact ⟨.inr rfl, fun o ho => by have := h3 o ho; omega⟩
    · rename_i h5
      rw [if_neg h5] at h
      exact absurd rfl h
theorem sub_in {p q : P3} (hp : in3 65536 p) (hq : in3 65536 q) : minus3 p q = subI p q ∧ in3 (131072 : Nat) (subI p q) := by
  refine ⟨minus3_eq p q (in3_le (by decide) hp) (in3_le (by decide) hq), ?_⟩
  unfold in3 subI at *; simp only; omega
theorem nrm_at {a b c : P3} (ha : in3 65536 a) (hb : in3 65536 b) (hc : in3 65536 c) : nrm3 a b c = crossI (subI b a) (subI c a) ∧ in3 (34359738368 : Nat) (crossI (subI b a) (subI c a)) := by
  obtain ⟨e1, i1⟩ := sub_in hb ha
  obtain ⟨e2, i2⟩ := sub_in hc ha
  have h := cross3_eq _ _ 131072 131072 i1 i2 (by decide)
  unfold nrm3
  rw [e1, e2]
  exact h
theorem dot_in {n : P3} {o a : P3} (hn : in3 (34359738368 : Nat) n) (ho : in3 65536 o) (ha : in3 65536 a) : dot3 n (minus3 o a) = dotI n (subI o a) := by
  obtain ⟨e1, i1⟩ := sub_in ho ha
  rw [e1]
  exact dot3_eq _ _ 34359738368 131072 hn i1 (by decide)
theorem dot_sub (n o a b : P3) (h1 : dotI n (subI o a) = 0) (h2 : dotI n (subI b a) = 0) : dotI n (subI o b) = 0 := by
  unfold dotI subI at *; grind
theorem flat_of {l : List P3} (hin : ∀ p ∈ l, in3 65536 p) {n a : P3} (hn : n ≠ ⟨0, 0, 0⟩) (h : ∀ o ∈ l, dotI n (subI o a) = 0) : FlatP l := by
  intro i k hk m hm o x y z v hx hy hz hv
  have mx_ := List.mem_of_getElem? hx
  have my_ := List.mem_of_getElem? hy
  have mz_ := List.mem_of_getElem? hz
  have mv_ := List.mem_of_getElem? hv
  obtain ⟨e, i1⟩ := nrm_at (hin _ mz_) (hin _ my_) (hin _ mx_)
  rw [e, dot_in i1 (hin _ mv_) (hin _ mz_)]
  exact det_plane n _ _ _ hn (dot_sub n _ a _ (h _ my_) (h _ mz_)) (dot_sub n _ a _ (h _ mx_) (h _ mz_)) (dot_sub n _ a _ (h _ mv_) (h _ mz_))
theorem dot_neg (a b : P3) : dotI a (negI b) = -dotI a b := by unfold dotI negI; grind
theorem cross_neg (a b : P3) : crossI a (negI b) = negI (crossI a b) := by unfold crossI negI; simp only [P3.mk.injEq]; refine ⟨?_, ?_, ?_⟩ <;> grind
theorem dot_of_par {a b v : P3} {x y : Int} (h1 : x * a.x = y * b.x) (h2 : x * a.y = y * b.y) (h3 : x * a.z = y * b.z) : x * dotI a v = y * dotI b v := by unfold dotI; grind
theorem sgn_ne {s : Int} (hs : s = 1 ∨ s = -1) {n : P3} (h : n ≠ ⟨0, 0, 0⟩) : (⟨s * n.x, s * n.y, s * n.z⟩ : P3) ≠ ⟨0, 0, 0⟩ := by
  intro e
  simp only [P3.mk.injEq] at e
  apply h
  obtain ⟨x, y, z⟩ := n
  simp only at e
  simp only [P3.mk.injEq]
  rcases hs with rfl | rfl <;> omega
theorem sgn_in {s : Int} (hs : s = 1 ∨ s = -1) {n : P3} (h : in3 (34359738368 : Nat) n) : in3 4398046511104 (⟨s * n.x, s * n.y, s * n.z⟩ : P3) := by
  unfold in3 at *
  simp only
  rcases hs with rfl | rfl <;> omega
/-- on one side of a line there is one axis -/
theorem ax_one {l : List P3} (hin : ∀ p ∈ l, in3 65536 p) (hf : ¬ FlatP l) {i j k1 k2 : Nat} {pa pb p1 p2 : P3} (ha : l[i]? = some pa) (hb : l[j]? = some pb) (h1 : l[k1]? = some p1) (h2 : l[k2]? = some p2)
    (n1 : nrm3 pa pb p1 ≠ ⟨0, 0, 0⟩) (n2 : nrm3 pa pb p2 ≠ ⟨0, 0, 0⟩) (s1 : sideF l (nrm3 pa pb p1) pa ≠ 0) (s2 : sideF l (nrm3 pa pb p2) pa = sideF l (nrm3 pa pb p1) pa) :
    axisF (sideF l (nrm3 pa pb p1) pa) (nrm3 pa pb p1) = axisF (sideF l (nrm3 pa pb p2) pa) (nrm3 pa pb p2) := by
  have ma := hin _ (List.mem_of_getElem? ha)
  have mb := hin _ (List.mem_of_getElem? hb)
  have m1 := hin _ (List.mem_of_getElem? h1)
  have m2 := hin _ (List.mem_of_getElem? h2)
  obtain ⟨e1, i1⟩ := nrm_at ma mb m1
  obtain ⟨e2, i2⟩ := nrm_at ma mb m2
  obtain ⟨sg, sd1⟩ := side_spec s1
  obtain ⟨_, sd2⟩ := side_spec (show sideF l (nrm3 pa pb p2) pa ≠ 0 by rw [s2]; exact s1)
  rw [s2] at sd2 ⊢
  obtain ⟨s, hs⟩ : ∃ s, sideF l (nrm3 pa pb p1) pa = s := ⟨_, rfl⟩
  rw [hs] at sg sd1 sd2 ⊢
  clear hs s1 s2
  rw [e1] at n1 sd1 ⊢
  rw [e2] at n2 sd2 ⊢
  have d1 : ∀ o ∈ l, s * dotI (crossI (subI pb pa) (subI p1 pa)) (subI o pa) ≤ 0 := fun o ho => by have := sd1 o ho; rwa [dot_in i1 (hin _ ho) ma] at this
  have d2 : ∀ o ∈ l, s * dotI (crossI (subI pb pa) (subI p2 pa)) (subI o pa) ≤ 0 := fun o ho => by have := sd2 o ho; rwa [dot_in i2 (hin _ ho) ma] at this
  have q1 := d1 _ (List.mem_of_getElem? h2)
  have q2 := d2 _ (List.mem_of_getElem? h1)
  have q3 : dotI (crossI (subI pb pa) (subI p1 pa)) (subI p2 pa) = detI (subI pb pa) (subI p1 pa) (subI p2 pa) := rfl
  have q4 : dotI (crossI (subI pb pa) (subI p2 pa)) (subI p1 pa) = -detI (subI pb pa) (subI p1 pa) (subI p2 pa) := det_swap _ _ _
  rw [q3] at q1
  rw [q4] at q2
  have D0 : detI (subI pb pa) (subI p1 pa) (subI p2 pa) = 0 := by rcases sg with rfl | rfl <;> omega
  have cc := cross_cross (subI pb pa) (subI p1 pa) (subI p2 pa)
  rw [D0] at cc
  simp only [Int.zero_mul] at cc
  obtain ⟨N1, hN1⟩ : ∃ N, crossI (subI pb pa) (subI p1 pa) = N := ⟨_, rfl⟩
  obtain ⟨N2, hN2⟩ : ∃ N, crossI (subI pb pa) (subI p2 pa) = N := ⟨_, rfl⟩
  rw [hN1] at n1 d1 cc i1 ⊢
  rw [hN2] at n2 d2 cc i2 ⊢
  have hne := dot_par_ne N1 N2 n1 n2 cc
  rcases Int.lt_trichotomy (dotI N1 N2) 0 with hd | hd | hd
  · exfalso
    obtain ⟨x, y, hx, hy, c1, c2, c3⟩ := par_of_cross N1 (negI N2) n1 (by rw [cross_neg, cc]; rfl) (by rw [dot_neg]; omega)
    refine hf (flat_of hin n1 (fun o ho => ?_) (a := pa))
    have f := dot_of_par (v := subI o pa) c1 c2 c3
    have g : dotI (negI N2) (subI o pa) = -dotI N2 (subI o pa) := by unfold dotI negI; grind
    rw [g] at f
    have r1 := d1 o ho
    have r2 := d2 o ho
    have hz : s * dotI N1 (subI o pa) = 0 := by
      have t : y * (s * dotI N1 (subI o pa)) = x * (-(s * dotI N2 (subI o pa))) := by grind
      have t1 : 0 ≤ x * (-(s * dotI N2 (subI o pa))) := Int.mul_nonneg (Int.le_of_lt hx) (by omega)
      rcases Int.lt_trichotomy (s * dotI N1 (subI o pa)) 0 with h | h | h
      · have := Int.mul_neg_of_pos_of_neg hy h; omega
      · exact h
      · omega
    rcases sg with rfl | rfl <;> omega
  · exact absurd hd hne
  · obtain ⟨x, y, hx, hy, c1, c2, c3⟩ := par_of_cross N1 N2 n1 cc hd
    unfold axisF
    refine (short3_par_eq _ _ (sgn_in sg i2) (sgn_in sg i1) (sgn_ne sg n2) (sgn_ne sg n1) ⟨x, y, hx, hy, ?_, ?_, ?_⟩).symm <;> simp only <;> grind
instance : DecidableEq P3 := fun a b => by
  cases a; cases b
  simp only [P3.mk.injEq]
  exact inferInstance
def AxS (l : List P3) (i j : Nat) (s : Int) (a : P3) : Prop := ∃ (k : Nat) (pa pb pc : P3), l[i]? = some pa ∧ l[j]? = some pb ∧ l[k]? = some pc ∧ nrm3 pa pb pc ≠ ⟨0, 0, 0⟩ ∧ sideF l (nrm3 pa pb pc) pa ≠ 0 ∧ sideF l (nrm3 pa pb pc) pa = s ∧ a = axisF (sideF l (nrm3 pa pb pc) pa) (nrm3 pa pb pc)
theorem AxS.one {l : List P3} (hin : ∀ p ∈ l, in3 65536 p) (hf : ¬ FlatP l) {i j : Nat} {s : Int} {a b : P3} (h : AxS l i j s a) (h' : AxS l i j s b) : a = b := by
  obtain ⟨k, pa, pb, pc, h1, h2, h3, h4, h5, h6, h7⟩ := h
  obtain ⟨k', pa', pb', pc', g1, g2, g3, g4, g5, g6, g7⟩ := h'
  rw [h1] at g1; rw [h2] at g2
  cases g1; cases g2
  rw [h7, g7]
  exact ax_one hin hf h1 h2 h3 g3 h4 g4 h5 (by rw [g6, h6])
open Classical in
noncomputable def axPick (l : List P3) (i j : Nat) (s : Int) : P3 := if h : ∃ a, AxS l i j s a then Classical.choose h else ⟨0, 0, 0⟩
theorem axPick_eq {l : List P3} (hin : ∀ p ∈ l, in3 65536 p) (hf : ¬ FlatP l) {i j : Nat} {s : Int} {a : P3} (h : AxS l i j s a) : axPick l i j s = a := by
  have e : ∃ a, AxS l i j s a := ⟨a, h⟩
  unfold axPick
  rw [dif_pos e]
  exact AxS.one hin hf (Classical.choose_spec e) h
noncomputable def axAll (l : List P3) : List P3 := (List.range 11).flatMap fun j => (List.range j).flatMap fun i => [axPick l i j 1, axPick l i j (-1)]
theorem flat_len {α β : Type} (f : α → List β) (n : Nat) : ∀ (l : List α), (∀ x ∈ l, (f x).length = n) → (l.flatMap f).length = l.length * n
  | [], _ => by simp
  | x :: l, h => by
    rw [List.flatMap_cons, List.length_append, h x (by simp), flat_len f n l (fun y hy => h y (by simp [hy])), List.length_cons, Nat.add_mul]; omega
theorem axAll_len (l : List P3) : (axAll l).length = 110 := by
  have e : ∀ j, ((List.range j).flatMap fun i => [axPick l i j 1, axPick l i j (-1)]).length = j * 2 := fun j => by rw [flat_len _ 2 _ (fun _ _ => rfl), List.length_range]
  unfold axAll
  rw [List.length_flatMap]
  simp only [e]
  decide
theorem ax_len {l axes : List P3} (hin : ∀ p ∈ l, in3 65536 p) (hf : ¬ FlatP l) (hl : l.length ≤ 12) (hn : axes.Nodup) (h : ∀ a ∈ axes, AxP l a) : axes.length ≤ 110 := by
  rw [← axAll_len l]
  refine nodup_sub_length _ _ hn (fun a ha => ?_)
  obtain ⟨i, j, k, hij, hjk, hat⟩ := h a ha
  have hk := hat.lt.2.2
  obtain ⟨pa, pb, pc, h1, h2, h3, h4, h5, h6⟩ := hat
  have sg := (side_spec h5).1
  have e := axPick_eq hin hf (show AxS l i j (sideF l (nrm3 pa pb pc) pa) a from ⟨k, pa, pb, pc, h1, h2, h3, h4, h5, rfl, h6⟩)
  unfold axAll
  simp only [List.mem_flatMap, List.mem_range]
  refine ⟨j, by omega, i, hij, ?_⟩
  rcases sg with sg | sg <;> rw [sg] at e <;> rw [e] <;> simp
def edAll (l : List P3) : List P3 := (List.range 12).flatMap fun j => (List.range j).map fun i => short3 (minus3 (l.getD j ⟨0, 0, 0⟩) (l.getD i ⟨0, 0, 0⟩))
theorem edAll_len (l : List P3) : (edAll l).length = 66 := by
  unfold edAll
  rw [List.length_flatMap]
  simp only [List.length_map, List.length_range]
  decide
theorem ed_len {l edges : List P3} (hl : l.length ≤ 12) (hn : edges.Nodup) (h : ∀ a ∈ edges, EdP l a) : edges.length ≤ 66 := by
  rw [← edAll_len l]
  refine nodup_sub_length _ _ hn (fun a ha => ?_)
  obtain ⟨i, j, hij, pa, pb, h1, h2, e⟩ := h a ha
  have hj := (List.getElem?_eq_some_iff.1 h2).1
  unfold edAll
  simp only [List.mem_flatMap, List.mem_range, List.mem_map]
  refine ⟨j, by omega, i, hij, ?_⟩
  rw [e, List.getD_eq_getElem?_getD, List.getD_eq_getElem?_getD, h1, h2]; rfl
/-- what a core of a right shape may hold -/
structure CoreB (p a e : List P3) : Prop where
  p0 : 0 < p.length
  p1 : p.length ≤ 12
  a1 : a.length ≤ 110
  e1 : e.length ≤ 66
  pin : ∀ x ∈ p, in3 65536 x
  ain : ∀ x ∈ a, in3 1048576 x
  ein : ∀ x ∈ e, in3 1048576 x
theorem corner_in {h : P3} (hh : halfOk h) {x : P3} (hx : x ∈ corners h) : in3 65536 x := by
  unfold corners at hx
  obtain ⟨k, hk, rfl⟩ := List.mem_map.1 hx
  have hk8 := List.mem_range.1 hk
  obtain ⟨h1, h2, h3, h4, h5, h6⟩ := hh
  have a := sg_in ((k / 4 : Nat) : Int) h.x (by omega) h1 h2
  have b := sg_in ((k / 2 % 2 : Nat) : Int) h.y (by omega) h3 h4
  have c := sg_in ((k % 2 : Nat) : Int) h.z (by omega) h5 h6
  exact ⟨a.1, a.2, b.1, b.2, c.1, c.2⟩
theorem CoreIs.bounds {s : Shp} (hs : ShpOk s) {p a e : List P3} (h : CoreIs s p a e) : CoreB p a e := by
  have hh := hs.half
  have one : ∀ x ∈ [(⟨1, 0, 0⟩ : P3), ⟨0, 1, 0⟩, ⟨0, 0, 1⟩], in3 1048576 x := by
    intro x hx
    simp only [List.mem_cons, List.not_mem_nil, or_false] at hx
    rcases hx with rfl | rfl | rfl <;> unfold in3 <;> decide
  rcases h with ⟨_, rfl, rfl, rfl⟩ | ⟨_, rfl, rfl, rfl⟩ | ⟨_, rfl, rfl, rfl⟩ | ⟨hk, rfl, ho⟩
  · exact ⟨by simp, by simp, by simp, by simp, by intro x hx; simp only [List.mem_cons, List.not_mem_nil, or_false] at hx; subst hx; unfold in3; decide, by simp, by simp⟩
  · obtain ⟨h1, h2, _⟩ := hh
    refine ⟨by simp, by simp, by simp, by simp, ?_, by simp, ?_⟩
    · intro x hx
      simp only [List.mem_cons, List.not_mem_nil, or_false] at hx
      rcases hx with rfl | rfl <;> unfold in3 <;> simp only <;> omega
    · intro x hx; simp only [List.mem_cons, List.not_mem_nil, or_false] at hx; subst hx; unfold in3; decide
  · exact ⟨by simp [corners], by simp [corners], by simp, by simp, fun x hx => corner_in hh hx, one, one⟩
  · have hc := hs.hull hk
    have hlen : 0 < s.pts.length := by
      rcases Nat.eq_zero_or_pos s.pts.length with h0 | h0
      · refine absurd ?_ hc.2
        intro i k hk m hm o x y z v hx
        rw [List.getElem?_eq_none (by omega)] at hx; cases hx
      · exact h0
    refine ⟨hlen, hs.len, ax_len hs.pts hc.2 hs.len ho.axn ho.ax, ed_len hs.len ho.edn ho.ed, hs.pts, fun x hx => ?_, fun x hx => ?_⟩
    · obtain ⟨i, j, k, _, _, pa, pb, pc, _, _, _, _, _, e⟩ := ho.ax x hx
      rw [e]; exact short3_in _
    · obtain ⟨i, j, _, pa, pb, _, _, e⟩ := ho.ed x hx
      rw [e]; exact short3_in _
end Go.Proofs.Ytckdhahceelckaa.G
namespace Go.Proofs.Ytckdhahceelckaa.G
open Go.RowKit Go.Proofs.YtckdhahceelckaaW.PrintWords Go.Proofs.YtckdhahceelckaaW.PrintLast Go.Proofs.YtckdhahceelckaaW.PrintMore
attribute [local go_sem] max2_mx min2_mn max_two min_two max_three min_three max_four min_four
attribute [local go_sem high] eqA23
set_option linter.unusedVariables false
set_option linter.unusedSimpArgs false
/-- a raw shape's numbers are Go's -/
structure RawOk (k r : Int) (h : P3) (l : List P3) : Prop where
  k : i64 k
  r : i64 r
  h : pI64 h
  len : l.length ≤ 4611686018427387904
  pts : ∀ p ∈ l, pI64 p
theorem RdB.setS {w : World} {A : Option Addr} {l : List P3} (h : RdB w A l) {g : Nat} {A0 A1 A2 : Option Addr} {n0 n1 n2 m0 m1 m2 : Nat} {x : Value} {t : TypeId} (hg : w.heap[g]? = some (.cells #[.slice A0 n0 m0, .slice A1 n1 m1, .slice A2 n2 m2, x] t (0, 0))) (u0 u1 u2 u3 : Value) :
    RdB ((((w.setCell ⟨g, 0, none⟩ u0).setCell ⟨g, 1, none⟩ u1).setCell ⟨g, 2, none⟩ u2).setCell ⟨g, 3, none⟩ u3) A l := by
  cases l with
  | nil => exact ⟨Rd.nil _ _, fun ad e => by simpa using h.2 ad e⟩
  | cons p l =>
    have ne : ∀ ad, A = some ad → ad.block ≠ g := by
      intro ad e hb
      obtain ⟨b, o, e', _, e0, e1, e2⟩ := h.1 0 p rfl
      rw [e'] at e
      cases e
      simp only at hb
      subst hb
      have q0 := (blk_cell hg (o + 0 * 3)).symm.trans e0
      have q1 := (blk_cell hg (o + 0 * 3 + 1)).symm.trans e1
      match o with
      | 0 => simp at q0
      | 1 => simp at q0
      | 2 => simp at q0
      | 3 => simp at q1
      | o + 4 => simp at q1
    exact (((h.setc ne 0 u0).setc ne 1 u1).setc ne 2 u2).setc ne 3 u3
/-- a core whose lists lie from b on -/
structure CoreVF (b : Nat) (w : World) (v : Value) (p a e : List P3) (r : Int) : Prop where
  c : CoreV w v p a e r
  fr : Fresh b v
theorem CoreVF.below {b : Nat} {w w1 : World} {v : Value} {p a e : List P3} {r : Int} (h : CoreVF b w v p a e r) (hb : Below w.heap.size w w1) : CoreVF b w1 v p a e r := ⟨h.c.below hb, h.fr⟩
def PlacePostB (b : Nat) (p a e : List P3) (r : Int) (w : World) (en : Ending) (w' : World) : Prop := ∃ v, en = .returned (.tuple #[v, .bool true]) ∧ CoreVF b w' v p a e r ∧ Below w.heap.size w w'
theorem PlacePostF.toB {b b' : Nat} {p a e : List P3} {r : Int} {w : World} {en : Ending} {w' : World} (h : PlacePostF b p a e r w en w') (hb : b' ≤ b) : PlacePostB b' p a e r w en w' := by
  obtain ⟨v, e1, e2, e3, e4⟩ := h
  exact ⟨v, e1, ⟨e2, e4.mono hb⟩, e3⟩
def PlacedPostF (b : Nat) (s : Shp) (q : P7) (w : World) (en : Ending) (w' : World) : Prop := ∃ v p a e, en = .returned v ∧ CoreIs s p a e ∧ CoreV w' v (p.map (placePt (rowsF q.turn) q.at_)) (waysF (rowsF q.turn) a) (waysF (rowsF q.turn) e) s.radius ∧ Below w.heap.size w w' ∧ Fresh b v
set_option maxHeartbeats 8000000 in
set_option maxRecDepth 100000 in
theorem placed_calls2 (k r : Int) (h : P3) (l : List P3) (A : Option Addr) (c : Nat) (p7 : P7) (w : World) (hA : RdB w A l) (hr : RawOk k r h l) (hp : i64s p7) :
    Calls Try.prog 52 #[.agg (cS k r h A l.length c), .agg (cP7 p7)] w (PlacedPostF w.heap.size (rightS k r h l) (rightPose p7) w) := by
  have HR5 := Lh (fun (W : World) (hW : RdB W A l) => right5_calls k r h l A c W hW hr.len hr.k hr.r hr.h hr.pts)
  have HR6 := Lh (fun (W : World) => right6_calls p7 W hp)
  have HQ : Hid (q32 (rightPose p7).turn ∧ atOk (rightPose p7).at_) := Lh (by simp only [rightPose]; exact ⟨wholeF_q32 (partQ p7.turn), partV_at p7.at_⟩)
  have HS := Lh (rightS_ok k r h l)
  have HAA := Lh hA
  obtain ⟨s, hs⟩ : ∃ s, rightS k r h l = s := ⟨_, rfl⟩
  obtain ⟨q, hq⟩ : ∃ q, rightPose p7 = q := ⟨_, rfl⟩
  rw [hq] at HQ
  rw [hs] at HR5 HS ⊢
  rw [hq] at HR6 ⊢
  obtain ⟨N, hN⟩ : ∃ N, l.length = N := ⟨_, rfl⟩
  rw [hN] at HR5 ⊢
  clear hs hq hN hA hr hp
  obtain ⟨⟨ax, ay, az⟩, ⟨tw, tx, ty, tz⟩⟩ := p7
  (try simp only at HR6)
  go_enter Try.func52, Try.ntmps52
  go_wp2_with fail
  obtain ⟨w0, hw0⟩ : ∃ w0, ((w.alloc (.cells (cS k r h A N c) 26)).alloc (.cells #[.int .i64 ax, .int .i64 ay, .int .i64 az, .int .i64 tw, .int .i64 tx, .int .i64 ty, .int .i64 tz] 31)).alloc (.cells #[.slice none 0 0, .slice none 0 0, .slice none 0 0, .int .i64 0] 36) = w0 := ⟨_, rfl⟩
  have P0 : Hid (w0.heap[w.heap.size + 1]? = some (.cells #[.int .i64 ax, .int .i64 ay, .int .i64 az, .int .i64 tw, .int .i64 tx, .int .i64 ty, .int .i64 tz] 31 (0, 0))) := Lh (by rw [← hw0]; exact three1 _ _ _ _)
  have R0 : Hid (w0.heap[w.heap.size + 1 + 1]? = some (.cells #[.slice none 0 0, .slice none 0 0, .slice none 0 0, .int .i64 0] 36 (0, 0))) := Lh (by rw [← hw0]; exact three2 _ _ _ _)
  have W0 := Lh (show Below w.heap.size w w0 by rw [← hw0]; exact (((Below.refl _ w).alloc (Nat.le_refl _) _).alloc (by simp) _).alloc (by simp; omega) _)
  rw [hw0]
  clear hw0
  refine (HR5.out w0 (HAA.out.below W0.out)).mono ?_
  rintro e w1 ⟨A5, c5, rfl, hrd, hc5, hb⟩
  have P1 := Lh ((hb.block _ (blk_lt P0.out)).trans P0.out)
  have R1 := Lh ((hb.block _ (blk_lt R0.out)).trans R0.out)
  have W1 := Lh (bthen W0.out hb)
  have HC := Lh (core_calls s A5 c5 HS.out w1 hrd)
  clear hb hrd hc5 W0 P0 R0
  go_wp2_with fail
  refine HC.out.mono ?_
  rintro e w2 ⟨p, a, e, hci, v, rfl, hv, hb⟩
  obtain ⟨A0, A1, A2, c0, c1, c2, rfl, g0, g1, g2, k0, k1, k2⟩ := hv.out
  have HCI := Lh hci
  have hB := hci.bounds HS.out
  have P2 := Lh ((hb.block _ (blk_lt P1.out)).trans P1.out)
  have R2 := Lh ((hb.block _ (blk_lt R1.out)).trans R1.out)
  have W2 := Lh (bthen W1.out hb)
  have HPL := Lh (fun (W : World) (hW0 : RdB W A0 p) (hW1 : RdB W A1 a) (hW2 : RdB W A2 e) (hsz : w.heap.size ≤ W.heap.size) => (place_in2 q p a e s.radius A0 A1 A2 c0 c1 c2 W hW0 hW1 hW2 k0 k1 k2 HQ.out.1.quat (rowsF q.turn) rfl (rows_mOk HQ.out.1) HQ.out.2 hB.p0 (by have := hB.p1; omega) (by have := hB.a1; omega) (by have := hB.e1; omega) hB.pin hB.ain hB.ein).mono (fun en w' h => h.toB hsz))
  obtain ⟨NP, hNP⟩ : ∃ n, p.length = n := ⟨_, rfl⟩
  obtain ⟨NA, hNA⟩ : ∃ n, a.length = n := ⟨_, rfl⟩
  obtain ⟨NE, hNE⟩ : ∃ n, e.length = n := ⟨_, rfl⟩
  rw [hNP, hNA, hNE] at HPL ⊢
  obtain ⟨ra, hra⟩ : ∃ n, s.radius = n := ⟨_, rfl⟩
  rw [hra] at HPL ⊢
  have HRA := Lh hra
  obtain ⟨LP, hLP⟩ : ∃ L, p.map (placePt (rowsF q.turn) q.at_) = L := ⟨_, rfl⟩
  obtain ⟨LA, hLA⟩ : ∃ L, waysF (rowsF q.turn) a = L := ⟨_, rfl⟩
  obtain ⟨LE, hLE⟩ : ∃ L, waysF (rowsF q.turn) e = L := ⟨_, rfl⟩
  rw [hLP, hLA, hLE] at HPL
  have HLP := Lh hLP
  have HLA := Lh hLA
  have HLE := Lh hLE
  have G0 := Lh g0
  have G1 := Lh g1
  have G2 := Lh g2
  clear hNP hNA hNE hra hLP hLA hLE g0 g1 g2 k0 k1 k2 hB hci hv hb P1 R1 W1 HC HR5 HQ
  obtain ⟨CB, hCB⟩ : ∃ g, w2.heap.size = g := ⟨_, rfl⟩
  have zc := heap_alloc_new w2 (.cells #[.slice A0 NP c0, .slice A1 NA c1, .slice A2 NE c2, .int .i64 ra] 36)
  have bc := (Below.refl w2.heap.size w2).alloc (Nat.le_refl _) (.cells #[.slice A0 NP c0, .slice A1 NA c1, .slice A2 NE c2, .int .i64 ra] 36)
  obtain ⟨w3, hw3⟩ : ∃ V, w2.alloc (.cells #[.slice A0 NP c0, .slice A1 NA c1, .slice A2 NE c2, .int .i64 ra] 36) = V := ⟨_, rfl⟩
  rw [hw3] at zc bc
  rw [hCB] at zc
  have C3 := Lh zc
  have P3_ := Lh ((bc.block _ (blk_lt P2.out)).trans P2.out)
  have R3 := Lh ((bc.block _ (blk_lt R2.out)).trans R2.out)
  have W3 := Lh (bthen W2.out bc)
  have G0 := Lh (G0.out.below bc)
  have G1 := Lh (G1.out.below bc)
  have G2 := Lh (G2.out.below bc)
  have hw3' := Lh hw3
  have hCB' := Lh hCB
  clear zc bc hw3 hCB P2 R2 W2
  go_wp2_with fail
  rw [hw3'.out, hCB'.out]
  clear hw3' hCB'
  have lC : CB < w3.heap.size := blk_lt C3.out
  have lP : w.heap.size + 1 < w3.heap.size := blk_lt P3_.out
  have x0 : w3.cell? ⟨CB, 0, none⟩ = some (.slice A0 NP c0) := (blk_cell C3.out 0).trans rfl
  have x1 : w3.cell? ⟨CB, 1, none⟩ = some (.slice A1 NA c1) := (blk_cell C3.out 1).trans rfl
  have x2 : w3.cell? ⟨CB, 2, none⟩ = some (.slice A2 NE c2) := (blk_cell C3.out 2).trans rfl
  have x3 : w3.cell? ⟨CB, 3, none⟩ = some (.int .i64 ra) := (blk_cell C3.out 3).trans rfl
  have y0 : w3.cell? ⟨w.heap.size + 1, 0, none⟩ = some (.int .i64 ax) := (blk_cell P3_.out 0).trans rfl
  have y1 : w3.cell? ⟨w.heap.size + 1, 1, none⟩ = some (.int .i64 ay) := (blk_cell P3_.out 1).trans rfl
  have y2 : w3.cell? ⟨w.heap.size + 1, 2, none⟩ = some (.int .i64 az) := (blk_cell P3_.out 2).trans rfl
  have y3 : w3.cell? ⟨w.heap.size + 1, 3, none⟩ = some (.int .i64 tw) := (blk_cell P3_.out 3).trans rfl
  have y4 : w3.cell? ⟨w.heap.size + 1, 4, none⟩ = some (.int .i64 tx) := (blk_cell P3_.out 4).trans rfl
  have y5 : w3.cell? ⟨w.heap.size + 1, 5, none⟩ = some (.int .i64 ty) := (blk_cell P3_.out 5).trans rfl
  have y6 : w3.cell? ⟨w.heap.size + 1, 6, none⟩ = some (.int .i64 tz) := (blk_cell P3_.out 6).trans rfl
  have HB := Lh ((Below.refl (w3.heap.size) w3).drew)
  have FF := Lh (show ∀ V, Hid (Below (w3.heap.size) w3 V) → V.cell? ⟨CB, 0, none⟩ = some (.slice A0 NP c0) ∧ V.cell? ⟨CB, 1, none⟩ = some (.slice A1 NA c1) ∧ V.cell? ⟨CB, 2, none⟩ = some (.slice A2 NE c2) ∧ V.cell? ⟨CB, 3, none⟩ = some (.int .i64 ra) ∧ V.cell? ⟨w.heap.size + 1, 0, none⟩ = some (.int .i64 ax) ∧ V.cell? ⟨w.heap.size + 1, 1, none⟩ = some (.int .i64 ay) ∧ V.cell? ⟨w.heap.size + 1, 2, none⟩ = some (.int .i64 az) ∧ V.cell? ⟨w.heap.size + 1, 3, none⟩ = some (.int .i64 tw) ∧ V.cell? ⟨w.heap.size + 1, 4, none⟩ = some (.int .i64 tx) ∧ V.cell? ⟨w.heap.size + 1, 5, none⟩ = some (.int .i64 ty) ∧ V.cell? ⟨w.heap.size + 1, 6, none⟩ = some (.int .i64 tz) from fun V HB => ⟨(HB.out.cell (p := ⟨CB, 0, none⟩) (lC)).trans x0, (HB.out.cell (p := ⟨CB, 1, none⟩) (lC)).trans x1, (HB.out.cell (p := ⟨CB, 2, none⟩) (lC)).trans x2, (HB.out.cell (p := ⟨CB, 3, none⟩) (lC)).trans x3, (HB.out.cell (p := ⟨w.heap.size + 1, 0, none⟩) (lP)).trans y0, (HB.out.cell (p := ⟨w.heap.size + 1, 1, none⟩) (lP)).trans y1, (HB.out.cell (p := ⟨w.heap.size + 1, 2, none⟩) (lP)).trans y2, (HB.out.cell (p := ⟨w.heap.size + 1, 3, none⟩) (lP)).trans y3, (HB.out.cell (p := ⟨w.heap.size + 1, 4, none⟩) (lP)).trans y4, (HB.out.cell (p := ⟨w.heap.size + 1, 5, none⟩) (lP)).trans y5, (HB.out.cell (p := ⟨w.heap.size + 1, 6, none⟩) (lP)).trans y6⟩)
  refine start_ (n := 10) (S := fun w' => w'.cell? ⟨CB, 0, none⟩ = some (.slice A0 NP c0) ∧ w'.cell? ⟨CB, 1, none⟩ = some (.slice A1 NA c1) ∧ w'.cell? ⟨CB, 2, none⟩ = some (.slice A2 NE c2) ∧ w'.cell? ⟨CB, 3, none⟩ = some (.int .i64 ra) ∧ w'.cell? ⟨w.heap.size + 1, 0, none⟩ = some (.int .i64 ax) ∧ w'.cell? ⟨w.heap.size + 1, 1, none⟩ = some (.int .i64 ay) ∧ w'.cell? ⟨w.heap.size + 1, 2, none⟩ = some (.int .i64 az) ∧ w'.cell? ⟨w.heap.size + 1, 3, none⟩ = some (.int .i64 tw) ∧ w'.cell? ⟨w.heap.size + 1, 4, none⟩ = some (.int .i64 tx) ∧ w'.cell? ⟨w.heap.size + 1, 5, none⟩ = some (.int .i64 ty) ∧ w'.cell? ⟨w.heap.size + 1, 6, none⟩ = some (.int .i64 tz)) (ds := []) (MT 0 10) (by kernel_rfl) rfl rfl (FF.out _ HB) (fun hHeld => ?_)
  obtain ⟨wd, hwd⟩ : ∃ x, w3.drew = x := ⟨_, rfl⟩
  rw [hwd] at HB hHeld ⊢
  clear hwd
  refine ta_ 0 16 hHeld (h := ?_)
  refine ta_ 1 17 hHeld (h := ?_)
  refine join_ (σ := Nat × Value) 2 (MT 8 2) (fun s => [(7, .pointer (some ⟨s.1, 0, none⟩)), (18, .agg (cP7 q)), (19, .tuple #[s.2, .bool true]), (15, .tuple #[s.2, .bool true]), (20, s.2), (21, .bool true)]) (fun (s : Nat × Value) w' => match s with | (s1, s2) => w3.heap.size ≤ s1 ∧ w'.heap[s1]? = some (.cells #[.slice none 0 0, .slice none 0 0, .slice none 0 0, .int .i64 0] 36 (0, 0)) ∧ Below (w3.heap.size) w3 w' ∧ CoreVF w.heap.size w' s2 LP LA LE ra) ?_ ?_
  rotate_left
  · intro hCont
    refine two_ (i := 2) (j := 7) (Ni := some 18) (Nj := some 7) (MT 3 7) #[true, true, false, false, false, false, false, true, false, false] rfl rfl rfl rfl (by kernel_rfl) (by decide) (by decide) (fun K hK => ?_) (fun K hK => ?_)
    · skip
      refine gs_ Try.func55 #[.agg #[.int .i64 ax, .int .i64 ay, .int .i64 az, .int .i64 tw, .int .i64 tx, .int .i64 ty, .int .i64 tz]] ?_
      with_reducible refine (HR6.out _).mono ?_
      rintro e' w4 ⟨rfl, hb⟩
      have HB := Lh (HB.out.trans (hb.mono HB.out.size))
      clear hb
      refine ⟨_, rfl, ?_⟩
      refine hK.out _ _ (FF.out _ HB) (fun hHeld => ?_)
      clear hK K
      refine no_ (h := ?_)
      refine two_ (i := 3) (j := 7) (Ni := some 19) (Nj := some 7) (MT 4 6) #[true, true, true, false, false, false, false, true, false, false] rfl rfl rfl rfl (by kernel_rfl) (by decide) (by decide) (fun K hK => ?_) (fun K hK => ?_)
      · skip
        refine gs_ Try.func56 #[.agg #[.slice A0 NP c0, .slice A1 NA c1, .slice A2 NE c2, .int .i64 ra], .agg (cP7 q)] ?_
        with_reducible refine (HPL.out _ (G0.out.below HB.out) (G1.out.below HB.out) (G2.out.below HB.out) (Nat.le_trans W3.out.size HB.out.size)).mono ?_
        rintro e' w4 ⟨v, rfl, hv, hb⟩
        have HB := Lh (HB.out.trans (hb.mono HB.out.size))
        have HV := Lh hv
        clear hv
        clear hb
        refine ⟨_, rfl, ?_⟩
        refine hK.out _ _ (FF.out _ HB) (fun hHeld => ?_)
        clear hK K
        refine no_ (h := ?_)
        refine pu_ 4 15 (h := ?_)
        refine pu_ 5 20 (h := ?_)
        refine pu_ 6 21 (h := ?_)
        refine on_ 7 (some 7) (h := fun K hK => ?_)
        refine value_ (w1 := ?_) (v := ?_) (by rfl) rfl ?_ ?_
        rotate_left 2
        · go_simp
          constructor
          · rfl
          · rfl
        have HA := Lh (ha_new HB.out (.cells #[.slice none 0 0, .slice none 0 0, .slice none 0 0, .int .i64 0] 36))
        have hge := HB.out.size
        have HB := Lh (HB.out.alloc (Nat.le_trans (Nat.le_refl _) HB.out.size) (.cells #[.slice none 0 0, .slice none 0 0, .slice none 0 0, .int .i64 0] 36))
        have HV := Lh (HV.out.below ((Below.refl _ _).alloc (Nat.le_refl _) (.cells #[.slice none 0 0, .slice none 0 0, .slice none 0 0, .int .i64 0] 36)))
        refine hK.out _ _ (FF.out _ HB) (fun hHeld => ?_)
        clear hK K
        refine no_ (h := ?_)
        exact norm_ (by simp only [putAll, Act.put, List.setIfInBounds_toArray, List.set_cons_zero, List.set_cons_succ]) (hCont (_, _) _ ⟨hge, HA.out, HB.out, HV.out⟩)
      · skip
        refine value_ (w1 := ?_) (v := ?_) (by rfl) rfl ?_ ?_
        rotate_left 2
        · go_simp
          constructor
          · rfl
          · rfl
        have HA := Lh (ha_new HB.out (.cells #[.slice none 0 0, .slice none 0 0, .slice none 0 0, .int .i64 0] 36))
        have hge := HB.out.size
        have HB := Lh (HB.out.alloc (Nat.le_trans (Nat.le_refl _) HB.out.size) (.cells #[.slice none 0 0, .slice none 0 0, .slice none 0 0, .int .i64 0] 36))
        refine hK.out _ _ (FF.out _ HB) (fun hHeld => ?_)
        clear hK K
        refine no_ (h := ?_)
        refine on_ 3 (some 19) (h := fun K hK => ?_)
        refine gs_ Try.func56 #[.agg #[.slice A0 NP c0, .slice A1 NA c1, .slice A2 NE c2, .int .i64 ra], .agg (cP7 q)] ?_
        with_reducible refine (HPL.out _ (G0.out.below HB.out) (G1.out.below HB.out) (G2.out.below HB.out) (Nat.le_trans W3.out.size HB.out.size)).mono ?_
        rintro e' w4 ⟨v, rfl, hv, hb⟩
        have HB := Lh (HB.out.trans (hb.mono HB.out.size))
        have HA := Lh ((hb.block _ (blk_lt HA.out)).trans HA.out)
        have HV := Lh hv
        clear hv
        clear hb
        refine ⟨_, rfl, ?_⟩
        refine hK.out _ _ (FF.out _ HB) (fun hHeld => ?_)
        clear hK K
        refine no_ (h := ?_)
        refine pu_ 4 15 (h := ?_)
        refine pu_ 5 20 (h := ?_)
        refine pu_ 6 21 (h := ?_)
        exact norm_ (by simp only [putAll, Act.put, List.setIfInBounds_toArray, List.set_cons_zero, List.set_cons_succ]) (hCont (_, _) _ ⟨hge, HA.out, HB.out, HV.out⟩)
    · skip
      refine value_ (w1 := ?_) (v := ?_) (by rfl) rfl ?_ ?_
      rotate_left 2
      · go_simp
        constructor
        · rfl
        · rfl
      have HA := Lh (ha_new HB.out (.cells #[.slice none 0 0, .slice none 0 0, .slice none 0 0, .int .i64 0] 36))
      have hge := HB.out.size
      have HB := Lh (HB.out.alloc (Nat.le_trans (Nat.le_refl _) HB.out.size) (.cells #[.slice none 0 0, .slice none 0 0, .slice none 0 0, .int .i64 0] 36))
      refine hK.out _ _ (FF.out _ HB) (fun hHeld => ?_)
      clear hK K
      refine no_ (h := ?_)
      refine on_ 2 (some 18) (h := fun K hK => ?_)
      refine gs_ Try.func55 #[.agg #[.int .i64 ax, .int .i64 ay, .int .i64 az, .int .i64 tw, .int .i64 tx, .int .i64 ty, .int .i64 tz]] ?_
      with_reducible refine (HR6.out _).mono ?_
      rintro e' w4 ⟨rfl, hb⟩
      have HB := Lh (HB.out.trans (hb.mono HB.out.size))
      have HA := Lh ((hb.block _ (blk_lt HA.out)).trans HA.out)
      clear hb
      refine ⟨_, rfl, ?_⟩
      refine hK.out _ _ (FF.out _ HB) (fun hHeld => ?_)
      clear hK K
      refine no_ (h := ?_)
      refine on_ 3 (some 19) (h := fun K hK => ?_)
      refine gs_ Try.func56 #[.agg #[.slice A0 NP c0, .slice A1 NA c1, .slice A2 NE c2, .int .i64 ra], .agg (cP7 q)] ?_
      with_reducible refine (HPL.out _ (G0.out.below HB.out) (G1.out.below HB.out) (G2.out.below HB.out) (Nat.le_trans W3.out.size HB.out.size)).mono ?_
      rintro e' w4 ⟨v, rfl, hv, hb⟩
      have HB := Lh (HB.out.trans (hb.mono HB.out.size))
      have HA := Lh ((hb.block _ (blk_lt HA.out)).trans HA.out)
      have HV := Lh hv
      clear hv
      clear hb
      refine ⟨_, rfl, ?_⟩
      refine hK.out _ _ (FF.out _ HB) (fun hHeld => ?_)
      clear hK K
      refine no_ (h := ?_)
      refine pu_ 4 15 (h := ?_)
      refine pu_ 5 20 (h := ?_)
      refine pu_ 6 21 (h := ?_)
      exact norm_ (by simp only [putAll, Act.put, List.setIfInBounds_toArray, List.set_cons_zero, List.set_cons_succ]) (hCont (_, _) _ ⟨hge, HA.out, HB.out, HV.out⟩)
  rintro ⟨AB, V⟩ wj ⟨hge, HA, HB, HV⟩
  have HA := Lh HA
  have HB := Lh HB
  (try simp only at hge HA HB HV)
  have HV := Lh HV
  obtain ⟨B0, B1, B2, d0, d1, d2, hV, g0, g1, g2, k0, k1, k2⟩ := HV.out.c.out
  have HFR := Lh HV.out.fr
  rw [hV] at HFR
  subst hV
  have G3 := Lh g0
  have G4 := Lh g1
  have G5 := Lh g2
  have K0 := Lh k0
  have K1 := Lh k1
  have K2 := Lh k2
  clear g0 g1 g2 k0 k1 k2
  have HA_ := HA
  have hHeld := FF.out _ HB
  refine no_ (h := ?_)
  refine on_ 8 (none) (h := fun K hK => ?_)
  have sc0 : World.cell? _ ⟨AB, 0, none⟩ = some (.slice none 0 0) := (blk_cell HA.out 0).trans rfl
  have sf0 := blk_frozen HA.out 0
  have sc1 : World.cell? _ ⟨AB, 1, none⟩ = some (.slice none 0 0) := (blk_cell HA.out 1).trans rfl
  have sf1 := blk_frozen HA.out 1
  have sc2 : World.cell? _ ⟨AB, 2, none⟩ = some (.slice none 0 0) := (blk_cell HA.out 2).trans rfl
  have sf2 := blk_frozen HA.out 2
  have sc3 : World.cell? _ ⟨AB, 3, none⟩ = some (.int .i64 0) := (blk_cell HA.out 3).trans rfl
  have sf3 := blk_frozen HA.out 3
  refine skip_ (w1 := ?_) (by rfl) rfl ?_ ?_
  rotate_left
  · go_simp
    rfl
  have HA := Lh (bs4 HA.out (.slice B0 LP.length d0) (.slice B1 LA.length d1) (.slice B2 LE.length d2) (.int .i64 ra))
  have HB := Lh (bb4 HB.out (Nat.le_trans (Nat.le_refl _) hge) (.slice B0 LP.length d0) (.slice B1 LA.length d1) (.slice B2 LE.length d2) (.int .i64 ra))
  clear sc0 sf0 sc1 sf1 sc2 sf2 sc3 sf3
  refine hK.out _ _ (FF.out _ HB) (fun hHeld => ?_)
  clear hK K
  refine pu_ 9 8 (h := ?_)
  refine done_ (by kernel_rfl) ?_
  have G35 := Lh (G3.out.setS HA_.out (.slice B0 LP.length d0) (.slice B1 LA.length d1) (.slice B2 LE.length d2) (.int .i64 ra))
  have G45 := Lh (G4.out.setS HA_.out (.slice B0 LP.length d0) (.slice B1 LA.length d1) (.slice B2 LE.length d2) (.int .i64 ra))
  have G55 := Lh (G5.out.setS HA_.out (.slice B0 LP.length d0) (.slice B1 LA.length d1) (.slice B2 LE.length d2) (.int .i64 ra))
  obtain ⟨w5, hwn⟩ : ∃ V, ((((wj.setCell ⟨AB, 0, none⟩ (.slice B0 LP.length d0)).setCell ⟨AB, 1, none⟩ (.slice B1 LA.length d1)).setCell ⟨AB, 2, none⟩ (.slice B2 LE.length d2)).setCell ⟨AB, 3, none⟩ (.int .i64 ra)) = V := ⟨_, rfl⟩
  rw [hwn] at HA HB G35 G45 G55 ⊢
  clear hwn
  have HA5 := HA
  have R5 := Lh ((HB.out.block _ (blk_lt R3.out)).trans R3.out)
  have W5 := Lh (bthen W3.out HB.out)
  have lA : AB < w5.heap.size := blk_lt HA5.out
  have lR : w.heap.size + 1 + 1 < w5.heap.size := blk_lt R5.out
  have d0_ : w5.cell? ⟨AB, 0, none⟩ = some (.slice B0 LP.length d0) := (blk_cell HA5.out 0).trans rfl
  have r0 : w5.cell? ⟨w.heap.size + 1 + 1, 0, none⟩ = some (.slice none 0 0) := (blk_cell R5.out 0).trans rfl
  have f0 : w5.frozen? ⟨w.heap.size + 1 + 1, 0, none⟩ = false := blk_frozen R5.out 0
  have d1_ : w5.cell? ⟨AB, 1, none⟩ = some (.slice B1 LA.length d1) := (blk_cell HA5.out 1).trans rfl
  have r1 : w5.cell? ⟨w.heap.size + 1 + 1, 1, none⟩ = some (.slice none 0 0) := (blk_cell R5.out 1).trans rfl
  have f1 : w5.frozen? ⟨w.heap.size + 1 + 1, 1, none⟩ = false := blk_frozen R5.out 1
  have d2_ : w5.cell? ⟨AB, 2, none⟩ = some (.slice B2 LE.length d2) := (blk_cell HA5.out 2).trans rfl
  have r2 : w5.cell? ⟨w.heap.size + 1 + 1, 2, none⟩ = some (.slice none 0 0) := (blk_cell R5.out 2).trans rfl
  have f2 : w5.frozen? ⟨w.heap.size + 1 + 1, 2, none⟩ = false := blk_frozen R5.out 2
  have d3_ : w5.cell? ⟨AB, 3, none⟩ = some (.int .i64 ra) := (blk_cell HA5.out 3).trans rfl
  have r3 : w5.cell? ⟨w.heap.size + 1 + 1, 3, none⟩ = some (.int .i64 0) := (blk_cell R5.out 3).trans rfl
  have f3 : w5.frozen? ⟨w.heap.size + 1 + 1, 3, none⟩ = false := blk_frozen R5.out 3
  have T7 := bs4 R5.out (.slice B0 LP.length d0) (.slice B1 LA.length d1) (.slice B2 LE.length d2) (.int .i64 ra)
  have B7 := bb4 W5.out (show w.heap.size ≤ w.heap.size + 1 + 1 by omega) (.slice B0 LP.length d0) (.slice B1 LA.length d1) (.slice B2 LE.length d2) (.int .i64 ra)
  have p7 := G35.out.setS R5.out (.slice B0 LP.length d0) (.slice B1 LA.length d1) (.slice B2 LE.length d2) (.int .i64 ra)
  have a7 := G45.out.setS R5.out (.slice B0 LP.length d0) (.slice B1 LA.length d1) (.slice B2 LE.length d2) (.int .i64 ra)
  have e7 := G55.out.setS R5.out (.slice B0 LP.length d0) (.slice B1 LA.length d1) (.slice B2 LE.length d2) (.int .i64 ra)
  obtain ⟨w7, hw7⟩ : ∃ V, ((((w5.setCell ⟨w.heap.size + 1 + 1, 0, none⟩ (.slice B0 LP.length d0)).setCell ⟨w.heap.size + 1 + 1, 1, none⟩ (.slice B1 LA.length d1)).setCell ⟨w.heap.size + 1 + 1, 2, none⟩ (.slice B2 LE.length d2)).setCell ⟨w.heap.size + 1 + 1, 3, none⟩ (.int .i64 ra)) = V := ⟨_, rfl⟩
  rw [hw7] at T7 B7 p7 a7 e7
  have hv7 := Lh hw7
  have T7 := Lh T7
  have B7 := Lh B7
  have HVF := Lh (show CoreV w7 (.agg #[.slice B0 LP.length d0, .slice B1 LA.length d1, .slice B2 LE.length d2, .int .i64 ra]) LP LA LE ra from ⟨B0, B1, B2, d0, d1, d2, rfl, p7, a7, e7, K0.out, K1.out, K2.out⟩)
  clear hw7 p7 a7 e7 x0 x1 x2 x3 y0 y1 y2 y3 y4 y5 y6 lC lP hge
  go_wp2
  (try rw [hv7.out])
  have y0 : w7.cell? ⟨w.heap.size + 1 + 1, 0, none⟩ = some (.slice B0 LP.length d0) := (blk_cell T7.out 0).trans rfl
  have y1 : w7.cell? ⟨w.heap.size + 1 + 1, 1, none⟩ = some (.slice B1 LA.length d1) := (blk_cell T7.out 1).trans rfl
  have y2 : w7.cell? ⟨w.heap.size + 1 + 1, 2, none⟩ = some (.slice B2 LE.length d2) := (blk_cell T7.out 2).trans rfl
  have y3 : w7.cell? ⟨w.heap.size + 1 + 1, 3, none⟩ = some (.int .i64 ra) := (blk_cell T7.out 3).trans rfl
  exact bodyPost_ret (v := .agg #[.slice B0 LP.length d0, .slice B1 LA.length d1, .slice B2 LE.length d2, .int .i64 ra]) (by simp [results, Try.results52, go_sem, y0, y1, y2, y3]) rfl ⟨_, p, a, e, rfl, HCI.out, by rw [HLP.out, HLA.out, HLE.out, HRA.out]; exact HVF.out, B7.out, HFR.out⟩
end Go.Proofs.Ytckdhahceelckaa.G
namespace Go.Proofs.Ytckdhahceelckaa.G
open Go.RowKit Go.Proofs.YtckdhahceelckaaW.PrintWords Go.Proofs.YtckdhahceelckaaW.PrintLast Go.Proofs.YtckdhahceelckaaW.PrintMore
attribute [local go_sem] max2_mx min2_mn max_two min_two max_three min_three max_four min_four
attribute [local go_sem high] eqA23
set_option linter.unusedVariables false
set_option linter.unusedSimpArgs false
/-- the flat cells of a Two -/
abbrev cTwo (k1 r1 : Int) (h1 : P3) (A1 : Option Addr) (n1 c1 : Nat) (k2 r2 : Int) (h2 : P3) (A2 : Option Addr) (n2 c2 : Nat) (p q : P7) (near : Int) (way : P3) : Array Value :=
  #[.int .i64 k1, .int .i64 r1, .int .i64 h1.x, .int .i64 h1.y, .int .i64 h1.z, .slice A1 n1 c1, .int .i64 k2, .int .i64 r2, .int .i64 h2.x, .int .i64 h2.y, .int .i64 h2.z, .slice A2 n2 c2,
    .int .i64 p.at_.x, .int .i64 p.at_.y, .int .i64 p.at_.z, .int .i64 p.turn.w, .int .i64 p.turn.x, .int .i64 p.turn.y, .int .i64 p.turn.z,
    .int .i64 q.at_.x, .int .i64 q.at_.y, .int .i64 q.at_.z, .int .i64 q.turn.w, .int .i64 q.turn.x, .int .i64 q.turn.y, .int .i64 q.turn.z, .int .i64 near, .int .i64 way.x, .int .i64 way.y, .int .i64 way.z]
def CoreAt (s : Shp) (q : P7) (w : World) (v : Value) : Prop := ∃ p a e, CoreIs s p a e ∧ CoreV w v (p.map (placePt (rowsF q.turn) q.at_)) (waysF (rowsF q.turn) a) (waysF (rowsF q.turn) e) s.radius
theorem CoreAt.below {s : Shp} {q : P7} {w w1 : World} {v : Value} (h : CoreAt s q w v) (hb : Below w.heap.size w w1) : CoreAt s q w1 v := by
  obtain ⟨p, a, e, h1, h2⟩ := h
  exact ⟨p, a, e, h1, h2.below hb⟩
theorem CoreAt.setS {s : Shp} {q : P7} {w : World} {v : Value} (h : CoreAt s q w v) {g : Nat} {A0 A1 A2 : Option Addr} {n0 n1 n2 m0 m1 m2 : Nat} {x : Value} {t : TypeId} (hg : w.heap[g]? = some (.cells #[.slice A0 n0 m0, .slice A1 n1 m1, .slice A2 n2 m2, x] t (0, 0))) (u0 u1 u2 u3 : Value) :
    CoreAt s q ((((w.setCell ⟨g, 0, none⟩ u0).setCell ⟨g, 1, none⟩ u1).setCell ⟨g, 2, none⟩ u2).setCell ⟨g, 3, none⟩ u3) v := by
  obtain ⟨p, a, e, h1, h2⟩ := h
  obtain ⟨B0, B1, B2, c0, c1, c2, e1, g0, g1, g2, k⟩ := h2.out
  exact ⟨p, a, e, h1, ⟨B0, B1, B2, c0, c1, c2, e1, g0.setS hg u0 u1 u2 u3, g1.setS hg u0 u1 u2 u3, g2.setS hg u0 u1 u2 u3, k⟩⟩
theorem other4 {w : World} {g k : Nat} (h : k ≠ g) (u0 u1 u2 u3 : Value) : ((((w.setCell ⟨g, 0, none⟩ u0).setCell ⟨g, 1, none⟩ u1).setCell ⟨g, 2, none⟩ u2).setCell ⟨g, 3, none⟩ u3).heap[k]? = w.heap[k]? := by
  rw [Below.heap_setCell _ ⟨g, 3, none⟩ u3 k h, Below.heap_setCell _ ⟨g, 2, none⟩ u2 k h, Below.heap_setCell _ ⟨g, 1, none⟩ u1 k h, Below.heap_setCell _ ⟨g, 0, none⟩ u0 k h]
theorem blk7m {w : World} {g : Nat} {a b c d e f h : Value} {t : TypeId} (hh : w.heap[g]? = some (.cells #[a, b, c, d, e, f, h] t (0, 0))) (u v x : Value) : (((w.setCell ⟨g, 0, none⟩ u).setCell ⟨g, 1, none⟩ v).setCell ⟨g, 2, none⟩ x).heap[g]? = some (.cells #[u, v, x, d, e, f, h] t (0, 0)) := by
  have h8 := blk_set (blk_set (blk_set hh 0 u) 1 v) 2 x
  simp only [List.setIfInBounds_toArray, List.set_cons_zero, List.set_cons_succ] at h8
  exact h8
def nearF (near : Int) (way at_ : P3) : P3 := ⟨at_.x + (pickF way.x (2 * (1 + pickF near 131072)) - (1 + pickF near 131072)) * 1048576, at_.y + (pickF way.y (2 * (1 + pickF near 131072)) - (1 + pickF near 131072)) * 1048576, at_.z + (pickF way.z (2 * (1 + pickF near 131072)) - (1 + pickF near 131072)) * 1048576⟩
def CoresPostF (b : Nat) (s1 s2 : Shp) (p q : P7) (w : World) (en : Ending) (w' : World) : Prop := ∃ va vb, en = .returned (.tuple #[va, vb]) ∧ CoreAt s1 p w' va ∧ CoreAt s2 q w' vb ∧ Below w.heap.size w w' ∧ Fresh b va ∧ Fresh b vb
set_option maxHeartbeats 8000000 in
set_option maxRecDepth 100000 in
theorem cores_calls2 (k1 r1 : Int) (h1 : P3) (l1 : List P3) (A1 : Option Addr) (c1 : Nat) (k2 r2 : Int) (h2 : P3) (l2 : List P3) (A2 : Option Addr) (c2 : Nat) (p q : P7) (near : Int) (way : P3) (w : World)
    (hA1 : RdB w A1 l1) (hr1 : RawOk k1 r1 h1 l1) (hA2 : RdB w A2 l2) (hr2 : RawOk k2 r2 h2 l2) (hp : i64s p) (hq : i64s q) (hne : i64 near) (hwa : pI64 way) :
    Calls Try.prog 19 #[.agg (cTwo k1 r1 h1 A1 l1.length c1 k2 r2 h2 A2 l2.length c2 p q near way)] w (CoresPostF w.heap.size (rightS k1 r1 h1 l1) (rightS k2 r2 h2 l2) (rightPose p) ⟨nearF near way (rightPose p).at_, (rightPose q).turn⟩ w) := by
  have HP1 := Lh (fun (W : World) (hW : RdB W A1 l1) => placed_calls2 k1 r1 h1 l1 A1 c1 p W hW hr1 hp)
  have HR2 := Lh (fun (W : World) (hW : RdB W A2 l2) => right5_calls k2 r2 h2 l2 A2 c2 W hW hr2.len hr2.k hr2.r hr2.h hr2.pts)
  have HRP := Lh (fun (W : World) => right6_calls p W hp)
  have HRQ := Lh (fun (W : World) => right6_calls q W hq)
  have HQ : Hid (q32 (rightPose q).turn) := Lh (by simp only [rightPose]; exact wholeF_q32 (partQ q.turn))
  have HS := Lh (rightS_ok k2 r2 h2 l2)
  have HPA : -4398046511104 ≤ (rightPose p).at_.x ∧ (rightPose p).at_.x ≤ 4398046511104 ∧ -4398046511104 ≤ (rightPose p).at_.y ∧ (rightPose p).at_.y ≤ 4398046511104 ∧ -4398046511104 ≤ (rightPose p).at_.z ∧ (rightPose p).at_.z ≤ 4398046511104 := by
    have a := partF_bd p.at_.x 4398046511104 (by decide)
    have b := partF_bd p.at_.y 4398046511104 (by decide)
    have c := partF_bd p.at_.z 4398046511104 (by decide)
    simp only [rightPose, partV]
    exact ⟨a.1, a.2, b.1, b.2, c.1, c.2⟩
  have HPA := Lh HPA
  have HNE := Lh (fun (W : World) => pick_calls near 131072 hne.1 hne.2 (by decide) (by decide) W)
  have bn := pickF_bd near 131072 (by decide)
  have HNF : Hid (∀ a, nearF near way a = _) := Lh (fun a => by unfold nearF; rfl)
  obtain ⟨qn, hqn⟩ : ∃ x, pickF near 131072 = x := ⟨_, rfl⟩
  rw [hqn] at HNE bn HNF
  have HWX := Lh (fun (W : World) => pick_calls way.x (2 * (1 + qn)) hwa.1.1 hwa.1.2 (by omega) (by omega) W)
  have HWY := Lh (fun (W : World) => pick_calls way.y (2 * (1 + qn)) hwa.2.1.1 hwa.2.1.2 (by omega) (by omega) W)
  have HWZ := Lh (fun (W : World) => pick_calls way.z (2 * (1 + qn)) hwa.2.2.1 hwa.2.2.2 (by omega) (by omega) W)
  have bx := pickF_bd way.x (2 * (1 + qn)) (by omega)
  have by_ := pickF_bd way.y (2 * (1 + qn)) (by omega)
  have bz := pickF_bd way.z (2 * (1 + qn)) (by omega)
  have HA1 := Lh hA1
  have HA2 := Lh hA2
  obtain ⟨s1, hs1⟩ : ∃ s, rightS k1 r1 h1 l1 = s := ⟨_, rfl⟩
  obtain ⟨s2, hs2⟩ : ∃ s, rightS k2 r2 h2 l2 = s := ⟨_, rfl⟩
  obtain ⟨P, hP⟩ : ∃ s, rightPose p = s := ⟨_, rfl⟩
  obtain ⟨Q, hQ⟩ : ∃ s, rightPose q = s := ⟨_, rfl⟩
  rw [hs1, hP] at HP1
  rw [hs2] at HR2 HS
  rw [hP] at HRP HPA
  rw [hQ] at HRQ HQ
  rw [hs1, hs2, hP, hQ]
  obtain ⟨NF, hNF⟩ : ∃ s, nearF near way P.at_ = s := ⟨_, rfl⟩
  rw [hNF]
  have HNF2 := Lh ((HNF.out P.at_).symm.trans hNF)
  obtain ⟨N1, hN1⟩ : ∃ N, l1.length = N := ⟨_, rfl⟩
  obtain ⟨N2, hN2⟩ : ∃ N, l2.length = N := ⟨_, rfl⟩
  rw [hN1] at HP1 ⊢
  rw [hN2] at HR2 ⊢
  clear hA1 hr1 hA2 hr2 hp hq hne hwa hs1 hs2 hP hQ hNF hN1 hN2 HNF hqn
  obtain ⟨h1x, h1y, h1z⟩ := h1
  obtain ⟨h2x, h2y, h2z⟩ := h2
  obtain ⟨⟨pax, pay, paz⟩, ⟨ptw, ptx, pty, ptz⟩⟩ := p
  obtain ⟨⟨qax, qay, qaz⟩, ⟨qtw, qtx, qty, qtz⟩⟩ := q
  obtain ⟨wx, wy, wz⟩ := way
  (try simp only at HWX HWY HWZ bx by_ bz HNF2)
  obtain ⟨⟨Px, Py, Pz⟩, ⟨Pw, Pi, Pj, Pk⟩⟩ := P
  obtain ⟨⟨Qx, Qy, Qz⟩, ⟨Qw, Qi, Qj, Qk_⟩⟩ := Q
  (try simp only at HPA HNF2 HQ)
  go_enter Try.func19, Try.ntmps19
  go_wp2_with fail
  obtain ⟨w0, hw0⟩ : ∃ w0, ((w.alloc (.cells #[.int .i64 k1, .int .i64 r1, .int .i64 h1x, .int .i64 h1y, .int .i64 h1z, .slice A1 N1 c1, .int .i64 k2, .int .i64 r2, .int .i64 h2x, .int .i64 h2y, .int .i64 h2z, .slice A2 N2 c2, .int .i64 pax, .int .i64 pay, .int .i64 paz, .int .i64 ptw, .int .i64 ptx, .int .i64 pty, .int .i64 ptz, .int .i64 qax, .int .i64 qay, .int .i64 qaz, .int .i64 qtw, .int .i64 qtx, .int .i64 qty, .int .i64 qtz, .int .i64 near, .int .i64 wx, .int .i64 wy, .int .i64 wz] 33)).alloc (.cells #[.slice none 0 0, .slice none 0 0, .slice none 0 0, .int .i64 0] 36)).alloc (.cells #[.slice none 0 0, .slice none 0 0, .slice none 0 0, .int .i64 0] 36) = w0 := ⟨_, rfl⟩
  have T0 : Hid (w0.heap[w.heap.size]? = some (.cells #[.int .i64 k1, .int .i64 r1, .int .i64 h1x, .int .i64 h1y, .int .i64 h1z, .slice A1 N1 c1, .int .i64 k2, .int .i64 r2, .int .i64 h2x, .int .i64 h2y, .int .i64 h2z, .slice A2 N2 c2, .int .i64 pax, .int .i64 pay, .int .i64 paz, .int .i64 ptw, .int .i64 ptx, .int .i64 pty, .int .i64 ptz, .int .i64 qax, .int .i64 qay, .int .i64 qaz, .int .i64 qtw, .int .i64 qtx, .int .i64 qty, .int .i64 qtz, .int .i64 near, .int .i64 wx, .int .i64 wy, .int .i64 wz] 33 (0, 0))) := Lh (by rw [← hw0]; exact three0 _ _ _ _)
  have R1 : Hid (w0.heap[w.heap.size + 1]? = some (.cells #[.slice none 0 0, .slice none 0 0, .slice none 0 0, .int .i64 0] 36 (0, 0))) := Lh (by rw [← hw0]; exact three1 _ _ _ _)
  have R2 : Hid (w0.heap[w.heap.size + 1 + 1]? = some (.cells #[.slice none 0 0, .slice none 0 0, .slice none 0 0, .int .i64 0] 36 (0, 0))) := Lh (by rw [← hw0]; exact three2 _ _ _ _)
  have W := Lh (show Below w.heap.size w w0 by rw [← hw0]; exact (((Below.refl _ w).alloc (Nat.le_refl _) _).alloc (by simp) _).alloc (by simp; omega) _)
  rw [hw0]
  clear hw0
  refine (HP1.out w0 (HA1.out.below W.out)).mono ?_
  rintro e w1 ⟨va, p1, a1, e1, rfl, hci1, hv1, hb, hfa⟩
  have HFA := Lh (hfa.mono W.out.size)
  clear hfa
  have HC1 : Hid (CoreAt s1 ⟨⟨Px, Py, Pz⟩, ⟨Pw, Pi, Pj, Pk⟩⟩ w1 va) := Lh ⟨p1, a1, e1, hci1, hv1⟩
  have T0 := Lh ((hb.block _ (blk_lt T0.out)).trans T0.out)
  have R1 := Lh ((hb.block _ (blk_lt R1.out)).trans R1.out)
  have R2 := Lh ((hb.block _ (blk_lt R2.out)).trans R2.out)
  have W := Lh (bthen W.out hb)
  obtain ⟨B0, B1, B2, d0, d1, d2, hva, _⟩ := hv1.out
  obtain ⟨n0, hn0⟩ : ∃ n, (p1.map (placePt (rowsF (⟨⟨Px, Py, Pz⟩, ⟨Pw, Pi, Pj, Pk⟩⟩ : P7).turn) (⟨⟨Px, Py, Pz⟩, ⟨Pw, Pi, Pj, Pk⟩⟩ : P7).at_)).length = n := ⟨_, rfl⟩
  obtain ⟨n1, hn1⟩ : ∃ n, (waysF (rowsF (⟨⟨Px, Py, Pz⟩, ⟨Pw, Pi, Pj, Pk⟩⟩ : P7).turn) a1).length = n := ⟨_, rfl⟩
  obtain ⟨n2, hn2⟩ : ∃ n, (waysF (rowsF (⟨⟨Px, Py, Pz⟩, ⟨Pw, Pi, Pj, Pk⟩⟩ : P7).turn) e1).length = n := ⟨_, rfl⟩
  obtain ⟨ra1, hra1⟩ : ∃ n, s1.radius = n := ⟨_, rfl⟩
  rw [hn0, hn1, hn2, hra1] at hva
  subst hva
  clear hn0 hn1 hn2 hra1 hv1 hci1 hb
  have t6 : w1.cell? ⟨w.heap.size, 6, none⟩ = some (.int .i64 k2) := (blk_cell T0.out 6).trans rfl
  have t7 : w1.cell? ⟨w.heap.size, 7, none⟩ = some (.int .i64 r2) := (blk_cell T0.out 7).trans rfl
  have t8 : w1.cell? ⟨w.heap.size, 8, none⟩ = some (.int .i64 h2x) := (blk_cell T0.out 8).trans rfl
  have t9 : w1.cell? ⟨w.heap.size, 9, none⟩ = some (.int .i64 h2y) := (blk_cell T0.out 9).trans rfl
  have t10 : w1.cell? ⟨w.heap.size, 10, none⟩ = some (.int .i64 h2z) := (blk_cell T0.out 10).trans rfl
  have t11 : w1.cell? ⟨w.heap.size, 11, none⟩ = some (.slice A2 N2 c2) := (blk_cell T0.out 11).trans rfl
  have lT : w.heap.size < w1.heap.size := blk_lt T0.out
  have N41 := Lh (blk_lt R1.out)
  obtain ⟨C4, hC4⟩ : ∃ g, w1.heap.size = g := ⟨_, rfl⟩
  have zc := heap_alloc_new w1 (.cells #[.slice B0 n0 d0, .slice B1 n1 d1, .slice B2 n2 d2, .int .i64 ra1] 36)
  have bc := (Below.refl w1.heap.size w1).alloc (Nat.le_refl _) (.cells #[.slice B0 n0 d0, .slice B1 n1 d1, .slice B2 n2 d2, .int .i64 ra1] 36)
  obtain ⟨w2, hw⟩ : ∃ V, w1.alloc (.cells #[.slice B0 n0 d0, .slice B1 n1 d1, .slice B2 n2 d2, .int .i64 ra1] 36) = V := ⟨_, rfl⟩
  rw [hw] at zc bc
  rw [hC4] at zc
  have C4b := Lh zc
  have T0 := Lh ((bc.block _ (blk_lt T0.out)).trans T0.out)
  have R1 := Lh ((bc.block _ (blk_lt R1.out)).trans R1.out)
  have R2 := Lh ((bc.block _ (blk_lt R2.out)).trans R2.out)
  have W := Lh (bthen W.out bc)
  have HC1 := Lh (HC1.out.below bc)
  have hw_w2 := Lh hw
  have hC4_ := Lh hC4
  clear zc bc hw hC4
  rw [hC4_.out] at N41
  go_wp2_with fail
  rw [hw_w2.out, hC4_.out]
  clear t6 t7 t8 t9 t10 t11 lT
  refine (HR2.out w2 (HA2.out.below W.out)).mono ?_
  rintro e w3 ⟨A5, c5, rfl, hrd, hc5, hb⟩
  have HC := Lh (core_calls s2 A5 c5 HS.out w3 hrd)
  have T0 := Lh ((hb.block _ (blk_lt T0.out)).trans T0.out)
  have R1 := Lh ((hb.block _ (blk_lt R1.out)).trans R1.out)
  have R2 := Lh ((hb.block _ (blk_lt R2.out)).trans R2.out)
  have C4b := Lh ((hb.block _ (blk_lt C4b.out)).trans C4b.out)
  have W := Lh (bthen W.out hb)
  have HC1 := Lh (HC1.out.below hb)
  clear hb hrd hc5
  go_wp2_with fail
  refine HC.out.mono ?_
  rintro e w4 ⟨p2, a2, e2, hci2, v2, rfl, hv2, hb⟩
  have T0 := Lh ((hb.block _ (blk_lt T0.out)).trans T0.out)
  have R1 := Lh ((hb.block _ (blk_lt R1.out)).trans R1.out)
  have R2 := Lh ((hb.block _ (blk_lt R2.out)).trans R2.out)
  have C4b := Lh ((hb.block _ (blk_lt C4b.out)).trans C4b.out)
  have W := Lh (bthen W.out hb)
  have HC1 := Lh (HC1.out.below hb)
  obtain ⟨E0, E1, E2, f0, f1, f2, rfl, g0, g1, g2, k0, k1_, k2_⟩ := hv2.out
  have HCI := Lh hci2
  have hB := hci2.bounds HS.out
  have HPL := Lh (fun (AT : P3) (hAT : atOk AT) (W : World) (hW0 : RdB W E0 p2) (hW1 : RdB W E1 a2) (hW2 : RdB W E2 e2) => place_in2 ⟨AT, ⟨Qw, Qi, Qj, Qk_⟩⟩ p2 a2 e2 s2.radius E0 E1 E2 f0 f1 f2 W hW0 hW1 hW2 k0 k1_ k2_ HQ.out.quat (rowsF ⟨Qw, Qi, Qj, Qk_⟩) rfl (rows_mOk HQ.out) hAT hB.p0 (by have := hB.p1; omega) (by have := hB.a1; omega) (by have := hB.e1; omega) hB.pin hB.ain hB.ein)
  obtain ⟨NP, hNP⟩ : ∃ n, p2.length = n := ⟨_, rfl⟩
  obtain ⟨NA, hNA⟩ : ∃ n, a2.length = n := ⟨_, rfl⟩
  obtain ⟨NE, hNE⟩ : ∃ n, e2.length = n := ⟨_, rfl⟩
  rw [hNP, hNA, hNE] at HPL ⊢
  obtain ⟨ra, hra⟩ : ∃ n, s2.radius = n := ⟨_, rfl⟩
  rw [hra] at HPL ⊢
  have HRA := Lh hra
  have G0 := Lh g0
  have G1 := Lh g1
  have G2 := Lh g2
  clear hNP hNA hNE hra g0 g1 g2 k0 k1_ k2_ hB hci2 hv2 hb HC HR2 HP1
  have t12 : w4.cell? ⟨w.heap.size, 12, none⟩ = some (.int .i64 pax) := (blk_cell T0.out 12).trans rfl
  have t13 : w4.cell? ⟨w.heap.size, 13, none⟩ = some (.int .i64 pay) := (blk_cell T0.out 13).trans rfl
  have t14 : w4.cell? ⟨w.heap.size, 14, none⟩ = some (.int .i64 paz) := (blk_cell T0.out 14).trans rfl
  have t15 : w4.cell? ⟨w.heap.size, 15, none⟩ = some (.int .i64 ptw) := (blk_cell T0.out 15).trans rfl
  have t16 : w4.cell? ⟨w.heap.size, 16, none⟩ = some (.int .i64 ptx) := (blk_cell T0.out 16).trans rfl
  have t17 : w4.cell? ⟨w.heap.size, 17, none⟩ = some (.int .i64 pty) := (blk_cell T0.out 17).trans rfl
  have t18 : w4.cell? ⟨w.heap.size, 18, none⟩ = some (.int .i64 ptz) := (blk_cell T0.out 18).trans rfl
  have lT : w.heap.size < w4.heap.size := blk_lt T0.out
  obtain ⟨C5, hC5⟩ : ∃ g, w4.heap.size = g := ⟨_, rfl⟩
  have zc := heap_alloc_new w4 (.cells #[.slice E0 NP f0, .slice E1 NA f1, .slice E2 NE f2, .int .i64 ra] 36)
  have bc := (Below.refl w4.heap.size w4).alloc (Nat.le_refl _) (.cells #[.slice E0 NP f0, .slice E1 NA f1, .slice E2 NE f2, .int .i64 ra] 36)
  obtain ⟨w5, hw⟩ : ∃ V, w4.alloc (.cells #[.slice E0 NP f0, .slice E1 NA f1, .slice E2 NE f2, .int .i64 ra] 36) = V := ⟨_, rfl⟩
  rw [hw] at zc bc
  rw [hC5] at zc
  have C5b := Lh zc
  have T0 := Lh ((bc.block _ (blk_lt T0.out)).trans T0.out)
  have R1 := Lh ((bc.block _ (blk_lt R1.out)).trans R1.out)
  have R2 := Lh ((bc.block _ (blk_lt R2.out)).trans R2.out)
  have C4b := Lh ((bc.block _ (blk_lt C4b.out)).trans C4b.out)
  have W := Lh (bthen W.out bc)
  have HC1 := Lh (HC1.out.below bc)
  have G0 := Lh (G0.out.below bc)
  have G1 := Lh (G1.out.below bc)
  have G2 := Lh (G2.out.below bc)
  have hw_w5 := Lh hw
  have hC5_ := Lh hC5
  clear zc bc hw hC5
  go_wp2_with fail
  rw [hw_w5.out, hC5_.out]
  clear t12 t13 t14 t15 t16 t17 t18 lT
  refine (HRP.out w5).mono ?_
  rintro e w6 ⟨rfl, hb⟩
  have T0 := Lh ((hb.block _ (blk_lt T0.out)).trans T0.out)
  have R1 := Lh ((hb.block _ (blk_lt R1.out)).trans R1.out)
  have R2 := Lh ((hb.block _ (blk_lt R2.out)).trans R2.out)
  have C4b := Lh ((hb.block _ (blk_lt C4b.out)).trans C4b.out)
  have C5b := Lh ((hb.block _ (blk_lt C5b.out)).trans C5b.out)
  have W := Lh (bthen W.out hb)
  have HC1 := Lh (HC1.out.below hb)
  have G0 := Lh (G0.out.below hb)
  have G1 := Lh (G1.out.below hb)
  have G2 := Lh (G2.out.below hb)
  clear hb
  have t19 : w6.cell? ⟨w.heap.size, 19, none⟩ = some (.int .i64 qax) := (blk_cell T0.out 19).trans rfl
  have t20 : w6.cell? ⟨w.heap.size, 20, none⟩ = some (.int .i64 qay) := (blk_cell T0.out 20).trans rfl
  have t21 : w6.cell? ⟨w.heap.size, 21, none⟩ = some (.int .i64 qaz) := (blk_cell T0.out 21).trans rfl
  have t22 : w6.cell? ⟨w.heap.size, 22, none⟩ = some (.int .i64 qtw) := (blk_cell T0.out 22).trans rfl
  have t23 : w6.cell? ⟨w.heap.size, 23, none⟩ = some (.int .i64 qtx) := (blk_cell T0.out 23).trans rfl
  have t24 : w6.cell? ⟨w.heap.size, 24, none⟩ = some (.int .i64 qty) := (blk_cell T0.out 24).trans rfl
  have t25 : w6.cell? ⟨w.heap.size, 25, none⟩ = some (.int .i64 qtz) := (blk_cell T0.out 25).trans rfl
  have lT : w.heap.size < w6.heap.size := blk_lt T0.out
  obtain ⟨C7, hC7⟩ : ∃ g, w6.heap.size = g := ⟨_, rfl⟩
  have zc := heap_alloc_new w6 (.cells #[.int .i64 Px, .int .i64 Py, .int .i64 Pz, .int .i64 Pw, .int .i64 Pi, .int .i64 Pj, .int .i64 Pk] 92)
  have bc := (Below.refl w6.heap.size w6).alloc (Nat.le_refl _) (.cells #[.int .i64 Px, .int .i64 Py, .int .i64 Pz, .int .i64 Pw, .int .i64 Pi, .int .i64 Pj, .int .i64 Pk] 92)
  obtain ⟨w7, hw⟩ : ∃ V, w6.alloc (.cells #[.int .i64 Px, .int .i64 Py, .int .i64 Pz, .int .i64 Pw, .int .i64 Pi, .int .i64 Pj, .int .i64 Pk] 92) = V := ⟨_, rfl⟩
  rw [hw] at zc bc
  rw [hC7] at zc
  have C7b := Lh zc
  have T0 := Lh ((bc.block _ (blk_lt T0.out)).trans T0.out)
  have R1 := Lh ((bc.block _ (blk_lt R1.out)).trans R1.out)
  have R2 := Lh ((bc.block _ (blk_lt R2.out)).trans R2.out)
  have C4b := Lh ((bc.block _ (blk_lt C4b.out)).trans C4b.out)
  have C5b := Lh ((bc.block _ (blk_lt C5b.out)).trans C5b.out)
  have W := Lh (bthen W.out bc)
  have HC1 := Lh (HC1.out.below bc)
  have G0 := Lh (G0.out.below bc)
  have G1 := Lh (G1.out.below bc)
  have G2 := Lh (G2.out.below bc)
  have hw_w7 := Lh hw
  have hC7_ := Lh hC7
  clear zc bc hw hC7
  go_wp2_with fail
  rw [hw_w7.out, hC7_.out]
  clear t19 t20 t21 t22 t23 t24 t25 lT
  refine (HRQ.out w7).mono ?_
  rintro e w8 ⟨rfl, hb⟩
  have T0 := Lh ((hb.block _ (blk_lt T0.out)).trans T0.out)
  have R1 := Lh ((hb.block _ (blk_lt R1.out)).trans R1.out)
  have R2 := Lh ((hb.block _ (blk_lt R2.out)).trans R2.out)
  have C4b := Lh ((hb.block _ (blk_lt C4b.out)).trans C4b.out)
  have C5b := Lh ((hb.block _ (blk_lt C5b.out)).trans C5b.out)
  have C7b := Lh ((hb.block _ (blk_lt C7b.out)).trans C7b.out)
  have W := Lh (bthen W.out hb)
  have HC1 := Lh (HC1.out.below hb)
  have G0 := Lh (G0.out.below hb)
  have G1 := Lh (G1.out.below hb)
  have G2 := Lh (G2.out.below hb)
  clear hb
  have t26 : w8.cell? ⟨w.heap.size, 26, none⟩ = some (.int .i64 near) := (blk_cell T0.out 26).trans rfl
  have lT : w.heap.size < w8.heap.size := blk_lt T0.out
  have L78 := Lh (blk_lt C7b.out)
  have LT8 := Lh (blk_lt T0.out)
  have LR1 := Lh (blk_lt R1.out)
  have LR2 := Lh (blk_lt R2.out)
  have L48 := Lh (blk_lt C4b.out)
  have L58 := Lh (blk_lt C5b.out)
  have bc8 := Lh ((Below.refl w8.heap.size w8).alloc (Nat.le_refl _) (.cells #[.int .i64 Qx, .int .i64 Qy, .int .i64 Qz, .int .i64 Qw, .int .i64 Qi, .int .i64 Qj, .int .i64 Qk_] 92))
  have HC18 := HC1
  have G08 := G0
  have G18 := G1
  have G28 := G2
  obtain ⟨C8, hC8⟩ : ∃ g, w8.heap.size = g := ⟨_, rfl⟩
  have zc := heap_alloc_new w8 (.cells #[.int .i64 Qx, .int .i64 Qy, .int .i64 Qz, .int .i64 Qw, .int .i64 Qi, .int .i64 Qj, .int .i64 Qk_] 92)
  have bc := (Below.refl w8.heap.size w8).alloc (Nat.le_refl _) (.cells #[.int .i64 Qx, .int .i64 Qy, .int .i64 Qz, .int .i64 Qw, .int .i64 Qi, .int .i64 Qj, .int .i64 Qk_] 92)
  obtain ⟨w9, hw⟩ : ∃ V, w8.alloc (.cells #[.int .i64 Qx, .int .i64 Qy, .int .i64 Qz, .int .i64 Qw, .int .i64 Qi, .int .i64 Qj, .int .i64 Qk_] 92) = V := ⟨_, rfl⟩
  rw [hw] at zc bc
  rw [hC8] at zc
  have C8b := Lh zc
  have T0 := Lh ((bc.block _ (blk_lt T0.out)).trans T0.out)
  have R1 := Lh ((bc.block _ (blk_lt R1.out)).trans R1.out)
  have R2 := Lh ((bc.block _ (blk_lt R2.out)).trans R2.out)
  have C4b := Lh ((bc.block _ (blk_lt C4b.out)).trans C4b.out)
  have C5b := Lh ((bc.block _ (blk_lt C5b.out)).trans C5b.out)
  have C7b := Lh ((bc.block _ (blk_lt C7b.out)).trans C7b.out)
  have W := Lh (bthen W.out bc)
  have HC1 := Lh (HC1.out.below bc)
  have G0 := Lh (G0.out.below bc)
  have G1 := Lh (G1.out.below bc)
  have G2 := Lh (G2.out.below bc)
  have hw_w9 := Lh hw
  have hC8_ := Lh hC8
  clear zc bc hw hC8
  rw [hw_w9.out] at bc8
  rw [hC8_.out] at L78 LT8 LR1 LR2 L48 L58
  go_wp2_with fail
  rw [hw_w9.out, hC8_.out]
  clear t26 lT
  obtain ⟨nn, hnn⟩ : ∃ x, 1 + qn = x := ⟨_, rfl⟩
  rw [hnn] at HWX HWY HWZ bx by_ bz HNF2
  have bnn : 1 ≤ nn ∧ nn ≤ 131072 := by omega
  have wnn : wrap64 nn = nn := by unfold wrap64; omega
  obtain ⟨mm, hmm⟩ : ∃ x, 2 * nn = x := ⟨_, rfl⟩
  rw [hmm] at HWX HWY HWZ bx by_ bz HNF2
  have wmm : wrap64 mm = mm := by unfold wrap64; omega
  have hpa := HPA.out
  obtain ⟨qx, hqx⟩ : ∃ x, pickF wx mm = x := ⟨_, rfl⟩
  rw [hqx] at HWX bx HNF2
  obtain ⟨ux, hux⟩ : ∃ x, qx - nn = x := ⟨_, rfl⟩
  rw [hux] at HNF2
  have bux : -131072 ≤ ux ∧ ux ≤ 131072 := by omega
  have wux : wrap64 ux = ux := by unfold wrap64; omega
  obtain ⟨vx, hvx⟩ : ∃ x, ux * 1048576 = x := ⟨_, rfl⟩
  rw [hvx] at HNF2
  have bvx : -137438953472 ≤ vx ∧ vx ≤ 137438953472 := by omega
  have wvx : wrap64 vx = vx := by unfold wrap64; omega
  obtain ⟨sx, hsx⟩ : ∃ x, Px + vx = x := ⟨_, rfl⟩
  rw [hsx] at HNF2
  have bsx : -4535485464576 ≤ sx ∧ sx ≤ 4535485464576 := by omega
  have wsx : wrap64 sx = sx := by unfold wrap64; omega
  obtain ⟨qy, hqy⟩ : ∃ x, pickF wy mm = x := ⟨_, rfl⟩
  rw [hqy] at HWY by_ HNF2
  obtain ⟨uy, huy⟩ : ∃ x, qy - nn = x := ⟨_, rfl⟩
  rw [huy] at HNF2
  have buy : -131072 ≤ uy ∧ uy ≤ 131072 := by omega
  have wuy : wrap64 uy = uy := by unfold wrap64; omega
  obtain ⟨vy, hvy⟩ : ∃ x, uy * 1048576 = x := ⟨_, rfl⟩
  rw [hvy] at HNF2
  have bvy : -137438953472 ≤ vy ∧ vy ≤ 137438953472 := by omega
  have wvy : wrap64 vy = vy := by unfold wrap64; omega
  obtain ⟨sy, hsy⟩ : ∃ x, Py + vy = x := ⟨_, rfl⟩
  rw [hsy] at HNF2
  have bsy : -4535485464576 ≤ sy ∧ sy ≤ 4535485464576 := by omega
  have wsy : wrap64 sy = sy := by unfold wrap64; omega
  obtain ⟨qz, hqz⟩ : ∃ x, pickF wz mm = x := ⟨_, rfl⟩
  rw [hqz] at HWZ bz HNF2
  obtain ⟨uz, huz⟩ : ∃ x, qz - nn = x := ⟨_, rfl⟩
  rw [huz] at HNF2
  have buz : -131072 ≤ uz ∧ uz ≤ 131072 := by omega
  have wuz : wrap64 uz = uz := by unfold wrap64; omega
  obtain ⟨vz, hvz⟩ : ∃ x, uz * 1048576 = x := ⟨_, rfl⟩
  rw [hvz] at HNF2
  have bvz : -137438953472 ≤ vz ∧ vz ≤ 137438953472 := by omega
  have wvz : wrap64 vz = vz := by unfold wrap64; omega
  obtain ⟨sz, hsz⟩ : ∃ x, Pz + vz = x := ⟨_, rfl⟩
  rw [hsz] at HNF2
  have bsz : -4535485464576 ≤ sz ∧ sz ≤ 4535485464576 := by omega
  have wsz : wrap64 sz = sz := by unfold wrap64; omega
  have HAT : atOk ⟨sx, sy, sz⟩ := by unfold atOk in3; simp only; omega
  have HAT := Lh HAT
  have HWX := Lh (fun W => (congrArg (fun z : Int => Calls Try.prog 22 #[.int .i64 wx, .int .i64 z] W fun e w' => e = .returned (.int .i64 qx) ∧ w' = W) wmm).mpr (HWX.out W))
  have HWY := Lh (fun W => (congrArg (fun z : Int => Calls Try.prog 22 #[.int .i64 wy, .int .i64 z] W fun e w' => e = .returned (.int .i64 qy) ∧ w' = W) wmm).mpr (HWY.out W))
  have HWZ := Lh (fun W => (congrArg (fun z : Int => Calls Try.prog 22 #[.int .i64 wz, .int .i64 z] W fun e w' => e = .returned (.int .i64 qz) ∧ w' = W) wmm).mpr (HWZ.out W))
  clear bn bnn hpa bx by_ bz bux buy buz bvx bvy bvz bsx bsy bsz hqx hqy hqz
  refine (HNE.out w9).mono ?_
  rintro e w9 ⟨rfl, rfl⟩
  go_wp2_with fail
  have lT : w.heap.size < w9.heap.size := blk_lt T0.out
  have l7 : C7 < w9.heap.size := blk_lt C7b.out
  have x0 : w9.cell? ⟨C7, 0, none⟩ = some (.int .i64 Px) := (blk_cell C7b.out 0).trans rfl
  have x1 : w9.cell? ⟨C7, 1, none⟩ = some (.int .i64 Py) := (blk_cell C7b.out 1).trans rfl
  have x2 : w9.cell? ⟨C7, 2, none⟩ = some (.int .i64 Pz) := (blk_cell C7b.out 2).trans rfl
  have t27 : w9.cell? ⟨w.heap.size, 27, none⟩ = some (.int .i64 wx) := (blk_cell T0.out 27).trans rfl
  have t28 : w9.cell? ⟨w.heap.size, 28, none⟩ = some (.int .i64 wy) := (blk_cell T0.out 28).trans rfl
  have t29 : w9.cell? ⟨w.heap.size, 29, none⟩ = some (.int .i64 wz) := (blk_cell T0.out 29).trans rfl
  have l7b : C7 < C8 := L78.out
  have lTb : w.heap.size < C8 := LT8.out
  have l8 : C8 ≤ w9.heap.size := Nat.le_of_lt (blk_lt C8b.out)
  have HB := Lh ((Below.refl (C8) w9).drew)
  have HA := Lh (show w9.drew.heap[C8]? = _ from C8b.out)
  have FF := Lh (show ∀ V, Hid (Below (C8) w9 V) → V.cell? ⟨C7, 0, none⟩ = some (.int .i64 Px) ∧ V.cell? ⟨C7, 1, none⟩ = some (.int .i64 Py) ∧ V.cell? ⟨C7, 2, none⟩ = some (.int .i64 Pz) ∧ V.cell? ⟨w.heap.size, 27, none⟩ = some (.int .i64 wx) ∧ V.cell? ⟨w.heap.size, 28, none⟩ = some (.int .i64 wy) ∧ V.cell? ⟨w.heap.size, 29, none⟩ = some (.int .i64 wz) from fun V HB => ⟨(HB.out.cell (p := ⟨C7, 0, none⟩) (l7b)).trans x0, (HB.out.cell (p := ⟨C7, 1, none⟩) (l7b)).trans x1, (HB.out.cell (p := ⟨C7, 2, none⟩) (l7b)).trans x2, (HB.out.cell (p := ⟨w.heap.size, 27, none⟩) (lTb)).trans t27, (HB.out.cell (p := ⟨w.heap.size, 28, none⟩) (lTb)).trans t28, (HB.out.cell (p := ⟨w.heap.size, 29, none⟩) (lTb)).trans t29⟩)
  refine start_ (n := 42) (S := fun w' => w'.cell? ⟨C7, 0, none⟩ = some (.int .i64 Px) ∧ w'.cell? ⟨C7, 1, none⟩ = some (.int .i64 Py) ∧ w'.cell? ⟨C7, 2, none⟩ = some (.int .i64 Pz) ∧ w'.cell? ⟨w.heap.size, 27, none⟩ = some (.int .i64 wx) ∧ w'.cell? ⟨w.heap.size, 28, none⟩ = some (.int .i64 wy) ∧ w'.cell? ⟨w.heap.size, 29, none⟩ = some (.int .i64 wz)) (ds := []) (MT 0 42) (by kernel_rfl) rfl rfl (FF.out _ HB) (fun hHeld => ?_)
  obtain ⟨wd, hwd⟩ : ∃ x, w9.drew = x := ⟨_, rfl⟩
  rw [hwd] at HB hHeld HA ⊢
  clear hwd
  refine pu_ 0 34 (h := ?_)
  refine pu_ 1 35 (h := ?_)
  refine pu_ 3 37 (h := ?_)
  refine pu_ 4 38 (h := ?_)
  refine pu_ 6 40 (h := ?_)
  refine pu_ 7 41 (h := ?_)
  refine pu_ 9 43 (h := ?_)
  refine pu_ 13 47 (h := ?_)
  refine pu_ 14 48 (h := ?_)
  refine pu_ 16 50 (h := ?_)
  refine pu_ 17 51 (h := ?_)
  refine pu_ 19 53 (h := ?_)
  refine pu_ 20 54 (h := ?_)
  refine pu_ 22 56 (h := ?_)
  refine pu_ 26 60 (h := ?_)
  refine pu_ 27 61 (h := ?_)
  refine pu_ 29 63 (h := ?_)
  refine pu_ 30 64 (h := ?_)
  refine pu_ 32 66 (h := ?_)
  refine pu_ 33 67 (h := ?_)
  refine pu_ 35 69 (h := ?_)
  refine ta_ 2 36 hHeld (h := ?_)
  refine ta_ 5 39 hHeld (h := ?_)
  refine ta_ 15 49 hHeld (h := ?_)
  refine ta_ 18 52 hHeld (h := ?_)
  refine ta_ 28 62 hHeld (h := ?_)
  refine ta_ 31 65 hHeld (h := ?_)
  refine on_ 8 (some 42) (h := fun K hK => ?_)
  refine gs_ Try.func22 #[.int .i64 wx, .int .i64 (wrap64 mm)] ?_
  with_reducible refine (HWX.out _).mono ?_
  rintro e' w4x ⟨rfl, rfl⟩
  refine ⟨_, rfl, ?_⟩
  refine hK.out _ _ (FF.out _ HB) (fun hHeld => ?_)
  clear hK K
  refine no_ (h := ?_)
  refine pu_ 10 44 (h := ?_)
  refine pu_ 11 45 (h := ?_)
  refine pu_ 12 46 (h := ?_)
  refine on_ 21 (some 55) (h := fun K hK => ?_)
  refine gs_ Try.func22 #[.int .i64 wy, .int .i64 (wrap64 mm)] ?_
  with_reducible refine (HWY.out _).mono ?_
  rintro e' w4x ⟨rfl, rfl⟩
  refine ⟨_, rfl, ?_⟩
  refine hK.out _ _ (FF.out _ HB) (fun hHeld => ?_)
  clear hK K
  refine no_ (h := ?_)
  refine pu_ 23 57 (h := ?_)
  refine pu_ 24 58 (h := ?_)
  refine pu_ 25 59 (h := ?_)
  refine on_ 34 (some 68) (h := fun K hK => ?_)
  refine gs_ Try.func22 #[.int .i64 wz, .int .i64 (wrap64 mm)] ?_
  with_reducible refine (HWZ.out _).mono ?_
  rintro e' w4x ⟨rfl, rfl⟩
  refine ⟨_, rfl, ?_⟩
  refine hK.out _ _ (FF.out _ HB) (fun hHeld => ?_)
  clear hK K
  refine no_ (h := ?_)
  refine pu_ 36 70 (h := ?_)
  refine pu_ 37 71 (h := ?_)
  refine pu_ 38 72 (h := ?_)
  refine pu_ 39 73 (h := ?_)
  refine pu_ 40 74 (h := ?_)
  refine on_ 41 (none) (h := fun K hK => ?_)
  have sc0 : World.cell? _ ⟨C8, 0, none⟩ = some (.int .i64 Qx) := (blk_cell HA.out 0).trans rfl
  have sf0 := blk_frozen HA.out 0
  have sc1 : World.cell? _ ⟨C8, 1, none⟩ = some (.int .i64 Qy) := (blk_cell HA.out 1).trans rfl
  have sf1 := blk_frozen HA.out 1
  have sc2 : World.cell? _ ⟨C8, 2, none⟩ = some (.int .i64 Qz) := (blk_cell HA.out 2).trans rfl
  have sf2 := blk_frozen HA.out 2
  refine skip_ (w1 := ?_) (by rfl) rfl ?_ ?_
  rotate_left
  · go_simp
    rfl
  have HA := Lh (blk7m HA.out (.int .i64 sx) (.int .i64 sy) (.int .i64 sz))
  have HB := Lh (((HB.out.setCell (p := ⟨C8, 0, none⟩) (Nat.le_refl _) (.int .i64 sx)).setCell (p := ⟨C8, 1, none⟩) (Nat.le_refl _) (.int .i64 sy)).setCell (p := ⟨C8, 2, none⟩) (Nat.le_refl _) (.int .i64 sz))
  clear sc0 sc1 sc2 sf0 sf1 sf2
  refine hK.out _ _ (FF.out _ HB) (fun hHeld => ?_)
  clear hK K
  refine done_ (by kernel_rfl) ?_
  obtain ⟨wB, hwn⟩ : ∃ V, (((w4x.setCell ⟨C8, 0, none⟩ (.int .i64 sx)).setCell ⟨C8, 1, none⟩ (.int .i64 sy)).setCell ⟨C8, 2, none⟩ (.int .i64 sz)) = V := ⟨_, rfl⟩
  rw [hwn] at HA HB ⊢
  clear hwn hHeld
  have tot := Lh (bc8.out.trans (HB.out.mono (Nat.le_of_eq hC8_.out)))
  have HC1 := Lh (HC18.out.below tot.out)
  have G0 := Lh (G08.out.below tot.out)
  have G1 := Lh (G18.out.below tot.out)
  have G2 := Lh (G28.out.below tot.out)
  have R1 := Lh ((HB.out.block _ LR1.out).trans R1.out)
  have R2 := Lh ((HB.out.block _ LR2.out).trans R2.out)
  have C4b := Lh ((HB.out.block _ L48.out).trans C4b.out)
  have C5b := Lh ((HB.out.block _ L58.out).trans C5b.out)
  have W := Lh (W.out.trans (HB.out.mono (show w.heap.size ≤ C8 from Nat.le_of_lt LT8.out)))
  have l5 : C5 < wB.heap.size := blk_lt C5b.out
  have l8_ : C8 < wB.heap.size := blk_lt HA.out
  clear x0 x1 x2 t27 t28 t29 lT l7 l7b lTb l8 wnn wmm wux wuy wuz wvx wvy wvz wsx wsy wsz hux huy huz hvx hvy hvz hsx hsy hsz hnn hmm
  have x0 : wB.cell? ⟨C5, 0, none⟩ = some (.slice E0 NP f0) := (blk_cell C5b.out 0).trans rfl
  have x1 : wB.cell? ⟨C5, 1, none⟩ = some (.slice E1 NA f1) := (blk_cell C5b.out 1).trans rfl
  have x2 : wB.cell? ⟨C5, 2, none⟩ = some (.slice E2 NE f2) := (blk_cell C5b.out 2).trans rfl
  have x3 : wB.cell? ⟨C5, 3, none⟩ = some (.int .i64 ra) := (blk_cell C5b.out 3).trans rfl
  have y0 : wB.cell? ⟨C8, 0, none⟩ = some (.int .i64 sx) := (blk_cell HA.out 0).trans rfl
  have y1 : wB.cell? ⟨C8, 1, none⟩ = some (.int .i64 sy) := (blk_cell HA.out 1).trans rfl
  have y2 : wB.cell? ⟨C8, 2, none⟩ = some (.int .i64 sz) := (blk_cell HA.out 2).trans rfl
  have y3 : wB.cell? ⟨C8, 3, none⟩ = some (.int .i64 Qw) := (blk_cell HA.out 3).trans rfl
  have y4 : wB.cell? ⟨C8, 4, none⟩ = some (.int .i64 Qi) := (blk_cell HA.out 4).trans rfl
  have y5 : wB.cell? ⟨C8, 5, none⟩ = some (.int .i64 Qj) := (blk_cell HA.out 5).trans rfl
  have y6 : wB.cell? ⟨C8, 6, none⟩ = some (.int .i64 Qk_) := (blk_cell HA.out 6).trans rfl
  go_wp2_with fail
  refine (HPL.out ⟨sx, sy, sz⟩ HAT.out wB G0.out G1.out G2.out).mono ?_
  rintro e wC ⟨v2, rfl, hv2, hb, hfb⟩
  have HFB := Lh (hfb.mono W.out.size)
  clear hfb
  have R1 := Lh ((hb.block _ (blk_lt R1.out)).trans R1.out)
  have R2 := Lh ((hb.block _ (blk_lt R2.out)).trans R2.out)
  have C4b := Lh ((hb.block _ (blk_lt C4b.out)).trans C4b.out)
  have W := Lh (bthen W.out hb)
  have HC1 := Lh (HC1.out.below hb)
  have HC2 : Hid (CoreAt s2 ⟨NF, ⟨Qw, Qi, Qj, Qk_⟩⟩ wC v2) := Lh ⟨p2, a2, e2, HCI.out, by rw [HRA.out, ← HNF2.out]; exact hv2⟩
  obtain ⟨B3, B4, B5, d3, d4, d5, hv2e, _⟩ := hv2.out
  obtain ⟨n3, hn3⟩ : ∃ n, (p2.map (placePt (rowsF (⟨Qw, Qi, Qj, Qk_⟩ : Q4)) (⟨sx, sy, sz⟩ : P3))).length = n := ⟨_, rfl⟩
  obtain ⟨n4, hn4⟩ : ∃ n, (waysF (rowsF (⟨Qw, Qi, Qj, Qk_⟩ : Q4)) a2).length = n := ⟨_, rfl⟩
  obtain ⟨n5, hn5⟩ : ∃ n, (waysF (rowsF (⟨Qw, Qi, Qj, Qk_⟩ : Q4)) e2).length = n := ⟨_, rfl⟩
  (try simp only at hv2e)
  rw [hn3, hn4, hn5] at hv2e
  subst hv2e
  clear hn3 hn4 hn5 hv2 hb x0 x1 x2 x3 y0 y1 y2 y3 y4 y5 y6 l5 l8_
  have N101 := Lh (blk_lt R1.out)
  obtain ⟨C10, hC10⟩ : ∃ g, wC.heap.size = g := ⟨_, rfl⟩
  have zc := heap_alloc_new wC (.cells #[.slice B3 n3 d3, .slice B4 n4 d4, .slice B5 n5 d5, .int .i64 ra] 36)
  have bc := (Below.refl wC.heap.size wC).alloc (Nat.le_refl _) (.cells #[.slice B3 n3 d3, .slice B4 n4 d4, .slice B5 n5 d5, .int .i64 ra] 36)
  obtain ⟨wD, hw⟩ : ∃ V, wC.alloc (.cells #[.slice B3 n3 d3, .slice B4 n4 d4, .slice B5 n5 d5, .int .i64 ra] 36) = V := ⟨_, rfl⟩
  rw [hw] at zc bc
  rw [hC10] at zc
  have C10b := Lh zc
  have R1 := Lh ((bc.block _ (blk_lt R1.out)).trans R1.out)
  have R2 := Lh ((bc.block _ (blk_lt R2.out)).trans R2.out)
  have C4b := Lh ((bc.block _ (blk_lt C4b.out)).trans C4b.out)
  have W := Lh (bthen W.out bc)
  have HC1 := Lh (HC1.out.below bc)
  have HC2 := Lh (HC2.out.below bc)
  have hw_wD := Lh hw
  have hC10_ := Lh hC10
  clear zc bc hw hC10
  rw [hC10_.out] at N101
  go_wp2_with fail
  rw [hw_wD.out, hC10_.out]
  have l4 : C4 < wD.heap.size := blk_lt C4b.out
  have l10 : C10 < wD.heap.size := blk_lt C10b.out
  have x0 : wD.cell? ⟨C4, 0, none⟩ = some (.slice B0 n0 d0) := (blk_cell C4b.out 0).trans rfl
  have x1 : wD.cell? ⟨C4, 1, none⟩ = some (.slice B1 n1 d1) := (blk_cell C4b.out 1).trans rfl
  have x2 : wD.cell? ⟨C4, 2, none⟩ = some (.slice B2 n2 d2) := (blk_cell C4b.out 2).trans rfl
  have x3 : wD.cell? ⟨C4, 3, none⟩ = some (.int .i64 ra1) := (blk_cell C4b.out 3).trans rfl
  have y0 : wD.cell? ⟨C10, 0, none⟩ = some (.slice B3 n3 d3) := (blk_cell C10b.out 0).trans rfl
  have y1 : wD.cell? ⟨C10, 1, none⟩ = some (.slice B4 n4 d4) := (blk_cell C10b.out 1).trans rfl
  have y2 : wD.cell? ⟨C10, 2, none⟩ = some (.slice B5 n5 d5) := (blk_cell C10b.out 2).trans rfl
  have y3 : wD.cell? ⟨C10, 3, none⟩ = some (.int .i64 ra) := (blk_cell C10b.out 3).trans rfl
  have HB := Lh ((Below.refl (wD.heap.size) wD).drew)
  have Q1 := Lh (show wD.drew.heap[w.heap.size + 1]? = _ from R1.out)
  have Q2 := Lh (show wD.drew.heap[w.heap.size + 1 + 1]? = _ from R2.out)
  have P4 := Lh (show wD.drew.heap[C4]? = _ from C4b.out)
  have P10 := Lh (show wD.drew.heap[C10]? = _ from C10b.out)
  refine start_ (n := 4) (S := fun w' => w'.cell? ⟨C4, 0, none⟩ = some (.slice B0 n0 d0) ∧ w'.cell? ⟨C4, 1, none⟩ = some (.slice B1 n1 d1) ∧ w'.cell? ⟨C4, 2, none⟩ = some (.slice B2 n2 d2) ∧ w'.cell? ⟨C4, 3, none⟩ = some (.int .i64 ra1) ∧ w'.cell? ⟨C10, 0, none⟩ = some (.slice B3 n3 d3) ∧ w'.cell? ⟨C10, 1, none⟩ = some (.slice B4 n4 d4) ∧ w'.cell? ⟨C10, 2, none⟩ = some (.slice B5 n5 d5) ∧ w'.cell? ⟨C10, 3, none⟩ = some (.int .i64 ra)) (ds := [3]) (MT 0 4) (by kernel_rfl) rfl rfl ⟨(HB.out.cell (p := ⟨C4, 0, none⟩) (l4)).trans x0, (HB.out.cell (p := ⟨C4, 1, none⟩) (l4)).trans x1, (HB.out.cell (p := ⟨C4, 2, none⟩) (l4)).trans x2, (HB.out.cell (p := ⟨C4, 3, none⟩) (l4)).trans x3, (HB.out.cell (p := ⟨C10, 0, none⟩) (l10)).trans y0, (HB.out.cell (p := ⟨C10, 1, none⟩) (l10)).trans y1, (HB.out.cell (p := ⟨C10, 2, none⟩) (l10)).trans y2, (HB.out.cell (p := ⟨C10, 3, none⟩) (l10)).trans y3⟩ (fun hHeld => ?_)
  obtain ⟨wd, hwd⟩ : ∃ x, wD.drew = x := ⟨_, rfl⟩
  rw [hwd] at HB hHeld Q1 Q2 P4 P10 ⊢
  clear hwd
  refine ta_ 0 81 hHeld (h := ?_)
  refine ta_ 1 82 hHeld (h := ?_)
  refine on_ 2 (none) (h := fun K hK => ?_)
  have sc0 : World.cell? _ ⟨w.heap.size + 1, 0, none⟩ = some (.slice none 0 0) := (blk_cell Q1.out 0).trans rfl
  have sf0 := blk_frozen Q1.out 0
  have sc1 : World.cell? _ ⟨w.heap.size + 1, 1, none⟩ = some (.slice none 0 0) := (blk_cell Q1.out 1).trans rfl
  have sf1 := blk_frozen Q1.out 1
  have sc2 : World.cell? _ ⟨w.heap.size + 1, 2, none⟩ = some (.slice none 0 0) := (blk_cell Q1.out 2).trans rfl
  have sf2 := blk_frozen Q1.out 2
  have sc3 : World.cell? _ ⟨w.heap.size + 1, 3, none⟩ = some (.int .i64 0) := (blk_cell Q1.out 3).trans rfl
  have sf3 := blk_frozen Q1.out 3
  refine skip_ (w1 := ?_) (by rfl) rfl ?_ ?_
  rotate_left
  · go_simp
    rfl
  clear sc0 sc1 sc2 sc3 sf0 sf1 sf2 sf3
  have Q2 := Lh ((other4 (show w.heap.size + 1 + 1 ≠ w.heap.size + 1 by omega) (.slice B0 n0 d0) (.slice B1 n1 d1) (.slice B2 n2 d2) (.int .i64 ra1)).trans Q2.out)
  have P4 := Lh ((other4 (show C4 ≠ w.heap.size + 1 by have := N41.out; omega) (.slice B0 n0 d0) (.slice B1 n1 d1) (.slice B2 n2 d2) (.int .i64 ra1)).trans P4.out)
  have P10 := Lh ((other4 (show C10 ≠ w.heap.size + 1 by have := N101.out; omega) (.slice B0 n0 d0) (.slice B1 n1 d1) (.slice B2 n2 d2) (.int .i64 ra1)).trans P10.out)
  refine hK.out _ _ ⟨(blk_cell P4.out 0).trans rfl, (blk_cell P4.out 1).trans rfl, (blk_cell P4.out 2).trans rfl, (blk_cell P4.out 3).trans rfl, (blk_cell P10.out 0).trans rfl, (blk_cell P10.out 1).trans rfl, (blk_cell P10.out 2).trans rfl, (blk_cell P10.out 3).trans rfl⟩ (fun hHeld => ?_)
  clear hK K
  refine last_ (i := 3) (N := none) (MT 4 0) rfl rfl (by kernel_rfl) (by decide) (fun K hK => ?_)
  have sc0 : World.cell? _ ⟨w.heap.size + 1 + 1, 0, none⟩ = some (.slice none 0 0) := (blk_cell Q2.out 0).trans rfl
  have sf0 := blk_frozen Q2.out 0
  have sc1 : World.cell? _ ⟨w.heap.size + 1 + 1, 1, none⟩ = some (.slice none 0 0) := (blk_cell Q2.out 1).trans rfl
  have sf1 := blk_frozen Q2.out 1
  have sc2 : World.cell? _ ⟨w.heap.size + 1 + 1, 2, none⟩ = some (.slice none 0 0) := (blk_cell Q2.out 2).trans rfl
  have sf2 := blk_frozen Q2.out 2
  have sc3 : World.cell? _ ⟨w.heap.size + 1 + 1, 3, none⟩ = some (.int .i64 0) := (blk_cell Q2.out 3).trans rfl
  have sf3 := blk_frozen Q2.out 3
  refine skip_ (w1 := ?_) (by rfl) rfl ?_ ?_
  rotate_left
  · go_simp
    rfl
  clear sc0 sc1 sc2 sc3 sf0 sf1 sf2 sf3
  refine hK.out _ _ ?_
  clear hK K
  refine done_ (by kernel_rfl) ?_
  have Z1 := (HB.out.block _ (blk_lt R1.out)).trans R1.out
  have Z2 := (HB.out.block _ (blk_lt R2.out)).trans R2.out
  have A1_ := (HC1.out.below HB.out).setS Z1 (.slice B0 n0 d0) (.slice B1 n1 d1) (.slice B2 n2 d2) (.int .i64 ra1)
  have A2_ := (HC2.out.below HB.out).setS Z1 (.slice B0 n0 d0) (.slice B1 n1 d1) (.slice B2 n2 d2) (.int .i64 ra1)
  have WE := bb4 (W.out.trans (HB.out.mono (show w.heap.size ≤ wD.heap.size from W.out.size))) (show w.heap.size ≤ w.heap.size + 1 by omega) (.slice B0 n0 d0) (.slice B1 n1 d1) (.slice B2 n2 d2) (.int .i64 ra1)
  have Z3 := bs4 Z1 (.slice B0 n0 d0) (.slice B1 n1 d1) (.slice B2 n2 d2) (.int .i64 ra1)
  have Z4 := (other4 (show w.heap.size + 1 + 1 ≠ w.heap.size + 1 by omega) (.slice B0 n0 d0) (.slice B1 n1 d1) (.slice B2 n2 d2) (.int .i64 ra1)).trans Z2
  obtain ⟨wE, hwE⟩ : ∃ V, ((((wd.setCell ⟨w.heap.size + 1, 0, none⟩ (.slice B0 n0 d0)).setCell ⟨w.heap.size + 1, 1, none⟩ (.slice B1 n1 d1)).setCell ⟨w.heap.size + 1, 2, none⟩ (.slice B2 n2 d2)).setCell ⟨w.heap.size + 1, 3, none⟩ (.int .i64 ra1)) = V := ⟨_, rfl⟩
  rw [hwE] at A1_ A2_ WE Z3 Z4 ⊢
  have A3_ := A1_.setS Z4 (.slice B3 n3 d3) (.slice B4 n4 d4) (.slice B5 n5 d5) (.int .i64 ra)
  have A4_ := A2_.setS Z4 (.slice B3 n3 d3) (.slice B4 n4 d4) (.slice B5 n5 d5) (.int .i64 ra)
  have WF := bb4 WE (show w.heap.size ≤ w.heap.size + 1 + 1 by omega) (.slice B3 n3 d3) (.slice B4 n4 d4) (.slice B5 n5 d5) (.int .i64 ra)
  have Z5 := (other4 (show w.heap.size + 1 ≠ w.heap.size + 1 + 1 by omega) (.slice B3 n3 d3) (.slice B4 n4 d4) (.slice B5 n5 d5) (.int .i64 ra)).trans Z3
  have Z6 := bs4 Z4 (.slice B3 n3 d3) (.slice B4 n4 d4) (.slice B5 n5 d5) (.int .i64 ra)
  obtain ⟨wF, hwF⟩ : ∃ V, ((((wE.setCell ⟨w.heap.size + 1 + 1, 0, none⟩ (.slice B3 n3 d3)).setCell ⟨w.heap.size + 1 + 1, 1, none⟩ (.slice B4 n4 d4)).setCell ⟨w.heap.size + 1 + 1, 2, none⟩ (.slice B5 n5 d5)).setCell ⟨w.heap.size + 1 + 1, 3, none⟩ (.int .i64 ra)) = V := ⟨_, rfl⟩
  rw [hwF] at A3_ A4_ WF Z5 Z6 ⊢
  have r0 : wF.cell? ⟨w.heap.size + 1, 0, none⟩ = some (.slice B0 n0 d0) := (blk_cell Z5 0).trans rfl
  have r1 : wF.cell? ⟨w.heap.size + 1, 1, none⟩ = some (.slice B1 n1 d1) := (blk_cell Z5 1).trans rfl
  have r2 : wF.cell? ⟨w.heap.size + 1, 2, none⟩ = some (.slice B2 n2 d2) := (blk_cell Z5 2).trans rfl
  have r3 : wF.cell? ⟨w.heap.size + 1, 3, none⟩ = some (.int .i64 ra1) := (blk_cell Z5 3).trans rfl
  have q0 : wF.cell? ⟨w.heap.size + 1 + 1, 0, none⟩ = some (.slice B3 n3 d3) := (blk_cell Z6 0).trans rfl
  have q1 : wF.cell? ⟨w.heap.size + 1 + 1, 1, none⟩ = some (.slice B4 n4 d4) := (blk_cell Z6 1).trans rfl
  have q2 : wF.cell? ⟨w.heap.size + 1 + 1, 2, none⟩ = some (.slice B5 n5 d5) := (blk_cell Z6 2).trans rfl
  have q3 : wF.cell? ⟨w.heap.size + 1 + 1, 3, none⟩ = some (.int .i64 ra) := (blk_cell Z6 3).trans rfl
  have hA3 := Lh A3_
  have hA4 := Lh A4_
  have hWF := Lh WF
  clear Z1 Z2 Z3 Z4 Z5 Z6 A1_ A2_ WE A3_ A4_ WF hwE hwF
  go_wp2
  exact bodyPost_ret (v := .tuple #[.agg #[.slice B0 n0 d0, .slice B1 n1 d1, .slice B2 n2 d2, .int .i64 ra1], .agg #[.slice B3 n3 d3, .slice B4 n4 d4, .slice B5 n5 d5, .int .i64 ra]]) (by simp [results, Try.results19, go_sem, r0, r1, r2, r3, q0, q1, q2, q3]) rfl ⟨_, _, rfl, hA3.out, hA4.out, hWF.out, HFA.out, HFB.out⟩
end Go.Proofs.Ytckdhahceelckaa.G
set_option maxRecDepth 100000
namespace Go.Proofs.Ytckdhahceelckaa.G
open Go.ChangeShapes Go.WideShapes Go.RowKit
set_option linter.unusedVariables false
set_option linter.unusedSimpArgs false
theorem cell_num {w : World} {r : Reach} {base : Nat} {v : Value} (h : Cell.okWide Try.prog w r base 3 v) : ∃ n, v = .int .i64 n ∧ i64 n := by
  simp only [Cell.okWide, Try.underlying3] at h
  cases v <;> simp_all [Cell.ok, Try.underlying3]
  obtain ⟨h1, h2⟩ := h.2
  exact ⟨h1, h2⟩
theorem cell_pts {w : World} {r : Reach} {base : Nat} {v : Value} (h : Cell.okWide Try.prog w r base 24 v) : ∃ A n c, v = .slice A n c ∧ ∀ a, A = some a → a.spot = none ∧ a.block < w.heap.size := by
  simp only [Cell.okWide, Try.underlying24] at h
  cases v with
  | slice A n c =>
    refine ⟨A, n, c, rfl, fun a e => ?_⟩
    subst e
    simp only [Cell.ok, Try.underlying24] at h
    obtain ⟨_, _, _, hs, row, cells, hsh, _⟩ := h
    refine ⟨hs, ?_⟩
    unfold World.shape? at hsh
    rcases Nat.lt_or_ge a.block w.heap.size with h' | h'
    · exact h'
    · rw [Array.getElem?_eq_none h'] at hsh; cases hsh
  | _ => simp [Cell.ok, Try.underlying24] at h
theorem list_of {α : Type} {Q : Nat → α → Prop} : ∀ (n : Nat), (∀ i, i < n → ∃ p, Q i p) → ∃ l : List α, l.length = n ∧ ∀ i p, l[i]? = some p → Q i p
  | 0, _ => ⟨[], rfl, fun i p h => by simp at h⟩
  | n + 1, H => by
    obtain ⟨l, hl, hq⟩ := list_of n fun i hi => H i (by omega)
    obtain ⟨p, hp⟩ := H n (by omega)
    refine ⟨l ++ [p], by simp [hl], fun i q h => ?_⟩
    rcases Nat.lt_or_ge i l.length with h' | h'
    · rw [List.getElem?_append_left h'] at h
      exact hq i q h
    · rw [List.getElem?_append_right h'] at h
      have : i - l.length = 0 := by
        rcases Nat.eq_zero_or_pos (i - l.length) with e | e
        · exact e
        · rw [List.getElem?_eq_none (by simp; omega)] at h; cases h
      rw [this] at h
      simp at h
      subst h
      have : i = n := by omega
      rwa [this]
section
variable {H : Type} {enc : TypeId × Value → H} {W : World} {base : Nat} {spare : Nat → Bool} {held : Bool}
set_option maxRecDepth 100000 in
/-- a slice of points that reads, read -/
theorem open_pts {fuel : Nat} {A : Option Addr} {n c : Nat} {y : DataW H × List MemPlace} (hA : ∀ a, A = some a → a.spot = none ∧ a.block < W.heap.size)
    (h : DataW.trod enc Try.prog W base spare held fuel 24 [.slice A n c] = some y) (hw : ∀ k ∈ y.1.weights Try.prog 24, k ≤ reachBytes) :
    ∃ l : List P3, l.length = n ∧ RdB W A l ∧ (∀ p ∈ l, pI64 p) ∧ l.length ≤ 4611686018427387904 := by
  rcases Go.Deep.open_slice Try.underlying24 h with ⟨e, _⟩ | ⟨a, len, cap, m, k, D, Pl, e, hb, hl, hc, hm, hx, hf⟩
  · simp only [List.cons.injEq, Value.slice.injEq, and_true] at e
    obtain ⟨rfl, rfl, rfl⟩ := e
    exact ⟨[], rfl, RdB.nil W, by simp, by simp⟩
  · simp only [List.cons.injEq, Value.slice.injEq, and_true] at e
    obtain ⟨rfl, rfl, rfl⟩ := e
    obtain ⟨hs, hlt⟩ := hA a rfl
    obtain ⟨b, o, s⟩ := a
    simp only at hs hlt
    subst hs
    have hlen : n ≤ 4611686018427387904 := by
      rw [hx] at hw
      have := hw _ (by rw [DataW.weights, Try.underlying24]; exact List.mem_cons_self)
      have hbs : Try.prog.bytesOf 23 = 24 := by kernel_rfl
      rw [hbs] at this
      simp [reachBytes] at this
      omega
    have hcells : Try.prog.cellsOf 23 = 3 := by kernel_rfl
    have each : ∀ i, i < n → ∃ p : P3, pI64 p ∧ W.cell? ⟨b, o + i * 3, none⟩ = some (.int .i64 p.x) ∧ W.cell? ⟨b, o + i * 3 + 1, none⟩ = some (.int .i64 p.y) ∧ W.cell? ⟨b, o + i * 3 + 2, none⟩ = some (.int .i64 p.z) := by
      intro i hi
      have him : i < m := by
        rw [hm]; split <;> omega
      obtain ⟨cs', h1, h2⟩ := hf i him
      rw [hcells] at h1
      obtain ⟨_, hl3, hg⟩ := World.cells?_some h1
      have ea : (⟨b, o, none⟩ : Addr).add (i * 3) = ⟨b, o + i * 3, none⟩ := by
        unfold Addr.add
        split
        · rename_i h0; rw [h0]; rfl
        · rfl
      rw [ea] at hg
      obtain ⟨v0, v1, v2, rfl⟩ : ∃ v0 v1 v2, cs' = [v0, v1, v2] := by
        match cs', hl3 with
        | [v0, v1, v2], _ => exact ⟨v0, v1, v2, rfl⟩
      obtain ⟨y0, y1, y2, n', _, _, t0, t1, t2⟩ := Go.Deep.trod_struct3 Try.underlying23 h2
      obtain ⟨x, hx', _, wx⟩ := DataW.trod_int (k := .i64) Try.underlying3 t0
      obtain ⟨y, hy', _, wy⟩ := DataW.trod_int (k := .i64) Try.underlying3 t1
      obtain ⟨z, hz', _, wz⟩ := DataW.trod_int (k := .i64) Try.underlying3 t2
      have k3 : Try.prog.cellsOf 3 = 1 := by kernel_rfl
      simp [k3] at hx' hy' hz'
      subst hx' hy' hz'
      exact ⟨⟨x, y, z⟩, ⟨i64_of_wf wx, i64_of_wf wy, i64_of_wf wz⟩, hg 0 (by decide), hg 1 (by decide), hg 2 (by decide)⟩
    obtain ⟨l, hll, hq⟩ := list_of n each
    refine ⟨l, hll, ⟨fun i p hp => ⟨b, o, rfl, hlt, (hq i p hp).2⟩, fun ad e => by cases e; exact hlt⟩, fun p hp => ?_, by omega⟩
    obtain ⟨i, hi⟩ := List.getElem?_of_mem hp
    exact (hq i p hi).1
theorem array30 {α : Type} {cs : Array α} (h : cs.size = 30) : ∃ c0 c1 c2 c3 c4 c5 c6 c7 c8 c9 c10 c11 c12 c13 c14 c15 c16 c17 c18 c19 c20 c21 c22 c23 c24 c25 c26 c27 c28 c29, cs = #[c0, c1, c2, c3, c4, c5, c6, c7, c8, c9, c10, c11, c12, c13, c14, c15, c16, c17, c18, c19, c20, c21, c22, c23, c24, c25, c26, c27, c28, c29] := by
  obtain ⟨l⟩ := cs
  match l, h with
  | [c0, c1, c2, c3, c4, c5, c6, c7, c8, c9, c10, c11, c12, c13, c14, c15, c16, c17, c18, c19, c20, c21, c22, c23, c24, c25, c26, c27, c28, c29], _ => exact ⟨c0, c1, c2, c3, c4, c5, c6, c7, c8, c9, c10, c11, c12, c13, c14, c15, c16, c17, c18, c19, c20, c21, c22, c23, c24, c25, c26, c27, c28, c29, rfl⟩
set_option maxRecDepth 100000 in
theorem types33 : Try.prog.cellTypes Try.prog.depth 33 = some [3, 3, 3, 3, 3, 24, 3, 3, 3, 3, 3, 24, 3, 3, 3, 3, 3, 3, 3, 3, 3, 3, 3, 3, 3, 3, 3, 3, 3, 3] := by kernel_rfl
set_option maxRecDepth 100000 in
set_option maxHeartbeats 4000000 in
theorem open_raw5 {fuel : Nat} {v0 v1 v2 v3 v4 v5 : Value} {y : DataW H × List MemPlace} (h : DataW.trod enc Try.prog W base spare held fuel 26 [v0, v1, v2, v3, v4, v5] = some y) (hw : ∀ k ∈ y.1.weights Try.prog 26, k ≤ reachBytes) :
    ∃ m y', DataW.trod enc Try.prog W base spare held m 24 [v5] = some y' ∧ ∀ k ∈ y'.1.weights Try.prog 24, k ≤ reachBytes := by
  obtain ⟨xs, n, _, rfl, _, hlen, hf⟩ := DataW.trod_struct Try.underlying26 h
  have h3 := hf 3 _ rfl
  have e : ((List.drop 5 [v0, v1, v2, v3, v4, v5]).take (Try.prog.cellsOf 24)) = [v5] := by
    have : Try.prog.cellsOf 24 = 1 := by kernel_rfl
    rw [this]; rfl
  obtain ⟨y', hy'⟩ : ∃ y', xs[3]? = some y' := ⟨_, List.getElem?_eq_getElem (by rw [hlen]; decide)⟩
  rw [hy'] at h3
  refine ⟨n, y', (congrArg _ e.symm).trans h3, fun k hk => hw k ?_⟩
  rw [DataW.weights, Try.underlying26]
  exact DataW.weights_mem_each (j := 3) (t := 24) (d := y'.1) rfl (by rw [List.getElem?_map, hy']; rfl) k hk
set_option maxRecDepth 100000 in
set_option maxHeartbeats 8000000 in
theorem open_two {r : Reach} {b0 : Nat} {v : Value} {d : DataW H} {p : List MemPlace} (hval : Value.okWide Try.prog W r b0 33 v) (h : DataW.Trod enc Try.prog W base spare held 33 v d p) (hw : ∀ k ∈ d.weights Try.prog 33, k ≤ reachBytes) :
    ∃ k1 r1 h1 l1 A1 c1 k2 r2 h2 l2 A2 c2 p q near way, v = .agg (cTwo k1 r1 h1 A1 (List.length l1) c1 k2 r2 h2 A2 (List.length l2) c2 p q near way) ∧ RdB W A1 l1 ∧ RawOk k1 r1 h1 l1 ∧ RdB W A2 l2 ∧ RawOk k2 r2 h2 l2 ∧ i64s p ∧ i64s q ∧ i64 near ∧ pI64 way := by
  simp only [Value.okWide, Try.underlying33] at hval
  obtain ⟨cs, rfl, hsz, ts, hts, _, hc⟩ := hval
  have hC : Try.prog.cellsOf 33 = 30 := by kernel_rfl
  rw [types33] at hts
  cases hts
  obtain ⟨c0, c1, c2, c3, c4, c5, c6, c7, c8, c9, c10, c11, c12, c13, c14, c15, c16, c17, c18, c19, c20, c21, c22, c23, c24, c25, c26, c27, c28, c29, rfl⟩ := array30 (hsz.trans hC)
  obtain ⟨k1, rfl, ik1⟩ : ∃ n, c0 = .int .i64 n ∧ i64 n := by
    obtain ⟨u, hu, hk⟩ := hc 0 _ rfl
    cases hu
    exact cell_num hk
  obtain ⟨r1, rfl, ir1⟩ : ∃ n, c1 = .int .i64 n ∧ i64 n := by
    obtain ⟨u, hu, hk⟩ := hc 1 _ rfl
    cases hu
    exact cell_num hk
  obtain ⟨x1, rfl, ix1⟩ : ∃ n, c2 = .int .i64 n ∧ i64 n := by
    obtain ⟨u, hu, hk⟩ := hc 2 _ rfl
    cases hu
    exact cell_num hk
  obtain ⟨y1', rfl, iy1'⟩ : ∃ n, c3 = .int .i64 n ∧ i64 n := by
    obtain ⟨u, hu, hk⟩ := hc 3 _ rfl
    cases hu
    exact cell_num hk
  obtain ⟨z1', rfl, iz1'⟩ : ∃ n, c4 = .int .i64 n ∧ i64 n := by
    obtain ⟨u, hu, hk⟩ := hc 4 _ rfl
    cases hu
    exact cell_num hk
  obtain ⟨A1, n1, cap1, rfl, hA1⟩ : ∃ A n c, c5 = .slice A n c ∧ ∀ a, A = some a → a.spot = none ∧ a.block < W.heap.size := by
    obtain ⟨u, hu, hk⟩ := hc 5 _ rfl
    cases hu
    exact cell_pts hk
  obtain ⟨k2, rfl, ik2⟩ : ∃ n, c6 = .int .i64 n ∧ i64 n := by
    obtain ⟨u, hu, hk⟩ := hc 6 _ rfl
    cases hu
    exact cell_num hk
  obtain ⟨r2, rfl, ir2⟩ : ∃ n, c7 = .int .i64 n ∧ i64 n := by
    obtain ⟨u, hu, hk⟩ := hc 7 _ rfl
    cases hu
    exact cell_num hk
  obtain ⟨x2, rfl, ix2⟩ : ∃ n, c8 = .int .i64 n ∧ i64 n := by
    obtain ⟨u, hu, hk⟩ := hc 8 _ rfl
    cases hu
    exact cell_num hk
  obtain ⟨y2, rfl, iy2⟩ : ∃ n, c9 = .int .i64 n ∧ i64 n := by
    obtain ⟨u, hu, hk⟩ := hc 9 _ rfl
    cases hu
    exact cell_num hk
  obtain ⟨z2, rfl, iz2⟩ : ∃ n, c10 = .int .i64 n ∧ i64 n := by
    obtain ⟨u, hu, hk⟩ := hc 10 _ rfl
    cases hu
    exact cell_num hk
  obtain ⟨A2, n2, cap2, rfl, hA2⟩ : ∃ A n c, c11 = .slice A n c ∧ ∀ a, A = some a → a.spot = none ∧ a.block < W.heap.size := by
    obtain ⟨u, hu, hk⟩ := hc 11 _ rfl
    cases hu
    exact cell_pts hk
  obtain ⟨pa, rfl, ipa⟩ : ∃ n, c12 = .int .i64 n ∧ i64 n := by
    obtain ⟨u, hu, hk⟩ := hc 12 _ rfl
    cases hu
    exact cell_num hk
  obtain ⟨pb, rfl, ipb⟩ : ∃ n, c13 = .int .i64 n ∧ i64 n := by
    obtain ⟨u, hu, hk⟩ := hc 13 _ rfl
    cases hu
    exact cell_num hk
  obtain ⟨pd, rfl, ipd⟩ : ∃ n, c14 = .int .i64 n ∧ i64 n := by
    obtain ⟨u, hu, hk⟩ := hc 14 _ rfl
    cases hu
    exact cell_num hk
  obtain ⟨pw, rfl, ipw⟩ : ∃ n, c15 = .int .i64 n ∧ i64 n := by
    obtain ⟨u, hu, hk⟩ := hc 15 _ rfl
    cases hu
    exact cell_num hk
  obtain ⟨px, rfl, ipx⟩ : ∃ n, c16 = .int .i64 n ∧ i64 n := by
    obtain ⟨u, hu, hk⟩ := hc 16 _ rfl
    cases hu
    exact cell_num hk
  obtain ⟨py, rfl, ipy⟩ : ∃ n, c17 = .int .i64 n ∧ i64 n := by
    obtain ⟨u, hu, hk⟩ := hc 17 _ rfl
    cases hu
    exact cell_num hk
  obtain ⟨pz, rfl, ipz⟩ : ∃ n, c18 = .int .i64 n ∧ i64 n := by
    obtain ⟨u, hu, hk⟩ := hc 18 _ rfl
    cases hu
    exact cell_num hk
  obtain ⟨qa, rfl, iqa⟩ : ∃ n, c19 = .int .i64 n ∧ i64 n := by
    obtain ⟨u, hu, hk⟩ := hc 19 _ rfl
    cases hu
    exact cell_num hk
  obtain ⟨qb, rfl, iqb⟩ : ∃ n, c20 = .int .i64 n ∧ i64 n := by
    obtain ⟨u, hu, hk⟩ := hc 20 _ rfl
    cases hu
    exact cell_num hk
  obtain ⟨qc, rfl, iqc⟩ : ∃ n, c21 = .int .i64 n ∧ i64 n := by
    obtain ⟨u, hu, hk⟩ := hc 21 _ rfl
    cases hu
    exact cell_num hk
  obtain ⟨qw, rfl, iqw⟩ : ∃ n, c22 = .int .i64 n ∧ i64 n := by
    obtain ⟨u, hu, hk⟩ := hc 22 _ rfl
    cases hu
    exact cell_num hk
  obtain ⟨qx, rfl, iqx⟩ : ∃ n, c23 = .int .i64 n ∧ i64 n := by
    obtain ⟨u, hu, hk⟩ := hc 23 _ rfl
    cases hu
    exact cell_num hk
  obtain ⟨qy, rfl, iqy⟩ : ∃ n, c24 = .int .i64 n ∧ i64 n := by
    obtain ⟨u, hu, hk⟩ := hc 24 _ rfl
    cases hu
    exact cell_num hk
  obtain ⟨qz, rfl, iqz⟩ : ∃ n, c25 = .int .i64 n ∧ i64 n := by
    obtain ⟨u, hu, hk⟩ := hc 25 _ rfl
    cases hu
    exact cell_num hk
  obtain ⟨ne, rfl, ine⟩ : ∃ n, c26 = .int .i64 n ∧ i64 n := by
    obtain ⟨u, hu, hk⟩ := hc 26 _ rfl
    cases hu
    exact cell_num hk
  obtain ⟨wx, rfl, iwx⟩ : ∃ n, c27 = .int .i64 n ∧ i64 n := by
    obtain ⟨u, hu, hk⟩ := hc 27 _ rfl
    cases hu
    exact cell_num hk
  obtain ⟨wy, rfl, iwy⟩ : ∃ n, c28 = .int .i64 n ∧ i64 n := by
    obtain ⟨u, hu, hk⟩ := hc 28 _ rfl
    cases hu
    exact cell_num hk
  obtain ⟨wz, rfl, iwz⟩ : ∃ n, c29 = .int .i64 n ∧ i64 n := by
    obtain ⟨u, hu, hk⟩ := hc 29 _ rfl
    cases hu
    exact cell_num hk
  clear hc hsz hC
  obtain ⟨fuel, hf0⟩ := h
  obtain ⟨xs, n, _, hx, _, hlen, hf⟩ := DataW.trod_struct Try.underlying33 hf0
  simp only [Prod.mk.injEq] at hx
  obtain ⟨rfl, _⟩ := hx
  have h0 := hf 0 _ rfl
  have h1 := hf 1 _ rfl
  have k26 : Try.prog.cellsOf 26 = 6 := by kernel_rfl
  obtain ⟨y0, hy0⟩ : ∃ y, xs[0]? = some y := ⟨_, List.getElem?_eq_getElem (by rw [hlen]; decide)⟩
  obtain ⟨y1, hy1⟩ : ∃ y, xs[1]? = some y := ⟨_, List.getElem?_eq_getElem (by rw [hlen]; decide)⟩
  rw [hy0] at h0
  rw [hy1] at h1
  have w0 : ∀ k ∈ y0.1.weights Try.prog 26, k ≤ reachBytes := fun k hk => hw k (by
    rw [DataW.weights, Try.underlying33]
    exact DataW.weights_mem_each (j := 0) (t := 26) (d := y0.1) rfl (by rw [List.getElem?_map, hy0]; rfl) k hk)
  have w1 : ∀ k ∈ y1.1.weights Try.prog 26, k ≤ reachBytes := fun k hk => hw k (by
    rw [DataW.weights, Try.underlying33]
    exact DataW.weights_mem_each (j := 1) (t := 26) (d := y1.1) rfl (by rw [List.getElem?_map, hy1]; rfl) k hk)
  have h0' : DataW.trod enc Try.prog W base spare held n 26 [.int .i64 k1, .int .i64 r1, .int .i64 x1, .int .i64 y1', .int .i64 z1', .slice A1 n1 cap1] = some y0 := by
    have e : ((List.drop 0 ([.int .i64 k1, .int .i64 r1, .int .i64 x1, .int .i64 y1', .int .i64 z1', .slice A1 n1 cap1, .int .i64 k2, .int .i64 r2, .int .i64 x2, .int .i64 y2, .int .i64 z2, .slice A2 n2 cap2, .int .i64 pa, .int .i64 pb, .int .i64 pd, .int .i64 pw, .int .i64 px, .int .i64 py, .int .i64 pz, .int .i64 qa, .int .i64 qb, .int .i64 qc, .int .i64 qw, .int .i64 qx, .int .i64 qy, .int .i64 qz, .int .i64 ne, .int .i64 wx, .int .i64 wy, .int .i64 wz] : List Value)).take (Try.prog.cellsOf 26)) = [.int .i64 k1, .int .i64 r1, .int .i64 x1, .int .i64 y1', .int .i64 z1', .slice A1 n1 cap1] := by rw [k26]; rfl
    exact (congrArg _ e.symm).trans h0
  have h1' : DataW.trod enc Try.prog W base spare held n 26 [.int .i64 k2, .int .i64 r2, .int .i64 x2, .int .i64 y2, .int .i64 z2, .slice A2 n2 cap2] = some y1 := by
    have e : ((List.drop 6 ([.int .i64 k1, .int .i64 r1, .int .i64 x1, .int .i64 y1', .int .i64 z1', .slice A1 n1 cap1, .int .i64 k2, .int .i64 r2, .int .i64 x2, .int .i64 y2, .int .i64 z2, .slice A2 n2 cap2, .int .i64 pa, .int .i64 pb, .int .i64 pd, .int .i64 pw, .int .i64 px, .int .i64 py, .int .i64 pz, .int .i64 qa, .int .i64 qb, .int .i64 qc, .int .i64 qw, .int .i64 qx, .int .i64 qy, .int .i64 qz, .int .i64 ne, .int .i64 wx, .int .i64 wy, .int .i64 wz] : List Value)).take (Try.prog.cellsOf 26)) = [.int .i64 k2, .int .i64 r2, .int .i64 x2, .int .i64 y2, .int .i64 z2, .slice A2 n2 cap2] := by rw [k26]; rfl
    exact (congrArg _ e.symm).trans h1
  obtain ⟨m0, z0, t0, u0⟩ := open_raw5 (W := W) (v5 := .slice A1 n1 cap1) h0' w0
  obtain ⟨m1, z1, t1, u1⟩ := open_raw5 (W := W) (v5 := .slice A2 n2 cap2) h1' w1
  obtain ⟨l1, hl1, R1, I1, L1⟩ := open_pts hA1 t0 u0
  obtain ⟨l2, hl2, R2, I2, L2⟩ := open_pts hA2 t1 u1
  subst hl1 hl2
  exact ⟨k1, r1, ⟨x1, y1', z1'⟩, l1, A1, cap1, k2, r2, ⟨x2, y2, z2⟩, l2, A2, cap2, ⟨⟨pa, pb, pd⟩, ⟨pw, px, py, pz⟩⟩, ⟨⟨qa, qb, qc⟩, ⟨qw, qx, qy, qz⟩⟩, ne, ⟨wx, wy, wz⟩, rfl, R1, ⟨ik1, ir1, ⟨ix1, iy1', iz1'⟩, L1, I1⟩, R2, ⟨ik2, ir2, ⟨ix2, iy2, iz2⟩, L2, I2⟩, ⟨ipa, ipb, ipd, ipw, ipx, ipy, ipz⟩, ⟨iqa, iqb, iqc, iqw, iqx, iqy, iqz⟩, ine, ⟨iwx, iwy, iwz⟩⟩
end
end Go.Proofs.Ytckdhahceelckaa.G
namespace Go.Proofs.Ytckdhahceelckaa.G
open Go.RowKit Go.Proofs.YtckdhahceelckaaW.PrintWords Go.Proofs.YtckdhahceelckaaW.PrintLast Go.Proofs.YtckdhahceelckaaW.PrintMore
attribute [local go_sem] max2_mx min2_mn max_two min_two max_three min_three max_four min_four
attribute [local go_sem high] eqA23
set_option linter.unusedVariables false
set_option linter.unusedSimpArgs false
structure BsInv (s low high : Nat) : Prop where
  a : low * low ≤ s
  b : s < high * high
  c : low < high
  d : high ≤ 67108864
theorem BsInv.done {s low high : Nat} (h : BsInv s low high) (h1 : high ≤ low + 1) : isq s = low := by
  have e : high = low + 1 := by have := h.c; omega
  have := h.b
  rw [e] at this
  exact (isq_unique s low h.a this).symm
end Go.Proofs.Ytckdhahceelckaa.G
namespace Go.Proofs.Ytckdhahceelckaa.G
open Go.RowKit Go.Proofs.YtckdhahceelckaaW.PrintWords
set_option linter.unusedVariables false
theorem apF_inv (a0 : P3) (ar : List P3) (ra : Int) (b0 : P3) (br : List P3) (rb : Int) (l : List P3) :
    ((apF a0 ar ra b0 br rb l).2 = true ∧ (apF a0 ar ra b0 br rb l).1 = (⟨0, 0, 1048576⟩, -ra - rb) ∧ ∀ x ∈ l, long3 x = ⟨0, 0, 0⟩) ∨
    ((apF a0 ar ra b0 br rb l).2 = false ∧ ∃ x ∈ l, long3 x ≠ ⟨0, 0, 0⟩ ∧ ((apF a0 ar ra b0 br rb l).1 = (long3 x, (gapsF (long3 x) a0 ar ra b0 br rb).1) ∨ (apF a0 ar ra b0 br rb l).1 = (minus3 ⟨0, 0, 0⟩ (long3 x), (gapsF (long3 x) a0 ar ra b0 br rb).2))) := by
  have gen : ∀ (k : Nat), k ≤ l.length → ((apF a0 ar ra b0 br rb (l.take k)).2 = true ∧ (apF a0 ar ra b0 br rb (l.take k)).1 = (⟨0, 0, 1048576⟩, -ra - rb) ∧ ∀ x ∈ l.take k, long3 x = ⟨0, 0, 0⟩) ∨
    ((apF a0 ar ra b0 br rb (l.take k)).2 = false ∧ ∃ x ∈ l.take k, long3 x ≠ ⟨0, 0, 0⟩ ∧ ((apF a0 ar ra b0 br rb (l.take k)).1 = (long3 x, (gapsF (long3 x) a0 ar ra b0 br rb).1) ∨ (apF a0 ar ra b0 br rb (l.take k)).1 = (minus3 ⟨0, 0, 0⟩ (long3 x), (gapsF (long3 x) a0 ar ra b0 br rb).2))) := by
    intro k
    induction k with
    | zero => intro _; left; exact ⟨rfl, rfl, by simp⟩
    | succ k ih =>
      intro hk
      have e : l.take (k + 1) = l.take k ++ [l[k]] := by rw [List.take_succ_eq_append_getElem (by omega)]
      rw [e, apF_snoc]
      have ih := ih (by omega)
      generalize apF a0 ar ra b0 br rb (l.take k) = s at ih
      unfold apStep
      by_cases h : long3 l[k] = ⟨0, 0, 0⟩
      · rw [if_pos h]
        rcases ih with ⟨h1, h2, h3⟩ | ⟨h1, x, hx, h2⟩
        · left
          refine ⟨h1, h2, fun x hx => ?_⟩
          rcases List.mem_append.1 hx with hx | hx
          · exact h3 x hx
          · simp at hx; rw [hx]; exact h
        · right; exact ⟨h1, x, List.mem_append_left _ hx, h2⟩
      · rw [if_neg h]
        right
        refine ⟨rfl, ?_⟩
        have hm : l[k] ∈ l.take k ++ [l[k]] := List.mem_append_right _ (List.mem_singleton.2 rfl)
        simp only
        by_cases g2 : (if s.2 = true ∨ s.1.2 < (gapsF (long3 l[k]) a0 ar ra b0 br rb).1 then (long3 l[k], (gapsF (long3 l[k]) a0 ar ra b0 br rb).1) else s.1).2 < (gapsF (long3 l[k]) a0 ar ra b0 br rb).2
        · rw [if_pos g2]; exact ⟨l[k], hm, h, .inr rfl⟩
        · rw [if_neg g2]
          by_cases g1 : s.2 = true ∨ s.1.2 < (gapsF (long3 l[k]) a0 ar ra b0 br rb).1
          · rw [if_pos g1]; exact ⟨l[k], hm, h, .inl rfl⟩
          · rw [if_neg g1]
            rcases ih with ⟨h1, _⟩ | ⟨h1, x, hx, h2⟩
            · exact absurd (.inl h1) g1
            · exact ⟨x, List.mem_append_left _ hx, h2⟩
  have := gen l.length (Nat.le_refl _)
  rwa [List.take_length] at this
theorem far_in {n : Int} (h0 : 0 ≤ n) (h1 : n ≤ 9223372036854775807) {l : List P3} (h : l.any (far3 n) = false) : ∀ x ∈ l, in3 n x := by
  intro x hx
  rw [List.any_eq_false] at h
  have := h x hx
  exact (far3_iff n x h0 h1).1 (by simpa using this)
theorem MayP.pts {p a e : List P3} {r : Int} (m : MayP p a e r) : ∃ p0 pr, p = p0 :: pr ∧ ∀ x ∈ p0 :: pr, in3 16777216 x := by
  obtain ⟨p0, pr, rfl⟩ := List.exists_cons_of_ne_nil m.p0
  exact ⟨p0, pr, rfl, far_in (by decide) (by decide) m.pf⟩
end Go.Proofs.Ytckdhahceelckaa.G
