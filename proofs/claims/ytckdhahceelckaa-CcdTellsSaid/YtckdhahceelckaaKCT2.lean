/- What the laws of this claim lean on: contracts of the functions that they reach, and plain lemmas; no condition of its own (part 2 of 6; the texts XW3, XW7, XW9, XW10, XW11, XW14, XW15, XW17, XW16, XW18, XW19, XW20, XR1, XR2, XR4, XG1, XG2, XN19, XN20, XG3, XG9, XR5, XW21, XW22, XR3, XG6, XG4, XR10, XV1, XV2, XV3, XM1, XG10, XG15, XW25, XW27, XW28, XW23, XW24, XW30, XW32, XW29, XW33, XW34, XW35, XG7, XW36, XM2, XV4, XV5, XR11, XR12). -/
import Derived.Test.YtckdhahceelckaaKCT1
import Derived.BigQuiet
import Derived.Deep.DeepCutAuto
import Derived.Laws.IdiomCopy
import Derived.Lib.SmallJoins
import Derived.Maps.AppendAt
import Derived.Outline
namespace Go.Proofs.Ytckdhahceelckaa.G
open Go.RowKit Go.Proofs.YtckdhahceelckaaW.PrintWords Go.Proofs.YtckdhahceelckaaW.PrintLast Go.Proofs.YtckdhahceelckaaW.PrintMore
attribute [local go_sem] max2_mx min2_mn max_two min_two max_three min_three max_four min_four
set_option linter.unusedVariables false
set_option linter.unusedSimpArgs false
/-- the cells of a wide number -/
abbrev aW (n : Bool) (l : List Int) : Array Value := #[.bool n, .int .i64 (dg l 0), .int .i64 (dg l 1), .int .i64 (dg l 2), .int .i64 (dg l 3), .int .i64 (dg l 4), .int .i64 (dg l 5), .int .i64 (dg l 6), .int .i64 (dg l 7)]
/-- block g holds it -/
def Wd (w : World) (g : Nat) (n : Bool) (l : List Int) : Prop := w.heap[g]? = some (.cells (aW n l) 169 (0, 0))
theorem Wd.lt {w g n l} (h : Wd w g n l) : g < w.heap.size := blk_lt h
theorem Wd.neg {w g n l} (h : Wd w g n l) : w.cell? ⟨g, 0, none⟩ = some (.bool n) := (blk_cell h 0).trans rfl
theorem aW_get (n : Bool) (l : List Int) (k : Nat) (hk : k < 8) : (aW n l)[1 + k]? = some (.int .i64 (dg l k)) := by
  match k, hk with
  | 0, _ | 1, _ | 2, _ | 3, _ | 4, _ | 5, _ | 6, _ | 7, _ => rfl
theorem Wd.dig {w g n l} (h : Wd w g n l) (k : Nat) (hk : k < 8) : w.cell? ⟨g, 1 + k, none⟩ = some (.int .i64 (dg l k)) := (blk_cell h (1 + k)).trans (aW_get n l k hk)
theorem Wd.fz {w g n l} (h : Wd w g n l) (k : Nat) : w.frozen? ⟨g, k, none⟩ = false := blk_frozen h k
theorem aW_set (n : Bool) (l : List Int) (hl : l.length = 8) (k : Nat) (hk : k < 8) (x : Int) : (aW n l).setIfInBounds (1 + k) (.int .i64 x) = aW n (l.set k x) := by
  have e : ∀ j, dg (l.set k x) j = if j = k then x else dg l j := fun j => dg_set l k j x (by omega)
  unfold aW
  simp only [e]
  match k, hk with
  | 0, _ | 1, _ | 2, _ | 3, _ | 4, _ | 5, _ | 6, _ | 7, _ => rfl
theorem blk_set {w : World} {g : Nat} {cs : Array Value} {t : TypeId} (h : w.heap[g]? = some (.cells cs t (0, 0))) (j : Nat) (u : Value) : (w.setCell ⟨g, j, none⟩ u).heap[g]? = some (.cells (cs.setIfInBounds j u) t (0, 0)) := by
  simp [World.setCell, Array.getElem?_modify, h]
theorem Wd.set {w g n l} (h : Wd w g n l) (hl : l.length = 8) (k : Nat) (hk : k < 8) (x : Int) : Wd (w.setCell ⟨g, 1 + k, none⟩ (.int .i64 x)) g n (l.set k x) := by
  unfold Wd; rw [blk_set h, aW_set n l hl k hk]
theorem Wd.setn {w g n l} (h : Wd w g n l) (b : Bool) : Wd (w.setCell ⟨g, 0, none⟩ (.bool b)) g b l := by
  unfold Wd; rw [blk_set h]; rfl
theorem Wd.far {w g n l} (h : Wd w g n l) {p : Addr} (hp : p.block ≠ g) (u : Value) : Wd (w.setCell p u) g n l := (Below.heap_setCell w p u g (Ne.symm hp)).trans h
theorem Wd.below {w w1 g n l} (h : Wd w g n l) (hb : Below w.heap.size w w1) : Wd w1 g n l := (hb.block _ h.lt).trans h
/-- all nine cells -/
theorem Wd.alloc {w g n l} (h : Wd w g n l) (o : Obj) : Wd (w.alloc o) g n l := h.below ((Below.refl _ w).alloc (Nat.le_refl _) o)
theorem Wd.new (w : World) (n : Bool) (l : List Int) : Wd (w.alloc (.cells (aW n l) 169)) w.heap.size n l := heap_alloc_new w _
theorem Wd.drew {w g n l} (h : Wd w g n l) : Wd w.drew g n l := h
theorem Wd.drewN {w g n l} (h : Wd w g n l) (k : Nat) : Wd (w.drewN k) g n l := h
theorem Wd.fzs {w g n l} (h : Wd w g n l) : w.frozen? ⟨g, 0, none⟩ = false ∧ w.frozen? ⟨g, 1, none⟩ = false ∧ w.frozen? ⟨g, 2, none⟩ = false ∧ w.frozen? ⟨g, 3, none⟩ = false ∧ w.frozen? ⟨g, 4, none⟩ = false ∧ w.frozen? ⟨g, 5, none⟩ = false ∧ w.frozen? ⟨g, 6, none⟩ = false ∧ w.frozen? ⟨g, 7, none⟩ = false ∧ w.frozen? ⟨g, 8, none⟩ = false :=
  ⟨h.fz 0, h.fz 1, h.fz 2, h.fz 3, h.fz 4, h.fz 5, h.fz 6, h.fz 7, h.fz 8⟩
/-- all nine cells -/
theorem Wd.all {w g n l} (h : Wd w g n l) : w.cell? ⟨g, 0, none⟩ = some (.bool n) ∧ w.cell? ⟨g, 1, none⟩ = some (.int .i64 (dg l 0)) ∧ w.cell? ⟨g, 2, none⟩ = some (.int .i64 (dg l 1)) ∧ w.cell? ⟨g, 3, none⟩ = some (.int .i64 (dg l 2)) ∧ w.cell? ⟨g, 4, none⟩ = some (.int .i64 (dg l 3)) ∧ w.cell? ⟨g, 5, none⟩ = some (.int .i64 (dg l 4)) ∧ w.cell? ⟨g, 6, none⟩ = some (.int .i64 (dg l 5)) ∧ w.cell? ⟨g, 7, none⟩ = some (.int .i64 (dg l 6)) ∧ w.cell? ⟨g, 8, none⟩ = some (.int .i64 (dg l 7)) :=
  ⟨h.neg, h.dig 0 (by omega), h.dig 1 (by omega), h.dig 2 (by omega), h.dig 3 (by omega), h.dig 4 (by omega), h.dig 5 (by omega), h.dig 6 (by omega), h.dig 7 (by omega)⟩
/-- nine stores -/
def set9 (w : World) (g : Nat) (a0 a1 a2 a3 a4 a5 a6 a7 a8 : Value) : World := ((((((((w.setCell ⟨g, 0, none⟩ a0).setCell ⟨g, 1, none⟩ a1).setCell ⟨g, 2, none⟩ a2).setCell ⟨g, 3, none⟩ a3).setCell ⟨g, 4, none⟩ a4).setCell ⟨g, 5, none⟩ a5).setCell ⟨g, 6, none⟩ a6).setCell ⟨g, 7, none⟩ a7).setCell ⟨g, 8, none⟩ a8
theorem blk9 {W : World} {g : Nat} {b0 b1 b2 b3 b4 b5 b6 b7 b8 : Value} {t : TypeId} (h : W.heap[g]? = some (.cells #[b0, b1, b2, b3, b4, b5, b6, b7, b8] t (0, 0))) (a0 a1 a2 a3 a4 a5 a6 a7 a8 : Value) :
    (set9 W g a0 a1 a2 a3 a4 a5 a6 a7 a8).heap[g]? = some (.cells #[a0, a1, a2, a3, a4, a5, a6, a7, a8] t (0, 0)) := by
  have h0 := blk_set h 0 a0
  have h1 := blk_set h0 1 a1
  have h2 := blk_set h1 2 a2
  have h3 := blk_set h2 3 a3
  have h4 := blk_set h3 4 a4
  have h5 := blk_set h4 5 a5
  have h6 := blk_set h5 6 a6
  have h7 := blk_set h6 7 a7
  have h8 := blk_set h7 8 a8
  simp only [List.setIfInBounds_toArray, List.set_cons_zero, List.set_cons_succ] at h8
  exact h8
theorem blk9_set {W : World} {g : Nat} {n l} (h : Wd W g n l) (m : Bool) (k : List Int) :
    Wd (set9 W g (.bool m) (.int .i64 (dg k 0)) (.int .i64 (dg k 1)) (.int .i64 (dg k 2)) (.int .i64 (dg k 3)) (.int .i64 (dg k 4)) (.int .i64 (dg k 5)) (.int .i64 (dg k 6)) (.int .i64 (dg k 7))) g m k := blk9 h ..
theorem below_set9 {B : Nat} {a w : World} (h : Below B a w) {g : Nat} (hg : B ≤ g) (a0 a1 a2 a3 a4 a5 a6 a7 a8 : Value) : Below B a (set9 w g a0 a1 a2 a3 a4 a5 a6 a7 a8) :=
  ((((((((h.setCell (p := ⟨g, 0, none⟩) hg a0).setCell (p := ⟨g, 1, none⟩) hg a1).setCell (p := ⟨g, 2, none⟩) hg a2).setCell (p := ⟨g, 3, none⟩) hg a3).setCell (p := ⟨g, 4, none⟩) hg a4).setCell (p := ⟨g, 5, none⟩) hg a5).setCell (p := ⟨g, 6, none⟩) hg a6).setCell (p := ⟨g, 7, none⟩) hg a7).setCell (p := ⟨g, 8, none⟩) hg a8
/-- a value is a wide number's, with eight digits -/
structure WV (v : Value) (x : Int) : Prop where
  out : ∃ n l, v = .agg (aW n l) ∧ l.length = 8 ∧ digs l ∧ wval n l = x
def zs8 : List Int := [0, 0, 0, 0, 0, 0, 0, 0]
def OfPost (x : Int) (w : World) (e : Ending) (w' : World) : Prop := ∃ v, e = .returned v ∧ WV v x ∧ Below w.heap.size w w'
theorem u64_neg (x : Int) (h1 : -9223372036854775808 ≤ x) (h2 : x < 0) : IntKind.u64.wrap (-IntKind.u64.wrap x) = ((x.natAbs : Nat) : Int) := by
  have e : IntKind.u64.wrap x = x + 18446744073709551616 := by
    simp [IntKind.wrap, IntKind.bits, IntKind.signed]; omega
  rw [e]
  simp [IntKind.wrap, IntKind.bits, IntKind.signed]; omega
theorem u64_pos (x : Int) (h1 : 0 ≤ x) (h2 : x ≤ 9223372036854775807) : IntKind.u64.wrap x = ((x.natAbs : Nat) : Int) := by
  simp [IntKind.wrap, IntKind.bits, IntKind.signed]; omega
set_option maxHeartbeats 1000000 in
theorem of_calls (x : Int) (hx1 : -9223372036854775808 ≤ x) (hx2 : x ≤ 9223372036854775807) (w : World) : Calls Try.prog 152 #[.int .i64 x] w (OfPost x w) := by
  have h1 := u64_neg x hx1
  have h2 := fun h => u64_pos x h hx2
  obtain ⟨N, hN⟩ : ∃ N, x.natAbs = N := ⟨_, rfl⟩
  have hN2 : N < 16777216 ^ 8 := by omega
  have hN3 : N ≤ 9223372036854775808 := by omega
  go_enter Try.func152, Try.ntmps152
  go_wp2
  all_goals
    go_loopw [4, 5] (fun v4 v5 wr => ∃ (k u : Nat) (l : List Int) (n : Bool), k ≤ 8 ∧ v5 = .int .i64 k ∧ v4 = .int .u64 u ∧ Hid (Wd wr (w.heap.size + 1) n l) ∧ Hid (n = decide (x < 0)) ∧ Hid (Wd wr w.heap.size false zs8) ∧ Hid (OfI N k l u) ∧ Hid (Below w.heap.size w wr)) (fun _ i _ => 8 - (intOf i).toNat)
    case atStart =>
      refine ⟨0, N, zs8, decide (x < 0), by omega, rfl, by simp [*], Lh ?_, rfl, Lh ?_, Lh (OfI.start N), Lh ?_⟩
      · first
          | (rw [decide_eq_true (by assumption)]; have HB := Wd.new (w.alloc (.cells (aW false zs8) 169)) true zs8; rw [World.size_alloc] at HB; exact HB)
          | (rw [decide_eq_false (by omega)]; have HB := Wd.new (w.alloc (.cells (aW false zs8) 169)) false zs8; rw [World.size_alloc] at HB; exact HB)
      · exact (Wd.new w false zs8).alloc _
      · exact ((Below.refl _ w).alloc (Nat.le_refl _) _).alloc (by simp) _
    case round =>
      obtain ⟨k, u, l, n, hk, rfl, rfl, hB, hn, hA, hI, hW⟩ := hrel
      by_cases hlt : k < 8
      · have c0 := hB.out.dig k hlt
        have f0 := hB.out.fz (1 + k)
        have hu := hI.out.le
        have e1 : IntKind.u64.wrap ((u : Int) / 16777216) = ((u / 16777216 : Nat) : Int) := by simp [IntKind.wrap, IntKind.bits, IntKind.signed]; omega
        go_wp2
        go_roundw
        case rel => exact ⟨k + 1, u / 16777216, l.set k ((u % 16777216 : Nat) : Int), n, by omega, by go_num, by go_num, hB.out.set hI.out.1 k hlt _, hn, hA.out.far (by simp) _, hI.out.step hlt, hW.out.setCell (by simp) _⟩
        case measure => simp [intOf]; omega
      · obtain rfl : k = 8 := by omega
        obtain ⟨z0, z1, z2, z3, z4, z5, z6, z7, z8⟩ := hB.out.all
        obtain ⟨y0, y1, y2, y3, y4, y5, y6, y7, y8⟩ := hA.out.all
        obtain ⟨x0, x1, x2, x3, x4, x5, x6, x7, x8⟩ := hA.out.fzs
        have hv : WV (.agg (aW n l)) x := ⟨n, l, rfl, hI.out.1, hI.out.2.1, by have := hI.out.done hN2; rw [hn.out]; unfold wval; split <;> (simp at *; omega)⟩
        have HS := blk9_set hA.out n l
        have HW := below_set9 hW.out (Nat.le_refl _) (.bool n) (.int .i64 (dg l 0)) (.int .i64 (dg l 1)) (.int .i64 (dg l 2)) (.int .i64 (dg l 3)) (.int .i64 (dg l 4)) (.int .i64 (dg l 5)) (.int .i64 (dg l 6)) (.int .i64 (dg l 7))
        unfold set9 at HS HW
        obtain ⟨V, hV⟩ : ∃ V, ((((((((wr.setCell ⟨w.heap.size, 0, none⟩ (.bool n)).setCell ⟨w.heap.size, 1, none⟩ (.int .i64 (dg l 0))).setCell ⟨w.heap.size, 2, none⟩ (.int .i64 (dg l 1))).setCell ⟨w.heap.size, 3, none⟩ (.int .i64 (dg l 2))).setCell ⟨w.heap.size, 4, none⟩ (.int .i64 (dg l 3))).setCell ⟨w.heap.size, 5, none⟩ (.int .i64 (dg l 4))).setCell ⟨w.heap.size, 6, none⟩ (.int .i64 (dg l 5))).setCell ⟨w.heap.size, 7, none⟩ (.int .i64 (dg l 6))).setCell ⟨w.heap.size, 8, none⟩ (.int .i64 (dg l 7)) = V := ⟨_, rfl⟩
        rw [hV] at HS HW
        obtain ⟨t0, t1, t2, t3, t4, t5, t6, t7, t8⟩ := HS.all
        clear h1 h2 HS
        have HV := Lh hV
        clear hV
        go_wp2
        rw [HV.out]
        exact bodyPost_ret (v := .agg (aW n l)) (by simp [results, Try.results152, go_sem, t0, t1, t2, t3, t4, t5, t6, t7, t8]) rfl ⟨_, rfl, hv, HW⟩
end Go.Proofs.Ytckdhahceelckaa.G
namespace Go.Proofs.Ytckdhahceelckaa.G
open Go.RowKit Go.Proofs.YtckdhahceelckaaW.PrintWords Go.Proofs.YtckdhahceelckaaW.PrintLast Go.Proofs.YtckdhahceelckaaW.PrintMore
attribute [local go_sem] max2_mx min2_mn max_two min_two max_three min_three max_four min_four
set_option linter.unusedVariables false
set_option linter.unusedSimpArgs false
theorem wval_mul (n m : Bool) (l k o : List Int) (h : mag o = mag l * mag k) : wval (!(n == m)) o = wval n l * wval m k := by
  cases n <;> cases m <;> simp [wval, h, Int.neg_mul, Int.mul_neg]
set_option maxHeartbeats 4000000 in
theorem times_calls (n m : Bool) (l k : List Int) (hl : l.length = 8) (hk : k.length = 8) (hd : digs l) (he : digs k) (hs : mag l * mag k < 16777216 ^ 8) (w : World) :
    Calls Try.prog 151 #[.agg (aW n l), .agg (aW m k)] w (OfPost (wval n l * wval m k) w) := by
  have HL := Lh hl
  have HK := Lh hk
  have HD := Lh hd
  have HE := Lh he
  have HS := Lh hs
  clear hl hk hd he hs
  have HA := Lh ((((Wd.new w n l).alloc (.cells (aW m k) 169)).alloc (.cells (aW false zs8) 169)).alloc (.cells (aW false zs8) 169))
  have HB := ((Wd.new (w.alloc (.cells (aW n l) 169)) m k).alloc (.cells (aW false zs8) 169)).alloc (.cells (aW false zs8) 169)
  have HC := (Wd.new ((w.alloc (.cells (aW n l) 169)).alloc (.cells (aW m k) 169)) false zs8).alloc (.cells (aW false zs8) 169)
  have HO := Wd.new (((w.alloc (.cells (aW n l) 169)).alloc (.cells (aW m k) 169)).alloc (.cells (aW false zs8) 169)) false zs8
  simp only [World.size_alloc] at HB HC HO
  have HB := Lh HB
  have HC := Lh HC
  have HO := Lh HO
  have HW := Lh (((((Below.refl _ w).alloc (Nat.le_refl _) (.cells (aW n l) 169)).alloc (by simp) (.cells (aW m k) 169)).alloc (by simp; omega) (.cells (aW false zs8) 169)).alloc (by simp; omega) (.cells (aW false zs8) 169))
  go_enter Try.func151, Try.ntmps151
  go_wp2
  go_loopw [6, 7, 8, 9] (fun v6 v7 v8 v9 wr => ∃ (i : Nat) (o : List Int), i ≤ 8 ∧ v6 = .int .i64 i ∧ Hid (Wd wr w.heap.size n l) ∧ Hid (Wd wr (w.heap.size + 1) m k) ∧ Hid (Wd wr (w.heap.size + 1 + 1) false zs8) ∧ Hid (Wd wr (w.heap.size + 1 + 1 + 1) false o) ∧ Hid (MulO l k i o) ∧ Hid (Below w.heap.size w wr)) (fun i _ _ _ _ => 8 - (intOf i).toNat)
  case atStart => exact ⟨0, zs8, by omega, rfl, HA, HB, HC, HO, Lh (MulO.start l k), HW⟩
  case round =>
    clear HA HB HC HO HW
    obtain ⟨i, o, hi8, rfl, hA, hB, hC, hO, hI, hW⟩ := hrel
    obtain ⟨wo, rfl⟩ : ∃ wo : World, wo = wr := ⟨_, rfl⟩
    by_cases hi : i < 8
    · have c0 := hA.out.dig i hi
      obtain ⟨a0, a1⟩ := dg_ok HD.out i
      by_cases h0 : dg l i = 0
      · have hN := Lh (hI.out.skip HL.out hi h0)
        rw [h0] at c0
        clear h0 a0 a1
        go_wp2
        go_roundw
        case rel => exact ⟨i + 1, o, by omega, by go_num, hA, hB, hC, hO, hN, hW⟩
        case measure => simp [intOf]; omega
      · obtain ⟨x, hx⟩ : ∃ x, dg l i = x := ⟨_, rfl⟩
        rw [hx] at c0 a0 a1 h0
        have HX := Lh hx
        have t0 : (x == 0) = false := by simpa using h0
        clear hx h0
        go_wp2
        go_loopw [7, 8, 9] (fun v7 v8 v9 wr => ∃ (j : Nat) (c : Int) (o' : List Int), i + j ≤ 8 ∧ v8 = .int .i64 j ∧ v7 = .int .i64 c ∧ 0 ≤ c ∧ c < 16777216 ∧ Hid (Wd wr w.heap.size n l) ∧ Hid (Wd wr (w.heap.size + 1) m k) ∧ Hid (Wd wr (w.heap.size + 1 + 1) false zs8) ∧ Hid (Wd wr (w.heap.size + 1 + 1 + 1) false o') ∧ Hid (MulI (mag o) x k i j o' c) ∧ Hid (Below w.heap.size w wr)) (fun _ j _ _ => 8 - (intOf j).toNat)
        case atStart => exact ⟨0, 0, o, by omega, rfl, rfl, by omega, by omega, hA, hB, hC, hO, Lh (MulI.start x k i hI.out.1 hI.out.2.1), hW⟩
        case round =>
          clear hA hB hC hO hW t0 c0
          obtain ⟨j, c, o', hj8, rfl, rfl, k0, k1, hA, hB, hC, hO, hJ, hW⟩ := hrel
          by_cases hj : i + j < 8
          · have c0 := hA.out.dig i hi
            rw [HX.out] at c0
            have c1 := hB.out.dig j (by omega)
            have c2 := hO.out.dig (i + j) hj
            have f2 := hO.out.fz (1 + (i + j))
            obtain ⟨b0, b1⟩ := dg_ok HE.out j
            obtain ⟨d0, d1⟩ := dg_ok hJ.out.2.1 (i + j)
            have hm := mul_dig _ _ _ _ d0 d1 a0 a1 b0 b1 k0 k1
            have hN := Lh (hJ.out.step a0 a1 HE.out HK.out hj)
            obtain ⟨y, hy⟩ : ∃ y, dg k j = y := ⟨_, rfl⟩
            obtain ⟨z, hz⟩ : ∃ z, dg o' (i + j) = z := ⟨_, rfl⟩
            rw [hy] at c1 b0 b1 hN hm
            rw [hz] at c2 d0 d1 hN
            clear hy hz
            obtain ⟨m0, m1⟩ := hm
            have n1 : (i : Int) + (j : Int) < 8 := by omega
            have n0 : 0 ≤ (i : Int) + (j : Int) := by omega
            have e0 : IntKind.i64.wrap ((i : Int) + (j : Int)) = (i : Int) + (j : Int) := iw_id _ (by omega) (by omega)
            have e1 : IntKind.i64.wrap (x * y) = x * y := iw_id _ (by omega) (by omega)
            have e2 : IntKind.i64.wrap (z + x * y) = z + x * y := iw_id _ (by omega) (by omega)
            have e3 : IntKind.i64.wrap (z + x * y + c) = z + x * y + c := iw_id _ (by omega) (by omega)
            have e4 : ((i : Int) + (j : Int)).toNat = i + j := by omega
            go_wp2
            go_quiet (fail)
            clear e1 e2 e3
            obtain ⟨s, hs⟩ : ∃ s, z + x * y + c = s := ⟨_, rfl⟩
            have s0 : 0 ≤ s := by omega
            have s1 : s ≤ 281474976710655 := by omega
            rw [hs] at hN ⊢
            clear hs m0 m1
            go_wp2
            go_roundw
            case rel => exact ⟨j + 1, s / 16777216, _, by omega, by go_num, rfl, by omega, by omega, (hA.out.drewN _).far (by simp; try omega) _, (hB.out.drewN _).far (by simp; try omega) _, (hC.out.drewN _).far (by simp; try omega) _, (hO.out.drewN _).set hJ.out.1 (i + j) hj _, hN, (pw_below_drewN hW.out _).setCell (by first | (simp; done) | (simp; omega) | omega) _⟩
            case measure => simp [intOf]; omega
          · obtain rfl : j = 8 - i := by omega
            have e0 : IntKind.i64.wrap ((i : Int) + ((8 - i : Nat) : Int)) = 8 := by rw [show (i : Int) + ((8 - i : Nat) : Int) = 8 by omega]; decide
            have hJ' := hJ.out
            rw [← HX.out] at hJ'
            have hN := Lh (hI.out.step hi hJ' HD.out HE.out HL.out HK.out HS.out)
            clear hJ'
            go_wp2
            go_roundw
            case rel => exact ⟨i + 1, o', by omega, by go_num, hA, hB, hC, hO, hN, hW⟩
            case measure => simp [intOf]; omega
    · obtain rfl : i = 8 := by omega
      have hz := hI.out.2.2
      rw [List.take_of_length_le (by rw [HL.out]; decide)] at hz
      have hv : WV (.agg (aW (!(n == m)) o)) (wval n l * wval m k) := ⟨_, o, rfl, hI.out.1, hI.out.2.1, wval_mul n m l k o hz⟩
      clear hz
      have y0 := hA.out.neg
      have y1 := hB.out.neg
      have y2 := hO.out.neg
      have y3 := hO.out.fz 0
      have hO1 := hO.out.setn (!(n == m))
      have hC1 := hC.out.far (p := ⟨w.heap.size + 1 + 1 + 1, 0, none⟩) (by simp) (.bool (!(n == m)))
      have hW1 := hW.out.setCell (p := ⟨w.heap.size + 1 + 1 + 1, 0, none⟩) (by simp; omega) (.bool (!(n == m)))
      obtain ⟨v1, hv1⟩ : ∃ v1, wo.setCell ⟨w.heap.size + 1 + 1 + 1, 0, none⟩ (.bool (!(n == m))) = v1 := ⟨_, rfl⟩
      rw [hv1] at hO1 hC1 hW1
      obtain ⟨z0, z1, z2, z3, z4, z5, z6, z7, z8⟩ := hO1.all
      obtain ⟨x1, x2, x3, x4, x5, x6, x7, x8, x9⟩ := hC1.all
      obtain ⟨f0, f1, f2, f3, f4, f5, f6, f7, f8⟩ := hC1.fzs
      have HS := blk9_set hC1 (!(n == m)) o
      have HW := below_set9 hW1 (g := w.heap.size + 1 + 1) (by omega) (.bool (!(n == m))) (.int .i64 (dg o 0)) (.int .i64 (dg o 1)) (.int .i64 (dg o 2)) (.int .i64 (dg o 3)) (.int .i64 (dg o 4)) (.int .i64 (dg o 5)) (.int .i64 (dg o 6)) (.int .i64 (dg o 7))
      obtain ⟨V, hV⟩ : ∃ V, set9 v1 (w.heap.size + 1 + 1) (.bool (!(n == m))) (.int .i64 (dg o 0)) (.int .i64 (dg o 1)) (.int .i64 (dg o 2)) (.int .i64 (dg o 3)) (.int .i64 (dg o 4)) (.int .i64 (dg o 5)) (.int .i64 (dg o 6)) (.int .i64 (dg o 7)) = V := ⟨_, rfl⟩
      rw [hV] at HS HW
      obtain ⟨t0, t1, t2, t3, t4, t5, t6, t7, t8⟩ := HS.all
      unfold set9 at hV
      have HV := Lh hV
      have HW := Lh HW
      have hv := Lh hv
      clear hV HS hO1 hC1 hW1
      go_wp2
      rw [HV.out]
      exact bodyPost_ret (v := .agg (aW (!(n == m)) o)) (by simp [results, Try.results151, go_sem, t0, t1, t2, t3, t4, t5, t6, t7, t8]) rfl ⟨_, rfl, hv.out, HW.out⟩
end Go.Proofs.Ytckdhahceelckaa.G
namespace Go.Proofs.Ytckdhahceelckaa.G
open Go.RowKit Go.Proofs.YtckdhahceelckaaW.PrintWords Go.Proofs.YtckdhahceelckaaW.PrintLast Go.Proofs.YtckdhahceelckaaW.PrintMore
attribute [local go_sem] max2_mx min2_mn max_two min_two max_three min_three max_four min_four
set_option linter.unusedVariables false
set_option linter.unusedSimpArgs false
/-- the state ahead of digit z -/
def DnI (l : List Int) (c z q r : Int) : Prop := 0 ≤ q ∧ 0 ≤ r ∧ r < c ∧ q * c + r = mag (l.drop (z + 1).toNat)
theorem DnI.start (l : List Int) (c : Int) (hl : l.length = 8) (hc : 0 < c) : DnI l c 7 0 0 := ⟨by omega, by omega, hc, by rw [List.drop_of_length_le (by omega)]; simp [mag]⟩
theorem DnI.skip {l : List Int} {c : Int} {i : Nat} (h : DnI l c i 0 0) (hl : l.length = 8) (hi : i < 8) (h0 : dg l i = 0) : DnI l c ((i : Int) - 1) 0 0 := by
  obtain ⟨h1, h2, h3, h4⟩ := h
  refine ⟨h1, h2, h3, ?_⟩
  rw [show ((i : Int) - 1 + 1).toNat = i by omega, mag_drop l i (by omega), h0]
  rw [show ((i : Int) + 1).toNat = i + 1 by omega] at h4
  rw [← h4]; simp
theorem DnI.inn {l : List Int} {c q r : Int} {i : Nat} (h : DnI l c i q r) (hd : digs l) : DivI (mag (l.drop (i + 1))) (dg l i) c 0 q r := by
  obtain ⟨h1, h2, h3, h4⟩ := h
  rw [show ((i : Int) + 1).toNat = i + 1 by omega] at h4
  exact DivI.start h1 h2 h3 h4 (dg_ok hd i).1 (dg_ok hd i).2
theorem DnI.out {l : List Int} {c q r : Int} {i : Nat} (h : DivI (mag (l.drop (i + 1))) (dg l i) c 24 q r) (hl : l.length = 8) (hi : i < 8) : DnI l c ((i : Int) - 1) q r := by
  obtain ⟨h1, h2, h3, h4⟩ := h.done
  refine ⟨h1, h2, h3, ?_⟩
  rw [show ((i : Int) - 1 + 1).toNat = i by omega, mag_drop l i (by omega), h4]
theorem DnI.q_le {l : List Int} {c q r : Int} {i j : Nat} (h : DivI (mag (l.drop (i + 1))) (dg l i) c j q r) (hj : j < 24) (hl : l.length = 8) (hd : digs l) (hi : i < 8) (hM : mag l ≤ 4611686018427387902 * c) : q ≤ 2305843009213693951 := by
  have h1 := mag_split l i (by omega)
  rw [mag_drop l i (by omega)] at h1
  have h2 := mag_nonneg _ (digs_take hd i)
  have h3 := mag_nonneg _ (digs_drop hd (i + 1))
  have h4 := dg_ok hd i
  have h5 : 1 * (dg l i + 16777216 * mag (l.drop (i + 1))) ≤ 16777216 ^ i * (dg l i + 16777216 * mag (l.drop (i + 1))) := Int.mul_le_mul_of_nonneg_right (by have := pw_pos i; omega) (by omega)
  obtain ⟨a1, a2, a3, a4⟩ := id h
  have := h.small (S := 4611686018427387902) hj h3 h4.1 (M := mag l) (by omega) (by omega)
  omega
theorem DnI.fin {l : List Int} {c q r : Int} (h : DnI l c (-1) q r) (hM : mag l ≤ 4611686018427387902 * c) : 0 ≤ q ∧ q ≤ 4611686018427387902 ∧ 0 ≤ r ∧ (0 < r → wval true l / c = -(q + 1)) ∧ (r ≤ 0 → wval true l / c = -q) ∧ wval false l / c = q := by
  obtain ⟨h1, h2, h3, h4⟩ := h
  rw [show ((-1 : Int) + 1).toNat = 0 by decide, List.drop_zero] at h4
  have hc : 0 < c := by omega
  obtain ⟨e1, e2⟩ := divEnd h1 h2 h3 h4
  have f := floor_neg (mag l) c hc
  rw [← e1, ← e2] at f
  have k : q * c ≤ 4611686018427387902 * c := by omega
  have k2 := Int.le_of_mul_le_mul_right k hc
  refine ⟨h1, k2, h2, fun hr => ?_, fun hr => ?_, e1.symm⟩
  · show (-mag l) / c = _
    rw [f, if_pos hr]
  · show (-mag l) / c = _
    rw [f, if_neg (by omega)]
set_option maxHeartbeats 4000000 in
theorem down_calls (n : Bool) (l : List Int) (c : Int) (hl : l.length = 8) (hd : digs l) (hc0 : 0 < c) (hc1 : c ≤ 4611686018427387903) (hM : mag l ≤ 4611686018427387902 * c) (w : World) :
    Calls Try.prog 150 #[.agg (aW n l), .int .i64 c] w fun e w' => e = .returned (.tuple #[.int .i64 (wval n l / c), .bool true]) ∧ Below w.heap.size w w' := by
  have HL := Lh hl
  have HD := Lh hd
  have HM := Lh hM
  have HX := Lh (DnI.start l c hl hc0)
  clear hl hd hM
  have HA := Lh (Wd.new w n l)
  have HW := Lh ((Below.refl _ w).alloc (Nat.le_refl _) (.cells (aW n l) 169))
  have hcn : decide (c < 0) = false := by simp; omega
  go_enter Try.func150, Try.ntmps150
  go_wp2
  clear hcn
  go_loopw [7, 8, 9, 10] (fun v7 v8 v9 v10 wr => ∃ z q r : Int, v9 = .int .i64 z ∧ v7 = .int .i64 q ∧ v8 = .int .i64 r ∧ -1 ≤ z ∧ z ≤ 7 ∧ Hid (DnI l c z q r) ∧ Hid (Wd wr w.heap.size n l) ∧ Hid (Below w.heap.size w wr)) (fun _ _ i _ _ => (intOf i + 1).toNat)
  case atStart => exact ⟨7, 0, 0, rfl, rfl, rfl, by omega, by omega, HX, HA, HW⟩
  case round =>
    clear HX HA HW
    obtain ⟨z, q, r, rfl, rfl, rfl, hz1, hz2, hI, hA, hW⟩ := hrel
    obtain ⟨wo, rfl⟩ : ∃ wo : World, wo = wr := ⟨_, rfl⟩
    by_cases hz : z < 0
    · obtain rfl : z = -1 := by omega
      obtain ⟨q0, q1, r0, v1, v2, v3⟩ := hI.out.fin HM.out
      clear hz1 hz2 hz
      cases n
      · have hd1 : decide ((4611686018427387903 : Int) < q) = false := by simp; omega
        have V := Lh v3
        clear v1 v2 v3
        go_wp2
        go_ret2
        exact ⟨by rw [V.out]; rfl, hW.out⟩
      · by_cases hr : 0 < r
        · have hd1 : decide ((4611686018427387903 : Int) < q + 1) = false := by simp; omega
          have V := Lh (v1 hr)
          have hr1 : decide (0 < r) = true := by simpa using hr
          clear v1 v2 v3 hr
          go_wp2
          go_ret2
          exact ⟨by rw [V.out]; rfl, hW.out⟩
        · have hd1 : decide ((4611686018427387903 : Int) < q) = false := by simp; omega
          have V := Lh (v2 (by omega))
          have hr1 : decide (0 < r) = false := by simpa using hr
          clear v1 v2 v3 hr
          go_wp2
          go_ret2
          exact ⟨by rw [V.out]; rfl, hW.out⟩
    · obtain ⟨i, rfl⟩ : ∃ i : Nat, z = i := ⟨z.toNat, by omega⟩
      have hi : i < 8 := by omega
      have c0 := hA.out.dig i hi
      obtain ⟨a0, a1⟩ := dg_ok HD.out i
      obtain ⟨q0, r0, r1, _⟩ := id hI.out
      by_cases hskip : dg l i = 0 ∧ q = 0 ∧ r = 0
      · obtain ⟨h0, rfl, rfl⟩ := hskip
        have hN := Lh (hI.out.skip HL.out hi h0)
        rw [h0] at c0
        clear h0 a0 a1 q0 r0 r1 hz
        go_wp2
        go_roundw
        case rel => exact ⟨_, 0, 0, rfl, rfl, rfl, by omega, by omega, hN, hA, hW⟩
        case measure => simp [intOf]
      · obtain ⟨d, hd⟩ : ∃ d, dg l i = d := ⟨_, rfl⟩
        have hN := Lh (hI.out.inn HD.out)
        have HQ := Lh (fun (j : Nat) (q r : Int) (h : DivI (mag (l.drop (i + 1))) (dg l i) c j q r) (hj : j < 24) => DnI.q_le h hj HL.out HD.out hi HM.out)
        have HO := Lh (fun (q r : Int) (h : DivI (mag (l.drop (i + 1))) (dg l i) c 24 q r) => DnI.out h HL.out hi)
        rw [hd] at c0 a0 a1 hskip hN HQ HO
        have HDD := Lh hd
        clear hd hz
        have hcase : ((d == 0) = false) ∨ ((d == 0) = true ∧ (q == 0) = false) ∨ ((d == 0) = true ∧ (q == 0) = true ∧ (r == 0) = false) := by
          by_cases x : d = 0
          · by_cases y : q = 0
            · right; right; simp [x, y] at hskip ⊢; exact hskip
            · right; left; simp [x, y]
          · left; simp [x]
        clear hskip
        generalize mag (l.drop (i + 1)) = D at hN HQ HO
        rcases hcase with t1 | ⟨t1, t2⟩ | ⟨t1, t2, t3⟩
        all_goals
          go_wp2
          go_loopw [7, 8, 10] (fun v7 v8 v10 wr => ∃ (j : Nat) (q r : Int), j ≤ 24 ∧ v10 = .int .i64 (bitOf 24 j) ∧ v7 = .int .i64 q ∧ v8 = .int .i64 r ∧ Hid (DivI D d c j q r) ∧ Hid (Wd wr w.heap.size n l) ∧ Hid (Below w.heap.size w wr)) (fun _ _ b _ => (intOf b).toNat)
          case atStart => exact ⟨0, q, r, by omega, rfl, rfl, rfl, hN, hA, hW⟩
          case round =>
            clear hN hA hW q0 r0 r1 c0
            (try clear t1)
            (try clear t2)
            (try clear t3)
            obtain ⟨j, q, r, hj24, rfl, rfl, rfl, hJ, hA, hW⟩ := hrel
            obtain ⟨q0, r0, r1, _⟩ := id hJ.out
            by_cases hj : j < 24
            · have q1 := HQ.out j q r hJ.out hj
              have b0 := bitOf_pos 24 j hj
              have b1 := (bitOf_le 24 j).1
              have HB := Lh (bitOf_half 24 j hj)
              have m0 := Int.emod_nonneg (d / bitOf 24 j) (show (2 : Int) ≠ 0 by decide)
              have m1 := Int.emod_lt_of_pos (d / bitOf 24 j) (show (0 : Int) < 2 by decide)
              have HS0 := Lh (fun h => hJ.out.step0 hj h)
              have HS1 := Lh (fun h => hJ.out.step1 hj h)
              have c0 := hA.out.dig i hi
              rw [HDD.out] at c0
              have bb : (2 : Int) ^ (24 - 1) = 8388608 := by decide
              rw [bb] at b1
              obtain ⟨B, hB⟩ : ∃ B, bitOf 24 j = B := ⟨_, rfl⟩
              rw [hB] at b0 b1 m0 m1 HS0 HS1 HB ⊢
              have e0 : (B == 0) = false := by simp; omega
              have x0 : 0 ≤ d / B := Int.ediv_nonneg a0 (by omega)
              have x1 : d / B ≤ d := Int.ediv_le_self _ a0
              have e1 : IntKind.i64.wrap (d.tdiv B) = d / B := by rw [Int.tdiv_eq_ediv_of_nonneg a0]; exact iw_id _ (by omega) (by omega)
              clear bb hB
              have hd2 : decide ((2305843009213693951 : Int) < q) = false := by simp; omega
              obtain ⟨X, hX⟩ : ∃ X, d / B = X := ⟨_, rfl⟩
              rw [hX] at m0 m1 HS0 HS1 x0 x1 e1
              clear hX
              have hb : X % 2 = 0 ∨ X % 2 = 1 := by omega
              rcases hb with hb | hb
              · have e2 : (X % 2 == 1) = false := by rw [hb]; rfl
                rw [hb, Int.add_zero] at HS0 HS1
                clear hb m0 m1
                by_cases hc : c ≤ 2 * r
                · have hN := Lh (HS1.out hc)
                  have hd3 : decide (c ≤ 2 * r) = true := by simpa using hc
                  go_wp2
                  go_roundw
                  case rel => exact ⟨j + 1, _, _, by omega, by rw [← HB.out], rfl, rfl, hN, hA, hW⟩
                  case measure => simp [intOf]; omega
                · have hN := Lh (HS0.out (by omega))
                  have hd3 : decide (c ≤ 2 * r) = false := by simpa using hc
                  go_wp2
                  go_roundw
                  case rel => exact ⟨j + 1, _, _, by omega, by rw [← HB.out], rfl, rfl, hN, hA, hW⟩
                  case measure => simp [intOf]; omega
              · have e2 : (X % 2 == 1) = true := by rw [hb]; rfl
                rw [hb] at HS0 HS1
                clear hb m0 m1
                by_cases hc : c ≤ 2 * r + 1
                · have hN := Lh (HS1.out hc)
                  have hd3 : decide (c ≤ 2 * r + 1) = true := by simpa using hc
                  go_wp2
                  go_roundw
                  case rel => exact ⟨j + 1, _, _, by omega, by rw [← HB.out], rfl, rfl, hN, hA, hW⟩
                  case measure => simp [intOf]; omega
                · have hN := Lh (HS0.out (by omega))
                  have hd3 : decide (c ≤ 2 * r + 1) = false := by simpa using hc
                  go_wp2
                  go_roundw
                  case rel => exact ⟨j + 1, _, _, by omega, by rw [← HB.out], rfl, rfl, hN, hA, hW⟩
                  case measure => simp [intOf]; omega
            · obtain rfl : j = 24 := by omega
              have e0 : bitOf 24 24 = 0 := rfl
              have hN := Lh (HO.out q r hJ.out)
              go_wp2
              go_roundw
              case rel => exact ⟨_, q, r, rfl, rfl, rfl, by omega, by omega, hN, hA, hW⟩
              case measure => simp [intOf]
end Go.Proofs.Ytckdhahceelckaa.G
namespace Go.Proofs.Ytckdhahceelckaa.G
open Go.RowKit Go.Proofs.YtckdhahceelckaaW.PrintWords Go.Proofs.YtckdhahceelckaaW.PrintLast Go.Proofs.YtckdhahceelckaaW.PrintMore
attribute [local go_sem] max2_mx min2_mn max_two min_two max_three min_three max_four min_four
set_option linter.unusedVariables false
set_option linter.unusedSimpArgs false
theorem mag_wval {n : Bool} {l : List Int} (h : digs l) : 0 ≤ mag l ∧ (mag l = wval n l ∨ mag l = -wval n l) := by
  refine ⟨mag_nonneg l h, ?_⟩
  cases n <;> simp [wval]
/-- the root, down -/
def rtI (v : Int) : Int := isq v.toNat
theorem rtI_spec {v : Int} (h : 0 ≤ v) : 0 ≤ rtI v ∧ rtI v * rtI v ≤ v ∧ v < (rtI v + 1) * (rtI v + 1) := by
  obtain ⟨h1, h2⟩ := isq_spec v.toNat
  unfold rtI
  have e1 : ((isq v.toNat * isq v.toNat : Nat) : Int) = (isq v.toNat : Int) * (isq v.toNat : Int) := Int.natCast_mul ..
  have e2 : (((isq v.toNat + 1) * (isq v.toNat + 1) : Nat) : Int) = ((isq v.toNat : Int) + 1) * ((isq v.toNat : Int) + 1) := by rw [Int.natCast_mul, Int.natCast_add]; rfl
  omega
theorem p8 : (16777216 : Int) ^ 8 = 6277101735386680763835789423207666416102355444464034512896 := by decide
end Go.Proofs.Ytckdhahceelckaa.G
namespace Go.Proofs.Ytckdhahceelckaa.G
open Go.RowKit Go.Proofs.YtckdhahceelckaaW.PrintWords Go.Proofs.YtckdhahceelckaaW.PrintLast Go.Proofs.YtckdhahceelckaaW.PrintMore
attribute [local go_sem] max2_mx min2_mn max_two min_two max_three min_three max_four min_four
set_option linter.unusedVariables false
set_option linter.unusedSimpArgs false
/-- the slice at A reads as the numbers l -/
def RdI (w : World) (A : Option Addr) (l : List Int) : Prop :=
  ∀ i x, l[i]? = some x → ∃ b o, A = some ⟨b, o, none⟩ ∧ b < w.heap.size ∧ w.cell? ⟨b, o + i, none⟩ = some (.int .i64 x)
theorem RdI.below {w w1 : World} {A l} (h : RdI w A l) (hb : Below w.heap.size w w1) : RdI w1 A l := fun i p hp => by
  obtain ⟨b, o, hA, hlt, h1⟩ := h i p hp
  exact ⟨b, o, hA, Nat.lt_of_lt_of_le hlt hb.size, (hb.cell (p := ⟨b, _, none⟩) hlt).trans h1⟩
theorem RdI.get {w : World} {A : Option Addr} {l : List Int} (h : RdI w A l) (i : Nat) (hi : i < l.length) : ∃ b o, A = some ⟨b, o, none⟩ ∧ b < w.heap.size ∧ w.cell? ⟨b, o + i, none⟩ = some (.int .i64 l[i]) :=
  h i _ (List.getElem?_eq_getElem hi)
theorem RdI.of2 {w : World} {g : Nat} {x y : Int} {t : TypeId} (h : w.heap[g]? = some (.cells #[.int .i64 x, .int .i64 y] t (0, 0))) : RdI w (some ⟨g, 0, none⟩) [x, y] := fun i p hp => by
  match i, hp with
  | 0, hp => simp at hp; subst hp; exact ⟨g, 0, rfl, blk_lt h, (blk_cell h 0).trans rfl⟩
  | 1, hp => simp at hp; subst hp; exact ⟨g, 0, rfl, blk_lt h, (blk_cell h 1).trans rfl⟩
theorem RdI.of3 {w : World} {g : Nat} {x y z : Int} {t : TypeId} (h : w.heap[g]? = some (.cells #[.int .i64 x, .int .i64 y, .int .i64 z] t (0, 0))) : RdI w (some ⟨g, 0, none⟩) [x, y, z] := fun i p hp => by
  match i, hp with
  | 0, hp => simp at hp; subst hp; exact ⟨g, 0, rfl, blk_lt h, (blk_cell h 0).trans rfl⟩
  | 1, hp => simp at hp; subst hp; exact ⟨g, 0, rfl, blk_lt h, (blk_cell h 1).trans rfl⟩
  | 2, hp => simp at hp; subst hp; exact ⟨g, 0, rfl, blk_lt h, (blk_cell h 2).trans rfl⟩
/-- numbers that may be -/
def fits (x : Int) : Prop := -4611686018427387903 ≤ x ∧ x ≤ 4611686018427387903
set_option maxHeartbeats 1000000 in
theorem great_calls (l : List Int) (A : Option Addr) (c : Nat) (w : World) (h : RdI w A l) (hc : l.length ≤ c) (hm : l.length ≤ 100) (hf : ∀ x ∈ l, fits x) :
    Calls Try.prog 148 #[.slice A l.length c] w fun e w' => e = .returned (.bool false) ∧ w' = w := by
  have H := Lh h
  have HF := Lh hf
  clear h hf
  go_enter Try.func148, Try.ntmps148
  go_wp2
  go_loop [3] (fun v3 => ∃ k : Nat, k ≤ l.length ∧ v3 = .int .i64 k) (fun i => l.length - (intOf i).toNat)
  case atStart => exact ⟨0, by omega, rfl⟩
  case round =>
    obtain ⟨k, hk, rfl⟩ := hrel
    by_cases hlt : k < l.length
    · obtain ⟨b, o, rfl, hb, hx⟩ := H.out.get k hlt
      obtain ⟨f1, f2⟩ := HF.out _ (List.getElem_mem hlt)
      obtain ⟨x, hx'⟩ : ∃ x, l[k] = x := ⟨_, rfl⟩
      rw [hx'] at hx f1 f2
      clear hx'
      have d1 : decide (x < -4611686018427387903) = false := by simp; omega
      have d2 : decide (4611686018427387903 < x) = false := by simp; omega
      go_wp2
      go_round
      case rel => exact ⟨k + 1, by omega, by go_num⟩
      case measure => simp [intOf]; omega
    · go_wp2
      go_ret
      exact ⟨rfl, rfl⟩
set_option maxHeartbeats 1000000 in
theorem tells_calls (v : Value) (n : Int) (hn : fits n) (w : World) :
    Calls Try.prog 149 #[v, .int .i64 n, .bool true] w fun e w' => e = .returned (.int .i64 n) ∧ w' = w := by
  obtain ⟨f1, f2⟩ := hn
  have d1 : decide (n < -4611686018427387903) = false := by simp; omega
  have d2 : decide (4611686018427387903 < n) = false := by simp; omega
  go_enter Try.func149, Try.ntmps149
  go_wp2
  go_ret
  exact ⟨rfl, rfl⟩
set_option maxHeartbeats 1000000 in
theorem wadd_calls (v : Value) (a b : Int) (ha : fits a) (hb : fits b) (hs : fits (a + b)) (w : World) :
    Calls Try.prog 99 #[v, .int .i64 a, .int .i64 b] w fun e w' => e = .returned (.int .i64 (a + b)) ∧ Below w.heap.size w w' := by
  have HF : Hid (∀ x ∈ [a, b], fits x) := Lh (by intro x hx; simp at hx; rcases hx with rfl | rfl <;> assumption)
  have HS := Lh hs
  obtain ⟨a1, a2⟩ := ha
  obtain ⟨b1, b2⟩ := hb
  clear hs
  go_enter Try.func99, Try.ntmps99
  go_wp2_with fail
  refine (great_calls [a, b] _ 2 _ (RdI.of2 (heap_alloc_new w _)) (Nat.le_refl _) (by simp) HF.out).mono ?_
  rintro e w1 ⟨rfl, rfl⟩
  go_wp2_with fail
  refine (tells_calls v (a + b) HS.out _).mono ?_
  rintro e w1 ⟨rfl, rfl⟩
  go_wp2
  go_ret
  exact ⟨rfl, (Below.refl _ w).alloc (Nat.le_refl _) _⟩
set_option maxHeartbeats 1000000 in
theorem wsub_calls (v : Value) (a b : Int) (ha : fits a) (hb : fits b) (hs : fits (a - b)) (w : World) :
    Calls Try.prog 101 #[v, .int .i64 a, .int .i64 b] w fun e w' => e = .returned (.int .i64 (a - b)) ∧ Below w.heap.size w w' := by
  have HF : Hid (∀ x ∈ [a, b], fits x) := Lh (by intro x hx; simp at hx; rcases hx with rfl | rfl <;> assumption)
  have HS := Lh hs
  obtain ⟨a1, a2⟩ := ha
  obtain ⟨b1, b2⟩ := hb
  clear hs
  go_enter Try.func101, Try.ntmps101
  go_wp2_with fail
  refine (great_calls [a, b] _ 2 _ (RdI.of2 (heap_alloc_new w _)) (Nat.le_refl _) (by simp) HF.out).mono ?_
  rintro e w1 ⟨rfl, rfl⟩
  go_wp2_with fail
  refine (tells_calls v (a - b) HS.out _).mono ?_
  rintro e w1 ⟨rfl, rfl⟩
  go_wp2
  go_ret
  exact ⟨rfl, (Below.refl _ w).alloc (Nat.le_refl _) _⟩
theorem mag_prod {n m : Bool} {l k : List Int} (hd : digs l) (he : digs k) (X Y : Nat) (h1 : (wval n l).natAbs ≤ X) (h2 : (wval m k).natAbs ≤ Y) : mag l * mag k ≤ X * Y := by
  have a := mag_wval (n := n) hd
  have b := mag_wval (n := m) he
  exact Int.mul_le_mul (by omega) (by omega) b.1 (by omega)
set_option maxHeartbeats 2000000 in
theorem wratio_calls (v : Value) (a b c : Int) (ha : fits a) (hb : fits b) (hc : fits c) (hc0 : 0 < c) (hq : (a * b).natAbs ≤ 4611686018427387902 * c) (w : World) :
    Calls Try.prog 100 #[v, .int .i64 a, .int .i64 b, .int .i64 c] w fun e w' => e = .returned (.int .i64 (a * b / c)) ∧ Below w.heap.size w w' := by
  have HF : Hid (∀ x ∈ [a, b, c], fits x) := Lh (by intro x hx; simp at hx; rcases hx with rfl | rfl | rfl <;> assumption)
  obtain ⟨a1, a2⟩ := ha
  obtain ⟨b1, b2⟩ := hb
  obtain ⟨c1, c2⟩ := hc
  have hz : (c == 0) = false := by simp; omega
  have hfit : Hid (fits (a * b / c)) := by
    have e1 : a * b / c * c ≤ a * b := Int.ediv_mul_le _ (by omega)
    have e2 : a * b < (a * b / c + 1) * c := by have := Int.lt_ediv_add_one_mul_self (a * b) hc0; exact this
    unfold fits
    constructor
    · rcases Int.le_total 0 (a * b / c + 4611686018427387903) with h | h
      · omega
      · have := Int.mul_le_mul_of_nonneg_right (show a * b / c + 1 ≤ -4611686018427387902 by omega) (Int.le_of_lt hc0); omega
    · rcases Int.le_total (a * b / c) 4611686018427387903 with h | h
      · omega
      · have := Int.mul_le_mul_of_nonneg_right h (Int.le_of_lt hc0); omega
  have HQ := Lh hq
  clear hq
  go_enter Try.func100, Try.ntmps100
  go_wp2_with fail
  refine (great_calls [a, b, c] _ 3 _ (RdI.of3 (heap_alloc_new w _)) (Nat.le_refl _) (by simp) HF.out).mono ?_
  rintro e w1 ⟨rfl, rfl⟩
  go_wp2_with fail
  refine (of_calls a (by omega) (by omega) _).mono ?_
  rintro e w1 ⟨u, rfl, ⟨n1, l1, rfl, hl1, hd1, hv1⟩, hb1⟩
  have H1 := Lh (And.intro hl1 (And.intro hd1 hv1))
  have HB1 := Lh (bthen ((Below.refl _ w).alloc (Nat.le_refl _) _) hb1)
  clear hl1 hd1 hv1 hb1
  go_wp2_with fail
  refine (of_calls b (by omega) (by omega) _).mono ?_
  rintro e w2 ⟨u, rfl, ⟨n2, l2, rfl, hl2, hd2, hv2⟩, hb2⟩
  have H2 := Lh (And.intro hl2 (And.intro hd2 hv2))
  have HB2 := Lh (bthen HB1.out hb2)
  clear hl2 hd2 hv2 hb2 HB1
  go_wp2_with fail
  refine (times_calls n1 n2 l1 l2 H1.out.1 H2.out.1 H1.out.2.1 H2.out.2.1 ?_ _).mono ?_
  · have := mag_prod (n := n1) (m := n2) H1.out.2.1 H2.out.2.1 9223372036854775807 9223372036854775807 (by rw [H1.out.2.2]; omega) (by rw [H2.out.2.2]; omega)
    rw [p8]; omega
  rintro e w3 ⟨u, rfl, ⟨n3, l3, rfl, hl3, hd3, hv3⟩, hb3⟩
  rw [H1.out.2.2, H2.out.2.2] at hv3
  have H3 := Lh (And.intro hl3 (And.intro hd3 hv3))
  have HB3 := Lh (bthen HB2.out hb3)
  clear hl3 hd3 hv3 hb3 HB2
  go_wp2_with fail
  refine (down_calls n3 l3 c H3.out.1 H3.out.2.1 hc0 c2 ?_ _).mono ?_
  · have := mag_wval (n := n3) H3.out.2.1; have := H3.out.2.2; have := HQ.out; omega
  rintro e w4 ⟨rfl, hb4⟩
  rw [H3.out.2.2]
  have HB4 := Lh (bthen HB3.out hb4)
  clear hb4 HB3
  go_wp2_with fail
  refine (tells_calls v (a * b / c) hfit.out _).mono ?_
  rintro e w5 ⟨rfl, rfl⟩
  go_wp2
  go_ret
  exact ⟨rfl, HB4.out⟩
end Go.Proofs.Ytckdhahceelckaa.G
namespace Go.Proofs.Ytckdhahceelckaa.G
open Go.RowKit Go.Proofs.YtckdhahceelckaaW.PrintWords Go.Proofs.YtckdhahceelckaaW.PrintLast Go.Proofs.YtckdhahceelckaaW.PrintMore
attribute [local go_sem] max2_mx min2_mn max_two min_two max_three min_three max_four min_four
set_option linter.unusedVariables false
set_option linter.unusedSimpArgs false
/-- a work that is not Bad -/
def Wk (w : World) (g : Nat) : Prop := w.heap[g]? = some (.cells #[.bool false] 85 (0, 0))
theorem Wk.below {w w1 : World} {g : Nat} (h : Wk w g) (hb : Below w.heap.size w w1) : Wk w1 g := (hb.block _ (blk_lt h)).trans h
theorem Wk.cell {w : World} {g : Nat} (h : Wk w g) : w.cell? ⟨g, 0, none⟩ = some (.bool false) := (blk_cell h 0).trans rfl
theorem Wk.fz {w : World} {g : Nat} (h : Wk w g) : w.frozen? ⟨g, 0, none⟩ = false := blk_frozen h 0
theorem Wk.alloc {w : World} {g : Nat} (h : Wk w g) (o : Obj) : Wk (w.alloc o) g := h.below ((Below.refl _ w).alloc (Nat.le_refl _) o)
theorem Wk.new (w : World) : Wk (w.alloc (.cells #[.bool false] 85)) w.heap.size := heap_alloc_new w _
/-- the wide product of two vectors, in FX -/
def vdotF (a b : P3) : Int := dotI a b / 4294967296
def fits3 (a : P3) : Prop := fits a.x ∧ fits a.y ∧ fits a.z
abbrev aP (p : P3) : Value := .agg #[.int .i64 p.x, .int .i64 p.y, .int .i64 p.z]
end Go.Proofs.Ytckdhahceelckaa.G
namespace Go.Proofs.Ytckdhahceelckaa.G
open Go.RowKit Go.Proofs.YtckdhahceelckaaW.PrintWords Go.Proofs.YtckdhahceelckaaW.PrintLast Go.Proofs.YtckdhahceelckaaW.PrintMore
attribute [local go_sem] max2_mx min2_mn max_two min_two max_three min_three max_four min_four
set_option linter.unusedVariables false
set_option linter.unusedSimpArgs false
def addI (a b : P3) : P3 := ⟨a.x + b.x, a.y + b.y, a.z + b.z⟩
/-- the rows of a turn -/
structure M3 where
  a : P3
  b : P3
  c : P3
def turnF (m : M3) (v : P3) : P3 := ⟨vdotF m.a v, vdotF m.b v, vdotF m.c v⟩
def dotOk (a b : P3) : Prop := fits3 a ∧ fits3 b ∧ (dotI a b).natAbs ≤ 4611686018427387902 * 4294967296
/-- block g holds the rows -/
def Mk (w : World) (g : Nat) (m : M3) : Prop := w.heap[g]? = some (.cells #[.int .i64 m.a.x, .int .i64 m.a.y, .int .i64 m.a.z, .int .i64 m.b.x, .int .i64 m.b.y, .int .i64 m.b.z, .int .i64 m.c.x, .int .i64 m.c.y, .int .i64 m.c.z] 138 (0, 0))
theorem Mk.below {w w1 : World} {g : Nat} {m : M3} (h : Mk w g m) (hb : Below w.heap.size w w1) : Mk w1 g m := (hb.block _ (blk_lt h)).trans h
theorem Mk.all {w g m} (h : Mk w g m) : w.cell? ⟨g, 0, none⟩ = some (.int .i64 m.a.x) ∧ w.cell? ⟨g, 1, none⟩ = some (.int .i64 m.a.y) ∧ w.cell? ⟨g, 2, none⟩ = some (.int .i64 m.a.z) ∧ w.cell? ⟨g, 3, none⟩ = some (.int .i64 m.b.x) ∧ w.cell? ⟨g, 4, none⟩ = some (.int .i64 m.b.y) ∧ w.cell? ⟨g, 5, none⟩ = some (.int .i64 m.b.z) ∧ w.cell? ⟨g, 6, none⟩ = some (.int .i64 m.c.x) ∧ w.cell? ⟨g, 7, none⟩ = some (.int .i64 m.c.y) ∧ w.cell? ⟨g, 8, none⟩ = some (.int .i64 m.c.z) :=
  ⟨(blk_cell h 0).trans rfl, (blk_cell h 1).trans rfl, (blk_cell h 2).trans rfl, (blk_cell h 3).trans rfl, (blk_cell h 4).trans rfl, (blk_cell h 5).trans rfl, (blk_cell h 6).trans rfl, (blk_cell h 7).trans rfl, (blk_cell h 8).trans rfl⟩
end Go.Proofs.Ytckdhahceelckaa.G
namespace Go.Proofs.Ytckdhahceelckaa.G
open Go.RowKit Go.Proofs.YtckdhahceelckaaW.PrintWords Go.Proofs.YtckdhahceelckaaW.PrintLast Go.Proofs.YtckdhahceelckaaW.PrintMore
attribute [local go_sem] max2_mx min2_mn max_two min_two max_three min_three max_four min_four
set_option linter.unusedVariables false
set_option linter.unusedSimpArgs false
structure Q4 where
  w : Int
  x : Int
  y : Int
  z : Int
/-- block g holds a turn -/
def Qk (w : World) (g : Nat) (q : Q4) : Prop := w.heap[g]? = some (.cells #[.int .i64 q.w, .int .i64 q.x, .int .i64 q.y, .int .i64 q.z] 29 (0, 0))
theorem Qk.below {w w1 : World} {g : Nat} {m : Q4} (h : Qk w g m) (hb : Below w.heap.size w w1) : Qk w1 g m := (hb.block _ (blk_lt h)).trans h
theorem Qk.all {w g q} (h : Qk w g q) : w.cell? ⟨g, 0, none⟩ = some (.int .i64 q.w) ∧ w.cell? ⟨g, 1, none⟩ = some (.int .i64 q.x) ∧ w.cell? ⟨g, 2, none⟩ = some (.int .i64 q.y) ∧ w.cell? ⟨g, 3, none⟩ = some (.int .i64 q.z) :=
  ⟨(blk_cell h 0).trans rfl, (blk_cell h 1).trans rfl, (blk_cell h 2).trans rfl, (blk_cell h 3).trans rfl⟩
theorem Qk.fzs {w g q} (h : Qk w g q) : w.frozen? ⟨g, 0, none⟩ = false ∧ w.frozen? ⟨g, 1, none⟩ = false ∧ w.frozen? ⟨g, 2, none⟩ = false ∧ w.frozen? ⟨g, 3, none⟩ = false :=
  ⟨blk_frozen h 0, blk_frozen h 1, blk_frozen h 2, blk_frozen h 3⟩
/-- the size of a raw turn -/
def lenF (q : Q4) : Int := rtI (q.w * q.w + q.x * q.x + q.y * q.y + q.z * q.z)
def unitF (q : Q4) : Q4 := ⟨q.w * 4294967296 / lenF q, q.x * 4294967296 / lenF q, q.y * 4294967296 / lenF q, q.z * 4294967296 / lenF q⟩
def raw40 (x : Int) : Prop := -1099511627776 ≤ x ∧ x ≤ 1099511627776
theorem raw40.fits {x : Int} (h : raw40 x) : fits x := by unfold raw40 at h; unfold G.fits; omega
end Go.Proofs.Ytckdhahceelckaa.G
namespace Go.Proofs.Ytckdhahceelckaa.G
open Go.RowKit Go.Proofs.YtckdhahceelckaaW.PrintWords Go.Proofs.YtckdhahceelckaaW.PrintLast Go.Proofs.YtckdhahceelckaaW.PrintMore
attribute [local go_sem] max2_mx min2_mn max_two min_two max_three min_three max_four min_four
set_option linter.unusedVariables false
set_option linter.unusedSimpArgs false
def D2 (a b c d : Int) : Int := (a * c + b * d) / 4294967296
def small (x : Int) : Prop := -17179869184 ≤ x ∧ x ≤ 17179869184
theorem small.fits {x : Int} (h : small x) : fits x := by unfold small at h; unfold G.fits; omega
def rowsF (q : Q4) : M3 :=
  ⟨⟨4294967296 - D2 (q.y + q.y) (q.z + q.z) q.y q.z, D2 (q.x + q.x) (q.w + q.w) q.y (-q.z), D2 (q.x + q.x) (q.w + q.w) q.z q.y⟩,
   ⟨D2 (q.x + q.x) (q.w + q.w) q.y q.z, 4294967296 - D2 (q.x + q.x) (q.z + q.z) q.x q.z, D2 (q.y + q.y) (q.w + q.w) q.z (-q.x)⟩,
   ⟨D2 (q.x + q.x) (q.w + q.w) q.z (-q.y), D2 (q.y + q.y) (q.w + q.w) q.z q.x, 4294967296 - D2 (q.x + q.x) (q.y + q.y) q.x q.y⟩⟩
/-- nine cells of a block -/
def Nk (w : World) (g : Nat) (a0 a1 a2 a3 a4 a5 a6 a7 a8 : Int) : Prop := w.heap[g]? = some (.cells #[.int .i64 a0, .int .i64 a1, .int .i64 a2, .int .i64 a3, .int .i64 a4, .int .i64 a5, .int .i64 a6, .int .i64 a7, .int .i64 a8] 138 (0, 0))
theorem Nk.below {w w1 : World} {g : Nat} {a0 a1 a2 a3 a4 a5 a6 a7 a8} (h : Nk w g a0 a1 a2 a3 a4 a5 a6 a7 a8) (hb : Below w.heap.size w w1) : Nk w1 g a0 a1 a2 a3 a4 a5 a6 a7 a8 := (hb.block _ (blk_lt h)).trans h
theorem Nk.set0 {w : World} {g : Nat} {a0 a1 a2 a3 a4 a5 a6 a7 a8} (h : Nk w g a0 a1 a2 a3 a4 a5 a6 a7 a8) (x : Int) : Nk (w.setCell ⟨g, 0, none⟩ (.int .i64 x)) g x a1 a2 a3 a4 a5 a6 a7 a8 := by
  have h8 := blk_set h 0 (.int .i64 x)
  simp only [List.setIfInBounds_toArray, List.set_cons_zero, List.set_cons_succ] at h8
  exact h8
theorem Nk.set1 {w : World} {g : Nat} {a0 a1 a2 a3 a4 a5 a6 a7 a8} (h : Nk w g a0 a1 a2 a3 a4 a5 a6 a7 a8) (x : Int) : Nk (w.setCell ⟨g, 1, none⟩ (.int .i64 x)) g a0 x a2 a3 a4 a5 a6 a7 a8 := by
  have h8 := blk_set h 1 (.int .i64 x)
  simp only [List.setIfInBounds_toArray, List.set_cons_zero, List.set_cons_succ] at h8
  exact h8
theorem Nk.set2 {w : World} {g : Nat} {a0 a1 a2 a3 a4 a5 a6 a7 a8} (h : Nk w g a0 a1 a2 a3 a4 a5 a6 a7 a8) (x : Int) : Nk (w.setCell ⟨g, 2, none⟩ (.int .i64 x)) g a0 a1 x a3 a4 a5 a6 a7 a8 := by
  have h8 := blk_set h 2 (.int .i64 x)
  simp only [List.setIfInBounds_toArray, List.set_cons_zero, List.set_cons_succ] at h8
  exact h8
theorem Nk.set3 {w : World} {g : Nat} {a0 a1 a2 a3 a4 a5 a6 a7 a8} (h : Nk w g a0 a1 a2 a3 a4 a5 a6 a7 a8) (x : Int) : Nk (w.setCell ⟨g, 3, none⟩ (.int .i64 x)) g a0 a1 a2 x a4 a5 a6 a7 a8 := by
  have h8 := blk_set h 3 (.int .i64 x)
  simp only [List.setIfInBounds_toArray, List.set_cons_zero, List.set_cons_succ] at h8
  exact h8
theorem Nk.set4 {w : World} {g : Nat} {a0 a1 a2 a3 a4 a5 a6 a7 a8} (h : Nk w g a0 a1 a2 a3 a4 a5 a6 a7 a8) (x : Int) : Nk (w.setCell ⟨g, 4, none⟩ (.int .i64 x)) g a0 a1 a2 a3 x a5 a6 a7 a8 := by
  have h8 := blk_set h 4 (.int .i64 x)
  simp only [List.setIfInBounds_toArray, List.set_cons_zero, List.set_cons_succ] at h8
  exact h8
end Go.Proofs.Ytckdhahceelckaa.G
namespace Go.Proofs.Ytckdhahceelckaa.G
open Go.RowKit Go.Proofs.YtckdhahceelckaaW.PrintWords Go.Proofs.YtckdhahceelckaaW.PrintLast Go.Proofs.YtckdhahceelckaaW.PrintMore
attribute [local go_sem] max2_mx min2_mn max_two min_two max_three min_three max_four min_four
set_option linter.unusedVariables false
set_option linter.unusedSimpArgs false
theorem bs3 {W : World} {g : Nat} {b0 b1 b2 : Value} {t : TypeId} (h : W.heap[g]? = some (.cells #[b0, b1, b2] t (0, 0))) (a0 a1 a2 : Value) :
    (((W.setCell ⟨g, 0, none⟩ a0).setCell ⟨g, 1, none⟩ a1).setCell ⟨g, 2, none⟩ a2).heap[g]? = some (.cells #[a0, a1, a2] t (0, 0)) := by
  have h0 := blk_set h 0 a0
  have h1 := blk_set h0 1 a1
  have h2 := blk_set h1 2 a2
  simp only [List.setIfInBounds_toArray, List.set_cons_zero, List.set_cons_succ] at h2
  exact h2
theorem bb3 {B : Nat} {A W : World} {g : Nat} (h : Below B A W) (hg : B ≤ g) (a0 a1 a2 : Value) : Below B A (((W.setCell ⟨g, 0, none⟩ a0).setCell ⟨g, 1, none⟩ a1).setCell ⟨g, 2, none⟩ a2) := (((h.setCell (p := ⟨g, 0, none⟩) hg a0).setCell (p := ⟨g, 1, none⟩) hg a1).setCell (p := ⟨g, 2, none⟩) hg a2)
theorem bo3 {W : World} {g k : Nat} (h : k ≠ g) (a0 a1 a2 : Value) : (((W.setCell ⟨g, 0, none⟩ a0).setCell ⟨g, 1, none⟩ a1).setCell ⟨g, 2, none⟩ a2).heap[k]? = W.heap[k]? :=
  (Below.heap_setCell _ _ _ k h).trans ( (Below.heap_setCell _ _ _ k h).trans ( (Below.heap_setCell _ _ _ k h)))
theorem bs4 {W : World} {g : Nat} {b0 b1 b2 b3 : Value} {t : TypeId} (h : W.heap[g]? = some (.cells #[b0, b1, b2, b3] t (0, 0))) (a0 a1 a2 a3 : Value) :
    ((((W.setCell ⟨g, 0, none⟩ a0).setCell ⟨g, 1, none⟩ a1).setCell ⟨g, 2, none⟩ a2).setCell ⟨g, 3, none⟩ a3).heap[g]? = some (.cells #[a0, a1, a2, a3] t (0, 0)) := by
  have h0 := blk_set h 0 a0
  have h1 := blk_set h0 1 a1
  have h2 := blk_set h1 2 a2
  have h3 := blk_set h2 3 a3
  simp only [List.setIfInBounds_toArray, List.set_cons_zero, List.set_cons_succ] at h3
  exact h3
theorem bb4 {B : Nat} {A W : World} {g : Nat} (h : Below B A W) (hg : B ≤ g) (a0 a1 a2 a3 : Value) : Below B A ((((W.setCell ⟨g, 0, none⟩ a0).setCell ⟨g, 1, none⟩ a1).setCell ⟨g, 2, none⟩ a2).setCell ⟨g, 3, none⟩ a3) := ((((h.setCell (p := ⟨g, 0, none⟩) hg a0).setCell (p := ⟨g, 1, none⟩) hg a1).setCell (p := ⟨g, 2, none⟩) hg a2).setCell (p := ⟨g, 3, none⟩) hg a3)
theorem bo4 {W : World} {g k : Nat} (h : k ≠ g) (a0 a1 a2 a3 : Value) : ((((W.setCell ⟨g, 0, none⟩ a0).setCell ⟨g, 1, none⟩ a1).setCell ⟨g, 2, none⟩ a2).setCell ⟨g, 3, none⟩ a3).heap[k]? = W.heap[k]? :=
  (Below.heap_setCell _ _ _ k h).trans ( (Below.heap_setCell _ _ _ k h).trans ( (Below.heap_setCell _ _ _ k h).trans ( (Below.heap_setCell _ _ _ k h))))
theorem ha_new {B : Nat} {A W : World} (h : Below B A W) (o : Obj) : (W.alloc o).heap[W.heap.size]? = some o := heap_alloc_new W o
/-- a raw number as one from -m to m -/
def partF (c m : Int) : Int := pickF c (2 * m + 1) - m
theorem partF_bd (c m : Int) (hm : 0 < m) : -m ≤ partF c m ∧ partF c m ≤ m := by have := pickF_bd c (2 * m + 1) (by omega); unfold partF; omega
end Go.Proofs.Ytckdhahceelckaa.G
namespace Go.Proofs.Ytckdhahceelckaa.G
open Go.RowKit Go.Proofs.YtckdhahceelckaaW.PrintWords Go.Proofs.YtckdhahceelckaaW.PrintLast Go.Proofs.YtckdhahceelckaaW.PrintMore
attribute [local go_sem] max2_mx min2_mn max_two min_two max_three min_three max_four min_four
set_option linter.unusedVariables false
set_option linter.unusedSimpArgs false
/-- a pose: where, and how it is turned -/
structure P7 where
  at_ : P3
  turn : Q4
def partQ (q : Q4) : Q4 := ⟨partF q.w 1099511627776, partF q.x 1099511627776, partF q.y 1099511627776, partF q.z 1099511627776⟩
def partV (p : P3) : P3 := ⟨partF p.x 4398046511104, partF p.y 4398046511104, partF p.z 4398046511104⟩
def wholeF (q : Q4) : Q4 := if lenF q < 2147483648 then ⟨4294967296, 0, 0, 0⟩ else unitF q
def rightPose (p : P7) : P7 := ⟨partV p.at_, wholeF (partQ p.turn)⟩
def i64 (x : Int) : Prop := -9223372036854775808 ≤ x ∧ x ≤ 9223372036854775807
theorem Wk.of {w : World} {g : Nat} (h : w.heap[g]? = some (.cells #[.bool false] 85 (0, 0))) : Wk w g := h
end Go.Proofs.Ytckdhahceelckaa.G
namespace Go.Proofs.Ytckdhahceelckaa.G
open Go.RowKit Go.Proofs.YtckdhahceelckaaW.PrintWords Go.Proofs.YtckdhahceelckaaW.PrintLast Go.Proofs.YtckdhahceelckaaW.PrintMore
attribute [local go_sem] max2_mx min2_mn max_two min_two max_three min_three max_four min_four
set_option linter.unusedVariables false
set_option linter.unusedSimpArgs false
def timesF (p : P3) (n : Int) : P3 := ⟨p.x * n, p.y * n, p.z * n⟩
set_option maxHeartbeats 1000000 in
theorem size5_calls (n : Int) (h1 : -4611686018427387904 ≤ n) (h2 : n ≤ 4611686018427387904) (w : World) :
    Calls Try.prog 131 #[.int .i64 n] w fun e w' => e = .returned (.int .i64 (n.natAbs : Int)) ∧ w' = w := by
  by_cases h : n < 0
  · have E := Lh (show -n = (n.natAbs : Int) by omega)
    have d : decide (n < 0) = true := by simpa using h
    go_enter Try.func131, Try.ntmps131
    go_wp2
    go_ret
    exact ⟨by rw [← E.out]; rfl, rfl⟩
  · have E := Lh (show n = (n.natAbs : Int) by omega)
    have d : decide (n < 0) = false := by simpa using h
    go_enter Try.func131, Try.ntmps131
    go_wp2
    go_ret
    exact ⟨by rw [← E.out]; rfl, rfl⟩
set_option maxHeartbeats 1000000 in
theorem in5_calls (n a b : Int) (r : Bool) (hr : decide (a ≤ n ∧ n ≤ b) = r) (w : World) :
    Calls Try.prog 129 #[.int .i64 n, .int .i64 a, .int .i64 b] w fun e w' => e = .returned (.bool r) ∧ w' = w := by
  by_cases h : a ≤ n
  · have d : decide (a ≤ n) = true := by simpa using h
    by_cases h' : n ≤ b
    · have d' : decide (n ≤ b) = true := by simpa using h'
      have E : Hid (r = true) := Lh (by rw [← hr]; simp [h, h'])
      clear hr h h'
      go_enter Try.func129, Try.ntmps129
      go_wp2
      go_ret
      exact ⟨by rw [E.out]; rfl, rfl⟩
    · have d' : decide (n ≤ b) = false := by simpa using h'
      have E : Hid (r = false) := Lh (by rw [← hr]; simp [h'])
      clear hr h h'
      go_enter Try.func129, Try.ntmps129
      go_wp2
      go_ret
      exact ⟨by rw [E.out]; rfl, rfl⟩
  · have d : decide (a ≤ n) = false := by simpa using h
    have E : Hid (r = false) := Lh (by rw [← hr]; simp [h])
    clear hr h
    go_enter Try.func129, Try.ntmps129
    go_wp2
    go_ret
    exact ⟨by rw [E.out]; rfl, rfl⟩
instance (n : Int) (p : P3) : Decidable (in3 n p) := by unfold in3; infer_instance
end Go.Proofs.Ytckdhahceelckaa.G
namespace Go.Proofs.Ytckdhahceelckaa.G
open Go.RowKit Go.Proofs.YtckdhahceelckaaW.PrintWords Go.Proofs.YtckdhahceelckaaW.PrintLast Go.Proofs.YtckdhahceelckaaW.PrintMore
attribute [local go_sem] max2_mx min2_mn max_two min_two max_three min_three max_four min_four
attribute [local go_sem high] eqA23
set_option linter.unusedVariables false
set_option linter.unusedSimpArgs false
set_option maxHeartbeats 4000000 in
theorem rin_calls (p : P3) (n : Int) (r : Bool) (hr : decide (in3 n p) = r) (h0 : 0 ≤ n) (h1 : n ≤ 4611686018427387904) (w : World) :
    Calls Try.prog 67 #[aP p, .int .i64 n] w fun e w' => e = .returned (.bool r) ∧ Below w.heap.size w w' := by
  obtain ⟨x, y, z⟩ := p
  have ew : IntKind.i64.wrap (-n) = -n := iw_id _ (by omega) (by omega)
  by_cases t0 : -n ≤ x
  rotate_left
  · have E : Hid (r = false) := Lh (by rw [← hr]; apply decide_eq_false; rintro ⟨k1, k2, k3, k4, k5, k6⟩; simp only at k1 k2 k3 k4 k5 k6; omega)
    have d0 : decide (-n ≤ x) = false := by simpa using t0
    clear hr t0
    go_enter Try.func67, Try.ntmps67
    go_wp2
    go_ret
    exact ⟨by rw [E.out]; rfl, (Below.refl _ w).alloc (Nat.le_refl _) _⟩
  by_cases t1 : x ≤ n
  rotate_left
  · have E : Hid (r = false) := Lh (by rw [← hr]; apply decide_eq_false; rintro ⟨k1, k2, k3, k4, k5, k6⟩; simp only at k1 k2 k3 k4 k5 k6; omega)
    have d0 : decide (-n ≤ x) = true := by simpa using t0
    have d1 : decide (x ≤ n) = false := by simpa using t1
    clear hr t0 t1
    go_enter Try.func67, Try.ntmps67
    go_wp2
    go_ret
    exact ⟨by rw [E.out]; rfl, (Below.refl _ w).alloc (Nat.le_refl _) _⟩
  by_cases t2 : -n ≤ y
  rotate_left
  · have E : Hid (r = false) := Lh (by rw [← hr]; apply decide_eq_false; rintro ⟨k1, k2, k3, k4, k5, k6⟩; simp only at k1 k2 k3 k4 k5 k6; omega)
    have d0 : decide (-n ≤ x) = true := by simpa using t0
    have d1 : decide (x ≤ n) = true := by simpa using t1
    have d2 : decide (-n ≤ y) = false := by simpa using t2
    clear hr t0 t1 t2
    go_enter Try.func67, Try.ntmps67
    go_wp2
    go_ret
    exact ⟨by rw [E.out]; rfl, (Below.refl _ w).alloc (Nat.le_refl _) _⟩
  by_cases t3 : y ≤ n
  rotate_left
  · have E : Hid (r = false) := Lh (by rw [← hr]; apply decide_eq_false; rintro ⟨k1, k2, k3, k4, k5, k6⟩; simp only at k1 k2 k3 k4 k5 k6; omega)
    have d0 : decide (-n ≤ x) = true := by simpa using t0
    have d1 : decide (x ≤ n) = true := by simpa using t1
    have d2 : decide (-n ≤ y) = true := by simpa using t2
    have d3 : decide (y ≤ n) = false := by simpa using t3
    clear hr t0 t1 t2 t3
    go_enter Try.func67, Try.ntmps67
    go_wp2
    go_ret
    exact ⟨by rw [E.out]; rfl, (Below.refl _ w).alloc (Nat.le_refl _) _⟩
  by_cases t4 : -n ≤ z
  rotate_left
  · have E : Hid (r = false) := Lh (by rw [← hr]; apply decide_eq_false; rintro ⟨k1, k2, k3, k4, k5, k6⟩; simp only at k1 k2 k3 k4 k5 k6; omega)
    have d0 : decide (-n ≤ x) = true := by simpa using t0
    have d1 : decide (x ≤ n) = true := by simpa using t1
    have d2 : decide (-n ≤ y) = true := by simpa using t2
    have d3 : decide (y ≤ n) = true := by simpa using t3
    have d4 : decide (-n ≤ z) = false := by simpa using t4
    clear hr t0 t1 t2 t3 t4
    go_enter Try.func67, Try.ntmps67
    go_wp2
    go_ret
    exact ⟨by rw [E.out]; rfl, (Below.refl _ w).alloc (Nat.le_refl _) _⟩
  by_cases t5 : z ≤ n
  rotate_left
  · have E : Hid (r = false) := Lh (by rw [← hr]; apply decide_eq_false; rintro ⟨k1, k2, k3, k4, k5, k6⟩; simp only at k1 k2 k3 k4 k5 k6; omega)
    have d0 : decide (-n ≤ x) = true := by simpa using t0
    have d1 : decide (x ≤ n) = true := by simpa using t1
    have d2 : decide (-n ≤ y) = true := by simpa using t2
    have d3 : decide (y ≤ n) = true := by simpa using t3
    have d4 : decide (-n ≤ z) = true := by simpa using t4
    have d5 : decide (z ≤ n) = false := by simpa using t5
    clear hr t0 t1 t2 t3 t4 t5
    go_enter Try.func67, Try.ntmps67
    go_wp2
    go_ret
    exact ⟨by rw [E.out]; rfl, (Below.refl _ w).alloc (Nat.le_refl _) _⟩
  have E : Hid (r = true) := Lh (by rw [← hr]; apply decide_eq_true; refine ⟨?_, ?_, ?_, ?_, ?_, ?_⟩ <;> simp only <;> omega)
  have d0 : decide (-n ≤ x) = true := by simpa using t0
  have d1 : decide (x ≤ n) = true := by simpa using t1
  have d2 : decide (-n ≤ y) = true := by simpa using t2
  have d3 : decide (y ≤ n) = true := by simpa using t3
  have d4 : decide (-n ≤ z) = true := by simpa using t4
  have d5 : decide (z ≤ n) = true := by simpa using t5
  clear hr t0 t1 t2 t3 t4 t5
  go_enter Try.func67, Try.ntmps67
  go_wp2
  go_ret
  exact ⟨by rw [E.out]; rfl, (Below.refl _ w).alloc (Nat.le_refl _) _⟩
/-- are all of these at most so far out? -/
def allIn (n : Int) (l : List P3) : Bool := l.all fun p => decide (in3 n p)
theorem allIn_iff (n : Int) (l : List P3) : allIn n l = true ↔ ∀ p ∈ l, in3 n p := by unfold allIn; rw [List.all_eq_true]; exact ⟨fun h p hp => of_decide_eq_true (h p hp), fun h p hp => decide_eq_true (h p hp)⟩
theorem allIn_far (n : Int) (h0 : 0 ≤ n) (h1 : n ≤ 9223372036854775807) (l : List P3) : allIn n l = !(l.any (far3 n)) := by
  cases h : l.any (far3 n) with
  | false => rw [List.any_eq_false] at h; exact (allIn_iff n l).2 fun p hp => (far3_iff n p h0 h1).1 (by simpa using h p hp)
  | true =>
    rw [List.any_eq_true] at h
    obtain ⟨p, hp, h2⟩ := h
    cases e : allIn n l with
    | false => rfl
    | true => have := (far3_iff n p h0 h1).2 ((allIn_iff n l).1 e p hp); rw [this] at h2; cases h2
set_option maxHeartbeats 2000000 in
theorem all_calls (l : List P3) (A : Option Addr) (c : Nat) (n : Int) (w : World) (hr : Rd w A l) (hm : l.length < 9223372036854775807) (h0 : 0 ≤ n) (h1 : n ≤ 4611686018427387904) :
    Calls Try.prog 70 #[.slice A l.length c, .int .i64 n] w fun e w' => e = .returned (.bool (allIn n l)) ∧ Below w.heap.size w w' := by
  have HR := Lh hr
  obtain ⟨r, hR⟩ : ∃ r, allIn n l = r := ⟨_, rfl⟩
  have HA := Lh hR
  rw [hR]
  obtain ⟨N, hN⟩ : ∃ N, l.length = N := ⟨_, rfl⟩
  have HN := Lh hN
  rw [hN] at hm ⊢
  clear hr hR hN
  go_enter Try.func70, Try.ntmps70
  go_wp2
  go_loopw [5, 6] (fun v5 v6 wr => ∃ k : Nat, k ≤ N ∧ v5 = .int .i64 k ∧ Hid (∀ p ∈ l.take k, in3 n p) ∧ Below w.heap.size w wr) (fun i _ _ => N - (intOf i).toNat)
  case atStart => exact ⟨0, Nat.zero_le _, rfl, Lh (by simp), Below.refl _ _⟩
  case round =>
    obtain ⟨k, hk, rfl, hno, hbr⟩ := hrel
    by_cases hlt : k < N
    · have hkl : k < l.length := by rw [HN.out]; exact hlt
      obtain ⟨b, o, rfl, hbl, e1, e2, e3⟩ := (HR.out.below hbr).get k hkl
      obtain ⟨p, hp⟩ : ∃ p, l[k] = p := ⟨_, rfl⟩
      rw [hp] at e1 e2 e3
      have HP := Lh hp
      have HT := Lh (show l.take (k + 1) = l.take k ++ [l[k]] from List.take_succ_eq_append_getElem hkl)
      have HM := Lh (show p ∈ l from hp ▸ List.getElem_mem hkl)
      obtain ⟨t, ht⟩ : ∃ t, decide (in3 n p) = t := ⟨_, rfl⟩
      have HI := Lh (fun W => rin_calls p n t ht h0 h1 W)
      have HTT := Lh ht
      clear hp ht
      obtain ⟨px, py, pz⟩ := p
      dsimp only at e1 e2 e3
      have hZ := hbr.size
      cases t with
      | false =>
        go_wp2_with fail
        refine (HI.out _).mono ?_
        rintro e w3 ⟨rfl, hb3⟩
        go_wp2
        go_ret
        refine ⟨?_, bthen hbr hb3⟩
        have : r = false := by
          rw [← HA.out]
          cases e : allIn n l with
          | false => rfl
          | true => exact absurd ((allIn_iff n l).1 e _ HM.out) (of_decide_eq_false HTT.out)
        rw [this]; rfl
      | true =>
        go_wp2_with fail
        refine (HI.out _).mono ?_
        rintro e w3 ⟨rfl, hb3⟩
        go_wp2
        go_roundw
        case rel =>
          refine ⟨k + 1, by omega, by go_num, Lh fun p' hp' => ?_, bthen hbr hb3⟩
          rw [HT.out, HP.out] at hp'
          rcases List.mem_append.1 hp' with h | h
          · exact hno.out p' h
          · simp at h; rw [h]; exact of_decide_eq_true HTT.out
        case measure => simp [intOf]; omega
    · obtain rfl : k = N := by omega
      go_wp2
      go_ret
      refine ⟨?_, hbr⟩
      have : r = true := by
        rw [← HA.out]
        refine (allIn_iff n l).2 fun p hp => hno.out p ?_
        rwa [List.take_of_length_le (by rw [HN.out]; exact Nat.le_refl _)]
      rw [this]; rfl
end Go.Proofs.Ytckdhahceelckaa.G
namespace Go.Proofs.Ytckdhahceelckaa.G
open Go.RowKit Go.Proofs.YtckdhahceelckaaW.PrintWords Go.Proofs.YtckdhahceelckaaW.PrintLast Go.Proofs.YtckdhahceelckaaW.PrintMore
attribute [local go_sem] max2_mx min2_mn max_two min_two max_three min_three max_four min_four
attribute [local go_sem high] eqA23
set_option linter.unusedVariables false
set_option linter.unusedSimpArgs false
structure BsInv (s low high : Nat) : Prop where
  a : low * low ≤ s
  b : s < high * high
  c : low < high
  d : high ≤ 67108864
theorem BsInv.done {s low high : Nat} (h : BsInv s low high) (h1 : high ≤ low + 1) : isq s = low := by
  have e : high = low + 1 := by have := h.c; omega
  have := h.b
  rw [e] at this
  exact (isq_unique s low h.a this).symm
set_option maxHeartbeats 2000000 in
theorem rsizes_calls (p : P3) (w : World) :
    Calls Try.prog 27 #[aP p] w fun e w' => e = .returned (.tuple #[.int .i64 (sz3 p).1, .int .i64 (sz3 p).2]) ∧ Below w.heap.size w w' := by
  obtain ⟨x, y, z⟩ := p
  have hff := allIn_far 16777216 (by decide) (by decide) [⟨x, y, z⟩]
  cases hf : far3 16777216 ⟨x, y, z⟩ with
  | true =>
    have hs : sz3 ⟨x, y, z⟩ = (0, 0) := by unfold sz3; rw [hf]; rfl
    rw [hs]
    have hi : decide (in3 16777216 ⟨x, y, z⟩) = false := by
      apply decide_eq_false; intro h; rw [(far3_iff _ _ (by decide) (by decide)).2 h] at hf; cases hf
    have HI := Lh (fun W => rin_calls ⟨x, y, z⟩ 16777216 false hi (by decide) (by decide) W)
    clear hs hf hi hff
    go_enter Try.func27, Try.ntmps27
    go_wp2_with fail
    refine (HI.out _).mono ?_
    rintro e w1 ⟨rfl, hb⟩
    go_wp2
    go_ret2
    exact ⟨rfl, ((Below.refl _ w).alloc (Nat.le_refl _) _).trans (hb.mono (by simp))⟩
  | false =>
    have hin := (far3_iff _ _ (by decide) (by decide)).1 hf
    have hd := dot3_eq ⟨x, y, z⟩ ⟨x, y, z⟩ 16777216 16777216 hin hin (by decide)
    have hd1 := dotI_bd ⟨x, y, z⟩ ⟨x, y, z⟩ 16777216 16777216 hin hin
    have hd2 := dotI_self ⟨x, y, z⟩
    have hs : sz3 ⟨x, y, z⟩ = (fl3 ⟨x, y, z⟩, ce3 ⟨x, y, z⟩) := by unfold sz3; rw [hf]; rfl
    rw [hs]
    clear hs
    unfold ce3 fl3
    obtain ⟨s, hs⟩ : ∃ s : Nat, dotI ⟨x, y, z⟩ ⟨x, y, z⟩ = s := ⟨_, (Int.toNat_of_nonneg hd2).symm⟩
    rw [hs] at hd hd1 hd2 ⊢
    rw [Int.toNat_natCast]
    have hsb : s ≤ 844424930131968 := by omega
    have HD := Lh hd
    have HI := Lh (fun W => rin_calls ⟨x, y, z⟩ 16777216 true (decide_eq_true hin) (by decide) (by decide) W)
    clear hd hd1 hd2 hs hin hf hff
    obtain ⟨U, hU⟩ : ∃ U : Int, (if (isq s : Int) * (isq s : Int) < (s : Int) then (isq s : Int) + 1 else (isq s : Int)) = U := ⟨_, rfl⟩
    rw [hU]
    have HU := Lh hU
    clear hU
    go_enter Try.func27, Try.ntmps27
    go_wp2_with fail
    refine (HI.out _).mono ?_
    rintro e w1 ⟨rfl, hb⟩
    have z1 := (hb.block _ (show w.heap.size < (w.alloc (.cells #[.int .i64 x, .int .i64 y, .int .i64 z] 23)).heap.size by simp)).trans (heap_alloc_new w (.cells #[.int .i64 x, .int .i64 y, .int .i64 z] 23))
    have x0 : w1.cell? ⟨w.heap.size, 0, none⟩ = some (.int .i64 x) := (blk_cell z1 0).trans rfl
    have x1 : w1.cell? ⟨w.heap.size, 1, none⟩ = some (.int .i64 y) := (blk_cell z1 1).trans rfl
    have x2 : w1.cell? ⟨w.heap.size, 2, none⟩ = some (.int .i64 z) := (blk_cell z1 2).trans rfl
    have hB := Lh (((Below.refl _ w).alloc (Nat.le_refl _) _).trans (hb.mono (by simp)))
    clear hb z1
    go_wp2_with fail
    refine (rdot_calls _ _ _ _ _ _ _).mono ?_
    rintro e w2 ⟨rfl, hb⟩
    rw [HD.out]
    have hB := bthen hB.out hb
    clear hb x0 x1 x2 HD HI
    go_wp2
    go_loopw [6, 7, 8] (fun v6 v7 v8 wr => ∃ (low high : Nat), v6 = .int .i64 low ∧ v7 = .int .i64 high ∧ Hid (BsInv s low high) ∧ wr = w2) (fun a b _ _ => (intOf b).toNat - (intOf a).toNat)
    case atStart => exact ⟨0, 67108864, rfl, rfl, Lh ⟨by omega, by omega, by decide, by decide⟩, rfl⟩
    case round =>
      obtain ⟨low, high, rfl, rfl, hi, rfl⟩ := hrel
      have hc := hi.out.c
      have hd := hi.out.d
      by_cases hg : high ≤ low + 1
      · have hdone := Lh (hi.out.done hg)
        have ha := hi.out.a
        have hp : (low : Int) * low = (low * low : Nat) := by simp
        obtain ⟨m, hm⟩ : ∃ m : Nat, low * low = m := ⟨_, rfl⟩
        rw [hm] at hp ha
        have t0 : decide (1 < (high : Int) - (low : Int)) = false := decide_eq_false (by omega)
        rcases Nat.lt_or_ge m s with hlt | hge
        · have t1 : (((m : Nat) : Int) == ((s : Nat) : Int)) = false := by simp; omega
          clear hm hg ha
          go_wp2
          go_ret2
          refine ⟨ret_two (by rw [hdone.out]) ?_, hB⟩
          rw [← HU.out, hdone.out, hp, if_pos (by omega)]
        · have t1 : (((m : Nat) : Int) == ((s : Nat) : Int)) = true := by simp; omega
          clear hm hg
          go_wp2
          go_ret2
          refine ⟨ret_two (by rw [hdone.out]) ?_, hB⟩
          rw [← HU.out, hdone.out, hp, if_neg (by omega)]
      · have t0 : decide (1 < (high : Int) - (low : Int)) = true := decide_eq_true (by omega)
        obtain ⟨t, ht⟩ : ∃ t : Nat, (low + high) / 2 = t := ⟨_, rfl⟩
        have htb : t ≤ 67108864 := by omega
        have hq : ((low : Int) + (high : Int)).tdiv 2 = (t : Int) := by
          rw [Int.tdiv_eq_ediv_of_nonneg (by omega)]; omega
        have hq2 : ((low : Int) + (high : Int)) / 2 = (t : Int) := by omega
        have htt : t * t ≤ 67108864 * 67108864 := Nat.mul_le_mul htb htb
        obtain ⟨m, hm⟩ : ∃ m : Nat, t * t = m := ⟨_, rfl⟩
        have hp : (t : Int) * t = (m : Int) := by rw [← hm]; simp
        rw [hm] at htt
        have h3 : m ≤ s → BsInv s t high := fun h => ⟨by rw [hm]; exact h, hi.out.b, by omega, hd⟩
        have h4 : s < m → BsInv s low t := fun h => ⟨hi.out.a, by rw [hm]; exact h, by omega, htb⟩
        have H3 := Lh h3
        have H4 := Lh h4
        have htl : low < t := by omega
        have hth : t < high := by omega
        clear h3 h4 ht hm hg
        rcases Nat.lt_or_ge s m with hlt | hge
        · go_wp2
          go_roundw
          case rel => exact ⟨low, t, by go_num, by go_num, Lh (H4.out hlt), trivial⟩
          case measure => simp [intOf]; omega
        · go_wp2
          go_roundw
          case rel => exact ⟨t, high, by go_num, by go_num, Lh (H3.out hge), trivial⟩
          case measure => simp [intOf]; omega
end Go.Proofs.Ytckdhahceelckaa.G
namespace Go.Proofs.Ytckdhahceelckaa.G
open Go.RowKit Go.Proofs.YtckdhahceelckaaW.PrintWords Go.Proofs.YtckdhahceelckaaW.PrintLast Go.Proofs.YtckdhahceelckaaW.PrintMore
attribute [local go_sem] max2_mx min2_mn max_two min_two max_three min_three max_four min_four
attribute [local go_sem high] eqA23
set_option linter.unusedVariables false
set_option linter.unusedSimpArgs false
def fstep (n : P3) (s : Int) (p : P3) : Int := mx s (dot3 n p)
def farF (n p0 : P3) (r : List P3) : Int := r.foldl (fstep n) (dot3 n p0)
theorem farF_snoc (n p0 : P3) (r : List P3) (k : Nat) (h : k < r.length) : farF n p0 (r.take (k + 1)) = mx (farF n p0 (r.take k)) (dot3 n r[k]) := by
  unfold farF
  rw [List.take_succ_eq_append_getElem h, List.foldl_append]; rfl
set_option maxHeartbeats 4000000 in
theorem farthest_calls (p0 : P3) (r : List P3) (A : Option Addr) (c : Nat) (n : P3) (w : World) (hr : RdB w A (p0 :: r)) (hm : r.length < 9223372036854775800) :
    Calls Try.prog 120 #[.slice A (r.length + 1) c, aP n] w fun e w' => e = .returned (.int .i64 (farF n p0 r)) ∧ Below w.heap.size w w' := by
  obtain ⟨nx, ny, nz⟩ := n
  obtain ⟨b, o, rfl, hlt, h1, h2, h3⟩ := hr.1.get 0 (by simp)
  simp only [Nat.zero_mul, Nat.add_zero, List.getElem_cons_zero] at h1 h2 h3
  have hR := Lh hr.1
  obtain ⟨N, hN⟩ : ∃ N, r.length = N := ⟨_, rfl⟩
  have HN := Lh hN
  rw [hN] at hm ⊢
  clear hr hN
  obtain ⟨px, py, pz⟩ := p0
  have HD0 := Lh (show farF ⟨nx, ny, nz⟩ ⟨px, py, pz⟩ (r.take 0) = dot3 ⟨nx, ny, nz⟩ ⟨px, py, pz⟩ from rfl)
  have hl0 : (0 : Int) < (N : Int) + 1 := by omega
  go_enter Try.func120, Try.ntmps120
  go_wp2
  go_quiet (fail)
  obtain ⟨w1, hw1⟩ : ∃ V, (w.alloc (.cells #[.int .i64 nx, .int .i64 ny, .int .i64 nz] 23)).drewN nq = V := ⟨_, rfl⟩
  have hB := Lh (show Below w.heap.size w w1 by rw [← hw1]; exact ((Below.refl _ w).alloc (Nat.le_refl _) _).trans (Go.Joins.below_draws _ _ nq))
  have hN := Lh (show w1.heap[w.heap.size]? = some (.cells #[.int .i64 nx, .int .i64 ny, .int .i64 nz] 23 (0, 0)) by rw [← hw1]; exact heap_alloc_new w _)
  rw [hw1]
  clear hw1 h1 h2 h3
  obtain ⟨D, hD⟩ : ∃ D, dot3 ⟨nx, ny, nz⟩ ⟨px, py, pz⟩ = D := ⟨_, rfl⟩
  have hD' : wrap64 (wrap64 (wrap64 (nx * px) + wrap64 (ny * py)) + wrap64 (nz * pz)) = D := hD
  rw [hD']
  rw [hD] at HD0
  clear hD hD'
  go_wp2
  go_loopw [5, 6] (fun v5 v6 wr => ∃ j : Nat, 1 ≤ j ∧ j ≤ N + 1 ∧ v6 = .int .i64 j ∧ v5 = .int .i64 (farF ⟨nx, ny, nz⟩ ⟨px, py, pz⟩ (r.take (j - 1))) ∧ Hid (Below w1.heap.size w1 wr)) (fun _ i _ => N + 1 - (intOf i).toNat)
  case atStart => exact ⟨1, by omega, by omega, rfl, by rw [HD0.out], Lh (Below.refl _ _)⟩
  case round =>
    obtain ⟨j, hj1, hj2, rfl, rfl, hbr⟩ := hrel
    by_cases hlt2 : j ≤ N
    · have hkr : j - 1 < r.length := by rw [HN.out]; omega
      have hBw := hB.out.trans (hbr.out.mono hB.out.size)
      obtain ⟨b', o', hA, _, e0, e1, e2⟩ := (hR.out.below hBw).get (j - 1 + 1) (by simp; omega)
      simp only [Option.some.injEq, Addr.mk.injEq, and_true] at hA
      obtain ⟨rfl, rfl⟩ := hA
      simp only [List.getElem_cons_succ] at e0 e1 e2
      have hS := farF_snoc ⟨nx, ny, nz⟩ ⟨px, py, pz⟩ r (j - 1) hkr
      rw [show j - 1 + 1 = j from by omega] at hS
      obtain ⟨q, hq⟩ : ∃ q, r[j - 1] = q := ⟨_, rfl⟩
      rw [hq] at e0 e1 e2 hS
      rw [show j - 1 + 1 = j from by omega] at e0 e1 e2
      obtain ⟨qx, qy, qz⟩ := q
      simp only at e0 e1 e2
      obtain ⟨F, hF⟩ : ∃ F, farF ⟨nx, ny, nz⟩ ⟨px, py, pz⟩ (r.take (j - 1)) = F := ⟨_, rfl⟩
      rw [hF] at hS ⊢
      have hS := Lh hS
      have HBw := Lh hBw
      have z1 := (hbr.out.block _ (blk_lt hN.out)).trans hN.out
      have x0 : wr.cell? ⟨w.heap.size, 0, none⟩ = some (.int .i64 nx) := (blk_cell z1 0).trans rfl
      have x1 : wr.cell? ⟨w.heap.size, 1, none⟩ = some (.int .i64 ny) := (blk_cell z1 1).trans rfl
      have x2 : wr.cell? ⟨w.heap.size, 2, none⟩ = some (.int .i64 nz) := (blk_cell z1 2).trans rfl
      have t2 : (j : Int) < (N : Int) + 1 := by omega
      clear hq hF hkr z1 hBw
      go_wp2
      go_quiet (fail)
      go_wp2
      go_roundw
      case rel => exact ⟨j + 1, by omega, by omega, by go_num, by rw [show j + 1 - 1 = j from by omega, hS.out]; rfl, Lh (hbr.out.trans (Go.Joins.below_draws _ _ _))⟩
      case measure => simp [intOf]; omega
    · obtain rfl : j = N + 1 := by omega
      have hBw := hB.out.trans (hbr.out.mono hB.out.size)
      have hE : Hid (r.take (N + 1 - 1) = r) := Lh (List.take_of_length_le (by rw [HN.out]; omega))
      go_wp2
      go_ret
      exact ⟨by rw [hE.out]; rfl, hBw⟩
end Go.Proofs.Ytckdhahceelckaa.G
namespace Go.Proofs.Ytckdhahceelckaa.G
open Go.RowKit
set_option linter.unusedVariables false
set_option linter.unusedSimpArgs false
theorem lagrange (a b c x y z : Int) : (a*a+b*b+c*c)*(x*x+y*y+z*z) = (a*x+b*y+c*z)*(a*x+b*y+c*z) + ((b*z-c*y)*(b*z-c*y) + (c*x-a*z)*(c*x-a*z) + (a*y-b*x)*(a*y-b*x)) := by grind
/-- one points where the other points -/
def Par (u v : P3) : Prop := ∃ a b : Int, 0 < a ∧ 0 < b ∧ a * u.x = b * v.x ∧ a * u.y = b * v.y ∧ a * u.z = b * v.z
theorem Par.refl (u : P3) : Par u u := ⟨1, 1, by decide, by decide, rfl, rfl, rfl⟩
theorem Par.trans {u v t : P3} (h : Par u v) (k : Par v t) : Par u t := by
  obtain ⟨a, b, ha, hb, x1, y1, z1⟩ := h
  obtain ⟨c, e, hc, he, x2, y2, z2⟩ := k
  exact ⟨a * c, b * e, Int.mul_pos ha hc, Int.mul_pos hb he, by grind, by grind, by grind⟩
theorem gcd3_dvd (p : P3) : gcd3 p ∣ p.x ∧ gcd3 p ∣ p.y ∧ gcd3 p ∣ p.z :=
  ⟨Int.dvd_trans (by unfold gcd3; exact Int.gcd_dvd_left ..) (Int.gcd_dvd_left ..), Int.dvd_trans (by unfold gcd3; exact Int.gcd_dvd_left ..) (Int.gcd_dvd_right ..), by unfold gcd3; exact Int.gcd_dvd_right ..⟩
theorem bare3_eq (p : P3) : p.x = gcd3 p * (bare3 p).x ∧ p.y = gcd3 p * (bare3 p).y ∧ p.z = gcd3 p * (bare3 p).z := by
  obtain ⟨h1, h2, h3⟩ := gcd3_dvd p
  exact ⟨(Int.mul_tdiv_cancel' h1).symm, (Int.mul_tdiv_cancel' h2).symm, (Int.mul_tdiv_cancel' h3).symm⟩
theorem bare3_par (p : P3) (h : p ≠ ⟨0, 0, 0⟩) : Par (bare3 p) p := by
  obtain ⟨h1, h2, h3⟩ := bare3_eq p
  have hg := gcd3_pos p h
  exact ⟨gcd3 p, 1, by omega, by decide, by omega, by omega, by omega⟩
theorem two3_par (p : P3) : Par (two3 p) p := ⟨1, 2, by decide, by decide, by simp [two3], by simp [two3], by simp [two3]⟩
theorem dbl3_par (p : P3) : Par (dbl3 p) p := by
  induction p using dbl3.induct with
  | case1 p h' => rw [dbl3, dif_pos h']; exact Par.refl _
  | case2 p h' ih => rw [dbl3, dif_neg h']; exact ih.trans (two3_par p)
theorem dbl3_far (p : P3) (h : p ≠ ⟨0, 0, 0⟩) : far3 524288 (dbl3 p) = true := by
  induction p using dbl3.induct with
  | case1 p h' => rw [dbl3, dif_pos h']; exact h'.resolve_right h
  | case2 p h' ih => rw [dbl3, dif_neg h']; exact ih (two3_ne p h)
theorem halve3_id (p : P3) (h : in3 1048576 p) : halve3 p = p := by rw [halve3, dif_neg]; rw [(far3_iff _ _ (by decide) (by decide)).2 h]; decide
theorem bare3_in (p : P3) (n : Int) (h : in3 n p) : in3 n (bare3 p) := div3_in _ _ _ h
end Go.Proofs.Ytckdhahceelckaa.G
namespace Go.Proofs.Ytckdhahceelckaa.G
open Go.RowKit
set_option linter.unusedVariables false
set_option linter.unusedSimpArgs false
/-- the square of the cross product's length -/
def crI (u v : P3) : Int := (u.y * v.z - u.z * v.y) * (u.y * v.z - u.z * v.y) + (u.z * v.x - u.x * v.z) * (u.z * v.x - u.x * v.z) + (u.x * v.y - u.y * v.x) * (u.x * v.y - u.y * v.x)
theorem lagI (u v : P3) : dotI u u * dotI v v = dotI u v * dotI u v + crI u v := by
  unfold dotI crI; exact lagrange _ _ _ _ _ _
theorem dotI_far (u : P3) (m : Int) (hm : 0 ≤ m) (h : m < u.x ∨ u.x < -m ∨ m < u.y ∨ u.y < -m ∨ m < u.z ∨ u.z < -m) : m * m < dotI u u := by
  unfold dotI
  have h1 := sq_nonneg u.x
  have h2 := sq_nonneg u.y
  have h3 := sq_nonneg u.z
  have key : ∀ a : Int, (m < a ∨ a < -m) → m * m < a * a := fun a ha => by
    rcases ha with ha | ha
    · exact Int.lt_of_le_of_lt (Int.mul_le_mul_of_nonneg_left (Int.le_of_lt ha) hm) (Int.mul_lt_mul_of_pos_right ha (by omega))
    · have hb : m < -a := by omega
      have := Int.lt_of_le_of_lt (Int.mul_le_mul_of_nonneg_left (Int.le_of_lt hb) hm) (Int.mul_lt_mul_of_pos_right hb (by omega))
      have e : -a * -a = a * a := by grind
      omega
  rcases h with h | h | h | h | h | h
  · have := key u.x (.inl h); omega
  · have := key u.x (.inr h); omega
  · have := key u.y (.inl h); omega
  · have := key u.y (.inr h); omega
  · have := key u.z (.inl h); omega
  · have := key u.z (.inr h); omega
theorem dotI_pos (u : P3) (h : u ≠ ⟨0, 0, 0⟩) : 0 < dotI u u := by
  have : 0 < u.x ∨ u.x < -0 ∨ 0 < u.y ∨ u.y < -0 ∨ 0 < u.z ∨ u.z < -0 := by
    cases u; simp at h ⊢; omega
  have := dotI_far u 0 (by decide) this
  omega
end Go.Proofs.Ytckdhahceelckaa.G
namespace Go.Proofs.Ytckdhahceelckaa.G
open Go.RowKit Go.Proofs.YtckdhahceelckaaW.PrintWords Go.Proofs.YtckdhahceelckaaW.PrintLast Go.Proofs.YtckdhahceelckaaW.PrintMore
attribute [local go_sem] max2_mx min2_mn max_two min_two max_three min_three max_four min_four
attribute [local go_sem high] eqA23
set_option linter.unusedVariables false
set_option linter.unusedSimpArgs false
/-- may's answer in every later world -/
def MaySays (w : World) (v : Value) (b : Bool) : Prop := ∀ w', Below w.heap.size w w' → Calls Try.prog 57 #[v] w' fun e w'' => e = .returned (.bool b) ∧ Below w'.heap.size w' w''
set_option maxHeartbeats 2000000 in
theorem apart_nob (v0 v1 v2 v3 u0 u1 u2 u3 : Value) (w : World) (ha : MaySays w (.agg #[v0, v1, v2, v3]) true) (hb : MaySays w (.agg #[u0, u1, u2, u3]) false) :
    Calls Try.prog 20 #[.agg #[v0, v1, v2, v3], .agg #[u0, u1, u2, u3]] w fun e w' => e = .returned (.tuple #[.agg #[.int .i64 0, .int .i64 0, .int .i64 0, .int .i64 0], .bool false]) ∧ Below w.heap.size w w' := by
  have HA := Lh ha
  have HB := Lh hb
  clear ha hb
  have Hb0 := three1 w (.cells #[v0, v1, v2, v3] 36) (.cells #[u0, u1, u2, u3] 36) (.cells #[.int .i64 0, .int .i64 0, .int .i64 0, .int .i64 0] 40)
  have Hr0 := three2 w (.cells #[v0, v1, v2, v3] 36) (.cells #[u0, u1, u2, u3] 36) (.cells #[.int .i64 0, .int .i64 0, .int .i64 0, .int .i64 0] 40)
  have HW3 : Below w.heap.size w (((w.alloc (.cells #[v0, v1, v2, v3] 36)).alloc (.cells #[u0, u1, u2, u3] 36)).alloc (.cells #[.int .i64 0, .int .i64 0, .int .i64 0, .int .i64 0] 40)) := (((Below.refl _ w).alloc (Nat.le_refl _) _).alloc (by simp) _).alloc (by simp; omega) _
  have HB0 := Lh Hb0
  have HR0 := Lh Hr0
  clear Hb0 Hr0
  go_enter Try.func20, Try.ntmps20
  go_wp2_with fail
  obtain ⟨w3, hw3⟩ : ∃ w3, ((w.alloc (.cells #[v0, v1, v2, v3] 36)).alloc (.cells #[u0, u1, u2, u3] 36)).alloc (.cells #[.int .i64 0, .int .i64 0, .int .i64 0, .int .i64 0] 40) = w3 := ⟨_, rfl⟩
  rw [hw3] at HB0 HR0 HW3 ⊢
  clear hw3
  refine (HA.out _ HW3).mono ?_
  rintro e w4 ⟨rfl, hb4⟩
  have Hb4 := (hb4.block _ (blk_lt HB0.out)).trans HB0.out
  have Hr4 := (hb4.block _ (blk_lt HR0.out)).trans HR0.out
  have HW4 := bthen HW3 hb4
  clear HB0 HR0 HW3 hb4
  have x0 : w4.cell? ⟨w.heap.size + 1, 0, none⟩ = some u0 := (blk_cell Hb4 0).trans rfl
  have x1 : w4.cell? ⟨w.heap.size + 1, 1, none⟩ = some u1 := (blk_cell Hb4 1).trans rfl
  have x2 : w4.cell? ⟨w.heap.size + 1, 2, none⟩ = some u2 := (blk_cell Hb4 2).trans rfl
  have x3 : w4.cell? ⟨w.heap.size + 1, 3, none⟩ = some u3 := (blk_cell Hb4 3).trans rfl
  go_wp2_with fail
  refine (HB.out _ HW4).mono ?_
  rintro e w5 ⟨rfl, hb5⟩
  have Hr5 := (hb5.block _ (blk_lt Hr4)).trans Hr4
  have HW5 := bthen HW4 hb5
  clear Hb4 Hr4 HW4 hb5 x0 x1 x2 x3
  have v0 : w5.cell? ⟨w.heap.size + 1 + 1, 0, none⟩ = some (.int .i64 0) := (blk_cell Hr5 0).trans rfl
  have v1 : w5.cell? ⟨w.heap.size + 1 + 1, 1, none⟩ = some (.int .i64 0) := (blk_cell Hr5 1).trans rfl
  have v2 : w5.cell? ⟨w.heap.size + 1 + 1, 2, none⟩ = some (.int .i64 0) := (blk_cell Hr5 2).trans rfl
  have v3 : w5.cell? ⟨w.heap.size + 1 + 1, 3, none⟩ = some (.int .i64 0) := (blk_cell Hr5 3).trans rfl
  have f0 : w5.frozen? ⟨w.heap.size + 1 + 1, 0, none⟩ = false := blk_frozen Hr5 0
  have f1 : w5.frozen? ⟨w.heap.size + 1 + 1, 1, none⟩ = false := blk_frozen Hr5 1
  have f2 : w5.frozen? ⟨w.heap.size + 1 + 1, 2, none⟩ = false := blk_frozen Hr5 2
  have f3 : w5.frozen? ⟨w.heap.size + 1 + 1, 3, none⟩ = false := blk_frozen Hr5 3
  obtain ⟨V, hV⟩ : ∃ V, set4 w5 (w.heap.size + 1 + 1) (.int .i64 0) (.int .i64 0) (.int .i64 0) (.int .i64 0) = V := ⟨_, rfl⟩
  have HV : V.heap[w.heap.size + 1 + 1]? = some (.cells #[.int .i64 0, .int .i64 0, .int .i64 0, .int .i64 0] 40 (0, 0)) := by rw [← hV]; exact blk4_set Hr5 _ _ _ _
  have HBV : Below w.heap.size w V := by rw [← hV]; exact below_set4 HW5 (by omega) _ _ _ _
  have t0 : V.cell? ⟨w.heap.size + 1 + 1, 0, none⟩ = some (.int .i64 0) := (blk_cell HV 0).trans rfl
  have t1 : V.cell? ⟨w.heap.size + 1 + 1, 1, none⟩ = some (.int .i64 0) := (blk_cell HV 1).trans rfl
  have t2 : V.cell? ⟨w.heap.size + 1 + 1, 2, none⟩ = some (.int .i64 0) := (blk_cell HV 2).trans rfl
  have t3 : V.cell? ⟨w.heap.size + 1 + 1, 3, none⟩ = some (.int .i64 0) := (blk_cell HV 3).trans rfl
  go_wp2
  (try rw [hV])
  exact bodyPost_ret (v := .tuple #[.agg #[.int .i64 0, .int .i64 0, .int .i64 0, .int .i64 0], .bool false]) (by simp [results, Try.results20, go_sem, t0, t1, t2, t3]) rfl ⟨rfl, HBV⟩
end Go.Proofs.Ytckdhahceelckaa.G
namespace Go.Proofs.Ytckdhahceelckaa.G
open Go.RowKit Go.Proofs.YtckdhahceelckaaW.PrintWords Go.Proofs.YtckdhahceelckaaW.PrintLast Go.Proofs.YtckdhahceelckaaW.PrintMore
attribute [local go_sem] max2_mx min2_mn max_two min_two max_three min_three max_four min_four
attribute [local go_sem high] eqA23
set_option linter.unusedVariables false
set_option linter.unusedSimpArgs false
theorem ball_core (w : World) (g : Nat) (x y z r : Int) (c : Nat) (hc : 1 ≤ c) (h : w.heap[g]? = some (.cells #[.int .i64 x, .int .i64 y, .int .i64 z] 23 (0, 0))) : CoreV w (.agg #[.slice (some ⟨g, 0, none⟩) 1 c, .slice none 0 0, .slice none 0 0, .int .i64 r]) [⟨x, y, z⟩] [] [] r :=
  ⟨_, _, _, _, _, _, rfl, Rd_one h, RdB.nil _, RdB.nil _, hc, Nat.le_refl _, Nat.le_refl _⟩
theorem MaySays.zero (w : World) : MaySays w (.agg #[.slice none 0 0, .slice none 0 0, .slice none 0 0, .int .i64 0]) false := fun w' _ =>
  may_A [] [] [] 0 none none none 0 0 0 w' (Rd.nil _ _) (Rd.nil _ _) (Rd.nil _ _) (Nat.le_refl _) (Nat.le_refl _) (Nat.le_refl _) false false false rfl
theorem eqA40 (d : Nat) (w : World) (x y z g a b c h : Int) :
    (Op.equalIn (d + 3) 40 (.agg #[.int .i64 x, .int .i64 y, .int .i64 z, .int .i64 g]) (.agg #[.int .i64 a, .int .i64 b, .int .i64 c, .int .i64 h])).run Try.prog w = .ok (eqP x y z a b c && g == h) w := by
  refine eqA_of Try.underlying40 (by kernel_rfl) ?_
  refine eqf_cons (by rfl) (a := .agg #[.int .i64 x, .int .i64 y, .int .i64 z]) (b := .agg #[.int .i64 a, .int .i64 b, .int .i64 c]) (by go_simp) (by go_simp) (eqA23 _ _ _ _ _ _ _ _) ?_
  exact eqf_last (by rfl) (by go_simp; rfl) (by go_simp; rfl) (by go_simp)
attribute [local go_sem high] eqA40
end Go.Proofs.Ytckdhahceelckaa.G
namespace Go.Proofs.Ytckdhahceelckaa.G
open Go.RowKit
set_option linter.unusedVariables false
set_option linter.unusedSimpArgs false
theorem short3_eq (p : P3) (h : in3 4398046511104 p) (h0 : p ≠ ⟨0, 0, 0⟩) : short3 p = bare3 (halve3 (bare3 p)) := by
  unfold short3
  rw [if_neg]
  rw [(far3_iff _ _ (by decide) (by decide)).2 h]
  simp [h0]
theorem short3_zero : short3 ⟨0, 0, 0⟩ = ⟨0, 0, 0⟩ := by unfold short3; rw [if_pos (.inr rfl)]
theorem short3_ne (p : P3) (h : in3 4398046511104 p) (h0 : p ≠ ⟨0, 0, 0⟩) : short3 p ≠ ⟨0, 0, 0⟩ := by
  rw [short3_eq p h h0]
  exact bare3_ne _ 0 (halve3_ne _ (bare3_ne _ 0 h0))
theorem in3_le {n m : Int} (h : n ≤ m) {p : P3} (hp : in3 n p) : in3 m p := by unfold in3 at *; omega
theorem long3_short (p : P3) (h : in3 1048576 p) (h0 : p ≠ ⟨0, 0, 0⟩) : Par (long3 p) p ∧ long3 p ≠ ⟨0, 0, 0⟩ ∧ 274877906944 < dotI (long3 p) (long3 p) := by
  have hs : short3 p = bare3 (bare3 p) := by
    rw [short3_eq p (in3_le (by decide) h) h0, halve3_id _ (bare3_in _ _ h)]
  have hb := bare3_ne p 0 h0
  unfold long3
  rw [hs]
  have hb2 := bare3_ne (bare3 p) 0 hb
  refine ⟨(dbl3_par _).trans ((bare3_par _ hb).trans (bare3_par _ h0)), dbl3_ne _ hb2, ?_⟩
  have hf := dbl3_far _ hb2
  have hn : ¬ in3 524288 (dbl3 (bare3 (bare3 p))) := fun hi => by rw [(far3_iff _ _ (by decide) (by decide)).2 hi] at hf; cases hf
  have := dotI_far (dbl3 (bare3 (bare3 p))) 524288 (by decide) (by unfold in3 at hn; omega)
  omega
end Go.Proofs.Ytckdhahceelckaa.G
namespace Go.Proofs.Ytckdhahceelckaa.G
open Go.RowKit Go.Proofs.YtckdhahceelckaaW.PrintWords
set_option linter.unusedVariables false
theorem reach_bd {n p0 : P3} {r : List P3} (hn : in3 1048576 n) (h : ∀ p ∈ p0 :: r, in3 16777216 p) : -52776558133248 ≤ (reachF n p0 r).1 ∧ (reachF n p0 r).1 ≤ 52776558133248 ∧ -52776558133248 ≤ (reachF n p0 r).2 ∧ (reachF n p0 r).2 ≤ 52776558133248 := by
  have each : ∀ p, in3 16777216 p → -52776558133248 ≤ dot3 n p ∧ dot3 n p ≤ 52776558133248 := by
    intro p hp
    rw [dot3_eq n p 1048576 16777216 hn hp (by decide)]
    have := dotI_bd n p 1048576 16777216 hn hp
    omega
  exact reachF_bd n p0 r 52776558133248 (each p0 (h p0 (by simp))) fun p hp => each p (h p (by simp [hp]))
theorem far_in {n : Int} (h0 : 0 ≤ n) (h1 : n ≤ 9223372036854775807) {l : List P3} (h : l.any (far3 n) = false) : ∀ x ∈ l, in3 n x := by
  intro x hx
  rw [List.any_eq_false] at h
  have := h x hx
  exact (far3_iff n x h0 h1).1 (by simpa using this)
theorem MayP.pts {p a e : List P3} {r : Int} (m : MayP p a e r) : ∃ p0 pr, p = p0 :: pr ∧ ∀ x ∈ p0 :: pr, in3 16777216 x := by
  obtain ⟨p0, pr, rfl⟩ := List.exists_cons_of_ne_nil m.p0
  exact ⟨p0, pr, rfl, far_in (by decide) (by decide) m.pf⟩
end Go.Proofs.Ytckdhahceelckaa.G
namespace Go.Proofs.Ytckdhahceelckaa.G
open Go.RowKit Go.Proofs.YtckdhahceelckaaW.PrintWords Go.Proofs.YtckdhahceelckaaW.PrintLast Go.Proofs.YtckdhahceelckaaW.PrintMore
attribute [local go_sem] max2_mx min2_mn max_two min_two max_three min_three max_four min_four
attribute [local go_sem high] eqA23
set_option linter.unusedVariables false
set_option linter.unusedSimpArgs false
theorem farF_reach (n p0 : P3) (r : List P3) : farF n p0 r = (reachF n p0 r).2 := by
  have gen : ∀ (l : List P3) (s : Int × Int), l.foldl (fstep n) s.2 = (l.foldl (rstep n) s).2 := by
    intro l
    induction l with
    | nil => intro s; rfl
    | cons p l ih => intro s; rw [List.foldl_cons, List.foldl_cons]; exact ih (rstep n s p)
  exact gen r (dot3 n p0, dot3 n p0)
theorem dot3_neg (n p : P3) (hn : in3 1048576 n) (hp : in3 16777216 p) : dot3 ⟨-n.x, -n.y, -n.z⟩ p = -dot3 n p := by
  have hn' : in3 1048576 (⟨-n.x, -n.y, -n.z⟩ : P3) := by unfold in3 at *; simp only; omega
  rw [dot3_eq n p 1048576 16777216 hn hp (by decide), dot3_eq _ p 1048576 16777216 hn' hp (by decide)]
  unfold dotI
  simp only [Int.neg_mul]
  omega
theorem farF_neg (n p0 : P3) (r : List P3) (hn : in3 1048576 n) (hp : ∀ p ∈ p0 :: r, in3 16777216 p) : farF ⟨-n.x, -n.y, -n.z⟩ p0 r = -(reachF n p0 r).1 := by
  have gen : ∀ (l : List P3) (s : Int × Int), (∀ p ∈ l, in3 16777216 p) → l.foldl (fstep ⟨-n.x, -n.y, -n.z⟩) (-s.1) = -(l.foldl (rstep n) s).1 := by
    intro l
    induction l with
    | nil => intro s _; rfl
    | cons p l ih =>
      intro s h
      rw [List.foldl_cons, List.foldl_cons]
      have e : fstep ⟨-n.x, -n.y, -n.z⟩ (-s.1) p = -(rstep n s p).1 := by
        unfold fstep rstep
        rw [dot3_neg n p hn (h p (by simp))]
        unfold mx mn
        simp only
        split <;> split <;> omega
      rw [e]
      exact ih _ fun q hq => h q (by simp [hq])
  unfold farF reachF
  rw [dot3_neg n p0 hn (hp p0 (by simp))]
  exact gen r (dot3 n p0, dot3 n p0) fun q hq => hp q (by simp [hq])
set_option maxHeartbeats 4000000 in
set_option maxRecDepth 100000 in
theorem rgap_calls (p0 : P3) (pr : List P3) (ra : Int) (q0 : P3) (qr : List P3) (rb : Int) (A0 A1 A2 B0 B1 B2 : Option Addr) (n1 n2 m1 m2 c0 c1 c2 d0 d1 d2 : Nat) (n : P3) (w : World)
    (hA : RdB w A0 (p0 :: pr)) (hB : RdB w B0 (q0 :: qr)) (hla : pr.length < 1000) (hlb : qr.length < 1000) (hn : in3 1048576 n) (h0 : n ≠ ⟨0, 0, 0⟩)
    (hp : ∀ x ∈ p0 :: pr, in3 16777216 x) (hq : ∀ x ∈ q0 :: qr, in3 16777216 x) (ra0 : 0 ≤ ra) (ra1 : ra ≤ 65536) (rb0 : 0 ≤ rb) (rb1 : rb ≤ 65536) (g : Int) (hg : (gapsF n p0 pr ra q0 qr rb).1 = g) :
    Calls Try.prog 64 #[.agg #[.slice A0 (pr.length + 1) c0, .slice A1 n1 c1, .slice A2 n2 c2, .int .i64 ra], .agg #[.slice B0 (qr.length + 1) d0, .slice B1 m1 d1, .slice B2 m2 d2, .int .i64 rb], aP n] w
      fun e w' => e = .returned (.int .i64 g) ∧ Below w.heap.size w w' := by
  have h1 := reach_bd hn hp
  have h2 := reach_bd hn hq
  have hf := fl3_pos n h0
  have hf2 := fl3_le n hn
  have hc := ce3_bd n
  have hs : sz3 n = (fl3 n, ce3 n) := by unfold sz3; rw [(far3_iff _ n (by decide) (by decide)).2 (in3_le (by decide) hn)]; rfl
  have HF := Lh (fun W (hW : RdB W A0 (p0 :: pr)) => farthest_calls p0 pr A0 c0 n W hW (by omega))
  have HG := Lh (fun W (hW : RdB W B0 (q0 :: qr)) => farthest_calls q0 qr B0 d0 ⟨-n.x, -n.y, -n.z⟩ W hW (by omega))
  have HS := Lh (fun W => rsizes_calls n W)
  rw [farF_reach] at HF
  rw [farF_neg n q0 qr hn hq] at HG
  rw [hs] at HS
  unfold gapsF at hg
  simp only at hg
  obtain ⟨hi, hhi⟩ : ∃ x, (reachF n p0 pr).2 = x := ⟨_, rfl⟩
  obtain ⟨lo, hlo⟩ : ∃ x, (reachF n q0 qr).1 = x := ⟨_, rfl⟩
  rw [hhi] at HF h1 hg
  rw [hlo] at HG h2 hg
  obtain ⟨fl, hfl⟩ : ∃ x, fl3 n = x := ⟨_, rfl⟩
  obtain ⟨ce, hce⟩ : ∃ x, ce3 n = x := ⟨_, rfl⟩
  rw [hfl] at hf hf2 hc HS hg
  rw [hce] at hc HS hg
  simp only at HS
  have HA := Lh hA
  have HB := Lh hB
  obtain ⟨N0, hN0⟩ : ∃ k, pr.length + 1 = k := ⟨_, rfl⟩
  obtain ⟨M0, hM0⟩ : ∃ k, qr.length + 1 = k := ⟨_, rfl⟩
  rw [hN0] at HF ⊢
  rw [hM0] at HG ⊢
  obtain ⟨nx, ny, nz⟩ := n
  obtain ⟨i1, i2, i3, i4, i5, i6⟩ := hn
  simp only at i1 i2 i3 i4 i5 i6
  have e1 : wrap64 (-nx) = -nx := by unfold wrap64; omega
  have e2 : wrap64 (-ny) = -ny := by unfold wrap64; omega
  have e3 : wrap64 (-nz) = -nz := by unfold wrap64; omega
  have e4 : IntKind.i64.wrap (-nx) = -nx := iw_id _ (by omega) (by omega)
  have e5 : IntKind.i64.wrap (-ny) = -ny := iw_id _ (by omega) (by omega)
  have e6 : IntKind.i64.wrap (-nz) = -nz := iw_id _ (by omega) (by omega)
  have e7 : IntKind.i64.wrap lo = lo := iw_id _ (by omega) (by omega)
  obtain ⟨s, hss⟩ : ∃ s, lo - hi = s := ⟨_, rfl⟩
  have e8 : IntKind.i64.wrap (lo - hi) = s := by rw [← hss]; exact iw_id _ (by omega) (by omega)
  have e9 : wrap64 (lo - hi) = s := by rw [← hss]; unfold wrap64; omega
  have hs1 : -1125899906842624 ≤ s ∧ s ≤ 1125899906842624 := by omega
  rw [hss] at hg
  have E9 := Lh e9
  clear hA hB hs hhi hlo hfl hce hN0 hM0 hp hq h0 hss h1 h2
  have z0 := three0 w (.cells #[.slice A0 N0 c0, .slice A1 n1 c1, .slice A2 n2 c2, .int .i64 ra] 36) (.cells #[.slice B0 M0 d0, .slice B1 m1 d1, .slice B2 m2 d2, .int .i64 rb] 36) (.cells #[.int .i64 nx, .int .i64 ny, .int .i64 nz] 23)
  have z1 := three1 w (.cells #[.slice A0 N0 c0, .slice A1 n1 c1, .slice A2 n2 c2, .int .i64 ra] 36) (.cells #[.slice B0 M0 d0, .slice B1 m1 d1, .slice B2 m2 d2, .int .i64 rb] 36) (.cells #[.int .i64 nx, .int .i64 ny, .int .i64 nz] 23)
  have z2 := three2 w (.cells #[.slice A0 N0 c0, .slice A1 n1 c1, .slice A2 n2 c2, .int .i64 ra] 36) (.cells #[.slice B0 M0 d0, .slice B1 m1 d1, .slice B2 m2 d2, .int .i64 rb] 36) (.cells #[.int .i64 nx, .int .i64 ny, .int .i64 nz] 23)
  have zb := Go.Joins.below_alloc3 w (.cells #[.slice A0 N0 c0, .slice A1 n1 c1, .slice A2 n2 c2, .int .i64 ra] 36) (.cells #[.slice B0 M0 d0, .slice B1 m1 d1, .slice B2 m2 d2, .int .i64 rb] 36) (.cells #[.int .i64 nx, .int .i64 ny, .int .i64 nz] 23)
  obtain ⟨w1, hw1⟩ : ∃ V, ((w.alloc (.cells #[.slice A0 N0 c0, .slice A1 n1 c1, .slice A2 n2 c2, .int .i64 ra] 36)).alloc (.cells #[.slice B0 M0 d0, .slice B1 m1 d1, .slice B2 m2 d2, .int .i64 rb] 36)).alloc (.cells #[.int .i64 nx, .int .i64 ny, .int .i64 nz] 23) = V := ⟨_, rfl⟩
  rw [hw1] at z0 z1 z2 zb
  have hw1' := Lh hw1
  have Z0 := Lh z0
  have Z1 := Lh z1
  have Z2 := Lh z2
  have ZB := Lh zb
  clear hw1 z0 z1 z2 zb
  go_enter Try.func64, Try.ntmps64
  go_wp2_with fail
  rw [hw1'.out]
  refine (HF.out w1 (HA.out.below ZB.out)).mono ?_
  rintro e w2 ⟨rfl, hb⟩
  have ZB2 := Lh (bthen ZB.out hb)
  have Y1 := Lh ((hb.block _ (blk_lt Z1.out)).trans Z1.out)
  have Y2 := Lh ((hb.block _ (blk_lt Z2.out)).trans Z2.out)
  have Y0 := Lh ((hb.block _ (blk_lt Z0.out)).trans Z0.out)
  have x0 : w2.cell? ⟨w.heap.size + 1, 0, none⟩ = some (.slice B0 M0 d0) := (blk_cell Y1.out 0).trans rfl
  have y0 : w2.cell? ⟨w.heap.size + 2, 0, none⟩ = some (.int .i64 nx) := (blk_cell Y2.out 0).trans rfl
  have y1 : w2.cell? ⟨w.heap.size + 2, 1, none⟩ = some (.int .i64 ny) := (blk_cell Y2.out 1).trans rfl
  have y2 : w2.cell? ⟨w.heap.size + 2, 2, none⟩ = some (.int .i64 nz) := (blk_cell Y2.out 2).trans rfl
  have l0 : w.heap.size < w2.heap.size := blk_lt Y0.out
  have l1 : w.heap.size + 1 < w2.heap.size := blk_lt Y1.out
  have l2 : w.heap.size + 2 < w2.heap.size := blk_lt Y2.out
  clear hb
  go_wp2_with fail
  refine (HG.out w2 (HB.out.below ZB2.out)).mono ?_
  rintro e w3 ⟨rfl, hb⟩
  have ZB3 := Lh (bthen ZB2.out hb)
  have X0 := Lh ((hb.block _ (blk_lt Y0.out)).trans Y0.out)
  have X1 := Lh ((hb.block _ (blk_lt Y1.out)).trans Y1.out)
  have X2 := Lh ((hb.block _ (blk_lt Y2.out)).trans Y2.out)
  clear x0 y0 y1 y2 l0 l1 l2 hb
  have y0 : w3.cell? ⟨w.heap.size + 2, 0, none⟩ = some (.int .i64 nx) := (blk_cell X2.out 0).trans rfl
  have y1 : w3.cell? ⟨w.heap.size + 2, 1, none⟩ = some (.int .i64 ny) := (blk_cell X2.out 1).trans rfl
  have y2 : w3.cell? ⟨w.heap.size + 2, 2, none⟩ = some (.int .i64 nz) := (blk_cell X2.out 2).trans rfl
  have l2 : w.heap.size + 2 < w3.heap.size := blk_lt X2.out
  go_wp2_with fail
  refine (HS.out w3).mono ?_
  rintro e w4 ⟨rfl, hb⟩
  have ZB4 := Lh (bthen ZB3.out hb)
  have V0 := Lh ((hb.block _ (blk_lt X0.out)).trans X0.out)
  have V1 := Lh ((hb.block _ (blk_lt X1.out)).trans X1.out)
  clear y0 y1 y2 l2 hb e1 e2 e3 e4 e5 e6 e7
  have x3 : w4.cell? ⟨w.heap.size, 3, none⟩ = some (.int .i64 ra) := (blk_cell V0.out 3).trans rfl
  have y3 : w4.cell? ⟨w.heap.size + 1, 3, none⟩ = some (.int .i64 rb) := (blk_cell V1.out 3).trans rfl
  have l0 : w.heap.size < w4.heap.size := blk_lt V0.out
  have l1 : w.heap.size + 1 < w4.heap.size := blk_lt V1.out
  have c1 : (ce == 0) = false := by simp; omega
  have c2 : (fl == 0) = false := by simp; omega
  by_cases hs0 : 0 ≤ s
  · have hv : gapV s ce fl ra rb = s / ce - ra - rb := if_pos hs0
    rw [hv] at hg
    have q1 : 0 ≤ s / ce := Int.ediv_nonneg hs0 (by omega)
    have q2 : s / ce ≤ s := Int.ediv_le_self _ hs0
    have t1 : IntKind.i64.wrap (s.tdiv ce) = s / ce := by rw [Int.tdiv_eq_ediv_of_nonneg hs0]; exact iw_id _ (by omega) (by omega)
    have t2 : IntKind.i64.wrap (s / ce - ra) = s / ce - ra := iw_id _ (by omega) (by omega)
    have t3 : IntKind.i64.wrap (s / ce - ra - rb) = s / ce - ra - rb := iw_id _ (by omega) (by omega)
    have HG2 := Lh hg
    clear hv hg
    go_wp2
    go_quiet (fail)
    go_wp2
    go_ret
    exact ⟨by rw [← HG2.out]; rfl, pw_below_drewN ZB4.out _⟩
  · have hv : gapV s ce fl ra rb = -((-s + fl - 1) / fl) - ra - rb := if_neg hs0
    rw [hv] at hg
    have q0 : 0 ≤ -s + fl - 1 := by omega
    have q1 : 0 ≤ (-s + fl - 1) / fl := Int.ediv_nonneg q0 (by omega)
    have q2 : (-s + fl - 1) / fl ≤ -s + fl - 1 := Int.ediv_le_self _ q0
    have t0 : IntKind.i64.wrap (-s) = -s := iw_id _ (by omega) (by omega)
    have t0' : IntKind.i64.wrap (-s + fl) = -s + fl := iw_id _ (by omega) (by omega)
    have t0'' : IntKind.i64.wrap (-s + fl - 1) = -s + fl - 1 := iw_id _ (by omega) (by omega)
    have t1 : IntKind.i64.wrap ((-s + fl - 1).tdiv fl) = (-s + fl - 1) / fl := by rw [Int.tdiv_eq_ediv_of_nonneg q0]; exact iw_id _ (by omega) (by omega)
    have t1' : IntKind.i64.wrap (-((-s + fl - 1) / fl)) = -((-s + fl - 1) / fl) := iw_id _ (by omega) (by omega)
    have t2 : IntKind.i64.wrap (-((-s + fl - 1) / fl) - ra) = -((-s + fl - 1) / fl) - ra := iw_id _ (by omega) (by omega)
    have t3 : IntKind.i64.wrap (-((-s + fl - 1) / fl) - ra - rb) = -((-s + fl - 1) / fl) - ra - rb := iw_id _ (by omega) (by omega)
    have hs' : decide (0 ≤ s) = false := by simpa using hs0
    have hs3 : s < 0 := by omega
    have HG2 := Lh hg
    clear hv hg hs0
    go_wp2
    go_quiet (fail)
    go_wp2
    go_ret
    exact ⟨by rw [← HG2.out]; rfl, pw_below_drewN ZB4.out _⟩
end Go.Proofs.Ytckdhahceelckaa.G
namespace Go.Proofs.Ytckdhahceelckaa.G
open Go.RowKit Go.Proofs.YtckdhahceelckaaW.PrintWords Go.Proofs.YtckdhahceelckaaW.PrintLast Go.Proofs.YtckdhahceelckaaW.PrintMore
attribute [local go_sem] max2_mx min2_mn max_two min_two max_three min_three max_four min_four
attribute [local go_sem high] eqA23
set_option linter.unusedVariables false
set_option linter.unusedSimpArgs false
set_option maxHeartbeats 1000000 in
theorem rcross_calls (a b : P3) (w : World) :
    Calls Try.prog 82 #[aP a, aP b] w fun e w' => e = .returned (aP (cross3 a b)) ∧ Below w.heap.size w w' := by
  obtain ⟨x, y, z⟩ := a
  obtain ⟨a, b, c⟩ := b
  go_enter Try.func82, Try.ntmps82
  go_wp2
  exact bodyPost_ret (v := .agg #[.int .i64 (cross3 ⟨x, y, z⟩ ⟨a, b, c⟩).x, .int .i64 (cross3 ⟨x, y, z⟩ ⟨a, b, c⟩).y, .int .i64 (cross3 ⟨x, y, z⟩ ⟨a, b, c⟩).z]) (by simp [results, Try.results82, go_sem, cross3]) rfl ⟨rfl, (by repeat (first | exact Below.refl _ _ | refine Below.setCell ?_ (by simp <;> omega) _ | refine Below.alloc ?_ (by simp <;> omega) _ | refine Below.drew ?_))⟩
/-- the greatest divisor of some numbers -/
def gcdL (l : List Nat) : Nat := l.foldl Nat.gcd 0
theorem gcdL_snoc (l : List Nat) (k : Nat) (h : k < l.length) : gcdL (l.take (k + 1)) = Nat.gcd (gcdL (l.take k)) l[k] := by
  unfold gcdL; rw [List.take_succ_eq_append_getElem h, List.foldl_append]; rfl
theorem gcdL3 (p : P3) : (gcdL [p.x.natAbs, p.y.natAbs, p.z.natAbs] : Int) = gcd3 p := by
  unfold gcdL gcd3
  simp only [List.foldl_cons, List.foldl_nil, Nat.gcd_zero_left]
  rw [Int.gcd, Int.gcd]; simp
theorem gcd_le2 (a b B : Nat) (ha : a ≤ B) (hb : b ≤ B) : Nat.gcd a b ≤ B := by
  by_cases h : a = 0
  · subst h; simpa using hb
  · exact Nat.le_trans (Nat.le_of_dvd (by omega) (Nat.gcd_dvd_left a b)) ha
theorem gcdL_le (l : List Nat) (B : Nat) (h : ∀ x ∈ l, x ≤ B) : gcdL l ≤ B := by
  have gen : ∀ (l : List Nat) (g : Nat), g ≤ B → (∀ x ∈ l, x ≤ B) → l.foldl Nat.gcd g ≤ B := by
    intro l
    induction l with
    | nil => intro g hg _; exact hg
    | cons x l ih => intro g hg hx; exact ih _ (gcd_le2 g x B hg (hx x (.head _))) (fun y hy => hx y (.tail _ hy))
  exact gen l 0 (Nat.zero_le _) h
theorem bare3_zero : bare3 ⟨0, 0, 0⟩ = ⟨0, 0, 0⟩ := by decide +kernel
set_option maxHeartbeats 4000000 in
set_option maxRecDepth 100000 in
theorem rbare_calls (p : P3) (w : World) (hp : in3 4398046511104 p) :
    Calls Try.prog 130 #[aP p] w fun e w' => e = .returned (aP (bare3 p)) ∧ Below w.heap.size w w' := by
  have HG3 := Lh (gcdL3 p)
  have HZ : Hid (gcd3 p = 0 → bare3 p = p) := Lh (fun h => by
    by_cases e : p = ⟨0, 0, 0⟩
    · rw [e]; exact bare3_zero
    · have := gcd3_pos p e; omega)
  have HD : Hid (bare3 p = ⟨p.x.tdiv (gcd3 p), p.y.tdiv (gcd3 p), p.z.tdiv (gcd3 p)⟩) := Lh rfl
  obtain ⟨x, y, z⟩ := p
  obtain ⟨a1, a2, a3, a4, a5, a6⟩ := hp
  simp only at a1 a2 a3 a4 a5 a6
  have sx := Lh (size5_calls x (by omega) (by omega))
  have sy := Lh (size5_calls y (by omega) (by omega))
  have sz := Lh (size5_calls z (by omega) (by omega))
  have LB : Hid (∀ q ∈ [x.natAbs, y.natAbs, z.natAbs], q ≤ 4398046511104) := Lh (by intro q hq; simp at hq; rcases hq with rfl | rfl | rfl <;> omega)
  have TX := Lh (fun n => iw_tdiv x n (by omega) (by omega))
  have TY := Lh (fun n => iw_tdiv y n (by omega) (by omega))
  have TZ := Lh (fun n => iw_tdiv z n (by omega) (by omega))
  simp only at HG3
  obtain ⟨X, hX⟩ : ∃ X, x.natAbs = X := ⟨_, rfl⟩
  obtain ⟨Y, hY⟩ : ∃ X, y.natAbs = X := ⟨_, rfl⟩
  obtain ⟨Z, hZ⟩ : ∃ X, z.natAbs = X := ⟨_, rfl⟩
  rw [hX] at sx HG3 LB
  rw [hY] at sy HG3 LB
  rw [hZ] at sz HG3 LB
  clear hX hY hZ a1 a2 a3 a4 a5 a6
  go_enter Try.func130, Try.ntmps130
  go_wp2_with fail
  obtain ⟨w1, hw1⟩ : ∃ w1, (w.alloc (.cells #[.int .i64 x, .int .i64 y, .int .i64 z] 23)).alloc (.cells #[.int .i64 0, .int .i64 0, .int .i64 0] 23) = w1 := ⟨_, rfl⟩
  have P1 : Hid (C3 w1 w.heap.size (.int .i64 x) (.int .i64 y) (.int .i64 z)) := Lh (by rw [← hw1]; exact (C3.new w _ _ _ _).alloc _)
  have R1 : Hid (w1.heap[w.heap.size + 1]? = some (.cells #[.int .i64 0, .int .i64 0, .int .i64 0] 23 (0, 0))) := Lh (by rw [← hw1]; have h := heap_alloc_new (w.alloc (.cells #[.int .i64 x, .int .i64 y, .int .i64 z] 23)) (.cells #[.int .i64 0, .int .i64 0, .int .i64 0] 23); rw [World.size_alloc] at h; exact h)
  have HW1 := Lh (show Below w.heap.size w w1 by rw [← hw1]; exact ((Below.refl _ w).alloc (Nat.le_refl _) _).alloc (by simp) _)
  have lt1 : w.heap.size + 1 < w1.heap.size := by rw [← hw1]; simp
  have lt0 : w.heap.size < w1.heap.size := by omega
  rw [hw1]
  clear hw1
  obtain ⟨c0, c1, c2, _, _, _⟩ := P1.out
  have HB := Lh ((Below.refl (w1.heap.size) w1).drew)
  have FF := Lh (show ∀ V, Hid (Below (w1.heap.size) w1 V) → V.cell? ⟨w.heap.size, 0, none⟩ = some (.int .i64 x) ∧ V.cell? ⟨w.heap.size, 1, none⟩ = some (.int .i64 y) ∧ V.cell? ⟨w.heap.size, 2, none⟩ = some (.int .i64 z) from fun V HB => ⟨(HB.out.cell (p := ⟨w.heap.size, 0, none⟩) (lt0)).trans c0, (HB.out.cell (p := ⟨w.heap.size, 1, none⟩) (lt0)).trans c1, (HB.out.cell (p := ⟨w.heap.size, 2, none⟩) (lt0)).trans c2⟩)
  refine start_ (n := 11) (S := fun w' => w'.cell? ⟨w.heap.size, 0, none⟩ = some (.int .i64 x) ∧ w'.cell? ⟨w.heap.size, 1, none⟩ = some (.int .i64 y) ∧ w'.cell? ⟨w.heap.size, 2, none⟩ = some (.int .i64 z)) (ds := []) (MT 0 11) (by kernel_rfl) rfl rfl (FF.out _ HB) (fun hHeld => ?_)
  obtain ⟨wd, hwd⟩ : ∃ x, w1.drew = x := ⟨_, rfl⟩
  rw [hwd] at HB hHeld ⊢
  clear hwd
  refine pu_ 0 9 (h := ?_)
  refine pu_ 3 12 (h := ?_)
  refine pu_ 6 15 (h := ?_)
  refine ta_ 1 10 hHeld (h := ?_)
  refine ta_ 4 13 hHeld (h := ?_)
  refine ta_ 7 16 hHeld (h := ?_)
  refine on_ 2 (some 11) (h := fun K hK => ?_)
  refine gs_ Try.func131 #[.int .i64 x] ?_
  with_reducible refine (sx.out _).mono ?_
  rintro e w3 ⟨rfl, rfl⟩
  refine ⟨_, rfl, ?_⟩
  refine hK.out _ _ (FF.out _ HB) (fun hHeld => ?_)
  clear hK K
  refine no_ (h := ?_)
  refine on_ 5 (some 14) (h := fun K hK => ?_)
  refine gs_ Try.func131 #[.int .i64 y] ?_
  with_reducible refine (sy.out _).mono ?_
  rintro e w3 ⟨rfl, rfl⟩
  refine ⟨_, rfl, ?_⟩
  refine hK.out _ _ (FF.out _ HB) (fun hHeld => ?_)
  clear hK K
  refine no_ (h := ?_)
  refine on_ 8 (some 17) (h := fun K hK => ?_)
  refine gs_ Try.func131 #[.int .i64 z] ?_
  with_reducible refine (sz.out _).mono ?_
  rintro e w3 ⟨rfl, rfl⟩
  refine ⟨_, rfl, ?_⟩
  refine hK.out _ _ (FF.out _ HB) (fun hHeld => ?_)
  clear hK K
  refine no_ (h := ?_)
  refine on_ 9 (some 18) (h := fun K hK => ?_)
  refine value_ (w1 := ?_) (v := ?_) (by rfl) rfl ?_ ?_
  rotate_left 2
  · go_simp
    constructor
    · rfl
    · rfl
  have HA := Lh (ha_new HB.out (.cells #[.int .i64 (X : Int), .int .i64 (Y : Int), .int .i64 (Z : Int)] 3))
  have hge := HB.out.size
  have HB := Lh (HB.out.alloc (Nat.le_trans (Nat.le_refl _) HB.out.size) (.cells #[.int .i64 (X : Int), .int .i64 (Y : Int), .int .i64 (Z : Int)] 3))
  refine hK.out _ _ (FF.out _ HB) (fun hHeld => ?_)
  clear hK K
  refine no_ (h := ?_)
  refine pu_ 10 4 (h := ?_)
  refine done_ (by kernel_rfl) ?_
  have P2 := Lh (P1.out.below HB.out)
  have R2 := Lh ((HB.out.block _ lt1).trans R1.out)
  have HW2 := Lh (HW1.out.trans (HB.out.mono (by omega)))
  have RI2 := Lh (RdI.of3 HA.out)
  obtain ⟨AB, hAB⟩ : ∃ AB, w3.heap.size = AB := ⟨_, rfl⟩
  have lz : w1.heap.size ≤ AB := by rw [← hAB]; exact hge
  rw [hAB] at RI2 ⊢
  obtain ⟨w4, hw4⟩ : ∃ w4, w3.alloc (.cells #[.int .i64 X, .int .i64 Y, .int .i64 Z] 3) = w4 := ⟨_, rfl⟩
  rw [hw4] at P2 R2 HW2 RI2 ⊢
  clear hHeld HB HA hge c0 c1 c2 P1 R1 HW1 hAB hw4
  obtain ⟨N, hN⟩ : ∃ N : List Nat, [X, Y, Z] = N := ⟨_, rfl⟩
  have hNI : [(X : Int), (Y : Int), (Z : Int)] = N.map Int.ofNat := by rw [← hN]; rfl
  rw [hNI] at RI2
  have hN3 : N.length = 3 := by rw [← hN]; rfl
  rw [hN] at HG3 LB
  have HN3 := Lh hN3
  clear hNI hN hN3
  go_wp2
  go_loopw [3, 5, 6, 7, 8] (fun v3 v5 v6 v7 v8 wr => ∃ k : Nat, k ≤ 3 ∧ v5 = .int .i64 k ∧ v3 = .int .i64 (gcdL (N.take k)) ∧ Hid (wr = w4)) (fun _ i _ _ _ _ => 3 - (intOf i).toNat)
  case atStart => exact ⟨0, by omega, rfl, rfl, Lh rfl⟩
  case round =>
    obtain ⟨k, hk, rfl, rfl, hwr⟩ := hrel
    have hwr' := hwr.out
    subst hwr'
    by_cases hlt : k < 3
    · have hlN : k < N.length := by rw [HN3.out]; exact hlt
      have hc : wr.cell? ⟨AB, 0 + k, none⟩ = some (.int .i64 (N[k] : Int)) := by
        obtain ⟨b, o, e, _, h⟩ := RI2.out.get k (by rw [List.length_map]; exact hlN)
        simp only [Option.some.injEq, Addr.mk.injEq, and_true] at e
        obtain ⟨rfl, rfl⟩ := e
        rw [List.getElem_map] at h
        exact h
      rw [Nat.zero_add] at hc
      have hS := Lh (gcdL_snoc N k hlN)
      have b1 : N[k] ≤ 4398046511104 := LB.out _ (List.getElem_mem _)
      have b2 : gcdL (N.take k) ≤ 4398046511104 := gcdL_le _ _ (fun q hq => LB.out q (List.mem_of_mem_take hq))
      obtain ⟨M, hM⟩ : ∃ M, N[k] = M := ⟨_, rfl⟩
      obtain ⟨g, hg⟩ : ∃ g, gcdL (N.take k) = g := ⟨_, rfl⟩
      rw [hM] at hc hS b1
      rw [hg] at hS b2 ⊢
      clear hM hg
      obtain ⟨wo, hwo⟩ : ∃ wo : World, wo = wr := ⟨_, rfl⟩
      subst hwo
      go_wp2
      go_loopw [6, 7, 8] (fun v6 v7 v8 wr => ∃ a b : Nat, v6 = .int .i64 a ∧ v7 = .int .i64 b ∧ a ≤ 4398046511104 ∧ b ≤ 4398046511104 ∧ Hid (Nat.gcd a b = Nat.gcd g M) ∧ Hid (wr = wo)) (fun _ b _ _ => (intOf b).toNat)
      case atStart => exact ⟨g, M, rfl, rfl, b2, b1, Lh rfl, Lh rfl⟩
      case round =>
        clear hc b1 b2
        obtain ⟨a, b, rfl, rfl, h1, h2, h3, hw'⟩ := hrel
        have hw'' := hw'.out
        subst hw''
        by_cases hb : b = 0
        · subst hb
          have t0 : ((0 : Int) != 0) = false := rfl
          have hE : Hid (gcdL (N.take (k + 1)) = a) := Lh (by rw [hS.out, ← h3.out]; simp)
          go_wp2
          go_roundw
          case rel => exact ⟨k + 1, by omega, by go_num, by rw [hE.out], by first | exact Lh rfl | exact trivial⟩
          case measure => simp [intOf]; omega
        · have t0 : (((b : Nat) : Int) != 0) = true := by simp; exact hb
          have t1 : (((b : Nat) : Int) == 0) = false := by simp; exact hb
          have t2 : ((b : Nat) : Int) ≠ 0 := by omega
          have e1 : IntKind.i64.wrap ((a : Int).tmod (b : Int)) = ((a % b : Nat) : Int) := by
            rw [Int.tmod_eq_emod_of_nonneg (by omega), ← Int.natCast_emod]
            have := Nat.mod_le a b
            exact iw_id _ (by omega) (by omega)
          have hm := Nat.mod_lt a (show b > 0 by omega)
          go_wp2
          go_roundw
          case rel => exact ⟨b, a % b, rfl, by first | rfl | (rw [Int.natCast_emod]) | go_num, h2, by omega, Lh (by rw [← h3.out, Nat.gcd_comm b, ← Nat.gcd_rec, Nat.gcd_comm]), by first | exact Lh rfl | exact trivial⟩
          case measure => simp [intOf]; omega
    · obtain rfl : k = 3 := by omega
      rw [List.take_of_length_le (by rw [HN3.out]; omega), HG3.out]
      obtain ⟨c0, c1, c2, _, _, _⟩ := P2.out
      have z0 : wr.cell? ⟨w.heap.size + 1, 0, none⟩ = some (.int .i64 0) := (blk_cell R2.out 0).trans rfl
      have z1 : wr.cell? ⟨w.heap.size + 1, 1, none⟩ = some (.int .i64 0) := (blk_cell R2.out 1).trans rfl
      have z2 : wr.cell? ⟨w.heap.size + 1, 2, none⟩ = some (.int .i64 0) := (blk_cell R2.out 2).trans rfl
      have f0 : wr.frozen? ⟨w.heap.size + 1, 0, none⟩ = false := blk_frozen R2.out 0
      have f1 : wr.frozen? ⟨w.heap.size + 1, 1, none⟩ = false := blk_frozen R2.out 1
      have f2 : wr.frozen? ⟨w.heap.size + 1, 2, none⟩ = false := blk_frozen R2.out 2
      by_cases hg0 : gcd3 ⟨x, y, z⟩ = 0
      · have E := Lh (HZ.out hg0)
        rw [hg0]
        clear hg0
        go_wp2
        rw [E.out]
        exact bodyPost_ret (v := aP ⟨x, y, z⟩) (by simp [results, Try.results130, go_sem, z0, z1, z2]) rfl ⟨rfl, below_set3 HW2.out (by omega) _ _ _⟩
      · obtain ⟨G, hG⟩ : ∃ G, gcd3 ⟨x, y, z⟩ = G := ⟨_, rfl⟩
        rw [hG] at hg0 HD ⊢
        have t1 : (G == 0) = false := by simpa using hg0
        have e1 := TX.out G
        have e2 := TY.out G
        have e3 := TZ.out G
        clear hG
        have lt4 : w.heap.size < wr.heap.size := World.block_lt_of_cell? wr _ c0
        go_wp2_with fail
        have HB := Lh ((Below.refl (wr.heap.size) wr).drew)
        have HA := Lh (show wr.drew.heap[(w.heap.size + 1)]? = _ from R2.out)
        refine start_ (n := 14) (S := fun w' => w'.cell? ⟨w.heap.size, 0, none⟩ = some (.int .i64 x) ∧ w'.cell? ⟨w.heap.size, 1, none⟩ = some (.int .i64 y) ∧ w'.cell? ⟨w.heap.size, 2, none⟩ = some (.int .i64 z)) (ds := [13]) (MT 0 14) (by kernel_rfl) rfl rfl ⟨(HB.out.cell (p := ⟨w.heap.size, 0, none⟩) (lt4)).trans c0, (HB.out.cell (p := ⟨w.heap.size, 1, none⟩) (lt4)).trans c1, (HB.out.cell (p := ⟨w.heap.size, 2, none⟩) (lt4)).trans c2⟩ (fun hHeld => ?_)
        obtain ⟨wd, hwd⟩ : ∃ x, wr.drew = x := ⟨_, rfl⟩
        rw [hwd] at HB hHeld HA ⊢
        clear hwd
        refine pu_ 0 39 (h := ?_)
        refine pu_ 2 41 (h := ?_)
        refine pu_ 4 43 (h := ?_)
        refine pu_ 6 45 (h := ?_)
        refine pu_ 8 47 (h := ?_)
        refine pu_ 10 49 (h := ?_)
        refine ta_ 1 40 hHeld (h := ?_)
        refine pu_ 3 42 (h := ?_)
        refine ta_ 5 44 hHeld (h := ?_)
        refine pu_ 7 46 (h := ?_)
        refine ta_ 9 48 hHeld (h := ?_)
        refine pu_ 11 50 (h := ?_)
        refine pu_ 12 51 (h := ?_)
        refine last_ (i := 13) (N := none) (MT 14 0) rfl rfl (by kernel_rfl) (by decide) (fun K hK => ?_)
        have sc0 : World.cell? _ ⟨(w.heap.size + 1), 0, none⟩ = some (.int .i64 0) := (blk_cell HA.out 0).trans rfl
        have sf0 := blk_frozen HA.out 0
        have sc1 : World.cell? _ ⟨(w.heap.size + 1), 1, none⟩ = some (.int .i64 0) := (blk_cell HA.out 1).trans rfl
        have sf1 := blk_frozen HA.out 1
        have sc2 : World.cell? _ ⟨(w.heap.size + 1), 2, none⟩ = some (.int .i64 0) := (blk_cell HA.out 2).trans rfl
        have sf2 := blk_frozen HA.out 2
        refine skip_ (w1 := ?_) (by rfl) rfl ?_ ?_
        rotate_left
        · go_simp
          rfl
        have HB := Lh (show Below (w.heap.size) _ _ from HB.out.mono (Nat.le_of_lt lt4))
        have HA := Lh (bs3 HA.out (.int .i64 (x.tdiv G)) (.int .i64 (y.tdiv G)) (.int .i64 (z.tdiv G)))
        have HB := Lh (bb3 HB.out (show w.heap.size ≤ w.heap.size + 1 from Nat.le_succ _) (.int .i64 (x.tdiv G)) (.int .i64 (y.tdiv G)) (.int .i64 (z.tdiv G)))
        clear sc0 sf0 sc1 sf1 sc2 sf2
        refine hK.out _ _ ?_
        clear hK K
        refine done_ (by kernel_rfl) ?_
        obtain ⟨w5, hwn⟩ : ∃ V, (((wd.setCell ⟨(w.heap.size + 1), 0, none⟩ (.int .i64 (x.tdiv G))).setCell ⟨(w.heap.size + 1), 1, none⟩ (.int .i64 (y.tdiv G))).setCell ⟨(w.heap.size + 1), 2, none⟩ (.int .i64 (z.tdiv G))) = V := ⟨_, rfl⟩
        rw [hwn] at HA HB ⊢
        clear hwn
        have HW5 := Lh (HW2.out.trans HB.out)
        have t5 : w5.cell? ⟨w.heap.size + 1, 0, none⟩ = some (.int .i64 (x.tdiv G)) := (blk_cell HA.out 0).trans rfl
        have t6 : w5.cell? ⟨w.heap.size + 1, 1, none⟩ = some (.int .i64 (y.tdiv G)) := (blk_cell HA.out 1).trans rfl
        have t7 : w5.cell? ⟨w.heap.size + 1, 2, none⟩ = some (.int .i64 (z.tdiv G)) := (blk_cell HA.out 2).trans rfl
        clear HB HA c0 c1 c2 z0 z1 z2 f0 f1 f2
        go_wp2
        rw [HD.out]
        exact bodyPost_ret (v := aP ⟨x.tdiv G, y.tdiv G, z.tdiv G⟩) (by simp [results, Try.results130, go_sem, t5, t6, t7]) rfl ⟨rfl, HW5.out⟩
end Go.Proofs.Ytckdhahceelckaa.G
namespace Go.Proofs.Ytckdhahceelckaa.G
open Go.RowKit Go.Proofs.YtckdhahceelckaaW.PrintWords Go.Proofs.YtckdhahceelckaaW.PrintLast Go.Proofs.YtckdhahceelckaaW.PrintMore
attribute [local go_sem] max2_mx min2_mn max_two min_two max_three min_three max_four min_four
attribute [local go_sem high] eqA23
set_option linter.unusedVariables false
set_option linter.unusedSimpArgs false
theorem short3_in_eq (p : P3) (h : in3 4398046511104 p) : short3 p = bare3 (halve3 (bare3 p)) := by
  by_cases e : p = ⟨0, 0, 0⟩
  · rw [e, short3_zero, bare3_zero, halve3, dif_neg (by decide +kernel), bare3_zero]
  · exact short3_eq p h e
theorem far_of (r : P3) (h : 1048576 < r.x.natAbs ∨ 1048576 < r.y.natAbs ∨ 1048576 < r.z.natAbs) : far3 1048576 r = true := by
  cases hf : far3 1048576 r
  · obtain ⟨a, b, c, d, e, f⟩ := (far3_iff _ _ (by decide) (by decide)).1 hf
    omega
  · rfl
theorem far_not (r : P3) (h1 : r.x.natAbs ≤ 1048576) (h2 : r.y.natAbs ≤ 1048576) (h3 : r.z.natAbs ≤ 1048576) : far3 1048576 r = false :=
  (far3_iff _ _ (by decide) (by decide)).2 (by unfold in3; omega)
set_option maxHeartbeats 4000000 in
set_option maxRecDepth 100000 in
theorem rshort_calls (p : P3) (w : World) (hp : in3 4398046511104 p) :
    Calls Try.prog 81 #[aP p] w fun e w' => e = .returned (aP (short3 p)) ∧ Below w.heap.size w w' := by
  have HSE := Lh (short3_in_eq p hp)
  have HBR := Lh (fun W => rbare_calls p W hp)
  have HIN := Lh (bare3_in p 4398046511104 hp)
  obtain ⟨q, hq⟩ : ∃ q, bare3 p = q := ⟨_, rfl⟩
  rw [hq] at HSE HBR HIN
  clear hq
  obtain ⟨x, y, z⟩ := p
  obtain ⟨a1, a2, a3, a4, a5, a6⟩ := hp
  simp only at a1 a2 a3 a4 a5 a6
  have ix := Lh (in5_calls x (-4398046511104) 4398046511104 true (by simp; omega))
  have iy := Lh (in5_calls y (-4398046511104) 4398046511104 true (by simp; omega))
  have iz := Lh (in5_calls z (-4398046511104) 4398046511104 true (by simp; omega))
  clear a1 a2 a3 a4 a5 a6
  have B1 := Lh ((C3.new w (.int .i64 x) (.int .i64 y) (.int .i64 z) 23).alloc (.cells #[.int .i64 0, .int .i64 0, .int .i64 0] 23))
  have B2 := C3.new (w.alloc (.cells #[.int .i64 x, .int .i64 y, .int .i64 z] 23)) (.int .i64 0) (.int .i64 0) (.int .i64 0) 23
  simp only [World.size_alloc] at B2
  have B2 := Lh B2
  have HW := Lh (((Below.refl _ w).alloc (Nat.le_refl _) (.cells #[.int .i64 x, .int .i64 y, .int .i64 z] 23)).alloc (by simp) (.cells #[.int .i64 0, .int .i64 0, .int .i64 0] 23))
  go_enter Try.func81, Try.ntmps81
  go_wp2_with fail
  refine (ix.out _).mono ?_
  rintro e w1 ⟨rfl, rfl⟩
  go_wp2_with fail
  refine (iy.out _).mono ?_
  rintro e w1 ⟨rfl, rfl⟩
  go_wp2_with fail
  refine (iz.out _).mono ?_
  rintro e w1 ⟨rfl, rfl⟩
  clear ix iy iz
  go_wp2_with fail
  refine (HBR.out _).mono ?_
  rintro e w1 ⟨rfl, hb⟩
  have D2 := Lh (B2.out.below hb)
  have HW1 := Lh (bthen HW.out hb)
  have lz : w.heap.size + 1 < w1.heap.size := by have := hb.size; simp at this; omega
  clear HBR HW hb B1 B2
  have hA := Lh (C3.new w1 (.int .i64 q.x) (.int .i64 q.y) (.int .i64 q.z) 23)
  have hR := Lh (D2.out.alloc (.cells #[.int .i64 q.x, .int .i64 q.y, .int .i64 q.z] 23))
  have hW := Lh (HW1.out.alloc (by omega) (.cells #[.int .i64 q.x, .int .i64 q.y, .int .i64 q.z] 23))
  clear D2 HW1
  obtain ⟨T, hT⟩ : ∃ T, w1.heap.size = T := ⟨_, rfl⟩
  go_wp2_with fail
  rw [hT] at hA lz
  generalize w1.alloc (.cells #[.int .i64 q.x, .int .i64 q.y, .int .i64 q.z] 23) = w2 at hA hR hW ⊢
  clear hT
  go_loopg [] (size3 q) (fun kq wr => ∃ r : P3, Hid (kq = size3 r) ∧ Hid (halve3 r = halve3 q) ∧ Hid (in3 4398046511104 r) ∧ Hid (C3 wr T (.int .i64 r.x) (.int .i64 r.y) (.int .i64 r.z)) ∧ Hid (C3 wr (w.heap.size + 1) (.int .i64 0) (.int .i64 0) (.int .i64 0)) ∧ Hid (Below w.heap.size w wr))
  case atStart => exact ⟨q, Lh rfl, Lh rfl, HIN, hA, hR, hW⟩
  case round =>
    clear hA hR hW HIN
    obtain ⟨r, h1, h2, h3, h5, h6, h7⟩ := hrel
    obtain ⟨hx1, hx2, hy1, hy2, hz1, hz2⟩ := h3.out
    obtain ⟨rx, ry, rz⟩ := r
    dsimp only at h5 hx1 hx2 hy1 hy2 hz1 hz2
    have sx := Lh (size5_calls rx (by omega) (by omega))
    have sy := Lh (size5_calls ry (by omega) (by omega))
    have sz := Lh (size5_calls rz (by omega) (by omega))
    obtain ⟨c10, c11, c12, f10, f11, f12⟩ := id h5.out
    by_cases tx : 1048576 < rx.natAbs
    · skip
      have dx : decide ((1048576 : Int) < (rx.natAbs : Int)) = true := by simp; omega
      have hf := far_of ⟨rx, ry, rz⟩ (.inl tx)
      have e2 := Lh (show size3 (div3 2 ⟨rx, ry, rz⟩) < gk by rw [h1.out]; exact div2_lt _ hf)
      have e3 := Lh (div3_in 2 4398046511104 _ h3.out)
      have e1 := Lh ((show halve3 (div3 2 ⟨rx, ry, rz⟩) = halve3 ⟨rx, ry, rz⟩ by rw [halve3.eq_1 ⟨rx, ry, rz⟩, dif_pos hf]).trans h2.out)
      have td1 := iw_tdiv rx 2 (by omega) (by omega)
      have td2 := iw_tdiv ry 2 (by omega) (by omega)
      have td3 := iw_tdiv rz 2 (by omega) (by omega)
      clear hf tx
      go_wp2_with fail
      refine (sx.out _).mono ?_
      rintro e w5 ⟨rfl, rfl⟩
      go_wp2
      go_roundg (size3 (div3 2 ⟨rx, ry, rz⟩))
      case measure => exact e2.out
      case rel => exact ⟨div3 2 ⟨rx, ry, rz⟩, Lh rfl, e1, e3, h5.out.set _ _ _, h6.out.other (by omega) _ _ _, below_set3 h7.out (by omega) _ _ _⟩
    · by_cases ty : 1048576 < ry.natAbs
      · skip
        have dx : decide ((1048576 : Int) < (rx.natAbs : Int)) = false := by simp; omega
        have dy : decide ((1048576 : Int) < (ry.natAbs : Int)) = true := by simp; omega
        have hf := far_of ⟨rx, ry, rz⟩ (.inr (.inl ty))
        have e2 := Lh (show size3 (div3 2 ⟨rx, ry, rz⟩) < gk by rw [h1.out]; exact div2_lt _ hf)
        have e3 := Lh (div3_in 2 4398046511104 _ h3.out)
        have e1 := Lh ((show halve3 (div3 2 ⟨rx, ry, rz⟩) = halve3 ⟨rx, ry, rz⟩ by rw [halve3.eq_1 ⟨rx, ry, rz⟩, dif_pos hf]).trans h2.out)
        have td1 := iw_tdiv rx 2 (by omega) (by omega)
        have td2 := iw_tdiv ry 2 (by omega) (by omega)
        have td3 := iw_tdiv rz 2 (by omega) (by omega)
        clear hf tx ty
        go_wp2_with fail
        refine (sx.out _).mono ?_
        rintro e w5 ⟨rfl, rfl⟩
        go_wp2_with fail
        refine (sy.out _).mono ?_
        rintro e w5 ⟨rfl, rfl⟩
        go_wp2
        go_roundg (size3 (div3 2 ⟨rx, ry, rz⟩))
        case measure => exact e2.out
        case rel => exact ⟨div3 2 ⟨rx, ry, rz⟩, Lh rfl, e1, e3, h5.out.set _ _ _, h6.out.other (by omega) _ _ _, below_set3 h7.out (by omega) _ _ _⟩
      · by_cases tz : 1048576 < rz.natAbs
        · skip
          have dx : decide ((1048576 : Int) < (rx.natAbs : Int)) = false := by simp; omega
          have dy : decide ((1048576 : Int) < (ry.natAbs : Int)) = false := by simp; omega
          have dz : decide ((1048576 : Int) < (rz.natAbs : Int)) = true := by simp; omega
          have hf := far_of ⟨rx, ry, rz⟩ (.inr (.inr tz))
          have e2 := Lh (show size3 (div3 2 ⟨rx, ry, rz⟩) < gk by rw [h1.out]; exact div2_lt _ hf)
          have e3 := Lh (div3_in 2 4398046511104 _ h3.out)
          have e1 := Lh ((show halve3 (div3 2 ⟨rx, ry, rz⟩) = halve3 ⟨rx, ry, rz⟩ by rw [halve3.eq_1 ⟨rx, ry, rz⟩, dif_pos hf]).trans h2.out)
          have td1 := iw_tdiv rx 2 (by omega) (by omega)
          have td2 := iw_tdiv ry 2 (by omega) (by omega)
          have td3 := iw_tdiv rz 2 (by omega) (by omega)
          clear hf tx ty tz
          go_wp2_with fail
          refine (sx.out _).mono ?_
          rintro e w5 ⟨rfl, rfl⟩
          go_wp2_with fail
          refine (sy.out _).mono ?_
          rintro e w5 ⟨rfl, rfl⟩
          go_wp2_with fail
          refine (sz.out _).mono ?_
          rintro e w5 ⟨rfl, rfl⟩
          go_wp2
          go_roundg (size3 (div3 2 ⟨rx, ry, rz⟩))
          case measure => exact e2.out
          case rel => exact ⟨div3 2 ⟨rx, ry, rz⟩, Lh rfl, e1, e3, h5.out.set _ _ _, h6.out.other (by omega) _ _ _, below_set3 h7.out (by omega) _ _ _⟩
        · skip
          have dx : decide ((1048576 : Int) < (rx.natAbs : Int)) = false := by simp; omega
          have dy : decide ((1048576 : Int) < (ry.natAbs : Int)) = false := by simp; omega
          have dz : decide ((1048576 : Int) < (rz.natAbs : Int)) = false := by simp; omega
          have hf := far_not ⟨rx, ry, rz⟩ (by simp; omega) (by simp; omega) (by simp; omega)
          have E1 := Lh (show halve3 q = ⟨rx, ry, rz⟩ by rw [← h2.out, halve3, dif_neg (by rw [hf]; simp)])
          have HBR := Lh (fun W => rbare_calls ⟨rx, ry, rz⟩ W h3.out)
          obtain ⟨u, hu⟩ : ∃ u, bare3 ⟨rx, ry, rz⟩ = u := ⟨_, rfl⟩
          rw [hu] at HBR
          have HU := Lh hu
          clear hf tx ty tz hu
          go_wp2_with fail
          refine (sx.out _).mono ?_
          rintro e w5 ⟨rfl, rfl⟩
          go_wp2_with fail
          refine (sy.out _).mono ?_
          rintro e w5 ⟨rfl, rfl⟩
          go_wp2_with fail
          refine (sz.out _).mono ?_
          rintro e w5 ⟨rfl, rfl⟩
          go_wp2_with fail
          refine (HBR.out _).mono ?_
          rintro e w6 ⟨rfl, hb⟩
          obtain ⟨c0, c1, c2, f0, f1, f2⟩ := h6.out.below hb
          have H7 := Lh (bthen h7.out hb)
          clear hb c10 c11 c12 f10 f11 f12
          go_wp2
          rw [HSE.out, E1.out, HU.out]
          exact bodyPost_ret (v := aP u) (by simp [results, Try.results81, go_sem, c0, c1, c2]) rfl ⟨rfl, below_set3 H7.out (by omega) _ _ _⟩
end Go.Proofs.Ytckdhahceelckaa.G
namespace Go.Proofs.Ytckdhahceelckaa.G
open Go.RowKit Go.Proofs.YtckdhahceelckaaW.PrintWords Go.Proofs.YtckdhahceelckaaW.PrintLast Go.Proofs.YtckdhahceelckaaW.PrintMore
attribute [local go_sem] max2_mx min2_mn max_two min_two max_three min_three max_four min_four
attribute [local go_sem high] eqA23
set_option linter.unusedVariables false
set_option linter.unusedSimpArgs false
set_option maxHeartbeats 2000000 in
theorem rlong_calls (p : P3) (w : World) (hp : in3 4398046511104 p) :
    Calls Try.prog 119 #[aP p] w fun e w' => e = .returned (aP (long3 p)) ∧ Below w.heap.size w w' := by
  have HS := Lh (fun W => rshort_calls p W hp)
  obtain ⟨x, y, z⟩ := p
  have B1 := ((C3.new w (.int .i64 x) (.int .i64 y) (.int .i64 z) 23).alloc (.cells #[.int .i64 0, .int .i64 0, .int .i64 0] 23))
  have B2 := (C3.new (w.alloc (.cells #[.int .i64 x, .int .i64 y, .int .i64 z] 23)) (.int .i64 0) (.int .i64 0) (.int .i64 0) 23)
  simp only [World.size_alloc] at B2
  have B1 := Lh B1
  have B2 := Lh B2
  obtain ⟨q, hq⟩ : ∃ q, short3 ⟨x, y, z⟩ = q := ⟨_, rfl⟩
  have hin : in3 1048576 q := by rw [← hq]; exact short3_in _
  unfold long3
  rw [hq] at HS ⊢
  clear hp hq
  obtain ⟨px, py, pz⟩ := q
  by_cases hz : (⟨px, py, pz⟩ : P3) = ⟨0, 0, 0⟩
  · have h1 : dbl3 ⟨px, py, pz⟩ = ⟨0, 0, 0⟩ := by rw [dbl3, dif_pos (.inr hz)]; exact hz
    rw [h1]
    clear h1
    have he := eqP_yes hz
    simp only [P3.mk.injEq] at hz
    obtain ⟨rfl, rfl, rfl⟩ := hz
    go_enter Try.func119, Try.ntmps119
    go_wp2_with (go_at_call 81; refine (HS.out _).mono ?_; rintro e w1 ⟨rfl, hb1⟩; obtain ⟨c10, c11, c12, f10, f11, f12⟩ := B1.out.below hb1; have D2 := Lh (B2.out.below hb1); obtain ⟨c20, c21, c22, f20, f21, f22⟩ := D2.out)
    have hB : Below w.heap.size w w1 := (((Below.refl _ w).alloc (Nat.le_refl _) _).alloc (by simp) _).trans (hb1.mono (by simp; omega))
    exact bodyPost_ret (v := .agg #[.int .i64 0, .int .i64 0, .int .i64 0]) (by simp [results, Try.results119, go_sem, c20, c21, c22]) rfl ⟨rfl, below_set3 (below_set3 hB (Nat.le_refl _) _ _ _) (by omega) _ _ _⟩
  · obtain ⟨D, hD⟩ : ∃ D, dbl3 ⟨px, py, pz⟩ = D := ⟨_, rfl⟩
    rw [hD]
    have HD := Lh hD
    have HZ := Lh hz
    have HI := Lh hin
    have he := eqP_no hz
    clear hD hz hin
    go_enter Try.func119, Try.ntmps119
    go_wp2_with (go_at_call 81; refine (HS.out _).mono ?_; rintro e w1 ⟨rfl, hb1⟩; have D1 := Lh (B1.out.below hb1); obtain ⟨c10, c11, c12, f10, f11, f12⟩ := D1.out; have D2 := Lh (B2.out.below hb1))
    have hB : Below w.heap.size w w1 := (((Below.refl _ w).alloc (Nat.le_refl _) _).alloc (by simp) _).trans (hb1.mono (by simp; omega))
    have hB := below_set3 hB (Nat.le_refl w.heap.size) (.int .i64 px) (.int .i64 py) (.int .i64 pz)
    have B2 := D2.out.other (g' := w.heap.size) (by omega) (.int .i64 px) (.int .i64 py) (.int .i64 pz)
    have B1 := D1.out.set (.int .i64 px) (.int .i64 py) (.int .i64 pz)
    unfold set3 at B1 B2 hB
    generalize ((w1.setCell { block := w.heap.size, off := 0 } (Value.int IntKind.i64 px)).setCell { block := w.heap.size, off := 1 } (Value.int IntKind.i64 py)).setCell { block := w.heap.size, off := 2 } (Value.int IntKind.i64 pz) = w3 at B1 B2 hB ⊢
    clear he hb1 c10 c11 c12 f10 f11 f12 D1 D2
    go_loopg [3] (2000000 - size3 ⟨px, py, pz⟩) (fun kq v3 wr => ∃ r : P3, Hid (kq = 2000000 - size3 r) ∧ Hid (dbl3 r = D) ∧ Hid (in3 1048576 r) ∧ Hid (r ≠ ⟨0, 0, 0⟩) ∧ Hid (C3 wr w.heap.size (.int .i64 r.x) (.int .i64 r.y) (.int .i64 r.z)) ∧ Hid (C3 wr (w.heap.size + 1) (.int .i64 0) (.int .i64 0) (.int .i64 0)) ∧ Hid (Below w.heap.size w wr))
    case atStart => exact ⟨⟨px, py, pz⟩, rfl, HD.out, HI.out, HZ.out, B1, B2, hB⟩
    case round =>
      obtain ⟨r, h1, h2, h3, h4, h5, h6, h7⟩ := hrel
      obtain ⟨hx1, hx2, hy1, hy2, hz1, hz2⟩ := h3.out
      obtain ⟨rx, ry, rz⟩ := r
      dsimp only at h5 hx1 hx2 hy1 hy2 hz1 hz2
      obtain ⟨c10, c11, c12, f10, f11, f12⟩ := id h5.out
      cases hf : far3 524288 ⟨rx, ry, rz⟩ with
      | false =>
        have hne : ¬ (far3 524288 ⟨rx, ry, rz⟩ = true ∨ (⟨rx, ry, rz⟩ : P3) = ⟨0, 0, 0⟩) := by rw [hf]; simpa using h4.out
        have e1 : dbl3 ⟨rx, ry, rz⟩ = dbl3 (two3 ⟨rx, ry, rz⟩) := by rw [dbl3, dif_neg hne]
        have e2 : Hid (2000000 - size3 (two3 ⟨rx, ry, rz⟩) < gk) := by rw [h1.out]; exact two3_lt _ hne
        have e4 := Lh (two3_ne _ h4.out)
        have hi5 := (far3_iff _ _ (by decide) (by decide)).1 hf
        have HI5 := Lh (fun W => rin_calls ⟨rx, ry, rz⟩ 524288 true (decide_eq_true hi5) (by decide) (by decide) W)
        have e3 : Hid (in3 1048576 (two3 ⟨rx, ry, rz⟩)) := by unfold in3 two3 at *; simp only at *; show _ ∧ _; omega
        have E1 : Hid (dbl3 (two3 ⟨rx, ry, rz⟩) = D) := e1.symm.trans h2.out
        clear e1 hne hi5 hf
        go_wp2_with (go_at_call 67; refine (HI5.out _).mono ?_; rintro e w5 ⟨rfl, hb5⟩; have D1 := Lh (h5.out.below hb5); have D2 := Lh (h6.out.below hb5); obtain ⟨d10, d11, d12, g10, g11, g12⟩ := id D1.out)
        go_roundg (2000000 - size3 (two3 ⟨rx, ry, rz⟩))
        case measure => exact e2.out
        case rel => exact ⟨two3 ⟨rx, ry, rz⟩, rfl, E1, e3, e4, D1.out.set _ _ _, D2.out.other (by omega) _ _ _, below_set3 (h7.out.trans (hb5.mono h7.out.size)) (Nat.le_refl _) _ _ _⟩
      | true =>
        have e1 : dbl3 ⟨rx, ry, rz⟩ = ⟨rx, ry, rz⟩ := by rw [dbl3, dif_pos (.inl hf)]
        have hi5 : ¬ in3 524288 ⟨rx, ry, rz⟩ := fun h => by rw [(far3_iff _ _ (by decide) (by decide)).2 h] at hf; cases hf
        have HI5 := Lh (fun W => rin_calls ⟨rx, ry, rz⟩ 524288 false (decide_eq_false hi5) (by decide) (by decide) W)
        obtain rfl : D = ⟨rx, ry, rz⟩ := h2.out.symm.trans e1
        clear e1 hi5 hf
        go_wp2_with (go_at_call 67; refine (HI5.out _).mono ?_; rintro e w5 ⟨rfl, hb5⟩; have D1 := Lh (h5.out.below hb5); have D2 := Lh (h6.out.below hb5); obtain ⟨d10, d11, d12, g10, g11, g12⟩ := id D1.out; obtain ⟨d20, d21, d22, g20, g21, g22⟩ := id D2.out)
        exact bodyPost_ret (v := aP ⟨rx, ry, rz⟩) (by simp [results, Try.results119, go_sem, d20, d21, d22]) rfl ⟨rfl, below_set3 (h7.out.trans (hb5.mono h7.out.size)) (by omega) _ _ _⟩
end Go.Proofs.Ytckdhahceelckaa.G
namespace Go.Proofs.Ytckdhahceelckaa.G
set_option linter.unusedVariables false
theorem nodup_sub_length {α : Type} [DecidableEq α] : ∀ (l m : List α), l.Nodup → (∀ x ∈ l, x ∈ m) → l.length ≤ m.length
  | [], m, _, _ => by simp
  | x :: l, m, hn, hs => by
    have hx : x ∈ m := hs x (.head _)
    obtain ⟨h1, h2⟩ := List.nodup_cons.1 hn
    have ih := nodup_sub_length l (m.erase x) h2 (fun y hy => (List.mem_erase_of_ne (fun e => h1 (by rw [← e]; exact hy))).2 (hs y (.tail _ hy)))
    rw [List.length_erase_of_mem hx] at ih
    have := List.length_pos_of_mem hx
    simp only [List.length_cons]; omega
def subI (a b : P3) : P3 := ⟨a.x - b.x, a.y - b.y, a.z - b.z⟩
def crossI (a b : P3) : P3 := ⟨a.y * b.z - a.z * b.y, a.z * b.x - a.x * b.z, a.x * b.y - a.y * b.x⟩
theorem cross3_eq (p q : P3) (A B : Nat) (hp : in3 A p) (hq : in3 B q) (h : A * B ≤ 1152921504606846976) : cross3 p q = crossI p q ∧ in3 (2 * (A * B)) (crossI p q) := by
  obtain ⟨a1, a2, a3, a4, a5, a6⟩ := hp
  obtain ⟨b1, b2, b3, b4, b5, b6⟩ := hq
  have m1 := mul_bd p.y q.z A B (by omega) (by omega)
  have m2 := mul_bd p.z q.y A B (by omega) (by omega)
  have m3 := mul_bd p.z q.x A B (by omega) (by omega)
  have m4 := mul_bd p.x q.z A B (by omega) (by omega)
  have m5 := mul_bd p.x q.y A B (by omega) (by omega)
  have m6 := mul_bd p.y q.x A B (by omega) (by omega)
  unfold cross3 crossI in3
  simp only
  generalize p.y * q.z = u1 at *
  generalize p.z * q.y = u2 at *
  generalize p.z * q.x = u3 at *
  generalize p.x * q.z = u4 at *
  generalize p.x * q.y = u5 at *
  generalize p.y * q.x = u6 at *
  refine ⟨?_, by omega⟩
  rw [w64_id u1 (by omega) (by omega), w64_id u2 (by omega) (by omega), w64_id u3 (by omega) (by omega), w64_id u4 (by omega) (by omega), w64_id u5 (by omega) (by omega), w64_id u6 (by omega) (by omega), w64_id _ (by omega) (by omega), w64_id _ (by omega) (by omega), w64_id _ (by omega) (by omega)]
/-- the product of three -/
def detI (d u v : P3) : Int := dotI (crossI d u) v
theorem det_swap (d u v : P3) : detI d v u = -detI d u v := by unfold detI dotI crossI; grind
theorem cross_cross (d u v : P3) : crossI (crossI d u) (crossI d v) = ⟨detI d u v * d.x, detI d u v * d.y, detI d u v * d.z⟩ := by
  unfold crossI detI dotI crossI; simp only [P3.mk.injEq]; refine ⟨?_, ?_, ?_⟩ <;> grind
theorem crI_cross (a b : P3) : crI a b = dotI (crossI a b) (crossI a b) := by unfold crI dotI crossI; grind
theorem dotI_zero (u : P3) (h : dotI u u = 0) : u = ⟨0, 0, 0⟩ := by
  have a := sq_nonneg u.x
  have b := sq_nonneg u.y
  have c := sq_nonneg u.z
  unfold dotI at h
  have q : ∀ t : Int, t * t = 0 → t = 0 := fun t ht => by rcases Int.mul_eq_zero.1 ht with h | h <;> exact h
  have x := q _ (show u.x * u.x = 0 by omega)
  have y := q _ (show u.y * u.y = 0 by omega)
  have z := q _ (show u.z * u.z = 0 by omega)
  cases u; simp_all
/-- two that are parallel, the same way -/
theorem par_of_cross (a b : P3) (ha : a ≠ ⟨0, 0, 0⟩) (hc : crossI a b = ⟨0, 0, 0⟩) (hd : 0 < dotI a b) : Par b a := by
  unfold crossI at hc
  simp only [P3.mk.injEq] at hc
  obtain ⟨c1, c2, c3⟩ := hc
  refine ⟨dotI a a, dotI a b, dotI_pos a ha, hd, ?_, ?_, ?_⟩ <;> unfold dotI <;> grind
theorem dot_par_ne (a b : P3) (ha : a ≠ ⟨0, 0, 0⟩) (hb : b ≠ ⟨0, 0, 0⟩) (hc : crossI a b = ⟨0, 0, 0⟩) : dotI a b ≠ 0 := by
  intro h0
  have h := lagI a b
  rw [crI_cross, hc, h0] at h
  have p := Int.mul_pos (dotI_pos a ha) (dotI_pos b hb)
  rw [h] at p
  revert p; decide
/-- three in one plane span nothing -/
theorem det_plane (n x y z : P3) (hn : n ≠ ⟨0, 0, 0⟩) (hx : dotI n x = 0) (hy : dotI n y = 0) (hz : dotI n z = 0) : detI x y z = 0 := by
  have e : detI x y z * dotI n n = 0 := by
    have : detI x y z * dotI n n = dotI n x * dotI (crossI y z) n + dotI n y * dotI (crossI z x) n + dotI n z * dotI (crossI x y) n := by unfold detI dotI crossI; grind
    rw [this, hx, hy, hz]; simp
  rcases Int.mul_eq_zero.1 e with h | h
  · exact h
  · exact absurd (dotI_zero n h) hn
def negI (u : P3) : P3 := ⟨-u.x, -u.y, -u.z⟩
/-- the greatest number that divides is that of parallel ones -/
theorem gcd3_scale (k : Nat) (p : P3) : gcd3 ⟨(k : Int) * p.x, k * p.y, k * p.z⟩ = k * gcd3 p := by
  unfold gcd3
  simp only
  rw [Int.gcd_mul_left]
  have e : ((((k : Int).natAbs * Int.gcd p.x p.y : Nat)) : Int) = (k : Int) * (Int.gcd p.x p.y : Int) := by simp
  rw [e, Int.gcd_mul_left]
  simp
theorem bare3_par_eq (u v : P3) (hu : u ≠ ⟨0, 0, 0⟩) (hv : v ≠ ⟨0, 0, 0⟩) (h : Par u v) : bare3 u = bare3 v := by
  obtain ⟨a, b, ha, hb, e1, e2, e3⟩ := h
  have g1 := gcd3_scale a.toNat u
  have g2 := gcd3_scale b.toNat v
  rw [show (a.toNat : Int) = a by omega] at g1
  rw [show (b.toNat : Int) = b by omega] at g2
  rw [e1, e2, e3, g2] at g1
  obtain ⟨x1, x2, x3⟩ := bare3_eq u
  obtain ⟨y1, y2, y3⟩ := bare3_eq v
  have p1 := gcd3_pos u hu
  have hk : 0 < a * gcd3 u := Int.mul_pos ha (by omega)
  rw [x1, y1] at e1
  rw [x2, y2] at e2
  rw [x3, y3] at e3
  have f : ∀ s t : Int, a * (gcd3 u * s) = b * (gcd3 v * t) → s = t := fun s t hst => by
    have : a * gcd3 u * s = a * gcd3 u * t := by rw [Int.mul_assoc, hst, ← Int.mul_assoc, g1]
    exact Int.eq_of_mul_eq_mul_left (by omega) this
  have r1 := f _ _ e1
  have r2 := f _ _ e2
  have r3 := f _ _ e3
  cases hbu : bare3 u; cases hbv : bare3 v
  rw [hbu, hbv] at r1 r2 r3
  simp_all
theorem short3_par_eq (u v : P3) (hu : in3 4398046511104 u) (hv : in3 4398046511104 v) (hu0 : u ≠ ⟨0, 0, 0⟩) (hv0 : v ≠ ⟨0, 0, 0⟩) (h : Par u v) : short3 u = short3 v := by
  rw [short3_eq u hu hu0, short3_eq v hv hv0, bare3_par_eq u v hu0 hv0 h]
end Go.Proofs.Ytckdhahceelckaa.G
namespace Go.Proofs.Ytckdhahceelckaa.G
open Go.RowKit
set_option linter.unusedVariables false
set_option linter.unusedSimpArgs false
theorem minus3_eq (p q : P3) (hp : in3 1073741824 p) (hq : in3 1073741824 q) : minus3 p q = ⟨p.x - q.x, p.y - q.y, p.z - q.z⟩ := by
  unfold in3 at hp hq
  unfold minus3
  rw [w64_id _ (by omega) (by omega), w64_id _ (by omega) (by omega), w64_id _ (by omega) (by omega)]
theorem rawC_balls (p q : P3) : rawC [p] [] [] [q] [] [] = [short3 (minus3 q p)] := by
  unfold rawC edgeW pointW roundW
  rw [if_neg (by simp [YtckdhahceelckaaW.PrintWords.mn])]; rfl
end Go.Proofs.Ytckdhahceelckaa.G
namespace Go.Proofs.Ytckdhahceelckaa.G
open Go.RowKit Go.Proofs.YtckdhahceelckaaW.PrintWords Go.Proofs.YtckdhahceelckaaW.PrintLast Go.Proofs.YtckdhahceelckaaW.PrintMore
set_option linter.unusedVariables false
set_option linter.unusedSimpArgs false
section
variable {w : World} {ops : Array Oper} {rest : List Oper} {o : Oper} {a : Act} {Q : Exit → Act → World → Prop} {K : Act → World → Prop} {N : Option Tmp}
theorem run_append_pts (w : World) (base : Nat) (ty : TypeId) (v : Value) (l l2 : List P3) (A : Option Addr) (m c : Nat) (hown : OwnP w base v l) (hr : Rd w A l2) (hm : l2.length = m) (hsz : l.length + m ≤ 1000000) (hbase : base ≤ w.heap.size) :
    ∃ v' w', (Builtin.append_ #[24, 24] ty #[v, .slice A m c]).run Try.prog w = .ok v' w' ∧ OwnP w' base v' (l ++ l2) ∧ w.grownBy w' v.ownBlock ∧ (v'.ownBlock = v.ownBlock ∨ v'.ownBlock = some w.heap.size) := by
  obtain ⟨i0, hi, hz0, hz1, hz2⟩ := info_parts info23
  cases A with
  | none =>
    have h0 : l2 = [] := by
      cases l2 with
      | nil => rfl
      | cons p l2 => obtain ⟨b, o', e, _⟩ := hr 0 p rfl; cases e
    subst h0
    simp only [List.length_nil] at hm
    subst hm
    refine ⟨v, w, ?_, by rw [List.append_nil]; exact hown, World.grownBy.refl w _, .inl rfl⟩
    rcases hown.2 with ⟨rfl, hn⟩ | ⟨g, cap, cur, rfl, _, _, hnc, _⟩
    · simp [Builtin.append_, run_underlying Try.underlying24, sizeOf, typeInfo, hi, Builtin.lenOf, Builtin.firstCells]
    · simp [Builtin.append_, run_underlying Try.underlying24, sizeOf, typeInfo, hi, Builtin.lenOf, Builtin.firstCells, hnc, storeCells]
  | some ad =>
    have hnews : ∀ j u, (cells3 l2)[j]? = some u → w.cell? (ad.add j) = some u := by
      cases l2 with
      | nil => intro j u hj; simp [cells3] at hj
      | cons p l2 =>
        obtain ⟨b, o', e, _⟩ := hr 0 p rfl
        simp only [Option.some.injEq] at e
        subst e
        intro j u hj
        rw [add_at]
        exact hr.cells j u hj
    obtain ⟨v', w', h0, h1, h2, _, h4⟩ := Go.run_append_own_at (P := Try.prog) w base 24 ty 23 i0 _ 3 24 Try.underlying24 hi hz0 hz1 hz2 rfl (by omega) v l.length (cells3 l) hown ad m c (cells3 l2) (by rw [cells3_length, hm]) hnews (cells3_one l2) (by unfold maxLen; omega) (by omega) hbase
    refine ⟨v', w', h0, ?_, h2, h4⟩
    show w'.ownsRow base 23 3 v' (l ++ l2).length (cells3 (l ++ l2))
    rw [cells3_append, List.length_append, hm]
    exact h1
/-- append of points, where the new row lies told -/
theorem appL_ (base : Nat) (hgd : o.guard = none) (s x : Operand) (ho : o.op = .call { callee := .builtin .append, args := #[s, x], argTypes := #[24, 24] })
    (v : Value) (l l2 : List P3) (A : Option Addr) (m c : Nat) (hs : a.eval s = v) (hx : a.eval x = .slice A m c) (hown : OwnP w base v l) (hr : Rd w A l2) (hm : l2.length = m) (hsz : l.length + m ≤ 1000000) (hbase : base ≤ w.heap.size)
    (h : ∀ v' w', OwnP w' base v' (l ++ l2) → w.grownBy w' v.ownBlock → (v'.ownBlock = v.ownBlock ∨ v'.ownBlock = some w.heap.size) → wpList Try.prog ops Q rest (a.put o.dst v') w') : wpList Try.prog ops Q (o :: rest) a w := by
  obtain ⟨v', w', h0, h1, h2, h3⟩ := run_append_pts w base o.type v l l2 A m c hown hr hm hsz hbase
  exact Go.Lib.wpList_append_run w hgd s x 24 24 ho v (.slice A m c) hs hx v' w' h0 (h v' w' h1 h2 h3)
/-- the same inside a region that draws its order -/
theorem appR_ (base : Nat) (hw : Region.wanted o (yielded ops a.tmps) = true) (hN : o.dst = N) (s x : Operand) (ho : o.op = .call { callee := .builtin .append, args := #[s, x], argTypes := #[24, 24] })
    (v : Value) (l l2 : List P3) (A : Option Addr) (m c : Nat) (hs : a.eval s = v) (hx : a.eval x = .slice A m c) (hown : OwnP w base v l) (hr : Rd w A l2) (hm : l2.length = m) (hsz : l.length + m ≤ 1000000) (hbase : base ≤ w.heap.size)
    (h : ∀ v' w', OwnP w' base v' (l ++ l2) → w.grownBy w' v.ownBlock → (v'.ownBlock = v.ownBlock ∨ v'.ownBlock = some w.heap.size) → K (a.put N v') w') :
    if Region.wanted o (yielded ops a.tmps) = true then Oper.wp Try.prog o a w K Q else K (a.put N undef) w := by
  rw [if_pos hw]
  subst hN
  obtain ⟨v', w', h0, h1, h2, h3⟩ := run_append_pts w base o.type v l l2 A m c hown hr hm hsz hbase
  unfold Oper.wp execOp
  simp only [ho, resolve, invoke, builtin, Sem.run_bind, Sem.run_pure, Result.andThen_ok, List.map_toArray, List.map_cons, List.map_nil, hs, hx, h0]
  exact h _ _ h1 h2 h3
end
theorem OwnP.rdB2 {w : World} {base : Nat} {v : Value} {l : List P3} (h : OwnP w base v l) : ∃ A c, v = .slice A l.length c ∧ l.length ≤ c ∧ RdB w A l ∧ (∀ ad, A = some ad → base ≤ ad.block) := by
  obtain ⟨A, c, e, h1, h2, h3⟩ := OwnP.rd h
  refine ⟨A, c, e, h1, ⟨h2, fun _ ad ea => ?_⟩, h3⟩
  subst ea
  exact (World.ownsRow.lt h ad.block (by rw [e]; rfl)).2
/-- a list of the call's own grows; what lay there at its beginning, and what is kept, stays -/
structure CSt (w1 W : World) (v : Value) (l : List P3) (keep : List Nat) : Prop where
  own : OwnP W w1.heap.size v l
  below : Below w1.heap.size w1 W
  ne : ∀ k ∈ keep, v.ownBlock ≠ some k ∧ k < W.heap.size
theorem CSt.start (w1 : World) : CSt w1 w1 (.slice none 0 0) [] [] := ⟨OwnP.nil _ _, Below.refl _ _, by simp⟩
theorem CSt.grown {w1 W W' : World} {v : Value} {l : List P3} {keep : List Nat} (h : CSt w1 W v l keep) (hb : Below W.heap.size W W') : CSt w1 W' v l keep :=
  ⟨h.own.grown hb, bthen h.below hb, fun k hk => ⟨(h.ne k hk).1, Nat.lt_of_lt_of_le (h.ne k hk).2 hb.size⟩⟩
theorem CSt.app {w1 W W' : World} {v v' : Value} {l l' : List P3} {keep : List Nat} (h : CSt w1 W v l keep) (hv : OwnP W' w1.heap.size v' l') (hg : W.grownBy W' v.ownBlock) (hat : v'.ownBlock = v.ownBlock ∨ v'.ownBlock = some W.heap.size) : CSt w1 W' v' l' keep := by
  refine ⟨hv, h.below.grown hg h.below.size (fun k hk => h.own.base_ k hk), fun k hk => ?_⟩
  obtain ⟨h1, h2⟩ := h.ne k hk
  refine ⟨?_, Nat.lt_of_lt_of_le h2 hg.size⟩
  rcases hat with e | e
  · rw [e]; exact h1
  · rw [e]; intro e'; cases e'; omega
theorem CSt.blk {w1 W W' : World} {v : Value} {l : List P3} {keep : List Nat} (h : CSt w1 W v l keep) (hg : W.grownBy W' v.ownBlock) {k : Nat} (hk : k ∈ keep) {o : Obj} (ho : W.heap[k]? = some o) : W'.heap[k]? = some o :=
  (hg.block k (h.ne k hk).2 (fun e => (h.ne k hk).1 e.symm)).trans ho
theorem CSt.more {w1 W W' : World} {v : Value} {l : List P3} {keep : List Nat} (h : CSt w1 W v l keep) (hb : Below W.heap.size W W') {k : Nat} (hk : W.heap.size ≤ k) (hk2 : k < W'.heap.size) : CSt w1 W' v l (k :: keep) := by
  refine ⟨h.own.grown hb, bthen h.below hb, fun j hj => ?_⟩
  rcases List.mem_cons.1 hj with rfl | hj
  · exact ⟨fun e => by have := h.own.lt _ e; omega, hk2⟩
  · exact ⟨(h.ne j hj).1, Nat.lt_of_lt_of_le (h.ne j hj).2 hb.size⟩
theorem CSt.less {w1 W : World} {v : Value} {l : List P3} {k : Nat} {keep : List Nat} (h : CSt w1 W v l (k :: keep)) : CSt w1 W v l keep := ⟨h.own, h.below, fun j hj => h.ne j (List.mem_cons_of_mem _ hj)⟩
theorem CSt.old {w1 W : World} {v : Value} {l : List P3} {keep : List Nat} (h : CSt w1 W v l keep) {k : Nat} {o : Obj} (ho : w1.heap[k]? = some o) : W.heap[k]? = some o := (h.below.block k (blk_lt ho)).trans ho
theorem CSt.len {w1 W : World} {v : Value} {l l' : List P3} {keep : List Nat} (h : CSt w1 W v l keep) (e : l = l') : CSt w1 W v l' keep := e ▸ h
theorem RdB.blk {w W : World} {A : Option Addr} {l : List P3} (h : RdB w A l) (hs : w.heap.size ≤ W.heap.size) (hk : ∀ ad, A = some ad → l ≠ [] → W.heap[ad.block]? = w.heap[ad.block]?) : RdB W A l := by
  refine ⟨fun i p hp => ?_, fun hne ad e => Nat.lt_of_lt_of_le (h.2 hne ad e) hs⟩
  obtain ⟨b, o, rfl, hlt, h1, h2, h3⟩ := h.1 i p hp
  have hb := hk _ rfl (fun e0 => by rw [e0] at hp; simp at hp)
  have q : ∀ k, W.cell? ⟨b, k, none⟩ = w.cell? ⟨b, k, none⟩ := fun k => World.cell?_of_block (a := ⟨b, k, none⟩) hb
  exact ⟨b, o, rfl, Nat.lt_of_lt_of_le hlt hs, (q _).trans h1, (q _).trans h2, (q _).trans h3⟩
theorem below_none {w w' : World} (h : w.grownBy w' none) : Below w.heap.size w w' := ⟨h.os, h.tape, h.output, h.size, fun k hk => h.block k hk (by simp)⟩
theorem Rd_pair {w : World} {g : Nat} {p q : P3} {t : TypeId} (h : w.heap[g]? = some (.cells #[.int .i64 p.x, .int .i64 p.y, .int .i64 p.z, .int .i64 q.x, .int .i64 q.y, .int .i64 q.z] t (0, 0))) : RdB w (some ⟨g, 0, none⟩) [p, q] :=
  ⟨fun i u hu => by
    match i, hu with
    | 0, hu => simp at hu; subst hu; exact ⟨g, 0, rfl, blk_lt h, (blk_cell h 0).trans rfl, (blk_cell h 1).trans rfl, (blk_cell h 2).trans rfl⟩
    | 1, hu => simp at hu; subst hu; exact ⟨g, 0, rfl, blk_lt h, (blk_cell h 3).trans rfl, (blk_cell h 4).trans rfl, (blk_cell h 5).trans rfl⟩
    | i + 2, hu => simp at hu, fun _ ad e => by cases e; exact blk_lt h⟩
/-- the block of a slice -/
def keepA (A : Option Addr) : List Nat := (A.map (·.block)).toList
theorem CSt.moreA {w1 W W' : World} {v : Value} {l : List P3} (h : CSt w1 W v l []) (hb : Below W.heap.size W W') {A : Option Addr} (hA : ∀ ad, A = some ad → W.heap.size ≤ ad.block) (hA2 : ∀ ad, A = some ad → ad.block < W'.heap.size) : CSt w1 W' v l (keepA A) := by
  cases A with
  | none => exact h.grown hb
  | some ad => exact h.more hb (hA ad rfl) (hA2 ad rfl)
theorem RdB.keep {w1 W W' : World} {v : Value} {l es : List P3} {keep : List Nat} {A : Option Addr} (h : RdB W A es) (S : CSt w1 W v l keep) (hs : ∀ k ∈ keepA A, k ∈ keep) (hg : W.grownBy W' v.ownBlock) : RdB W' A es :=
  h.blk hg.size fun ad e _ => by
    have hk := hs ad.block (by rw [e]; simp [keepA])
    exact hg.block ad.block (S.ne _ hk).2 (fun e' => (S.ne _ hk).1 e'.symm)
def ng3 (n : P3) : P3 := ⟨-n.x, -n.y, -n.z⟩
/-- the candidates of directions as they are -/
def candF (l : List P3) : List P3 := l.flatMap fun x => if long3 x = ⟨0, 0, 0⟩ then [] else [long3 x, ng3 (long3 x)]
theorem candF_no (l : List P3) (k : Nat) (h : k < l.length) (h0 : long3 l[k] = ⟨0, 0, 0⟩) : candF (l.take (k + 1)) = candF (l.take k) := by
  unfold candF; rw [List.take_succ_eq_append_getElem h, List.flatMap_append]; simp [h0]
theorem candF_yes (l : List P3) (k : Nat) (h : k < l.length) (h0 : long3 l[k] ≠ ⟨0, 0, 0⟩) : candF (l.take (k + 1)) = candF (l.take k) ++ [long3 l[k], ng3 (long3 l[k])] := by
  unfold candF; rw [List.take_succ_eq_append_getElem h, List.flatMap_append]; simp [h0]
theorem candF_len (l : List P3) : (candF l).length ≤ 2 * l.length := by
  unfold candF
  induction l with
  | nil => simp
  | cons x l ih =>
    rw [List.flatMap_cons, List.length_append, List.length_cons]
    have : (if long3 x = ⟨0, 0, 0⟩ then [] else [long3 x, ng3 (long3 x)]).length ≤ 2 := by split <;> simp
    omega
theorem flatM_snoc {α β : Type} (f : α → List β) (l : List α) (k : Nat) (h : k < l.length) : (l.take (k + 1)).flatMap f = (l.take k).flatMap f ++ f l[k] := by
  rw [List.take_succ_eq_append_getElem h, List.flatMap_append]; simp
theorem mapM_snoc {α β : Type} (f : α → β) (l : List α) (k : Nat) (h : k < l.length) : (l.take (k + 1)).map f = (l.take k).map f ++ [f l[k]] := by
  rw [List.take_succ_eq_append_getElem h, List.map_append]; rfl
theorem flat_le {α β : Type} (f : α → List β) (n : Nat) : ∀ (l : List α), (∀ x ∈ l, (f x).length ≤ n) → (l.flatMap f).length ≤ l.length * n
  | [], _ => by simp
  | x :: l, h => by
    rw [List.flatMap_cons, List.length_append, List.length_cons, Nat.add_mul]
    have := flat_le f n l fun y hy => h y (by simp [hy])
    have := h x (by simp)
    omega
theorem cross_in {p q : P3} (hp : in3 1048576 p) (hq : in3 1048576 q) : in3 4398046511104 (cross3 p q) := by
  obtain ⟨e, h⟩ := cross3_eq p q 1048576 1048576 hp hq (by decide)
  rw [e]
  exact in3_le (by decide) h
theorem minus_in {p q : P3} (hp : in3 16777216 p) (hq : in3 16777216 q) : in3 4398046511104 (minus3 p q) := by
  rw [minus3_eq p q (in3_le (by decide) hp) (in3_le (by decide) hq)]
  unfold in3 at *
  simp only
  omega
end Go.Proofs.Ytckdhahceelckaa.G
namespace Go.Proofs.Ytckdhahceelckaa.G
open Go.RowKit Go.Proofs.YtckdhahceelckaaW.PrintWords Go.Proofs.YtckdhahceelckaaW.PrintLast Go.Proofs.YtckdhahceelckaaW.PrintMore
attribute [local go_sem] max2_mx min2_mn max_two min_two max_three min_three max_four min_four
attribute [local go_sem high] eqA23
set_option linter.unusedVariables false
set_option linter.unusedSimpArgs false
/-- is it nought? -/
def isz (p : P3) : Bool := eqP p.x p.y p.z 0 0 0
set_option maxHeartbeats 1000000 in
theorem with1_calls (x y z : Int) (w : World) : Calls Try.prog 127 #[.agg #[.int .i64 x, .int .i64 y, .int .i64 z]] w fun e w' => e = .returned (.bool (isz ⟨x, y, z⟩)) ∧ Below w.heap.size w w' := by
  go_enter Try.func127, Try.ntmps127
  go_wp2
  go_ret
  exact ⟨rfl, (Below.refl _ w).alloc (Nat.le_refl _) _⟩
def idx0 (l : List P3) : Int := match l.findIdx? isz with | some k => k | none => -1
theorem idx0_some {l : List P3} {k : Nat} (h : l.findIdx? isz = some k) : idx0 l = k := by unfold idx0; rw [h]
theorem idx0_none {l : List P3} (h : l.findIdx? isz = none) : idx0 l = -1 := by unfold idx0; rw [h]
set_option maxHeartbeats 1000000 in
theorem index0_calls (l : List P3) (A : Option Addr) (c : Nat) (w : World) (hr : Rd w A l) (hc : l.length ≤ c) (hm : l.length < 9223372036854775807) :
    Calls Try.prog 122 #[.slice A l.length c, .func (.func 127) #[] #[]] w fun e w' => e = .returned (.int .i64 (idx0 l)) ∧ Below w.heap.size w w' := by
  have HR := Lh hr
  clear hr
  go_enter Try.func122, Try.ntmps122
  go_wp2
  go_loopw [5, 8] (fun v5 v8 wr => ∃ k : Nat, k ≤ l.length ∧ v8 = .int .i64 k ∧ Hid (∀ i, i < k → ∀ p, l[i]? = some p → isz p = false) ∧ Below w.heap.size w wr) (fun _ i _ => l.length - (intOf i).toNat)
  case atStart => exact ⟨0, Nat.zero_le _, rfl, fun i hi => absurd hi (by omega), Below.refl _ _⟩
  case round =>
    obtain ⟨k, hk, rfl, hno, hbr⟩ := hrel
    by_cases hlt : k < l.length
    · obtain ⟨b, o, rfl, hbl, h1, h2, h3⟩ := HR.out.get k hlt
      have e1 := (hbr.cell (p := ⟨b, o + k * 3, none⟩) hbl).trans h1
      have e2 := (hbr.cell (p := ⟨b, o + k * 3 + 1, none⟩) hbl).trans h2
      have e3 := (hbr.cell (p := ⟨b, o + k * 3 + 2, none⟩) hbl).trans h3
      clear h1 h2 h3
      obtain ⟨p, hp⟩ : ∃ p, l[k] = p := ⟨_, rfl⟩
      rw [hp] at e1 e2 e3
      have HP := Lh hp
      clear hp
      obtain ⟨px, py, pz⟩ := p
      dsimp only at e1 e2 e3
      cases hf : isz ⟨px, py, pz⟩ with
      | true =>
        go_wp2_with (go_at_call 127; refine (with1_calls _ _ _ _).mono ?_; rintro e w3 ⟨rfl, hb3⟩; rw [hf])
        go_ret
        refine ⟨ret_int ?_, bthen hbr hb3⟩
        have : l.findIdx? isz = some k := by
          rw [List.findIdx?_eq_some_iff_getElem]
          refine ⟨hlt, by rw [HP.out]; exact hf, fun j hj => ?_⟩
          rw [hno.out j hj _ (List.getElem?_eq_getElem (by omega))]; simp
        exact (idx0_some this).symm
      | false =>
        go_wp2_with (go_at_call 127; refine (with1_calls _ _ _ _).mono ?_; rintro e w3 ⟨rfl, hb3⟩; rw [hf])
        go_roundw
        case rel =>
          refine ⟨k + 1, by omega, by go_num, fun i hi p' hp' => ?_, bthen hbr hb3⟩
          by_cases e : i = k
          · subst e
            rw [List.getElem?_eq_getElem hlt, HP.out] at hp'
            cases hp'; exact hf
          · exact hno.out i (by omega) p' hp'
        case measure => simp [intOf]; omega
    · obtain rfl : k = l.length := by omega
      go_wp2
      go_ret
      refine ⟨ret_int ?_, hbr⟩
      have : l.findIdx? isz = none := by
        rw [List.findIdx?_eq_none_iff]
        intro p hp
        obtain ⟨i, hi, rfl⟩ := List.mem_iff_getElem.1 hp
        exact hno.out i hi _ (List.getElem?_eq_getElem hi)
      exact (idx0_none this).symm
end Go.Proofs.Ytckdhahceelckaa.G
namespace Go.Proofs.Ytckdhahceelckaa.G
open Go.RowKit Go.Proofs.YtckdhahceelckaaW.PrintWords Go.Proofs.YtckdhahceelckaaW.PrintLast Go.Proofs.YtckdhahceelckaaW.PrintMore
attribute [local go_sem] max2_mx min2_mn max_two min_two max_three min_three max_four min_four
attribute [local go_sem high] eqA23
set_option linter.unusedVariables false
set_option linter.unusedSimpArgs false
theorem scross_calls (x y z a b c : Int) (w : World) :
    Calls Try.prog 78 #[.agg #[.int .i64 x, .int .i64 y, .int .i64 z], .agg #[.int .i64 a, .int .i64 b, .int .i64 c]] w fun e w' => e = .returned (.agg #[.int .i64 (cross3 ⟨x, y, z⟩ ⟨a, b, c⟩).x, .int .i64 (cross3 ⟨x, y, z⟩ ⟨a, b, c⟩).y, .int .i64 (cross3 ⟨x, y, z⟩ ⟨a, b, c⟩).z]) ∧ Below w.heap.size w w' := by
  go_enter Try.func78, Try.ntmps78
  go_wp2
  exact bodyPost_ret (v := .agg #[.int .i64 (cross3 ⟨x, y, z⟩ ⟨a, b, c⟩).x, .int .i64 (cross3 ⟨x, y, z⟩ ⟨a, b, c⟩).y, .int .i64 (cross3 ⟨x, y, z⟩ ⟨a, b, c⟩).z]) (by simp [results, Try.results78, go_sem, cross3]) rfl ⟨rfl, (by repeat (first | exact Below.refl _ _ | refine Below.setCell ?_ (by simp <;> omega) _ | refine Below.alloc ?_ (by simp <;> omega) _ | refine Below.drew ?_))⟩
set_option maxHeartbeats 1000000 in
theorem clip_calls (A : Option Addr) (n c : Nat) (w : World) (hc : n ≤ c) (hm : n < 9223372036854775807) (ha : A = none → n = 0) : Calls Try.prog 128 #[.slice A n c] w fun e w' => e = .returned (.slice A n n) ∧ w' = w := by
  go_enter Try.func128, Try.ntmps128
  go_wp2
  go_ret
  exact ⟨rfl, rfl⟩
end Go.Proofs.Ytckdhahceelckaa.G
namespace Go.Proofs.Ytckdhahceelckaa.G
open Go.RowKit Go.Proofs.YtckdhahceelckaaW.PrintWords Go.Proofs.YtckdhahceelckaaW.PrintLast Go.Proofs.YtckdhahceelckaaW.PrintMore
set_option linter.unusedVariables false
set_option linter.unusedSimpArgs false
theorem cells3_cons (p : P3) (l : List P3) : cells3 (p :: l) = .int .i64 p.x :: .int .i64 p.y :: .int .i64 p.z :: cells3 l := by
  unfold cells3; simp
theorem cells3_set (l : List P3) (i : Nat) (h : i < l.length) (p : P3) : (((cells3 l).set (i * 3) (.int .i64 p.x)).set (i * 3 + 1) (.int .i64 p.y)).set (i * 3 + 2) (.int .i64 p.z) = cells3 (l.set i p) := by
  induction l generalizing i with
  | nil => simp at h
  | cons q l ih =>
    cases i with
    | zero => rw [List.set_cons_zero, cells3_cons, cells3_cons]; simp
    | succ i =>
      rw [List.set_cons_succ, cells3_cons, cells3_cons, ← ih i (by simpa using h)]
      have e0 : (i + 1) * 3 = i * 3 + 3 := by omega
      rw [e0]
      simp
theorem OwnP.setAt {w : World} {base g n c : Nat} {l : List P3} (h : OwnP w base (.slice (some ⟨g, 0, none⟩) n c) l) (i : Nat) (hi : i < l.length) (p : P3) :
    OwnP (((w.setCell ⟨g, i * 3, none⟩ (.int .i64 p.x)).setCell ⟨g, i * 3 + 1, none⟩ (.int .i64 p.y)).setCell ⟨g, i * 3 + 2, none⟩ (.int .i64 p.z)) base (.slice (some ⟨g, 0, none⟩) n c) (l.set i p) := by
  obtain ⟨hx, h2⟩ := h
  rcases h2 with ⟨e, _⟩ | ⟨g', cap, cur, e, hb, hg, hnc, hm, hsz, ht⟩
  · cases e
  · have e2 := e
    injection e2 with e3 e4 e5
    injection e3 with e3
    injection e3 with e3
    subst e3
    subst e5
    have b := blk_set (blk_set (blk_set hg (i * 3) (.int .i64 p.x)) (i * 3 + 1) (.int .i64 p.y)) (i * 3 + 2) (.int .i64 p.z)
    refine ⟨?_, .inr ⟨g, c, _, ?_, hb, b, ?_, hm, by simpa using hsz, ?_⟩⟩
    · show (cells3 (l.set i p)).length = _
      rw [cells3_length, List.length_set]
    · rw [e4, List.length_set]
    · rw [List.length_set]; exact hnc
    · rw [List.length_set]
      simp only [Array.toList_setIfInBounds, List.take_set]
      rw [ht]
      exact cells3_set l i hi p
theorem OwnP.cut {w : World} {base g n c : Nat} {l : List P3} (h : OwnP w base (.slice (some ⟨g, 0, none⟩) n c) l) (i : Nat) (hi : i ≤ l.length) : OwnP w base (.slice (some ⟨g, 0, none⟩) i c) (l.take i) := by
  obtain ⟨hx, h2⟩ := h
  rcases h2 with ⟨e, _⟩ | ⟨g', cap, cur, e, hb, hg, hnc, hm, hsz, ht⟩
  · cases e
  · have e2 := e
    injection e2 with e3 e4 e5
    injection e3 with e3
    injection e3 with e3
    subst e3
    subst e5
    have el : (l.take i).length = i := by rw [List.length_take]; omega
    refine ⟨?_, .inr ⟨g, c, cur, ?_, hb, hg, ?_, hm, hsz, ?_⟩⟩
    · show (cells3 (l.take i)).length = _
      rw [cells3_length]
    · rw [el]
    · rw [el]; omega
    · rw [el]
      have t := congrArg (List.take (i * 3)) ht
      rw [List.take_take, Nat.min_eq_left (by omega)] at t
      rw [t]
      have ca : cells3 l = cells3 (l.take i) ++ cells3 (l.drop i) := by rw [← cells3_append, List.take_append_drop]
      show List.take (i * 3) (cells3 l) = cells3 (l.take i)
      rw [ca, List.take_append_of_le_length (by rw [cells3_length, el]; exact Nat.le_refl _), List.take_of_length_le (by rw [cells3_length, el]; exact Nat.le_refl _)]
end Go.Proofs.Ytckdhahceelckaa.G
namespace Go.Proofs.Ytckdhahceelckaa.G
open Go.RowKit Go.Proofs.YtckdhahceelckaaW.PrintWords Go.Proofs.YtckdhahceelckaaW.PrintLast Go.Proofs.YtckdhahceelckaaW.PrintMore
attribute [local go_sem] max2_mx min2_mn max_two min_two max_three min_three max_four min_four
attribute [local go_sem high] eqA23
set_option linter.unusedVariables false
set_option linter.unusedSimpArgs false
theorem eqSn0 (d n c : Nat) (w : World) : (Op.equalIn (d + 1) 24 (.slice none n c) (.slice none 0 0)).run Try.prog w = .ok true w := by
  simp [Op.equalIn, run_underlying Try.underlying24]
theorem eqSs0 (d n c : Nat) (ad : Addr) (w : World) : (Op.equalIn (d + 1) 24 (.slice (some ad) n c) (.slice none 0 0)).run Try.prog w = .ok false w := by
  simp [Op.equalIn, run_underlying Try.underlying24]
theorem eqE (x y : Value) (w : World) (b : Bool) (hx : binOp .eql 24 x y = (do pure (.bool (← Op.equal 24 x y)))) (h : ∀ d, (Op.equalIn (d + 1) 24 x y).run Try.prog w = .ok b w) : Sem.run Try.prog (binOp .eql 24 x y) w = .ok (.bool b) w := by
  rw [hx, Sem.run_bind]
  unfold Op.equal Op.maxDepth
  rw [h 9999]
  rfl
theorem eqSn (n c : Nat) (w : World) : Sem.run Try.prog (binOp .eql 24 (.slice none n c) (.slice none 0 0)) w = .ok (.bool true) w := eqE _ _ w true rfl fun d => eqSn0 d n c w
theorem eqSs (n c : Nat) (ad : Addr) (w : World) : Sem.run Try.prog (binOp .eql 24 (.slice (some ad) n c) (.slice none 0 0)) w = .ok (.bool false) w := eqE _ _ w false rfl fun d => eqSs0 d n c ad w
/-- a list of points of its own -/
def PtsPostB (l : List P3) (w : World) (e : Ending) (w' : World) : Prop := ∃ A c, e = .returned (.slice A l.length c) ∧ l.length ≤ c ∧ RdB w' A l ∧ Below w.heap.size w w' ∧ (∀ ad, A = some ad → w.heap.size ≤ ad.block)
attribute [local go_sem high] eqSn eqSs
end Go.Proofs.Ytckdhahceelckaa.G
namespace Go.Proofs.Ytckdhahceelckaa.G
open Go.RowKit Go.Proofs.YtckdhahceelckaaW.PrintWords
set_option linter.unusedVariables false
/-- a core has a way of its own, or two points at most -/
def Ways (p a : List P3) : Prop := p.length ≤ 2 ∨ ∃ x ∈ a, long3 x ≠ ⟨0, 0, 0⟩
end Go.Proofs.Ytckdhahceelckaa.G
namespace Go.Proofs.Ytckdhahceelckaa.G
open Go.RowKit Go.Proofs.YtckdhahceelckaaW.PrintWords
set_option linter.unusedVariables false
/-- moved by grains -/
def plusI (y x : P3) : P3 := ⟨x.x + y.x, x.y + y.y, x.z + y.z⟩
theorem plusI_in {y x : P3} (hy : in3 1048576 y) (hx : in3 8388608 x) : in3 16777216 (plusI y x) := by unfold in3 plusI at *; simp only; omega
theorem MayP.moved {p a e : List P3} {r : Int} (m : MayP p a e r) {y : P3} (hy : in3 1048576 y) (hp : ∀ x ∈ p, in3 8388608 x) : MayP (p.map (plusI y)) a e r where
  p0 := by have := m.p0; simpa using this
  p1 := by rw [List.length_map]; exact m.p1
  a1 := m.a1
  e1 := m.e1
  r0 := m.r0
  r1 := m.r1
  pf := by
    rw [List.any_eq_false]
    intro x hx
    obtain ⟨z, hz, rfl⟩ := List.mem_map.1 hx
    rw [(far3_iff _ _ (by decide) (by decide)).2 (plusI_in hy (hp z hz))]
    decide
  af := m.af
  ef := m.ef
end Go.Proofs.Ytckdhahceelckaa.G
namespace Go.Proofs.Ytckdhahceelckaa.G
open Go.RowKit Go.Proofs.YtckdhahceelckaaW.PrintWords Go.Proofs.YtckdhahceelckaaW.PrintLast Go.Proofs.YtckdhahceelckaaW.PrintMore
attribute [local go_sem] max2_mx min2_mn max_two min_two max_three min_three max_four min_four
attribute [local go_sem high] eqA23
set_option linter.unusedVariables false
set_option linter.unusedSimpArgs false
/-- the normal of three points -/
def nrm3 (a b c : P3) : P3 := cross3 (minus3 b a) (minus3 c a)
/-- the least and the greatest along a normal, from nought -/
def sdStep (n a : P3) (s : Int × Int) (p : P3) : Int × Int := (mn s.1 (dot3 n (minus3 p a)), mx s.2 (dot3 n (minus3 p a)))
def sdF (l : List P3) (n a : P3) : Int × Int := l.foldl (sdStep n a) (0, 0)
def sideV (s : Int × Int) : Int := if s.2 ≤ 0 then 1 else if 0 ≤ s.1 then -1 else 0
def sideF (l : List P3) (n a : P3) : Int := sideV (sdF l n a)
end Go.Proofs.Ytckdhahceelckaa.G
namespace Go.Proofs.Ytckdhahceelckaa.G
open Go.RowKit Go.Proofs.YtckdhahceelckaaW.PrintWords Go.Proofs.YtckdhahceelckaaW.PrintLast Go.Proofs.YtckdhahceelckaaW.PrintMore
attribute [local go_sem] max2_mx min2_mn max_two min_two max_three min_three max_four min_four
attribute [local go_sem high] eqA23
set_option linter.unusedVariables false
set_option linter.unusedSimpArgs false
structure Shp where
  kind : Int
  radius : Int
  half : P3
  pts : List P3
def formB (l : List P3) : Bool := decide (4 ≤ l.length) && decide l.Nodup
end Go.Proofs.Ytckdhahceelckaa.G
namespace Go.Proofs.Ytckdhahceelckaa.G
open Go.RowKit Go.Proofs.YtckdhahceelckaaW.PrintWords Go.Proofs.YtckdhahceelckaaW.PrintLast Go.Proofs.YtckdhahceelckaaW.PrintMore
attribute [local go_sem] max2_mx min2_mn max_two min_two max_three min_three max_four min_four
attribute [local go_sem high] eqA23
set_option linter.unusedVariables false
set_option linter.unusedSimpArgs false
/-- point o lies in the plane of m, k, i -/
def ZP (l : List P3) (i k m o : Nat) : Prop := ∀ a b c d, l[i]? = some a → l[k]? = some b → l[m]? = some c → l[o]? = some d → dot3 (nrm3 c b a) (minus3 d c) = 0
def ZM (l : List P3) (i k m : Nat) : Prop := ∀ o, ZP l i k m o
def ZK (l : List P3) (i k : Nat) : Prop := ∀ m, m < k → ZM l i k m
def ZI (l : List P3) (i : Nat) : Prop := ∀ k, k < i → ZK l i k
/-- all points lie in one plane -/
def FlatP (l : List P3) : Prop := ∀ i, ZI l i
/-- what Check says of a hull's points -/
def chkOk (l : List P3) : Prop := formB l = true ∧ ¬ FlatP l
end Go.Proofs.Ytckdhahceelckaa.G
namespace Go.Proofs.Ytckdhahceelckaa.G
open Go.RowKit Go.Proofs.YtckdhahceelckaaW.PrintWords Go.Proofs.YtckdhahceelckaaW.PrintLast Go.Proofs.YtckdhahceelckaaW.PrintMore
attribute [local go_sem] max2_mx min2_mn max_two min_two max_three min_three max_four min_four
attribute [local go_sem high] eqA23
set_option linter.unusedVariables false
set_option linter.unusedSimpArgs false
def tdv3 (p : P3) (n : Int) : P3 := ⟨p.x.tdiv n, p.y.tdiv n, p.z.tdiv n⟩
/-- a direction, turned -/
def wayF (m : M3) (p : P3) : P3 := short3 (tdv3 (turnF m (timesF (dbl3 p) 4096)) 4096)
def waysF (m : M3) (l : List P3) : List P3 := (l.map (wayF m)).filter fun q => decide (q ≠ ⟨0, 0, 0⟩)
theorem waysF_len (m : M3) (l : List P3) : (waysF m l).length ≤ l.length := by
  unfold waysF; exact Nat.le_trans (List.length_filter_le _ _) (by simp)
/-- rows that may be -/
def mOk (m : M3) : Prop := in3 21474836480 m.a ∧ in3 21474836480 m.b ∧ in3 21474836480 m.c
theorem in3_fits {n : Int} {p : P3} (h : in3 n p) (hn : n ≤ 4611686018427387903) : fits3 p := by
  obtain ⟨a, b, c, d, e, f⟩ := h
  unfold fits3 G.fits; omega
theorem dotI_in {p q : P3} {A B : Nat} (hp : in3 A p) (hq : in3 B q) : (dotI p q).natAbs ≤ 3 * (A * B) := dotI_bd p q A B hp hq
theorem turn_ok {m : M3} {v : P3} (h : mOk m) (hv : in3 4294967296 v) : dotOk m.a v ∧ dotOk m.b v ∧ dotOk m.c v ∧ in3 64424509440 (turnF m v) := by
  have q : ∀ r : P3, in3 21474836480 r → dotOk r v ∧ -64424509440 ≤ vdotF r v ∧ vdotF r v ≤ 64424509440 := fun r hr => by
    have := dotI_in (A := 21474836480) (B := 4294967296) hr hv
    refine ⟨⟨in3_fits hr (by decide), in3_fits hv (by decide), by omega⟩, ?_⟩
    unfold vdotF; omega
  obtain ⟨a1, a2, a3⟩ := q m.a h.1
  obtain ⟨b1, b2, b3⟩ := q m.b h.2.1
  obtain ⟨c1, c2, c3⟩ := q m.c h.2.2
  exact ⟨a1, b1, c1, by unfold in3 turnF; simp only; omega⟩
theorem times_in {p : P3} (h : in3 1048576 p) : in3 4294967296 (timesF p 4096) := by unfold in3 timesF at *; simp only; omega
theorem tdv_in {p : P3} (h : in3 64424509440 p) : in3 4398046511104 (tdv3 p 4096) := by
  obtain ⟨a, b, c, d, e, f⟩ := h
  have x := tdiv_le p.x 4096 64424509440 (by omega)
  have y := tdiv_le p.y 4096 64424509440 (by omega)
  have z := tdiv_le p.z 4096 64424509440 (by omega)
  unfold in3 tdv3; simp only; omega
theorem OwnP.lt {w : World} {base : Nat} {v : Value} {l : List P3} (h : OwnP w base v l) (k : Nat) (hk : v.ownBlock = some k) : k < w.heap.size := (World.ownsRow.lt h k hk).2
theorem OwnP.setc {w : World} {base : Nat} {v : Value} {l : List P3} (h : OwnP w base v l) {p : Addr} (hne : ∀ k, v.ownBlock = some k → k < p.block) (u : Value) : OwnP (w.setCell p u) base v l :=
  own_setCell h (fun e => by have := hne _ e.symm; omega) u
end Go.Proofs.Ytckdhahceelckaa.G
namespace Go.Proofs.Ytckdhahceelckaa.G
open Go.RowKit Go.Proofs.YtckdhahceelckaaW.PrintWords Go.Proofs.YtckdhahceelckaaW.PrintLast Go.Proofs.YtckdhahceelckaaW.PrintMore
attribute [local go_sem] max2_mx min2_mn max_two min_two max_three min_three max_four min_four
attribute [local go_sem high] eqA23
set_option linter.unusedVariables false
set_option linter.unusedSimpArgs false
def down3 (v : P3) : P3 := ⟨v.x / 1048576, v.y / 1048576, v.z / 1048576⟩
def placePt (m : M3) (at_ : P3) (p : P3) : P3 := down3 (addI (turnF m (timesF p 1048576)) at_)
theorem Rd.setc {w : World} {A : Option Addr} {l : List P3} (h : Rd w A l) {g : Nat} (hne : ∀ ad, A = some ad → ad.block ≠ g) (j : Nat) (u : Value) : Rd (w.setCell ⟨g, j, none⟩ u) A l := fun i p hp => by
  obtain ⟨b, o, rfl, hlt, h1, h2, h3⟩ := h i p hp
  have hb : b ≠ g := hne _ rfl
  have q : ∀ k, (w.setCell ⟨g, j, none⟩ u).cell? ⟨b, k, none⟩ = w.cell? ⟨b, k, none⟩ := fun k => World.cell?_of_block (a := ⟨b, k, none⟩) (Below.heap_setCell w ⟨g, j, none⟩ u b hb)
  exact ⟨b, o, rfl, by simpa using hlt, (q _).trans h1, (q _).trans h2, (q _).trans h3⟩
theorem RdB.setc {w : World} {A : Option Addr} {l : List P3} (h : RdB w A l) {g : Nat} (hne : ∀ ad, A = some ad → ad.block ≠ g) (j : Nat) (u : Value) : RdB (w.setCell ⟨g, j, none⟩ u) A l :=
  ⟨h.1.setc hne j u, fun hn ad e => by simpa using h.2 hn ad e⟩
theorem RdB.setcE {w : World} {A : Option Addr} {l : List P3} (h : RdB w A l) {g : Nat} (hne : l ≠ [] → ∀ ad, A = some ad → ad.block ≠ g) (j : Nat) (u : Value) : RdB (w.setCell ⟨g, j, none⟩ u) A l := by
  by_cases hl : l = []
  · subst hl
    exact ⟨Rd.nil _ _, fun h => absurd rfl h⟩
  · exact h.setc (hne hl) j u
theorem times_in2 {p : P3} (h : in3 65536 p) : in3 68719476736 (timesF p 1048576) := by unfold in3 timesF at *; simp only; omega
theorem turn_ok2 {m : M3} {v : P3} (h : mOk m) (hv : in3 68719476736 v) : dotOk m.a v ∧ dotOk m.b v ∧ dotOk m.c v ∧ in3 1030792151040 (turnF m v) := by
  have q : ∀ r : P3, in3 21474836480 r → dotOk r v ∧ -1030792151040 ≤ vdotF r v ∧ vdotF r v ≤ 1030792151040 := fun r hr => by
    have := dotI_in (A := 21474836480) (B := 68719476736) hr hv
    refine ⟨⟨in3_fits hr (by decide), in3_fits hv (by decide), by omega⟩, ?_⟩
    unfold vdotF; omega
  obtain ⟨a1, a2, a3⟩ := q m.a h.1
  obtain ⟨b1, b2, b3⟩ := q m.b h.2.1
  obtain ⟨c1, c2, c3⟩ := q m.c h.2.2
  exact ⟨a1, b1, c1, by unfold in3 turnF; simp only; omega⟩
/-- where a pose may be -/
def atOk (p : P3) : Prop := in3 6597069766656 p
theorem add_in {u v : P3} (hu : in3 1030792151040 u) (hv : atOk v) : fits3 u ∧ fits3 v ∧ fits3 (addI u v) ∧ in3 7696581394432 (addI u v) := by
  obtain ⟨a, b, c, d, e, f⟩ := hu
  obtain ⟨a', b', c', d', e', f'⟩ := hv
  refine ⟨⟨?_, ?_, ?_⟩, ⟨?_, ?_, ?_⟩, ⟨?_, ?_, ?_⟩, ?_⟩ <;> (try unfold G.fits) <;> (try unfold in3) <;> (try unfold addI) <;> (try simp only) <;> omega
theorem down_in {v : P3} (h : in3 7696581394432 v) : in3 8388608 (down3 v) := by unfold in3 down3 at *; simp only; omega
theorem blk40 {w : World} {g : Nat} {a b c d : Value} {t : TypeId} (h : w.heap[g]? = some (.cells #[a, b, c, d] t (0, 0))) (u : Value) : (w.setCell ⟨g, 0, none⟩ u).heap[g]? = some (.cells #[u, b, c, d] t (0, 0)) := by
  have h8 := blk_set h 0 u
  simp only [List.setIfInBounds_toArray, List.set_cons_zero, List.set_cons_succ] at h8
  exact h8
/-- the lists of a core lie from b on -/
def Fresh (b : Nat) (v : Value) : Prop := ∃ A0 A1 A2 n0 n1 n2 c0 c1 c2 x, v = .agg #[.slice A0 n0 c0, .slice A1 n1 c1, .slice A2 n2 c2, x] ∧ (∀ ad, A0 = some ad → b ≤ ad.block) ∧ (∀ ad, A1 = some ad → b ≤ ad.block) ∧ (∀ ad, A2 = some ad → b ≤ ad.block)
theorem Fresh.mono {b b' : Nat} {v : Value} (h : Fresh b v) (hb : b' ≤ b) : Fresh b' v := by
  obtain ⟨A0, A1, A2, n0, n1, n2, c0, c1, c2, x, e, h0, h1, h2⟩ := h
  exact ⟨A0, A1, A2, n0, n1, n2, c0, c1, c2, x, e, fun ad h => Nat.le_trans hb (h0 ad h), fun ad h => Nat.le_trans hb (h1 ad h), fun ad h => Nat.le_trans hb (h2 ad h)⟩
end Go.Proofs.Ytckdhahceelckaa.G
namespace Go.Proofs.Ytckdhahceelckaa.G
open Go.RowKit Go.Proofs.YtckdhahceelckaaW.PrintWords Go.Proofs.YtckdhahceelckaaW.PrintLast Go.Proofs.YtckdhahceelckaaW.PrintMore
attribute [local go_sem] max2_mx min2_mn max_two min_two max_three min_three max_four min_four
attribute [local go_sem high] eqA23
set_option linter.unusedVariables false
set_option linter.unusedSimpArgs false
def halfOk (h : P3) : Prop := 1 ≤ h.x ∧ h.x ≤ 65536 ∧ 1 ≤ h.y ∧ h.y ≤ 65536 ∧ 1 ≤ h.z ∧ h.z ≤ 65536
end Go.Proofs.Ytckdhahceelckaa.G
namespace Go.Proofs.Ytckdhahceelckaa.G
open Go.RowKit Go.Proofs.YtckdhahceelckaaW.PrintWords Go.Proofs.YtckdhahceelckaaW.PrintLast Go.Proofs.YtckdhahceelckaaW.PrintMore
attribute [local go_sem] max2_mx min2_mn max_two min_two max_three min_three max_four min_four
attribute [local go_sem high] eqA23
set_option linter.unusedVariables false
set_option linter.unusedSimpArgs false
def corner (h : P3) (k : Nat) : P3 := ⟨(((k / 4 : Nat) : Int) * 2 - 1) * h.x, (((k / 2 % 2 : Nat) : Int) * 2 - 1) * h.y, (((k % 2 : Nat) : Int) * 2 - 1) * h.z⟩
def corners (h : P3) : List P3 := (List.range 8).map (corner h)
theorem sg_in (u : Int) (x : Int) (hu : u = 0 ∨ u = 1) (h1 : 1 ≤ x) (h2 : x ≤ 65536) : -65536 ≤ (u * 2 - 1) * x ∧ (u * 2 - 1) * x ≤ 65536 := by rcases hu with rfl | rfl <;> simp <;> omega
end Go.Proofs.Ytckdhahceelckaa.G
namespace Go.Proofs.Ytckdhahceelckaa.G
open Go.RowKit Go.Proofs.YtckdhahceelckaaW.PrintWords Go.Proofs.YtckdhahceelckaaW.PrintLast Go.Proofs.YtckdhahceelckaaW.PrintMore
attribute [local go_sem] max2_mx min2_mn max_two min_two max_three min_three max_four min_four
attribute [local go_sem high] eqA23
set_option linter.unusedVariables false
set_option linter.unusedSimpArgs false
def axisF (s : Int) (n : P3) : P3 := short3 ⟨s * n.x, s * n.y, s * n.z⟩
/-- an axis of three points -/
def AxAt (l : List P3) (i j k : Nat) (a : P3) : Prop := ∃ pa pb pc, l[i]? = some pa ∧ l[j]? = some pb ∧ l[k]? = some pc ∧ nrm3 pa pb pc ≠ ⟨0, 0, 0⟩ ∧ sideF l (nrm3 pa pb pc) pa ≠ 0 ∧ a = axisF (sideF l (nrm3 pa pb pc) pa) (nrm3 pa pb pc)
def AxP (l : List P3) (a : P3) : Prop := ∃ i j k, i < j ∧ j < k ∧ AxAt l i j k a
def EdAt (l : List P3) (i j : Nat) (e : P3) : Prop := ∃ pa pb, l[i]? = some pa ∧ l[j]? = some pb ∧ e = short3 (minus3 pb pa)
def EdP (l : List P3) (e : P3) : Prop := ∃ i j, i < j ∧ EdAt l i j e
def DoneA (l axes : List P3) (i j k : Nat) : Prop := ∀ i' j' k' a, i' < j' → j' < k' → (i' < i ∨ (i' = i ∧ (j' < j ∨ (j' = j ∧ k' < k)))) → AxAt l i' j' k' a → a ∈ axes
theorem AxAt.lt {l : List P3} {i j k : Nat} {a : P3} (h : AxAt l i j k a) : i < l.length ∧ j < l.length ∧ k < l.length := by
  obtain ⟨pa, pb, pc, h1, h2, h3, _⟩ := h
  exact ⟨(List.getElem?_eq_some_iff.1 h1).1, (List.getElem?_eq_some_iff.1 h2).1, (List.getElem?_eq_some_iff.1 h3).1⟩
theorem DoneA.to {l axes : List P3} {i j k i1 j1 k1 : Nat} (h : DoneA l axes i j k) (hc : ∀ i' j' k', i' < j' → j' < k' → k' < l.length → (i' < i1 ∨ (i' = i1 ∧ (j' < j1 ∨ (j' = j1 ∧ k' < k1)))) → (i' < i ∨ (i' = i ∧ (j' < j ∨ (j' = j ∧ k' < k))))) : DoneA l axes i1 j1 k1 :=
  fun i' j' k' a h1 h2 h3 h4 => h i' j' k' a h1 h2 (hc i' j' k' h1 h2 h4.lt.2.2 h3) h4
theorem DoneA.step {l axes axes' : List P3} {i j k : Nat} (h : DoneA l axes i j k) (hs : ∀ a ∈ axes, a ∈ axes') (hn : ∀ a, AxAt l i j k a → a ∈ axes') : DoneA l axes' i j (k + 1) := fun i' j' k' a h1 h2 h3 h4 => by
  by_cases e : i' = i ∧ j' = j ∧ k' = k
  · obtain ⟨rfl, rfl, rfl⟩ := e; exact hn a h4
  · exact hs a (h i' j' k' a h1 h2 (by omega) h4)
structure HSt (l : List P3) (w wr : World) (v4 v5 : Value) (axes edges : List P3) : Prop where
  o4 : OwnP wr w.heap.size v4 axes
  o5 : OwnP wr w.heap.size v5 edges
  dj : ∀ k, v4.ownBlock = some k → v5.ownBlock = some k → False
  bl : Below w.heap.size w wr
  n4 : axes.Nodup
  a4 : ∀ a ∈ axes, AxP l a
  n5 : edges.Nodup
  a5 : ∀ e ∈ edges, EdP l e
theorem HSt.grown {l w wr wr' v4 v5 axes edges} (h : HSt l w wr v4 v5 axes edges) (hb : Below wr.heap.size wr wr') : HSt l w wr' v4 v5 axes edges :=
  ⟨h.o4.grown hb, h.o5.grown hb, h.dj, bthen h.bl hb, h.n4, h.a4, h.n5, h.a5⟩
theorem OwnP.other {w w' : World} {base : Nat} {v u : Value} {l : List P3} (h : OwnP w base v l) (hg : w.grownBy w' u.ownBlock) (hd : ∀ k, v.ownBlock = some k → u.ownBlock = some k → False) : OwnP w' base v l := by
  refine ⟨h.1, ?_⟩
  rcases h.2 with hn | ⟨g, cap, cur, hv, hb, hgg, rest⟩
  · exact .inl hn
  · refine .inr ⟨g, cap, cur, hv, hb, ?_, rest⟩
    have hlt := (Array.getElem?_eq_some_iff.1 hgg).1
    exact (hg.block g hlt (fun e => hd g (by rw [hv]; rfl) e.symm)).trans hgg
end Go.Proofs.Ytckdhahceelckaa.G
namespace Go.Proofs.Ytckdhahceelckaa.G
open Go.RowKit Go.Proofs.YtckdhahceelckaaW.PrintWords Go.Proofs.YtckdhahceelckaaW.PrintLast Go.Proofs.YtckdhahceelckaaW.PrintMore
attribute [local go_sem] max2_mx min2_mn max_two min_two max_three min_three max_four min_four
attribute [local go_sem high] eqA23
set_option linter.unusedVariables false
set_option linter.unusedSimpArgs false
structure HullOk (l axes edges : List P3) : Prop where
  axn : axes.Nodup
  ax : ∀ a ∈ axes, AxP l a
  edn : edges.Nodup
  ed : ∀ e ∈ edges, EdP l e
  done : DoneA l axes l.length 0 0
end Go.Proofs.Ytckdhahceelckaa.G
namespace Go.Proofs.Ytckdhahceelckaa.G
open Go.RowKit Go.Proofs.YtckdhahceelckaaW.PrintWords Go.Proofs.YtckdhahceelckaaW.PrintLast Go.Proofs.YtckdhahceelckaaW.PrintMore
attribute [local go_sem] max2_mx min2_mn max_two min_two max_three min_three max_four min_four
attribute [local go_sem high] eqA23
set_option linter.unusedVariables false
set_option linter.unusedSimpArgs false
open Classical in
/-- a shape that may be -/
structure ShpOk (s : Shp) : Prop where
  kind : s.kind = 1 ∨ s.kind = 2 ∨ s.kind = 3 ∨ s.kind = 4
  r0 : 1 ≤ s.radius
  r1 : s.radius ≤ 16384
  half : halfOk s.half
  len : s.pts.length ≤ 12
  pts : ∀ p ∈ s.pts, in3 65536 p
  hull : s.kind = 4 → chkOk s.pts
section
variable {ops : Array Oper} {o : Oper} {a : Act} {W : World} {Q : Exit → Act → World → Prop} {K : Act → World → Prop} {N : Option Tmp}
end
end Go.Proofs.Ytckdhahceelckaa.G
namespace Go.Proofs.Ytckdhahceelckaa.G
open Go.RowKit Go.Proofs.YtckdhahceelckaaW.PrintWords Go.Proofs.YtckdhahceelckaaW.PrintLast Go.Proofs.YtckdhahceelckaaW.PrintMore
set_option linter.unusedVariables false
set_option linter.unusedSimpArgs false
theorem sq_le_bd {a n : Int} (hn : 0 ≤ n) (h : a * a < (n + 1) * (n + 1)) : -n ≤ a ∧ a ≤ n := by
  have key : a.natAbs < n.natAbs + 1 := by
    rcases Nat.lt_or_ge a.natAbs (n.natAbs + 1) with h1 | h1
    · exact h1
    · have h2 := Nat.mul_le_mul h1 h1
      have h3 : ((a.natAbs * a.natAbs : Nat) : Int) = a * a := Int.natAbs_mul_self
      have h4 : (((n.natAbs + 1) * (n.natAbs + 1) : Nat) : Int) = (n + 1) * (n + 1) := by
        rw [Int.natCast_mul, Int.natCast_add, Int.natAbs_of_nonneg hn]; rfl
      omega
  omega
theorem unit_one {x L : Int} (hL : 0 < L) (h1 : -L ≤ x) (h2 : x ≤ L) : -4294967296 ≤ x * 4294967296 / L ∧ x * 4294967296 / L ≤ 4294967296 := by
  constructor
  · rw [Int.le_ediv_iff_mul_le hL]; omega
  · have : x * 4294967296 / L < 4294967296 + 1 := by rw [Int.ediv_lt_iff_lt_mul hL]; omega
    omega
def q32 (q : Q4) : Prop := (-4294967296 ≤ q.w ∧ q.w ≤ 4294967296) ∧ (-4294967296 ≤ q.x ∧ q.x ≤ 4294967296) ∧ (-4294967296 ≤ q.y ∧ q.y ≤ 4294967296) ∧ (-4294967296 ≤ q.z ∧ q.z ≤ 4294967296)
theorem unitF_q32 (q : Q4) (h : 0 < lenF q) : q32 (unitF q) := by
  obtain ⟨w, x, y, z⟩ := q
  have hw := sq_nonneg w
  have hx := sq_nonneg x
  have hy := sq_nonneg y
  have hz := sq_nonneg z
  obtain ⟨h0, _, h1⟩ := rtI_spec (v := w * w + x * x + y * y + z * z) (by omega)
  have e : lenF ⟨w, x, y, z⟩ = rtI (w * w + x * x + y * y + z * z) := rfl
  rw [← e] at h0 h1
  have bw := sq_le_bd (a := w) h0 (by omega)
  have bx := sq_le_bd (a := x) h0 (by omega)
  have by_ := sq_le_bd (a := y) h0 (by omega)
  have bz := sq_le_bd (a := z) h0 (by omega)
  exact ⟨unit_one h bw.1 bw.2, unit_one h bx.1 bx.2, unit_one h by_.1 by_.2, unit_one h bz.1 bz.2⟩
theorem wholeF_q32 (q : Q4) : q32 (wholeF q) := by
  unfold wholeF
  split
  · unfold q32; simp
  · exact unitF_q32 q (by omega)
theorem mul32 {a b : Int} (ha : -4294967296 ≤ a ∧ a ≤ 4294967296) (hb : -4294967296 ≤ b ∧ b ≤ 4294967296) : -18446744073709551616 ≤ a * b ∧ a * b ≤ 18446744073709551616 := by
  have h : (a * b).natAbs ≤ 4294967296 * 4294967296 := by rw [Int.natAbs_mul]; exact Nat.mul_le_mul (by omega) (by omega)
  omega
theorem D2_32 {a b c d : Int} (ha : -4294967296 ≤ a ∧ a ≤ 4294967296) (hb : -4294967296 ≤ b ∧ b ≤ 4294967296) (hc : -4294967296 ≤ c ∧ c ≤ 4294967296) (hd : -4294967296 ≤ d ∧ d ≤ 4294967296) :
    -17179869184 ≤ D2 (a + a) (b + b) c d ∧ D2 (a + a) (b + b) c d ≤ 17179869184 := by
  have h1 := mul32 ha hc
  have h2 := mul32 hb hd
  have e : D2 (a + a) (b + b) c d = (2 * (a * c) + 2 * (b * d)) / 4294967296 := by
    unfold D2; congr 1; rw [Int.add_mul, Int.add_mul]; omega
  rw [e]; omega
theorem neg32 {a : Int} (ha : -4294967296 ≤ a ∧ a ≤ 4294967296) : -4294967296 ≤ -a ∧ -a ≤ 4294967296 := by omega
theorem rows_mOk {q : Q4} (h : q32 q) : mOk (rowsF q) := by
  obtain ⟨hw, hx, hy, hz⟩ := h
  have a1 := D2_32 hy hz hy hz
  have a2 := D2_32 hx hw hy (neg32 hz)
  have a3 := D2_32 hx hw hz hy
  have b1 := D2_32 hx hw hy hz
  have b2 := D2_32 hx hz hx hz
  have b3 := D2_32 hy hw hz (neg32 hx)
  have c1 := D2_32 hx hw hz (neg32 hy)
  have c2 := D2_32 hy hw hz hx
  have c3 := D2_32 hx hy hx hy
  refine ⟨⟨?_, ?_, ?_, ?_, ?_, ?_⟩, ⟨?_, ?_, ?_, ?_, ?_, ?_⟩, ⟨?_, ?_, ?_, ?_, ?_, ?_⟩⟩ <;> simp only [rowsF] <;> omega
theorem partV_at (p : P3) : atOk (partV p) := by
  have a := partF_bd p.x 4398046511104 (by decide)
  have b := partF_bd p.y 4398046511104 (by decide)
  have c := partF_bd p.z 4398046511104 (by decide)
  unfold atOk in3 partV; simp only; omega
/-- the core of a shape -/
def CoreIs (s : Shp) (p a e : List P3) : Prop :=
  (s.kind = 1 ∧ p = [⟨0, 0, 0⟩] ∧ a = [] ∧ e = []) ∨ (s.kind = 2 ∧ p = [⟨-s.half.x, 0, 0⟩, ⟨s.half.x, 0, 0⟩] ∧ a = [] ∧ e = [⟨1, 0, 0⟩]) ∨
  (s.kind = 3 ∧ p = corners s.half ∧ a = [⟨1, 0, 0⟩, ⟨0, 1, 0⟩, ⟨0, 0, 1⟩] ∧ e = [⟨1, 0, 0⟩, ⟨0, 1, 0⟩, ⟨0, 0, 1⟩]) ∨ (s.kind = 4 ∧ p = s.pts ∧ HullOk s.pts a e)
end Go.Proofs.Ytckdhahceelckaa.G
namespace Go.Proofs.Ytckdhahceelckaa.G
open Go.RowKit Go.Proofs.YtckdhahceelckaaW.PrintWords Go.Proofs.YtckdhahceelckaaW.PrintLast Go.Proofs.YtckdhahceelckaaW.PrintMore
set_option linter.unusedVariables false
set_option linter.unusedSimpArgs false
theorem fold_bd (n a : P3) (l : List P3) : ∀ (s : Int × Int), (l.foldl (sdStep n a) s).1 ≤ s.1 ∧ s.2 ≤ (l.foldl (sdStep n a) s).2 ∧ ∀ o ∈ l, (l.foldl (sdStep n a) s).1 ≤ dot3 n (minus3 o a) ∧ dot3 n (minus3 o a) ≤ (l.foldl (sdStep n a) s).2 := by
  induction l with
  | nil => intro s; simp
  | cons p l ih =>
    intro s
    obtain ⟨h1, h2, h3⟩ := ih (sdStep n a s p)
    have m1 : (sdStep n a s p).1 ≤ s.1 ∧ (sdStep n a s p).1 ≤ dot3 n (minus3 p a) := by unfold sdStep mn; simp only; split <;> omega
    have m2 : s.2 ≤ (sdStep n a s p).2 ∧ dot3 n (minus3 p a) ≤ (sdStep n a s p).2 := by unfold sdStep mx; simp only; split <;> omega
    simp only [List.foldl_cons]
    refine ⟨by omega, by omega, fun o ho => ?_⟩
    rcases List.mem_cons.1 ho with rfl | ho
    · exact ⟨by omega, by omega⟩
    · exact h3 o ho
theorem side_spec {l : List P3} {n a : P3} (h : sideF l n a ≠ 0) : (sideF l n a = 1 ∨ sideF l n a = -1) ∧ ∀ o ∈ l, sideF l n a * dot3 n (minus3 o a) ≤ 0 := by
  obtain ⟨h1, h2, h3⟩ := fold_bd n a l (0, 0)
  unfold sideF sideV at *
  unfold sdF at *
  split
  · rename_i h4
    exact ⟨.inl rfl, fun o ho => by have := h3 o ho; omega⟩
  · rename_i h4
    rw [if_neg h4] at h
    split
    · exact ⟨.inr rfl, fun o ho => by have := h3 o ho; omega⟩
    · rename_i h5
      rw [if_neg h5] at h
      exact absurd rfl h
theorem sub_in {p q : P3} (hp : in3 65536 p) (hq : in3 65536 q) : minus3 p q = subI p q ∧ in3 (131072 : Nat) (subI p q) := by
  refine ⟨minus3_eq p q (in3_le (by decide) hp) (in3_le (by decide) hq), ?_⟩
  unfold in3 subI at *; simp only; omega
theorem nrm_at {a b c : P3} (ha : in3 65536 a) (hb : in3 65536 b) (hc : in3 65536 c) : nrm3 a b c = crossI (subI b a) (subI c a) ∧ in3 (34359738368 : Nat) (crossI (subI b a) (subI c a)) := by
  obtain ⟨e1, i1⟩ := sub_in hb ha
  obtain ⟨e2, i2⟩ := sub_in hc ha
  have h := cross3_eq _ _ 131072 131072 i1 i2 (by decide)
  unfold nrm3
  rw [e1, e2]
  exact h
theorem dot_in {n : P3} {o a : P3} (hn : in3 (34359738368 : Nat) n) (ho : in3 65536 o) (ha : in3 65536 a) : dot3 n (minus3 o a) = dotI n (subI o a) := by
  obtain ⟨e1, i1⟩ := sub_in ho ha
  rw [e1]
  exact dot3_eq _ _ 34359738368 131072 hn i1 (by decide)
theorem dot_sub (n o a b : P3) (h1 : dotI n (subI o a) = 0) (h2 : dotI n (subI b a) = 0) : dotI n (subI o b) = 0 := by
  unfold dotI subI at *; grind
theorem flat_of {l : List P3} (hin : ∀ p ∈ l, in3 65536 p) {n a : P3} (hn : n ≠ ⟨0, 0, 0⟩) (h : ∀ o ∈ l, dotI n (subI o a) = 0) : FlatP l := by
  intro i k hk m hm o x y z v hx hy hz hv
  have mx_ := List.mem_of_getElem? hx
  have my_ := List.mem_of_getElem? hy
  have mz_ := List.mem_of_getElem? hz
  have mv_ := List.mem_of_getElem? hv
  obtain ⟨e, i1⟩ := nrm_at (hin _ mz_) (hin _ my_) (hin _ mx_)
  rw [e, dot_in i1 (hin _ mv_) (hin _ mz_)]
  exact det_plane n _ _ _ hn (dot_sub n _ a _ (h _ my_) (h _ mz_)) (dot_sub n _ a _ (h _ mx_) (h _ mz_)) (dot_sub n _ a _ (h _ mv_) (h _ mz_))
theorem dot_neg (a b : P3) : dotI a (negI b) = -dotI a b := by unfold dotI negI; grind
theorem cross_neg (a b : P3) : crossI a (negI b) = negI (crossI a b) := by unfold crossI negI; simp only [P3.mk.injEq]; refine ⟨?_, ?_, ?_⟩ <;> grind
theorem dot_of_par {a b v : P3} {x y : Int} (h1 : x * a.x = y * b.x) (h2 : x * a.y = y * b.y) (h3 : x * a.z = y * b.z) : x * dotI a v = y * dotI b v := by unfold dotI; grind
theorem sgn_ne {s : Int} (hs : s = 1 ∨ s = -1) {n : P3} (h : n ≠ ⟨0, 0, 0⟩) : (⟨s * n.x, s * n.y, s * n.z⟩ : P3) ≠ ⟨0, 0, 0⟩ := by
  intro e
  simp only [P3.mk.injEq] at e
  apply h
  obtain ⟨x, y, z⟩ := n
  simp only at e
  simp only [P3.mk.injEq]
  rcases hs with rfl | rfl <;> omega
theorem sgn_in {s : Int} (hs : s = 1 ∨ s = -1) {n : P3} (h : in3 (34359738368 : Nat) n) : in3 4398046511104 (⟨s * n.x, s * n.y, s * n.z⟩ : P3) := by
  unfold in3 at *
  simp only
  rcases hs with rfl | rfl <;> omega
/-- on one side of a line there is one axis -/
theorem ax_one {l : List P3} (hin : ∀ p ∈ l, in3 65536 p) (hf : ¬ FlatP l) {i j k1 k2 : Nat} {pa pb p1 p2 : P3} (ha : l[i]? = some pa) (hb : l[j]? = some pb) (h1 : l[k1]? = some p1) (h2 : l[k2]? = some p2)
    (n1 : nrm3 pa pb p1 ≠ ⟨0, 0, 0⟩) (n2 : nrm3 pa pb p2 ≠ ⟨0, 0, 0⟩) (s1 : sideF l (nrm3 pa pb p1) pa ≠ 0) (s2 : sideF l (nrm3 pa pb p2) pa = sideF l (nrm3 pa pb p1) pa) :
    axisF (sideF l (nrm3 pa pb p1) pa) (nrm3 pa pb p1) = axisF (sideF l (nrm3 pa pb p2) pa) (nrm3 pa pb p2) := by
  have ma := hin _ (List.mem_of_getElem? ha)
  have mb := hin _ (List.mem_of_getElem? hb)
  have m1 := hin _ (List.mem_of_getElem? h1)
  have m2 := hin _ (List.mem_of_getElem? h2)
  obtain ⟨e1, i1⟩ := nrm_at ma mb m1
  obtain ⟨e2, i2⟩ := nrm_at ma mb m2
  obtain ⟨sg, sd1⟩ := side_spec s1
  obtain ⟨_, sd2⟩ := side_spec (show sideF l (nrm3 pa pb p2) pa ≠ 0 by rw [s2]; exact s1)
  rw [s2] at sd2 ⊢
  obtain ⟨s, hs⟩ : ∃ s, sideF l (nrm3 pa pb p1) pa = s := ⟨_, rfl⟩
  rw [hs] at sg sd1 sd2 ⊢
  clear hs s1 s2
  rw [e1] at n1 sd1 ⊢
  rw [e2] at n2 sd2 ⊢
  have d1 : ∀ o ∈ l, s * dotI (crossI (subI pb pa) (subI p1 pa)) (subI o pa) ≤ 0 := fun o ho => by have := sd1 o ho; rwa [dot_in i1 (hin _ ho) ma] at this
  have d2 : ∀ o ∈ l, s * dotI (crossI (subI pb pa) (subI p2 pa)) (subI o pa) ≤ 0 := fun o ho => by have := sd2 o ho; rwa [dot_in i2 (hin _ ho) ma] at this
  have q1 := d1 _ (List.mem_of_getElem? h2)
  have q2 := d2 _ (List.mem_of_getElem? h1)
  have q3 : dotI (crossI (subI pb pa) (subI p1 pa)) (subI p2 pa) = detI (subI pb pa) (subI p1 pa) (subI p2 pa) := rfl
  have q4 : dotI (crossI (subI pb pa) (subI p2 pa)) (subI p1 pa) = -detI (subI pb pa) (subI p1 pa) (subI p2 pa) := det_swap _ _ _
  rw [q3] at q1
  rw [q4] at q2
  have D0 : detI (subI pb pa) (subI p1 pa) (subI p2 pa) = 0 := by rcases sg with rfl | rfl <;> omega
  have cc := cross_cross (subI pb pa) (subI p1 pa) (subI p2 pa)
  rw [D0] at cc
  simp only [Int.zero_mul] at cc
  obtain ⟨N1, hN1⟩ : ∃ N, crossI (subI pb pa) (subI p1 pa) = N := ⟨_, rfl⟩
  obtain ⟨N2, hN2⟩ : ∃ N, crossI (subI pb pa) (subI p2 pa) = N := ⟨_, rfl⟩
  rw [hN1] at n1 d1 cc i1 ⊢
  rw [hN2] at n2 d2 cc i2 ⊢
  have hne := dot_par_ne N1 N2 n1 n2 cc
  rcases Int.lt_trichotomy (dotI N1 N2) 0 with hd | hd | hd
  · exfalso
    obtain ⟨x, y, hx, hy, c1, c2, c3⟩ := par_of_cross N1 (negI N2) n1 (by rw [cross_neg, cc]; rfl) (by rw [dot_neg]; omega)
    refine hf (flat_of hin n1 (fun o ho => ?_) (a := pa))
    have f := dot_of_par (v := subI o pa) c1 c2 c3
    have g : dotI (negI N2) (subI o pa) = -dotI N2 (subI o pa) := by unfold dotI negI; grind
    rw [g] at f
    have r1 := d1 o ho
    have r2 := d2 o ho
    have hz : s * dotI N1 (subI o pa) = 0 := by
      have t : y * (s * dotI N1 (subI o pa)) = x * (-(s * dotI N2 (subI o pa))) := by grind
      have t1 : 0 ≤ x * (-(s * dotI N2 (subI o pa))) := Int.mul_nonneg (Int.le_of_lt hx) (by omega)
      rcases Int.lt_trichotomy (s * dotI N1 (subI o pa)) 0 with h | h | h
      · have := Int.mul_neg_of_pos_of_neg hy h; omega
      · exact h
      · omega
    rcases sg with rfl | rfl <;> omega
  · exact absurd hd hne
  · obtain ⟨x, y, hx, hy, c1, c2, c3⟩ := par_of_cross N1 N2 n1 cc hd
    unfold axisF
    refine (short3_par_eq _ _ (sgn_in sg i2) (sgn_in sg i1) (sgn_ne sg n2) (sgn_ne sg n1) ⟨x, y, hx, hy, ?_, ?_, ?_⟩).symm <;> simp only <;> grind
def AxS (l : List P3) (i j : Nat) (s : Int) (a : P3) : Prop := ∃ (k : Nat) (pa pb pc : P3), l[i]? = some pa ∧ l[j]? = some pb ∧ l[k]? = some pc ∧ nrm3 pa pb pc ≠ ⟨0, 0, 0⟩ ∧ sideF l (nrm3 pa pb pc) pa ≠ 0 ∧ sideF l (nrm3 pa pb pc) pa = s ∧ a = axisF (sideF l (nrm3 pa pb pc) pa) (nrm3 pa pb pc)
theorem AxS.one {l : List P3} (hin : ∀ p ∈ l, in3 65536 p) (hf : ¬ FlatP l) {i j : Nat} {s : Int} {a b : P3} (h : AxS l i j s a) (h' : AxS l i j s b) : a = b := by
  obtain ⟨k, pa, pb, pc, h1, h2, h3, h4, h5, h6, h7⟩ := h
  obtain ⟨k', pa', pb', pc', g1, g2, g3, g4, g5, g6, g7⟩ := h'
  rw [h1] at g1; rw [h2] at g2
  cases g1; cases g2
  rw [h7, g7]
  exact ax_one hin hf h1 h2 h3 g3 h4 g4 h5 (by rw [g6, h6])
open Classical in
noncomputable def axPick (l : List P3) (i j : Nat) (s : Int) : P3 := if h : ∃ a, AxS l i j s a then Classical.choose h else ⟨0, 0, 0⟩
theorem axPick_eq {l : List P3} (hin : ∀ p ∈ l, in3 65536 p) (hf : ¬ FlatP l) {i j : Nat} {s : Int} {a : P3} (h : AxS l i j s a) : axPick l i j s = a := by
  have e : ∃ a, AxS l i j s a := ⟨a, h⟩
  unfold axPick
  rw [dif_pos e]
  exact AxS.one hin hf (Classical.choose_spec e) h
noncomputable def axAll (l : List P3) : List P3 := (List.range 11).flatMap fun j => (List.range j).flatMap fun i => [axPick l i j 1, axPick l i j (-1)]
theorem flat_len {α β : Type} (f : α → List β) (n : Nat) : ∀ (l : List α), (∀ x ∈ l, (f x).length = n) → (l.flatMap f).length = l.length * n
  | [], _ => by simp
  | x :: l, h => by
    rw [List.flatMap_cons, List.length_append, h x (by simp), flat_len f n l (fun y hy => h y (by simp [hy])), List.length_cons, Nat.add_mul]; omega
theorem axAll_len (l : List P3) : (axAll l).length = 110 := by
  have e : ∀ j, ((List.range j).flatMap fun i => [axPick l i j 1, axPick l i j (-1)]).length = j * 2 := fun j => by rw [flat_len _ 2 _ (fun _ _ => rfl), List.length_range]
  unfold axAll
  rw [List.length_flatMap]
  simp only [e]
  decide
theorem ax_len {l axes : List P3} (hin : ∀ p ∈ l, in3 65536 p) (hf : ¬ FlatP l) (hl : l.length ≤ 12) (hn : axes.Nodup) (h : ∀ a ∈ axes, AxP l a) : axes.length ≤ 110 := by
  rw [← axAll_len l]
  refine nodup_sub_length _ _ hn (fun a ha => ?_)
  obtain ⟨i, j, k, hij, hjk, hat⟩ := h a ha
  have hk := hat.lt.2.2
  obtain ⟨pa, pb, pc, h1, h2, h3, h4, h5, h6⟩ := hat
  have sg := (side_spec h5).1
  have e := axPick_eq hin hf (show AxS l i j (sideF l (nrm3 pa pb pc) pa) a from ⟨k, pa, pb, pc, h1, h2, h3, h4, h5, rfl, h6⟩)
  unfold axAll
  simp only [List.mem_flatMap, List.mem_range]
  refine ⟨j, by omega, i, hij, ?_⟩
  rcases sg with sg | sg <;> rw [sg] at e <;> rw [e] <;> simp
def edAll (l : List P3) : List P3 := (List.range 12).flatMap fun j => (List.range j).map fun i => short3 (minus3 (l.getD j ⟨0, 0, 0⟩) (l.getD i ⟨0, 0, 0⟩))
theorem edAll_len (l : List P3) : (edAll l).length = 66 := by
  unfold edAll
  rw [List.length_flatMap]
  simp only [List.length_map, List.length_range]
  decide
theorem ed_len {l edges : List P3} (hl : l.length ≤ 12) (hn : edges.Nodup) (h : ∀ a ∈ edges, EdP l a) : edges.length ≤ 66 := by
  rw [← edAll_len l]
  refine nodup_sub_length _ _ hn (fun a ha => ?_)
  obtain ⟨i, j, hij, pa, pb, h1, h2, e⟩ := h a ha
  have hj := (List.getElem?_eq_some_iff.1 h2).1
  unfold edAll
  simp only [List.mem_flatMap, List.mem_range, List.mem_map]
  refine ⟨j, by omega, i, hij, ?_⟩
  rw [e, List.getD_eq_getElem?_getD, List.getD_eq_getElem?_getD, h1, h2]; rfl
/-- what a core of a right shape may hold -/
structure CoreB (p a e : List P3) : Prop where
  p0 : 0 < p.length
  p1 : p.length ≤ 12
  a1 : a.length ≤ 110
  e1 : e.length ≤ 66
  pin : ∀ x ∈ p, in3 65536 x
  ain : ∀ x ∈ a, in3 1048576 x
  ein : ∀ x ∈ e, in3 1048576 x
theorem corner_in {h : P3} (hh : halfOk h) {x : P3} (hx : x ∈ corners h) : in3 65536 x := by
  unfold corners at hx
  obtain ⟨k, hk, rfl⟩ := List.mem_map.1 hx
  have hk8 := List.mem_range.1 hk
  obtain ⟨h1, h2, h3, h4, h5, h6⟩ := hh
  have a := sg_in ((k / 4 : Nat) : Int) h.x (by omega) h1 h2
  have b := sg_in ((k / 2 % 2 : Nat) : Int) h.y (by omega) h3 h4
  have c := sg_in ((k % 2 : Nat) : Int) h.z (by omega) h5 h6
  exact ⟨a.1, a.2, b.1, b.2, c.1, c.2⟩
theorem CoreIs.bounds {s : Shp} (hs : ShpOk s) {p a e : List P3} (h : CoreIs s p a e) : CoreB p a e := by
  have hh := hs.half
  have one : ∀ x ∈ [(⟨1, 0, 0⟩ : P3), ⟨0, 1, 0⟩, ⟨0, 0, 1⟩], in3 1048576 x := by
    intro x hx
    simp only [List.mem_cons, List.not_mem_nil, or_false] at hx
    rcases hx with rfl | rfl | rfl <;> unfold in3 <;> decide
  rcases h with ⟨_, rfl, rfl, rfl⟩ | ⟨_, rfl, rfl, rfl⟩ | ⟨_, rfl, rfl, rfl⟩ | ⟨hk, rfl, ho⟩
  · exact ⟨by simp, by simp, by simp, by simp, by intro x hx; simp only [List.mem_cons, List.not_mem_nil, or_false] at hx; subst hx; unfold in3; decide, by simp, by simp⟩
  · obtain ⟨h1, h2, _⟩ := hh
    refine ⟨by simp, by simp, by simp, by simp, ?_, by simp, ?_⟩
    · intro x hx
      simp only [List.mem_cons, List.not_mem_nil, or_false] at hx
      rcases hx with rfl | rfl <;> unfold in3 <;> simp only <;> omega
    · intro x hx; simp only [List.mem_cons, List.not_mem_nil, or_false] at hx; subst hx; unfold in3; decide
  · exact ⟨by simp [corners], by simp [corners], by simp, by simp, fun x hx => corner_in hh hx, one, one⟩
  · have hc := hs.hull hk
    have hlen : 0 < s.pts.length := by
      rcases Nat.eq_zero_or_pos s.pts.length with h0 | h0
      · refine absurd ?_ hc.2
        intro i k hk m hm o x y z v hx
        rw [List.getElem?_eq_none (by omega)] at hx; cases hx
      · exact h0
    refine ⟨hlen, hs.len, ax_len hs.pts hc.2 hs.len ho.axn ho.ax, ed_len hs.len ho.edn ho.ed, hs.pts, fun x hx => ?_, fun x hx => ?_⟩
    · obtain ⟨i, j, k, _, _, pa, pb, pc, _, _, _, _, _, e⟩ := ho.ax x hx
      rw [e]; exact short3_in _
    · obtain ⟨i, j, _, pa, pb, _, _, e⟩ := ho.ed x hx
      rw [e]; exact short3_in _
end Go.Proofs.Ytckdhahceelckaa.G
namespace Go.Proofs.Ytckdhahceelckaa.G
open Go.RowKit Go.Proofs.YtckdhahceelckaaW.PrintWords Go.Proofs.YtckdhahceelckaaW.PrintLast Go.Proofs.YtckdhahceelckaaW.PrintMore
attribute [local go_sem] max2_mx min2_mn max_two min_two max_three min_three max_four min_four
attribute [local go_sem high] eqA23
set_option linter.unusedVariables false
set_option linter.unusedSimpArgs false
theorem RdB.setS {w : World} {A : Option Addr} {l : List P3} (h : RdB w A l) {g : Nat} {A0 A1 A2 : Option Addr} {n0 n1 n2 m0 m1 m2 : Nat} {x : Value} {t : TypeId} (hg : w.heap[g]? = some (.cells #[.slice A0 n0 m0, .slice A1 n1 m1, .slice A2 n2 m2, x] t (0, 0))) (u0 u1 u2 u3 : Value) :
    RdB ((((w.setCell ⟨g, 0, none⟩ u0).setCell ⟨g, 1, none⟩ u1).setCell ⟨g, 2, none⟩ u2).setCell ⟨g, 3, none⟩ u3) A l := by
  cases l with
  | nil => exact ⟨Rd.nil _ _, fun h => absurd rfl h⟩
  | cons p l =>
    have ne : ∀ ad, A = some ad → ad.block ≠ g := by
      intro ad e hb
      obtain ⟨b, o, e', _, e0, e1, e2⟩ := h.1 0 p rfl
      rw [e'] at e
      cases e
      simp only at hb
      subst hb
      have q0 := (blk_cell hg (o + 0 * 3)).symm.trans e0
      have q1 := (blk_cell hg (o + 0 * 3 + 1)).symm.trans e1
      match o with
      | 0 => simp at q0
      | 1 => simp at q0
      | 2 => simp at q0
      | 3 => simp at q1
      | o + 4 => simp at q1
    exact (((h.setc ne 0 u0).setc ne 1 u1).setc ne 2 u2).setc ne 3 u3
/-- a core whose lists lie from b on -/
structure CoreVF (b : Nat) (w : World) (v : Value) (p a e : List P3) (r : Int) : Prop where
  c : CoreV w v p a e r
  fr : Fresh b v
theorem CoreVF.below {b : Nat} {w w1 : World} {v : Value} {p a e : List P3} {r : Int} (h : CoreVF b w v p a e r) (hb : Below w.heap.size w w1) : CoreVF b w1 v p a e r := ⟨h.c.below hb, h.fr⟩
end Go.Proofs.Ytckdhahceelckaa.G
namespace Go.Proofs.Ytckdhahceelckaa.G
open Go.RowKit Go.Proofs.YtckdhahceelckaaW.PrintWords Go.Proofs.YtckdhahceelckaaW.PrintLast Go.Proofs.YtckdhahceelckaaW.PrintMore
attribute [local go_sem] max2_mx min2_mn max_two min_two max_three min_three max_four min_four
attribute [local go_sem high] eqA23
set_option linter.unusedVariables false
set_option linter.unusedSimpArgs false
theorem gb_below {w w1 w2 : World} {k : Option Nat} (h : w.grownBy w1 k) (b : Below w1.heap.size w1 w2) : w.grownBy w2 k :=
  ⟨b.os.trans h.os, b.tape.trans h.tape, b.output.trans h.output, Nat.le_trans h.size b.size, fun j hj hk => (b.block j (Nat.lt_of_lt_of_le hj h.size)).trans (h.block j hj hk)⟩
theorem gb_set {w w1 : World} {g : Nat} (h : w.grownBy w1 (some g)) (j : Nat) (u : Value) : w.grownBy (w1.setCell ⟨g, j, none⟩ u) (some g) :=
  ⟨h.os, h.tape, h.output, by simpa using h.size, fun i hi hk => (Below.heap_setCell w1 ⟨g, j, none⟩ u i (fun e => hk (by simp at e; rw [e]))).trans (h.block i hi hk)⟩
theorem gb_refl (w : World) (k : Option Nat) : w.grownBy w k := ⟨rfl, rfl, rfl, Nat.le_refl _, fun _ _ _ => rfl⟩
theorem RdB.gb {w w1 : World} {A : Option Addr} {l : List P3} {g : Nat} (h : RdB w A l) (k : w.grownBy w1 (some g)) (hne : l ≠ [] → ∀ ad, A = some ad → ad.block ≠ g) : RdB w1 A l :=
  h.blk k.size fun ad e hn => k.block ad.block (h.2 hn ad e) (fun e' => hne hn ad e (by cases e'; rfl))
theorem below_gb {w w1 w2 : World} {g b : Nat} (h : Below b w w1) (k : w1.grownBy w2 (some g)) (hg : b ≤ g) (hb : b ≤ w1.heap.size) : Below b w w2 :=
  ⟨k.os.trans h.os, k.tape.trans h.tape, k.output.trans h.output, Nat.le_trans h.size k.size, fun j hj => (k.block j (Nat.lt_of_lt_of_le hj hb) (fun e => by cases e; omega)).trans (h.block j hj)⟩
end Go.Proofs.Ytckdhahceelckaa.G
namespace Go.Proofs.Ytckdhahceelckaa.G
open Go.RowKit Go.Proofs.YtckdhahceelckaaW.PrintWords Go.Proofs.YtckdhahceelckaaW.PrintLast Go.Proofs.YtckdhahceelckaaW.PrintMore
set_option linter.unusedVariables false
set_option linter.unusedSimpArgs false
theorem OwnP.setAbove {w : World} {base g n c : Nat} {l : List P3} (h : OwnP w base (.slice (some ⟨g, 0, none⟩) n c) l) (o : Nat) (ho : l.length * 3 ≤ o) (u : Value) : OwnP (w.setCell ⟨g, o, none⟩ u) base (.slice (some ⟨g, 0, none⟩) n c) l := by
  obtain ⟨hx, h2⟩ := h
  rcases h2 with ⟨e, _⟩ | ⟨g', cap, cur, e, hb, hg, hnc, hm, hsz, ht⟩
  · cases e
  · have e2 := e
    injection e2 with e3 e4 e5
    injection e3 with e3
    injection e3 with e3
    subst e3
    refine ⟨hx, .inr ⟨g, cap, _, e, hb, blk_set hg o u, hnc, hm, by simpa using hsz, ?_⟩⟩
    simp only [Array.toList_setIfInBounds]
    rw [List.take_set_of_le ho]
    exact ht
theorem OwnP.setsAbove {base g n c : Nat} {l : List P3} (vs : List Value) : ∀ (w : World) (o : Nat), l.length * 3 ≤ o → OwnP w base (.slice (some ⟨g, 0, none⟩) n c) l → OwnP (w.setCells g o vs) base (.slice (some ⟨g, 0, none⟩) n c) l ∧ w.grownBy (w.setCells g o vs) (some g) := by
  induction vs with
  | nil => intro w o _ h; exact ⟨h, gb_refl _ _⟩
  | cons v r ih =>
    intro w o ho h
    obtain ⟨h1, h2⟩ := ih (w.setCell ⟨g, o, none⟩ v) (o + 1) (by omega) (h.setAbove o ho v)
    refine ⟨h1, ?_⟩
    have g1 := gb_set (gb_refl w (some g)) o v
    exact ⟨h2.os.trans g1.os, h2.tape.trans g1.tape, h2.output.trans g1.output, Nat.le_trans g1.size h2.size, fun j hj hk => (h2.block j (Nat.lt_of_lt_of_le hj g1.size) hk).trans (g1.block j hj hk)⟩
theorem zero23 (w : World) : (zeroValue 23).run Try.prog w = .ok (.agg #[.int .i64 0, .int .i64 0, .int .i64 0]) w := by
  go_simp
theorem run_clear_pts (w : World) (base g n c i cc : Nat) (ty : TypeId) (l : List P3) (h : OwnP w base (.slice (some ⟨g, 0, none⟩) n c) l) (hi : i < n) :
    ∃ w', (Builtin.clear_ #[24] ty #[.slice (some ⟨g, i * 3, none⟩) (n - i) cc]).run Try.prog w = .ok (.tuple #[]) w' ∧ OwnP w' base (.slice (some ⟨g, 0, none⟩) i c) (l.take i) ∧ w.grownBy w' (some g) := by
  have hc := h
  obtain ⟨hx, h2⟩ := h
  rcases h2 with ⟨e, _⟩ | ⟨g', cap, cur, e, hb, hg, hnc, hm, hsz, ht⟩
  · cases e
  · have e2 := e
    injection e2 with e3 e4 e5
    injection e3 with e3
    injection e3 with e3
    subst e3
    have hcut := hc.cut i (by omega)
    have el : (l.take i).length = i := by rw [List.length_take]; omega
    obtain ⟨zs, hzs⟩ : ∃ zs, (Builtin.zeroCells #[.int .i64 0, .int .i64 0, .int .i64 0] (n - i)).toList = zs := ⟨_, rfl⟩
    have zl : zs.length = (n - i) * 3 := by rw [← hzs]; simp [Builtin.zeroCells]
    have z1 : ∀ v ∈ zs, v.oneCell' = true := by
      intro v hv
      rw [← hzs] at hv
      simp only [Builtin.zeroCells, Array.toList_map, List.mem_map] at hv
      obtain ⟨k, _, rfl⟩ := hv
      have : k % 3 = 0 ∨ k % 3 = 1 ∨ k % 3 = 2 := by omega
      show (#[Value.int .i64 0, Value.int .i64 0, Value.int .i64 0][k % 3]!).oneCell' = true
      rcases this with h | h | h <;> rw [h] <;> rfl
    have hst := run_storeCells_cells (P := Try.prog) g (i * 3) zs 0 w (fun j hj => by
      rw [blk_cell hg]
      have : i * 3 + j < cur.size := by
        have := Nat.mul_le_mul_right 3 hnc
        rw [zl] at hj
        omega
      simp [this]) (fun j hj => blk_frozen hg _) z1
    simp only [Nat.add_zero] at hst
    obtain ⟨o1, o2⟩ := OwnP.setsAbove zs w (i * 3) (by rw [el]; exact Nat.le_refl _) hcut
    refine ⟨w.setCells g (i * 3) zs, ?_, o1, o2⟩
    obtain ⟨m, hm'⟩ : ∃ m, n - i = m + 1 := ⟨n - i - 1, by omega⟩
    rw [hm'] at hzs ⊢
    have hcz : (Value.agg #[.int .i64 0, .int .i64 0, .int .i64 0]).cells = #[.int .i64 0, .int .i64 0, .int .i64 0] := by simp [Value.cells]
    simp [Builtin.clear_, run_underlying Try.underlying24, zero23, hcz, hzs, hst]
end Go.Proofs.Ytckdhahceelckaa.G
namespace Go.Proofs.Ytckdhahceelckaa.G
open Go.RowKit Go.Proofs.YtckdhahceelckaaW.PrintWords Go.Proofs.YtckdhahceelckaaW.PrintLast Go.Proofs.YtckdhahceelckaaW.PrintMore
attribute [local go_sem] max2_mx min2_mn max_two min_two max_three min_three max_four min_four
attribute [local go_sem high] eqA23
set_option linter.unusedVariables false
set_option linter.unusedSimpArgs false
theorem gb_trans {w w1 w2 : World} {k : Option Nat} (h : w.grownBy w1 k) (h2 : w1.grownBy w2 k) : w.grownBy w2 k :=
  ⟨h2.os.trans h.os, h2.tape.trans h.tape, h2.output.trans h.output, Nat.le_trans h.size h2.size, fun j hj hk => (h2.block j (Nat.lt_of_lt_of_le hj h.size) hk).trans (h.block j hj hk)⟩
def nz (p : P3) : Bool := !isz p
theorem filter_keep (l lst : List P3) (i j : Nat) (hj : j < l.length) (hij : i < j) (hlen : lst.length = l.length) (ht : lst.take i = (l.take j).filter nz) (hd : lst.drop j = l.drop j) (h : isz l[j] = false) :
    (lst.set i l[j]).take (i + 1) = (l.take (j + 1)).filter nz ∧ (lst.set i l[j]).drop (j + 1) = l.drop (j + 1) := by
  constructor
  · rw [List.take_succ_eq_append_getElem hj, List.filter_append, ← ht, List.take_succ_eq_append_getElem (by rw [List.length_set]; omega), List.getElem_set_self, List.take_set_of_le (Nat.le_refl _)]
    simp [nz, h]
  · rw [List.drop_set_of_lt (by omega)]
    have := congrArg (List.drop 1) hd
    rwa [List.drop_drop, List.drop_drop] at this
theorem filter_drop (l lst : List P3) (i j : Nat) (hj : j < l.length) (ht : lst.take i = (l.take j).filter nz) (hd : lst.drop j = l.drop j) (h : isz l[j] = true) :
    lst.take i = (l.take (j + 1)).filter nz ∧ lst.drop (j + 1) = l.drop (j + 1) := by
  constructor
  · rw [List.take_succ_eq_append_getElem hj, List.filter_append, ← ht]; simp [nz, h]
  · have := congrArg (List.drop 1) hd
    rwa [List.drop_drop, List.drop_drop] at this
theorem OwnP.fz {w : World} {base g n c : Nat} {l : List P3} (h : OwnP w base (.slice (some ⟨g, 0, none⟩) n c) l) : (∀ o, w.frozen? ⟨g, o, none⟩ = false) ∧ g < w.heap.size ∧ base ≤ g ∧ n = l.length ∧ n ≤ c ∧ c ≤ maxLen := by
  obtain ⟨hx, h2⟩ := h
  rcases h2 with ⟨e, _⟩ | ⟨g', cap, cur, e, hb, hg, hnc, hm, hsz, ht⟩
  · cases e
  · have e2 := e
    injection e2 with e3 e4 e5
    injection e3 with e3
    injection e3 with e3
    subst e3
    exact ⟨fun o => blk_frozen hg o, blk_lt hg, hb, e4, by omega, by omega⟩
theorem OwnP.at3 {w : World} {base g n c : Nat} {l : List P3} (h : OwnP w base (.slice (some ⟨g, 0, none⟩) n c) l) (i : Nat) (hi : i < l.length) : w.cell? ⟨g, i * 3, none⟩ = some (.int .i64 l[i].x) ∧ w.cell? ⟨g, i * 3 + 1, none⟩ = some (.int .i64 l[i].y) ∧ w.cell? ⟨g, i * 3 + 2, none⟩ = some (.int .i64 l[i].z) := by
  obtain ⟨A', c', eA, _, hr, _⟩ := OwnP.rd h
  injection eA with eA1 eA2 eA3
  subst eA1
  obtain ⟨b, o, eb, hbl, h1, h2, h3⟩ := hr.get i hi
  simp only [Option.some.injEq, Addr.mk.injEq, and_true] at eb
  obtain ⟨rfl, rfl⟩ := eb
  simp only [Nat.zero_add] at h1 h2 h3
  exact ⟨h1, h2, h3⟩
def DelPost (g c base : Nat) (l : List P3) (w : World) (e : Ending) (w' : World) : Prop := ∃ m, e = .returned (.slice (some ⟨g, 0, none⟩) m c) ∧ OwnP w' base (.slice (some ⟨g, 0, none⟩) m c) (l.filter nz) ∧ w.grownBy w' (some g)
set_option maxHeartbeats 2000000 in
set_option maxRecDepth 100000 in
theorem delete_calls (l : List P3) (g n c base : Nat) (w : World) (h : OwnP w base (.slice (some ⟨g, 0, none⟩) n c) l) (hl : n ≤ 40000) :
    Calls Try.prog 126 #[.slice (some ⟨g, 0, none⟩) n c, .func (.func 127) #[] #[]] w (DelPost g c base l w) := by
  obtain ⟨_, hgl, hbg, hn, hnc, hcm⟩ := h.fz
  have HI := Lh (index0_calls l (some ⟨g, 0, none⟩) c w (by
    obtain ⟨A, c', e, _, hr, _⟩ := OwnP.rd h
    injection e with e1 _ _
    rw [e1]; exact hr) (by omega) (by omega))
  have HO := Lh h
  rw [← hn] at HI
  have HN := Lh hn
  clear h hn
  go_enter Try.func126, Try.ntmps126
  go_wp2_with fail
  with_reducible refine HI.out.mono ?_
  rintro e w1 ⟨rfl, hb⟩
  have hO1 := HO.out.grown hb
  have hG1 := gb_below (gb_refl w (some g)) hb
  cases hf : l.findIdx? isz with
  | none =>
    rw [idx0_none hf]
    have hfil : l.filter nz = l := by
      rw [List.filter_eq_self]
      intro p hp
      rw [List.findIdx?_eq_none_iff] at hf
      unfold nz; rw [hf p hp]; rfl
    clear HI hb
    go_wp2
    go_ret
    exact ⟨n, rfl, by rw [hfil]; exact hO1, hG1⟩
  | some k =>
    rw [idx0_some hf]
    rw [List.findIdx?_eq_some_iff_getElem] at hf
    obtain ⟨hk, hz, hno⟩ := hf
    have hst : l.take k = (l.take (k + 1)).filter nz := by
      rw [List.take_succ_eq_append_getElem hk, List.filter_append]
      have : (l.take k).filter nz = l.take k := by
        rw [List.filter_eq_self]
        intro p hp
        obtain ⟨i, hi, rfl⟩ := List.mem_iff_getElem.1 hp
        rw [List.length_take] at hi
        rw [List.getElem_take]
        have := hno i (by omega)
        unfold nz
        cases e : isz l[i]
        · rfl
        · rw [e] at this; simp at this
      rw [this]; simp [nz, hz]
    have hO1 := Lh hO1
    have hG1 := Lh hG1
    have hst := Lh hst
    have hkn : k < n := by have := HN.out; omega
    have e1 : ((k : Int) == -1) = false := by simp
    clear HI hb hz hno
    go_wp2_with fail
    go_loopw [5, 6] (fun v5 v6 wr => ∃ (i j : Nat) (lst : List P3), v5 = .int .i64 i ∧ v6 = .int .i64 j ∧ j ≤ n ∧ i < j ∧ lst.length = n ∧ Hid (lst.take i = (l.take j).filter nz) ∧ Hid (lst.drop j = l.drop j) ∧ Hid (OwnP wr base (.slice (some ⟨g, 0, none⟩) n c) lst) ∧ Hid (w.grownBy wr (some g))) (fun _ j _ => n - (intOf j).toNat)
    case atStart => exact ⟨k, k + 1, l, rfl, rfl, Nat.succ_le_of_lt hkn, Nat.lt_succ_self k, HN.out.symm, hst, Lh rfl, hO1, hG1⟩
    case round =>
      clear hO1 hG1 hst
      obtain ⟨i, j, lst, rfl, rfl, hj, hij, hlen, hT, hD, hO, hG⟩ := hrel
      by_cases hlt : j < n
      · have hjl : j < lst.length := by omega
        have hjl0 : j < l.length := by rw [← HN.out]; exact hlt
        have hel : lst[j] = l[j] := by
          have := congrArg (fun t => t[0]?) hD.out
          simpa [List.getElem?_drop, hjl, hjl0] using this
        obtain ⟨A', c', eA, _, hr, _⟩ := OwnP.rd hO.out
        injection eA with eA1 eA2 eA3
        subst eA1
        obtain ⟨b, o, eb, hbl, h1, h2, h3⟩ := hr.get j hjl
        simp only [Option.some.injEq, Addr.mk.injEq, and_true] at eb
        obtain ⟨rfl, rfl⟩ := eb
        rw [hel] at h1 h2 h3
        have HK := Lh (fun (h : isz l[j] = false) => filter_keep l lst i j hjl0 hij (by rw [hlen, HN.out]) hT.out hD.out h)
        have HDR := Lh (fun (h : isz l[j] = true) => filter_drop l lst i j hjl0 hT.out hD.out h)
        have HFZ := Lh hO.out.fz
        obtain ⟨p, hp⟩ : ∃ p, l[j] = p := ⟨_, rfl⟩
        rw [hp] at h1 h2 h3 HK HDR
        obtain ⟨px, py, pz⟩ := p
        simp only [Nat.zero_add] at h1 h2 h3
        clear hel eA2 eA3 hr hp
        cases hf : isz ⟨px, py, pz⟩ with
        | true =>
          obtain ⟨hT2, hD2⟩ := HDR.out hf
          have hT2 := Lh hT2
          have hD2 := Lh hD2
          clear HK HDR
          go_wp2_with (go_at_call 127; refine (with1_calls _ _ _ _).mono ?_; rintro e w3 ⟨rfl, hb3⟩; rw [hf])
          go_roundw
          case rel => exact ⟨i, j + 1, lst, rfl, by go_num, by omega, by omega, hlen, hT2, hD2, Lh (hO.out.grown (bthen ((Below.refl _ wr).alloc (Nat.le_refl _) _) hb3)), Lh (gb_below hG.out (bthen ((Below.refl _ wr).alloc (Nat.le_refl _) _) hb3))⟩
          case measure => simp [intOf]; omega
        | false =>
          obtain ⟨hT2, hD2⟩ := HK.out hf
          have hT2 := Lh hT2
          have hD2 := Lh hD2
          clear HK HDR
          have hli : i < lst.length := by omega
          go_wp2_with (go_at_call 127; refine (with1_calls _ _ _ _).mono ?_; rintro e w3 ⟨rfl, hb3⟩; rw [hf]; have hN3 := (hb3.block wr.heap.size (by simp)).trans (heap_alloc_new wr (.cells #[.int .i64 px, .int .i64 py, .int .i64 pz] 23)); have b0 : w3.cell? ⟨wr.heap.size, 0, none⟩ = some (.int .i64 px) := (blk_cell hN3 0).trans rfl; have b1 : w3.cell? ⟨wr.heap.size, 1, none⟩ = some (.int .i64 py) := (blk_cell hN3 1).trans rfl; have b2 : w3.cell? ⟨wr.heap.size, 2, none⟩ = some (.int .i64 pz) := (blk_cell hN3 2).trans rfl; have hW3 := Lh (bthen ((Below.refl _ wr).alloc (Nat.le_refl _) (.cells #[.int .i64 px, .int .i64 py, .int .i64 pz] 23)) hb3); have hO3 := Lh (hO.out.grown hW3.out); have ⟨g0, g1, g2⟩ := hO3.out.at3 i hli; have F0 := hO3.out.fz.1 (i * 3); have F1 := hO3.out.fz.1 (i * 3 + 1); have F2 := hO3.out.fz.1 (i * 3 + 2); clear hN3 hb3)
          go_roundw
          case rel => exact ⟨i + 1, j + 1, lst.set i ⟨px, py, pz⟩, by go_num, by go_num, by omega, by omega, by rw [List.length_set]; exact hlen, hT2, hD2, Lh (hO3.out.setAt i hli ⟨px, py, pz⟩), Lh (gb_set (gb_set (gb_set (gb_below hG.out hW3.out) _ _) _ _) _ _)⟩
          case measure => simp [intOf]; omega
      · obtain rfl : j = n := by omega
        have hi : (i : Int) ≤ (j : Int) := by omega
        have hTT : lst.take i = l.filter nz := by rw [hT.out, List.take_of_length_le (by rw [← HN.out]; exact Nat.le_refl _)]
        obtain ⟨w9, hrun, ho9, hg9⟩ := run_clear_pts wr base g j c i (c - i) 0 lst hO.out hij
        rw [hTT] at ho9
        go_wp2
        go_ret
        exact ⟨i, rfl, ho9, gb_trans hG.out hg9⟩
end Go.Proofs.Ytckdhahceelckaa.G
namespace Go.Proofs.Ytckdhahceelckaa.G
open Go.RowKit Go.Proofs.YtckdhahceelckaaW.PrintWords Go.Proofs.YtckdhahceelckaaW.PrintLast Go.Proofs.YtckdhahceelckaaW.PrintMore
set_option linter.unusedVariables false
set_option linter.unusedSimpArgs false
/-- the list while the edges are crossed -/
def ed2 (L ea eb : List P3) (i k : Nat) : List P3 := L ++ (edgeW (ea.take i) eb ++ (eb.take k).map (cross3 (ea.getD i ⟨0, 0, 0⟩)))
theorem getD_at (l : List P3) (i : Nat) (h : i < l.length) : l.getD i ⟨0, 0, 0⟩ = l[i] := by rw [List.getD_eq_getElem?_getD, List.getElem?_eq_getElem h]; rfl
theorem ed2_step (L ea eb : List P3) (i k : Nat) (hi : i < ea.length) (hk : k < eb.length) : ed2 L ea eb i k ++ [cross3 ea[i] eb[k]] = ed2 L ea eb i (k + 1) := by
  unfold ed2
  rw [mapM_snoc _ _ _ hk, getD_at _ _ hi, List.append_assoc, List.append_assoc]
theorem ed2_end (L ea eb : List P3) (i : Nat) (hi : i < ea.length) : ed2 L ea eb i eb.length = ed2 L ea eb (i + 1) 0 := by
  unfold ed2
  rw [edgeW_snoc _ _ _ hi, List.take_length, getD_at _ _ hi]
  simp
theorem ed2_start (L ea eb : List P3) : ed2 L ea eb 0 0 = L := by unfold ed2 edgeW; simp
theorem ed2_all (L ea eb : List P3) : ed2 L ea eb ea.length 0 = L ++ edgeW ea eb := by unfold ed2; simp
theorem ed2_len (L ea eb : List P3) (i k : Nat) (h0 : L.length ≤ 256) (h1 : ea.length ≤ 128) (h2 : eb.length ≤ 128) : (ed2 L ea eb i k).length ≤ 17000 := by
  unfold ed2 edgeW
  rw [List.length_append, List.length_append, List.length_map]
  have a := flat_le (fun e => eb.map fun f => cross3 e f) 128 (ea.take i) (fun x _ => by rw [List.length_map]; exact h2)
  have b := List.length_take_le i ea
  have b' := List.length_take_le' i ea
  have c := List.length_take_le' k eb
  have d := Nat.mul_le_mul (show (ea.take i).length ≤ 128 by omega) (Nat.le_refl 128)
  omega
/-- the list while the points are gone through -/
def pt2 (L pa pb es : List P3) (i k : Nat) : List P3 := L ++ (pointW (pa.take i) pb es ++ (pb.take k).flatMap (roundW es (pa.getD i ⟨0, 0, 0⟩)))
theorem pt2_end (L pa pb es : List P3) (i : Nat) (hi : i < pa.length) : pt2 L pa pb es i pb.length = pt2 L pa pb es (i + 1) 0 := by
  unfold pt2 pointW
  rw [flatM_snoc _ _ _ hi, List.take_length, getD_at _ _ hi]
  simp
theorem pt2_start (L pa pb es : List P3) : pt2 L pa pb es 0 0 = L := by unfold pt2 pointW; simp
theorem pt2_all (L pa pb es : List P3) : pt2 L pa pb es pa.length 0 = L ++ pointW pa pb es := by unfold pt2; simp
theorem roundW_len (es : List P3) (p q : P3) : (roundW es p q).length = es.length + 1 := by unfold roundW; simp
theorem pt2_len (L pa pb es : List P3) (i k : Nat) (hi : i < pa.length) (h0 : L.length ≤ 17000) (h1 : pa.length ≤ 32) (h2 : pb.length ≤ 32) (h3 : es.length ≤ 256) (hm : pa.length ≤ 2 ∨ pb.length ≤ 2) : (pt2 L pa pb es i k).length ≤ 34000 := by
  unfold pt2 pointW
  rw [List.length_append, List.length_append]
  have a := flat_le (fun p => pb.flatMap fun q => roundW es p q) (pb.length * 257) (pa.take i) (fun x _ => flat_le _ 257 pb fun y _ => by rw [roundW_len]; omega)
  have b := flat_le (roundW es (pa.getD i ⟨0, 0, 0⟩)) 257 (pb.take k) (fun x _ => by rw [roundW_len]; omega)
  have b1 := List.length_take_le i pa
  have c := List.length_take_le' k pb
  have d := Nat.mul_le_mul c (Nat.le_refl 257)
  have e : (pa.take i).length + 1 ≤ pa.length := by rw [List.length_take]; omega
  have f := Nat.mul_le_mul e (Nat.le_refl (pb.length * 257))
  rw [Nat.add_mul, Nat.one_mul] at f
  have g : pa.length * (pb.length * 257) ≤ 64 * 257 := by
    rw [← Nat.mul_assoc]
    apply Nat.mul_le_mul_right
    rcases hm with h | h
    · exact Nat.le_trans (Nat.mul_le_mul h h2) (by decide)
    · exact Nat.le_trans (Nat.mul_le_mul h1 h) (by decide)
  omega
/-- the list while one pair's edges are gone through -/
def pt3 (L pa pb es : List P3) (i k : Nat) (d : P3) (m : Nat) : List P3 := pt2 L pa pb es i k ++ (d :: (es.take m).map fun e => cross3 (short3 (cross3 e d)) e)
theorem pt3_start (L pa pb es : List P3) (i k : Nat) (d : P3) : pt2 L pa pb es i k ++ [d] = pt3 L pa pb es i k d 0 := by unfold pt3; simp
theorem pt3_step (L pa pb es : List P3) (i k : Nat) (d : P3) (m : Nat) (h : m < es.length) : pt3 L pa pb es i k d m ++ [cross3 (short3 (cross3 es[m] d)) es[m]] = pt3 L pa pb es i k d (m + 1) := by
  unfold pt3
  rw [mapM_snoc _ _ _ h, List.append_assoc, List.cons_append]
theorem pt3_end (L pa pb es : List P3) (i k : Nat) (hi : i < pa.length) (hk : k < pb.length) : pt3 L pa pb es i k (short3 (minus3 pb[k] pa[i])) es.length = pt2 L pa pb es i (k + 1) := by
  unfold pt3 pt2
  rw [flatM_snoc _ _ _ hk, getD_at _ _ hi, List.take_length]
  simp [roundW]
theorem pt3_len (L pa pb es : List P3) (i k : Nat) (d : P3) (m : Nat) (hi : i < pa.length) (h0 : L.length ≤ 17000) (h1 : pa.length ≤ 32) (h2 : pb.length ≤ 32) (h3 : es.length ≤ 256) (hm : pa.length ≤ 2 ∨ pb.length ≤ 2) : (pt3 L pa pb es i k d m).length ≤ 35000 := by
  unfold pt3
  rw [List.length_append, List.length_cons, List.length_map]
  have := pt2_len L pa pb es i k hi h0 h1 h2 h3 hm
  have := List.length_take_le' m es
  omega
/-- all that is gathered may be made long -/
theorem rawC_in (pa aa ea pb ab eb : List P3) (ra rb : Int) (m : MayP pa aa ea ra) (k : MayP pb ab eb rb) : ∀ x ∈ rawC pa aa ea pb ab eb, in3 4398046511104 x := by
  have fin : ∀ {n : Int} {l : List P3}, 0 ≤ n → n ≤ 9223372036854775807 → l.any (far3 n) = false → ∀ x ∈ l, in3 n x := by
    intro n l h0 h1 h x hx
    rw [List.any_eq_false] at h
    exact (far3_iff n x h0 h1).1 (by simpa using h x hx)
  have paI := fin (by decide) (by decide) m.pf
  have pbI := fin (by decide) (by decide) k.pf
  have aaI := fin (by decide) (by decide) m.af
  have abI := fin (by decide) (by decide) k.af
  have eaI := fin (by decide) (by decide) m.ef
  have ebI := fin (by decide) (by decide) k.ef
  intro x hx
  unfold rawC at hx
  rcases List.mem_append.1 hx with h | h
  · rcases List.mem_append.1 h with h | h
    · exact in3_le (by decide) (aaI x h)
    · exact in3_le (by decide) (abI x h)
  · rcases List.mem_append.1 h with h | h
    · unfold edgeW at h
      obtain ⟨e, he, h⟩ := List.mem_flatMap.1 h
      obtain ⟨f, hf, rfl⟩ := List.mem_map.1 h
      exact cross_in (eaI e he) (ebI f hf)
    · split at h
      · simp at h
      · unfold pointW at h
        obtain ⟨p, hp, h⟩ := List.mem_flatMap.1 h
        obtain ⟨q, hq, h⟩ := List.mem_flatMap.1 h
        unfold roundW at h
        rcases List.mem_cons.1 h with rfl | h
        · exact in3_le (by decide) (short3_in _)
        · obtain ⟨e, he, rfl⟩ := List.mem_map.1 h
          have eI : in3 1048576 e := by
            rcases List.mem_append.1 he with he | he
            · exact eaI e he
            · exact ebI e he
          exact cross_in (short3_in _) eI
theorem rawC_len (pa aa ea pb ab eb : List P3) (ra rb : Int) (m : MayP pa aa ea ra) (k : MayP pb ab eb rb) : (rawC pa aa ea pb ab eb).length ≤ 34000 := by
  have := m.a1; have := k.a1; have := m.e1; have := k.e1; have := m.p1; have := k.p1
  have h1 := ed2_len (aa ++ ab) ea eb ea.length 0 (by rw [List.length_append]; omega) (by omega) (by omega)
  rw [ed2_all] at h1
  unfold rawC
  rw [← List.append_assoc]
  split
  · simpa using (by omega : ((aa ++ ab) ++ edgeW ea eb).length ≤ 34000)
  · rename_i hm
    obtain ⟨p0, pr, hp⟩ := List.exists_cons_of_ne_nil m.p0
    have hl : pa.length - 1 < pa.length := by rw [hp]; simp
    have h2 := pt2_len ((aa ++ ab) ++ edgeW ea eb) pa pb (ea ++ eb) (pa.length - 1) pb.length hl h1 (by omega) (by omega) (by rw [List.length_append]; omega) (by unfold mn at hm; split at hm <;> omega)
    rw [pt2_end _ _ _ _ _ hl, show pa.length - 1 + 1 = pa.length by omega, pt2_all] at h2
    exact h2
end Go.Proofs.Ytckdhahceelckaa.G
namespace Go.Proofs.Ytckdhahceelckaa.G
open Go.RowKit Go.Proofs.YtckdhahceelckaaW.PrintWords Go.Proofs.YtckdhahceelckaaW.PrintLast Go.Proofs.YtckdhahceelckaaW.PrintMore
attribute [local go_sem] max2_mx min2_mn max_two min_two max_three min_three max_four min_four
attribute [local go_sem high] eqA23
set_option linter.unusedVariables false
set_option linter.unusedSimpArgs false
def CandPost (l : List P3) (w : World) (en : Ending) (w' : World) : Prop := ∃ A c, en = .returned (.slice A l.length c) ∧ RdB w' A l ∧ Below w.heap.size w w' ∧ ∀ ad, A = some ad → w.heap.size ≤ ad.block
set_option maxHeartbeats 8000000 in
set_option maxRecDepth 100000 in
theorem rcand_calls (pa aa ea pb ab eb : List P3) (ra rb : Int) (A0 A1 A2 B0 B1 B2 : Option Addr) (c0 c1 c2 d0 d1 d2 : Nat) (w : World)
    (hA0 : RdB w A0 pa) (hA1 : RdB w A1 aa) (hA2 : RdB w A2 ea) (hB0 : RdB w B0 pb) (hB1 : RdB w B1 ab) (hB2 : RdB w B2 eb) (m : MayP pa aa ea ra) (k : MayP pb ab eb rb) :
    Calls Try.prog 63 #[.agg #[.slice A0 pa.length c0, .slice A1 aa.length c1, .slice A2 ea.length c2, .int .i64 ra], .agg #[.slice B0 pb.length d0, .slice B1 ab.length d1, .slice B2 eb.length d2, .int .i64 rb]] w (CandPost (candF (rawC pa aa ea pb ab eb)) w) := by
  have HIN := Lh (rawC_in pa aa ea pb ab eb ra rb m k)
  have HLEN := Lh (rawC_len pa aa ea pb ab eb ra rb m k)
  have PA := Lh (far_in (by decide) (by decide) m.pf)
  have PB := Lh (far_in (by decide) (by decide) k.pf)
  have EA := Lh (far_in (by decide) (by decide) m.ef)
  have EB := Lh (far_in (by decide) (by decide) k.ef)
  have l1 := m.p1
  have l2 := m.a1
  have l3 := m.e1
  have l4 := k.p1
  have l5 := k.a1
  have l6 := k.e1
  obtain ⟨RAW, hRAW⟩ : ∃ l, rawC pa aa ea pb ab eb = l := ⟨_, rfl⟩
  rw [hRAW] at HIN HLEN ⊢
  unfold rawC at hRAW
  obtain ⟨np, hnp⟩ : ∃ n, pa.length = n := ⟨_, rfl⟩
  obtain ⟨na, hna⟩ : ∃ n, aa.length = n := ⟨_, rfl⟩
  obtain ⟨ne, hne⟩ : ∃ n, ea.length = n := ⟨_, rfl⟩
  obtain ⟨mp, hmp⟩ : ∃ n, pb.length = n := ⟨_, rfl⟩
  obtain ⟨ma, hma⟩ : ∃ n, ab.length = n := ⟨_, rfl⟩
  obtain ⟨me, hme⟩ : ∃ n, eb.length = n := ⟨_, rfl⟩
  rw [hnp, hmp] at hRAW
  have HRAW := Lh hRAW
  rw [hnp] at l1 ⊢
  rw [hna] at l2 ⊢
  rw [hne] at l3 ⊢
  rw [hmp] at l4 ⊢
  rw [hma] at l5 ⊢
  rw [hme] at l6 ⊢
  have NP := Lh hnp
  have NA := Lh hna
  have NE := Lh hne
  have MP := Lh hmp
  have MA := Lh hma
  have ME := Lh hme
  have z0 := (Below.heap_alloc (w.alloc (.cells #[.slice A0 np c0, .slice A1 na c1, .slice A2 ne c2, .int .i64 ra] 36)) (.cells #[.slice B0 mp d0, .slice B1 ma d1, .slice B2 me d2, .int .i64 rb] 36) w.heap.size (by simp)).trans (heap_alloc_new w (.cells #[.slice A0 np c0, .slice A1 na c1, .slice A2 ne c2, .int .i64 ra] 36))
  have z1 := heap_alloc_new (w.alloc (.cells #[.slice A0 np c0, .slice A1 na c1, .slice A2 ne c2, .int .i64 ra] 36)) (.cells #[.slice B0 mp d0, .slice B1 ma d1, .slice B2 me d2, .int .i64 rb] 36)
  rw [World.size_alloc] at z1
  have zb := ((Below.refl _ w).alloc (Nat.le_refl _) (.cells #[.slice A0 np c0, .slice A1 na c1, .slice A2 ne c2, .int .i64 ra] 36)).alloc (by simp) (.cells #[.slice B0 mp d0, .slice B1 ma d1, .slice B2 me d2, .int .i64 rb] 36)
  have zs : ((w.alloc (.cells #[.slice A0 np c0, .slice A1 na c1, .slice A2 ne c2, .int .i64 ra] 36)).alloc (.cells #[.slice B0 mp d0, .slice B1 ma d1, .slice B2 me d2, .int .i64 rb] 36)).heap.size = w.heap.size + 1 + 1 := by simp
  obtain ⟨w1, hw1⟩ : ∃ V, (w.alloc (.cells #[.slice A0 np c0, .slice A1 na c1, .slice A2 ne c2, .int .i64 ra] 36)).alloc (.cells #[.slice B0 mp d0, .slice B1 ma d1, .slice B2 me d2, .int .i64 rb] 36) = V := ⟨_, rfl⟩
  rw [hw1] at z0 z1 zb zs
  have hw1' := Lh hw1
  have Z0 := Lh z0
  have Z1 := Lh z1
  have ZB := Lh zb
  have ZS := Lh zs
  have A0_ := Lh (hA0.below zb)
  have A1_ := Lh (hA1.below zb)
  have A2_ := Lh (hA2.below zb)
  have B0_ := Lh (hB0.below zb)
  have B1_ := Lh (hB1.below zb)
  have B2_ := Lh (hB2.below zb)
  have x1 : w1.cell? ⟨w.heap.size, 1, none⟩ = some (.slice A1 na c1) := (blk_cell z0 1).trans rfl
  have q0 : w.heap.size < w1.heap.size := blk_lt z0
  have q1 : w.heap.size + 1 < w1.heap.size := blk_lt z1
  clear hRAW hnp hna hne hmp hma hme z0 z1 zb zs hw1 hA0 hA1 hA2 hB0 hB1 hB2 m k
  go_enter Try.func63, Try.ntmps63
  go_wp2_with (first
    | ((try rw [hw1'.out]); at_builtin; refine appL_ w1.heap.size rfl _ _ rfl (.slice none 0 0) [] aa A1 _ _ rfl rfl (OwnP.nil _ _) A1_.out.1 NA.out (by simp; omega) (Nat.le_refl _) ?_; intro v2 w2 hv hg hat; have S2 := Lh ((CSt.start w1).app hv hg hat); have y1 : w2.cell? ⟨w.heap.size + 1, 1, none⟩ = some (.slice B1 ma d1) := (blk_cell (S2.out.old Z1.out) 1).trans rfl; clear hv hg hat x1)
    | (at_builtin; refine appL_ w1.heap.size rfl _ _ rfl v2 ([] ++ aa) ab B1 _ _ rfl rfl S2.out.own (B1_.out.1.below S2.out.below) MA.out (by have := NA.out; simp; omega) S2.out.below.size ?_; intro v3 w3 hv hg hat; have S3 := Lh (S2.out.app hv hg hat); clear hv hg hat y1))
  clear S2
  have S4 := Lh (S3.out.len (show ([] ++ aa) ++ ab = ed2 (aa ++ ab) ea eb 0 0 by rw [ed2_start]; rfl))
  have HL0 := Lh (show (aa ++ ab).length ≤ 256 by rw [List.length_append, NA.out, MA.out]; omega)
  clear S3
  obtain ⟨L0, hL0⟩ : ∃ l, aa ++ ab = l := ⟨_, rfl⟩
  rw [hL0] at S4 HL0 HRAW
  clear hL0
  go_loopw [5, 6, 7] (fun v5 v6 v7 wr => ∃ i : Nat, i ≤ ne ∧ v6 = .int .i64 i ∧ Hid (CSt w1 wr v5 (ed2 L0 ea eb i 0) [])) (fun _ i _ _ => ne - (intOf i).toNat)
  case atStart => exact ⟨0, by omega, rfl, S4⟩
  case round =>
    clear S4
    obtain ⟨i, hi, rfl, hS⟩ := hrel
    have x2 : wr.cell? ⟨w.heap.size, 2, none⟩ = some (.slice A2 ne c2) := (blk_cell (hS.out.old Z0.out) 2).trans rfl
    have l0 : w.heap.size < wr.heap.size := blk_lt (hS.out.old Z0.out)
    by_cases hlt : i < ne
    · go_wp2_with fail
      have hil : i < ea.length := by rw [NE.out]; exact hlt
      obtain ⟨ga, oa, rfl, _, _, _, _⟩ := A2_.out.1.get i hil
      go_loopw [5, 7] (fun v5 v7 wq => ∃ j : Nat, j ≤ me ∧ v7 = .int .i64 j ∧ Hid (CSt w1 wq v5 (ed2 L0 ea eb i j) [])) (fun _ i _ => me - (intOf i).toNat)
      case atStart => exact ⟨0, by omega, rfl, hS⟩
      case round =>
        clear hS x2 l0
        obtain ⟨j, hj, rfl, hS2⟩ := hrel
        obtain ⟨wq, hwq⟩ : ∃ x : World, x = wr := ⟨_, rfl⟩
        subst hwq
        have x2 : wq.cell? ⟨w.heap.size, 2, none⟩ = some (.slice (some ⟨ga, oa, none⟩) ne c2) := (blk_cell (hS2.out.old Z0.out) 2).trans rfl
        have l0 : w.heap.size < wq.heap.size := blk_lt (hS2.out.old Z0.out)
        have y2 : wq.cell? ⟨w.heap.size + 1, 2, none⟩ = some (.slice B2 me d2) := (blk_cell (hS2.out.old Z1.out) 2).trans rfl
        have l1_ : w.heap.size + 1 < wq.heap.size := blk_lt (hS2.out.old Z1.out)
        by_cases hlj : j < me
        · have hjl : j < eb.length := by rw [ME.out]; exact hlj
          obtain ⟨gb, ob, rfl, lgb, f0, f1, f2⟩ := (B2_.out.below hS2.out.below).1.get j hjl
          obtain ⟨ga', oa', hA, lga, e0, e1, e2⟩ := (A2_.out.below hS2.out.below).1.get i hil
          simp only [Option.some.injEq, Addr.mk.injEq, and_true] at hA
          obtain ⟨rfl, rfl⟩ := hA
          have HST := ed2_step L0 ea eb i j hil hjl
          obtain ⟨e, he⟩ : ∃ e, ea[i] = e := ⟨_, rfl⟩
          obtain ⟨f, hf⟩ : ∃ f, eb[j] = f := ⟨_, rfl⟩
          rw [he] at e0 e1 e2 HST
          rw [hf] at f0 f1 f2 HST
          have HX := Lh (fun W => rcross_calls e f W)
          obtain ⟨u, hu⟩ : ∃ u, cross3 e f = u := ⟨_, rfl⟩
          rw [hu] at HX HST
          obtain ⟨ex, ey, ez⟩ := e
          obtain ⟨fx, fy, fz⟩ := f
          obtain ⟨ux, uy, uz⟩ := u
          simp only at e0 e1 e2 f0 f1 f2
          have HST := Lh HST
          have HL2 := Lh (ed2_len L0 ea eb i j HL0.out (by rw [NE.out]; omega) (by rw [ME.out]; omega))
          obtain ⟨LL, hLL⟩ : ∃ l, ed2 L0 ea eb i j = l := ⟨_, rfl⟩
          rw [hLL] at hS2 HST HL2
          have t1 : (i : Int) < (ne : Int) := by omega
          have t2 : (j : Int) < (me : Int) := by omega
          clear he hf hu hLL
          go_wp2
          have HB := Lh ((Below.refl (wq.heap.size) wq).drew)
          have FF := Lh (show ∀ V, Hid (Below (wq.heap.size) wq V) → V.cell? ⟨w.heap.size, 2, none⟩ = some (.slice (some ⟨ga, oa, none⟩) ne c2) ∧ V.cell? ⟨w.heap.size + 1, 2, none⟩ = some (.slice (some ⟨gb, ob, none⟩) me d2) ∧ V.cell? ⟨ga, oa + i * 3, none⟩ = some (.int .i64 ex) ∧ V.cell? ⟨ga, oa + i * 3 + 1, none⟩ = some (.int .i64 ey) ∧ V.cell? ⟨ga, oa + i * 3 + 2, none⟩ = some (.int .i64 ez) ∧ V.cell? ⟨gb, ob + j * 3, none⟩ = some (.int .i64 fx) ∧ V.cell? ⟨gb, ob + j * 3 + 1, none⟩ = some (.int .i64 fy) ∧ V.cell? ⟨gb, ob + j * 3 + 2, none⟩ = some (.int .i64 fz) from fun V HB => ⟨(HB.out.cell (p := ⟨w.heap.size, 2, none⟩) (l0)).trans x2, (HB.out.cell (p := ⟨w.heap.size + 1, 2, none⟩) (l1_)).trans y2, (HB.out.cell (p := ⟨ga, oa + i * 3, none⟩) (lga)).trans e0, (HB.out.cell (p := ⟨ga, oa + i * 3 + 1, none⟩) (lga)).trans e1, (HB.out.cell (p := ⟨ga, oa + i * 3 + 2, none⟩) (lga)).trans e2, (HB.out.cell (p := ⟨gb, ob + j * 3, none⟩) (lgb)).trans f0, (HB.out.cell (p := ⟨gb, ob + j * 3 + 1, none⟩) (lgb)).trans f1, (HB.out.cell (p := ⟨gb, ob + j * 3 + 2, none⟩) (lgb)).trans f2⟩)
          refine start_ (n := 15) (S := fun w' => w'.cell? ⟨w.heap.size, 2, none⟩ = some (.slice (some ⟨ga, oa, none⟩) ne c2) ∧ w'.cell? ⟨w.heap.size + 1, 2, none⟩ = some (.slice (some ⟨gb, ob, none⟩) me d2) ∧ w'.cell? ⟨ga, oa + i * 3, none⟩ = some (.int .i64 ex) ∧ w'.cell? ⟨ga, oa + i * 3 + 1, none⟩ = some (.int .i64 ey) ∧ w'.cell? ⟨ga, oa + i * 3 + 2, none⟩ = some (.int .i64 ez) ∧ w'.cell? ⟨gb, ob + j * 3, none⟩ = some (.int .i64 fx) ∧ w'.cell? ⟨gb, ob + j * 3 + 1, none⟩ = some (.int .i64 fy) ∧ w'.cell? ⟨gb, ob + j * 3 + 2, none⟩ = some (.int .i64 fz)) (ds := [13]) (MT 0 15) (by kernel_rfl) rfl rfl (FF.out _ HB) (fun hHeld => ?_)
          obtain ⟨wd, hwd⟩ : ∃ x, wq.drew = x := ⟨_, rfl⟩
          rw [hwd] at HB hHeld ⊢
          clear hwd
          refine pu_ 0 39 (h := ?_)
          refine pu_ 1 40 (h := ?_)
          refine pu_ 3 42 (h := ?_)
          refine pu_ 6 45 (h := ?_)
          refine pu_ 8 47 (h := ?_)
          refine ta_ 2 41 hHeld (h := ?_)
          refine pu_ 4 43 (h := ?_)
          refine ta_ 5 44 hHeld (h := ?_)
          refine ta_ 7 46 hHeld (h := ?_)
          refine pu_ 9 48 (h := ?_)
          refine ta_ 10 49 hHeld (h := ?_)
          refine on_ 11 (some 50) (h := fun K hK => ?_)
          refine gs_ Try.func82 #[aP ⟨ex, ey, ez⟩, aP ⟨fx, fy, fz⟩] ?_
          with_reducible refine (HX.out _).mono ?_
          rintro en w4 ⟨rfl, hb⟩
          have HB := Lh (HB.out.trans (hb.mono HB.out.size))
          clear hb
          refine ⟨_, rfl, ?_⟩
          refine hK.out _ _ (FF.out _ HB) (fun hHeld => ?_)
          clear hK K
          refine no_ (h := ?_)
          refine on_ 12 (some 51) (h := fun K hK => ?_)
          refine value_ (w1 := ?_) (v := ?_) (by rfl) rfl ?_ ?_
          rotate_left 2
          · go_simp
            constructor
            · rfl
            · rfl
          have HA := Lh (ha_new HB.out (.cells #[.int .i64 ux, .int .i64 uy, .int .i64 uz] 23))
          have hge := HB.out.size
          have HB := Lh (HB.out.alloc (Nat.le_trans (Nat.le_refl _) HB.out.size) (.cells #[.int .i64 ux, .int .i64 uy, .int .i64 uz] 23))
          refine hK.out _ _ (FF.out _ HB) (fun hHeld => ?_)
          clear hK K
          refine no_ (h := ?_)
          refine last_ (i := 13) (N := some 52) (MT 14 1) rfl rfl (by kernel_rfl) (by decide) (fun K hK => ?_)
          have hS8 := hS2.out.grown HB.out
          refine appR_ w1.heap.size (by rfl) rfl _ _ rfl _ _ [⟨ux, uy, uz⟩] _ _ _ rfl rfl hS8.own (Rd_one HA.out).1 rfl (by have := HL2.out; simp; omega) hS8.below.size ?_
          intro v9 w9 hv hg hat
          obtain ⟨Av, nv, cv, hvv⟩ : ∃ A n c, v9 = .slice A n c := (by obtain ⟨A, c, h, _⟩ := OwnP.rd hv; exact ⟨A, _, c, h⟩)
          subst hvv
          have hS9 := Lh ((hS8.app hv hg hat).len HST.out)
          clear hv hg hat hS8
          refine hK.out _ _ ?_
          clear hK K
          refine no_ (h := ?_)
          refine pu_ 14 5 (h := ?_)
          refine done_ (by kernel_rfl) ?_
          clear x2 l0 y2 l1_ f0 f1 f2 e0 e1 e2 t1 t2 HL2 HX
          go_wp2
          go_roundw
          case rel => exact ⟨j + 1, by omega, by go_num, hS9⟩
          case measure => simp [intOf]; omega
        · obtain rfl : j = me := by omega
          have hSE := Lh (hS2.out.len (show ed2 L0 ea eb i j = ed2 L0 ea eb (i + 1) 0 by rw [← ed2_end L0 ea eb i hil, ME.out]))
          clear hS2
          go_wp2
          go_roundw
          case rel => exact ⟨i + 1, by omega, by go_num, hSE⟩
          case measure => simp [intOf]; omega
    · obtain rfl : i = ne := by omega
      have hSE := Lh (hS.out.len (show ed2 L0 ea eb i 0 = L0 ++ edgeW ea eb by rw [← ed2_all, NE.out]))
      have HL1 := Lh (show (L0 ++ edgeW ea eb).length ≤ 17000 by have := ed2_len L0 ea eb i 0 HL0.out (by rw [NE.out]; omega) (by rw [ME.out]; omega); rwa [show ed2 L0 ea eb i 0 = L0 ++ edgeW ea eb by rw [← ed2_all, NE.out]] at this)
      obtain ⟨L1, hL1⟩ : ∃ l, L0 ++ edgeW ea eb = l := ⟨_, rfl⟩
      have HR1 := Lh (show L1 ++ (if mn (np : Int) (mp : Int) > 2 then [] else pointW pa pb (ea ++ eb)) = RAW by rw [← HRAW.out, ← hL1, List.append_assoc])
      rw [hL1] at hSE HL1
      clear hS hL1 HRAW
      obtain ⟨T, hT⟩ : ∃ t, (decide ((np : Int) ≤ 2) || decide ((mp : Int) ≤ 2)) = t := ⟨_, rfl⟩
      have hRT : Hid (RAW = if T then L1 ++ pointW pa pb (ea ++ eb) else L1) := Lh (by
        rw [← HR1.out, ← hT]
        by_cases h : mn (np : Int) (mp : Int) > 2
        · have h1 : ¬ ((np : Int) ≤ 2) := by unfold mn at h; split at h <;> omega
          have h2 : ¬ ((mp : Int) ≤ 2) := by unfold mn at h; split at h <;> omega
          rw [if_pos h, decide_eq_false h1, decide_eq_false h2]; simp
        · have h1 : ((np : Int) ≤ 2) ∨ ((mp : Int) ≤ 2) := by unfold mn at h; split at h <;> omega
          rw [if_neg h, if_pos (by rcases h1 with h1 | h1 <;> simp [h1])])
      have HTm : Hid (T = true → np ≤ 2 ∨ mp ≤ 2) := Lh (fun h => by rw [← hT] at h; simp only [Bool.or_eq_true, decide_eq_true_eq] at h; omega)
      clear HR1
      have y0 : wr.cell? ⟨w.heap.size + 1, 0, none⟩ = some (.slice B0 mp d0) := (blk_cell (hSE.out.old Z1.out) 0).trans rfl
      have y1 : wr.cell? ⟨w.heap.size, 0, none⟩ = some (.slice A0 np c0) := (blk_cell (hSE.out.old Z0.out) 0).trans rfl
      have l1_ : w.heap.size + 1 < wr.heap.size := blk_lt (hSE.out.old Z1.out)
      go_upto_region 11 with fail
      go_cut [62] (fun s62 wx => s62 = .bool T ∧ wx = wr)
      case first =>
        by_cases t1 : (np : Int) ≤ 2
        · have e1 : decide ((np : Int) ≤ 2) = true := decide_eq_true t1
          rw [e1] at hT
          have hT := Lh hT
          go_wp2
          go_meet
          exact ⟨by first | (rw [← hT.out]; done) | (rw [← hT.out]; rfl), rfl⟩
        · have e1 : decide ((np : Int) ≤ 2) = false := decide_eq_false t1
          rw [e1] at hT
          have hT := Lh hT
          go_wp2
          go_meet
          exact ⟨by first | (rw [← hT.out]; done) | (rw [← hT.out]; rfl), rfl⟩
      case rest =>
        obtain ⟨rfl, rfl⟩ := hcut
        clear hT
        go_upto_if 62 with fail
        go_cut [5] (fun s5 wx => Hid (CSt w1 wx s5 RAW []))
        case first =>
          cases T
          · have hS := Lh (hSE.out.len (show L1 = RAW by rw [hRT.out]; rfl))
            go_wp2
            go_meet
            exact hS
          · have hR2 := Lh (show RAW = L1 ++ pointW pa pb (ea ++ eb) by rw [hRT.out]; rfl)
            have hM := Lh (HTm.out rfl)
            clear hRT HTm
            go_wp2_with (first
              | (at_builtin; refine appL_ wc.heap.size rfl _ _ rfl (.slice none 0 0) [] ea A2 _ _ rfl rfl (OwnP.nil _ _) (A2_.out.1.below hSE.out.below) NE.out (by simp; omega) (Nat.le_refl _) ?_; intro v6 w4 hv hg hat; have BB := Lh (below_none hg); have V6 := Lh hv; have S4 := Lh (hSE.out.grown BB.out); have z2 : w4.cell? ⟨w.heap.size + 1, 2, none⟩ = some (.slice B2 me d2) := (blk_cell (S4.out.old Z1.out) 2).trans rfl; clear hv hg hat x2 y0 y1)
              | (at_builtin; refine appL_ wc.heap.size rfl _ _ rfl v6 ([] ++ ea) eb B2 _ _ rfl rfl V6.out (B2_.out.1.below S4.out.below) ME.out (by have := NE.out; simp; omega) BB.out.size ?_; intro v7 w5 hv hg hat; have BC := Lh (BB.out.grown hg BB.out.size (fun k hk => V6.out.base_ k hk)); have V7 := Lh hv; clear hv hg hat z2))
            have S5 := Lh (hSE.out.grown BC.out)
            obtain ⟨A8, c8, rfl, _, R8, K8⟩ := OwnP.rdB2 V7.out
            have SK := Lh ((hSE.out.moreA BC.out K8 (fun ad ea => (World.ownsRow.lt V7.out ad.block (by rw [ea]; rfl)).2)).len (pt2_start L1 pa pb (ea ++ eb)).symm)
            have E8 : Hid (([] ++ ea) ++ eb = ea ++ eb) := Lh rfl
            rw [E8.out] at R8
            have R8 := Lh R8
            have HE8 := Lh (show ∀ e ∈ ea ++ eb, in3 1048576 e from fun e he => (List.mem_append.1 he).elim (EA.out e) (EB.out e))
            have N8 := Lh (show (ea ++ eb).length ≤ 256 by rw [List.length_append, NE.out, ME.out]; omega)
            obtain ⟨es, hes⟩ : ∃ l, ea ++ eb = l := ⟨_, rfl⟩
            have hE9 : ([] ++ ea) ++ eb = es := hes
            rw [hE9]
            rw [hes] at SK R8 hR2 HE8 N8
            obtain ⟨ns, hns⟩ : ∃ n, es.length = n := ⟨_, rfl⟩
            rw [hns]
            have NS := Lh hns
            clear S5 S4 V6 V7 BB K8 hes hE9 E8 hns hSE BC
            go_loopw [5, 9, 10, 11, 12, 13] (fun v5 v9 v10 v11 v12 v13 wr => ∃ i : Nat, i ≤ np ∧ v9 = .int .i64 i ∧ Hid (CSt w1 wr v5 (pt2 L1 pa pb es i 0) (keepA A8)) ∧ Hid (RdB wr A8 es)) (fun _ i _ _ _ _ _ => np - (intOf i).toNat)
            case atStart => exact ⟨0, by omega, rfl, SK, R8⟩
            case round =>
              clear SK R8
              obtain ⟨p, hp, rfl, hS, hR⟩ := hrel
              obtain ⟨wq, hwq⟩ : ∃ x : World, x = wr := ⟨_, rfl⟩
              subst hwq
              have x0 : wq.cell? ⟨w.heap.size, 0, none⟩ = some (.slice A0 np c0) := (blk_cell (hS.out.old Z0.out) 0).trans rfl
              have l0 : w.heap.size < wq.heap.size := blk_lt (hS.out.old Z0.out)
              by_cases hlp : p < np
              · have hpl : p < pa.length := by rw [NP.out]; exact hlp
                obtain ⟨gp, op_, rfl, _, _, _, _⟩ := A0_.out.1.get p hpl
                go_wp2_with fail
                go_loopw [5, 10, 11, 12, 13] (fun v5 v10 v11 v12 v13 wr => ∃ j : Nat, j ≤ mp ∧ v10 = .int .i64 j ∧ Hid (CSt w1 wr v5 (pt2 L1 pa pb es p j) (keepA A8)) ∧ Hid (RdB wr A8 es)) (fun _ i _ _ _ _ => mp - (intOf i).toNat)
                case atStart => exact ⟨0, by omega, rfl, hS, hR⟩
                case round =>
                  clear hS hR x0 l0
                  obtain ⟨j, hj, rfl, hS, hR⟩ := hrel
                  obtain ⟨wq, hwq⟩ : ∃ x : World, x = wr := ⟨_, rfl⟩
                  subst hwq
                  have x0 : wq.cell? ⟨w.heap.size, 0, none⟩ = some (.slice (some ⟨gp, op_, none⟩) np c0) := (blk_cell (hS.out.old Z0.out) 0).trans rfl
                  have l0 : w.heap.size < wq.heap.size := blk_lt (hS.out.old Z0.out)
                  have y0 : wq.cell? ⟨w.heap.size + 1, 0, none⟩ = some (.slice B0 mp d0) := (blk_cell (hS.out.old Z1.out) 0).trans rfl
                  have l1_ : w.heap.size + 1 < wq.heap.size := blk_lt (hS.out.old Z1.out)
                  by_cases hlj : j < mp
                  · have hjl : j < pb.length := by rw [MP.out]; exact hlj
                    obtain ⟨gq, oq, rfl, lgq, f0, f1, f2⟩ := (B0_.out.below hS.out.below).1.get j hjl
                    obtain ⟨gp', op', hA, lgp, e0, e1, e2⟩ := (A0_.out.below hS.out.below).1.get p hpl
                    simp only [Option.some.injEq, Addr.mk.injEq, and_true] at hA
                    obtain ⟨rfl, rfl⟩ := hA
                    have hEND := pt3_end L1 pa pb es p j hpl hjl
                    have hmi := minus_in (PB.out _ (List.getElem_mem hjl)) (PA.out _ (List.getElem_mem hpl))
                    obtain ⟨P, hP⟩ : ∃ e, pa[p] = e := ⟨_, rfl⟩
                    obtain ⟨Q, hQ⟩ : ∃ e, pb[j] = e := ⟨_, rfl⟩
                    rw [hP] at e0 e1 e2 hEND hmi
                    rw [hQ] at f0 f1 f2 hEND hmi
                    obtain ⟨px, py, pz⟩ := P
                    obtain ⟨qx, qy, qz⟩ := Q
                    simp only at e0 e1 e2 f0 f1 f2
                    have HM := (fun W => rminus_calls qx qy qz px py pz W)
                    obtain ⟨M, hM'⟩ : ∃ u, minus3 ⟨qx, qy, qz⟩ ⟨px, py, pz⟩ = u := ⟨_, rfl⟩
                    rw [hM'] at HM hEND hmi
                    have HSH := (fun W => rshort_calls M W hmi)
                    have hdI := short3_in M
                    obtain ⟨D, hD⟩ : ∃ u, short3 M = u := ⟨_, rfl⟩
                    rw [hD] at HSH hdI hEND
                    obtain ⟨mx_, my_, mz_⟩ := M
                    obtain ⟨dx, dy, dz⟩ := D
                    simp only at HM
                    have HM := Lh HM
                    have HSH := Lh HSH
                    have HDI := Lh hdI
                    have HEND := Lh hEND
                    have HL2 := Lh (pt2_len L1 pa pb es p j hpl HL1.out (by rw [NP.out]; omega) (by rw [MP.out]; omega) N8.out (by rw [NP.out, MP.out]; exact hM.out))
                    have HL3 := Lh (fun m => pt3_len L1 pa pb es p j ⟨dx, dy, dz⟩ m hpl HL1.out (by rw [NP.out]; omega) (by rw [MP.out]; omega) N8.out (by rw [NP.out, MP.out]; exact hM.out))
                    have t1 : (p : Int) < (np : Int) := by omega
                    have t2 : (j : Int) < (mp : Int) := by omega
                    clear hP hQ hM' hD hdI hEND hmi
                    go_wp2
                    have HB := Lh ((Below.refl (wq.heap.size) wq).drew)
                    have FF := Lh (show ∀ V, Hid (Below (wq.heap.size) wq V) → V.cell? ⟨w.heap.size, 0, none⟩ = some (.slice (some ⟨gp, op_, none⟩) np c0) ∧ V.cell? ⟨w.heap.size + 1, 0, none⟩ = some (.slice (some ⟨gq, oq, none⟩) mp d0) ∧ V.cell? ⟨gp, op_ + p * 3, none⟩ = some (.int .i64 px) ∧ V.cell? ⟨gp, op_ + p * 3 + 1, none⟩ = some (.int .i64 py) ∧ V.cell? ⟨gp, op_ + p * 3 + 2, none⟩ = some (.int .i64 pz) ∧ V.cell? ⟨gq, oq + j * 3, none⟩ = some (.int .i64 qx) ∧ V.cell? ⟨gq, oq + j * 3 + 1, none⟩ = some (.int .i64 qy) ∧ V.cell? ⟨gq, oq + j * 3 + 2, none⟩ = some (.int .i64 qz) from fun V HB => ⟨(HB.out.cell (p := ⟨w.heap.size, 0, none⟩) (l0)).trans x0, (HB.out.cell (p := ⟨w.heap.size + 1, 0, none⟩) (l1_)).trans y0, (HB.out.cell (p := ⟨gp, op_ + p * 3, none⟩) (lgp)).trans e0, (HB.out.cell (p := ⟨gp, op_ + p * 3 + 1, none⟩) (lgp)).trans e1, (HB.out.cell (p := ⟨gp, op_ + p * 3 + 2, none⟩) (lgp)).trans e2, (HB.out.cell (p := ⟨gq, oq + j * 3, none⟩) (lgq)).trans f0, (HB.out.cell (p := ⟨gq, oq + j * 3 + 1, none⟩) (lgq)).trans f1, (HB.out.cell (p := ⟨gq, oq + j * 3 + 2, none⟩) (lgq)).trans f2⟩)
                    refine start_ (n := 14) (S := fun w' => w'.cell? ⟨w.heap.size, 0, none⟩ = some (.slice (some ⟨gp, op_, none⟩) np c0) ∧ w'.cell? ⟨w.heap.size + 1, 0, none⟩ = some (.slice (some ⟨gq, oq, none⟩) mp d0) ∧ w'.cell? ⟨gp, op_ + p * 3, none⟩ = some (.int .i64 px) ∧ w'.cell? ⟨gp, op_ + p * 3 + 1, none⟩ = some (.int .i64 py) ∧ w'.cell? ⟨gp, op_ + p * 3 + 2, none⟩ = some (.int .i64 pz) ∧ w'.cell? ⟨gq, oq + j * 3, none⟩ = some (.int .i64 qx) ∧ w'.cell? ⟨gq, oq + j * 3 + 1, none⟩ = some (.int .i64 qy) ∧ w'.cell? ⟨gq, oq + j * 3 + 2, none⟩ = some (.int .i64 qz)) (ds := []) (MT 0 14) (by kernel_rfl) rfl rfl (FF.out _ HB) (fun hHeld => ?_)
                    obtain ⟨wd, hwd⟩ : ∃ x, wq.drew = x := ⟨_, rfl⟩
                    rw [hwd] at HB hHeld ⊢
                    clear hwd
                    refine pu_ 0 85 (h := ?_)
                    refine pu_ 2 87 (h := ?_)
                    refine pu_ 5 90 (h := ?_)
                    refine pu_ 7 92 (h := ?_)
                    refine ta_ 1 86 hHeld (h := ?_)
                    refine pu_ 3 88 (h := ?_)
                    refine ta_ 4 89 hHeld (h := ?_)
                    refine ta_ 6 91 hHeld (h := ?_)
                    refine pu_ 8 93 (h := ?_)
                    refine ta_ 9 94 hHeld (h := ?_)
                    refine join_ (σ := Nat) 1 (MT 13 1) (fun s => [(11, .pointer (some ⟨s, 0, none⟩)), (95, aP ⟨mx_, my_, mz_⟩), (96, aP ⟨dx, dy, dz⟩)]) (fun s w' => wq.heap.size ≤ s ∧ w'.heap[s]? = some (.cells #[.int .i64 0, .int .i64 0, .int .i64 0] 23 (0, 0)) ∧ Below (wq.heap.size) wq w') ?_ ?_
                    rotate_left
                    · intro hCont
                      refine two_ (i := 10) (j := 12) (Ni := some 95) (Nj := some 11) (MT 11 3) #[true, true, true, true, true, true, true, true, true, true, false, false, true, false] rfl rfl rfl rfl (by kernel_rfl) (by decide) (by decide) (fun K hK => ?_) (fun K hK => ?_)
                      · skip
                        refine gs_ Try.func23 #[aP ⟨qx, qy, qz⟩, aP ⟨px, py, pz⟩] ?_
                        with_reducible refine (HM.out _).mono ?_
                        rintro en w7 ⟨rfl, hb⟩
                        have HB := Lh (HB.out.trans (hb.mono HB.out.size))
                        clear hb
                        refine ⟨_, rfl, ?_⟩
                        refine hK.out _ _ (FF.out _ HB) (fun hHeld => ?_)
                        clear hK K
                        refine no_ (h := ?_)
                        refine two_ (i := 11) (j := 12) (Ni := some 96) (Nj := some 11) (MT 12 2) #[true, true, true, true, true, true, true, true, true, true, true, false, true, false] rfl rfl rfl rfl (by kernel_rfl) (by decide) (by decide) (fun K hK => ?_) (fun K hK => ?_)
                        · skip
                          refine gs_ Try.func81 #[aP ⟨mx_, my_, mz_⟩] ?_
                          with_reducible refine (HSH.out _).mono ?_
                          rintro en w7 ⟨rfl, hb⟩
                          have HB := Lh (HB.out.trans (hb.mono HB.out.size))
                          clear hb
                          refine ⟨_, rfl, ?_⟩
                          refine hK.out _ _ (FF.out _ HB) (fun hHeld => ?_)
                          clear hK K
                          refine no_ (h := ?_)
                          refine on_ 12 (some 11) (h := fun K hK => ?_)
                          refine value_ (w1 := ?_) (v := ?_) (by rfl) rfl ?_ ?_
                          rotate_left 2
                          · go_simp
                            constructor
                            · rfl
                            · rfl
                          have HA := Lh (ha_new HB.out (.cells #[.int .i64 0, .int .i64 0, .int .i64 0] 23))
                          have hge := HB.out.size
                          have HB := Lh (HB.out.alloc (Nat.le_trans (Nat.le_refl _) HB.out.size) (.cells #[.int .i64 0, .int .i64 0, .int .i64 0] 23))
                          refine hK.out _ _ (FF.out _ HB) (fun hHeld => ?_)
                          clear hK K
                          refine no_ (h := ?_)
                          exact norm_ (by simp only [putAll, Act.put, List.setIfInBounds_toArray, List.set_cons_zero, List.set_cons_succ]) (hCont _ _ ⟨hge, HA.out, HB.out⟩)
                        · skip
                          refine value_ (w1 := ?_) (v := ?_) (by rfl) rfl ?_ ?_
                          rotate_left 2
                          · go_simp
                            constructor
                            · rfl
                            · rfl
                          have HA := Lh (ha_new HB.out (.cells #[.int .i64 0, .int .i64 0, .int .i64 0] 23))
                          have hge := HB.out.size
                          have HB := Lh (HB.out.alloc (Nat.le_trans (Nat.le_refl _) HB.out.size) (.cells #[.int .i64 0, .int .i64 0, .int .i64 0] 23))
                          refine hK.out _ _ (FF.out _ HB) (fun hHeld => ?_)
                          clear hK K
                          refine no_ (h := ?_)
                          refine on_ 11 (some 96) (h := fun K hK => ?_)
                          refine gs_ Try.func81 #[aP ⟨mx_, my_, mz_⟩] ?_
                          with_reducible refine (HSH.out _).mono ?_
                          rintro en w7 ⟨rfl, hb⟩
                          have HB := Lh (HB.out.trans (hb.mono HB.out.size))
                          have HA := Lh ((hb.block _ (blk_lt HA.out)).trans HA.out)
                          clear hb
                          refine ⟨_, rfl, ?_⟩
                          refine hK.out _ _ (FF.out _ HB) (fun hHeld => ?_)
                          clear hK K
                          refine no_ (h := ?_)
                          exact norm_ (by simp only [putAll, Act.put, List.setIfInBounds_toArray, List.set_cons_zero, List.set_cons_succ]) (hCont _ _ ⟨hge, HA.out, HB.out⟩)
                      · skip
                        refine value_ (w1 := ?_) (v := ?_) (by rfl) rfl ?_ ?_
                        rotate_left 2
                        · go_simp
                          constructor
                          · rfl
                          · rfl
                        have HA := Lh (ha_new HB.out (.cells #[.int .i64 0, .int .i64 0, .int .i64 0] 23))
                        have hge := HB.out.size
                        have HB := Lh (HB.out.alloc (Nat.le_trans (Nat.le_refl _) HB.out.size) (.cells #[.int .i64 0, .int .i64 0, .int .i64 0] 23))
                        refine hK.out _ _ (FF.out _ HB) (fun hHeld => ?_)
                        clear hK K
                        refine no_ (h := ?_)
                        refine on_ 10 (some 95) (h := fun K hK => ?_)
                        refine gs_ Try.func23 #[aP ⟨qx, qy, qz⟩, aP ⟨px, py, pz⟩] ?_
                        with_reducible refine (HM.out _).mono ?_
                        rintro en w7 ⟨rfl, hb⟩
                        have HB := Lh (HB.out.trans (hb.mono HB.out.size))
                        have HA := Lh ((hb.block _ (blk_lt HA.out)).trans HA.out)
                        clear hb
                        refine ⟨_, rfl, ?_⟩
                        refine hK.out _ _ (FF.out _ HB) (fun hHeld => ?_)
                        clear hK K
                        refine no_ (h := ?_)
                        refine on_ 11 (some 96) (h := fun K hK => ?_)
                        refine gs_ Try.func81 #[aP ⟨mx_, my_, mz_⟩] ?_
                        with_reducible refine (HSH.out _).mono ?_
                        rintro en w7 ⟨rfl, hb⟩
                        have HB := Lh (HB.out.trans (hb.mono HB.out.size))
                        have HA := Lh ((hb.block _ (blk_lt HA.out)).trans HA.out)
                        clear hb
                        refine ⟨_, rfl, ?_⟩
                        refine hK.out _ _ (FF.out _ HB) (fun hHeld => ?_)
                        clear hK K
                        refine no_ (h := ?_)
                        exact norm_ (by simp only [putAll, Act.put, List.setIfInBounds_toArray, List.set_cons_zero, List.set_cons_succ]) (hCont _ _ ⟨hge, HA.out, HB.out⟩)
                    rintro DB wj ⟨hge, HA, HB⟩
                    have HA := Lh HA
                    have HB := Lh HB
                    have hHeld := FF.out _ HB
                    refine no_ (h := ?_)
                    refine on_ 13 (none) (h := fun K hK => ?_)
                    have sc0 : World.cell? _ ⟨DB, 0, none⟩ = some (.int .i64 0) := (blk_cell HA.out 0).trans rfl
                    have sf0 := blk_frozen HA.out 0
                    have sc1 : World.cell? _ ⟨DB, 1, none⟩ = some (.int .i64 0) := (blk_cell HA.out 1).trans rfl
                    have sf1 := blk_frozen HA.out 1
                    have sc2 : World.cell? _ ⟨DB, 2, none⟩ = some (.int .i64 0) := (blk_cell HA.out 2).trans rfl
                    have sf2 := blk_frozen HA.out 2
                    refine skip_ (w1 := ?_) (by rfl) rfl ?_ ?_
                    rotate_left
                    · go_simp
                      rfl
                    have HA := Lh (bs3 HA.out (.int .i64 dx) (.int .i64 dy) (.int .i64 dz))
                    have HB := Lh (bb3 HB.out (Nat.le_trans (Nat.le_refl _) hge) (.int .i64 dx) (.int .i64 dy) (.int .i64 dz))
                    clear sc0 sf0 sc1 sf1 sc2 sf2
                    refine hK.out _ _ (FF.out _ HB) (fun hHeld => ?_)
                    clear hK K
                    refine done_ (by kernel_rfl) ?_
                    obtain ⟨w6, hwn⟩ : ∃ V, (((wj.setCell ⟨DB, 0, none⟩ (.int .i64 dx)).setCell ⟨DB, 1, none⟩ (.int .i64 dy)).setCell ⟨DB, 2, none⟩ (.int .i64 dz)) = V := ⟨_, rfl⟩
                    rw [hwn] at HA HB ⊢
                    clear hwn
                    have hS6 := Lh (hS.out.more HB.out hge (blk_lt HA.out))
                    have hR6 := Lh (hR.out.below HB.out)
                    have hA6 := HA
                    clear hS hR HB HA hge x0 l0 y0 l1_ e0 e1 e2 f0 f1 f2 t1 t2 lgq lgp hHeld
                    have s0 : w6.cell? ⟨DB, 0, none⟩ = some (.int .i64 dx) := (blk_cell hA6.out 0).trans rfl
                    have s1 : w6.cell? ⟨DB, 1, none⟩ = some (.int .i64 dy) := (blk_cell hA6.out 1).trans rfl
                    have s2 : w6.cell? ⟨DB, 2, none⟩ = some (.int .i64 dz) := (blk_cell hA6.out 2).trans rfl
                    have lDB : DB < w6.heap.size := blk_lt hA6.out
                    have b7 := (Below.refl w6.heap.size w6).alloc (Nat.le_refl _) (.cells #[.int .i64 dx, .int .i64 dy, .int .i64 dz] 23)
                    have hS7 := Lh (hS6.out.grown b7)
                    have hR7 := Lh (hR6.out.below b7)
                    have hA7 := Lh ((b7.block _ lDB).trans hA6.out)
                    have hD7 := Lh (Rd_one (heap_alloc_new w6 (.cells #[.int .i64 dx, .int .i64 dy, .int .i64 dz] 23))).1
                    clear b7 hS6 hR6
                    go_wp2_with (at_builtin; refine appL_ w1.heap.size rfl _ _ rfl _ _ [⟨dx, dy, dz⟩] _ _ _ rfl rfl hS7.out.own hD7.out rfl (by have := HL2.out; simp; omega) hS7.out.below.size ?_; intro v8 w8 hv hg hat; have hS8 := Lh ((hS7.out.app hv hg hat).len (pt3_start L1 pa pb es p j ⟨dx, dy, dz⟩)); have hR8 := Lh (hR7.out.keep hS7.out (fun k hk => List.mem_cons_of_mem _ hk) hg); have hA8 := Lh (hS7.out.blk hg List.mem_cons_self hA7.out); clear hv hg hat s0 s1 s2 lDB)
                    clear hS7 hR7 hA7 hD7 hA6
                    go_loopw [5, 12, 13] (fun v5 v12 v13 wr => ∃ m : Nat, m ≤ ns ∧ v12 = .int .i64 m ∧ Hid (CSt w1 wr v5 (pt3 L1 pa pb es p j ⟨dx, dy, dz⟩ m) (DB :: keepA A8)) ∧ Hid (RdB wr A8 es) ∧ Hid (wr.heap[DB]? = some (.cells #[.int .i64 dx, .int .i64 dy, .int .i64 dz] 23 (0, 0)))) (fun _ i _ _ => ns - (intOf i).toNat)
                    case atStart => exact ⟨0, by omega, rfl, hS8, hR8, hA8⟩
                    case round =>
                      clear hS8 hR8 hA8
                      obtain ⟨m, hm, rfl, hS, hR, hAD⟩ := hrel
                      obtain ⟨wq, hwq⟩ : ∃ x : World, x = wr := ⟨_, rfl⟩
                      subst hwq
                      have hn8 : ns ≤ 256 := by rw [← NS.out]; exact N8.out
                      by_cases hlm : m < ns
                      · have hml : m < es.length := by rw [NS.out]; exact hlm
                        obtain ⟨ge, oe, rfl, lge, e0, e1, e2⟩ := hR.out.1.get m hml
                        have hEI := HE8.out _ (List.getElem_mem hml)
                        have hST := pt3_step L1 pa pb es p j ⟨dx, dy, dz⟩ m hml
                        obtain ⟨E, hE⟩ : ∃ e, es[m] = e := ⟨_, rfl⟩
                        have HEM := Lh hE
                        rw [hE] at e0 e1 e2 hEI hST
                        have HX1 := (fun W => rcross_calls E ⟨dx, dy, dz⟩ W)
                        have hI1 := cross_in hEI HDI.out
                        obtain ⟨C1, hC1⟩ : ∃ e, cross3 E ⟨dx, dy, dz⟩ = e := ⟨_, rfl⟩
                        rw [hC1] at HX1 hI1 hST
                        have HS1 := (fun W => rshort_calls C1 W hI1)
                        obtain ⟨X, hX⟩ : ∃ e, short3 C1 = e := ⟨_, rfl⟩
                        rw [hX] at HS1 hST
                        have HX2 := (fun W => rcross_calls X E W)
                        obtain ⟨U, hU⟩ : ∃ e, cross3 X E = e := ⟨_, rfl⟩
                        rw [hU] at HX2 hST
                        obtain ⟨ex, ey, ez⟩ := E
                        obtain ⟨c1x, c1y, c1z⟩ := C1
                        obtain ⟨xx, xy, xz⟩ := X
                        obtain ⟨ux, uy, uz⟩ := U
                        simp only at e0 e1 e2
                        have HX1 := Lh HX1
                        have HS1 := Lh HS1
                        have HX2 := Lh HX2
                        have HST := Lh hST
                        have s0 : wq.cell? ⟨DB, 0, none⟩ = some (.int .i64 dx) := (blk_cell hAD.out 0).trans rfl
                        have s1 : wq.cell? ⟨DB, 1, none⟩ = some (.int .i64 dy) := (blk_cell hAD.out 1).trans rfl
                        have s2 : wq.cell? ⟨DB, 2, none⟩ = some (.int .i64 dz) := (blk_cell hAD.out 2).trans rfl
                        have lDB : DB < wq.heap.size := blk_lt hAD.out
                        have t1 : (m : Int) < (ns : Int) := by omega
                        clear hE hC1 hX hU hEI hI1 hST
                        go_wp2
                        have HB := Lh ((Below.refl (wq.heap.size) wq).drew)
                        have FF := Lh (show ∀ V, Hid (Below (wq.heap.size) wq V) → V.cell? ⟨ge, oe + m * 3, none⟩ = some (.int .i64 ex) ∧ V.cell? ⟨ge, oe + m * 3 + 1, none⟩ = some (.int .i64 ey) ∧ V.cell? ⟨ge, oe + m * 3 + 2, none⟩ = some (.int .i64 ez) ∧ V.cell? ⟨DB, 0, none⟩ = some (.int .i64 dx) ∧ V.cell? ⟨DB, 1, none⟩ = some (.int .i64 dy) ∧ V.cell? ⟨DB, 2, none⟩ = some (.int .i64 dz) from fun V HB => ⟨(HB.out.cell (p := ⟨ge, oe + m * 3, none⟩) (lge)).trans e0, (HB.out.cell (p := ⟨ge, oe + m * 3 + 1, none⟩) (lge)).trans e1, (HB.out.cell (p := ⟨ge, oe + m * 3 + 2, none⟩) (lge)).trans e2, (HB.out.cell (p := ⟨DB, 0, none⟩) (lDB)).trans s0, (HB.out.cell (p := ⟨DB, 1, none⟩) (lDB)).trans s1, (HB.out.cell (p := ⟨DB, 2, none⟩) (lDB)).trans s2⟩)
                        refine start_ (n := 9) (S := fun w' => w'.cell? ⟨ge, oe + m * 3, none⟩ = some (.int .i64 ex) ∧ w'.cell? ⟨ge, oe + m * 3 + 1, none⟩ = some (.int .i64 ey) ∧ w'.cell? ⟨ge, oe + m * 3 + 2, none⟩ = some (.int .i64 ez) ∧ w'.cell? ⟨DB, 0, none⟩ = some (.int .i64 dx) ∧ w'.cell? ⟨DB, 1, none⟩ = some (.int .i64 dy) ∧ w'.cell? ⟨DB, 2, none⟩ = some (.int .i64 dz)) (ds := []) (MT 0 9) (by kernel_rfl) rfl rfl (FF.out _ HB) (fun hHeld => ?_)
                        obtain ⟨wd, hwd⟩ : ∃ x, wq.drew = x := ⟨_, rfl⟩
                        rw [hwd] at HB hHeld ⊢
                        clear hwd
                        refine pu_ 0 107 (h := ?_)
                        refine pu_ 1 108 (h := ?_)
                        refine pu_ 2 109 (h := ?_)
                        refine ta_ 3 110 hHeld (h := ?_)
                        refine ta_ 4 111 hHeld (h := ?_)
                        refine join_ (σ := Nat) 1 (MT 8 1) (fun s => [(13, .pointer (some ⟨s, 0, none⟩)), (112, aP ⟨c1x, c1y, c1z⟩), (113, aP ⟨xx, xy, xz⟩)]) (fun s w' => wq.heap.size ≤ s ∧ w'.heap[s]? = some (.cells #[.int .i64 0, .int .i64 0, .int .i64 0] 23 (0, 0)) ∧ Below (wq.heap.size) wq w') ?_ ?_
                        rotate_left
                        · intro hCont
                          refine two_ (i := 5) (j := 7) (Ni := some 112) (Nj := some 13) (MT 6 3) #[true, true, true, true, true, false, false, true, false] rfl rfl rfl rfl (by kernel_rfl) (by decide) (by decide) (fun K hK => ?_) (fun K hK => ?_)
                          · skip
                            refine gs_ Try.func82 #[aP ⟨ex, ey, ez⟩, aP ⟨dx, dy, dz⟩] ?_
                            with_reducible refine (HX1.out _).mono ?_
                            rintro en w7 ⟨rfl, hb⟩
                            have HB := Lh (HB.out.trans (hb.mono HB.out.size))
                            clear hb
                            refine ⟨_, rfl, ?_⟩
                            refine hK.out _ _ (FF.out _ HB) (fun hHeld => ?_)
                            clear hK K
                            refine no_ (h := ?_)
                            refine two_ (i := 6) (j := 7) (Ni := some 113) (Nj := some 13) (MT 7 2) #[true, true, true, true, true, true, false, true, false] rfl rfl rfl rfl (by kernel_rfl) (by decide) (by decide) (fun K hK => ?_) (fun K hK => ?_)
                            · skip
                              refine gs_ Try.func81 #[aP ⟨c1x, c1y, c1z⟩] ?_
                              with_reducible refine (HS1.out _).mono ?_
                              rintro en w7 ⟨rfl, hb⟩
                              have HB := Lh (HB.out.trans (hb.mono HB.out.size))
                              clear hb
                              refine ⟨_, rfl, ?_⟩
                              refine hK.out _ _ (FF.out _ HB) (fun hHeld => ?_)
                              clear hK K
                              refine no_ (h := ?_)
                              refine on_ 7 (some 13) (h := fun K hK => ?_)
                              refine value_ (w1 := ?_) (v := ?_) (by rfl) rfl ?_ ?_
                              rotate_left 2
                              · go_simp
                                constructor
                                · rfl
                                · rfl
                              have HA := Lh (ha_new HB.out (.cells #[.int .i64 0, .int .i64 0, .int .i64 0] 23))
                              have hge := HB.out.size
                              have HB := Lh (HB.out.alloc (Nat.le_trans (Nat.le_refl _) HB.out.size) (.cells #[.int .i64 0, .int .i64 0, .int .i64 0] 23))
                              refine hK.out _ _ (FF.out _ HB) (fun hHeld => ?_)
                              clear hK K
                              refine no_ (h := ?_)
                              exact norm_ (by simp only [putAll, Act.put, List.setIfInBounds_toArray, List.set_cons_zero, List.set_cons_succ]) (hCont _ _ ⟨hge, HA.out, HB.out⟩)
                            · skip
                              refine value_ (w1 := ?_) (v := ?_) (by rfl) rfl ?_ ?_
                              rotate_left 2
                              · go_simp
                                constructor
                                · rfl
                                · rfl
                              have HA := Lh (ha_new HB.out (.cells #[.int .i64 0, .int .i64 0, .int .i64 0] 23))
                              have hge := HB.out.size
                              have HB := Lh (HB.out.alloc (Nat.le_trans (Nat.le_refl _) HB.out.size) (.cells #[.int .i64 0, .int .i64 0, .int .i64 0] 23))
                              refine hK.out _ _ (FF.out _ HB) (fun hHeld => ?_)
                              clear hK K
                              refine no_ (h := ?_)
                              refine on_ 6 (some 113) (h := fun K hK => ?_)
                              refine gs_ Try.func81 #[aP ⟨c1x, c1y, c1z⟩] ?_
                              with_reducible refine (HS1.out _).mono ?_
                              rintro en w7 ⟨rfl, hb⟩
                              have HB := Lh (HB.out.trans (hb.mono HB.out.size))
                              have HA := Lh ((hb.block _ (blk_lt HA.out)).trans HA.out)
                              clear hb
                              refine ⟨_, rfl, ?_⟩
                              refine hK.out _ _ (FF.out _ HB) (fun hHeld => ?_)
                              clear hK K
                              refine no_ (h := ?_)
                              exact norm_ (by simp only [putAll, Act.put, List.setIfInBounds_toArray, List.set_cons_zero, List.set_cons_succ]) (hCont _ _ ⟨hge, HA.out, HB.out⟩)
                          · skip
                            refine value_ (w1 := ?_) (v := ?_) (by rfl) rfl ?_ ?_
                            rotate_left 2
                            · go_simp
                              constructor
                              · rfl
                              · rfl
                            have HA := Lh (ha_new HB.out (.cells #[.int .i64 0, .int .i64 0, .int .i64 0] 23))
                            have hge := HB.out.size
                            have HB := Lh (HB.out.alloc (Nat.le_trans (Nat.le_refl _) HB.out.size) (.cells #[.int .i64 0, .int .i64 0, .int .i64 0] 23))
                            refine hK.out _ _ (FF.out _ HB) (fun hHeld => ?_)
                            clear hK K
                            refine no_ (h := ?_)
                            refine on_ 5 (some 112) (h := fun K hK => ?_)
                            refine gs_ Try.func82 #[aP ⟨ex, ey, ez⟩, aP ⟨dx, dy, dz⟩] ?_
                            with_reducible refine (HX1.out _).mono ?_
                            rintro en w7 ⟨rfl, hb⟩
                            have HB := Lh (HB.out.trans (hb.mono HB.out.size))
                            have HA := Lh ((hb.block _ (blk_lt HA.out)).trans HA.out)
                            clear hb
                            refine ⟨_, rfl, ?_⟩
                            refine hK.out _ _ (FF.out _ HB) (fun hHeld => ?_)
                            clear hK K
                            refine no_ (h := ?_)
                            refine on_ 6 (some 113) (h := fun K hK => ?_)
                            refine gs_ Try.func81 #[aP ⟨c1x, c1y, c1z⟩] ?_
                            with_reducible refine (HS1.out _).mono ?_
                            rintro en w7 ⟨rfl, hb⟩
                            have HB := Lh (HB.out.trans (hb.mono HB.out.size))
                            have HA := Lh ((hb.block _ (blk_lt HA.out)).trans HA.out)
                            clear hb
                            refine ⟨_, rfl, ?_⟩
                            refine hK.out _ _ (FF.out _ HB) (fun hHeld => ?_)
                            clear hK K
                            refine no_ (h := ?_)
                            exact norm_ (by simp only [putAll, Act.put, List.setIfInBounds_toArray, List.set_cons_zero, List.set_cons_succ]) (hCont _ _ ⟨hge, HA.out, HB.out⟩)
                        rintro AB wj ⟨hge, HA, HB⟩
                        have HA := Lh HA
                        have HB := Lh HB
                        have hHeld := FF.out _ HB
                        refine no_ (h := ?_)
                        refine on_ 8 (none) (h := fun K hK => ?_)
                        have sc0 : World.cell? _ ⟨AB, 0, none⟩ = some (.int .i64 0) := (blk_cell HA.out 0).trans rfl
                        have sf0 := blk_frozen HA.out 0
                        have sc1 : World.cell? _ ⟨AB, 1, none⟩ = some (.int .i64 0) := (blk_cell HA.out 1).trans rfl
                        have sf1 := blk_frozen HA.out 1
                        have sc2 : World.cell? _ ⟨AB, 2, none⟩ = some (.int .i64 0) := (blk_cell HA.out 2).trans rfl
                        have sf2 := blk_frozen HA.out 2
                        refine skip_ (w1 := ?_) (by rfl) rfl ?_ ?_
                        rotate_left
                        · go_simp
                          rfl
                        have HA := Lh (bs3 HA.out (.int .i64 xx) (.int .i64 xy) (.int .i64 xz))
                        have HB := Lh (bb3 HB.out (Nat.le_trans (Nat.le_refl _) hge) (.int .i64 xx) (.int .i64 xy) (.int .i64 xz))
                        clear sc0 sf0 sc1 sf1 sc2 sf2
                        refine hK.out _ _ (FF.out _ HB) (fun hHeld => ?_)
                        clear hK K
                        refine done_ (by kernel_rfl) ?_
                        obtain ⟨w9, hwn⟩ : ∃ V, (((wj.setCell ⟨AB, 0, none⟩ (.int .i64 xx)).setCell ⟨AB, 1, none⟩ (.int .i64 xy)).setCell ⟨AB, 2, none⟩ (.int .i64 xz)) = V := ⟨_, rfl⟩
                        rw [hwn] at HA HB ⊢
                        clear hwn
                        have hS9 := Lh (hS.out.grown HB.out)
                        have hR9 := Lh (hR.out.below HB.out)
                        have hA9 := Lh ((HB.out.block _ lDB).trans hAD.out)
                        have hX9 := HA
                        clear hS hR hAD s0 s1 s2 e0 e1 e2 lge lDB HX1 HS1 hge HB HA hHeld
                        have hE9 := hR9.out.1.get m hml
                        rw [HEM.out] at hE9
                        obtain ⟨ge', oe', hA, lge, e0, e1, e2⟩ := hE9
                        simp only [Option.some.injEq, Addr.mk.injEq, and_true] at hA
                        obtain ⟨rfl, rfl⟩ := hA
                        simp only at e0 e1 e2
                        have s0 : w9.cell? ⟨AB, 0, none⟩ = some (.int .i64 xx) := (blk_cell hX9.out 0).trans rfl
                        have s1 : w9.cell? ⟨AB, 1, none⟩ = some (.int .i64 xy) := (blk_cell hX9.out 1).trans rfl
                        have s2 : w9.cell? ⟨AB, 2, none⟩ = some (.int .i64 xz) := (blk_cell hX9.out 2).trans rfl
                        have lAB : AB < w9.heap.size := blk_lt hX9.out
                        have HL4 := Lh (HL3.out m)
                        obtain ⟨LL, hLL⟩ : ∃ l, pt3 L1 pa pb es p j ⟨dx, dy, dz⟩ m = l := ⟨_, rfl⟩
                        rw [hLL] at hS9 HST HL4
                        clear hLL
                        go_wp2
                        have HB := Lh ((Below.refl (w9.heap.size) w9).drew)
                        have FF := Lh (show ∀ V, Hid (Below (w9.heap.size) w9 V) → V.cell? ⟨AB, 0, none⟩ = some (.int .i64 xx) ∧ V.cell? ⟨AB, 1, none⟩ = some (.int .i64 xy) ∧ V.cell? ⟨AB, 2, none⟩ = some (.int .i64 xz) ∧ V.cell? ⟨ge, oe + m * 3, none⟩ = some (.int .i64 ex) ∧ V.cell? ⟨ge, oe + m * 3 + 1, none⟩ = some (.int .i64 ey) ∧ V.cell? ⟨ge, oe + m * 3 + 2, none⟩ = some (.int .i64 ez) from fun V HB => ⟨(HB.out.cell (p := ⟨AB, 0, none⟩) (lAB)).trans s0, (HB.out.cell (p := ⟨AB, 1, none⟩) (lAB)).trans s1, (HB.out.cell (p := ⟨AB, 2, none⟩) (lAB)).trans s2, (HB.out.cell (p := ⟨ge, oe + m * 3, none⟩) (lge)).trans e0, (HB.out.cell (p := ⟨ge, oe + m * 3 + 1, none⟩) (lge)).trans e1, (HB.out.cell (p := ⟨ge, oe + m * 3 + 2, none⟩) (lge)).trans e2⟩)
                        refine start_ (n := 10) (S := fun w' => w'.cell? ⟨AB, 0, none⟩ = some (.int .i64 xx) ∧ w'.cell? ⟨AB, 1, none⟩ = some (.int .i64 xy) ∧ w'.cell? ⟨AB, 2, none⟩ = some (.int .i64 xz) ∧ w'.cell? ⟨ge, oe + m * 3, none⟩ = some (.int .i64 ex) ∧ w'.cell? ⟨ge, oe + m * 3 + 1, none⟩ = some (.int .i64 ey) ∧ w'.cell? ⟨ge, oe + m * 3 + 2, none⟩ = some (.int .i64 ez)) (ds := [8]) (MT 0 10) (by kernel_rfl) rfl rfl (FF.out _ HB) (fun hHeld => ?_)
                        obtain ⟨wd, hwd⟩ : ∃ x, w9.drew = x := ⟨_, rfl⟩
                        rw [hwd] at HB hHeld ⊢
                        clear hwd
                        refine pu_ 0 114 (h := ?_)
                        refine pu_ 2 116 (h := ?_)
                        refine pu_ 3 117 (h := ?_)
                        refine pu_ 4 118 (h := ?_)
                        refine ta_ 1 115 hHeld (h := ?_)
                        refine ta_ 5 119 hHeld (h := ?_)
                        refine on_ 6 (some 120) (h := fun K hK => ?_)
                        refine gs_ Try.func82 #[aP ⟨xx, xy, xz⟩, aP ⟨ex, ey, ez⟩] ?_
                        with_reducible refine (HX2.out _).mono ?_
                        rintro en w10 ⟨rfl, hb⟩
                        have HB := Lh (HB.out.trans (hb.mono HB.out.size))
                        clear hb
                        refine ⟨_, rfl, ?_⟩
                        refine hK.out _ _ (FF.out _ HB) (fun hHeld => ?_)
                        clear hK K
                        refine no_ (h := ?_)
                        refine on_ 7 (some 121) (h := fun K hK => ?_)
                        refine value_ (w1 := ?_) (v := ?_) (by rfl) rfl ?_ ?_
                        rotate_left 2
                        · go_simp
                          constructor
                          · rfl
                          · rfl
                        have HA := Lh (ha_new HB.out (.cells #[.int .i64 ux, .int .i64 uy, .int .i64 uz] 23))
                        have hge := HB.out.size
                        have HB := Lh (HB.out.alloc (Nat.le_trans (Nat.le_refl _) HB.out.size) (.cells #[.int .i64 ux, .int .i64 uy, .int .i64 uz] 23))
                        refine hK.out _ _ (FF.out _ HB) (fun hHeld => ?_)
                        clear hK K
                        refine no_ (h := ?_)
                        refine last_ (i := 8) (N := some 122) (MT 9 1) rfl rfl (by kernel_rfl) (by decide) (fun K hK => ?_)
                        have hS10 := hS9.out.grown HB.out
                        refine appR_ w1.heap.size (by rfl) rfl _ _ rfl _ _ [⟨ux, uy, uz⟩] _ _ _ rfl rfl hS10.own (Rd_one HA.out).1 rfl (by have := HL4.out; simp; omega) hS10.below.size ?_
                        intro v12 w12 hv hg hat
                        obtain ⟨Av, nv, cv, hvv⟩ : ∃ A n c, v12 = .slice A n c := (by obtain ⟨A, c, h, _⟩ := OwnP.rd hv; exact ⟨A, _, c, h⟩)
                        subst hvv
                        have hS11 := Lh ((hS10.app hv hg hat).len HST.out)
                        have hR11 := Lh ((hR9.out.below HB.out).keep hS10 (fun k hk => List.mem_cons_of_mem _ hk) hg)
                        have hA11 := Lh (hS10.blk hg List.mem_cons_self ((HB.out.block _ (blk_lt hA9.out)).trans hA9.out))
                        clear hv hg hat hS10
                        refine hK.out _ _ ?_
                        clear hK K
                        refine no_ (h := ?_)
                        refine pu_ 9 5 (h := ?_)
                        refine done_ (by kernel_rfl) ?_
                        clear s0 s1 s2 lAB e0 e1 e2 lge t1
                        go_wp2
                        go_roundw
                        case rel => exact ⟨m + 1, by omega, by go_num, hS11, hR11, hA11⟩
                        case measure => simp [intOf]; omega
                      · obtain rfl : m = ns := by omega
                        have hSE := Lh (hS.out.less.len (show pt3 L1 pa pb es p j ⟨dx, dy, dz⟩ m = pt2 L1 pa pb es p (j + 1) by rw [← HEND.out, NS.out]))
                        clear hS
                        go_wp2
                        go_roundw
                        case rel => exact ⟨j + 1, by omega, by go_num, hSE, hR⟩
                        case measure => simp [intOf]; omega
                  · obtain rfl : j = mp := by omega
                    have hSE := Lh (hS.out.len (show pt2 L1 pa pb es p j = pt2 L1 pa pb es (p + 1) 0 by rw [← pt2_end L1 pa pb es p hpl, MP.out]))
                    clear hS x0 l0
                    go_wp2
                    go_roundw
                    case rel => exact ⟨p + 1, by omega, by go_num, hSE, hR⟩
                    case measure => simp [intOf]; omega
              · obtain rfl : p = np := by omega
                have hSE := Lh (hS.out.len (show pt2 L1 pa pb es p 0 = RAW by rw [hR2.out, ← pt2_all, NP.out]))
                have hSE := Lh (show CSt w1 wq _ RAW [] from ⟨hSE.out.own, hSE.out.below, by simp⟩)
                clear hS hR
                go_wp2
                go_meet
                exact hSE
        case rest =>
          clear hSE l0 x2 y0 y1 l1_ hRT HTm HL1
          obtain ⟨A5, c5, hv5, _, R5, _⟩ := OwnP.rdB2 hcut.out.own
          have BW := Lh (bthen ZB.out hcut.out.below)
          subst hv5
          obtain ⟨nr, hnr⟩ : ∃ n, RAW.length = n := ⟨_, rfl⟩
          have NR := Lh hnr
          have lnr : nr ≤ 34000 := by rw [← hnr]; exact HLEN.out
          rw [hnr]
          have R5 := Lh R5
          have S0 := Lh (CSt.start wc)
          clear hcut hnr
          go_wp2
          go_loopw [14, 15, 16] (fun v14 v15 v16 wr => ∃ k : Nat, k ≤ nr ∧ v15 = .int .i64 k ∧ Hid (CSt wc wr v14 (candF (RAW.take k)) [])) (fun _ i _ _ => nr - (intOf i).toNat)
          case atStart => exact ⟨0, by omega, rfl, S0⟩
          case round =>
            clear S0
            obtain ⟨k, hk, rfl, hS⟩ := hrel
            obtain ⟨wq, hwq⟩ : ∃ x : World, x = wr := ⟨_, rfl⟩
            subst hwq
            by_cases hlk : k < nr
            · have hkl : k < RAW.length := by rw [NR.out]; exact hlk
              obtain ⟨gr, or_, rfl, _, e0, e1, e2⟩ := (R5.out.below hS.out.below).1.get k hkl
              have hxI := HIN.out _ (List.getElem_mem hkl)
              have hNO := candF_no RAW k hkl
              have hYES := candF_yes RAW k hkl
              obtain ⟨x, hx⟩ : ∃ x, RAW[k] = x := ⟨_, rfl⟩
              rw [hx] at e0 e1 e2 hxI hNO hYES
              have HLG := Lh (fun W => rlong_calls x W hxI)
              have hnI := long3_in x
              obtain ⟨n, hn⟩ : ∃ n, long3 x = n := ⟨_, rfl⟩
              rw [hn] at HLG hnI hNO hYES
              obtain ⟨xx, xy, xz⟩ := x
              obtain ⟨nx, ny, nz⟩ := n
              simp only at e0 e1 e2
              have hNO := Lh hNO
              have hYES := Lh hYES
              have hlen := Lh (candF_len (RAW.take k))
              have hlt2 : (RAW.take k).length ≤ 34000 := by have := List.length_take_le' k RAW; have := NR.out; omega
              obtain ⟨ok, hok⟩ : ∃ l, candF (RAW.take k) = l := ⟨_, rfl⟩
              rw [hok] at hS hNO hYES hlen
              have hln : ok.length ≤ 70000 := by have := hlen.out; omega
              clear hx hn hxI hok hlt2 hlen
              go_wp2_with fail
              refine (HLG.out _).mono ?_
              rintro en w5 ⟨rfl, hb⟩
              have hS5 := Lh (hS.out.grown hb)
              clear hb hS HLG e0 e1 e2
              have b6 := (Below.refl w5.heap.size w5).alloc (Nat.le_refl _) (.cells #[.int .i64 nx, .int .i64 ny, .int .i64 nz] 23)
              have a8 := heap_alloc_new w5 (.cells #[.int .i64 nx, .int .i64 ny, .int .i64 nz] 23)
              obtain ⟨w8, hw8⟩ : ∃ V, w5.alloc (.cells #[.int .i64 nx, .int .i64 ny, .int .i64 nz] 23) = V := ⟨_, rfl⟩
              rw [hw8] at b6 a8
              have hS8 := Lh (hS5.out.grown b6)
              have g0 : w8.cell? ⟨w5.heap.size, 0, none⟩ = some (.int .i64 nx) := (blk_cell a8 0).trans rfl
              have g1 : w8.cell? ⟨w5.heap.size, 1, none⟩ = some (.int .i64 ny) := (blk_cell a8 1).trans rfl
              have g2 : w8.cell? ⟨w5.heap.size, 2, none⟩ = some (.int .i64 nz) := (blk_cell a8 2).trans rfl
              have lg : w5.heap.size < w8.heap.size := blk_lt a8
              have HW8 := Lh hw8
              clear b6 a8 hS5 hw8
              by_cases hz : (⟨nx, ny, nz⟩ : P3) = ⟨0, 0, 0⟩
              · have he := eqP_yes hz
                have hE := Lh (hNO.out hz)
                clear hz hnI
                go_wp2
                go_roundw
                case rel => exact ⟨k + 1, by omega, by go_num, by rw [hE.out]; (try rw [HW8.out]); exact hS8⟩
                case measure => simp [intOf]; omega
              · have he := eqP_no hz
                have hE := Lh (hYES.out hz)
                obtain ⟨n1, n2, n3, n4, n5, n6⟩ := hnI
                simp only at n1 n2 n3 n4 n5 n6
                have f1 : wrap64 (-nx) = -nx := by unfold wrap64; omega
                have f2 : wrap64 (-ny) = -ny := by unfold wrap64; omega
                have f3 : wrap64 (-nz) = -nz := by unfold wrap64; omega
                have f4 : IntKind.i64.wrap (-nx) = -nx := iw_id _ (by omega) (by omega)
                have f5 : IntKind.i64.wrap (-ny) = -ny := iw_id _ (by omega) (by omega)
                have f6 : IntKind.i64.wrap (-nz) = -nz := iw_id _ (by omega) (by omega)
                have b9 := (Below.refl w8.heap.size w8).alloc (Nat.le_refl _) (.cells #[.int .i64 nx, .int .i64 ny, .int .i64 nz, .int .i64 (-nx), .int .i64 (-ny), .int .i64 (-nz)] 23)
                have hS9 := Lh (hS8.out.grown b9)
                have hR9 := (Rd_pair (p := ⟨nx, ny, nz⟩) (q := ⟨-nx, -ny, -nz⟩) (heap_alloc_new w8 (.cells #[.int .i64 nx, .int .i64 ny, .int .i64 nz, .int .i64 (-nx), .int .i64 (-ny), .int .i64 (-nz)] 23))).1
                rw [show w8.heap.size = w5.heap.size + 1 by rw [← HW8.out]; simp] at hR9
                have hR9 := Lh hR9
                clear hz b9 hS8
                go_wp2_with (at_builtin; (try rw [HW8.out]); refine appL_ wc.heap.size rfl _ _ rfl _ ok [⟨nx, ny, nz⟩, ⟨-nx, -ny, -nz⟩] _ _ _ rfl rfl hS9.out.own hR9.out rfl (by simp; omega) hS9.out.below.size ?_; intro v10 w10 hv hg hat; have hS10 := Lh (hS9.out.app hv hg hat); clear hv hg hat)
                go_roundw
                case rel => exact ⟨k + 1, by omega, by go_num, by rw [hE.out]; exact hS10⟩
                case measure => simp [intOf]; omega
            · obtain rfl : k = nr := by omega
              have hE := Lh (hS.out.len (show candF (RAW.take k) = candF RAW by rw [List.take_of_length_le (by rw [NR.out]; exact Nat.le_refl _)]))
              clear hS
              go_wp2
              go_ret
              obtain ⟨A, c, hv, _, hr, hk⟩ := OwnP.rdB2 hE.out.own
              exact ⟨A, c, by rw [hv]; rfl, hr, bthen BW.out hE.out.below, fun ad e => Nat.le_trans BW.out.size (hk ad e)⟩
end Go.Proofs.Ytckdhahceelckaa.G
