/- Words for the walks of the narrow, sweep and ccd layers: points, slices of points that are read, and the plain functions that the Go code comes to. No statement. -/
import Derived.Test.YtckdhahceelckaaProg
import Derived.WalkKit
import Derived.Tactics
import Derived.Tactics2
import Derived.OwnWalk
import Derived.Below
import Derived.KernelRfl
import Derived.Deep.RegionHeld3
import Derived.Deep.DeepCutAuto
import Derived.Deep.LoopGhost
import Derived.Deep.Draws
import Derived.Deep.QuietTactic
import Derived.BigQuiet
import Derived.Lib.Hide
import Derived.Laws.Slices
import Derived.Test.YtckdhahceelckaaWWords
import Derived.Test.YtckdhahceelckaaWMore
import Derived.Test.YtckdhahceelckaaWEqStruct
namespace Go.Proofs.Ytckdhahceelckaa.G
open Go.RowKit Go.Proofs.YtckdhahceelckaaW.PrintWords Go.Proofs.YtckdhahceelckaaW.PrintLast Go.Proofs.YtckdhahceelckaaW.PrintMore
set_option linter.unusedVariables false
set_option linter.unusedSimpArgs false

theorem max2_mx (k k' : IntKind) (x y : Int) : Builtin.max2 (.int k x) (.int k' y) = pure (.int k (mx x y)) := max2_int k k' x y
theorem min2_mn (k k' : IntKind) (x y : Int) : Builtin.min2 (.int k x) (.int k' y) = pure (.int k (mn x y)) := min2_int k k' x y

structure P3 where
  x : Int
  y : Int
  z : Int
deriving DecidableEq

def dot3 (p q : P3) : Int := wrap64 ((wrap64 ((wrap64 (p.x * q.x)) + (wrap64 (p.y * q.y)))) + (wrap64 (p.z * q.z)))
def minus3 (p q : P3) : P3 := ⟨wrap64 (p.x - q.x), wrap64 (p.y - q.y), wrap64 (p.z - q.z)⟩
def cross3 (a b : P3) : P3 := ⟨wrap64 ((wrap64 (a.y * b.z)) - (wrap64 (a.z * b.y))), wrap64 ((wrap64 (a.z * b.x)) - (wrap64 (a.x * b.z))), wrap64 ((wrap64 (a.x * b.y)) - (wrap64 (a.y * b.x)))⟩
/-- a part's size is above n -/
def far3 (n : Int) (p : P3) : Bool := decide (mx (mx p.x p.y) p.z > n) || decide (mn (mn p.x p.y) p.z < wrap64 (-n))

theorem bcell {w w1 : World} (hb : Below w.heap.size w w1) : (∀ b o, b < w.heap.size → w1.cell? ⟨b, o, none⟩ = w.cell? ⟨b, o, none⟩) ∧ (∀ b o, b < w.heap.size → w1.frozen? ⟨b, o, none⟩ = w.frozen? ⟨b, o, none⟩) :=
  ⟨fun b o h => hb.cell (p := ⟨b, o, none⟩) h, fun b o h => hb.frozen (p := ⟨b, o, none⟩) h⟩
theorem bthen {w w1 w2 : World} (h : Below w.heap.size w w1) (k : Below w1.heap.size w1 w2) : Below w.heap.size w w2 := h.trans (k.mono h.size)

/-- three cells of block g hold a, b, c and may be written -/
structure C3 (w : World) (g : Nat) (a b c : Value) : Prop where
  c0 : w.cell? ⟨g, 0, none⟩ = some a
  c1 : w.cell? ⟨g, 1, none⟩ = some b
  c2 : w.cell? ⟨g, 2, none⟩ = some c
  f0 : w.frozen? ⟨g, 0, none⟩ = false
  f1 : w.frozen? ⟨g, 1, none⟩ = false
  f2 : w.frozen? ⟨g, 2, none⟩ = false
theorem C3.below {w w1 : World} {g a b c} (h : C3 w g a b c) (hb : Below w.heap.size w w1) : C3 w1 g a b c := by
  have hg : g < w.heap.size := World.block_lt_of_cell? w _ h.c0
  exact ⟨(hb.cell (p := ⟨g, 0, none⟩) hg).trans h.c0, (hb.cell (p := ⟨g, 1, none⟩) hg).trans h.c1, (hb.cell (p := ⟨g, 2, none⟩) hg).trans h.c2, (hb.frozen (p := ⟨g, 0, none⟩) hg).trans h.f0, (hb.frozen (p := ⟨g, 1, none⟩) hg).trans h.f1, (hb.frozen (p := ⟨g, 2, none⟩) hg).trans h.f2⟩
theorem C3.drew {w : World} {g a b c} (h : C3 w g a b c) : C3 w.drew g a b c := ⟨h.c0, h.c1, h.c2, h.f0, h.f1, h.f2⟩
theorem C3.drewN {w : World} {g a b c} (h : C3 w g a b c) (n : Nat) : C3 (w.drewN n) g a b c := ⟨h.c0, h.c1, h.c2, h.f0, h.f1, h.f2⟩
theorem C3.of {w : World} {g a b c t} (h : w.heap[g]? = some (.cells #[a, b, c] t (0, 0))) : C3 w g a b c :=
  ⟨blk_cell h 0, blk_cell h 1, blk_cell h 2, blk_frozen h 0, blk_frozen h 1, blk_frozen h 2⟩
theorem C3.new (w : World) (a b c : Value) (t : TypeId) : C3 (w.alloc (.cells #[a, b, c] t)) w.heap.size a b c := .of (heap_alloc_new w _)
theorem C3.alloc {w : World} {g a b c} (h : C3 w g a b c) (o : Obj) : C3 (w.alloc o) g a b c := h.below ((Below.refl _ w).alloc (Nat.le_refl _) o)
theorem C3.lt {w : World} {g a b c} (h : C3 w g a b c) : g < w.heap.size := World.block_lt_of_cell? w _ h.c0
theorem C3.far {w : World} {g a b c} (h : C3 w g a b c) {p : Addr} (hp : p.block ≠ g) (u : Value) : C3 (w.setCell p u) g a b c := by
  have e : (w.setCell p u).heap[g]? = w.heap[g]? := Below.heap_setCell w p u g (Ne.symm hp)
  exact ⟨(World.cell?_of_block (a := ⟨g, 0, none⟩) e).trans h.c0, (World.cell?_of_block (a := ⟨g, 1, none⟩) e).trans h.c1, (World.cell?_of_block (a := ⟨g, 2, none⟩) e).trans h.c2, (World.frozen?_of_block (a := ⟨g, 0, none⟩) e).trans h.f0, (World.frozen?_of_block (a := ⟨g, 1, none⟩) e).trans h.f1, (World.frozen?_of_block (a := ⟨g, 2, none⟩) e).trans h.f2⟩

theorem C3.set0 {w : World} {g a b c} (h : C3 w g a b c) (u : Value) : C3 (w.setCell ⟨g, 0, none⟩ u) g u b c :=
  ⟨World.cell?_setCell_same' _ _ _ (by rw [h.c0]; rfl), (World.cell?_setCell_other w ⟨g, 0, none⟩ ⟨g, 1, none⟩ u (by simp)).trans h.c1, (World.cell?_setCell_other w ⟨g, 0, none⟩ ⟨g, 2, none⟩ u (by simp)).trans h.c2, by rw [World.frozen?_setCell]; exact h.f0, by rw [World.frozen?_setCell]; exact h.f1, by rw [World.frozen?_setCell]; exact h.f2⟩
theorem C3.set1 {w : World} {g a b c} (h : C3 w g a b c) (u : Value) : C3 (w.setCell ⟨g, 1, none⟩ u) g a u c :=
  ⟨(World.cell?_setCell_other w ⟨g, 1, none⟩ ⟨g, 0, none⟩ u (by simp)).trans h.c0, World.cell?_setCell_same' _ _ _ (by rw [h.c1]; rfl), (World.cell?_setCell_other w ⟨g, 1, none⟩ ⟨g, 2, none⟩ u (by simp)).trans h.c2, by rw [World.frozen?_setCell]; exact h.f0, by rw [World.frozen?_setCell]; exact h.f1, by rw [World.frozen?_setCell]; exact h.f2⟩
theorem C3.set2 {w : World} {g a b c} (h : C3 w g a b c) (u : Value) : C3 (w.setCell ⟨g, 2, none⟩ u) g a b u :=
  ⟨(World.cell?_setCell_other w ⟨g, 2, none⟩ ⟨g, 0, none⟩ u (by simp)).trans h.c0, (World.cell?_setCell_other w ⟨g, 2, none⟩ ⟨g, 1, none⟩ u (by simp)).trans h.c1, World.cell?_setCell_same' _ _ _ (by rw [h.c2]; rfl), by rw [World.frozen?_setCell]; exact h.f0, by rw [World.frozen?_setCell]; exact h.f1, by rw [World.frozen?_setCell]; exact h.f2⟩
/-- the point at block g written -/
abbrev set3 (w : World) (g : Nat) (x y z : Value) : World := ((w.setCell ⟨g, 0, none⟩ x).setCell ⟨g, 1, none⟩ y).setCell ⟨g, 2, none⟩ z
theorem C3.set {w : World} {g a b c} (h : C3 w g a b c) (x y z : Value) : C3 (set3 w g x y z) g x y z := ((h.set0 x).set1 y).set2 z
theorem C3.other {w : World} {g g' a b c} (h : C3 w g a b c) (hne : g' ≠ g) (x y z : Value) : C3 (set3 w g' x y z) g a b c := ((h.far (p := ⟨g', 0, none⟩) hne x).far (p := ⟨g', 1, none⟩) hne y).far (p := ⟨g', 2, none⟩) hne z
theorem below_set3 {B : Nat} {a w : World} (h : Below B a w) {g : Nat} (hg : B ≤ g) (x y z : Value) : Below B a (set3 w g x y z) := ((h.setCell (p := ⟨g, 0, none⟩) hg x).setCell (p := ⟨g, 1, none⟩) hg y).setCell (p := ⟨g, 2, none⟩) hg z

/-- the slice at A reads as the points l -/
def Rd (w : World) (A : Option Addr) (l : List P3) : Prop :=
  ∀ i p, l[i]? = some p → ∃ b o, A = some ⟨b, o, none⟩ ∧ b < w.heap.size ∧ w.cell? ⟨b, o + i * 3, none⟩ = some (.int .i64 p.x) ∧ w.cell? ⟨b, o + i * 3 + 1, none⟩ = some (.int .i64 p.y) ∧ w.cell? ⟨b, o + i * 3 + 2, none⟩ = some (.int .i64 p.z)
theorem Rd.below {w w1 : World} {A l} (h : Rd w A l) (hb : Below w.heap.size w w1) : Rd w1 A l := fun i p hp => by
  obtain ⟨b, o, hA, hlt, h1, h2, h3⟩ := h i p hp
  exact ⟨b, o, hA, Nat.lt_of_lt_of_le hlt hb.size, (hb.cell (p := ⟨b, _, none⟩) hlt).trans h1, (hb.cell (p := ⟨b, _, none⟩) hlt).trans h2, (hb.cell (p := ⟨b, _, none⟩) hlt).trans h3⟩
theorem Rd.get {w : World} {A : Option Addr} {l : List P3} (h : Rd w A l) (i : Nat) (hi : i < l.length) : ∃ b o, A = some ⟨b, o, none⟩ ∧ b < w.heap.size ∧ w.cell? ⟨b, o + i * 3, none⟩ = some (.int .i64 l[i].x) ∧ w.cell? ⟨b, o + i * 3 + 1, none⟩ = some (.int .i64 l[i].y) ∧ w.cell? ⟨b, o + i * 3 + 2, none⟩ = some (.int .i64 l[i].z) :=
  h i _ (List.getElem?_eq_getElem hi)
theorem Rd.nil (w : World) (A : Option Addr) : Rd w A [] := fun i p hp => by simp at hp
theorem Rd.drew {w : World} {A l} (h : Rd w A l) : Rd w.drew A l := h
theorem Rd.alloc {w : World} {A l} (h : Rd w A l) (o : Obj) : Rd (w.alloc o) A l := h.below ((Below.refl _ w).alloc (Nat.le_refl _) o)

theorem info3 : (Try.prog.info? 3).map (fun i => (i.zero, i.size, i.bytes)) = some (some (.int .i64 0), 1, 8) := by kernel_rfl
theorem info23 : (Try.prog.info? 23).map (fun i => (i.zero, i.size, i.bytes)) = some (some (.agg #[(.int .i64 0), (.int .i64 0), (.int .i64 0)]), 3, 24) := by kernel_rfl

/-- '==' of two points -/
def eqP (x y z a b c : Int) : Bool := x == a && (y == b && z == c)
theorem eqA23 (d : Nat) (w : World) (x0 y0 : Int) (x1 y1 : Int) (x2 y2 : Int) :
    (Op.equalIn (d + 2) 23 (.agg #[.int .i64 x0, .int .i64 x1, .int .i64 x2]) (.agg #[.int .i64 y0, .int .i64 y1, .int .i64 y2])).run Try.prog w = .ok (eqP x0 x1 x2 y0 y1 y2) w := by
  unfold eqP
  refine eqA_of Try.underlying23 (by kernel_rfl) ?_
  refine eqf_cons (by rfl) (by go_simp; rfl) (by go_simp; rfl) (by go_simp) ?_
  refine eqf_cons (by rfl) (by go_simp; rfl) (by go_simp; rfl) (by go_simp) ?_
  exact eqf_last (by rfl) (by go_simp; rfl) (by go_simp; rfl) (by go_simp)
theorem eqP_iff (x y z a b c : Int) : eqP x y z a b c = true ↔ (⟨x, y, z⟩ : P3) = ⟨a, b, c⟩ := by
  unfold eqP; simp
theorem eqP_no {x y z a b c : Int} (h : (⟨x, y, z⟩ : P3) ≠ ⟨a, b, c⟩) : eqP x y z a b c = false := by
  cases e : eqP x y z a b c
  · rfl
  · exact absurd ((eqP_iff ..).1 e) h
theorem eqP_yes {x y z a b c : Int} (h : (⟨x, y, z⟩ : P3) = ⟨a, b, c⟩) : eqP x y z a b c = true := (eqP_iff ..).2 h

end Go.Proofs.Ytckdhahceelckaa.G
