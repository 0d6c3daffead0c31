import Derived.Test.YtckdhahceelckaaXN14
import Derived.Test.YtckdhahceelckaaXN6
import Derived.Test.YtckdhahceelckaaXN8
import Derived.Test.YtckdhahceelckaaXN9
namespace Go.Proofs.Ytckdhahceelckaa.G
open Go.RowKit Go.Proofs.YtckdhahceelckaaW.PrintWords Go.Proofs.YtckdhahceelckaaW.PrintLast Go.Proofs.YtckdhahceelckaaW.PrintMore
attribute [local go_sem] max2_mx min2_mn max_two min_two max_three min_three max_four min_four
attribute [local go_sem high] eqA23
set_option linter.unusedVariables false
set_option linter.unusedSimpArgs false
open Go.Shelf
attribute [local go_sem] Oper.semAt_some

/-- one round of the search for the best way; the whole -/
def apStep (a0 : P3) (ar : List P3) (ra : Int) (b0 : P3) (br : List P3) (rb : Int) (s : (P3 × Int) × Bool) (n : P3) : (P3 × Int) × Bool :=
  if long3 n = ⟨0, 0, 0⟩ then s else
    let g := gapsF (long3 n) a0 ar ra b0 br rb
    let o := if s.2 = true ∨ s.1.2 < g.1 then (long3 n, g.1) else s.1
    (if o.2 < g.2 then (minus3 ⟨0, 0, 0⟩ (long3 n), g.2) else o, false)
def apF (a0 : P3) (ar : List P3) (ra : Int) (b0 : P3) (br : List P3) (rb : Int) (l : List P3) : (P3 × Int) × Bool :=
  l.foldl (apStep a0 ar ra b0 br rb) ((⟨0, 0, 1048576⟩, -ra - rb), true)
theorem apF_snoc (a0 : P3) (ar : List P3) (ra : Int) (b0 : P3) (br : List P3) (rb : Int) (l : List P3) (x : P3) : apF a0 ar ra b0 br rb (l ++ [x]) = apStep a0 ar ra b0 br rb (apF a0 ar ra b0 br rb l) x := by simp [apF]

def enc3 (p : P3) : Array Value := #[.agg #[.int .i64 p.x, .int .i64 p.y, .int .i64 p.z]]
/-- ways' function value stops -/
theorem ways_stops (n : Nat) (hn : 3 ≤ n) (bo bf ga gb : Nat) (pa aa ea pb ab eb : List P3) (A0 A1 A2 B0 B1 B2 : Option Addr) (c0 c1 c2 d0 d1 d2 : Nat) (ra rb : Int) (W : World)
    (hga : W.heap[ga]? = some (.cells #[.slice A0 pa.length c0, .slice A1 aa.length c1, .slice A2 ea.length c2, .int .i64 ra] 36 (0, 0)))
    (hgb : W.heap[gb]? = some (.cells #[.slice B0 pb.length d0, .slice B1 ab.length d1, .slice B2 eb.length d2, .int .i64 rb] 36 (0, 0)))
    (R0 : Hid (RdX bo bf W A0 pa)) (R1 : Hid (RdX bo bf W A1 aa)) (R2 : Hid (RdX bo bf W A2 ea)) (S0 : Hid (RdX bo bf W B0 pb)) (S1 : Hid (RdX bo bf W B1 ab)) (S2 : Hid (RdX bo bf W B2 eb)) (hl1 : aa.length ≤ 40000) (hl2 : ab.length ≤ 40000) (hl3 : ea.length ≤ 40000) (hl4 : eb.length ≤ 40000) (hl5 : pa.length ≤ 40000) (hl6 : pb.length ≤ 40000)
    (hga1 : ga ≠ bo) (hga2 : ga ≠ bf) (hgb1 : gb ≠ bo) (hgb2 : gb ≠ bf) (hbo : bo < W.heap.size) (hbf : bf < W.heap.size) :
    SeqStopsK Fence.wide n Try.prog 115 #[.pointer (some ⟨ga, 0, none⟩), .pointer (some ⟨gb, 0, none⟩)] enc3 (KpX bo bf) (fun ys => ys = rawC pa aa ea pb ab eb) (fun pre => pre <+: rawC pa aa ea pb ab eb) (rawC pa aa ea pb ab eb).length W := by
  intro l J Jx W1 hW hJ hJx hY h0
  have KW : KpX bo bf W W1 := KpX.of_below hW
  have hs := hW.size
  exact ways1_in n hn l bo bf ga gb pa aa ea pb ab eb A0 A1 A2 B0 B1 B2 c0 c1 c2 d0 d1 d2 ra rb J Jx W1 hJ hJx hY (heap_keep hga KW hga1 hga2) (heap_keep hgb KW hgb1 hgb2) (R0.out.keep KW) (R1.out.keep KW) (R2.out.keep KW) (S0.out.keep KW) (S1.out.keep KW) (S2.out.keep KW) hl1 hl2 hl3 hl4 hl5 hl6 hga1 hga2 hgb1 hgb2 (by omega) (by omega) h0

set_option maxHeartbeats 1000000 in
theorem ways_calls (x0 x1 x2 x3 y0 y1 y2 y3 : Value) (w : World) :
    Calls Try.prog 58 #[.agg #[x0, x1, x2, x3], .agg #[y0, y1, y2, y3]] w fun e w' => e = .returned (.func (.func 115) #[] #[.pointer (some ⟨w.heap.size, 0, none⟩), .pointer (some ⟨w.heap.size + 1, 0, none⟩)]) ∧
      w' = (w.alloc (.cells #[x0, x1, x2, x3] 36)).alloc (.cells #[y0, y1, y2, y3] 36) := by
  go_enter Try.func58, Try.ntmps58
  go_wp2
  go_ret
  exact ⟨rfl, rfl⟩

/-- a block of four cells -/
theorem blk4_set {W : World} {g : Nat} {a b c d : Value} {t : TypeId} (h : W.heap[g]? = some (.cells #[a, b, c, d] t (0, 0))) (x y z u : Value) :
    ((((W.setCell ⟨g, 0, none⟩ x).setCell ⟨g, 1, none⟩ y).setCell ⟨g, 2, none⟩ z).setCell ⟨g, 3, none⟩ u).heap[g]? = some (.cells #[x, y, z, u] t (0, 0)) := by
  obtain ⟨hlt, hk⟩ := Array.getElem?_eq_some_iff.1 h
  simp [World.setCell, Array.getElem?_modify, h]
theorem blk4_own {β : Type} (g : Nat) (cs : β → Array Value) (t : TypeId) : Own (fun s W => W.heap[g]? = some (.cells (cs s) t (0, 0))) := fun s X Y row hs hg hrow =>
  (hg.block g (Array.getElem?_eq_some_iff.1 hs).1 (fun e' => by obtain ⟨o, ho, hc⟩ := hrow g e'.symm; rw [show X.heap[g]? = _ from hs] at ho; cases ho; cases hc)).trans hs
end Go.Proofs.Ytckdhahceelckaa.G
