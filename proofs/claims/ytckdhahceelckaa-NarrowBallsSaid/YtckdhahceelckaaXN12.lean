import Derived.Test.YtckdhahceelckaaXN11
import Derived.Outline
namespace Go.Proofs.Ytckdhahceelckaa.G
open Go.RowKit Go.Proofs.YtckdhahceelckaaW.PrintWords Go.Proofs.YtckdhahceelckaaW.PrintLast Go.Proofs.YtckdhahceelckaaW.PrintMore
attribute [local go_sem] max2_mx min2_mn max_two min_two max_three min_three max_four min_four
attribute [local go_sem high] eqA23
set_option linter.unusedVariables false
set_option linter.unusedSimpArgs false

def cells3 (l : List P3) : List Value := l.flatMap fun p => [.int .i64 p.x, .int .i64 p.y, .int .i64 p.z]
theorem cells3_length (l : List P3) : (cells3 l).length = l.length * 3 := by
  induction l with
  | nil => rfl
  | cons p l ih => simp only [cells3, List.flatMap_cons, List.length_append, List.length_cons, List.length_nil] at *; omega
theorem Rd.tail {w : World} {b o : Nat} {p : P3} {l : List P3} (h : Rd w (some ⟨b, o, none⟩) (p :: l)) : Rd w (some ⟨b, o + 3, none⟩) l := fun i q hq => by
  obtain ⟨b', o', e, hb, h1, h2, h3⟩ := h (i + 1) q (by simpa using hq)
  simp only [Option.some.injEq, Addr.mk.injEq, and_true] at e
  obtain ⟨rfl, rfl⟩ := e
  have ee : o + (i + 1) * 3 = o + 3 + i * 3 := by omega
  rw [ee] at h1 h2 h3
  exact ⟨b, o + 3, rfl, hb, h1, h2, h3⟩
theorem Rd.cells {w : World} {b : Nat} : ∀ {l : List P3} {o : Nat}, Rd w (some ⟨b, o, none⟩) l → ∀ (j : Nat) (u : Value), (cells3 l)[j]? = some u → w.cell? ⟨b, o + j, none⟩ = some u
  | [], o, _, j, u, hj => by simp [cells3] at hj
  | p :: l, o, h, j, u, hj => by
    obtain ⟨b', o', e, hb, h1, h2, h3⟩ := h 0 p rfl
    simp only [Option.some.injEq, Addr.mk.injEq, and_true] at e
    obtain ⟨rfl, rfl⟩ := e
    simp only [Nat.zero_mul, Nat.add_zero] at h1 h2 h3
    match j, hj with
    | 0, hj => simp only [cells3, List.flatMap_cons, List.cons_append, List.getElem?_cons_zero, Option.some.injEq] at hj; subst hj; exact h1
    | 1, hj => simp only [cells3, List.flatMap_cons, List.cons_append, List.getElem?_cons_succ, List.getElem?_cons_zero, Option.some.injEq] at hj; subst hj; exact h2
    | 2, hj => simp only [cells3, List.flatMap_cons, List.cons_append, List.getElem?_cons_succ, List.getElem?_cons_zero, Option.some.injEq] at hj; subst hj; exact h3
    | j + 3, hj =>
      have := Rd.cells h.tail j u (by simpa [cells3] using hj)
      rwa [show o + 3 + j = o + (j + 3) from by omega] at this
theorem Rd.of_cells {w : World} {b o : Nat} {l : List P3} (hb : b < w.heap.size) (h : ∀ (j : Nat) (u : Value), (cells3 l)[j]? = some u → w.cell? ⟨b, o + j, none⟩ = some u) : Rd w (some ⟨b, o, none⟩) l := by
  induction l generalizing o with
  | nil => exact Rd.nil _ _
  | cons p l ih =>
    have hl := ih (o := o + 3) (fun j u hj => by have := h (j + 3) u (by simpa [cells3] using hj); rwa [show o + (j + 3) = o + 3 + j from by omega] at this)
    intro i q hq
    cases i with
    | zero =>
      simp only [List.getElem?_cons_zero, Option.some.injEq] at hq
      subst hq
      refine ⟨b, o, rfl, hb, ?_, ?_, ?_⟩
      · simpa using h 0 (.int .i64 p.x) (by simp [cells3])
      · simpa using h 1 (.int .i64 p.y) (by simp [cells3])
      · simpa using h 2 (.int .i64 p.z) (by simp [cells3])
    | succ i =>
      obtain ⟨b', o', e, hb', h1, h2, h3⟩ := hl i q (by simpa using hq)
      simp only [Option.some.injEq, Addr.mk.injEq, and_true] at e
      obtain ⟨rfl, rfl⟩ := e
      rw [show o + 3 + i * 3 = o + (i + 1) * 3 from by omega] at h1 h2 h3
      exact ⟨b, o, rfl, hb, h1, h2, h3⟩
theorem cells3_append (l m : List P3) : cells3 (l ++ m) = cells3 l ++ cells3 m := by simp [cells3]
theorem cells3_one (l : List P3) : ∀ u ∈ cells3 l, u.oneCell' = true := by
  intro u hu
  simp only [cells3, List.mem_flatMap] at hu
  obtain ⟨p, _, hu⟩ := hu
  simp at hu
  rcases hu with rfl | rfl | rfl <;> rfl
theorem add_at (b o j : Nat) : (⟨b, o, none⟩ : Addr).add j = ⟨b, o + j, none⟩ := by unfold Addr.add; split <;> simp_all
theorem OwnP.rd {w : World} {base : Nat} {v : Value} {l : List P3} (h : OwnP w base v l) : ∃ A c, v = .slice A l.length c ∧ l.length ≤ c ∧ Rd w A l ∧ (∀ ad, A = some ad → base ≤ ad.block) := by
  have h0 := h
  obtain ⟨h1, h2⟩ := h
  rcases h2 with ⟨rfl, hn⟩ | ⟨g, cap, cur, rfl, hb, hg, hnc, hm, hsz, ht⟩
  · obtain rfl := List.eq_nil_of_length_eq_zero hn
    exact ⟨none, 0, rfl, Nat.le_refl _, Rd.nil _ _, fun ad e => by cases e⟩
  · refine ⟨some ⟨g, 0, none⟩, cap, rfl, hnc, Rd.of_cells (Array.getElem?_eq_some_iff.1 hg).1 fun j u hj => ?_, fun ad e => by cases e; exact hb⟩
    have := h0.cells (g := g) rfl j u hj
    rwa [add_at] at this
theorem OwnP.nil (w : World) (base : Nat) : OwnP w base (.slice none 0 0) [] := World.ownsRow_nil _ _ _ _
theorem OwnP.grown {w w' : World} {base : Nat} {v : Value} {l : List P3} (h : OwnP w base v l) (hb : Below w.heap.size w w') : OwnP w' base v l := pw_own_below h hb
theorem OwnP.drew {w : World} {base : Nat} {v : Value} {l : List P3} (h : OwnP w base v l) : OwnP w.drew base v l := h
theorem OwnP.base_ {w : World} {base : Nat} {v : Value} {l : List P3} (h : OwnP w base v l) (k : Nat) (hk : v.ownBlock = some k) : base ≤ k := own_base h k hk

section
variable {w : World} {ops : Array Oper} {rest : List Oper} {o : Oper} {a : Act} {Q : Exit → Act → World → Prop}
/-- append(v, xs...) of points -/
theorem append_pts (base : Nat) (hgd : o.guard = none) (s x : Operand) (ho : o.op = .call { callee := .builtin .append, args := #[s, x], argTypes := #[24, 24] })
    (v : Value) (l l2 : List P3) (A : Option Addr) (m c : Nat) (hs : a.eval s = v) (hx : a.eval x = .slice A m c) (hown : OwnP w base v l) (hr : Rd w A l2) (hm : l2.length = m) (hsz : l.length + m ≤ 1000000) (hbase : base ≤ w.heap.size)
    (h : ∀ v' w', OwnP w' base v' (l ++ l2) → w.grownBy w' v.ownBlock → wpList Try.prog ops Q rest (a.put o.dst v') w') : wpList Try.prog ops Q (o :: rest) a w := by
  obtain ⟨i0, hi, hz0, hz1, hz2⟩ := info_parts info23
  cases A with
  | none =>
    have h0 : l2 = [] := by
      cases l2 with
      | nil => rfl
      | cons p l2 => obtain ⟨b, o', e, _⟩ := hr 0 p rfl; cases e
    subst h0
    simp only [List.length_nil] at hm
    subst hm
    refine Go.Lib.wpList_append_run w hgd s x 24 24 ho v (.slice none 0 c) hs hx v w ?_ (h v w (by rw [List.append_nil]; exact hown) (World.grownBy.refl w _))
    rcases hown.2 with ⟨rfl, hn⟩ | ⟨g, cap, cur, rfl, _, _, hnc, _⟩
    · simp [Builtin.append_, run_underlying Try.underlying24, sizeOf, typeInfo, hi, Builtin.lenOf, Builtin.firstCells]
    · simp [Builtin.append_, run_underlying Try.underlying24, sizeOf, typeInfo, hi, Builtin.lenOf, Builtin.firstCells, hnc, storeCells]
  | some ad =>
    have hnews : ∀ j u, (cells3 l2)[j]? = some u → w.cell? (ad.add j) = some u := by
      cases l2 with
      | nil => intro j u hj; simp [cells3] at hj
      | cons p l2 =>
        obtain ⟨b, o', e, _⟩ := hr 0 p rfl
        simp only [Option.some.injEq] at e
        subst e
        intro j u hj
        rw [add_at]
        exact hr.cells j u hj
    refine wpList_append_own w hgd s x 24 ho base 23 i0 _ 3 24 Try.underlying24 hi hz0 hz1 hz2 rfl (by omega) v l.length (cells3 l) hs hown ad m c (cells3 l2) hx (by rw [cells3_length, hm]) hnews (cells3_one l2) (by unfold maxLen; omega) (by omega) hbase ?_
    intro v' w' h1 h2 _
    refine h v' w' ?_ h2
    show w'.ownsRow base 23 3 v' (l ++ l2).length (cells3 (l ++ l2))
    rw [cells3_append, List.length_append, hm]
    exact h1
end
end Go.Proofs.Ytckdhahceelckaa.G
