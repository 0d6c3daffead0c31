/- What the laws of this claim lean on: contracts of the functions that they reach, and plain lemmas; no condition of its own (part 1 of 6; the texts XA, XB, XL1, XN2, XN11, XN12, XN13, XN1, XN3, XN14, XN4, XN5, XN6, XN7, XN8, XN9, XN15, XN16, XN10, XN17, XL3, XW1, XW2). -/
import Derived.ArgAppend
import Derived.Below
import Derived.BigQuiet
import Derived.Carry
import Derived.ChangeArms
import Derived.ChangeShapes
import Derived.Deep.AppendLies
import Derived.Deep.CutBlock
import Derived.Deep.DeepCutAuto
import Derived.Deep.Draws
import Derived.Deep.LoopGhost
import Derived.Deep.OwnRows
import Derived.Deep.QuietTactic
import Derived.Deep.RegionHeld3
import Derived.IntWalk
import Derived.KernelRfl
import Derived.Laws.BitsAllLaws
import Derived.Laws.BitsLemmas
import Derived.Laws.BytesArg
import Derived.Laws.IdiomCopy
import Derived.Laws.MakeOwn
import Derived.Laws.OwnMore
import Derived.Laws.Rows
import Derived.Laws.Slices
import Derived.Laws.StructEq
import Derived.Lib.AppendStr
import Derived.Lib.AppendZeros
import Derived.Lib.ConvBytes
import Derived.Lib.Hide
import Derived.Lib.SmallJoins
import Derived.LoopIn
import Derived.LoopNIn
import Derived.Maps.AppendAt
import Derived.OrdersHeld
import Derived.Outline
import Derived.OwnWalk
import Derived.OwnWalkIn
import Derived.RangeFuncBound
import Derived.RangeFuncBox
import Derived.RangeFuncCalls
import Derived.RangeFuncLeaves
import Derived.RangeFuncNested
import Derived.RowKit
import Derived.RowKit3
import Derived.Shelf.Abstract
import Derived.Shelf.RegionOpen
import Derived.SizedLaws
import Derived.Tactics
import Derived.Tactics2
import Derived.TacticsInMore
import Derived.Test.YtckdhahceelckaaProg
import Derived.WalkKit
import Derived.WalkMore
import Derived.WalkSpells
import Derived.WideLaws
namespace Go.Proofs.YtckdhahceelckaaW.PrintLast
section
variable {P : Program} {ops : Array Oper} {Q : Exit → Act → World → Prop} {md : Region.Mode} {S : World → Prop} {ds : List Nat}
def Region.reachB (md : Region.Mode) (ops : Array Oper) (i : Nat) : Nat → Nat → Bool
  | 0, _ => false
  | fuel + 1, d => match ops[d]? with
    | some o => o.after.any fun e => Region.binds md e && (e.on == i || Region.reachB md ops i fuel e.on)
    | none => false
end
section
variable {P : Program} {ops : Array Oper} {Q : Exit → Act → World → Prop} {md : Region.Mode} {S : World → Prop} {ds : List Nat}
def Region.closedB (md : Region.Mode) (ops : Array Oper) (listed : Array Bool) : Bool :=
  (List.range ops.size).all fun j => !listed.getD j false || match ops[j]? with
    | some o => o.after.all fun e => !Region.binds md e || listed.getD e.on false
    | none => true
end
section
variable {P : Program} {ops : Array Oper} {Q : Exit → Act → World → Prop} {md : Region.Mode} {S : World → Prop} {ds : List Nat}
def Region.lastB (md : Region.Mode) (ops : Array Oper) (listed : Array Bool) (ds : List Nat) (i : Nat) : Bool :=
  ds.all fun d => listed.getD d true || Region.reachB md ops i ops.size d
end
section
variable {P : Program} {ops : Array Oper} {Q : Exit → Act → World → Prop} {md : Region.Mode} {S : World → Prop} {ds : List Nat}
def ListedClosed (md : Region.Mode) (ops : Array Oper) (listed : Array Bool) : Prop :=
  ∀ j oj, ops[j]? = some oj → listed.getD j false = true → ∀ e ∈ oj.after, Region.binds md e = true → listed.getD e.on false = true
end
section
variable {P : Program} {ops : Array Oper} {Q : Exit → Act → World → Prop} {md : Region.Mode} {S : World → Prop} {ds : List Nat}
theorem Region.closedB_spec {listed : Array Bool} (h : Region.closedB md ops listed = true) : ListedClosed md ops listed := by
  intro j oj hj hl e he hb
  have hlt : j < ops.size := (Array.getElem?_eq_some_iff.1 hj).1
  have h1 := List.all_eq_true.1 h j (List.mem_range.2 hlt)
  simp only [hl, hj, Bool.not_true, Bool.false_or] at h1
  have h2 := Array.all_eq_true_iff_forall_mem.1 h1 e he
  simpa [hb] using h2
end
section
variable {P : Program} {ops : Array Oper} {Q : Exit → Act → World → Prop} {md : Region.Mode} {S : World → Prop} {ds : List Nat}
theorem ListedClosed.set {listed : Array Bool} {i : Nat} (h : ListedClosed md ops listed) (hi : i ∈ Region.ready md ops listed) : ListedClosed md ops (listed.setIfInBounds i true) := by
  obtain ⟨_, oi, hoi, hall⟩ := mem_ready.1 hi
  intro j oj hj hl e he hb
  by_cases hij : i = j
  · subst hij
    have : oj = oi := Option.some.inj (hj.symm.trans hoi)
    subst this
    exact getD_set_true (hall e he hb)
  · rw [getD_set_ne false hij] at hl
    exact getD_set_true (h j oj hj hl e he hb)
end
section
variable {P : Program} {ops : Array Oper} {Q : Exit → Act → World → Prop} {md : Region.Mode} {S : World → Prop} {ds : List Nat}
theorem Region.reach_listed {listed : Array Bool} {i : Nat} (hc : ListedClosed md ops listed) : ∀ (fuel d : Nat), Region.reachB md ops i fuel d = true → listed.getD d false = true → listed.getD i false = true
  | 0, _, h, _ => by simp [Region.reachB] at h
  | fuel + 1, d, h, hl => by
    unfold Region.reachB at h
    cases ho : ops[d]? with
    | none => rw [ho] at h; simp at h
    | some o =>
      rw [ho] at h
      obtain ⟨e, he, h1⟩ := Array.any_eq_true'.1 h
      simp only [Bool.and_eq_true, Bool.or_eq_true, beq_iff_eq] at h1
      have hle := hc d o ho hl e he h1.1
      rcases h1.2 with h2 | h2
      · rw [← h2]; exact hle
      · exact Region.reach_listed hc fuel e.on h2 hle
end
section
variable {P : Program} {ops : Array Oper} {Q : Exit → Act → World → Prop} {md : Region.Mode} {S : World → Prop} {ds : List Nat}
theorem Region.reach_not_ready {listed : Array Bool} {i d fuel : Nat} (hc : ListedClosed md ops listed) (hr : Region.reachB md ops i fuel d = true) (hun : listed.getD i true = false) : d ∉ Region.ready md ops listed := by
  intro hd
  obtain ⟨_, o, ho, hall⟩ := mem_ready.1 hd
  have hi : listed.getD i false = true := by
    cases fuel with
    | zero => simp [Region.reachB] at hr
    | succ n =>
      unfold Region.reachB at hr
      rw [ho] at hr
      obtain ⟨e, he, h1⟩ := Array.any_eq_true'.1 hr
      simp only [Bool.and_eq_true, Bool.or_eq_true, beq_iff_eq] at h1
      have hle := hall e he h1.1
      rcases h1.2 with h2 | h2
      · rw [← h2]; exact hle
      · exact Region.reach_listed hc n e.on h2 hle
  rcases Nat.lt_or_ge i listed.size with h' | h'
  · simp [h'] at hun hi
    rw [hun] at hi
    cases hi
  · simp [Array.getElem?_eq_none h'] at hun
end
section
variable {P : Program} {ops : Array Oper} {Q : Exit → Act → World → Prop} {md : Region.Mode} {S : World → Prop} {ds : List Nat}
def wpAnyLast (P : Program) (md : Region.Mode) (ops : Array Oper) (Q : Exit → Act → World → Prop) (S : World → Prop) (ds : List Nat) : Nat → Array Bool → Act → World → Prop
  | 0, listed, a, w => Region.ready md ops listed = [] ∧ Q .normal a w
  | fuel + 1, listed, a, w =>
    (Region.ready md ops listed = [] → Q .normal a w) ∧
    ∀ i ∈ Region.ready md ops listed, wpOp P ops Q i (fun a' w' => (i ∉ ds → S w → S w') ∧ wpAnyLast P md ops Q S ds fuel (listed.setIfInBounds i true) a' w') a w
end
section
variable {P : Program} {ops : Array Oper} {Q : Exit → Act → World → Prop} {md : Region.Mode} {S : World → Prop} {ds : List Nat}
theorem wpAny_of_last : ∀ (fuel : Nat) (listed : Array Bool) (a : Act) (w : World), wpAnyLast P md ops Q S ds fuel listed a w → wpAny P md ops Q fuel listed a w
  | 0, _, _, _, h => h
  | fuel + 1, _, _, _, h => ⟨h.1, fun i hi => wpOp_mono (fun a' w' h' => wpAny_of_last fuel _ a' w' h'.2) (h.2 i hi)⟩
end
section
variable {P : Program} {ops : Array Oper} {Q : Exit → Act → World → Prop} {md : Region.Mode} {S : World → Prop} {ds : List Nat}
theorem wpAnyLast_first {i : Nat} {oi : Oper} {v : Value} (hi : ops[i]? = some oi) (hsel : ∀ (j : Nat) (o : Oper) cs b, ops[j]? = some o → o.op ≠ .select cs b)
    (hQ : ∀ c a w, Q (.panic c) (a.put oi.dst v) w → Q (.panic c) a w) (n : Nat) :
    ∀ (fuel : Nat) (listed : Array Bool) (a : Act) (w : World),
      (∀ j oj, ops[j]? = some oj → j ≠ i → listed.getD j true = false → (∀ e ∈ oj.after, Region.binds md e = true → e.on ≠ i) → oi.apart ops oj = true) →
      ListedClosed md ops listed → (∀ d ∈ ds, listed.getD d true = false → Region.reachB md ops i n d = true) →
      i ∈ Region.ready md ops listed → YieldsIf P ops S oi v a → S w →
      wpAnyLast P md ops Q S ds fuel (listed.setIfInBounds i true) (a.put oi.dst v) w → wpAnyLast P md ops Q S ds (fuel + 1) listed a w := by
  intro fuel
  induction fuel with
  | zero =>
    intro listed a w _ _ _ hr hy hS H
    refine ⟨fun h => (by rw [h] at hr; cases hr), fun j hj => ?_⟩
    by_cases hji : j = i
    · subst hji; exact hy.wpOp hi hS ⟨fun _ h => h, H⟩
    · have := ready_mono hj hji
      rw [H.1] at this
      cases this
  | succ fuel ih =>
    intro listed a w hfree hc hd hr hy hS H
    refine ⟨fun h => (by rw [h] at hr; cases hr), fun j hj => ?_⟩
    by_cases hji : j = i
    · subst hji; exact hy.wpOp hi hS ⟨fun _ h => h, H⟩
    · have h1 := H.2 j (ready_mono hj hji)
      obtain ⟨hjun, oj, hoj, hall⟩ := mem_ready.1 hj
      have hiun := (mem_ready.1 hr).1
      have hnot : ∀ e ∈ oj.after, Region.binds md e = true → e.on ≠ i := fun e he hb heq => by
        have h1 := hall e he hb
        rw [heq] at h1
        rcases Nat.lt_or_ge i listed.size with h' | h'
        · simp [h'] at hiun h1; rw [hiun] at h1; cases h1
        · simp [Array.getElem?_eq_none h'] at h1
      have hjd : j ∉ ds := fun hm => Region.reach_not_ready hc (hd j hm hjun) hiun hj
      have h2 := wpOp_putIf hoj (hfree j oj hoj hji hjun hnot) (fun cs b => hsel i oi cs b hi) (fun cs b => hsel j oj cs b hoj) hQ hy h1
      have hfree' : ∀ k ok, ops[k]? = some ok → k ≠ i → (listed.setIfInBounds j true).getD k true = false →
          (∀ e ∈ ok.after, Region.binds md e = true → e.on ≠ i) → oi.apart ops ok = true := fun k ok hk hki hun hno => by
        refine hfree k ok hk hki ?_ hno
        by_cases hjk : j = k
        · subst hjk; exact hjun
        · rw [getD_set_ne true hjk] at hun; exact hun
      have hd' : ∀ d ∈ ds, (listed.setIfInBounds j true).getD d true = false → Region.reachB md ops i n d = true := fun d hm hun => by
        refine hd d hm ?_
        by_cases hjk : j = d
        · subst hjk; exact hjun
        · rw [getD_set_ne true hjk] at hun; exact hun
      refine wpOp_mono (fun a' w' h3 => ⟨h3.2.1, ih (listed.setIfInBounds j true) a' w' hfree' (hc.set hj) hd' (ready_mono hr (Ne.symm hji)) h3.1 (h3.2.1 hjd hS) ?_⟩) h2
      rw [Array.setIfInBounds_comm _ _ hji]
      exact h3.2.2
end
section
variable {P : Program} {ops : Array Oper} {Q : Exit → Act → World → Prop} {md : Region.Mode} {S : World → Prop} {ds : List Nat}
theorem wpAnyLast_any {i : Nat} {oi : Oper} {v : Value} (hi : ops[i]? = some oi) (hsel : ∀ (j : Nat) (o : Oper) cs b, ops[j]? = some o → o.op ≠ .select cs b)
    (hQ : ∀ c a w, Q (.panic c) (a.put oi.dst v) w → Q (.panic c) a w) :
    ∀ (fuel : Nat) (listed : Array Bool) (a : Act) (w : World),
      (∀ j oj, ops[j]? = some oj → j ≠ i → listed.getD j true = false → (∀ e ∈ oj.after, Region.binds md e = true → e.on ≠ i) → oi.apart ops oj = true) →
      i ∈ Region.ready md ops listed → Yields P ops oi v a →
      wpAnyLast P md ops Q S ds fuel (listed.setIfInBounds i true) (a.put oi.dst v) w → wpAnyLast P md ops Q S ds (fuel + 1) listed a w := by
  intro fuel
  induction fuel with
  | zero =>
    intro listed a w _ hr hy H
    refine ⟨fun h => (by rw [h] at hr; cases hr), fun j hj => ?_⟩
    by_cases hji : j = i
    · subst hji; exact (hy.yieldsIf (S := fun _ => True)).wpOp hi trivial ⟨fun _ h => h, H⟩
    · have := ready_mono hj hji
      rw [H.1] at this
      cases this
  | succ fuel ih =>
    intro listed a w hfree hr hy H
    refine ⟨fun h => (by rw [h] at hr; cases hr), fun j hj => ?_⟩
    by_cases hji : j = i
    · subst hji; exact (hy.yieldsIf (S := fun _ => True)).wpOp hi trivial ⟨fun _ h => h, H⟩
    · have h1 := H.2 j (ready_mono hj hji)
      obtain ⟨hjun, oj, hoj, hall⟩ := mem_ready.1 hj
      have hiun := (mem_ready.1 hr).1
      have hnot : ∀ e ∈ oj.after, Region.binds md e = true → e.on ≠ i := fun e he hb heq => by
        have h1 := hall e he hb
        rw [heq] at h1
        rcases Nat.lt_or_ge i listed.size with h' | h'
        · simp [h'] at hiun h1; rw [hiun] at h1; cases h1
        · simp [Array.getElem?_eq_none h'] at h1
      have h2 := wpOp_put hoj (hfree j oj hoj hji hjun hnot) (fun cs b => hsel i oi cs b hi) (fun cs b => hsel j oj cs b hoj) hQ hy h1
      have hfree' : ∀ k ok, ops[k]? = some ok → k ≠ i → (listed.setIfInBounds j true).getD k true = false →
          (∀ e ∈ ok.after, Region.binds md e = true → e.on ≠ i) → oi.apart ops ok = true := fun k ok hk hki hun hno => by
        refine hfree k ok hk hki ?_ hno
        by_cases hjk : j = k
        · subst hjk; exact hjun
        · rw [getD_set_ne true hjk] at hun; exact hun
      refine wpOp_mono (fun a' w' h3 => ⟨h3.2.1, ih (listed.setIfInBounds j true) a' w' hfree' (ready_mono hr (Ne.symm hji)) h3.1 ?_⟩) h2
      rw [Array.setIfInBounds_comm _ _ hji]
      exact h3.2.2
end
section
variable {P : Program} {ops : Array Oper} {Q : Exit → Act → World → Prop} {md : Region.Mode} {S : World → Prop} {ds : List Nat}
theorem wpAnyLast_take {i : Nat} {oi : Oper} {v : Value} {fuel : Nat} {listed : Array Bool} {a : Act} {w : World} (hi : ops[i]? = some oi)
    (hs : Region.noSelect ops = true) (hf : Region.free md ops listed i = true) (hr : (Region.ready md ops listed).contains i = true)
    (hc : Region.closedB md ops listed = true) (hl : Region.lastB md ops listed ds i = true)
    (hQ : ∀ c a w, Q (.panic c) (a.put oi.dst v) w → Q (.panic c) a w) (hy : YieldsIf P ops S oi v a) (hS : S w)
    (h : wpAnyLast P md ops Q S ds fuel (listed.setIfInBounds i true) (a.put oi.dst v) w) : wpAnyLast P md ops Q S ds (fuel + 1) listed a w :=
  wpAnyLast_first hi (Region.noSelect_spec hs) hQ ops.size fuel listed a w (Region.free_spec hi hf) (Region.closedB_spec hc)
    (fun d hm hun => by have := List.all_eq_true.1 hl d hm; rw [hun] at this; simpa using this) (by simpa using hr) hy hS h
end
section
variable {P : Program} {ops : Array Oper} {Q : Exit → Act → World → Prop} {md : Region.Mode} {S : World → Prop} {ds : List Nat}
theorem wpAnyLast_all {rs : List Nat} {fuel : Nat} {listed : Array Bool} {a : Act} {w : World} (hr : Region.ready md ops listed = rs) (hne : rs ≠ [])
    (h : ∀ i ∈ rs, wpOp P ops Q i (fun a' w' => (i ∉ ds → S w → S w') ∧ wpAnyLast P md ops Q S ds fuel (listed.setIfInBounds i true) a' w') a w) : wpAnyLast P md ops Q S ds (fuel + 1) listed a w :=
  ⟨fun h0 => absurd (hr ▸ h0) hne, hr ▸ h⟩
end
section
variable {P : Program} {ops : Array Oper} {Q : Exit → Act → World → Prop} {md : Region.Mode} {S : World → Prop} {ds : List Nat}
theorem wpAnyLast_done {listed : Array Bool} {a : Act} {w : World} (hr : Region.ready md ops listed = []) (h : Q .normal a w) :
    ∀ fuel, wpAnyLast P md ops Q S ds fuel listed a w
  | 0 => ⟨hr, h⟩
  | _ + 1 => ⟨fun _ => h, by rw [hr]; simp⟩
end
section
variable {P : Program} {ops : Array Oper} {Q : Exit → Act → World → Prop} {md : Region.Mode} {S : World → Prop} {ds : List Nat}
theorem wp_region_last {id : Nat} {a : Act} {w : World} (hm : P.follows .mixedOrders = true)
    (h : wpAnyLast P .any ops Q S ds ops.size (Array.replicate ops.size false) a { w with drawn := w.drawn + 1 }) : (Code.region id ops true).wp P Q a w :=
  wp_region_any hm (wpAny_of_last _ _ _ _ h)
end
section
variable {P : Program} {ops : Array Oper} {Q : Exit → Act → World → Prop} {md : Region.Mode} {S : World → Prop} {ds : List Nat}
def AllReadyL (P : Program) (md : Region.Mode) (ops : Array Oper) (Q : Exit → Act → World → Prop) (S : World → Prop) (ds : List Nat) (fuel : Nat) (listed : Array Bool) (a : Act) (w : World) (rs : List Nat) : Prop :=
  ∀ i ∈ rs, wpOp P ops Q i (fun a' w' => (i ∉ ds → S w → S w') ∧ wpAnyLast P md ops Q S ds fuel (listed.setIfInBounds i true) a' w') a w
end
section
variable {P : Program} {ops : Array Oper} {Q : Exit → Act → World → Prop} {md : Region.Mode} {S : World → Prop} {ds : List Nat}
theorem AllReadyL.nil {fuel : Nat} {listed : Array Bool} {a : Act} {w : World} : AllReadyL P md ops Q S ds fuel listed a w [] := fun _ h => by cases h
end
section
variable {P : Program} {ops : Array Oper} {Q : Exit → Act → World → Prop} {md : Region.Mode} {S : World → Prop} {ds : List Nat}
theorem AllReadyL.cons {fuel : Nat} {listed : Array Bool} {a : Act} {w : World} {i : Nat} {o : Oper} {rs : List Nat} (ho : ops[i]? = some o) (hd : i ∉ ds)
    (h : ∀ K' : Act → World → Prop, Shut (∀ a w, S w → (S w → wpAnyLast P md ops Q S ds fuel (listed.setIfInBounds i true) a w) → K' a w) → if Region.wanted o (yielded ops a.tmps) = true then Oper.wp P o a w K' Q else K' (a.put o.dst undef) w)
    (hs : AllReadyL P md ops Q S ds fuel listed a w rs) : AllReadyL P md ops Q S ds fuel listed a w (i :: rs) := fun j hj => by
  rcases List.mem_cons.1 hj with rfl | hj
  · exact wpOp_step ho (fun K' hK => h K' (fun a w hS hW => hK a w ⟨fun _ _ => hS, hW hS⟩))
  · exact hs j hj
end
section
variable {P : Program} {ops : Array Oper} {Q : Exit → Act → World → Prop} {md : Region.Mode} {S : World → Prop} {ds : List Nat}
theorem AllReadyL.cons_last {fuel : Nat} {listed : Array Bool} {a : Act} {w : World} {i : Nat} {o : Oper} {rs : List Nat} (ho : ops[i]? = some o) (hd : i ∈ ds)
    (h : ∀ K' : Act → World → Prop, Shut (∀ a w, wpAnyLast P md ops Q S ds fuel (listed.setIfInBounds i true) a w → K' a w) → if Region.wanted o (yielded ops a.tmps) = true then Oper.wp P o a w K' Q else K' (a.put o.dst undef) w)
    (hs : AllReadyL P md ops Q S ds fuel listed a w rs) : AllReadyL P md ops Q S ds fuel listed a w (i :: rs) := fun j hj => by
  rcases List.mem_cons.1 hj with rfl | hj
  · exact wpOp_step ho (fun K' hK => h K' (fun a w hW => hK a w ⟨fun hn => absurd hd hn, hW⟩))
  · exact hs j hj
end
section
variable {P : Program} {ops : Array Oper} {Q : Exit → Act → World → Prop} {md : Region.Mode} {S : World → Prop} {ds : List Nat}
theorem wpAnyLast_ready {rs : List Nat} {fuel : Nat} {listed : Array Bool} {a : Act} {w : World} (hr : Region.ready md ops listed = rs) (hne : rs ≠ [])
    (h : AllReadyL P md ops Q S ds fuel listed a w rs) : wpAnyLast P md ops Q S ds (fuel + 1) listed a w := wpAnyLast_all hr hne h
end
section
variable {P : Program} {ops : Array Oper} {Q : Exit → Act → World → Prop} {md : Region.Mode} {S : World → Prop} {ds : List Nat}
theorem start_ {id n : Nat} {a : Act} {w : World} (l : Array Bool) (hm : P.follows .mixedOrders = true) (hn : ops.size = n) (hl : Array.replicate n false = l) (hS : S w.drew)
    (h : S w.drew → wpAnyLast P .any ops Q S ds n l a w.drew) : (Code.region id ops true).wp P Q a w := by
  subst hn
  subst hl
  exact wp_region_last hm (h hS)
end
section
variable {P : Program} {ops : Array Oper} {Q : Exit → Act → World → Prop} {md : Region.Mode} {S : World → Prop} {ds : List Nat}
def takeB (md : Region.Mode) (ops : Array Oper) (ds : List Nat) (l l' : Array Bool) (i : Nat) : Bool :=
  Region.noSelect ops && Region.free md ops l i && (Region.ready md ops l).contains i && Region.closedB md ops l && Region.lastB md ops l ds i && (l.setIfInBounds i true == l')
end
section
variable {P : Program} {ops : Array Oper} {Q : Exit → Act → World → Prop} {md : Region.Mode} {S : World → Prop} {ds : List Nat}
theorem take_ {i : Nat} {N : Option Tmp} {oi : Oper} {v : Value} {fuel : Nat} {l : Array Bool} {a : Act} {w : World} (l' : Array Bool) (hi : ops[i]? = some oi) (hN : oi.dst = N) (hc : takeB md ops ds l l' i = true)
    (hQ : ∀ c a w, Q (.panic c) (a.put oi.dst v) w → Q (.panic c) a w) (hy : YieldsIf P ops S oi v a) (hS : S w) {a' : Act} (ha : a.put N v = a')
    (h : wpAnyLast P md ops Q S ds fuel l' a' w) : wpAnyLast P md ops Q S ds (fuel + 1) l a w := by
  subst ha
  subst hN
  simp only [takeB, Bool.and_eq_true, beq_iff_eq] at hc
  obtain ⟨⟨⟨⟨⟨h1, h2⟩, h3⟩, h4⟩, h5⟩, h6⟩ := hc
  subst h6
  exact wpAnyLast_take hi h1 h2 h3 h4 h5 hQ hy hS h
end
section
variable {P : Program} {ops : Array Oper} {Q : Exit → Act → World → Prop} {md : Region.Mode} {S : World → Prop} {ds : List Nat}
def anyB (md : Region.Mode) (ops : Array Oper) (l l' : Array Bool) (i : Nat) : Bool :=
  Region.noSelect ops && Region.free md ops l i && (Region.ready md ops l).contains i && (l.setIfInBounds i true == l')
end
section
variable {P : Program} {ops : Array Oper} {Q : Exit → Act → World → Prop} {md : Region.Mode} {S : World → Prop} {ds : List Nat}
theorem pure_ {i : Nat} {N : Option Tmp} {oi : Oper} {v : Value} {fuel : Nat} {l : Array Bool} {a : Act} {w : World} (l' : Array Bool) (hi : ops[i]? = some oi) (hN : oi.dst = N) (hc : anyB md ops l l' i = true)
    (hQ : ∀ c a w, Q (.panic c) (a.put oi.dst v) w → Q (.panic c) a w) (hy : Yields P ops oi v a) {a' : Act} (ha : a.put N v = a')
    (h : wpAnyLast P md ops Q S ds fuel l' a' w) : wpAnyLast P md ops Q S ds (fuel + 1) l a w := by
  subst ha
  subst hN
  simp only [anyB, Bool.and_eq_true, beq_iff_eq] at hc
  obtain ⟨⟨⟨h1, h2⟩, h3⟩, h6⟩ := hc
  subst h6
  exact wpAnyLast_any hi (Region.noSelect_spec h1) hQ fuel l a w (Region.free_spec hi h2) (by simpa using h3) hy h
end
section
variable {P : Program} {ops : Array Oper} {Q : Exit → Act → World → Prop} {md : Region.Mode} {S : World → Prop} {ds : List Nat}
def readyB (md : Region.Mode) (ops : Array Oper) (l l' : Array Bool) (i : Nat) : Bool := (Region.ready md ops l == [i]) && (l.setIfInBounds i true == l')
end
section
variable {P : Program} {ops : Array Oper} {Q : Exit → Act → World → Prop} {md : Region.Mode} {S : World → Prop} {ds : List Nat}
theorem one_ {i : Nat} {N : Option Tmp} {oi : Oper} {fuel : Nat} {l : Array Bool} {a : Act} {w : World} (l' : Array Bool) (hi : ops[i]? = some oi) (hN : oi.dst = N) (hc : readyB md ops l l' i = true) (hd : i ∉ ds)
    (h : ∀ K : Act → World → Prop, Shut (∀ a' w', S w' → (S w' → wpAnyLast P md ops Q S ds fuel l' a' w') → K a' w') → if Region.wanted oi (yielded ops a.tmps) = true then Oper.wp P oi a w K Q else K (a.put N undef) w) :
    wpAnyLast P md ops Q S ds (fuel + 1) l a w := by
  subst hN
  simp only [readyB, Bool.and_eq_true, beq_iff_eq] at hc
  obtain ⟨h1, h2⟩ := hc
  subst h2
  exact wpAnyLast_ready h1 (by simp) (AllReadyL.cons hi hd (fun K hK => h K hK) AllReadyL.nil)
end
section
variable {P : Program} {ops : Array Oper} {Q : Exit → Act → World → Prop} {md : Region.Mode} {S : World → Prop} {ds : List Nat}
theorem last_ {i : Nat} {N : Option Tmp} {oi : Oper} {fuel : Nat} {l : Array Bool} {a : Act} {w : World} (l' : Array Bool) (hi : ops[i]? = some oi) (hN : oi.dst = N) (hc : readyB md ops l l' i = true) (hd : i ∈ ds)
    (h : ∀ K : Act → World → Prop, Shut (∀ a' w', wpAnyLast P md ops Q S ds fuel l' a' w' → K a' w') → if Region.wanted oi (yielded ops a.tmps) = true then Oper.wp P oi a w K Q else K (a.put N undef) w) :
    wpAnyLast P md ops Q S ds (fuel + 1) l a w := by
  subst hN
  simp only [readyB, Bool.and_eq_true, beq_iff_eq] at hc
  obtain ⟨h1, h2⟩ := hc
  subst h2
  exact wpAnyLast_ready h1 (by simp) (AllReadyL.cons_last hi hd (fun K hK => h K hK) AllReadyL.nil)
end
section
variable {P : Program} {ops : Array Oper} {Q : Exit → Act → World → Prop} {md : Region.Mode} {S : World → Prop} {ds : List Nat}
theorem done_ {l : Array Bool} {a : Act} {w : World} {n : Nat} (hr : (Region.ready md ops l == []) = true) (h : Q .normal a w) : wpAnyLast P md ops Q S ds n l a w := wpAnyLast_done (by simpa using hr) h n
end
section
variable {P : Program} {ops : Array Oper} {Q : Exit → Act → World → Prop} {md : Region.Mode} {S : World → Prop} {ds : List Nat}
theorem two_ {i j : Nat} {Ni Nj : Option Tmp} {oi oj : Oper} {fuel : Nat} {l : Array Bool} {a : Act} {w : World} (li lj : Array Bool) (hi : ops[i]? = some oi) (hj : ops[j]? = some oj) (hNi : oi.dst = Ni) (hNj : oj.dst = Nj)
    (hc : (Region.ready md ops l == [i, j] && l.setIfInBounds i true == li && l.setIfInBounds j true == lj) = true) (hdi : i ∉ ds) (hdj : j ∉ ds)
    (h1 : ∀ K : Act → World → Prop, Shut (∀ a' w', S w' → (S w' → wpAnyLast P md ops Q S ds fuel li a' w') → K a' w') → if Region.wanted oi (yielded ops a.tmps) = true then Oper.wp P oi a w K Q else K (a.put Ni undef) w)
    (h2 : ∀ K : Act → World → Prop, Shut (∀ a' w', S w' → (S w' → wpAnyLast P md ops Q S ds fuel lj a' w') → K a' w') → if Region.wanted oj (yielded ops a.tmps) = true then Oper.wp P oj a w K Q else K (a.put Nj undef) w) :
    wpAnyLast P md ops Q S ds (fuel + 1) l a w := by
  subst hNi
  subst hNj
  simp only [Bool.and_eq_true, beq_iff_eq] at hc
  obtain ⟨⟨h3, h4⟩, h5⟩ := hc
  subst h4
  subst h5
  exact wpAnyLast_ready h3 (by simp) (AllReadyL.cons hi hdi (fun K hK => h1 K hK) (AllReadyL.cons hj hdj (fun K hK => h2 K hK) AllReadyL.nil))
end
section
variable {P : Program} {ops : Array Oper} {Q : Exit → Act → World → Prop} {md : Region.Mode} {S : World → Prop} {ds : List Nat}
def putAll : Act → List (Tmp × Value) → Act
  | a, [] => a
  | a, (n, v) :: r => putAll (a.put (some n) v) r
end
section
variable {P : Program} {ops : Array Oper} {Q : Exit → Act → World → Prop} {md : Region.Mode} {S : World → Prop} {ds : List Nat}
theorem join_ {σ : Type} {fuel : Nat} {l : Array Bool} {a : Act} {w : World} (fuel' : Nat) (l' : Array Bool) (ns : σ → List (Tmp × Value)) (F : σ → World → Prop)
    (hcont : ∀ s w', F s w' → wpAnyLast P md ops Q S ds fuel' l' (putAll a (ns s)) w')
    (h : (∀ s w', F s w' → wpAnyLast P md ops Q S ds fuel' l' (putAll a (ns s)) w') → wpAnyLast P md ops Q S ds fuel l a w) : wpAnyLast P md ops Q S ds fuel l a w := h hcont
end
section
variable {P : Program} {ops : Array Oper} {Q : Exit → Act → World → Prop} {md : Region.Mode} {S : World → Prop} {ds : List Nat}
theorem norm_ {fuel : Nat} {l : Array Bool} {a a' : Act} {w : World} (ha : a = a') (h : wpAnyLast P md ops Q S ds fuel l a' w) : wpAnyLast P md ops Q S ds fuel l a w := by
  subst ha
  exact h
end
section
variable {P : Program} {ops : Array Oper} {Q : Exit → Act → World → Prop} {md : Region.Mode} {S : World → Prop} {ds : List Nat}
theorem call_ {oi : Oper} {N : Option Tmp} {a : Act} {w : World} {K : Act → World → Prop} (f : FuncId) (args : Array Value) (hw : Region.wanted oi (yielded ops a.tmps) = true) (hN : oi.dst = N) (hrun : (execOp a.eval oi).run P w = .ok (.enter f args) w)
    (h : Calls P f args w fun e w' => ∃ v, e = .returned v ∧ K (a.put N v) w') : if Region.wanted oi (yielded ops a.tmps) = true then Oper.wp P oi a w K Q else K (a.put N undef) w := by
  rw [if_pos hw]
  subst hN
  unfold Oper.wp
  rw [hrun, Oper.upon_enter]
  refine h.mono fun e w'' hh => ?_
  obtain ⟨v, rfl, hk⟩ := hh
  exact hk
end
section
variable {P : Program} {ops : Array Oper} {Q : Exit → Act → World → Prop} {md : Region.Mode} {S : World → Prop} {ds : List Nat}
theorem enters_ {f : FuncId} {fn : Func} (hf : P.funcs[f]? = some fn) (hname : (fn.name == "runtime.NumGoroutine") = false) (hb : fn.body.isSome = true) (args : Array Value) (w : World) : (callFunc f args).run P w = .ok (.enter f args) w := by
  have h1 : fn.name ≠ "runtime.NumGoroutine" := by simpa using hname
  obtain ⟨c, hc⟩ := Option.isSome_iff_exists.1 hb
  simp [callFunc, hf, h1, hc]
end
section
variable {P : Program} {ops : Array Oper} {Q : Exit → Act → World → Prop} {md : Region.Mode} {S : World → Prop} {ds : List Nat}
theorem goes_ {oi : Oper} {N : Option Tmp} {a : Act} {w : World} {K : Act → World → Prop} {f : FuncId} {fn : Func} {os : Array Operand} {ts : Array TypeId} (hf : P.funcs[f]? = some fn) (hname : (fn.name == "runtime.NumGoroutine") = false) (hb : fn.body.isSome = true) (args : Array Value)
    (hw : Region.wanted oi (yielded ops a.tmps) = true) (hN : oi.dst = N) (hop : oi.op = .call { callee := .value (.func f), args := os, argTypes := ts }) (hargs : os.map a.eval = args)
    (h : Calls P f args w fun e w' => ∃ v, e = .returned v ∧ K (a.put N v) w') : if Region.wanted oi (yielded ops a.tmps) = true then Oper.wp P oi a w K Q else K (a.put N undef) w := by
  refine call_ f args hw hN ?_ h
  have he := enters_ hf hname hb args w
  unfold execOp
  simp [hop, resolve, Deferred.ofValue, invoke, Act.eval, hargs, he]
end
section
variable {P : Program} {ops : Array Oper} {Q : Exit → Act → World → Prop} {md : Region.Mode} {S : World → Prop} {ds : List Nat}
theorem value_ {oi : Oper} {N : Option Tmp} {a : Act} {w w1 : World} {v : Value} {K : Act → World → Prop} (hw : Region.wanted oi (yielded ops a.tmps) = true) (hN : oi.dst = N) (hrun : (execOp a.eval oi).run P w = .ok (.value v) w1)
    (h : K (a.put N v) w1) : if Region.wanted oi (yielded ops a.tmps) = true then Oper.wp P oi a w K Q else K (a.put N undef) w := by
  rw [if_pos hw]
  subst hN
  unfold Oper.wp
  rw [hrun]
  exact h
end
section
variable {P : Program} {ops : Array Oper} {Q : Exit → Act → World → Prop} {md : Region.Mode} {S : World → Prop} {ds : List Nat}
theorem skip_ {oi : Oper} {a : Act} {w w1 : World} {K : Act → World → Prop} (hw : Region.wanted oi (yielded ops a.tmps) = true) (hN : oi.dst = none) (hrun : (execOp a.eval oi).run P w = .ok .skip w1)
    (h : K a w1) : if Region.wanted oi (yielded ops a.tmps) = true then Oper.wp P oi a w K Q else K (a.put none undef) w := by
  rw [if_pos hw]
  unfold Oper.wp
  rw [hrun]
  show K (a.put oi.dst undef) w1
  rw [hN]
  exact h
end
section
variable {P : Program} {ops : Array Oper} {Q : Exit → Act → World → Prop} {md : Region.Mode} {S : World → Prop} {ds : List Nat}
theorem i64_w (n : Int) : IntKind.i64.wrap n = Go.RowKit.wrap64 n := by unfold Go.RowKit.wrap64; exact IntKind.wrap_i64 n
end
section
variable {P : Program} {ops : Array Oper} {Q : Exit → Act → World → Prop} {md : Region.Mode} {S : World → Prop} {ds : List Nat}
theorem i32_w (n : Int) : IntKind.i32.wrap n = Go.RowKit.wrap32 n := by unfold Go.RowKit.wrap32; exact IntKind.wrap_i32 n
end
end Go.Proofs.YtckdhahceelckaaW.PrintLast
namespace Go.Proofs.YtckdhahceelckaaW.PrintWords
open Go.RowKit
theorem pw_below_drewN {B : Nat} {w W : World} (h : Below B w W) (n : Nat) : Below B w (W.drewN n) := ⟨h.os, h.tape, h.output, h.size, h.block⟩
theorem grown_of_below {w w1 : World} (h : Below w.heap.size w w1) (row : Option Nat) : w.grownBy w1 row := ⟨h.os, h.tape, h.output, h.size, fun i hi _ => h.block i hi⟩
open Go.RowKit
theorem own_base {w : World} {base : Nat} {e : TypeId} {size n : Nat} {v : Value} {xs : List Value} (h : w.ownsRow base e size v n xs) (k : Nat) (hk : v.ownBlock = some k) : base ≤ k := by
  rcases h.2 with ⟨rfl, _⟩ | ⟨g, cap, cur, rfl, hb, _⟩
  · simp [Value.ownBlock] at hk
  · have : g = k := by simpa [Value.ownBlock] using hk
    omega
theorem pw_own_below {w w1 : World} {base : Nat} {e : TypeId} {size n : Nat} {v : Value} {xs : List Value} (h : w.ownsRow base e size v n xs) (hb : Below w.heap.size w w1) : w1.ownsRow base e size v n xs :=
  h.kept (grown_of_below hb none) (by cases v.ownBlock <;> simp)
open Go.RowKit
theorem own_setCell {w : World} {base : Nat} {e : TypeId} {size n : Nat} {v : Value} {xs : List Value} (h : w.ownsRow base e size v n xs) {p : Addr} (hne : some p.block ≠ v.ownBlock) (u : Value) : (w.setCell p u).ownsRow base e size v n xs := by
  obtain ⟨h1, h2⟩ := h
  refine ⟨h1, ?_⟩
  rcases h2 with h2 | ⟨g, cap, cur, rfl, hg, hh, r⟩
  · exact .inl h2
  · exact .inr ⟨g, cap, cur, rfl, hg, by rw [Below.heap_setCell _ _ _ _ (fun e => hne (by rw [e]; rfl))]; exact hh, r⟩
theorem blk_lt {w : World} {g : Nat} {o : Obj} (h : w.heap[g]? = some o) : g < w.heap.size := (Array.getElem?_eq_some_iff.1 h).1
open Go.RowKit
theorem blk_cell {w : World} {g : Nat} {t : TypeId} {cs : Array Value} (h : w.heap[g]? = some (.cells cs t (0, 0))) (i : Nat) : w.cell? ⟨g, i, none⟩ = cs[i]? := cell_of_row w g i cs t (0, 0) h
theorem blk_frozen {w : World} {g : Nat} {t : TypeId} {cs : Array Value} (h : w.heap[g]? = some (.cells cs t (0, 0))) (i : Nat) : w.frozen? ⟨g, i, none⟩ = false := by simp [World.frozen?, h]
open Go.RowKit
theorem own_weaken {w : World} {base base' : Nat} {e : TypeId} {size n : Nat} {v : Value} {xs : List Value} (h : w.ownsRow base e size v n xs) (hb : base' ≤ base) : w.ownsRow base' e size v n xs := by
  obtain ⟨h1, h2⟩ := h
  refine ⟨h1, ?_⟩
  rcases h2 with h2 | ⟨g, cap, cur, rfl, hg, r⟩
  · exact .inl h2
  · exact .inr ⟨g, cap, cur, rfl, Nat.le_trans hb hg, r⟩
theorem blk_alloc {w : World} {g : Nat} {o : Obj} (h : w.heap[g]? = some o) (o' : Obj) : (w.alloc o').heap[g]? = some o := (Below.heap_alloc w o' g (blk_lt h)).trans h
open Go.RowKit
theorem blk_below {w w1 : World} {g : Nat} {o : Obj} (h : w.heap[g]? = some o) (hb : Below w.heap.size w w1) : w1.heap[g]? = some o := (hb.block g (blk_lt h)).trans h
section
variable {P : Program}
theorem cut_from (t e : TypeId) (kl : IntKind) {i : TypeInfo} (ht : P.underlying t = some (.slice e)) (hi : P.info? e = some i) (size : Nat) (hsz : i.size = size) (A : Option Addr) (n c : Nat) (j : Int) (h0 : 0 ≤ j) (hm : j ≤ n) :
    ∀ W : World, (Instr.slice t (.slice A n c) (some (.int kl j)) none none).run P W = .ok (.slice (if c = j.toNat then A else A.map (·.add (j.toNat * size))) (n - j.toNat) (c - j.toNat)) W := by
  intro W
  have hel : P.elem t = e := by simp [Program.elem, ht]
  have hu : P.underlying t = some (.slice (P.elem t)) := by rw [hel]; exact ht
  rw [run_slice_l W t A n c hu kl j h0 hm, hel]
  simp [sizeOf, typeInfo, hi, hsz, sliced, Result.andThen]
end
end Go.Proofs.YtckdhahceelckaaW.PrintWords
namespace Go.Proofs.YtckdhahceelckaaW.PrintMore
open Go.RowKit Go.Proofs.YtckdhahceelckaaW.PrintWords
theorem max2_int (k k' : IntKind) (x y : Int) : Builtin.max2 (.int k x) (.int k' y) = pure (.int k (if x < y then y else x)) := by simp only [Builtin.max2, gt_iff_lt]
theorem min2_int (k k' : IntKind) (x y : Int) : Builtin.min2 (.int k x) (.int k' y) = pure (.int k (if y < x then y else x)) := by simp only [Builtin.min2]
open Go.RowKit Go.Proofs.YtckdhahceelckaaW.PrintWords
theorem max_two (ats : Array TypeId) (ty : TypeId) (a b : Value) : Builtin.max_ ats ty #[a, b] = (Builtin.max2 a b >>= fun s => pure s) := by simp only [Builtin.max_, List.foldlM_cons, List.foldlM_nil]
theorem min_two (ats : Array TypeId) (ty : TypeId) (a b : Value) : Builtin.min_ ats ty #[a, b] = (Builtin.min2 a b >>= fun s => pure s) := by simp only [Builtin.min_, List.foldlM_cons, List.foldlM_nil]
open Go.RowKit Go.Proofs.YtckdhahceelckaaW.PrintWords
theorem max_three (ats : Array TypeId) (ty : TypeId) (a b c : Value) : Builtin.max_ ats ty #[a, b, c] = (Builtin.max2 a b >>= fun s => Builtin.max2 s c >>= fun s => pure s) := by simp only [Builtin.max_, List.foldlM_cons, List.foldlM_nil]
theorem min_three (ats : Array TypeId) (ty : TypeId) (a b c : Value) : Builtin.min_ ats ty #[a, b, c] = (Builtin.min2 a b >>= fun s => Builtin.min2 s c >>= fun s => pure s) := by simp only [Builtin.min_, List.foldlM_cons, List.foldlM_nil]
open Go.RowKit Go.Proofs.YtckdhahceelckaaW.PrintWords
theorem max_four (ats : Array TypeId) (ty : TypeId) (a b c d : Value) : Builtin.max_ ats ty #[a, b, c, d] = (Builtin.max2 a b >>= fun s => Builtin.max2 s c >>= fun s => Builtin.max2 s d >>= fun s => pure s) := by simp only [Builtin.max_, List.foldlM_cons, List.foldlM_nil]
theorem min_four (ats : Array TypeId) (ty : TypeId) (a b c d : Value) : Builtin.min_ ats ty #[a, b, c, d] = (Builtin.min2 a b >>= fun s => Builtin.min2 s c >>= fun s => Builtin.min2 s d >>= fun s => pure s) := by simp only [Builtin.min_, List.foldlM_cons, List.foldlM_nil]
end Go.Proofs.YtckdhahceelckaaW.PrintMore
namespace Go.Proofs.YtckdhahceelckaaW.PrintWords
open Go.RowKit
def mx (a b : Int) : Int := if a < b then b else a
def mn (a b : Int) : Int := if b < a then b else a
open Go.RowKit
section
variable {P : Program} {d : Nat} {xs ys : Array Value} {f : Field} {fs : List Field} {a b : Value} {r s : Bool} {w : World}
theorem eqf_last (hn : (f.name == "_") = false) (ha : (part f.type xs f.offset).run P w = .ok a w) (hb : (part f.type ys f.offset).run P w = .ok b w) (he : (Op.equalIn d f.type a b).run P w = .ok r w) : (Op.eqFields d xs ys [f]).run P w = .ok r w := by
  have hn' : f.name ≠ "_" := by simpa using hn
  simp only [Op.eqFields, if_pos hn', Sem.run_bind, ha, hb, he, Result.andThen_ok]
  cases r <;> simp
end
section
variable {P : Program} {d : Nat} {xs ys : Array Value} {f : Field} {fs : List Field} {a b : Value} {r s : Bool} {w : World}
theorem eqf_cons (hn : (f.name == "_") = false) (ha : (part f.type xs f.offset).run P w = .ok a w) (hb : (part f.type ys f.offset).run P w = .ok b w) (he : (Op.equalIn d f.type a b).run P w = .ok r w) (hr : (Op.eqFields d xs ys fs).run P w = .ok s w) : (Op.eqFields d xs ys (f :: fs)).run P w = .ok (r && s) w := by
  have hn' : f.name ≠ "_" := by simpa using hn
  rw [Op.eqFields]
  simp only [if_pos hn', Sem.run_bind, ha, hb, he, Result.andThen_ok]
  cases r
  · simp
  · simpa using hr
end
open Go.RowKit
section
variable {P : Program} {d : Nat} {xs ys : Array Value} {f : Field} {fs : List Field} {a b : Value} {r s : Bool} {w : World}
theorem eqA_of {t : TypeId} {fs : Array Field} (hu : P.underlying t = some (.struct fs)) (hp : P.stoodInHeld t = false) (h : (Op.eqFields d xs ys fs.toList).run P w = .ok r w) : (Op.equalIn (d + 1) t (.agg xs) (.agg ys)).run P w = .ok r w := by
  have hf : P.fieldsOf t = fs := by simp [Program.fieldsOf, hu]
  rw [run_equalIn_struct (P := P) w d t xs ys (by rw [hf]; exact hu) hp, hf]
  exact h
end
end Go.Proofs.YtckdhahceelckaaW.PrintWords
namespace Go.Proofs.Ytckdhahceelckaa.G
open Go.RowKit Go.Proofs.YtckdhahceelckaaW.PrintWords Go.Proofs.YtckdhahceelckaaW.PrintLast Go.Proofs.YtckdhahceelckaaW.PrintMore
set_option linter.unusedVariables false
set_option linter.unusedSimpArgs false
theorem max2_mx (k k' : IntKind) (x y : Int) : Builtin.max2 (.int k x) (.int k' y) = pure (.int k (mx x y)) := max2_int k k' x y
theorem min2_mn (k k' : IntKind) (x y : Int) : Builtin.min2 (.int k x) (.int k' y) = pure (.int k (mn x y)) := min2_int k k' x y
/-- the first k are, the rest are not -/
abbrev MT (k m : Nat) : Array Bool := (List.replicate k true ++ List.replicate m false).toArray
structure P3 where
  x : Int
  y : Int
  z : Int
deriving DecidableEq
def dot3 (p q : P3) : Int := wrap64 ((wrap64 ((wrap64 (p.x * q.x)) + (wrap64 (p.y * q.y)))) + (wrap64 (p.z * q.z)))
def minus3 (p q : P3) : P3 := ⟨wrap64 (p.x - q.x), wrap64 (p.y - q.y), wrap64 (p.z - q.z)⟩
def cross3 (a b : P3) : P3 := ⟨wrap64 ((wrap64 (a.y * b.z)) - (wrap64 (a.z * b.y))), wrap64 ((wrap64 (a.z * b.x)) - (wrap64 (a.x * b.z))), wrap64 ((wrap64 (a.x * b.y)) - (wrap64 (a.y * b.x)))⟩
/-- a part's size is above n -/
def far3 (n : Int) (p : P3) : Bool := decide (mx (mx p.x p.y) p.z > n) || decide (mn (mn p.x p.y) p.z < wrap64 (-n))
theorem bcell {w w1 : World} (hb : Below w.heap.size w w1) : (∀ b o, b < w.heap.size → w1.cell? ⟨b, o, none⟩ = w.cell? ⟨b, o, none⟩) ∧ (∀ b o, b < w.heap.size → w1.frozen? ⟨b, o, none⟩ = w.frozen? ⟨b, o, none⟩) :=
  ⟨fun b o h => hb.cell (p := ⟨b, o, none⟩) h, fun b o h => hb.frozen (p := ⟨b, o, none⟩) h⟩
theorem bthen {w w1 w2 : World} (h : Below w.heap.size w w1) (k : Below w1.heap.size w1 w2) : Below w.heap.size w w2 := h.trans (k.mono h.size)
/-- three cells of block g hold a, b, c and may be written -/
structure C3 (w : World) (g : Nat) (a b c : Value) : Prop where
  c0 : w.cell? ⟨g, 0, none⟩ = some a
  c1 : w.cell? ⟨g, 1, none⟩ = some b
  c2 : w.cell? ⟨g, 2, none⟩ = some c
  f0 : w.frozen? ⟨g, 0, none⟩ = false
  f1 : w.frozen? ⟨g, 1, none⟩ = false
  f2 : w.frozen? ⟨g, 2, none⟩ = false
theorem C3.below {w w1 : World} {g a b c} (h : C3 w g a b c) (hb : Below w.heap.size w w1) : C3 w1 g a b c := by
  have hg : g < w.heap.size := World.block_lt_of_cell? w _ h.c0
  exact ⟨(hb.cell (p := ⟨g, 0, none⟩) hg).trans h.c0, (hb.cell (p := ⟨g, 1, none⟩) hg).trans h.c1, (hb.cell (p := ⟨g, 2, none⟩) hg).trans h.c2, (hb.frozen (p := ⟨g, 0, none⟩) hg).trans h.f0, (hb.frozen (p := ⟨g, 1, none⟩) hg).trans h.f1, (hb.frozen (p := ⟨g, 2, none⟩) hg).trans h.f2⟩
theorem C3.drew {w : World} {g a b c} (h : C3 w g a b c) : C3 w.drew g a b c := ⟨h.c0, h.c1, h.c2, h.f0, h.f1, h.f2⟩
theorem C3.drewN {w : World} {g a b c} (h : C3 w g a b c) (n : Nat) : C3 (w.drewN n) g a b c := ⟨h.c0, h.c1, h.c2, h.f0, h.f1, h.f2⟩
theorem C3.of {w : World} {g a b c t} (h : w.heap[g]? = some (.cells #[a, b, c] t (0, 0))) : C3 w g a b c :=
  ⟨blk_cell h 0, blk_cell h 1, blk_cell h 2, blk_frozen h 0, blk_frozen h 1, blk_frozen h 2⟩
theorem C3.new (w : World) (a b c : Value) (t : TypeId) : C3 (w.alloc (.cells #[a, b, c] t)) w.heap.size a b c := .of (heap_alloc_new w _)
theorem C3.alloc {w : World} {g a b c} (h : C3 w g a b c) (o : Obj) : C3 (w.alloc o) g a b c := h.below ((Below.refl _ w).alloc (Nat.le_refl _) o)
theorem C3.lt {w : World} {g a b c} (h : C3 w g a b c) : g < w.heap.size := World.block_lt_of_cell? w _ h.c0
theorem C3.far {w : World} {g a b c} (h : C3 w g a b c) {p : Addr} (hp : p.block ≠ g) (u : Value) : C3 (w.setCell p u) g a b c := by
  have e : (w.setCell p u).heap[g]? = w.heap[g]? := Below.heap_setCell w p u g (Ne.symm hp)
  exact ⟨(World.cell?_of_block (a := ⟨g, 0, none⟩) e).trans h.c0, (World.cell?_of_block (a := ⟨g, 1, none⟩) e).trans h.c1, (World.cell?_of_block (a := ⟨g, 2, none⟩) e).trans h.c2, (World.frozen?_of_block (a := ⟨g, 0, none⟩) e).trans h.f0, (World.frozen?_of_block (a := ⟨g, 1, none⟩) e).trans h.f1, (World.frozen?_of_block (a := ⟨g, 2, none⟩) e).trans h.f2⟩
theorem C3.set0 {w : World} {g a b c} (h : C3 w g a b c) (u : Value) : C3 (w.setCell ⟨g, 0, none⟩ u) g u b c :=
  ⟨World.cell?_setCell_same' _ _ _ (by rw [h.c0]; rfl), (World.cell?_setCell_other w ⟨g, 0, none⟩ ⟨g, 1, none⟩ u (by simp)).trans h.c1, (World.cell?_setCell_other w ⟨g, 0, none⟩ ⟨g, 2, none⟩ u (by simp)).trans h.c2, by rw [World.frozen?_setCell]; exact h.f0, by rw [World.frozen?_setCell]; exact h.f1, by rw [World.frozen?_setCell]; exact h.f2⟩
theorem C3.set1 {w : World} {g a b c} (h : C3 w g a b c) (u : Value) : C3 (w.setCell ⟨g, 1, none⟩ u) g a u c :=
  ⟨(World.cell?_setCell_other w ⟨g, 1, none⟩ ⟨g, 0, none⟩ u (by simp)).trans h.c0, World.cell?_setCell_same' _ _ _ (by rw [h.c1]; rfl), (World.cell?_setCell_other w ⟨g, 1, none⟩ ⟨g, 2, none⟩ u (by simp)).trans h.c2, by rw [World.frozen?_setCell]; exact h.f0, by rw [World.frozen?_setCell]; exact h.f1, by rw [World.frozen?_setCell]; exact h.f2⟩
theorem C3.set2 {w : World} {g a b c} (h : C3 w g a b c) (u : Value) : C3 (w.setCell ⟨g, 2, none⟩ u) g a b u :=
  ⟨(World.cell?_setCell_other w ⟨g, 2, none⟩ ⟨g, 0, none⟩ u (by simp)).trans h.c0, (World.cell?_setCell_other w ⟨g, 2, none⟩ ⟨g, 1, none⟩ u (by simp)).trans h.c1, World.cell?_setCell_same' _ _ _ (by rw [h.c2]; rfl), by rw [World.frozen?_setCell]; exact h.f0, by rw [World.frozen?_setCell]; exact h.f1, by rw [World.frozen?_setCell]; exact h.f2⟩
/-- the point at block g written -/
abbrev set3 (w : World) (g : Nat) (x y z : Value) : World := ((w.setCell ⟨g, 0, none⟩ x).setCell ⟨g, 1, none⟩ y).setCell ⟨g, 2, none⟩ z
theorem C3.set {w : World} {g a b c} (h : C3 w g a b c) (x y z : Value) : C3 (set3 w g x y z) g x y z := ((h.set0 x).set1 y).set2 z
theorem C3.other {w : World} {g g' a b c} (h : C3 w g a b c) (hne : g' ≠ g) (x y z : Value) : C3 (set3 w g' x y z) g a b c := ((h.far (p := ⟨g', 0, none⟩) hne x).far (p := ⟨g', 1, none⟩) hne y).far (p := ⟨g', 2, none⟩) hne z
theorem below_set3 {B : Nat} {a w : World} (h : Below B a w) {g : Nat} (hg : B ≤ g) (x y z : Value) : Below B a (set3 w g x y z) := ((h.setCell (p := ⟨g, 0, none⟩) hg x).setCell (p := ⟨g, 1, none⟩) hg y).setCell (p := ⟨g, 2, none⟩) hg z
/-- the slice at A reads as the points l -/
def Rd (w : World) (A : Option Addr) (l : List P3) : Prop :=
  ∀ i p, l[i]? = some p → ∃ b o, A = some ⟨b, o, none⟩ ∧ b < w.heap.size ∧ w.cell? ⟨b, o + i * 3, none⟩ = some (.int .i64 p.x) ∧ w.cell? ⟨b, o + i * 3 + 1, none⟩ = some (.int .i64 p.y) ∧ w.cell? ⟨b, o + i * 3 + 2, none⟩ = some (.int .i64 p.z)
theorem Rd.below {w w1 : World} {A l} (h : Rd w A l) (hb : Below w.heap.size w w1) : Rd w1 A l := fun i p hp => by
  obtain ⟨b, o, hA, hlt, h1, h2, h3⟩ := h i p hp
  exact ⟨b, o, hA, Nat.lt_of_lt_of_le hlt hb.size, (hb.cell (p := ⟨b, _, none⟩) hlt).trans h1, (hb.cell (p := ⟨b, _, none⟩) hlt).trans h2, (hb.cell (p := ⟨b, _, none⟩) hlt).trans h3⟩
theorem Rd.get {w : World} {A : Option Addr} {l : List P3} (h : Rd w A l) (i : Nat) (hi : i < l.length) : ∃ b o, A = some ⟨b, o, none⟩ ∧ b < w.heap.size ∧ w.cell? ⟨b, o + i * 3, none⟩ = some (.int .i64 l[i].x) ∧ w.cell? ⟨b, o + i * 3 + 1, none⟩ = some (.int .i64 l[i].y) ∧ w.cell? ⟨b, o + i * 3 + 2, none⟩ = some (.int .i64 l[i].z) :=
  h i _ (List.getElem?_eq_getElem hi)
theorem Rd.nil (w : World) (A : Option Addr) : Rd w A [] := fun i p hp => by simp at hp
theorem Rd.drew {w : World} {A l} (h : Rd w A l) : Rd w.drew A l := h
theorem Rd.alloc {w : World} {A l} (h : Rd w A l) (o : Obj) : Rd (w.alloc o) A l := h.below ((Below.refl _ w).alloc (Nat.le_refl _) o)
theorem info23 : (Try.prog.info? 23).map (fun i => (i.zero, i.size, i.bytes)) = some (some (.agg #[(.int .i64 0), (.int .i64 0), (.int .i64 0)]), 3, 24) := by kernel_rfl
/-- '==' of two points -/
def eqP (x y z a b c : Int) : Bool := x == a && (y == b && z == c)
theorem eqA23 (d : Nat) (w : World) (x0 y0 : Int) (x1 y1 : Int) (x2 y2 : Int) :
    (Op.equalIn (d + 2) 23 (.agg #[.int .i64 x0, .int .i64 x1, .int .i64 x2]) (.agg #[.int .i64 y0, .int .i64 y1, .int .i64 y2])).run Try.prog w = .ok (eqP x0 x1 x2 y0 y1 y2) w := by
  unfold eqP
  refine eqA_of Try.underlying23 (by kernel_rfl) ?_
  refine eqf_cons (by rfl) (by go_simp; rfl) (by go_simp; rfl) (by go_simp) ?_
  refine eqf_cons (by rfl) (by go_simp; rfl) (by go_simp; rfl) (by go_simp) ?_
  exact eqf_last (by rfl) (by go_simp; rfl) (by go_simp; rfl) (by go_simp)
theorem eqP_iff (x y z a b c : Int) : eqP x y z a b c = true ↔ (⟨x, y, z⟩ : P3) = ⟨a, b, c⟩ := by
  unfold eqP; simp
theorem eqP_no {x y z a b c : Int} (h : (⟨x, y, z⟩ : P3) ≠ ⟨a, b, c⟩) : eqP x y z a b c = false := by
  cases e : eqP x y z a b c
  · rfl
  · exact absurd ((eqP_iff ..).1 e) h
theorem eqP_yes {x y z a b c : Int} (h : (⟨x, y, z⟩ : P3) = ⟨a, b, c⟩) : eqP x y z a b c = true := (eqP_iff ..).2 h
section
variable {P : Program} {ops : Array Oper} {Q : Exit → Act → World → Prop} {md : Region.Mode} {S : World → Prop} {ds : List Nat}
/-- a pure operation -/
theorem pu_ (i : Nat) (n : Tmp) {oi : Oper} {v : Value} {fuel : Nat} {l l' : Array Bool} {a a' : Act} {w : World}
    (hi : ops[i]? = some oi := by rfl) (hN : oi.dst = some n := by rfl)
    (hl : l.setIfInBounds i true = l' := by simp only [List.setIfInBounds_toArray, List.set_cons_zero, List.set_cons_succ]; rfl)
    (hc : anyB md ops l l' i = true := by kernel_rfl)
    (hQ : ∀ c a w, Q (.panic c) (a.put oi.dst v) w → Q (.panic c) a w := by exact fun _ _ _ h => h)
    (hy : Yields P ops oi v a := by exact Or.inl ⟨by rfl, by intro w'; go_simp; with_reducible rfl⟩)
    (ha : a.put (some n) v = a' := by first | (simp only [Act.put, List.setIfInBounds_toArray, List.set_cons_zero, List.set_cons_succ, i64_w, i32_w]; rfl) | rfl)
    (h : wpAnyLast P md ops Q S ds fuel l' a' w) : wpAnyLast P md ops Q S ds (fuel + 1) l a w :=
  pure_ l' hi hN hc hQ hy ha h
/-- one whose guard is off -/
theorem of_ (i : Nat) (n : Tmp) {oi : Oper} {fuel : Nat} {l l' : Array Bool} {a a' : Act} {w : World}
    (hi : ops[i]? = some oi := by rfl) (hN : oi.dst = some n := by rfl)
    (hl : l.setIfInBounds i true = l' := by simp only [List.setIfInBounds_toArray, List.set_cons_zero, List.set_cons_succ]; rfl)
    (hc : anyB md ops l l' i = true := by kernel_rfl)
    (hQ : ∀ c a w, Q (.panic c) (a.put oi.dst undef) w → Q (.panic c) a w := by exact fun _ _ _ h => h)
    (hy : Yields P ops oi undef a := by exact Or.inr ⟨by rfl, rfl⟩)
    (ha : a.put (some n) undef = a' := by first | (simp only [Act.put, List.setIfInBounds_toArray, List.set_cons_zero, List.set_cons_succ, i64_w, i32_w]; rfl) | rfl)
    (h : wpAnyLast P md ops Q S ds fuel l' a' w) : wpAnyLast P md ops Q S ds (fuel + 1) l a w :=
  pure_ l' hi hN hc hQ hy ha h
/-- one that reads what S says -/
theorem ta_ (i : Nat) (n : Tmp) {oi : Oper} {v : Value} {fuel : Nat} {l l' : Array Bool} {a a' : Act} {w : World} (hS : S w)
    (hi : ops[i]? = some oi := by rfl) (hN : oi.dst = some n := by rfl)
    (hl : l.setIfInBounds i true = l' := by simp only [List.setIfInBounds_toArray, List.set_cons_zero, List.set_cons_succ]; rfl)
    (hc : takeB md ops ds l l' i = true := by kernel_rfl)
    (hQ : ∀ c a w, Q (.panic c) (a.put oi.dst v) w → Q (.panic c) a w := by exact fun _ _ _ h => h)
    (hy : YieldsIf P ops S oi v a := by exact Or.inl ⟨by rfl, by intro w' hs; (repeat (obtain ⟨_, hs⟩ := hs)); go_simp; with_reducible rfl⟩)
    (ha : a.put (some n) v = a' := by first | (simp only [Act.put, List.setIfInBounds_toArray, List.set_cons_zero, List.set_cons_succ, i64_w, i32_w]; rfl) | rfl)
    (h : wpAnyLast P md ops Q S ds fuel l' a' w) : wpAnyLast P md ops Q S ds (fuel + 1) l a w :=
  take_ l' hi hN hc hQ hy hS ha h
/-- the one that may come up now -/
theorem on_ (i : Nat) (N : Option Tmp) {oi : Oper} {fuel : Nat} {l l' : Array Bool} {a : Act} {w : World}
    (hi : ops[i]? = some oi := by rfl) (hN : oi.dst = N := by rfl)
    (hl : l.setIfInBounds i true = l' := by simp only [List.setIfInBounds_toArray, List.set_cons_zero, List.set_cons_succ]; rfl)
    (hc : readyB md ops l l' i = true := by kernel_rfl) (hd : i ∉ ds := by decide)
    (h : ∀ K : Act → World → Prop, Shut (∀ a' w', S w' → (S w' → wpAnyLast P md ops Q S ds fuel l' a' w') → K a' w') → if Region.wanted oi (yielded ops a.tmps) = true then Oper.wp P oi a w K Q else K (a.put N undef) w) :
    wpAnyLast P md ops Q S ds (fuel + 1) l a w :=
  one_ l' hi hN hc hd h
theorem no_ {fuel : Nat} {l : Array Bool} {a a' : Act} {w : World} (ha : a = a' := by first | (simp only [putAll, Act.put, List.setIfInBounds_toArray, List.set_cons_zero, List.set_cons_succ, i64_w, i32_w]; rfl) | rfl)
    (h : wpAnyLast P md ops Q S ds fuel l a' w) : wpAnyLast P md ops Q S ds fuel l a w := norm_ ha h
end
/-- said short: hidden -/
theorem Lh {p : Prop} (h : p) : Hid p := Lib.hid h
/-- a call, said short -/
theorem gs_ {P : Program} {ops : Array Oper} {Q : Exit → Act → World → Prop} {oi : Oper} {N : Option Tmp} {a : Act} {w : World} {K : Act → World → Prop} {f : FuncId} {fn : Func} {os : Array Operand} {ts : Array TypeId} (hf : P.funcs[f]? = some fn) (args : Array Value)
    (h : Calls P f args w fun e w' => ∃ v, e = .returned v ∧ K (a.put N v) w')
    (hname : (fn.name == "runtime.NumGoroutine") = false := by kernel_rfl) (hb : fn.body.isSome = true := by rfl) (hw : Region.wanted oi (yielded ops a.tmps) = true := by rfl) (hN : oi.dst = N := by rfl) (hop : oi.op = .call { callee := .value (.func f), args := os, argTypes := ts } := by rfl) (hargs : os.map a.eval = args := by simp only [List.map_toArray, List.map_cons, List.map_nil]; rfl) : if Region.wanted oi (yielded ops a.tmps) = true then Oper.wp P oi a w K Q else K (a.put N undef) w :=
  goes_ hf hname hb args hw hN hop hargs h
end Go.Proofs.Ytckdhahceelckaa.G
namespace Go.Proofs.Ytckdhahceelckaa.G
open Go.ChangeShapes Go.WideShapes Go.RowKit
set_option linter.unusedVariables false
theorem i64_of_wf {n : Int} (h : (Lit.int .i64 n).wf = true) : -9223372036854775808 ≤ n ∧ n ≤ 9223372036854775807 := by
  simp [Lit.wf] at h
  have e : IntKind.i64.min = -9223372036854775808 := by decide
  omega
set_option maxRecDepth 100000 in
theorem open_num {H : Type} {enc : TypeId × Value → H} {W : World} {base : Nat} {spare : Nat → Bool} {held : Bool} {r : Reach} {b0 : Nat} {v : Value} {d : DataW H} {p : List MemPlace}
    (hval : Value.okWide Try.prog W r b0 3 v) (h : DataW.Trod enc Try.prog W base spare held 3 v d p) : ∃ n, v = .int .i64 n ∧ -9223372036854775808 ≤ n ∧ n ≤ 9223372036854775807 := by
  obtain ⟨n, rfl, _, _, hw⟩ := open_int Try.underlying3 hval h
  exact ⟨n, rfl, i64_of_wf hw⟩
theorem laidOut : laidOutB Try.prog = true := by kernel_rfl
end Go.Proofs.Ytckdhahceelckaa.G
namespace Go.Proofs.Ytckdhahceelckaa.G
open Go.RowKit Go.Proofs.YtckdhahceelckaaW.PrintWords Go.Proofs.YtckdhahceelckaaW.PrintLast Go.Proofs.YtckdhahceelckaaW.PrintMore
attribute [local go_sem] max2_mx min2_mn max_two min_two max_three min_three max_four min_four
set_option linter.unusedVariables false
set_option linter.unusedSimpArgs false
theorem gcd_tmod (a b : Int) : Int.gcd b (a.tmod b) = Int.gcd a b := by
  rw [Int.tmod_def, Int.gcd_comm]
  exact Int.gcd_sub_mul_left_left b a _
theorem ret_int {k : IntKind} {a b : Int} (h : a = b) : Ending.returned (.int k a) = Ending.returned (.int k b) := by rw [h]
theorem w64_id (x : Int) (h1 : -9223372036854775808 ≤ x) (h2 : x ≤ 9223372036854775807) : wrap64 x = x := by unfold wrap64; omega
set_option maxHeartbeats 1000000 in
theorem gcd_calls (a b : Int) (w : World) (ha1 : -4611686018427387904 ≤ a) (ha2 : a ≤ 4611686018427387904) (hb1 : -4611686018427387904 ≤ b) (hb2 : b ≤ 4611686018427387904) :
    Calls Try.prog 166 #[.int .i64 a, .int .i64 b] w fun e w' => e = .returned (.int .i64 (Int.gcd a b)) ∧ Below w.heap.size w w' := by
  go_enter Try.func166, Try.ntmps166
  go_wp2
  go_loopw [0, 1] (fun v0 v1 wr => ∃ x y : Int, v0 = .int .i64 x ∧ v1 = .int .i64 y ∧ Hid (Int.gcd x y = Int.gcd a b) ∧ -4611686018427387904 ≤ x ∧ x ≤ 4611686018427387904 ∧ -4611686018427387904 ≤ y ∧ y ≤ 4611686018427387904 ∧ Below w.heap.size w wr) (fun _ y _ => (intOf y).natAbs)
  case atStart => exact ⟨a, b, rfl, rfl, rfl, ha1, ha2, hb1, hb2, Below.refl _ _⟩
  case round =>
    obtain ⟨x, y, rfl, rfl, hg, hx1, hx2, hy1, hy2, hbr⟩ := hrel
    clear ha1 ha2 hb1 hb2
    by_cases h0 : y = 0
    · subst h0
      go_wp2
      go_ret
      refine ⟨ret_int ?_, hbr⟩
      have e := hg.out
      simp at e
      rw [← e]
      unfold mx
      omega
    · have h0' : (y != 0) = true := by simpa using h0
      have h0'' : (y == 0) = false := by simpa using h0
      have hG := gcd_tmod x y
      have hm1 : (x.tmod y).natAbs < y.natAbs := by rw [Int.natAbs_tmod]; exact Nat.mod_lt _ (by omega)
      have HG : Hid (Int.gcd y (x.tmod y) = Int.gcd a b) := hG.trans hg.out
      clear hG hg
      go_wp2
      go_quiet (fail)
      go_wp2
      go_roundw
      case rel => exact ⟨y, x.tmod y, rfl, rfl, HG, by omega, by omega, by omega, by omega, pw_below_drewN hbr _⟩
      case measure => simpa [intOf] using hm1
theorem beyond_calls (x y z n : Int) (w : World) (hn1 : 0 ≤ n) (hn2 : n ≤ 9223372036854775807) :
    Calls Try.prog 123 #[.agg #[.int .i64 x, .int .i64 y, .int .i64 z], .int .i64 n] w fun e w' => e = .returned (.bool (far3 n ⟨x, y, z⟩)) ∧ Below w.heap.size w w' := by
  have hw : wrap64 (-n) = -n := w64_id _ (by omega) (by omega)
  unfold far3
  rw [hw]
  clear hw
  go_enter Try.func123, Try.ntmps123
  go_wp2
  all_goals (go_ret; exact ⟨by simp [*], ((Below.refl _ _).alloc (Nat.le_refl _) _)⟩)
theorem tdiv_le (x n : Int) (B : Nat) (hx : x.natAbs ≤ B) : (x.tdiv n).natAbs ≤ B := by
  rw [Int.natAbs_tdiv]; exact Nat.le_trans (Nat.div_le_self _ _) hx
theorem iw_id (x : Int) (h1 : -9223372036854775808 ≤ x) (h2 : x ≤ 9223372036854775807) : IntKind.i64.wrap x = x := by rw [IntKind.wrap_i64]; omega
theorem iw_tdiv (x n : Int) (h1 : -4611686018427387904 ≤ x) (h2 : x ≤ 4611686018427387904) : IntKind.i64.wrap (x.tdiv n) = x.tdiv n := by
  have := tdiv_le x n 4611686018427387904 (by omega)
  exact iw_id _ (by omega) (by omega)
def div3 (n : Int) (p : P3) : P3 := ⟨p.x.tdiv n, p.y.tdiv n, p.z.tdiv n⟩
set_option maxHeartbeats 1000000 in
theorem divisor_calls (n x y z : Int) (w : World) (hn : n ≠ 0) (hn1 : 1 ≤ n) (hx1 : -4611686018427387904 ≤ x) (hx2 : x ≤ 4611686018427387904) (hy1 : -4611686018427387904 ≤ y) (hy2 : y ≤ 4611686018427387904) (hz1 : -4611686018427387904 ≤ z) (hz2 : z ≤ 4611686018427387904) :
    Calls Try.prog 125 #[.int .i64 n, .agg #[.int .i64 x, .int .i64 y, .int .i64 z]] w fun e w' => e = .returned (.agg #[.int .i64 (div3 n ⟨x, y, z⟩).x, .int .i64 (div3 n ⟨x, y, z⟩).y, .int .i64 (div3 n ⟨x, y, z⟩).z]) ∧ Below w.heap.size w w' := by
  have hd : (n == 0) = false := by simpa using hn
  have ex := iw_tdiv x n hx1 hx2
  have ey := iw_tdiv y n hy1 hy2
  have ez := iw_tdiv z n hz1 hz2
  go_enter Try.func125, Try.ntmps125
  go_wp2
  go_region_held3 (fun w' => w'.cell? ⟨w.heap.size, 0, none⟩ = some (.int .i64 x) ∧ w'.cell? ⟨w.heap.size, 1, none⟩ = some (.int .i64 y) ∧ w'.cell? ⟨w.heap.size, 2, none⟩ = some (.int .i64 z)) (go_keep) (fail)
  go_wp2
  exact bodyPost_ret (v := .agg #[.int .i64 (div3 n ⟨x, y, z⟩).x, .int .i64 (div3 n ⟨x, y, z⟩).y, .int .i64 (div3 n ⟨x, y, z⟩).z]) (by simp [results, Try.results125, go_sem, div3]) rfl ⟨rfl, (by repeat (first | exact Below.refl _ _ | refine Below.setCell ?_ (by simp <;> omega) _ | refine Below.alloc ?_ (by simp <;> omega) _ | refine Below.drew ?_))⟩
def gcd3 (p : P3) : Int := Int.gcd (Int.gcd p.x p.y) p.z
def bare3 (p : P3) : P3 := div3 (gcd3 p) p
def in3 (n : Int) (p : P3) : Prop := -n ≤ p.x ∧ p.x ≤ n ∧ -n ≤ p.y ∧ p.y ≤ n ∧ -n ≤ p.z ∧ p.z ≤ n
theorem gcd_le_bd (a b : Int) (B : Nat) (ha : a.natAbs ≤ B) (hb : b.natAbs ≤ B) : Int.gcd a b ≤ B := by
  by_cases h : a = 0
  · subst h; simpa using hb
  · exact Nat.le_trans (Nat.le_of_dvd (by omega) (Nat.gcd_dvd_left a.natAbs b.natAbs)) ha
theorem gcd3_pos (p : P3) (h : p ≠ ⟨0, 0, 0⟩) : 1 ≤ gcd3 p := by
  unfold gcd3
  rcases Nat.eq_zero_or_pos (Int.gcd (Int.gcd p.x p.y) p.z) with h0 | h0
  · exfalso
    rw [Int.gcd_eq_zero_iff] at h0
    obtain ⟨h1, h2⟩ := h0
    have h1' : Int.gcd p.x p.y = 0 := by omega
    rw [Int.gcd_eq_zero_iff] at h1'
    exact h (by cases p; simp_all)
  · omega
set_option maxHeartbeats 1000000 in
theorem bare_calls (x y z : Int) (w : World) (hp : (⟨x, y, z⟩ : P3) ≠ ⟨0, 0, 0⟩) (hx1 : -4611686018427387904 ≤ x) (hx2 : x ≤ 4611686018427387904) (hy1 : -4611686018427387904 ≤ y) (hy2 : y ≤ 4611686018427387904) (hz1 : -4611686018427387904 ≤ z) (hz2 : z ≤ 4611686018427387904) :
    Calls Try.prog 124 #[.agg #[.int .i64 x, .int .i64 y, .int .i64 z]] w fun e w' => e = .returned (.agg #[.int .i64 (bare3 ⟨x, y, z⟩).x, .int .i64 (bare3 ⟨x, y, z⟩).y, .int .i64 (bare3 ⟨x, y, z⟩).z]) ∧ Below w.heap.size w w' := by
  have k1 := gcd3_pos _ hp
  have k2 : (Int.gcd x y : Int) ≤ 4611686018427387904 := by have := gcd_le_bd x y 4611686018427387904 (by omega) (by omega); omega
  have k3 : (0 : Int) ≤ Int.gcd x y := by omega
  unfold bare3
  unfold gcd3 at k1 ⊢
  simp only at k1 ⊢
  clear hp
  obtain ⟨G, hG⟩ : ∃ G : Int, (Int.gcd x y : Int) = G := ⟨_, rfl⟩
  obtain ⟨E, hE⟩ : ∃ E : Int, (Int.gcd G z : Int) = E := ⟨_, rfl⟩
  rw [hG] at k1 k2 k3
  rw [hG, hE]
  rw [hE] at k1
  have HG := Lh hG
  have HE := Lh hE
  clear hG hE
  go_enter Try.func124, Try.ntmps124
  go_wp2
  have B1 := ((C3.new w (.int .i64 x) (.int .i64 y) (.int .i64 z) 23).alloc (.cells #[.int .i64 0, .int .i64 0, .int .i64 0] 23)).drew
  have B2 := (C3.new (w.alloc (.cells #[.int .i64 x, .int .i64 y, .int .i64 z] 23)) (.int .i64 0) (.int .i64 0) (.int .i64 0) 23).drew
  simp only [World.size_alloc] at B2
  go_region_held3 (fun w' => w'.cell? ⟨w.heap.size, 0, none⟩ = some (.int .i64 x) ∧ w'.cell? ⟨w.heap.size, 1, none⟩ = some (.int .i64 y) ∧ w'.cell? ⟨w.heap.size, 2, none⟩ = some (.int .i64 z))
    (first | exact ⟨c10, c11, c12⟩ | (go_keep; done))
    (first
      | (go_at_call_of 166 z; refine (gcd_calls _ _ _ ?_ ?_ ?_ ?_).mono ?_; omega; omega; omega; omega; rintro e w2 ⟨rfl, hb2⟩; rw [HE.out]; have B1 := B1.below hb2; have B2 := B2.below hb2; obtain ⟨c10, c11, c12, f10, f11, f12⟩ := id B1; obtain ⟨c20, c21, c22, f20, f21, f22⟩ := id B2)
      | (go_at_call_of 166 y; refine (gcd_calls _ _ _ ?_ ?_ ?_ ?_).mono ?_; omega; omega; omega; omega; rintro e w1 ⟨rfl, hb1⟩; rw [HG.out]; have B1 := B1.below hb1; have B2 := B2.below hb1; obtain ⟨c10, c11, c12, f10, f11, f12⟩ := id B1; obtain ⟨c20, c21, c22, f20, f21, f22⟩ := id B2)
      | (go_at_call 125; refine (divisor_calls _ _ _ _ _ ?_ ?_ ?_ ?_ ?_ ?_ ?_ ?_).mono ?_; omega; omega; omega; omega; omega; omega; omega; omega; rintro e w3 ⟨rfl, hb3⟩; have B1 := B1.below hb3; have B2 := B2.below hb3; obtain ⟨c10, c11, c12, f10, f11, f12⟩ := id B1; obtain ⟨c20, c21, c22, f20, f21, f22⟩ := id B2))
  go_wp2
  have hB : Below w.heap.size w w3 := (((((Below.refl _ w).alloc (Nat.le_refl _) _).alloc (by simp) _).drew.trans (hb1.mono (by simp; omega))).trans (hb2.mono (by have := hb1.size; simp at this; omega))).trans (hb3.mono (by have := hb1.size; have := hb2.size; simp at *; omega))
  exact bodyPost_ret (v := .agg #[.int .i64 (div3 E ⟨x, y, z⟩).x, .int .i64 (div3 E ⟨x, y, z⟩).y, .int .i64 (div3 E ⟨x, y, z⟩).z]) (by simp [results, Try.results124, go_sem, *]) rfl ⟨rfl, ((hB.setCell (by simp) _).setCell (by simp) _).setCell (by simp) _⟩
end Go.Proofs.Ytckdhahceelckaa.G
namespace Go.Proofs.Ytckdhahceelckaa.G
open Go.RowKit Go.Proofs.YtckdhahceelckaaW.PrintWords Go.Proofs.YtckdhahceelckaaW.PrintLast Go.Proofs.YtckdhahceelckaaW.PrintMore
attribute [local go_sem] max2_mx min2_mn max_two min_two max_three min_three max_four min_four
attribute [local go_sem high] eqA23
set_option linter.unusedVariables false
set_option linter.unusedSimpArgs false
def OwnP (w : World) (base : Nat) (v : Value) (l : List P3) : Prop := w.ownsRow base 23 3 v l.length (l.flatMap fun p => [.int .i64 p.x, .int .i64 p.y, .int .i64 p.z])
def GrowPost (w : World) (e : Ending) (w' : World) : Prop := ∃ v, e = .returned v ∧ OwnP w' w.heap.size v [] ∧ Below w.heap.size w w'
set_option maxHeartbeats 1000000 in
set_option maxRecDepth 100000 in
theorem grow_calls (n : Nat) (w : World) (hn : n ≤ 100000) :
    Calls Try.prog 165 #[.slice none 0 0, .int .i64 n] w (GrowPost w) := by
  obtain ⟨i0, hi0, hz0, hsz0, hby0⟩ := info_parts info23
  by_cases h0 : n = 0
  · subst h0
    go_enter Try.func165, Try.ntmps165
    go_wp2
    go_ret
    exact ⟨_, rfl, World.ownsRow_nil _ _ _ _, Below.refl _ _⟩
  · have hap := fun W => Go.Lib.run_append_nil_zeros (P := Try.prog) W 24 3 24 23 i0 (.agg #[(.int .i64 0), (.int .i64 0), (.int .i64 0)]) .i64 .i64 Try.underlying24 Try.underlying3 hi0 hz0 n (by omega) (by rw [hsz0]; omega) (by omega) (by rw [hby0]; omega)
    have hpos : (0 : Int) < (n : Int) := by omega
    have hcap : ∀ W : World, n ≤ grownCap W n 0 23 := fun W => grownCap_ge W n 0 23
    have hcap2 : ∀ W : World, grownCap W n 0 23 ≤ maxLen := fun W => grownCap_le_maxLen W n 0 23 (by unfold maxLen; omega)
    have HAP := Lh hap
    have HC := Lh hcap
    have HC2 := Lh hcap2
    clear hap hcap hcap2
    go_enter Try.func165, Try.ntmps165
    go_wp2_with (at_builtin; refine Go.Lib.wpList_append_run _ rfl _ _ _ _ rfl _ _ rfl rfl _ _ (HAP.out _) ?_)
    go_ret
    refine ⟨.slice (some ⟨w.heap.size, 0, none⟩) 0 (grownCap w n 0 23), rfl, ?_, ((Below.refl _ w).alloc (Nat.le_refl _) _).drew⟩
    exact World.ownsRow_made w _ _ (Nat.le_refl _) (HC2.out w) (by simp [size_zeroCells]; have := HC.out w; omega)
end Go.Proofs.Ytckdhahceelckaa.G
namespace Go.Proofs.Ytckdhahceelckaa.G
open Go.RowKit Go.Proofs.YtckdhahceelckaaW.PrintWords Go.Proofs.YtckdhahceelckaaW.PrintLast Go.Proofs.YtckdhahceelckaaW.PrintMore
attribute [local go_sem] max2_mx min2_mn max_two min_two max_three min_three max_four min_four
attribute [local go_sem high] eqA23
set_option linter.unusedVariables false
set_option linter.unusedSimpArgs false
def cells3 (l : List P3) : List Value := l.flatMap fun p => [.int .i64 p.x, .int .i64 p.y, .int .i64 p.z]
theorem cells3_length (l : List P3) : (cells3 l).length = l.length * 3 := by
  induction l with
  | nil => rfl
  | cons p l ih => simp only [cells3, List.flatMap_cons, List.length_append, List.length_cons, List.length_nil] at *; omega
theorem Rd.tail {w : World} {b o : Nat} {p : P3} {l : List P3} (h : Rd w (some ⟨b, o, none⟩) (p :: l)) : Rd w (some ⟨b, o + 3, none⟩) l := fun i q hq => by
  obtain ⟨b', o', e, hb, h1, h2, h3⟩ := h (i + 1) q (by simpa using hq)
  simp only [Option.some.injEq, Addr.mk.injEq, and_true] at e
  obtain ⟨rfl, rfl⟩ := e
  have ee : o + (i + 1) * 3 = o + 3 + i * 3 := by omega
  rw [ee] at h1 h2 h3
  exact ⟨b, o + 3, rfl, hb, h1, h2, h3⟩
theorem Rd.cells {w : World} {b : Nat} : ∀ {l : List P3} {o : Nat}, Rd w (some ⟨b, o, none⟩) l → ∀ (j : Nat) (u : Value), (cells3 l)[j]? = some u → w.cell? ⟨b, o + j, none⟩ = some u
  | [], o, _, j, u, hj => by simp [cells3] at hj
  | p :: l, o, h, j, u, hj => by
    obtain ⟨b', o', e, hb, h1, h2, h3⟩ := h 0 p rfl
    simp only [Option.some.injEq, Addr.mk.injEq, and_true] at e
    obtain ⟨rfl, rfl⟩ := e
    simp only [Nat.zero_mul, Nat.add_zero] at h1 h2 h3
    match j, hj with
    | 0, hj => simp only [cells3, List.flatMap_cons, List.cons_append, List.getElem?_cons_zero, Option.some.injEq] at hj; subst hj; exact h1
    | 1, hj => simp only [cells3, List.flatMap_cons, List.cons_append, List.getElem?_cons_succ, List.getElem?_cons_zero, Option.some.injEq] at hj; subst hj; exact h2
    | 2, hj => simp only [cells3, List.flatMap_cons, List.cons_append, List.getElem?_cons_succ, List.getElem?_cons_zero, Option.some.injEq] at hj; subst hj; exact h3
    | j + 3, hj =>
      have := Rd.cells h.tail j u (by simpa [cells3] using hj)
      rwa [show o + 3 + j = o + (j + 3) from by omega] at this
theorem Rd.of_cells {w : World} {b o : Nat} {l : List P3} (hb : b < w.heap.size) (h : ∀ (j : Nat) (u : Value), (cells3 l)[j]? = some u → w.cell? ⟨b, o + j, none⟩ = some u) : Rd w (some ⟨b, o, none⟩) l := by
  induction l generalizing o with
  | nil => exact Rd.nil _ _
  | cons p l ih =>
    have hl := ih (o := o + 3) (fun j u hj => by have := h (j + 3) u (by simpa [cells3] using hj); rwa [show o + (j + 3) = o + 3 + j from by omega] at this)
    intro i q hq
    cases i with
    | zero =>
      simp only [List.getElem?_cons_zero, Option.some.injEq] at hq
      subst hq
      refine ⟨b, o, rfl, hb, ?_, ?_, ?_⟩
      · simpa using h 0 (.int .i64 p.x) (by simp [cells3])
      · simpa using h 1 (.int .i64 p.y) (by simp [cells3])
      · simpa using h 2 (.int .i64 p.z) (by simp [cells3])
    | succ i =>
      obtain ⟨b', o', e, hb', h1, h2, h3⟩ := hl i q (by simpa using hq)
      simp only [Option.some.injEq, Addr.mk.injEq, and_true] at e
      obtain ⟨rfl, rfl⟩ := e
      rw [show o + 3 + i * 3 = o + (i + 1) * 3 from by omega] at h1 h2 h3
      exact ⟨b, o, rfl, hb, h1, h2, h3⟩
theorem cells3_append (l m : List P3) : cells3 (l ++ m) = cells3 l ++ cells3 m := by simp [cells3]
theorem cells3_one (l : List P3) : ∀ u ∈ cells3 l, u.oneCell' = true := by
  intro u hu
  simp only [cells3, List.mem_flatMap] at hu
  obtain ⟨p, _, hu⟩ := hu
  simp at hu
  rcases hu with rfl | rfl | rfl <;> rfl
theorem add_at (b o j : Nat) : (⟨b, o, none⟩ : Addr).add j = ⟨b, o + j, none⟩ := by unfold Addr.add; split <;> simp_all
theorem OwnP.rd {w : World} {base : Nat} {v : Value} {l : List P3} (h : OwnP w base v l) : ∃ A c, v = .slice A l.length c ∧ l.length ≤ c ∧ Rd w A l ∧ (∀ ad, A = some ad → base ≤ ad.block) := by
  have h0 := h
  obtain ⟨h1, h2⟩ := h
  rcases h2 with ⟨rfl, hn⟩ | ⟨g, cap, cur, rfl, hb, hg, hnc, hm, hsz, ht⟩
  · obtain rfl := List.eq_nil_of_length_eq_zero hn
    exact ⟨none, 0, rfl, Nat.le_refl _, Rd.nil _ _, fun ad e => by cases e⟩
  · refine ⟨some ⟨g, 0, none⟩, cap, rfl, hnc, Rd.of_cells (Array.getElem?_eq_some_iff.1 hg).1 fun j u hj => ?_, fun ad e => by cases e; exact hb⟩
    have := h0.cells (g := g) rfl j u hj
    rwa [add_at] at this
theorem OwnP.nil (w : World) (base : Nat) : OwnP w base (.slice none 0 0) [] := World.ownsRow_nil _ _ _ _
theorem OwnP.grown {w w' : World} {base : Nat} {v : Value} {l : List P3} (h : OwnP w base v l) (hb : Below w.heap.size w w') : OwnP w' base v l := pw_own_below h hb
theorem OwnP.drew {w : World} {base : Nat} {v : Value} {l : List P3} (h : OwnP w base v l) : OwnP w.drew base v l := h
theorem OwnP.base_ {w : World} {base : Nat} {v : Value} {l : List P3} (h : OwnP w base v l) (k : Nat) (hk : v.ownBlock = some k) : base ≤ k := own_base h k hk
section
variable {w : World} {ops : Array Oper} {rest : List Oper} {o : Oper} {a : Act} {Q : Exit → Act → World → Prop}
/-- append(v, xs...) of points -/
theorem append_pts (base : Nat) (hgd : o.guard = none) (s x : Operand) (ho : o.op = .call { callee := .builtin .append, args := #[s, x], argTypes := #[24, 24] })
    (v : Value) (l l2 : List P3) (A : Option Addr) (m c : Nat) (hs : a.eval s = v) (hx : a.eval x = .slice A m c) (hown : OwnP w base v l) (hr : Rd w A l2) (hm : l2.length = m) (hsz : l.length + m ≤ 1000000) (hbase : base ≤ w.heap.size)
    (h : ∀ v' w', OwnP w' base v' (l ++ l2) → w.grownBy w' v.ownBlock → wpList Try.prog ops Q rest (a.put o.dst v') w') : wpList Try.prog ops Q (o :: rest) a w := by
  obtain ⟨i0, hi, hz0, hz1, hz2⟩ := info_parts info23
  cases A with
  | none =>
    have h0 : l2 = [] := by
      cases l2 with
      | nil => rfl
      | cons p l2 => obtain ⟨b, o', e, _⟩ := hr 0 p rfl; cases e
    subst h0
    simp only [List.length_nil] at hm
    subst hm
    refine Go.Lib.wpList_append_run w hgd s x 24 24 ho v (.slice none 0 c) hs hx v w ?_ (h v w (by rw [List.append_nil]; exact hown) (World.grownBy.refl w _))
    rcases hown.2 with ⟨rfl, hn⟩ | ⟨g, cap, cur, rfl, _, _, hnc, _⟩
    · simp [Builtin.append_, run_underlying Try.underlying24, sizeOf, typeInfo, hi, Builtin.lenOf, Builtin.firstCells]
    · simp [Builtin.append_, run_underlying Try.underlying24, sizeOf, typeInfo, hi, Builtin.lenOf, Builtin.firstCells, hnc, storeCells]
  | some ad =>
    have hnews : ∀ j u, (cells3 l2)[j]? = some u → w.cell? (ad.add j) = some u := by
      cases l2 with
      | nil => intro j u hj; simp [cells3] at hj
      | cons p l2 =>
        obtain ⟨b, o', e, _⟩ := hr 0 p rfl
        simp only [Option.some.injEq] at e
        subst e
        intro j u hj
        rw [add_at]
        exact hr.cells j u hj
    refine wpList_append_own w hgd s x 24 ho base 23 i0 _ 3 24 Try.underlying24 hi hz0 hz1 hz2 rfl (by omega) v l.length (cells3 l) hs hown ad m c (cells3 l2) hx (by rw [cells3_length, hm]) hnews (cells3_one l2) (by unfold maxLen; omega) (by omega) hbase ?_
    intro v' w' h1 h2 _
    refine h v' w' ?_ h2
    show w'.ownsRow base 23 3 v' (l ++ l2).length (cells3 (l ++ l2))
    rw [cells3_append, List.length_append, hm]
    exact h1
end
end Go.Proofs.Ytckdhahceelckaa.G
namespace Go.Proofs.Ytckdhahceelckaa.G
open Go.RowKit Go.Proofs.YtckdhahceelckaaW.PrintWords Go.Proofs.YtckdhahceelckaaW.PrintLast Go.Proofs.YtckdhahceelckaaW.PrintMore
attribute [local go_sem] max2_mx min2_mn max_two min_two max_three min_three max_four min_four
attribute [local go_sem high] eqA23
set_option linter.unusedVariables false
set_option linter.unusedSimpArgs false
def csz (n0 n1 k : Nat) : Nat := if k = 0 then 0 else if k = 1 then n0 else n0 + n1
def cpt (l0 l1 : List P3) (k : Nat) : List P3 := if k = 0 then [] else if k = 1 then l0 else l0 ++ l1
def PtsPost (l : List P3) (w : World) (e : Ending) (w' : World) : Prop := ∃ A c, e = .returned (.slice A l.length c) ∧ l.length ≤ c ∧ Rd w' A l ∧ Below w.heap.size w w' ∧ (∀ ad, A = some ad → w.heap.size ≤ ad.block)
set_option maxHeartbeats 2000000 in
set_option maxRecDepth 100000 in
theorem concat_calls (l0 l1 : List P3) (n0 n1 : Nat) (A0 A1 : Option Addr) (c0 c1 g : Nat) (w : World) (hn0 : l0.length = n0) (hn1 : l1.length = n1) (hg0 : w.cell? ⟨g, 0, none⟩ = some (.slice A0 n0 c0)) (hg1 : w.cell? ⟨g, 1, none⟩ = some (.slice A1 n1 c1)) (h0 : Rd w A0 l0) (h1 : Rd w A1 l1) (hb0 : n0 ≤ 40000) (hb1 : n1 ≤ 40000) :
    Calls Try.prog 116 #[.slice (some ⟨g, 0, none⟩) 2 2] w (PtsPost (l0 ++ l1) w) := by
  have H0 := Lh h0
  have H1 := Lh h1
  have N0 := Lh hn0
  have N1 := Lh hn1
  have hgl := World.block_lt_of_cell? w _ hg0
  have HG0 := Lh hg0
  have HG1 := Lh hg1
  clear h0 h1 hn0 hn1 hg0 hg1
  go_enter Try.func116, Try.ntmps116
  go_wp2
  go_loopw [3, 5, 11] (fun v3 v5 v11 wr => ∃ k : Nat, k ≤ 2 ∧ v11 = .int .i64 k ∧ v3 = .int .i64 (csz n0 n1 k) ∧ Below w.heap.size w wr) (fun _ _ i _ => 2 - (intOf i).toNat)
  case atStart => exact ⟨0, by omega, rfl, rfl, Below.refl _ _⟩
  case round =>
    obtain ⟨k, hk, rfl, rfl, hbr⟩ := hrel
    have e0 := (hbr.cell (p := ⟨g, 0, none⟩) hgl).trans HG0.out
    have e1 := (hbr.cell (p := ⟨g, 1, none⟩) hgl).trans HG1.out
    have hc : k = 0 ∨ k = 1 ∨ k = 2 := by omega
    rcases hc with rfl | rfl | rfl
    · simp only [csz, if_true]
      go_wp2
      go_roundw
      case rel => exact ⟨1, by omega, rfl, by simp [csz], hbr⟩
      case measure => simp [intOf]
    · simp only [csz, if_true, if_neg (show ¬ (1 : Nat) = 0 by omega)]
      go_wp2
      go_roundw
      case rel => exact ⟨2, by omega, rfl, by simp [csz], hbr⟩
      case measure => simp [intOf]
    · simp only [csz, if_neg (show ¬ (2 : Nat) = 0 by omega), if_neg (show ¬ (2 : Nat) = 1 by omega)]
      clear e0 e1
      go_wp2_with fail
      have hgr := grow_calls (n0 + n1) wr (by omega)
      rw [Int.natCast_add] at hgr
      refine hgr.mono ?_
      rintro e w2 ⟨v, rfl, hv, hb2⟩
      have hB2 : Below w.heap.size w w2 := bthen hbr hb2
      have hv0 : OwnP w2 w.heap.size v [] := own_weaken hv hbr.size
      clear hgr hv hb2
      go_wp2
      clear hbr
      go_loopw [6, 8, 27] (fun v6 v8 v27 wr => ∃ k : Nat, k ≤ 2 ∧ v27 = .int .i64 k ∧ Hid (OwnP wr w.heap.size v6 (cpt l0 l1 k)) ∧ Hid (Below w.heap.size w wr)) (fun _ _ i _ => 2 - (intOf i).toNat)
      case atStart => exact ⟨0, by omega, rfl, hv0, hB2⟩
      case round =>
        clear hv0 hB2
        obtain ⟨k, hk, rfl, hv, hbr⟩ := hrel
        have hbr2 := hbr.out
        have e0 := (hbr2.cell (p := ⟨g, 0, none⟩) hgl).trans HG0.out
        have e1 := (hbr2.cell (p := ⟨g, 1, none⟩) hgl).trans HG1.out
        have hc : k = 0 ∨ k = 1 ∨ k = 2 := by omega
        rcases hc with rfl | rfl | rfl
        · go_wp2_with (at_builtin; refine append_pts w.heap.size rfl _ _ rfl _ [] l0 A0 _ _ rfl rfl hv.out (H0.out.below hbr2) N0.out (by simp; omega) hbr2.size ?_; intro v2 w3 hv2 hg2)
          go_roundw
          case rel => exact ⟨1, by omega, rfl, hv2, hbr2.grown hg2 hbr2.size (fun k hk => hv.out.base_ k hk)⟩
          case measure => simp [intOf]
        · go_wp2_with (at_builtin; refine append_pts w.heap.size rfl _ _ rfl _ l0 l1 A1 _ _ rfl rfl hv.out (H1.out.below hbr2) N1.out (by rw [N0.out]; omega) hbr2.size ?_; intro v2 w3 hv2 hg2)
          go_roundw
          case rel => exact ⟨2, by omega, rfl, hv2, hbr2.grown hg2 hbr2.size (fun k hk => hv.out.base_ k hk)⟩
          case measure => simp [intOf]
        · clear e0 e1
          go_wp2
          go_ret
          obtain ⟨A, c, rfl, hlc, hrd, hbs⟩ := hv.out.rd
          exact ⟨A, c, rfl, hlc, hrd, hbr2, hbs⟩
end Go.Proofs.Ytckdhahceelckaa.G
namespace Go.Proofs.Ytckdhahceelckaa.G
open Go.RowKit Go.Proofs.YtckdhahceelckaaW.PrintWords Go.Proofs.YtckdhahceelckaaW.PrintLast Go.Proofs.YtckdhahceelckaaW.PrintMore
attribute [local go_sem] max2_mx min2_mn max_two min_two max_three min_three max_four min_four
set_option linter.unusedVariables false
set_option linter.unusedSimpArgs false
theorem dot_calls (x y z a b c : Int) (w : World) :
    Calls Try.prog 66 #[.agg #[.int .i64 x, .int .i64 y, .int .i64 z], .agg #[.int .i64 a, .int .i64 b, .int .i64 c]] w fun e w' => e = .returned (.int .i64 (dot3 ⟨x, y, z⟩ ⟨a, b, c⟩)) ∧ Below w.heap.size w w' := by
  go_enter Try.func66, Try.ntmps66
  go_wp2
  go_ret
  exact ⟨rfl, ((Below.refl _ _).alloc (Nat.le_refl _) _).alloc (by simp) _⟩
theorem minus_calls (x y z a b c : Int) (w : World) :
    Calls Try.prog 61 #[.agg #[.int .i64 x, .int .i64 y, .int .i64 z], .agg #[.int .i64 a, .int .i64 b, .int .i64 c]] w fun e w' => e = .returned (.agg #[.int .i64 (minus3 ⟨x, y, z⟩ ⟨a, b, c⟩).x, .int .i64 (minus3 ⟨x, y, z⟩ ⟨a, b, c⟩).y, .int .i64 (minus3 ⟨x, y, z⟩ ⟨a, b, c⟩).z]) ∧ Below w.heap.size w w' := by
  go_enter Try.func61, Try.ntmps61
  go_wp2
  exact bodyPost_ret (v := .agg #[.int .i64 (minus3 ⟨x, y, z⟩ ⟨a, b, c⟩).x, .int .i64 (minus3 ⟨x, y, z⟩ ⟨a, b, c⟩).y, .int .i64 (minus3 ⟨x, y, z⟩ ⟨a, b, c⟩).z]) (by simp [results, Try.results61, go_sem, minus3]) rfl ⟨rfl, (by repeat (first | exact Below.refl _ _ | refine Below.setCell ?_ (by simp <;> omega) _ | refine Below.alloc ?_ (by simp <;> omega) _ | refine Below.drew ?_))⟩
theorem cross_calls (x y z a b c : Int) (w : World) :
    Calls Try.prog 117 #[.agg #[.int .i64 x, .int .i64 y, .int .i64 z], .agg #[.int .i64 a, .int .i64 b, .int .i64 c]] w fun e w' => e = .returned (.agg #[.int .i64 (cross3 ⟨x, y, z⟩ ⟨a, b, c⟩).x, .int .i64 (cross3 ⟨x, y, z⟩ ⟨a, b, c⟩).y, .int .i64 (cross3 ⟨x, y, z⟩ ⟨a, b, c⟩).z]) ∧ Below w.heap.size w w' := by
  go_enter Try.func117, Try.ntmps117
  go_wp2
  exact bodyPost_ret (v := .agg #[.int .i64 (cross3 ⟨x, y, z⟩ ⟨a, b, c⟩).x, .int .i64 (cross3 ⟨x, y, z⟩ ⟨a, b, c⟩).y, .int .i64 (cross3 ⟨x, y, z⟩ ⟨a, b, c⟩).z]) (by simp [results, Try.results117, go_sem, cross3]) rfl ⟨rfl, (by repeat (first | exact Below.refl _ _ | refine Below.setCell ?_ (by simp <;> omega) _ | refine Below.alloc ?_ (by simp <;> omega) _ | refine Below.drew ?_))⟩
def rstep (n : P3) (s : Int × Int) (p : P3) : Int × Int := (mn s.1 (dot3 n p), mx s.2 (dot3 n p))
def reachF (n p0 : P3) (r : List P3) : Int × Int := r.foldl (rstep n) (dot3 n p0, dot3 n p0)
theorem reachF_snoc (n p0 : P3) (r : List P3) (k : Nat) (h : k < r.length) : reachF n p0 (r.take (k + 1)) = rstep n (reachF n p0 (r.take k)) r[k] := by
  unfold reachF
  rw [List.take_succ_eq_append_getElem h, List.foldl_append]; rfl
set_option maxHeartbeats 1000000 in
theorem reach_calls (p0 : P3) (r : List P3) (A : Option Addr) (c : Nat) (x y z : Int) (w : World) (hr : Rd w A (p0 :: r)) (hc : r.length + 1 ≤ c) (hm : r.length < 9223372036854775807) :
    Calls Try.prog 69 #[.slice A (r.length + 1) c, .agg #[.int .i64 x, .int .i64 y, .int .i64 z]] w fun e w' => e = .returned (.tuple #[.int .i64 (reachF ⟨x, y, z⟩ p0 r).1, .int .i64 (reachF ⟨x, y, z⟩ p0 r).2]) ∧ Below w.heap.size w w' := by
  obtain ⟨b, o, rfl, hlt, h1, h2, h3⟩ := hr.get 0 (by simp)
  simp only [Nat.zero_mul, Nat.add_zero, List.getElem_cons_zero] at h1 h2 h3
  have hl0' : (0 : Int) < (r.length : Int) + 1 := by omega
  have hl1' : (1 : Int) ≤ (r.length : Int) + 1 := by omega
  have hR := Lh hr
  clear hr
  obtain ⟨i0, hi0, _, hsz0, _⟩ := info_parts info23
  obtain ⟨A', hA', hcut⟩ : ∃ A' : Option Addr, (0 < r.length → A' = some ⟨b, o + 3, none⟩) ∧ ∀ W : World, (Instr.slice 24 (.slice (some ⟨b, o, none⟩) (r.length + 1) c) (some (.int .i64 1)) none none).run Try.prog W = .ok (.slice A' r.length (c - 1)) W :=
    ⟨_, fun h => if_neg (by omega), fun W => cut_from (P := Try.prog) 24 23 .i64 Try.underlying24 hi0 3 hsz0 (some ⟨b, o, none⟩) (r.length + 1) c 1 (by omega) (by omega) W⟩
  go_enter Try.func69, Try.ntmps69
  go_wp2
  go_region_held3 (fun w' => w'.cell? ⟨w.heap.size, 0, none⟩ = some (.int .i64 x) ∧ w'.cell? ⟨w.heap.size, 1, none⟩ = some (.int .i64 y) ∧ w'.cell? ⟨w.heap.size, 2, none⟩ = some (.int .i64 z) ∧ w'.cell? ⟨b, o, none⟩ = some (.int .i64 p0.x) ∧ w'.cell? ⟨b, o + 1, none⟩ = some (.int .i64 p0.y) ∧ w'.cell? ⟨b, o + 2, none⟩ = some (.int .i64 p0.z))
    (((try dsimp only); (repeat' apply And.intro) <;> first | (go_keep; done) | (rw [hc1 _ _ (by simp <;> omega)]; simp [*]; done)))
    ((go_at_call 66; refine (dot_calls _ _ _ _ _ _ _).mono ?_; rintro e w1 ⟨rfl, hb⟩; obtain ⟨hc1, hf1⟩ := bcell hb))
  have hB : Below w.heap.size w w1 := (((Below.refl _ w).alloc (Nat.le_refl _) _).drew).trans (hb.mono (by simp))
  clear hc1 hf1
  go_wp2
  obtain ⟨D, hD⟩ : ∃ D, dot3 ⟨x, y, z⟩ p0 = D := ⟨_, rfl⟩
  have hD' : dot3 ⟨x, y, z⟩ ⟨p0.x, p0.y, p0.z⟩ = D := hD
  simp only [hD']
  obtain ⟨g1, g2, g3, _⟩ := ‹w1.cell? ⟨w.heap.size, 0, none⟩ = some (.int .i64 x) ∧ w1.cell? ⟨w.heap.size, 1, none⟩ = some (.int .i64 y) ∧ w1.cell? ⟨w.heap.size, 2, none⟩ = some (.int .i64 z) ∧ _›
  have hsz : w.heap.size < w1.heap.size := by have := hb.size; simp at this; omega
  go_loopw [4, 5, 18] (fun v4 v5 v18 wr => ∃ k : Nat, k ≤ r.length ∧ v18 = .int .i64 k ∧ v4 = .int .i64 (reachF ⟨x, y, z⟩ p0 (r.take k)).1 ∧ v5 = .int .i64 (reachF ⟨x, y, z⟩ p0 (r.take k)).2 ∧ Below w1.heap.size w1 wr) (fun _ _ i _ => r.length - (intOf i).toNat)
  case atStart => exact ⟨0, Nat.zero_le _, rfl, by simp [reachF, ← hD], by simp [reachF, ← hD], Below.refl _ _⟩
  case round =>
    obtain ⟨k, hk, rfl, rfl, rfl, hbr⟩ := hrel
    obtain ⟨hcr, hfr⟩ := bcell hbr
    have q1 := (hcr _ 0 hsz).trans g1
    have q2 := (hcr _ 1 hsz).trans g2
    have q3 := (hcr _ 2 hsz).trans g3
    have hszr : w.heap.size < wr.heap.size := Nat.lt_of_lt_of_le hsz hbr.size
    have hbB : Below w.heap.size w wr := hB.trans (hbr.mono (by omega))
    clear hcr hfr g1 g2 g3 hb hD hD' h1 h2 h3
    by_cases hlt2 : k < r.length
    · obtain rfl := hA' (by omega)
      obtain ⟨b', o', hA, _, h1, h2, h3⟩ := hR.out.get (k + 1) (by simp; omega)
      simp only [Option.some.injEq, Addr.mk.injEq, and_true] at hA
      obtain ⟨rfl, rfl⟩ := hA
      simp only [List.getElem_cons_succ, show o + (k + 1) * 3 = o + 3 + k * 3 from by omega] at h1 h2 h3
      have e1 := (hbB.cell (p := ⟨b, o + 3 + k * 3, none⟩) hlt).trans h1
      have e2 := (hbB.cell (p := ⟨b, o + 3 + k * 3 + 1, none⟩) hlt).trans h2
      have e3 := (hbB.cell (p := ⟨b, o + 3 + k * 3 + 2, none⟩) hlt).trans h3
      clear h1 h2 h3
      have hS := Lh (reachF_snoc ⟨x, y, z⟩ p0 r k hlt2)
      go_wp2_with (go_at_call 66; refine (dot_calls _ _ _ _ _ _ _).mono ?_; rintro e w3 ⟨rfl, hb3⟩)
      go_roundw
      case rel => exact ⟨k + 1, by omega, by go_num, by rw [hS.out]; rfl, by rw [hS.out]; rfl, hbr.trans ((((Below.refl _ wr).alloc hbr.size _)).trans (hb3.mono (by simp; have := hbr.size; omega)))⟩
      case measure => simp [intOf]; omega
    · obtain rfl : k = r.length := by omega
      go_wp2
      go_ret2
      exact ⟨by simp, hbB⟩
end Go.Proofs.Ytckdhahceelckaa.G
namespace Go.Proofs.Ytckdhahceelckaa.G
open Go.RowKit Go.Proofs.YtckdhahceelckaaW.PrintWords Go.Proofs.YtckdhahceelckaaW.PrintLast Go.Proofs.YtckdhahceelckaaW.PrintMore
attribute [local go_sem] max2_mx min2_mn max_two min_two max_three min_three max_four min_four
attribute [local go_sem high] eqA23
set_option linter.unusedVariables false
set_option linter.unusedSimpArgs false
theorem mx_facts (a b : Int) : a ≤ mx a b ∧ b ≤ mx a b ∧ (mx a b = a ∨ mx a b = b) := by unfold mx; split <;> omega
theorem mn_facts (a b : Int) : mn a b ≤ a ∧ mn a b ≤ b ∧ (mn a b = a ∨ mn a b = b) := by unfold mn; split <;> omega
theorem far3_iff (n : Int) (p : P3) (hn : 0 ≤ n) (hn2 : n ≤ 9223372036854775807) : far3 n p = false ↔ in3 n p := by
  have hw : wrap64 (-n) = -n := w64_id _ (by omega) (by omega)
  unfold far3 in3
  rw [hw]
  obtain ⟨a1, a2, a3⟩ := mx_facts p.x p.y
  obtain ⟨b1, b2, b3⟩ := mx_facts (mx p.x p.y) p.z
  obtain ⟨c1, c2, c3⟩ := mn_facts p.x p.y
  obtain ⟨d1, d2, d3⟩ := mn_facts (mn p.x p.y) p.z
  simp only [Bool.or_eq_false_iff, decide_eq_false_iff_not]
  omega
def size3 (p : P3) : Nat := p.x.natAbs + p.y.natAbs + p.z.natAbs
theorem tdiv2_abs (x : Int) : (x.tdiv 2).natAbs = x.natAbs / 2 := by rw [Int.natAbs_tdiv]; rfl
theorem div3_in (n B : Int) (p : P3) (h : in3 B p) : in3 B (div3 n p) := by
  obtain ⟨h1, h2, h3, h4, h5, h6⟩ := h
  have a := tdiv_le p.x n B.natAbs (by omega)
  have b := tdiv_le p.y n B.natAbs (by omega)
  have c := tdiv_le p.z n B.natAbs (by omega)
  unfold in3 div3
  simp only
  omega
theorem div2_lt (p : P3) (h : far3 1048576 p = true) : size3 (div3 2 p) < size3 p := by
  have h' : ¬ in3 1048576 p := fun hi => by rw [(far3_iff _ _ (by omega) (by omega)).2 hi] at h; cases h
  have a := tdiv2_abs p.x
  have b := tdiv2_abs p.y
  have c := tdiv2_abs p.z
  unfold in3 at h'
  unfold size3 div3
  simp only
  omega
def halve3 (p : P3) : P3 := if h : far3 1048576 p = true then halve3 (div3 2 p) else p
termination_by size3 p
decreasing_by exact div2_lt p h
theorem div2_ne (p : P3) (h : far3 1048576 p = true) : div3 2 p ≠ ⟨0, 0, 0⟩ := by
  have h' : ¬ in3 1048576 p := fun hi => by rw [(far3_iff _ _ (by omega) (by omega)).2 hi] at h; cases h
  have a := tdiv2_abs p.x
  have b := tdiv2_abs p.y
  have c := tdiv2_abs p.z
  intro e
  unfold div3 at e
  simp only [P3.mk.injEq] at e
  unfold in3 at h'
  obtain ⟨e1, e2, e3⟩ := e
  rw [e1] at a; rw [e2] at b; rw [e3] at c
  simp at a b c
  omega
def short3 (p : P3) : P3 := if far3 4398046511104 p = true ∨ p = ⟨0, 0, 0⟩ then ⟨0, 0, 0⟩ else bare3 (halve3 (bare3 p))
theorem bare3_ne (p : P3) (B : Nat) (h : p ≠ ⟨0, 0, 0⟩) : bare3 p ≠ ⟨0, 0, 0⟩ := by
  have hg := gcd3_pos p h
  have d1 : gcd3 p ∣ p.x := Int.dvd_trans (by unfold gcd3; exact Int.gcd_dvd_left ..) (Int.gcd_dvd_left ..)
  have d2 : gcd3 p ∣ p.y := Int.dvd_trans (by unfold gcd3; exact Int.gcd_dvd_left ..) (Int.gcd_dvd_right ..)
  have d3 : gcd3 p ∣ p.z := by unfold gcd3; exact Int.gcd_dvd_right ..
  intro e
  unfold bare3 div3 at e
  simp only [P3.mk.injEq] at e
  obtain ⟨e1, e2, e3⟩ := e
  apply h
  have x0 := Int.tdiv_mul_cancel d1
  have y0 := Int.tdiv_mul_cancel d2
  have z0 := Int.tdiv_mul_cancel d3
  rw [e1] at x0; rw [e2] at y0; rw [e3] at z0
  cases p; simp at x0 y0 z0 ⊢; omega
set_option maxHeartbeats 2000000 in
theorem short_calls (x y z : Int) (w : World) :
    Calls Try.prog 77 #[.agg #[.int .i64 x, .int .i64 y, .int .i64 z]] w fun e w' => e = .returned (.agg #[.int .i64 (short3 ⟨x, y, z⟩).x, .int .i64 (short3 ⟨x, y, z⟩).y, .int .i64 (short3 ⟨x, y, z⟩).z]) ∧ Below w.heap.size w w' := by
  have B1 := ((C3.new w (.int .i64 x) (.int .i64 y) (.int .i64 z) 23).alloc (.cells #[.int .i64 0, .int .i64 0, .int .i64 0] 23))
  have B2 := (C3.new (w.alloc (.cells #[.int .i64 x, .int .i64 y, .int .i64 z] 23)) (.int .i64 0) (.int .i64 0) (.int .i64 0) 23)
  simp only [World.size_alloc] at B2
  by_cases hf : far3 4398046511104 ⟨x, y, z⟩ = true
  · have hs : short3 ⟨x, y, z⟩ = ⟨0, 0, 0⟩ := by unfold short3; rw [if_pos (.inl hf)]
    rw [hs]
    clear hs
    go_enter Try.func77, Try.ntmps77
    go_wp2_with (go_at_call 123; refine (beyond_calls _ _ _ _ _ (by decide) (by decide)).mono ?_; rintro e w1 ⟨rfl, hb1⟩; rw [hf]; have B2 := B2.below hb1; obtain ⟨c20, c21, c22, f20, f21, f22⟩ := id B2)
    exact bodyPost_ret (v := .agg #[.int .i64 0, .int .i64 0, .int .i64 0]) (by simp [results, Try.results77, go_sem, c20, c21, c22]) rfl ⟨rfl, (((((Below.refl _ w).alloc (Nat.le_refl _) _).alloc (by simp) _).trans (hb1.mono (by simp; omega))).setCell (by simp) _).setCell (by simp) _ |>.setCell (by simp) _⟩
  · have hf' : far3 4398046511104 ⟨x, y, z⟩ = false := by simpa using hf
    obtain ⟨hx1, hx2, hy1, hy2, hz1, hz2⟩ := (far3_iff _ _ (by decide) (by decide)).1 hf'
    simp only at hx1 hx2 hy1 hy2 hz1 hz2
    by_cases hp : (⟨x, y, z⟩ : P3) = ⟨0, 0, 0⟩
    · have hs : short3 ⟨x, y, z⟩ = ⟨0, 0, 0⟩ := by unfold short3; rw [if_pos (.inr hp)]
      rw [hs]
      clear hs
      simp only [P3.mk.injEq] at hp
      obtain ⟨rfl, rfl, rfl⟩ := hp
      have he0 : eqP 0 0 0 0 0 0 = true := by decide
      go_enter Try.func77, Try.ntmps77
      go_wp2_with (go_at_call 123; refine (beyond_calls _ _ _ _ _ (by decide) (by decide)).mono ?_; rintro e w1 ⟨rfl, hb1⟩; rw [hf']; have B1 := B1.below hb1; obtain ⟨c10, c11, c12, f10, f11, f12⟩ := id B1; have B2 := B2.below hb1; obtain ⟨c20, c21, c22, f20, f21, f22⟩ := id B2)
      exact bodyPost_ret (v := .agg #[.int .i64 0, .int .i64 0, .int .i64 0]) (by simp [results, Try.results77, go_sem, c20, c21, c22]) rfl ⟨rfl, (((((Below.refl _ w).alloc (Nat.le_refl _) _).alloc (by simp) _).trans (hb1.mono (by simp; omega))).setCell (by simp) _).setCell (by simp) _ |>.setCell (by simp) _⟩
    · have hs : short3 ⟨x, y, z⟩ = bare3 (halve3 (bare3 ⟨x, y, z⟩)) := by unfold short3; rw [if_neg (by simp [hf', hp])]
      rw [hs]
      clear hs
      go_enter Try.func77, Try.ntmps77
      have HP := Lh hp
      have he0 := eqP_no hp
      clear hp hf
      go_wp2_with (first
        | (go_at_call 123; refine (beyond_calls _ _ _ _ _ (by decide) (by decide)).mono ?_; rintro e w1 ⟨rfl, hb1⟩; rw [hf']; have B1 := B1.below hb1; obtain ⟨c10, c11, c12, f10, f11, f12⟩ := id B1; have B2 := B2.below hb1)
        | (go_at_call 124; refine (bare_calls _ _ _ _ HP.out ?_ ?_ ?_ ?_ ?_ ?_).mono ?_; omega; omega; omega; omega; omega; omega; rintro e w2 ⟨rfl, hb2⟩; have B1 := B1.below hb2; obtain ⟨c10, c11, c12, f10, f11, f12⟩ := id B1; have B2 := B2.below hb2))
      have hB : Below w.heap.size w w2 := (((Below.refl _ w).alloc (Nat.le_refl _) _).alloc (by simp) _).trans ((hb1.mono (by simp; omega)).trans (hb2.mono (by have := hb1.size; simp at this; omega)))
      have hB := below_set3 hB (Nat.le_refl w.heap.size) (.int .i64 (bare3 ⟨x, y, z⟩).x) (.int .i64 (bare3 ⟨x, y, z⟩).y) (.int .i64 (bare3 ⟨x, y, z⟩).z)
      have B2 := B2.other (g' := w.heap.size) (by omega) (.int .i64 (bare3 ⟨x, y, z⟩).x) (.int .i64 (bare3 ⟨x, y, z⟩).y) (.int .i64 (bare3 ⟨x, y, z⟩).z)
      have B1 := B1.set (.int .i64 (bare3 ⟨x, y, z⟩).x) (.int .i64 (bare3 ⟨x, y, z⟩).y) (.int .i64 (bare3 ⟨x, y, z⟩).z)
      have hin := div3_in (gcd3 ⟨x, y, z⟩) 4398046511104 ⟨x, y, z⟩ ⟨hx1, hx2, hy1, hy2, hz1, hz2⟩
      have hne := bare3_ne _ 0 HP.out
      change in3 4398046511104 (bare3 ⟨x, y, z⟩) at hin
      unfold set3 at B1 B2 hB
      obtain ⟨q, hq⟩ : ∃ q, bare3 ⟨x, y, z⟩ = q := ⟨_, rfl⟩
      rw [hq] at B1 B2 hB hin hne ⊢
      generalize ((w2.setCell { block := w.heap.size, off := 0 } (Value.int IntKind.i64 q.x)).setCell { block := w.heap.size, off := 1 } (Value.int IntKind.i64 q.y)).setCell { block := w.heap.size, off := 2 } (Value.int IntKind.i64 q.z) = w3 at B1 B2 hB ⊢
      have HQ := Lh hq
      clear hq he0 HP hb1 hb2 c10 c11 c12 f10 f11 f12
      go_loopg [] (size3 q) (fun kq wr => ∃ r : P3, Hid (kq = size3 r) ∧ Hid (halve3 r = halve3 q) ∧ Hid (in3 4398046511104 r) ∧ Hid (r ≠ ⟨0, 0, 0⟩) ∧ Hid (C3 wr w.heap.size (.int .i64 r.x) (.int .i64 r.y) (.int .i64 r.z)) ∧ Hid (C3 wr (w.heap.size + 1) (.int .i64 0) (.int .i64 0) (.int .i64 0)) ∧ Hid (Below w.heap.size w wr))
      case atStart => exact ⟨q, rfl, rfl, hin, hne, B1, B2, hB⟩
      case round =>
        obtain ⟨r, h1, h2, h3, h4, h5, h6, h7⟩ := hrel
        obtain ⟨hx1, hx2, hy1, hy2, hz1, hz2⟩ := h3.out
        obtain ⟨rx, ry, rz⟩ := r
        dsimp only at h5 hx1 hx2 hy1 hy2 hz1 hz2
        obtain ⟨c10, c11, c12, f10, f11, f12⟩ := id h5.out
        cases hf : far3 1048576 ⟨rx, ry, rz⟩ with
        | true =>
          have e1 : halve3 ⟨rx, ry, rz⟩ = halve3 (div3 2 ⟨rx, ry, rz⟩) := by rw [halve3, dif_pos hf]
          have e2 : Hid (size3 (div3 2 ⟨rx, ry, rz⟩) < gk) := by rw [h1.out]; exact div2_lt _ hf
          have e3 := Lh (div3_in 2 4398046511104 _ h3.out)
          have e4 := Lh (div2_ne _ hf)
          have E1 : Hid (halve3 (div3 2 ⟨rx, ry, rz⟩) = halve3 q) := e1.symm.trans h2.out
          clear e1
          go_wp2_with (first
            | (go_at_call 123; refine (beyond_calls _ _ _ _ _ (by decide) (by decide)).mono ?_; rintro e w4 ⟨rfl, hb4⟩; rw [hf]; have C1 := Lh (h5.out.below hb4); have C2 := Lh (h6.out.below hb4); obtain ⟨c10, c11, c12, f10, f11, f12⟩ := id C1.out)
            | (go_at_call 125; refine (divisor_calls _ _ _ _ _ ?_ ?_ ?_ ?_ ?_ ?_ ?_ ?_).mono ?_; omega; omega; omega; omega; omega; omega; omega; omega; rintro e w5 ⟨rfl, hb5⟩; have D1 := Lh (C1.out.below hb5); have D2 := Lh (C2.out.below hb5); obtain ⟨c10, c11, c12, f10, f11, f12⟩ := id D1.out))
          go_roundg (size3 (div3 2 ⟨rx, ry, rz⟩))
          case measure => exact e2.out
          case rel => exact ⟨div3 2 ⟨rx, ry, rz⟩, rfl, E1, e3, e4, D1.out.set _ _ _, D2.out.other (by omega) _ _ _, below_set3 (h7.out.trans ((hb4.mono h7.out.size).trans (hb5.mono (Nat.le_trans h7.out.size hb4.size)))) (Nat.le_refl _) _ _ _⟩
        | false =>
          have e1 : halve3 ⟨rx, ry, rz⟩ = ⟨rx, ry, rz⟩ := by rw [halve3, dif_neg (by rw [hf]; simp)]
          have E1 : Hid (halve3 q = ⟨rx, ry, rz⟩) := h2.out.symm.trans e1
          clear e1
          have H4 := h4.out
          go_wp2_with (first
            | (go_at_call 123; refine (beyond_calls _ _ _ _ _ (by decide) (by decide)).mono ?_; rintro e w4 ⟨rfl, hb4⟩; rw [hf]; have C1 := Lh (h5.out.below hb4); have C2 := Lh (h6.out.below hb4); obtain ⟨c10, c11, c12, f10, f11, f12⟩ := id C1.out)
            | (go_at_call 124; refine (bare_calls _ _ _ _ h4.out ?_ ?_ ?_ ?_ ?_ ?_).mono ?_; omega; omega; omega; omega; omega; omega; rintro e w5 ⟨rfl, hb5⟩; have D2 := Lh (C2.out.below hb5); obtain ⟨c20, c21, c22, f20, f21, f22⟩ := id D2.out))
          rw [HQ.out, E1.out]
          exact bodyPost_ret (v := .agg #[.int .i64 (bare3 ⟨rx, ry, rz⟩).x, .int .i64 (bare3 ⟨rx, ry, rz⟩).y, .int .i64 (bare3 ⟨rx, ry, rz⟩).z]) (by simp [results, Try.results77, go_sem, c20, c21, c22]) rfl ⟨rfl, below_set3 (h7.out.trans ((hb4.mono h7.out.size).trans (hb5.mono (Nat.le_trans h7.out.size hb4.size)))) (by omega) _ _ _⟩
end Go.Proofs.Ytckdhahceelckaa.G
namespace Go.Proofs.Ytckdhahceelckaa.G
open Go.RowKit Go.Proofs.YtckdhahceelckaaW.PrintWords Go.Proofs.YtckdhahceelckaaW.PrintLast Go.Proofs.YtckdhahceelckaaW.PrintMore
attribute [local go_sem] max2_mx min2_mn max_two min_two max_three min_three max_four min_four
attribute [local go_sem high] eqA23
set_option linter.unusedVariables false
set_option linter.unusedSimpArgs false
open Go.Shelf
attribute [local go_sem] Oper.semAt_some
/-- all ways that may tell two apart, as they are -/
def edgeW (ea eb : List P3) : List P3 := ea.flatMap fun e => eb.map fun f => cross3 e f
def roundW (es : List P3) (p q : P3) : List P3 := short3 (minus3 q p) :: es.map fun e => cross3 (short3 (cross3 e (short3 (minus3 q p)))) e
def pointW (pa pb es : List P3) : List P3 := pa.flatMap fun p => pb.flatMap fun q => roundW es p q
def rawC (pa aa ea pb ab eb : List P3) : List P3 := (aa ++ ab) ++ (edgeW ea eb ++ (if mn pa.length pb.length > 2 then [] else pointW pa pb (ea ++ eb)))
theorem pre_mid {α : Type} {pre R l : List α} {x : α} (h : l = pre ++ x :: R) : pre ++ [x] <+: l := ⟨R, by rw [h]; simp⟩
theorem take_mid {α : Type} (l : List α) (k : Nat) (h : k < l.length) : l = l.take k ++ l[k] :: l.drop (k + 1) := by
  rw [← List.drop_eq_getElem_cons h, List.take_append_drop]
theorem edgeW_snoc (ea eb : List P3) (i : Nat) (h : i < ea.length) : edgeW (ea.take (i + 1)) eb = edgeW (ea.take i) eb ++ eb.map (fun f => cross3 ea[i] f) := by
  unfold edgeW
  rw [List.take_succ_eq_append_getElem h, List.flatMap_append]; simp
theorem edgeW_mid (ea eb : List P3) (i : Nat) (h : i < ea.length) (j : Nat) (h' : j < eb.length) : edgeW ea eb = edgeW (ea.take i) eb ++ (eb.take j).map (fun f => cross3 ea[i] f) ++ cross3 ea[i] eb[j] :: ((eb.drop (j + 1)).map (fun f => cross3 ea[i] f) ++ edgeW (ea.drop (i + 1)) eb) := by
  have e1 : edgeW ea eb = edgeW (ea.take i) eb ++ (eb.map (fun f => cross3 ea[i] f) ++ edgeW (ea.drop (i + 1)) eb) := by
    have := take_mid ea i h
    conv => lhs; rw [this]
    unfold edgeW
    rw [List.flatMap_append, List.flatMap_cons]
  have e2 : eb.map (fun f => cross3 ea[i] f) = (eb.take j).map (fun f => cross3 ea[i] f) ++ cross3 ea[i] eb[j] :: (eb.drop (j + 1)).map (fun f => cross3 ea[i] f) := by
    conv => lhs; rw [take_mid eb j h']
    rw [List.map_append, List.map_cons]
  rw [e1, e2]
  simp
theorem roundW_eq (es : List P3) (p q d : P3) (h : short3 (minus3 q p) = d) : roundW es p q = d :: es.map fun e => cross3 (short3 (cross3 e d)) e := by unfold roundW; rw [h]
theorem pointW_snoc (pa pb es : List P3) (i : Nat) (h : i < pa.length) : pointW (pa.take (i + 1)) pb es = pointW (pa.take i) pb es ++ pb.flatMap (fun q => roundW es pa[i] q) := by
  unfold pointW
  rw [List.take_succ_eq_append_getElem h, List.flatMap_append]; simp
theorem flat_snoc (pb es : List P3) (p : P3) (j : Nat) (h : j < pb.length) : (pb.take (j + 1)).flatMap (fun q => roundW es p q) = (pb.take j).flatMap (fun q => roundW es p q) ++ roundW es p pb[j] := by
  rw [List.take_succ_eq_append_getElem h, List.flatMap_append]; simp
theorem pointW_mid (pa pb es : List P3) (i : Nat) (h : i < pa.length) (j : Nat) (h' : j < pb.length) : ∃ R, pointW pa pb es = pointW (pa.take i) pb es ++ (pb.take j).flatMap (fun q => roundW es pa[i] q) ++ roundW es pa[i] pb[j] ++ R := by
  refine ⟨(pb.drop (j + 1)).flatMap (fun q => roundW es pa[i] q) ++ pointW (pa.drop (i + 1)) pb es, ?_⟩
  have e1 : pointW pa pb es = pointW (pa.take i) pb es ++ (pb.flatMap (fun q => roundW es pa[i] q) ++ pointW (pa.drop (i + 1)) pb es) := by
    have := take_mid pa i h
    conv => lhs; rw [this]
    unfold pointW
    rw [List.flatMap_append, List.flatMap_cons]
  have e2 : pb.flatMap (fun q => roundW es pa[i] q) = (pb.take j).flatMap (fun q => roundW es pa[i] q) ++ (roundW es pa[i] pb[j] ++ (pb.drop (j + 1)).flatMap (fun q => roundW es pa[i] q)) := by
    conv => lhs; rw [take_mid pb j h']
    rw [List.flatMap_append, List.flatMap_cons]
  rw [e1, e2]
  simp only [List.append_assoc]
/-- every block of cells but two lies as it lay -/
def KpX (bo bf : Nat) (W W' : World) : Prop := W.heap.size ≤ W'.heap.size ∧ ∀ k c t f, W.heap[k]? = some (.cells c t f) → k ≠ bo → k ≠ bf → W'.heap[k]? = W.heap[k]?
theorem KpX.refl (bo bf : Nat) (W : World) : KpX bo bf W W := ⟨Nat.le_refl _, fun _ _ _ _ _ _ _ => rfl⟩
theorem KpX.trans {bo bf : Nat} {A B C : World} (h : KpX bo bf A B) (k : KpX bo bf B C) : KpX bo bf A C :=
  ⟨Nat.le_trans h.1 k.1, fun i c t f hc h1 h2 => (k.2 i c t f ((h.2 i c t f hc h1 h2).trans hc) h1 h2).trans (h.2 i c t f hc h1 h2)⟩
theorem KpX.of_below {bo bf : Nat} {A B : World} (h : Below A.heap.size A B) : KpX bo bf A B :=
  ⟨h.size, fun i c t f hc _ _ => h.block i (Array.getElem?_eq_some_iff.1 hc).1⟩
theorem KpX.putObj {bo bf : Nat} {W : World} {l : Nat} {o o' : Obj} (hl : W.heap[l]? = some o) (ho : o.isCells = false) : KpX bo bf W (W.putObj l o') :=
  ⟨by simp, fun i c t f hc _ _ => World.putObj_heap_other (fun e => by subst e; rw [hl] at hc; cases hc; cases ho)⟩
theorem cells_of_cell {W : World} {b o : Nat} {v : Value} (h : W.cell? ⟨b, o, none⟩ = some v) : ∃ c t f, W.heap[b]? = some (.cells c t f) := by
  unfold World.cell? at h
  split at h
  · rename_i c t f hb; exact ⟨c, t, f, hb⟩
  · cases h
theorem KpX.cell {bo bf : Nat} {A B : World} (h : KpX bo bf A B) {b o : Nat} {v : Value} (hc : A.cell? ⟨b, o, none⟩ = some v) (h1 : b ≠ bo) (h2 : b ≠ bf) : B.cell? ⟨b, o, none⟩ = some v := by
  obtain ⟨c, t, f, hb⟩ := cells_of_cell hc
  exact (World.cell?_of_block (a := ⟨b, o, none⟩) (h.2 b c t f hb h1 h2)).trans hc
/-- a slice that is read, apart from two blocks -/
def RdX (bo bf : Nat) (w : World) (A : Option Addr) (l : List P3) : Prop := Rd w A l ∧ (l ≠ [] → ∀ ad, A = some ad → ad.block ≠ bo ∧ ad.block ≠ bf)
theorem RdX.keep {bo bf : Nat} {w w' : World} {A l} (h : RdX bo bf w A l) (hk : KpX bo bf w w') : RdX bo bf w' A l :=
  ⟨fun i p hp => by
    obtain ⟨b, o, hA, hlt, h1, h2, h3⟩ := h.1 i p hp
    obtain ⟨n1, n2⟩ := h.2 (fun e0 => by rw [e0] at hp; simp at hp) _ hA
    exact ⟨b, o, hA, Nat.lt_of_lt_of_le hlt hk.1, hk.cell h1 n1 n2, hk.cell h2 n1 n2, hk.cell h3 n1 n2⟩, h.2⟩
theorem abides_below {J : List P3 → World → Prop} {B : Nat} (h : AbidesFrom B J) {s : List P3} {W W' : World} (hs : J s W) (hb : Below W.heap.size W W') : J s W' :=
  h s W W' none hs ⟨hb.os, hb.tape, hb.output, hb.size, fun k hk _ => hb.block k hk⟩ (fun r e => by cases e)
theorem heap_keep {bo bf : Nat} {W W' : World} {g : Nat} {c : Array Value} {t : TypeId} {f : Nat × Nat} (h : W.heap[g]? = some (.cells c t f)) (hk : KpX bo bf W W') (h1 : g ≠ bo) (h2 : g ≠ bf) : W'.heap[g]? = some (.cells c t f) := (hk.2 g c t f h h1 h2).trans h
theorem C3.keep {bo bf : Nat} {W W' : World} {g : Nat} {a b c : Value} (h : C3 W g a b c) (hk : KpX bo bf W W') (h1 : g ≠ bo) (h2 : g ≠ bf) : C3 W' g a b c := by
  obtain ⟨cs, t, f, hb⟩ := cells_of_cell h.c0
  have e : W'.heap[g]? = W.heap[g]? := hk.2 g cs t f hb h1 h2
  exact ⟨(World.cell?_of_block (a := ⟨g, 0, none⟩) e).trans h.c0, (World.cell?_of_block (a := ⟨g, 1, none⟩) e).trans h.c1, (World.cell?_of_block (a := ⟨g, 2, none⟩) e).trans h.c2, (World.frozen?_of_block (a := ⟨g, 0, none⟩) e).trans h.f0, (World.frozen?_of_block (a := ⟨g, 1, none⟩) e).trans h.f1, (World.frozen?_of_block (a := ⟨g, 2, none⟩) e).trans h.f2⟩
structure Cut0 (T : Prop) : Prop where
  out : T
theorem cut_ {T G : Prop} (h : Cut0 T → G) (t : T) : G := h ⟨t⟩
set_option maxHeartbeats 4000000 in
set_option maxRecDepth 100000 in
theorem ways1_in (n : Nat) (hn : 3 ≤ n) (l bo bf ga gb : Nat) (pa aa ea pb ab eb : List P3) (A0 A1 A2 B0 B1 B2 : Option Addr) (c0 c1 c2 d0 d1 d2 : Nat) (ra rb : Int) (J Jx : List P3 → World → Prop)
    (W : World) (hJ : AbidesFrom W.heap.size J) (hJx : AbidesFrom W.heap.size Jx)
    (hY : ∀ pre x W1, J pre W1 → pre.length < (rawC pa aa ea pb ab eb).length → YieldAt Fence.wide (n - 1) Try.prog l #[.agg #[.int .i64 x.x, .int .i64 x.y, .int .i64 x.z]] W1 fun e W' =>
      (e = .returned (.bool true) ∧ J (pre ++ [x]) W' ∧ KpX bo bf W1 W') ∨ (e = .returned (.bool false) ∧ Jx (pre ++ [x]) W'))
    (hga : W.heap[ga]? = some (.cells #[.slice A0 pa.length c0, .slice A1 aa.length c1, .slice A2 ea.length c2, .int .i64 ra] 36 (0, 0)))
    (hgb : W.heap[gb]? = some (.cells #[.slice B0 pb.length d0, .slice B1 ab.length d1, .slice B2 eb.length d2, .int .i64 rb] 36 (0, 0)))
    (R0 : Hid (RdX bo bf W A0 pa)) (R1 : Hid (RdX bo bf W A1 aa)) (R2 : Hid (RdX bo bf W A2 ea)) (S0 : Hid (RdX bo bf W B0 pb)) (S1 : Hid (RdX bo bf W B1 ab)) (S2 : Hid (RdX bo bf W B2 eb)) (hl1 : aa.length ≤ 40000) (hl2 : ab.length ≤ 40000) (hl3 : ea.length ≤ 40000) (hl4 : eb.length ≤ 40000) (hl5 : pa.length ≤ 40000) (hl6 : pb.length ≤ 40000)
    (hga1 : ga ≠ bo) (hga2 : ga ≠ bf) (hgb1 : gb ≠ bo) (hgb2 : gb ≠ bf) (hbo : bo < W.heap.size) (hbf : bf < W.heap.size)
    (h0 : J [] W) :
    CallsIn Fence.wide n Try.prog 115 #[.func (.yield l) #[] #[], .pointer (some ⟨ga, 0, none⟩), .pointer (some ⟨gb, 0, none⟩)] W fun e W' => (∃ v, e = .returned v) ∧
      ((∃ ys, ys = rawC pa aa ea pb ab eb ∧ J ys W') ∨ (∃ pre, pre <+: rawC pa aa ea pb ab eb ∧ Jx pre W')) := by
  refine callsIn_of_wp Try.func115 rfl trivial ?_ rfl
  simp only [Try.ntmps115, List.size_toArray, List.length_cons, List.length_nil, Nat.reduceAdd, Nat.reduceSub, Array.replicate_succ, Array.replicate_zero, List.push_toArray, List.append_toArray, List.nil_append, List.cons_append]
  gi_wp2
  have HJ := Lh hJ
  have HJx := Lh hJx
  have hY' : ∀ pre x R W1, J pre W1 → rawC pa aa ea pb ab eb = pre ++ x :: R → YieldAt Fence.wide (n - 1) Try.prog l #[.agg #[.int .i64 x.x, .int .i64 x.y, .int .i64 x.z]] W1 fun e W' =>
      (e = .returned (.bool true) ∧ J (pre ++ [x]) W' ∧ KpX bo bf W1 W') ∨ (e = .returned (.bool false) ∧ Jx (pre ++ [x]) W') :=
    fun pre x R W1 h1 h2 => hY pre x W1 h1 (by rw [h2]; simp)
  have HY := Lh hY'
  clear hY'
  have HA := Lh hga
  have HB := Lh hgb
  clear hJ hJx hY hga hgb
  refine (wpIn_wide (n := n)).2 (wp_scope_straight ((wpIn_wide (n := n)).1 ?_))
  apply wpIn_seq_k
  intro K hK
  apply wpIn_label
  refine hK _ _ ?_
  clear hK K
  apply wpIn_block
  apply wpIn_loop_once
  have a1 : W.cell? ⟨ga, 1, none⟩ = some (.slice A1 aa.length c1) := (blk_cell HA.out 1).trans rfl
  have a2 : W.cell? ⟨gb, 1, none⟩ = some (.slice B1 ab.length d1) := (blk_cell HB.out 1).trans rfl
  gi_wp2_with fail
  refine ⟨trivial, fun h => (by cases h), ?_⟩
  refine ((callsIn_wide (n := n - 1)).2 (concat_calls aa ab _ _ A1 B1 c1 d1 _ _ rfl rfl ?_ ?_ (R1.out.1.alloc _) (S1.out.1.alloc _) hl1 hl2)).mono ?_
  · simp
  · simp
  rintro e W1 ⟨A, c, rfl, hc, hrd, hb1, hbs⟩
  have hB1 : Below W.heap.size W W1 := ((Below.refl _ W).alloc (Nat.le_refl _) _).trans (hb1.mono (by simp))
  have K1 : Hid (KpX bo bf W W1) := KpX.of_below hB1
  have RL : Hid (RdX bo bf W1 A (aa ++ ab)) := ⟨hrd, fun _ ad e => by have := hbs ad e; simp at this; omega⟩
  have h1 : J [] W1 := abides_below HJ.out h0 hB1
  clear a1 a2 hb1 hbs h0
  obtain ⟨L1, hL1⟩ : ∃ L, aa ++ ab = L := ⟨_, rfl⟩
  rw [hL1] at hc hrd RL ⊢
  obtain ⟨T1, hT1⟩ : ∃ T, edgeW ea eb ++ (if mn pa.length pb.length > 2 then [] else pointW pa pb (ea ++ eb)) = T := ⟨_, rfl⟩
  have HRAW : Hid (rawC pa aa ea pb ab eb = L1 ++ T1) := by show rawC .. = _; unfold rawC; rw [hL1, hT1]
  have HT1 := Lh hT1
  clear hT1
  have hl7 : L1.length ≤ 80000 := by rw [← hL1]; simp; omega
  clear hL1 hrd
  gi_wp2
  gi_loopw [25] (fun v25 wr => ∃ k : Nat, k ≤ L1.length ∧ v25 = .int .i64 k ∧ J (L1.take k) wr ∧ Hid (KpX bo bf W1 wr)) (fun i _ => L1.length - (intOf i).toNat)
  case atStart => exact ⟨0, Nat.zero_le _, rfl, h1, KpX.refl _ _ _⟩
  case round =>
    clear h1
    obtain ⟨k, hk, rfl, hj, hkp⟩ := hrel
    by_cases hlt : k < L1.length
    · obtain ⟨b, o, rfl, hbl, e1, e2, e3⟩ := (RL.out.keep hkp.out).1.get k hlt
      obtain ⟨p, hp⟩ : ∃ p, L1[k] = p := ⟨_, rfl⟩
      rw [hp] at e1 e2 e3
      have HP := Lh hp
      clear hp
      obtain ⟨px, py, pz⟩ := p
      dsimp only at e1 e2 e3
      have HR1 : rawC pa aa ea pb ab eb = L1.take k ++ ⟨px, py, pz⟩ :: (L1.drop (k + 1) ++ T1) := by rw [HRAW.out, ← HP.out, ← List.cons_append, ← List.append_assoc, ← take_mid L1 k hlt]
      have hbw : Below wr.heap.size wr (wr.alloc (.cells #[.int .i64 px, .int .i64 py, .int .i64 pz] 23)) := (Below.refl _ _).alloc (Nat.le_refl _) _
      have hsz : W.heap.size ≤ wr.heap.size := Nat.le_trans K1.out.1 hkp.out.1
      have hj' := abides_below HJ.out hj hbw
      obtain ⟨fn, tmps, assign, body, hy, hR⟩ := HY.out _ ⟨px, py, pz⟩ (L1.drop (k + 1) ++ T1) _ hj' HR1
      dsimp only at hy
      gi_wp2
      refine ⟨fun h => (by cases h), hR.mono ?_⟩
      rintro e W' (⟨rfl, hJ', hk'⟩ | ⟨rfl, hJx'⟩)
      · gi_wp2
        go_roundw
        case rel => exact ⟨k + 1, by omega, by go_num, by rw [List.take_succ_eq_append_getElem hlt, HP.out]; exact hJ', hkp.out.trans ((KpX.of_below hbw).trans hk')⟩
        case measure => simp [intOf]; omega
      · have HR2 := Lh HR1
        clear HR1
        gi_wp2
        rw [Exit.noGoto_normal]
        go_end0
        exact ⟨⟨_, rfl⟩, .inr ⟨_, pre_mid HR2.out, hJx'⟩⟩
    · obtain rfl : k = L1.length := by omega
      rw [List.take_length] at hj
      have KW : Hid (KpX bo bf W wr) := K1.out.trans hkp.out
      have hga := heap_keep HA.out KW.out hga1 hga2
      have hgb := heap_keep HB.out KW.out hgb1 hgb2
      have a1 : wr.cell? ⟨ga, 2, none⟩ = some (.slice A2 ea.length c2) := (blk_cell hga 2).trans rfl
      clear hga hgb RL K1 hkp
      gi_wp2
      gi_loopw [37] (fun v37 w2 => ∃ i : Nat, i ≤ ea.length ∧ v37 = .int .i64 i ∧ J (L1 ++ edgeW (ea.take i) eb) w2 ∧ Hid (KpX bo bf W w2)) (fun i _ => ea.length - (intOf i).toNat)
      case atStart => exact ⟨0, Nat.zero_le _, rfl, by simpa [edgeW] using hj, KW⟩
      case round =>
        clear hj KW a1
        obtain ⟨w2, rfl⟩ : ∃ w2 : World, w2 = wr := ⟨_, rfl⟩
        obtain ⟨i, hi, rfl, hj, KW⟩ := hrel
        by_cases hlt2 : i < ea.length
        · obtain ⟨b, o, rfl, hbl, e1, e2, e3⟩ := (R2.out.keep KW.out).1.get i hlt2
          obtain ⟨p, hp⟩ : ∃ p, ea[i] = p := ⟨_, rfl⟩
          rw [hp] at e1 e2 e3
          have HP := Lh hp
          clear hp
          obtain ⟨px, py, pz⟩ := p
          dsimp only at e1 e2 e3
          have hgb' := heap_keep HB.out KW.out hgb1 hgb2
          have a2 : w2.cell? ⟨gb, 2, none⟩ = some (.slice B2 eb.length d2) := (blk_cell hgb' 2).trans rfl
          have hgl := blk_lt hgb'
          have a3 : (w2.alloc (.cells #[.int .i64 px, .int .i64 py, .int .i64 pz] 23)).cell? ⟨gb, 2, none⟩ = some (.slice B2 eb.length d2) := (World.cell?_alloc_lt _ _ _ hgl).trans a2
          have hbw : Below w2.heap.size w2 (w2.alloc (.cells #[.int .i64 px, .int .i64 py, .int .i64 pz] 23)) := (Below.refl _ _).alloc (Nat.le_refl _) _
          have hj1 := abides_below HJ.out hj hbw
          have KW1 : Hid (KpX bo bf W (w2.alloc (.cells #[.int .i64 px, .int .i64 py, .int .i64 pz] 23))) := KW.out.trans (KpX.of_below hbw)
          have C1 : Hid (C3 (w2.alloc (.cells #[.int .i64 px, .int .i64 py, .int .i64 pz] 23)) w2.heap.size (.int .i64 px) (.int .i64 py) (.int .i64 pz)) := C3.new w2 _ _ _ 23
          have hsz : W.heap.size ≤ w2.heap.size := KW.out.1
          clear hbw hgb' hj KW a2
          gi_wp2
          gi_loopw [44] (fun v44 w3 => ∃ j : Nat, j ≤ eb.length ∧ v44 = .int .i64 j ∧ J (L1 ++ (edgeW (ea.take i) eb ++ (eb.take j).map (fun f => cross3 ⟨px, py, pz⟩ f))) w3 ∧ Hid (KpX bo bf W w3) ∧ Hid (C3 w3 w2.heap.size (.int .i64 px) (.int .i64 py) (.int .i64 pz))) (fun j _ => eb.length - (intOf j).toNat)
          case atStart => exact ⟨0, Nat.zero_le _, rfl, by simpa using hj1, KW1, C1⟩
          case round =>
            clear hj1 KW1 C1 a3 e1 e2 e3
            obtain ⟨w3, rfl⟩ : ∃ w3 : World, w3 = wr := ⟨_, rfl⟩
            obtain ⟨j, hjl, rfl, hj, KW, C1⟩ := hrel
            by_cases hlt3 : j < eb.length
            · obtain ⟨b2, o2, rfl, hbl2, e1, e2, e3⟩ := (S2.out.keep KW.out).1.get j hlt3
              obtain ⟨q, hq⟩ : ∃ q, eb[j] = q := ⟨_, rfl⟩
              rw [hq] at e1 e2 e3
              have HQ := Lh hq
              clear hq
              obtain ⟨qx, qy, qz⟩ := q
              dsimp only at e1 e2 e3
              obtain ⟨c10, c11, c12, _, _, _⟩ := (C1.out.alloc (.cells #[.int .i64 qx, .int .i64 qy, .int .i64 qz] 23))
              have HR1 : rawC pa aa ea pb ab eb = (L1 ++ (edgeW (ea.take i) eb ++ (eb.take j).map (fun f => cross3 ⟨px, py, pz⟩ f))) ++ cross3 ⟨px, py, pz⟩ ⟨qx, qy, qz⟩ :: (((eb.drop (j + 1)).map (fun f => cross3 ⟨px, py, pz⟩ f) ++ edgeW (ea.drop (i + 1)) eb) ++ (if mn pa.length pb.length > 2 then [] else pointW pa pb (ea ++ eb))) := by
                rw [HRAW.out, ← HT1.out, edgeW_mid ea eb i hlt2 j hlt3, HP.out, HQ.out]
                simp only [List.append_assoc, List.cons_append]
              have HR2 := Lh HR1
              clear HR1
              have hbw : Below w3.heap.size w3 (w3.alloc (.cells #[.int .i64 qx, .int .i64 qy, .int .i64 qz] 23)) := (Below.refl _ _).alloc (Nat.le_refl _) _
              gi_wp2_with fail
              refine ⟨trivial, fun h => (by cases h), ?_⟩
              refine ((callsIn_wide (n := n - 1)).2 (cross_calls _ _ _ _ _ _ _)).mono ?_
              rintro e w4 ⟨rfl, hb4⟩
              have hb5 : Below w3.heap.size w3 w4 := hbw.trans (hb4.mono hbw.size)
              have hj4 := abides_below HJ.out hj hb5
              obtain ⟨fn, tmps, assign, body, hy, hR⟩ := HY.out _ _ _ _ hj4 HR2.out
              clear hb4 hbw c10 c11 c12 hj e1 e2 e3
              gi_wp2
              refine ⟨fun h => (by cases h), hR.mono ?_⟩
              rintro e W' (⟨rfl, hJ', hk'⟩ | ⟨rfl, hJx'⟩)
              · gi_wp2
                go_roundw
                case rel =>
                  refine ⟨j + 1, by omega, by go_num, ?_, KW.out.trans ((KpX.of_below hb5).trans hk'), (C1.out.below hb5).keep hk' (by omega) (by omega)⟩
                  rw [List.take_succ_eq_append_getElem hlt3, List.map_append, HQ.out]
                  simpa [List.append_assoc] using hJ'
                case measure => simp [intOf]; omega
              · gi_wp2
                rw [Exit.noGoto_normal]
                go_end0
                exact ⟨⟨_, rfl⟩, .inr ⟨_, pre_mid HR2.out, hJx'⟩⟩
            · obtain rfl : j = eb.length := by omega
              rw [List.take_length] at hj
              gi_wp2
              go_roundw
              case rel => exact ⟨i + 1, by omega, by go_num, by rw [edgeW_snoc ea eb i hlt2, HP.out]; exact hj, KW⟩
              case measure => simp [intOf]; omega
        · obtain rfl : i = ea.length := by omega
          rw [List.take_length] at hj
          have hga' := heap_keep HA.out KW.out hga1 hga2
          have hgb' := heap_keep HB.out KW.out hgb1 hgb2
          have a0 : w2.cell? ⟨ga, 0, none⟩ = some (.slice A0 pa.length c0) := (blk_cell hga' 0).trans rfl
          have b0 : w2.cell? ⟨gb, 0, none⟩ = some (.slice B0 pb.length d0) := (blk_cell hgb' 0).trans rfl
          have a2 : w2.cell? ⟨ga, 2, none⟩ = some (.slice A2 ea.length c2) := (blk_cell hga' 2).trans rfl
          have b2 : w2.cell? ⟨gb, 2, none⟩ = some (.slice B2 eb.length d2) := (blk_cell hgb' 2).trans rfl
          have za := blk_lt hga'
          have zb := blk_lt hgb'
          clear hga' hgb'
          obtain ⟨M, hM⟩ : ∃ M, mn (pa.length : Int) (pb.length : Int) = M := ⟨_, rfl⟩
          have HM := Lh hM
          by_cases hm : 2 < M
          · have ht : decide (2 < M) = true := by simpa using hm
            have hraw : Hid (rawC pa aa ea pb ab eb = L1 ++ edgeW ea eb) := by show rawC .. = _; rw [HRAW.out, ← HT1.out, HM.out, if_pos hm]; simp
            gi_wp2
            rw [Exit.noGoto_normal]
            go_end0
            exact ⟨⟨_, rfl⟩, .inl ⟨_, hraw.out.symm, hj⟩⟩
          · have ht : decide (2 < M) = false := by simpa using hm
            have ht' : M ≤ 2 := by omega
            have hraw : Hid (rawC pa aa ea pb ab eb = (L1 ++ edgeW ea eb) ++ pointW pa pb (ea ++ eb)) := by show rawC .. = _; rw [HRAW.out, ← HT1.out, HM.out, if_neg hm]; simp
            clear HRAW HT1
            gi_wp2_with fail
            refine ⟨trivial, fun h => (by cases h), ?_⟩
            refine ((callsIn_wide (n := n - 1)).2 (concat_calls ea eb _ _ A2 B2 c2 d2 _ _ rfl rfl ?_ ?_ ((R2.out.keep KW.out).1.alloc _) ((S2.out.keep KW.out).1.alloc _) hl3 hl4)).mono ?_
            · simp
            · simp
            rintro e w3 ⟨E, ce, rfl, hce, hrd, hb3, hbs⟩
            have hB3 : Below w2.heap.size w2 w3 := ((Below.refl _ w2).alloc (Nat.le_refl _) _).trans (hb3.mono (by simp))
            have hsz : W.heap.size ≤ w2.heap.size := KW.out.1
            have KW3 : Hid (KpX bo bf W w3) := KW.out.trans (KpX.of_below hB3)
            have RE : Hid (RdX bo bf w3 E (ea ++ eb)) := ⟨hrd, fun _ ad e => by have := hbs ad e; simp at this; omega⟩
            have hj3 : J (L1 ++ edgeW ea eb) w3 := abides_below HJ.out hj hB3
            have a3 : w3.cell? ⟨ga, 0, none⟩ = some (.slice A0 pa.length c0) := (hB3.cell (p := ⟨ga, 0, none⟩) za).trans a0
            obtain ⟨es, hes⟩ : ∃ L, ea ++ eb = L := ⟨_, rfl⟩
            rw [hes] at hce hrd RE ⊢
            have hl8 : es.length ≤ 80000 := by rw [← hes]; simp; omega
            have HRAW : Hid (rawC pa aa ea pb ab eb = (L1 ++ edgeW ea eb) ++ pointW pa pb es) := by rw [← hes]; exact hraw.out
            obtain ⟨L2, hL2⟩ : ∃ L, L1 ++ edgeW ea eb = L := ⟨_, rfl⟩
            rw [hL2] at hj3 HRAW
            clear hB3 hb3 hbs hrd a0 b0 a2 b2 za zb hj KW hraw hes hL2 hM HM
            gi_wp2
            gi_loopw [73] (fun v73 w4 => ∃ i : Nat, i ≤ pa.length ∧ v73 = .int .i64 i ∧ J (L2 ++ pointW (pa.take i) pb es) w4 ∧ Hid (KpX bo bf W w4) ∧ Hid (RdX bo bf w4 E es)) (fun i _ => pa.length - (intOf i).toNat)
            case atStart => exact ⟨0, Nat.zero_le _, rfl, by simpa [pointW] using hj3, KW3, RE⟩
            case round =>
              obtain ⟨w4, rfl⟩ : ∃ w4 : World, w4 = wr := ⟨_, rfl⟩
              clear hj3 KW3 RE a3 hsz
              obtain ⟨i, hi, rfl, hj, KW, RE⟩ := hrel
              by_cases hlt4 : i < pa.length
              · obtain ⟨b, o, rfl, hbl, e1, e2, e3⟩ := (R0.out.keep KW.out).1.get i hlt4
                obtain ⟨p, hp⟩ : ∃ p, pa[i] = p := ⟨_, rfl⟩
                rw [hp] at e1 e2 e3
                have HP := Lh hp
                clear hp
                obtain ⟨px, py, pz⟩ := p
                dsimp only at e1 e2 e3
                have hgb' := heap_keep HB.out KW.out hgb1 hgb2
                have b2 : w4.cell? ⟨gb, 0, none⟩ = some (.slice B0 pb.length d0) := (blk_cell hgb' 0).trans rfl
                have hgl := blk_lt hgb'
                have b3 : (w4.alloc (.cells #[.int .i64 px, .int .i64 py, .int .i64 pz] 23)).cell? ⟨gb, 0, none⟩ = some (.slice B0 pb.length d0) := (World.cell?_alloc_lt _ _ _ hgl).trans b2
                have hbw : Below w4.heap.size w4 (w4.alloc (.cells #[.int .i64 px, .int .i64 py, .int .i64 pz] 23)) := (Below.refl _ _).alloc (Nat.le_refl _) _
                have hj1 := abides_below HJ.out hj hbw
                have KW1 : Hid (KpX bo bf W (w4.alloc (.cells #[.int .i64 px, .int .i64 py, .int .i64 pz] 23))) := KW.out.trans (KpX.of_below hbw)
                have RE1 : Hid (RdX bo bf (w4.alloc (.cells #[.int .i64 px, .int .i64 py, .int .i64 pz] 23)) E es) := RE.out.keep (KpX.of_below hbw)
                have C1 : Hid (C3 (w4.alloc (.cells #[.int .i64 px, .int .i64 py, .int .i64 pz] 23)) w4.heap.size (.int .i64 px) (.int .i64 py) (.int .i64 pz)) := C3.new w4 _ _ _ 23
                have hsz : W.heap.size ≤ w4.heap.size := KW.out.1
                clear hbw hgb' hj KW b2 RE
                gi_wp2
                gi_loopw [80] (fun v80 w5 => ∃ j : Nat, j ≤ pb.length ∧ v80 = .int .i64 j ∧ J (L2 ++ (pointW (pa.take i) pb es ++ (pb.take j).flatMap (fun q => roundW es ⟨px, py, pz⟩ q))) w5 ∧ Hid (KpX bo bf W w5) ∧ Hid (RdX bo bf w5 E es) ∧ Hid (C3 w5 w4.heap.size (.int .i64 px) (.int .i64 py) (.int .i64 pz))) (fun j _ => pb.length - (intOf j).toNat)
                case atStart => exact ⟨0, Nat.zero_le _, rfl, by simpa using hj1, KW1, RE1, C1⟩
                case round =>
                  clear hj1 KW1 C1 RE1 b3 e1 e2 e3
                  obtain ⟨w5, rfl⟩ : ∃ w5 : World, w5 = wr := ⟨_, rfl⟩
                  obtain ⟨j, hjl, rfl, hj, KW, RE, C1⟩ := hrel
                  by_cases hlt5 : j < pb.length
                  · obtain ⟨b2, o2, rfl, hbl2, e1, e2, e3⟩ := (S0.out.keep KW.out).1.get j hlt5
                    obtain ⟨q, hq⟩ : ∃ q, pb[j] = q := ⟨_, rfl⟩
                    rw [hq] at e1 e2 e3
                    have HQ := Lh hq
                    clear hq
                    obtain ⟨qx, qy, qz⟩ := q
                    dsimp only at e1 e2 e3
                    have hsz5 : W.heap.size ≤ w5.heap.size := KW.out.1
                    obtain ⟨RR, hRR⟩ := pointW_mid pa pb es i hlt4 j hlt5
                    rw [HP.out, HQ.out] at hRR
                    obtain ⟨P5, hP5⟩ : ∃ L, L2 ++ (pointW (pa.take i) pb es ++ (pb.take j).flatMap (fun q => roundW es ⟨px, py, pz⟩ q)) = L := ⟨_, rfl⟩
                    have HRAW5 : Hid (rawC pa aa ea pb ab eb = P5 ++ (roundW es ⟨px, py, pz⟩ ⟨qx, qy, qz⟩ ++ RR)) := by
                      show rawC .. = _
                      rw [HRAW.out, hRR, ← hP5]; simp only [List.append_assoc]
                    rw [hP5] at hj
                    have HP5 := Lh hP5
                    clear hRR hP5
                    have hbw : Below w5.heap.size w5 (w5.alloc (.cells #[.int .i64 qx, .int .i64 qy, .int .i64 qz] 23)) := (Below.refl _ _).alloc (Nat.le_refl _) _
                    obtain ⟨c10, c11, c12, _, _, _⟩ := (C1.out.alloc (.cells #[.int .i64 qx, .int .i64 qy, .int .i64 qz] 23))
                    gi_wp2_with fail
                    refine ⟨trivial, fun h => (by cases h), ?_⟩
                    refine ((callsIn_wide (n := n - 1)).2 (minus_calls _ _ _ _ _ _ _)).mono ?_
                    rintro e w6 ⟨rfl, hb6⟩
                    clear c10 c11 c12 e1 e2 e3
                    gi_wp2_with fail
                    refine ⟨trivial, fun h => (by cases h), ?_⟩
                    refine ((callsIn_wide (n := n - 1)).2 (short_calls _ _ _ _)).mono ?_
                    rintro e w7 ⟨rfl, hb7⟩
                    have hb57 : Below w5.heap.size w5 w7 := hbw.trans ((hb6.mono hbw.size).trans (hb7.mono (Nat.le_trans hbw.size hb6.size)))
                    obtain ⟨d, hd⟩ : ∃ d, short3 (minus3 ⟨qx, qy, qz⟩ ⟨px, py, pz⟩) = d := ⟨_, rfl⟩
                    have hd' : short3 ⟨(minus3 ⟨qx, qy, qz⟩ ⟨px, py, pz⟩).x, (minus3 ⟨qx, qy, qz⟩ ⟨px, py, pz⟩).y, (minus3 ⟨qx, qy, qz⟩ ⟨px, py, pz⟩).z⟩ = d := hd
                    rw [hd']
                    have HDD := Lh hd
                    clear hd hd' hbw hb6 hb7
                    obtain ⟨dx, dy, dz⟩ := d
                    dsimp only
                    have hbw2 : Below w7.heap.size w7 (w7.alloc (.cells #[.int .i64 dx, .int .i64 dy, .int .i64 dz] 23)) := (Below.refl _ _).alloc (Nat.le_refl _) _
                    have hb58 : Below w5.heap.size w5 (w7.alloc (.cells #[.int .i64 dx, .int .i64 dy, .int .i64 dz] 23)) := bthen hb57 hbw2
                    have hj8 := abides_below HJ.out hj hb58
                    have HR1 : Hid (rawC pa aa ea pb ab eb = P5 ++ ⟨dx, dy, dz⟩ :: (es.map (fun e => cross3 (short3 (cross3 e ⟨dx, dy, dz⟩)) e) ++ RR)) := by
                      show rawC .. = _
                      rw [HRAW5.out]; unfold roundW; rw [HDD.out]; rfl
                    obtain ⟨fn, tmps, assign, body, hy, hR⟩ := HY.out _ ⟨dx, dy, dz⟩ _ _ hj8 HR1.out
                    dsimp only at hy
                    have D8 : Hid (C3 (w7.alloc (.cells #[.int .i64 dx, .int .i64 dy, .int .i64 dz] 23)) w7.heap.size (.int .i64 dx) (.int .i64 dy) (.int .i64 dz)) := C3.new w7 _ _ _ 23
                    have hsz7 : W.heap.size ≤ w7.heap.size := Nat.le_trans hsz5 hb57.size
                    gi_wp2
                    refine ⟨fun h => (by cases h), hR.mono ?_⟩
                    rintro e W' (⟨rfl, hJ', hk'⟩ | ⟨rfl, hJx'⟩)
                    · have KX : Hid (KpX bo bf w5 W') := (KpX.of_below hb58).trans hk'
                      have KW9 : Hid (KpX bo bf W W') := KW.out.trans KX.out
                      have RE9 : Hid (RdX bo bf W' E es) := RE.out.keep KX.out
                      have C9 : Hid (C3 W' w4.heap.size (.int .i64 px) (.int .i64 py) (.int .i64 pz)) := C1.out.keep KX.out (by omega) (by omega)
                      have D9 : Hid (C3 W' w7.heap.size (.int .i64 dx) (.int .i64 dy) (.int .i64 dz)) := D8.out.keep hk' (by omega) (by omega)
                      clear hj hj8 KX D8 C1 RE KW hb57 hbw2 hb58 hk' hy hR
                      gi_wp2
                      gi_loopw [94] (fun v94 w9 => ∃ m : Nat, m ≤ es.length ∧ v94 = .int .i64 m ∧ J (P5 ++ ⟨dx, dy, dz⟩ :: (es.take m).map (fun e => cross3 (short3 (cross3 e ⟨dx, dy, dz⟩)) e)) w9 ∧ Hid (KpX bo bf W w9) ∧ Hid (RdX bo bf w9 E es) ∧ Hid (C3 w9 w4.heap.size (.int .i64 px) (.int .i64 py) (.int .i64 pz)) ∧ Hid (C3 w9 w7.heap.size (.int .i64 dx) (.int .i64 dy) (.int .i64 dz))) (fun m _ => es.length - (intOf m).toNat)
                      case atStart => exact ⟨0, Nat.zero_le _, rfl, by simpa using hJ', KW9, RE9, C9, D9⟩
                      case round =>
                        clear hJ' KW9 RE9 C9 D9
                        obtain ⟨w9, rfl⟩ : ∃ w9 : World, w9 = wr := ⟨_, rfl⟩
                        obtain ⟨m, hml, rfl, hj, KW, RE, C1, D1⟩ := hrel
                        by_cases hlt6 : m < es.length
                        · obtain ⟨b3, o3, rfl, hbl3, e1, e2, e3⟩ := RE.out.1.get m hlt6
                          obtain ⟨s, hs⟩ : ∃ s, es[m] = s := ⟨_, rfl⟩
                          rw [hs] at e1 e2 e3
                          have HSS := Lh hs
                          clear hs
                          obtain ⟨sx, sy, sz⟩ := s
                          dsimp only at e1 e2 e3
                          have HR1 : Hid (rawC pa aa ea pb ab eb = (P5 ++ ⟨dx, dy, dz⟩ :: (es.take m).map (fun e => cross3 (short3 (cross3 e ⟨dx, dy, dz⟩)) e)) ++ cross3 (short3 (cross3 ⟨sx, sy, sz⟩ ⟨dx, dy, dz⟩)) ⟨sx, sy, sz⟩ :: ((es.drop (m + 1)).map (fun e => cross3 (short3 (cross3 e ⟨dx, dy, dz⟩)) e) ++ RR)) := by
                            show rawC .. = _
                            rw [HRAW5.out, roundW_eq es _ _ _ HDD.out]
                            have e2 : es.map (fun e => cross3 (short3 (cross3 e ⟨dx, dy, dz⟩)) e) = (es.take m).map (fun e => cross3 (short3 (cross3 e ⟨dx, dy, dz⟩)) e) ++ cross3 (short3 (cross3 ⟨sx, sy, sz⟩ ⟨dx, dy, dz⟩)) ⟨sx, sy, sz⟩ :: (es.drop (m + 1)).map (fun e => cross3 (short3 (cross3 e ⟨dx, dy, dz⟩)) e) := by
                              conv => lhs; rw [take_mid es m hlt6]
                              rw [List.map_append, List.map_cons, HSS.out]
                            rw [e2]
                            simp only [List.append_assoc, List.cons_append]
                          have hbw : Below w9.heap.size w9 (w9.alloc (.cells #[.int .i64 sx, .int .i64 sy, .int .i64 sz] 23)) := (Below.refl _ _).alloc (Nat.le_refl _) _
                          have G1 : Hid (C3 (w9.alloc (.cells #[.int .i64 sx, .int .i64 sy, .int .i64 sz] 23)) w7.heap.size (.int .i64 dx) (.int .i64 dy) (.int .i64 dz)) := D1.out.below hbw
                          have G2 : Hid (C3 (w9.alloc (.cells #[.int .i64 sx, .int .i64 sy, .int .i64 sz] 23)) w9.heap.size (.int .i64 sx) (.int .i64 sy) (.int .i64 sz)) := C3.new w9 _ _ _ 23
                          have hj9 := abides_below HJ.out hj hbw
                          obtain ⟨w10, hw10⟩ : ∃ w, w9.alloc (.cells #[.int .i64 sx, .int .i64 sy, .int .i64 sz] 23) = w := ⟨_, rfl⟩
                          have hsz10 : w10.heap.size = w9.heap.size + 1 := by rw [← hw10]; simp
                          gi_wp2
                          rw [hw10] at hbw G1 G2 hj9
                          (try simp only [hw10])
                          have KX10 : Hid (KpX bo bf w9 w10) := KpX.of_below hbw
                          have KW10 : Hid (KpX bo bf W w10) := KW.out.trans KX10.out
                          have RE10 : Hid (RdX bo bf w10 (some ⟨b3, o3, none⟩) es) := RE.out.keep KX10.out
                          have C10 : Hid (C3 w10 w4.heap.size (.int .i64 px) (.int .i64 py) (.int .i64 pz)) := C1.out.keep KX10.out (by have := C1.out.lt; omega) (by have := C1.out.lt; omega)
                          have D10 : Hid (C3 w10 w7.heap.size (.int .i64 dx) (.int .i64 dy) (.int .i64 dz)) := G1
                          have hsz9 : W.heap.size ≤ w9.heap.size := KW.out.1
                          clear hj KW RE C1 D1 e1 e2 e3 hbw KX10 hw10
                          have HJ9 := Lh hj9
                          clear hj9
                          have G1' := G1.out.drew
                          have G2' := G2.out.drew
                          clear G1 G2
                          have HB : Below w10.drew.heap.size w10.drew w10.drew := Below.refl _ _
                          obtain ⟨g10, g11, g12, _, _, _⟩ := G1'.below HB
                          obtain ⟨g20, g21, g22, _, _, _⟩ := G2'.below HB
                          have hmix : Try.prog.follows .mixedOrders = true := by kernel_rfl
                          obtain ⟨c, hcc⟩ : ∃ c, cross3 ⟨sx, sy, sz⟩ ⟨dx, dy, dz⟩ = c := ⟨_, rfl⟩
                          obtain ⟨h, hhh⟩ : ∃ h, short3 c = h := ⟨_, rfl⟩
                          obtain ⟨x, hxx⟩ : ∃ x, cross3 h ⟨sx, sy, sz⟩ = x := ⟨_, rfl⟩
                          rw [hcc, hhh, hxx] at HR1
                          have hC1 : Hid (∀ w, CallsIn Fence.wide (n - 1) Try.prog 117 #[.agg #[.int .i64 sx, .int .i64 sy, .int .i64 sz], .agg #[.int .i64 dx, .int .i64 dy, .int .i64 dz]] w fun e w' => e = .returned (.agg #[.int .i64 c.x, .int .i64 c.y, .int .i64 c.z]) ∧ Below w.heap.size w w') := by
                            rw [← hcc]; exact fun w => (callsIn_wide (n := n - 1)).2 (cross_calls _ _ _ _ _ _ w)
                          have hC2 : Hid (∀ w, CallsIn Fence.wide (n - 1) Try.prog 77 #[.agg #[.int .i64 c.x, .int .i64 c.y, .int .i64 c.z]] w fun e w' => e = .returned (.agg #[.int .i64 h.x, .int .i64 h.y, .int .i64 h.z]) ∧ Below w.heap.size w w') := by
                            rw [← hhh]; exact fun w => (callsIn_wide (n := n - 1)).2 (short_calls _ _ _ w)
                          have hC3 : Hid (∀ w, CallsIn Fence.wide (n - 1) Try.prog 117 #[.agg #[.int .i64 h.x, .int .i64 h.y, .int .i64 h.z], .agg #[.int .i64 sx, .int .i64 sy, .int .i64 sz]] w fun e w' => e = .returned (.agg #[.int .i64 x.x, .int .i64 x.y, .int .i64 x.z]) ∧ Below w.heap.size w w') := by
                            rw [← hxx]; exact fun w => (callsIn_wide (n := n - 1)).2 (cross_calls _ _ _ _ _ _ w)
                          have HRN : Hid (∀ w, J ((P5 ++ ⟨dx, dy, dz⟩ :: (es.take m).map (fun e => cross3 (short3 (cross3 e ⟨dx, dy, dz⟩)) e)) ++ [x]) w → J (P5 ++ ⟨dx, dy, dz⟩ :: (es.take (m + 1)).map (fun e => cross3 (short3 (cross3 e ⟨dx, dy, dz⟩)) e)) w) := by
                            intro w hw
                            rw [List.take_succ_eq_append_getElem hlt6, List.map_append, HSS.out, List.map_cons, List.map_nil, hcc, hhh, hxx]
                            simpa [List.append_assoc] using hw
                          clear hcc hhh hxx HSS
                          obtain ⟨c_x, c_y, c_z⟩ := c
                          obtain ⟨h_x, h_y, h_z⟩ := h
                          obtain ⟨xx, xy, xz⟩ := x
                          dsimp only at hC1 hC2 hC3
                          apply cut_
                          · intro END
                            gi_region_with_o (first
                              | (refine ⟨trivial, fun h => (by cases h), ?_⟩
                                 with_reducible refine CallsIn.mono (hC1.out _) ?_
                                 rintro e wa ⟨rfl, hb⟩
                                 have HB := bthen HB hb
                                 obtain ⟨g10, g11, g12, _, _, _⟩ := G1'.below HB
                                 obtain ⟨g20, g21, g22, _, _, _⟩ := G2'.below HB)
                              | (refine ⟨trivial, fun h => (by cases h), ?_⟩
                                 with_reducible refine CallsIn.mono (hC2.out _) ?_
                                 rintro e wa ⟨rfl, hb⟩
                                 have HB := bthen HB hb
                                 obtain ⟨g10, g11, g12, _, _, _⟩ := G1'.below HB
                                 obtain ⟨g20, g21, g22, _, _, _⟩ := G2'.below HB)
                              | (refine ⟨trivial, fun h => (by cases h), ?_⟩
                                 with_reducible refine CallsIn.mono (hC3.out _) ?_
                                 rintro e wa ⟨rfl, hb⟩
                                 have HB := bthen HB hb
                                 have hb10 : Below w10.heap.size w10 wa := bthen ((Below.refl _ w10).drew) HB
                                 have hjA := abides_below HJ.out HJ9.out hb10
                                 obtain ⟨fn, tmps, assign, body, hy, hR⟩ := HY.out _ ⟨xx, xy, xz⟩ _ _ hjA HR1.out
                                 have hR2 := Lh hR
                                 clear hR
                                 dsimp only at hy)
                              | (refine ⟨fun h => (by cases h), hR2.out.mono ?_⟩
                                 intro e wz hez0
                                 obtain ⟨b, rfl, hez⟩ : ∃ b, e = .returned (.bool b) ∧ Hid (if b = true then J ((P5 ++ ⟨dx, dy, dz⟩ :: (es.take m).map (fun e => cross3 (short3 (cross3 e ⟨dx, dy, dz⟩)) e)) ++ [⟨xx, xy, xz⟩]) wz ∧ KpX bo bf wa wz else Jx ((P5 ++ ⟨dx, dy, dz⟩ :: (es.take m).map (fun e => cross3 (short3 (cross3 e ⟨dx, dy, dz⟩)) e)) ++ [⟨xx, xy, xz⟩]) wz) := by
                                   rcases hez0 with ⟨rfl, h1⟩ | ⟨rfl, h1⟩
                                   · exact ⟨true, rfl, h1⟩
                                   · exact ⟨false, rfl, h1⟩
                                 clear hez0))
                            all_goals (
                              clear hy hR2 HB hb g10 g11 g12 g20 g21 g22
                              clear hjA
                              revert hez
                              revert b
                              revert wz
                              revert hb10
                              revert wa
                              exact END.out)
                          · clear hC1 hC2 hC3 G1' G2' g10 g11 g12 g20 g21 g22 HB
                            intro wa hb10 wz b hez
                            cases b
                            · have hez := hez.out
                              rw [if_neg (by decide)] at hez
                              have hJx' := Lh hez
                              clear hez
                              gi_wp2
                              rw [Exit.noGoto_normal]
                              go_end0
                              exact ⟨⟨_, rfl⟩, .inr ⟨_, pre_mid HR1.out, hJx'.out⟩⟩
                            · have hez := hez.out
                              rw [if_pos rfl] at hez
                              have KA : Hid (KpX bo bf w10 wz) := (KpX.of_below hb10).trans hez.2
                              have KW12 : Hid (KpX bo bf W wz) := KW10.out.trans KA.out
                              have RE12 : Hid (RdX bo bf wz (some ⟨b3, o3, none⟩) es) := RE10.out.keep KA.out
                              have C12 : Hid (C3 wz w4.heap.size (.int .i64 px) (.int .i64 py) (.int .i64 pz)) := C10.out.keep KA.out (by have := C10.out.lt; omega) (by have := C10.out.lt; omega)
                              have D12 : Hid (C3 wz w7.heap.size (.int .i64 dx) (.int .i64 dy) (.int .i64 dz)) := D10.out.keep KA.out (by omega) (by omega)
                              have hJ' := Lh hez.1
                              clear hez
                              gi_wp2
                              go_roundw
                              case rel => exact ⟨m + 1, by omega, by go_num, HRN.out _ hJ'.out, KW12, RE12, C12, D12⟩
                              case measure => simp [intOf]; omega
                        · obtain rfl : m = es.length := by omega
                          rw [List.take_length] at hj
                          gi_wp2
                          go_roundw
                          case rel =>
                            refine ⟨j + 1, by omega, by go_num, ?_, KW, RE, C1⟩
                            rw [flat_snoc pb es _ j hlt5, HQ.out, roundW_eq es _ _ _ HDD.out]
                            simpa [← HP5.out, List.append_assoc] using hj
                          case measure => simp [intOf]; omega
                    · gi_wp2
                      rw [Exit.noGoto_normal]
                      go_end0
                      exact ⟨⟨_, rfl⟩, .inr ⟨_, pre_mid HR1.out, hJx'⟩⟩
                  · obtain rfl : j = pb.length := by omega
                    rw [List.take_length] at hj
                    gi_wp2
                    go_roundw
                    case rel => exact ⟨i + 1, by omega, by go_num, by rw [pointW_snoc pa pb es i hlt4, HP.out]; exact hj, KW, RE⟩
                    case measure => simp [intOf]; omega
              · obtain rfl : i = pa.length := by omega
                rw [List.take_length] at hj
                gi_wp2
                rw [Exit.noGoto_normal]
                go_end0
                exact ⟨⟨_, rfl⟩, .inl ⟨_, HRAW.out.symm, hj⟩⟩
end Go.Proofs.Ytckdhahceelckaa.G
namespace Go.Proofs.Ytckdhahceelckaa.G
open Go.RowKit Go.Proofs.YtckdhahceelckaaW.PrintWords Go.Proofs.YtckdhahceelckaaW.PrintLast Go.Proofs.YtckdhahceelckaaW.PrintMore
attribute [local go_sem] max2_mx min2_mn max_two min_two max_three min_three max_four min_four
attribute [local go_sem high] eqA23
set_option linter.unusedVariables false
set_option linter.unusedSimpArgs false
theorem beyond1_calls (x y z n : Int) (B : Nat) (w : World) (hc : w.cell? ⟨B, 0, none⟩ = some (.int .i64 n)) (hn1 : 0 ≤ n) (hn2 : n ≤ 9223372036854775807) :
    Calls Try.prog 121 #[.agg #[.int .i64 x, .int .i64 y, .int .i64 z], .pointer (some ⟨B, 0, none⟩)] w fun e w' => e = .returned (.bool (far3 n ⟨x, y, z⟩)) ∧ Below w.heap.size w w' := by
  have hB := World.block_lt_of_cell? w _ hc
  have hc2 := (World.cell?_alloc_lt w (.cells #[.int .i64 x, .int .i64 y, .int .i64 z] 23) ⟨B, 0, none⟩ hB).trans hc
  have hw : wrap64 (-n) = -n := w64_id _ (by omega) (by omega)
  unfold far3
  rw [hw]
  clear hw
  go_enter Try.func121, Try.ntmps121
  go_wp2
  all_goals (go_ret; exact ⟨by simp [*], ((Below.refl _ _).alloc (Nat.le_refl _) _)⟩)
theorem beyondF_calls (n : Int) (w : World) :
    Calls Try.prog 65 #[.int .i64 n] w fun e w' => e = .returned (.func (.func 121) #[] #[.pointer (some ⟨w.heap.size, 0, none⟩)]) ∧ w.alloc (.cells #[.int .i64 n] 3) = w' := by
  go_enter Try.func65, Try.ntmps65
  go_wp2
  go_ret
  exact ⟨rfl, rfl⟩
def idxF (n : Int) (l : List P3) : Int := match l.findIdx? (far3 n) with | some i => (i : Int) | none => -1
theorem idxF_some {n l} {i : Nat} (h : l.findIdx? (far3 n) = some i) : idxF n l = i := by unfold idxF; rw [h]
theorem idxF_none {n l} (h : l.findIdx? (far3 n) = none) : idxF n l = -1 := by unfold idxF; rw [h]
theorem idxF_any (n l) : decide (0 ≤ idxF n l) = l.any (far3 n) := by
  cases h : l.findIdx? (far3 n) with
  | none =>
    rw [idxF_none h]
    rw [List.findIdx?_eq_none_iff] at h
    have : l.any (far3 n) = false := by rw [List.any_eq_false]; intro x hx; rw [h x hx]; simp
    rw [this]; rfl
  | some i =>
    rw [idxF_some h]
    rw [List.findIdx?_eq_some_iff_getElem] at h
    obtain ⟨hi, h1, _⟩ := h
    have : l.any (far3 n) = true := by rw [List.any_eq_true]; exact ⟨_, List.getElem_mem hi, h1⟩
    rw [this]; simp
set_option maxHeartbeats 1000000 in
theorem index_calls (l : List P3) (A : Option Addr) (c : Nat) (n : Int) (B : Nat) (w : World) (hr : Rd w A l) (hc : l.length ≤ c) (hm : l.length < 9223372036854775807) (hB : w.cell? ⟨B, 0, none⟩ = some (.int .i64 n)) (hn1 : 0 ≤ n) (hn2 : n ≤ 9223372036854775807) :
    Calls Try.prog 122 #[.slice A l.length c, .func (.func 121) #[] #[.pointer (some ⟨B, 0, none⟩)]] w fun e w' => e = .returned (.int .i64 (idxF n l)) ∧ Below w.heap.size w w' := by
  have hBl := World.block_lt_of_cell? w _ hB
  have HR := Lh hr
  clear hr
  go_enter Try.func122, Try.ntmps122
  go_wp2
  go_loopw [5, 8] (fun v5 v8 wr => ∃ k : Nat, k ≤ l.length ∧ v8 = .int .i64 k ∧ Hid (∀ i, i < k → ∀ p, l[i]? = some p → far3 n p = false) ∧ Below w.heap.size w wr) (fun _ i _ => l.length - (intOf i).toNat)
  case atStart => exact ⟨0, Nat.zero_le _, rfl, fun i hi => absurd hi (by omega), Below.refl _ _⟩
  case round =>
    obtain ⟨k, hk, rfl, hno, hbr⟩ := hrel
    by_cases hlt : k < l.length
    · obtain ⟨b, o, rfl, hbl, h1, h2, h3⟩ := HR.out.get k hlt
      have e1 := (hbr.cell (p := ⟨b, o + k * 3, none⟩) hbl).trans h1
      have e2 := (hbr.cell (p := ⟨b, o + k * 3 + 1, none⟩) hbl).trans h2
      have e3 := (hbr.cell (p := ⟨b, o + k * 3 + 2, none⟩) hbl).trans h3
      have eB := (hbr.cell (p := ⟨B, 0, none⟩) hBl).trans hB
      clear h1 h2 h3
      obtain ⟨p, hp⟩ : ∃ p, l[k] = p := ⟨_, rfl⟩
      rw [hp] at e1 e2 e3
      have HP := Lh hp
      clear hp
      obtain ⟨px, py, pz⟩ := p
      dsimp only at e1 e2 e3
      cases hf : far3 n ⟨px, py, pz⟩ with
      | true =>
        go_wp2_with (go_at_call 121; refine (beyond1_calls _ _ _ _ _ _ eB hn1 hn2).mono ?_; rintro e w3 ⟨rfl, hb3⟩; rw [hf])
        go_ret
        refine ⟨ret_int ?_, bthen hbr hb3⟩
        have : l.findIdx? (far3 n) = some k := by
          rw [List.findIdx?_eq_some_iff_getElem]
          refine ⟨hlt, by rw [HP.out]; exact hf, fun j hj => ?_⟩
          rw [hno.out j hj _ (List.getElem?_eq_getElem (by omega))]; simp
        exact (idxF_some this).symm
      | false =>
        go_wp2_with (go_at_call 121; refine (beyond1_calls _ _ _ _ _ _ eB hn1 hn2).mono ?_; rintro e w3 ⟨rfl, hb3⟩; rw [hf])
        go_roundw
        case rel =>
          refine ⟨k + 1, by omega, by go_num, fun i hi p' hp' => ?_, bthen hbr hb3⟩
          by_cases e : i = k
          · subst e
            rw [List.getElem?_eq_getElem hlt, HP.out] at hp'
            cases hp'; exact hf
          · exact hno.out i (by omega) p' hp'
        case measure => simp [intOf]; omega
    · obtain rfl : k = l.length := by omega
      go_wp2
      go_ret
      refine ⟨ret_int ?_, hbr⟩
      have : l.findIdx? (far3 n) = none := by
        rw [List.findIdx?_eq_none_iff]
        intro x hx
        obtain ⟨i, hi, rfl⟩ := List.getElem_of_mem hx
        exact hno.out i hi _ (List.getElem?_eq_getElem hi)
      exact (idxF_none this).symm
theorem contains_calls (l : List P3) (A : Option Addr) (c : Nat) (n : Int) (B : Nat) (w : World) (hr : Rd w A l) (hc : l.length ≤ c) (hm : l.length < 9223372036854775807) (hB : w.cell? ⟨B, 0, none⟩ = some (.int .i64 n)) (hn1 : 0 ≤ n) (hn2 : n ≤ 9223372036854775807) :
    Calls Try.prog 68 #[.slice A l.length c, .func (.func 121) #[] #[.pointer (some ⟨B, 0, none⟩)]] w fun e w' => e = .returned (.bool (l.any (far3 n))) ∧ Below w.heap.size w w' := by
  go_enter Try.func68, Try.ntmps68
  go_wp2_with (go_at_call 122; refine (index_calls l _ _ n _ _ hr hc hm hB hn1 hn2).mono ?_; rintro e w3 ⟨rfl, hb3⟩)
  go_ret
  exact ⟨by rw [← idxF_any]; rfl, hb3⟩
end Go.Proofs.Ytckdhahceelckaa.G
namespace Go.Proofs.Ytckdhahceelckaa.G
open Go.RowKit Go.Proofs.YtckdhahceelckaaW.PrintWords Go.Proofs.YtckdhahceelckaaW.PrintLast Go.Proofs.YtckdhahceelckaaW.PrintMore
attribute [local go_sem] max2_mx min2_mn max_two min_two max_three min_three max_four min_four
attribute [local go_sem high] eqA23
set_option linter.unusedVariables false
set_option linter.unusedSimpArgs false
/-- the root of a number, down -/
def isq : Nat → Nat
  | 0 => 0
  | n + 1 => if (isq n + 1) * (isq n + 1) ≤ n + 1 then isq n + 1 else isq n
theorem isq_spec : ∀ n, isq n * isq n ≤ n ∧ n < (isq n + 1) * (isq n + 1)
  | 0 => by simp [isq]
  | n + 1 => by
    obtain ⟨h1, h2⟩ := isq_spec n
    unfold isq
    split
    · rename_i h
      refine ⟨h, ?_⟩
      have e : (isq n + 1 + 1) * (isq n + 1 + 1) = (isq n + 1) * (isq n + 1) + 2 * (isq n + 1) + 1 := by grind
      omega
    · rename_i h
      exact ⟨by omega, by omega⟩
theorem isq_unique (n r : Nat) (h1 : r * r ≤ n) (h2 : n < (r + 1) * (r + 1)) : r = isq n := by
  obtain ⟨a, b⟩ := isq_spec n
  rcases Nat.lt_trichotomy r (isq n) with h | h | h
  · have := Nat.mul_le_mul (show r + 1 ≤ isq n by omega) (show r + 1 ≤ isq n by omega); omega
  · exact h
  · have := Nat.mul_le_mul (show isq n + 1 ≤ r by omega) (show isq n + 1 ≤ r by omega); omega
def dotI (p q : P3) : Int := p.x * q.x + p.y * q.y + p.z * q.z
theorem mul_bd (a b : Int) (A B : Nat) (ha : a.natAbs ≤ A) (hb : b.natAbs ≤ B) : (a * b).natAbs ≤ A * B := by rw [Int.natAbs_mul]; exact Nat.mul_le_mul ha hb
theorem dot3_eq (p q : P3) (A B : Nat) (hp : in3 A p) (hq : in3 B q) (h : A * B ≤ 1152921504606846976) : dot3 p q = dotI p q := by
  obtain ⟨a1, a2, a3, a4, a5, a6⟩ := hp
  obtain ⟨b1, b2, b3, b4, b5, b6⟩ := hq
  have m1 := mul_bd p.x q.x A B (by omega) (by omega)
  have m2 := mul_bd p.y q.y A B (by omega) (by omega)
  have m3 := mul_bd p.z q.z A B (by omega) (by omega)
  unfold dot3 dotI
  generalize p.x * q.x = u at *
  generalize p.y * q.y = v at *
  generalize p.z * q.z = t at *
  rw [w64_id u (by omega) (by omega), w64_id v (by omega) (by omega), w64_id t (by omega) (by omega), w64_id (u + v) (by omega) (by omega), w64_id _ (by omega) (by omega)]
theorem dotI_bd (p q : P3) (A B : Nat) (hp : in3 A p) (hq : in3 B q) : (dotI p q).natAbs ≤ 3 * (A * B) := by
  obtain ⟨a1, a2, a3, a4, a5, a6⟩ := hp
  obtain ⟨b1, b2, b3, b4, b5, b6⟩ := hq
  have m1 := mul_bd p.x q.x A B (by omega) (by omega)
  have m2 := mul_bd p.y q.y A B (by omega) (by omega)
  have m3 := mul_bd p.z q.z A B (by omega) (by omega)
  unfold dotI
  omega
theorem sq_nonneg (a : Int) : 0 ≤ a * a := by
  rcases Int.le_total 0 a with h | h
  · exact Int.mul_nonneg h h
  · have := Int.mul_nonneg (show 0 ≤ -a by omega) (show 0 ≤ -a by omega); rwa [Int.neg_mul_neg] at this
theorem dotI_self (p : P3) : 0 ≤ dotI p p := by have := sq_nonneg p.x; have := sq_nonneg p.y; have := sq_nonneg p.z; unfold dotI; omega
/-- the size of a direction, down; up -/
def fl3 (p : P3) : Int := isq (dotI p p).toNat
def ce3 (p : P3) : Int := if fl3 p * fl3 p < dotI p p then fl3 p + 1 else fl3 p
def sz3 (p : P3) : Int × Int := if far3 16777216 p then (0, 0) else (fl3 p, ce3 p)
theorem ofInt_i64 (a : Nat) (ha : a < 9223372036854775808) : (BitVec.ofInt 64 (a : Int)).toNat = a := by
  rw [BitVec.ofInt_natCast, BitVec.toNat_ofNat]; exact Nat.mod_eq_of_lt (by omega)
theorem i64_or_nat (a b : Nat) (ha : a < 9223372036854775808) (hb : b < 9223372036854775808) : bits .or .i64 (a : Int) (b : Int) = ((a ||| b : Nat) : Int) := by
  have hx : a ||| b < 2 ^ 63 := Nat.or_lt_two_pow (by omega) (by omega)
  show IntKind.i64.wrap ((BitVec.ofInt 64 (a : Int) ||| BitVec.ofInt 64 (b : Int)).toNat : Int) = _
  rw [BitVec.toNat_or, ofInt_i64 a ha, ofInt_i64 b hb, IntKind.wrap_i64]
  omega
theorem ret_two {k k' : IntKind} {a b c d : Int} (h : a = b) (h' : c = d) : Ending.returned (.tuple #[.int k a, .int k' c]) = Ending.returned (.tuple #[.int k b, .int k' d]) := by rw [h, h']
def SzInv (s r b : Nat) : Prop := r * r ≤ s ∧ ((b = 0 ∧ s < (r + 1) * (r + 1)) ∨ ∃ k q, k ≤ 25 ∧ b = 2 ^ k ∧ r = 2 ^ (k + 1) * q ∧ s < (r + 2 * b) * (r + 2 * b))
theorem SzInv.start (s : Nat) (h : s ≤ 844424930131968) : SzInv s 0 33554432 := ⟨by omega, .inr ⟨25, 0, by omega, by decide, by simp, by omega⟩⟩
theorem SzInv.done {s r : Nat} (h : SzInv s r 0) : r = isq s := by
  obtain ⟨h1, h2⟩ := h
  rcases h2 with ⟨_, h2⟩ | ⟨k, q, _, hb, _⟩
  · exact isq_unique s r h1 h2
  · exact absurd hb (by have := Nat.two_pow_pos k; omega)
theorem SzInv.step {s r b : Nat} (h : SzInv s r b) (hb : b ≠ 0) : r ||| b = r + b ∧ b ≤ 33554432 ∧ ((r + b) * (r + b) ≤ s → SzInv s (r + b) (b / 2)) ∧ (s < (r + b) * (r + b) → SzInv s r (b / 2)) := by
  obtain ⟨h1, h2⟩ := h
  rcases h2 with ⟨h2, _⟩ | ⟨k, q, hk, rfl, rfl, h3⟩
  · exact absurd h2 hb
  · have hp : 2 ^ k ≤ 2 ^ 25 := Nat.pow_le_pow_right (by omega) hk
    have e2 : 2 ^ (k + 1) = 2 * 2 ^ k := by rw [Nat.pow_succ]; omega
    refine ⟨?_, by simpa using hp, ?_, ?_⟩
    · exact (Nat.two_pow_add_eq_or_of_lt (show 2 ^ k < 2 ^ (k + 1) by omega) q).symm
    · intro h4
      refine ⟨h4, ?_⟩
      cases k with
      | zero => exact .inl ⟨by decide, by simpa [Nat.add_assoc] using h3⟩
      | succ k =>
        have e3 : 2 ^ (k + 1) / 2 = 2 ^ k := by rw [Nat.pow_succ]; omega
        have e4 : 2 ^ (k + 1) = 2 * 2 ^ k := by rw [Nat.pow_succ]; omega
        refine .inr ⟨k, 2 * q + 1, by omega, e3, ?_, ?_⟩
        · rw [e2, Nat.mul_add, Nat.mul_one, Nat.mul_assoc, Nat.mul_left_comm]
        · rw [e3]
          have : 2 ^ (k + 1 + 1) * q + 2 ^ (k + 1) + 2 * 2 ^ k = 2 ^ (k + 1 + 1) * q + 2 * 2 ^ (k + 1) := by omega
          rw [this]; exact h3
    · intro h4
      refine ⟨h1, ?_⟩
      cases k with
      | zero => exact .inl ⟨by decide, by simpa using h4⟩
      | succ k =>
        have e3 : 2 ^ (k + 1) / 2 = 2 ^ k := by rw [Nat.pow_succ]; omega
        have e4 : 2 ^ (k + 1) = 2 * 2 ^ k := by rw [Nat.pow_succ]; omega
        refine .inr ⟨k, 2 * q, by omega, e3, ?_, ?_⟩
        · rw [e2, Nat.mul_assoc, Nat.mul_left_comm]
        · rw [e3, ← e4]; exact h4
theorem SzInv.bd {s r b : Nat} (h : SzInv s r b) (hs : s ≤ 844424930131968) : r ≤ 33554432 := by
  rcases Nat.lt_or_ge 33554432 r with h1 | h1
  · have := Nat.mul_le_mul (show 33554432 ≤ r by omega) (show 33554432 ≤ r by omega)
    have := h.1; omega
  · exact h1
set_option maxHeartbeats 1000000 in
theorem sizes_calls (x y z : Int) (w : World) :
    Calls Try.prog 26 #[.agg #[.int .i64 x, .int .i64 y, .int .i64 z]] w fun e w' => e = .returned (.tuple #[.int .i64 (sz3 ⟨x, y, z⟩).1, .int .i64 (sz3 ⟨x, y, z⟩).2]) ∧ Below w.heap.size w w' := by
  have B1 := C3.new w (.int .i64 x) (.int .i64 y) (.int .i64 z) 23
  cases hf : far3 16777216 ⟨x, y, z⟩ with
  | true =>
    have hs : sz3 ⟨x, y, z⟩ = (0, 0) := by unfold sz3; rw [hf]; rfl
    rw [hs]
    clear hs
    go_enter Try.func26, Try.ntmps26
    go_wp2
    go_region_held3 (fun w' => w'.cell? ⟨w.heap.size, 0, none⟩ = some (.int .i64 x) ∧ w'.cell? ⟨w.heap.size, 1, none⟩ = some (.int .i64 y) ∧ w'.cell? ⟨w.heap.size, 2, none⟩ = some (.int .i64 z))
      (first | (go_keep; done) | exact ⟨c10, c11, c12⟩)
      (first
        | (go_at_call 65; refine (beyondF_calls _ _).mono ?_; rintro e w1 ⟨rfl, rfl⟩)
        | (go_at_call 121; refine (beyond1_calls _ _ _ 16777216 _ _ (by simp) (by decide) (by decide)).mono ?_; rintro e w1 ⟨rfl, hb1⟩; rw [hf]; obtain ⟨c10, c11, c12, f10, f11, f12⟩ := (B1.drew.alloc _).below hb1))
    go_wp2
    go_ret2
    exact ⟨rfl, ((((Below.refl _ w).alloc (Nat.le_refl _) _).drew).alloc (by simp) _).trans (hb1.mono (by simp; omega))⟩
  | false =>
    have hin := (far3_iff _ _ (by decide) (by decide)).1 hf
    have hd := dot3_eq ⟨x, y, z⟩ ⟨x, y, z⟩ 16777216 16777216 hin hin (by decide)
    have hd1 := dotI_bd ⟨x, y, z⟩ ⟨x, y, z⟩ 16777216 16777216 hin hin
    have hd2 := dotI_self ⟨x, y, z⟩
    have hs : sz3 ⟨x, y, z⟩ = (fl3 ⟨x, y, z⟩, ce3 ⟨x, y, z⟩) := by unfold sz3; rw [hf]; rfl
    rw [hs]
    clear hs
    unfold ce3 fl3
    obtain ⟨s, hs⟩ : ∃ s : Nat, dotI ⟨x, y, z⟩ ⟨x, y, z⟩ = s := ⟨_, (Int.toNat_of_nonneg hd2).symm⟩
    rw [hs] at hd hd1 hd2 ⊢
    rw [Int.toNat_natCast]
    have hsb : s ≤ 844424930131968 := by omega
    have HD := Lh hd
    clear hd hd1 hd2 hs hin
    obtain ⟨U, hU⟩ : ∃ U : Int, (if (isq s : Int) * (isq s : Int) < (s : Int) then (isq s : Int) + 1 else (isq s : Int)) = U := ⟨_, rfl⟩
    rw [hU]
    have HU := Lh hU
    clear hU
    go_enter Try.func26, Try.ntmps26
    go_wp2
    go_region_held3 (fun w' => w'.cell? ⟨w.heap.size, 0, none⟩ = some (.int .i64 x) ∧ w'.cell? ⟨w.heap.size, 1, none⟩ = some (.int .i64 y) ∧ w'.cell? ⟨w.heap.size, 2, none⟩ = some (.int .i64 z))
      (first | (go_keep; done) | exact ⟨c10, c11, c12⟩)
      (first
        | (go_at_call 65; refine (beyondF_calls _ _).mono ?_; rintro e w1 ⟨rfl, rfl⟩)
        | (go_at_call 121; refine (beyond1_calls _ _ _ 16777216 _ _ (by simp) (by decide) (by decide)).mono ?_; rintro e w1 ⟨rfl, hb1⟩; rw [hf]; obtain ⟨c10, c11, c12, f10, f11, f12⟩ := (B1.drew.alloc _).below hb1))
    go_wp2_with (go_at_call 66; refine (dot_calls _ _ _ _ _ _ _).mono ?_; rintro e w2 ⟨rfl, hb2⟩; rw [HD.out])
    have hB : Below w.heap.size w w2 := ((((Below.refl _ w).alloc (Nat.le_refl _) _).drew).alloc (by simp) _).trans ((hb1.mono (by simp; omega)).trans (hb2.mono (by have := hb1.size; simp at this; omega)))
    clear hb1 hb2 c10 c11 c12 f10 f11 f12 B1 HD
    go_loopw [5, 6, 7] (fun v5 v6 v7 wr => ∃ (r : Nat) (b : Nat), v5 = .int .i64 r ∧ v6 = .int .i64 b ∧ Hid (SzInv s r b) ∧ Below w.heap.size w wr) (fun _ b _ _ => (intOf b).toNat)
    case atStart => exact ⟨0, 33554432, rfl, rfl, SzInv.start s hsb, hB⟩
    case round =>
      obtain ⟨r, b, rfl, rfl, hi, hbr⟩ := hrel
      have hrb := hi.out.bd hsb
      by_cases hb0 : b = 0
      · subst hb0
        have hr := Lh hi.out.done
        have hrr : r * r ≤ s := hi.out.1
        have hrr' : (r : Int) * r ≤ s := by exact_mod_cast hrr
        have hp : (r : Int) * r = (r * r : Nat) := by simp
        obtain ⟨m, hm⟩ : ∃ m : Nat, r * r = m := ⟨_, rfl⟩
        rw [hm] at hp hrr
        clear hrr'
        have HM := Lh hm
        clear hm
        have hr' : isq s = r := hr.out.symm
        rcases Nat.lt_or_ge m s with hlt | hge
        · go_wp2
          go_ret2
          refine ⟨ret_two (by rw [hr']) ?_, hbr⟩
          rw [← HU.out, hr', hp, if_pos (by omega)]
        · go_wp2
          go_ret2
          refine ⟨ret_two (by rw [hr']) ?_, hbr⟩
          rw [← HU.out, hr', hp, if_neg (by omega)]
      · obtain ⟨h1, h2, h3, h4⟩ := hi.out.step hb0
        have hor : bits .or .i64 (r : Int) (b : Int) = ((r + b : Nat) : Int) := by rw [i64_or_nat _ _ (by omega) (by omega), h1]
        obtain ⟨t, ht⟩ : ∃ t : Nat, r + b = t := ⟨_, rfl⟩
        rw [ht] at hor h3 h4
        have htb : t ≤ 67108864 := by omega
        have htt : t * t ≤ 67108864 * 67108864 := Nat.mul_le_mul htb htb
        obtain ⟨m, hm⟩ : ∃ m : Nat, t * t = m := ⟨_, rfl⟩
        have hp : (t : Int) * t = (m : Int) := by rw [← hm]; simp
        rw [hm] at h3 h4 htt
        have H3 := Lh h3
        have H4 := Lh h4
        clear h1 h3 h4 ht hm
        rcases Nat.lt_or_ge s m with hlt | hge
        · go_wp2
          go_roundw
          case rel => exact ⟨r, b / 2, rfl, by go_num, H4.out hlt, hbr⟩
          case measure => simp [intOf]; omega
        · go_wp2
          go_roundw
          case rel => exact ⟨t, b / 2, rfl, by go_num, H3.out hge, hbr⟩
          case measure => simp [intOf]; omega
end Go.Proofs.Ytckdhahceelckaa.G
namespace Go.Proofs.Ytckdhahceelckaa.G
open Go.RowKit Go.Proofs.YtckdhahceelckaaW.PrintWords Go.Proofs.YtckdhahceelckaaW.PrintLast Go.Proofs.YtckdhahceelckaaW.PrintMore
attribute [local go_sem] max2_mx min2_mn max_two min_two max_three min_three max_four min_four
attribute [local go_sem high] eqA23
set_option linter.unusedVariables false
set_option linter.unusedSimpArgs false
def two3 (p : P3) : P3 := ⟨2 * p.x, 2 * p.y, 2 * p.z⟩
theorem two3_lt (p : P3) (h : ¬ (far3 524288 p = true ∨ p = ⟨0, 0, 0⟩)) : 2000000 - size3 (two3 p) < 2000000 - size3 p := by
  have h1 : far3 524288 p = false := by simpa using fun e => h (.inl e)
  have hi := (far3_iff _ _ (by decide) (by decide)).1 h1
  have h2 : p ≠ ⟨0, 0, 0⟩ := fun e => h (.inr e)
  have h3 : p.x ≠ 0 ∨ p.y ≠ 0 ∨ p.z ≠ 0 := by
    cases p; simp at h2 ⊢; omega
  unfold in3 at hi
  unfold size3 two3
  simp only
  omega
/-- doubled, as long as no part's size is above 2^19 -/
def dbl3 (p : P3) : P3 := if h : far3 524288 p = true ∨ p = ⟨0, 0, 0⟩ then p else dbl3 (two3 p)
termination_by 2000000 - size3 p
decreasing_by exact two3_lt p h
/-- made long; noughts: it is none -/
def long3 (p : P3) : P3 := dbl3 (short3 p)
theorem two3_ne (p : P3) (h : p ≠ ⟨0, 0, 0⟩) : two3 p ≠ ⟨0, 0, 0⟩ := by
  cases p; simp [two3] at h ⊢; omega
theorem halve3_in (p : P3) : in3 1048576 (halve3 p) := by
  induction p using halve3.induct with
  | case1 p h ih => rw [halve3, dif_pos h]; exact ih
  | case2 p h =>
    rw [halve3, dif_neg h]
    exact (far3_iff _ _ (by decide) (by decide)).1 (by simpa using h)
theorem short3_in (p : P3) : in3 1048576 (short3 p) := by
  unfold short3
  split
  · unfold in3; simp
  · exact div3_in _ _ _ (halve3_in _)
theorem halve3_ne (p : P3) (h : p ≠ ⟨0, 0, 0⟩) : halve3 p ≠ ⟨0, 0, 0⟩ := by
  induction p using halve3.induct with
  | case1 p h' ih => rw [halve3, dif_pos h']; exact ih (div2_ne p h')
  | case2 p h' => rw [halve3, dif_neg h']; exact h
theorem dbl3_ne (p : P3) (h : p ≠ ⟨0, 0, 0⟩) : dbl3 p ≠ ⟨0, 0, 0⟩ := by
  induction p using dbl3.induct with
  | case1 p h' => rw [dbl3, dif_pos h']; exact h
  | case2 p h' ih => rw [dbl3, dif_neg h']; exact ih (two3_ne p h)
set_option maxHeartbeats 2000000 in
theorem lengthen_calls (x y z : Int) (b : Bool) (w : World) (hb0 : decide (long3 ⟨x, y, z⟩ ≠ ⟨0, 0, 0⟩) = b) :
    Calls Try.prog 59 #[.agg #[.int .i64 x, .int .i64 y, .int .i64 z]] w fun e w' => e = .returned (.tuple #[.agg #[.int .i64 (long3 ⟨x, y, z⟩).x, .int .i64 (long3 ⟨x, y, z⟩).y, .int .i64 (long3 ⟨x, y, z⟩).z], .bool b]) ∧ Below w.heap.size w w' := by
  have B1 := ((C3.new w (.int .i64 x) (.int .i64 y) (.int .i64 z) 23).alloc (.cells #[.int .i64 0, .int .i64 0, .int .i64 0] 23))
  have B2 := (C3.new (w.alloc (.cells #[.int .i64 x, .int .i64 y, .int .i64 z] 23)) (.int .i64 0) (.int .i64 0) (.int .i64 0) 23)
  simp only [World.size_alloc] at B2
  have B1 := Lh B1
  have B2 := Lh B2
  obtain ⟨p, hp⟩ : ∃ p, short3 ⟨x, y, z⟩ = p := ⟨_, rfl⟩
  have hin : in3 1048576 p := by rw [← hp]; exact short3_in _
  unfold long3 at hb0 ⊢
  rw [hp] at hb0 ⊢
  have HP := Lh hp
  clear hp
  obtain ⟨px, py, pz⟩ := p
  by_cases hz : (⟨px, py, pz⟩ : P3) = ⟨0, 0, 0⟩
  · have h1 : dbl3 ⟨px, py, pz⟩ = ⟨0, 0, 0⟩ := by rw [dbl3, dif_pos (.inr hz)]; exact hz
    rw [h1] at hb0 ⊢
    obtain rfl : false = b := by simpa using hb0
    clear hb0 h1
    have he := eqP_yes hz
    simp only [P3.mk.injEq] at hz
    obtain ⟨rfl, rfl, rfl⟩ := hz
    go_enter Try.func59, Try.ntmps59
    go_wp2_with (go_at_call 77; refine (short_calls _ _ _ _).mono ?_; rintro e w1 ⟨rfl, hb1⟩; rw [HP.out]; obtain ⟨c10, c11, c12, f10, f11, f12⟩ := B1.out.below hb1; have D2 := Lh (B2.out.below hb1); obtain ⟨c20, c21, c22, f20, f21, f22⟩ := D2.out)
    have hB : Below w.heap.size w w1 := (((Below.refl _ w).alloc (Nat.le_refl _) _).alloc (by simp) _).trans (hb1.mono (by simp; omega))
    exact bodyPost_ret (v := .tuple #[.agg #[.int .i64 0, .int .i64 0, .int .i64 0], .bool false]) (by simp [results, Try.results59, go_sem, c20, c21, c22]) rfl ⟨rfl, below_set3 (below_set3 hB (Nat.le_refl _) _ _ _) (by omega) _ _ _⟩
  · obtain ⟨D, hD⟩ : ∃ D, dbl3 ⟨px, py, pz⟩ = D := ⟨_, rfl⟩
    have hDn : D ≠ ⟨0, 0, 0⟩ := by
      rw [← hD]
      exact dbl3_ne _ hz
    rw [hD] at hb0 ⊢
    obtain rfl : true = b := by rw [← hb0]; simpa using hDn
    have HD := Lh hD
    have HZ := Lh hz
    have HI := Lh hin
    have he := eqP_no hz
    clear hb0 hD hz hDn hin
    go_enter Try.func59, Try.ntmps59
    go_wp2_with (go_at_call 77; refine (short_calls _ _ _ _).mono ?_; rintro e w1 ⟨rfl, hb1⟩; rw [HP.out]; have D1 := Lh (B1.out.below hb1); obtain ⟨c10, c11, c12, f10, f11, f12⟩ := D1.out; have D2 := Lh (B2.out.below hb1))
    have hB : Below w.heap.size w w1 := (((Below.refl _ w).alloc (Nat.le_refl _) _).alloc (by simp) _).trans (hb1.mono (by simp; omega))
    have hB := below_set3 hB (Nat.le_refl w.heap.size) (.int .i64 px) (.int .i64 py) (.int .i64 pz)
    have B2 := D2.out.other (g' := w.heap.size) (by omega) (.int .i64 px) (.int .i64 py) (.int .i64 pz)
    have B1 := D1.out.set (.int .i64 px) (.int .i64 py) (.int .i64 pz)
    unfold set3 at B1 B2 hB
    generalize ((w1.setCell { block := w.heap.size, off := 0 } (Value.int IntKind.i64 px)).setCell { block := w.heap.size, off := 1 } (Value.int IntKind.i64 py)).setCell { block := w.heap.size, off := 2 } (Value.int IntKind.i64 pz) = w3 at B1 B2 hB ⊢
    clear he hb1 c10 c11 c12 f10 f11 f12 D1 D2
    go_loopg [] (2000000 - size3 ⟨px, py, pz⟩) (fun kq wr => ∃ r : P3, Hid (kq = 2000000 - size3 r) ∧ Hid (dbl3 r = D) ∧ Hid (in3 1048576 r) ∧ Hid (r ≠ ⟨0, 0, 0⟩) ∧ Hid (C3 wr w.heap.size (.int .i64 r.x) (.int .i64 r.y) (.int .i64 r.z)) ∧ Hid (C3 wr (w.heap.size + 1) (.int .i64 0) (.int .i64 0) (.int .i64 0)) ∧ Hid (Below w.heap.size w wr))
    case atStart => exact ⟨⟨px, py, pz⟩, rfl, HD.out, HI.out, HZ.out, B1, B2, hB⟩
    case round =>
      obtain ⟨r, h1, h2, h3, h4, h5, h6, h7⟩ := hrel
      obtain ⟨hx1, hx2, hy1, hy2, hz1, hz2⟩ := h3.out
      obtain ⟨rx, ry, rz⟩ := r
      dsimp only at h5 hx1 hx2 hy1 hy2 hz1 hz2
      obtain ⟨c10, c11, c12, f10, f11, f12⟩ := id h5.out
      cases hf : far3 524288 ⟨rx, ry, rz⟩ with
      | false =>
        have hne : ¬ (far3 524288 ⟨rx, ry, rz⟩ = true ∨ (⟨rx, ry, rz⟩ : P3) = ⟨0, 0, 0⟩) := by rw [hf]; simpa using h4.out
        have e1 : dbl3 ⟨rx, ry, rz⟩ = dbl3 (two3 ⟨rx, ry, rz⟩) := by rw [dbl3, dif_neg hne]
        have e2 : Hid (2000000 - size3 (two3 ⟨rx, ry, rz⟩) < gk) := by rw [h1.out]; exact two3_lt _ hne
        have e4 := Lh (two3_ne _ h4.out)
        have hi5 := (far3_iff _ _ (by decide) (by decide)).1 hf
        have e3 : Hid (in3 1048576 (two3 ⟨rx, ry, rz⟩)) := by unfold in3 two3 at *; simp only at *; show _ ∧ _; omega
        have E1 : Hid (dbl3 (two3 ⟨rx, ry, rz⟩) = D) := e1.symm.trans h2.out
        clear e1 hne hi5
        go_wp2
        go_region_held3 (fun w' => w'.cell? ⟨w.heap.size, 0, none⟩ = some (.int .i64 rx) ∧ w'.cell? ⟨w.heap.size, 1, none⟩ = some (.int .i64 ry) ∧ w'.cell? ⟨w.heap.size, 2, none⟩ = some (.int .i64 rz))
          (first | exact ⟨d10, d11, d12⟩ | (go_keep; done) | exact ⟨c10, c11, c12⟩)
          (first
            | (go_at_call 65; refine (beyondF_calls _ _).mono ?_; rintro e w4 ⟨rfl, rfl⟩; have C1 := Lh ((h5.out.drew).alloc (.cells #[.int .i64 524288] 3)); have C2 := Lh ((h6.out.drew).alloc (.cells #[.int .i64 524288] 3)); obtain ⟨d10, d11, d12, g10, g11, g12⟩ := id C1.out)
            | (go_at_call 121; refine (beyond1_calls _ _ _ 524288 _ _ (by simp) (by decide) (by decide)).mono ?_; rintro e w5 ⟨rfl, hb5⟩; rw [hf]; have D1 := Lh (C1.out.below hb5); have D2 := Lh (C2.out.below hb5); obtain ⟨d10, d11, d12, g10, g11, g12⟩ := id D1.out))
        go_wp2
        go_roundg (2000000 - size3 (two3 ⟨rx, ry, rz⟩))
        case measure => exact e2.out
        case rel => exact ⟨two3 ⟨rx, ry, rz⟩, rfl, E1, e3, e4, D1.out.set _ _ _, D2.out.other (by omega) _ _ _, below_set3 (((h7.out.drew).alloc h7.out.size _).trans (hb5.mono (by have := h7.out.size; simp; omega))) (Nat.le_refl _) _ _ _⟩
      | true =>
        have e1 : dbl3 ⟨rx, ry, rz⟩ = ⟨rx, ry, rz⟩ := by rw [dbl3, dif_pos (.inl hf)]
        obtain rfl : D = ⟨rx, ry, rz⟩ := h2.out.symm.trans e1
        clear e1
        go_wp2
        go_region_held3 (fun w' => w'.cell? ⟨w.heap.size, 0, none⟩ = some (.int .i64 rx) ∧ w'.cell? ⟨w.heap.size, 1, none⟩ = some (.int .i64 ry) ∧ w'.cell? ⟨w.heap.size, 2, none⟩ = some (.int .i64 rz))
          (first | exact ⟨d10, d11, d12⟩ | (go_keep; done) | exact ⟨c10, c11, c12⟩)
          (first
            | (go_at_call 65; refine (beyondF_calls _ _).mono ?_; rintro e w4 ⟨rfl, rfl⟩; have C1 := Lh ((h5.out.drew).alloc (.cells #[.int .i64 524288] 3)); have C2 := Lh ((h6.out.drew).alloc (.cells #[.int .i64 524288] 3)); obtain ⟨d10, d11, d12, g10, g11, g12⟩ := id C1.out)
            | (go_at_call 121; refine (beyond1_calls _ _ _ 524288 _ _ (by simp) (by decide) (by decide)).mono ?_; rintro e w5 ⟨rfl, hb5⟩; rw [hf]; have D1 := Lh (C1.out.below hb5); have D2 := Lh (C2.out.below hb5); obtain ⟨d10, d11, d12, g10, g11, g12⟩ := id D1.out))
        obtain ⟨d20, d21, d22, g20, g21, g22⟩ := id D2.out
        go_wp2
        exact bodyPost_ret (v := .tuple #[.agg #[.int .i64 rx, .int .i64 ry, .int .i64 rz], .bool true]) (by simp [results, Try.results59, go_sem, d20, d21, d22]) rfl ⟨rfl, below_set3 (((h7.out.drew).alloc h7.out.size _).trans (hb5.mono (by have := h7.out.size; simp; omega))) (by omega) _ _ _⟩
end Go.Proofs.Ytckdhahceelckaa.G
namespace Go.Proofs.Ytckdhahceelckaa.G
open Go.RowKit Go.Proofs.YtckdhahceelckaaW.PrintWords Go.Proofs.YtckdhahceelckaaW.PrintLast Go.Proofs.YtckdhahceelckaaW.PrintMore
attribute [local go_sem] max2_mx min2_mn max_two min_two max_three min_three max_four min_four
attribute [local go_sem high] eqA23
set_option linter.unusedVariables false
set_option linter.unusedSimpArgs false
/-- a gap of s along a direction of those sizes -/
def gapV (s up down ra rb : Int) : Int := if 0 ≤ s then s / up - ra - rb else -((-s + down - 1) / down) - ra - rb
set_option maxHeartbeats 1000000 in
theorem gap1_calls (s up down ra rb : Int) (bu ba bb bd : Nat) (w : World) (h1 : w.cell? ⟨bu, 0, none⟩ = some (.int .i64 up)) (h2 : w.cell? ⟨ba, 3, none⟩ = some (.int .i64 ra)) (h3 : w.cell? ⟨bb, 3, none⟩ = some (.int .i64 rb)) (h4 : w.cell? ⟨bd, 0, none⟩ = some (.int .i64 down))
    (hs1 : -1125899906842624 ≤ s) (hs2 : s ≤ 1125899906842624) (hu1 : 1 ≤ up) (hu2 : up ≤ 1073741824) (hd1 : 1 ≤ down) (hd2 : down ≤ 1073741824) (ha1 : 0 ≤ ra) (ha2 : ra ≤ 131072) (hb1 : 0 ≤ rb) (hb2 : rb ≤ 131072) :
    Calls Try.prog 118 #[.int .i64 s, .pointer (some ⟨bu, 0, none⟩), .pointer (some ⟨ba, 0, none⟩), .pointer (some ⟨bb, 0, none⟩), .pointer (some ⟨bd, 0, none⟩)] w fun e w' => e = .returned (.int .i64 (gapV s up down ra rb)) ∧ Below w.heap.size w w' := by
  have e1 : (up == 0) = false := by simp; omega
  have e2 : (down == 0) = false := by simp; omega
  by_cases hs : 0 ≤ s
  · have hv : gapV s up down ra rb = s / up - ra - rb := if_pos hs
    rw [hv]
    clear hv
    have q1 : 0 ≤ s / up := Int.ediv_nonneg hs (by omega)
    have q2 : s / up ≤ s := Int.ediv_le_self _ hs
    have t1 : IntKind.i64.wrap (s.tdiv up) = s / up := by rw [Int.tdiv_eq_ediv_of_nonneg hs]; exact iw_id _ (by omega) (by omega)
    have t2 : IntKind.i64.wrap (s / up - ra) = s / up - ra := iw_id _ (by omega) (by omega)
    have t3 : IntKind.i64.wrap (s / up - ra - rb) = s / up - ra - rb := iw_id _ (by omega) (by omega)
    go_enter Try.func118, Try.ntmps118
    go_wp2
    go_quiet (fail)
    go_wp2
    go_ret
    exact ⟨rfl, pw_below_drewN (Below.refl _ w) _⟩
  · have hv : gapV s up down ra rb = -((-s + down - 1) / down) - ra - rb := if_neg hs
    rw [hv]
    clear hv
    have q0 : 0 ≤ -s + down - 1 := by omega
    have q1 : 0 ≤ (-s + down - 1) / down := Int.ediv_nonneg q0 (by omega)
    have q2 : (-s + down - 1) / down ≤ -s + down - 1 := Int.ediv_le_self _ q0
    have t0 : IntKind.i64.wrap (-s) = -s := iw_id _ (by omega) (by omega)
    have t0' : IntKind.i64.wrap (-s + down) = -s + down := iw_id _ (by omega) (by omega)
    have t0'' : IntKind.i64.wrap (-s + down - 1) = -s + down - 1 := iw_id _ (by omega) (by omega)
    have t1 : IntKind.i64.wrap ((-s + down - 1).tdiv down) = (-s + down - 1) / down := by rw [Int.tdiv_eq_ediv_of_nonneg q0]; exact iw_id _ (by omega) (by omega)
    have t1' : IntKind.i64.wrap (-((-s + down - 1) / down)) = -((-s + down - 1) / down) := iw_id _ (by omega) (by omega)
    have t2 : IntKind.i64.wrap (-((-s + down - 1) / down) - ra) = -((-s + down - 1) / down) - ra := iw_id _ (by omega) (by omega)
    have t3 : IntKind.i64.wrap (-((-s + down - 1) / down) - ra - rb) = -((-s + down - 1) / down) - ra - rb := iw_id _ (by omega) (by omega)
    have hs' : decide (0 ≤ s) = false := by simpa using hs
    have hs3 : s < 0 := by omega
    clear hs
    go_enter Try.func118, Try.ntmps118
    go_wp2
    go_quiet (fail)
    go_wp2
    go_ret
    exact ⟨rfl, pw_below_drewN (Below.refl _ w) _⟩
end Go.Proofs.Ytckdhahceelckaa.G
namespace Go.Proofs.Ytckdhahceelckaa.G
open Go.RowKit Go.Proofs.YtckdhahceelckaaW.PrintWords Go.Proofs.YtckdhahceelckaaW.PrintLast Go.Proofs.YtckdhahceelckaaW.PrintMore
attribute [local go_sem] max2_mx min2_mn max_two min_two max_three min_three max_four min_four
attribute [local go_sem high] eqA23
set_option linter.unusedVariables false
set_option linter.unusedSimpArgs false
theorem reachF_bd (n p0 : P3) (r : List P3) (M : Int) (h0 : -M ≤ dot3 n p0 ∧ dot3 n p0 ≤ M) (h : ∀ p ∈ r, -M ≤ dot3 n p ∧ dot3 n p ≤ M) : -M ≤ (reachF n p0 r).1 ∧ (reachF n p0 r).1 ≤ M ∧ -M ≤ (reachF n p0 r).2 ∧ (reachF n p0 r).2 ≤ M := by
  have gen : ∀ (l : List P3) (s : Int × Int), (∀ p ∈ l, -M ≤ dot3 n p ∧ dot3 n p ≤ M) → -M ≤ s.1 → s.1 ≤ M → -M ≤ s.2 → s.2 ≤ M → -M ≤ (l.foldl (rstep n) s).1 ∧ (l.foldl (rstep n) s).1 ≤ M ∧ -M ≤ (l.foldl (rstep n) s).2 ∧ (l.foldl (rstep n) s).2 ≤ M := by
    intro l
    induction l with
    | nil => intro s _ a b c d; exact ⟨a, b, c, d⟩
    | cons p l ih =>
      intro s hp a b c d
      have hp0 := hp p (by simp)
      obtain ⟨m1, m2, m3⟩ := mx_facts s.2 (dot3 n p)
      obtain ⟨k1, k2, k3⟩ := mn_facts s.1 (dot3 n p)
      rw [List.foldl_cons]
      exact ih _ (fun q hq => hp q (by simp [hq])) (by unfold rstep; simp only; omega) (by unfold rstep; simp only; omega) (by unfold rstep; simp only; omega) (by unfold rstep; simp only; omega)
  exact gen r _ h h0.1 h0.2 h0.1 h0.2
theorem fl3_pos (p : P3) (h : p ≠ ⟨0, 0, 0⟩) : 1 ≤ fl3 p := by
  have h1 : 1 ≤ dotI p p := by
    have a := sq_nonneg p.x
    have b := sq_nonneg p.y
    have c := sq_nonneg p.z
    have pos : ∀ x : Int, x ≠ 0 → 1 ≤ x * x := fun x hx => by
      rcases Int.lt_or_gt_of_ne hx with h | h
      · have := Int.mul_le_mul (show 1 ≤ -x by omega) (show 1 ≤ -x by omega) (by omega) (by omega); rw [Int.neg_mul_neg] at this; omega
      · have := Int.mul_le_mul (show 1 ≤ x by omega) (show 1 ≤ x by omega) (by omega) (by omega); omega
    unfold dotI
    by_cases hx : p.x = 0
    · by_cases hy : p.y = 0
      · have hz : p.z ≠ 0 := fun hz => h (by cases p; simp_all)
        have := pos _ hz; omega
      · have := pos _ hy; omega
    · have := pos _ hx; omega
  unfold fl3
  obtain ⟨_, h2⟩ := isq_spec (dotI p p).toNat
  rcases Nat.eq_zero_or_pos (isq (dotI p p).toNat) with h0 | h0
  · rw [h0] at h2; omega
  · omega
theorem fl3_le (p : P3) (h : in3 1048576 p) : fl3 p ≤ 16777216 := by
  have := dotI_bd p p 1048576 1048576 h h
  have h0 := dotI_self p
  obtain ⟨h1, _⟩ := isq_spec (dotI p p).toNat
  unfold fl3
  rcases Nat.lt_or_ge 16777216 (isq (dotI p p).toNat) with h3 | h3
  · have := Nat.mul_le_mul (show 16777216 ≤ isq (dotI p p).toNat by omega) (show 16777216 ≤ isq (dotI p p).toNat by omega); omega
  · omega
theorem ce3_bd (p : P3) : fl3 p ≤ ce3 p ∧ ce3 p ≤ fl3 p + 1 := by unfold ce3; split <;> omega
/-- the gaps of n and of the other way round -/
def gapsF (n a0 : P3) (ar : List P3) (ra : Int) (b0 : P3) (br : List P3) (rb : Int) : Int × Int :=
  (gapV ((reachF n b0 br).1 - (reachF n a0 ar).2) (ce3 n) (fl3 n) ra rb, gapV ((reachF n a0 ar).1 - (reachF n b0 br).2) (ce3 n) (fl3 n) ra rb)
set_option maxHeartbeats 2000000 in
set_option maxRecDepth 100000 in
theorem gaps_calls (a0 : P3) (ar : List P3) (b0 : P3) (br : List P3) (A0 A1 A2 B0 B1 B2 : Option Addr) (c0 n1 c1 n2 c2 d0 m1 d1 m2 d2 : Nat) (ra rb x y z : Int) (w : World)
    (hA : Rd w A0 (a0 :: ar)) (hB : Rd w B0 (b0 :: br)) (hc0 : ar.length + 1 ≤ c0) (hd0 : br.length + 1 ≤ d0) (hla : ar.length < 1000) (hlb : br.length < 1000)
    (hn : in3 1048576 ⟨x, y, z⟩) (hn0 : (⟨x, y, z⟩ : P3) ≠ ⟨0, 0, 0⟩) (hpa : ∀ p ∈ a0 :: ar, in3 16777216 p) (hpb : ∀ p ∈ b0 :: br, in3 16777216 p) (ha1 : 0 ≤ ra) (ha2 : ra ≤ 131072) (hb1 : 0 ≤ rb) (hb2 : rb ≤ 131072) :
    Calls Try.prog 60 #[.agg #[.slice A0 (ar.length + 1) c0, .slice A1 n1 c1, .slice A2 n2 c2, .int .i64 ra], .agg #[.slice B0 (br.length + 1) d0, .slice B1 m1 d1, .slice B2 m2 d2, .int .i64 rb], .agg #[.int .i64 x, .int .i64 y, .int .i64 z]] w
      fun e w' => e = .returned (.tuple #[.int .i64 (gapsF ⟨x, y, z⟩ a0 ar ra b0 br rb).1, .int .i64 (gapsF ⟨x, y, z⟩ a0 ar ra b0 br rb).2]) ∧ Below w.heap.size w w' := by
  have hdot : ∀ p, in3 16777216 p → -70368744177664 ≤ dot3 ⟨x, y, z⟩ p ∧ dot3 ⟨x, y, z⟩ p ≤ 70368744177664 := fun p hp => by
    have h1 := dot3_eq ⟨x, y, z⟩ p 1048576 16777216 hn hp (by decide)
    have h2 := dotI_bd ⟨x, y, z⟩ p 1048576 16777216 hn hp
    omega
  obtain ⟨u1, u2, u3, u4⟩ := reachF_bd ⟨x, y, z⟩ a0 ar 70368744177664 (hdot _ (hpa _ (by simp))) (fun p hp => hdot p (hpa p (by simp [hp])))
  obtain ⟨v1, v2, v3, v4⟩ := reachF_bd ⟨x, y, z⟩ b0 br 70368744177664 (hdot _ (hpb _ (by simp))) (fun p hp => hdot p (hpb p (by simp [hp])))
  have hs : sz3 ⟨x, y, z⟩ = (fl3 ⟨x, y, z⟩, ce3 ⟨x, y, z⟩) := by
    unfold sz3
    rw [(far3_iff 16777216 ⟨x, y, z⟩ (by decide) (by decide)).2 (by unfold in3 at *; simp only at *; omega)]; rfl
  have k1 := fl3_pos _ hn0
  have k2 := fl3_le _ hn
  obtain ⟨k3, k4⟩ := ce3_bd ⟨x, y, z⟩
  unfold gapsF
  obtain ⟨RA, hRA⟩ : ∃ R, reachF ⟨x, y, z⟩ a0 ar = R := ⟨_, rfl⟩
  obtain ⟨RB, hRB⟩ : ∃ R, reachF ⟨x, y, z⟩ b0 br = R := ⟨_, rfl⟩
  obtain ⟨fl, hfl⟩ : ∃ R, fl3 ⟨x, y, z⟩ = R := ⟨_, rfl⟩
  obtain ⟨ce, hce⟩ : ∃ R, ce3 ⟨x, y, z⟩ = R := ⟨_, rfl⟩
  rw [hRA] at u1 u2 u3 u4 ⊢
  rw [hRB] at v1 v2 v3 v4 ⊢
  rw [hfl] at k1 k2 k3 k4 hs ⊢
  rw [hce] at k3 k4 hs ⊢
  obtain ⟨la, ha⟩ := RA
  obtain ⟨lb, hb⟩ := RB
  dsimp only at u1 u2 u3 u4 v1 v2 v3 v4 ⊢
  have HRA := Lh hRA
  have HRB := Lh hRB
  have HS := Lh hs
  have RA := Lh hA
  have RB := Lh hB
  clear hRA hRB hfl hce hs hA hB hdot hpa hpb hn hn0
  obtain ⟨ca, hca⟩ : ∃ ca : Array Value, #[.slice A0 (ar.length + 1) c0, .slice A1 n1 c1, .slice A2 n2 c2, .int .i64 ra] = ca := ⟨_, rfl⟩
  obtain ⟨cb, hcb⟩ : ∃ cb : Array Value, #[.slice B0 (br.length + 1) d0, .slice B1 m1 d1, .slice B2 m2 d2, .int .i64 rb] = cb := ⟨_, rfl⟩
  have G0 : Hid ((((w.alloc (.cells ca 36)).alloc (.cells cb 36)).alloc (.cells #[.int .i64 x, .int .i64 y, .int .i64 z] 23)).heap[w.heap.size]? = some (.cells ca 36 (0, 0))) := blk_alloc (blk_alloc (heap_alloc_new w _) _) _
  have G1 : Hid ((((w.alloc (.cells ca 36)).alloc (.cells cb 36)).alloc (.cells #[.int .i64 x, .int .i64 y, .int .i64 z] 23)).heap[w.heap.size + 1]? = some (.cells cb 36 (0, 0))) := blk_alloc (by simpa using heap_alloc_new (w.alloc (.cells ca 36)) (.cells cb 36)) _
  have G2 : Hid (C3 (((w.alloc (.cells ca 36)).alloc (.cells cb 36)).alloc (.cells #[.int .i64 x, .int .i64 y, .int .i64 z] 23)) (w.heap.size + 2) (.int .i64 x) (.int .i64 y) (.int .i64 z)) := by
    have := C3.new ((w.alloc (.cells ca 36)).alloc (.cells cb 36)) (.int .i64 x) (.int .i64 y) (.int .i64 z) 23
    simp only [World.size_alloc] at this
    exact this
  rw [← hca, ← hcb] at G0 G1 G2
  clear hca hcb ca cb
  go_enter Try.func60, Try.ntmps60
  go_wp2_with fail
  refine (reach_calls a0 ar _ _ _ _ _ _ (((RA.out.alloc _).alloc _).alloc _) hc0 (by omega)).mono ?_
  rintro e w1 ⟨rfl, hb1⟩
  rw [HRA.out]
  have g0 := Lh (blk_below G0.out hb1)
  have g1 := Lh (blk_below G1.out hb1)
  have g2 := Lh (G2.out.below hb1)
  have a1 : w1.cell? ⟨w.heap.size + 1, 0, none⟩ = some (.slice B0 (br.length + 1) d0) := (blk_cell g1.out 0).trans rfl
  obtain ⟨c0, c1, c2, _, _, _⟩ := id g2.out
  have hB1 : Hid (Below w.heap.size w w1) := ((((Below.refl _ w).alloc (Nat.le_refl _) _).alloc (by simp) _).alloc (by simp; omega) _).trans (hb1.mono (by simp; omega))
  clear G0 G1 G2 hb1
  go_wp2_with fail
  refine (reach_calls b0 br _ _ _ _ _ _ (RB.out.below hB1.out) hd0 (by omega)).mono ?_
  rintro e w2 ⟨rfl, hb2⟩
  rw [HRB.out]
  have G0 := Lh (blk_below g0.out hb2)
  have G1 := Lh (blk_below g1.out hb2)
  have G2 := Lh (g2.out.below hb2)
  have hB2 : Hid (Below w.heap.size w w2) := bthen hB1.out hb2
  clear c0 c1 c2 a1 g0 g1 g2 hb2 hB1
  obtain ⟨c0, c1, c2, _, _, _⟩ := id G2.out
  go_wp2_with fail
  refine (sizes_calls _ _ _ _).mono ?_
  rintro e w3 ⟨rfl, hb3⟩
  rw [HS.out]
  have g0 := blk_below G0.out hb3
  have g1 := blk_below G1.out hb3
  have a2 : w3.cell? ⟨w.heap.size, 3, none⟩ = some (.int .i64 ra) := (blk_cell g0 3).trans rfl
  have a3 : w3.cell? ⟨w.heap.size + 1, 3, none⟩ = some (.int .i64 rb) := (blk_cell g1 3).trans rfl
  have z1 := blk_lt g0
  have z2 := blk_lt g1
  have hB3 : Hid (Below w.heap.size w w3) := bthen hB2.out hb3
  clear c0 c1 c2 g0 g1 G0 G1 G2 hb3 hB2
  have z3 : w.heap.size ≠ w3.heap.size := by omega
  have z4 : w.heap.size + 1 ≠ w3.heap.size := by omega
  have z5 : w.heap.size ≠ w3.heap.size + 1 := by omega
  have z6 : w.heap.size + 1 ≠ w3.heap.size + 1 := by omega
  go_wp2_with fail
  have b1 : ((w3.alloc (.cells #[.int .i64 fl] 3)).alloc (.cells #[.int .i64 ce] 3)).cell? ⟨w3.heap.size + 1, 0, none⟩ = some (.int .i64 ce) := by simp
  have b2 : ((w3.alloc (.cells #[.int .i64 fl] 3)).alloc (.cells #[.int .i64 ce] 3)).cell? ⟨w.heap.size, 3, none⟩ = some (.int .i64 ra) := by
    rw [World.cell?_alloc_lt _ _ _ (by simp; omega), World.cell?_alloc_lt _ _ _ (by omega)]; exact a2
  have b3 : ((w3.alloc (.cells #[.int .i64 fl] 3)).alloc (.cells #[.int .i64 ce] 3)).cell? ⟨w.heap.size + 1, 3, none⟩ = some (.int .i64 rb) := by
    rw [World.cell?_alloc_lt _ _ _ (by simp; omega), World.cell?_alloc_lt _ _ _ (by omega)]; exact a3
  have b4 : ((w3.alloc (.cells #[.int .i64 fl] 3)).alloc (.cells #[.int .i64 ce] 3)).cell? ⟨w3.heap.size, 0, none⟩ = some (.int .i64 fl) := by
    rw [World.cell?_alloc_lt _ _ _ (by simp)]; simp
  have hB4 : Hid (Below w.heap.size w ((w3.alloc (.cells #[.int .i64 fl] 3)).alloc (.cells #[.int .i64 ce] 3))) := (hB3.out.alloc hB3.out.size _).alloc (by have := hB3.out.size; simp; omega) _
  clear a2 a3 z1 z2 z3 z4 z5 z6 hB3
  generalize (w3.alloc (.cells #[.int .i64 fl] 3)).alloc (.cells #[.int .i64 ce] 3) = w4 at b1 b2 b3 b4 hB4 ⊢
  refine (gap1_calls _ ce fl ra rb _ _ _ _ _ b1 b2 b3 b4 (by omega) (by omega) (by omega) (by omega) (by omega) (by omega) ha1 ha2 hb1 hb2).mono ?_
  rintro e w5 ⟨rfl, hb5⟩
  obtain ⟨hc5, _⟩ := bcell hb5
  have d1 := (hc5 _ _ (World.block_lt_of_cell? w4 _ b1)).trans b1
  have d2 := (hc5 _ _ (World.block_lt_of_cell? w4 _ b2)).trans b2
  have d3 := (hc5 _ _ (World.block_lt_of_cell? w4 _ b3)).trans b3
  have d4 := (hc5 _ _ (World.block_lt_of_cell? w4 _ b4)).trans b4
  have hB5 : Hid (Below w.heap.size w w5) := bthen hB4.out hb5
  clear hc5 b1 b2 b3 b4 hb5 hB4
  go_wp2_with fail
  refine (gap1_calls _ ce fl ra rb _ _ _ _ _ d1 d2 d3 d4 (by omega) (by omega) (by omega) (by omega) (by omega) (by omega) ha1 ha2 hb1 hb2).mono ?_
  rintro e w6 ⟨rfl, hb6⟩
  have hB6 : Hid (Below w.heap.size w w6) := bthen hB5.out hb6
  go_wp2
  go_ret2
  exact ⟨rfl, hB6.out⟩
end Go.Proofs.Ytckdhahceelckaa.G
namespace Go.Proofs.Ytckdhahceelckaa.G
open Go.RowKit Go.Proofs.YtckdhahceelckaaW.PrintWords Go.Proofs.YtckdhahceelckaaW.PrintLast Go.Proofs.YtckdhahceelckaaW.PrintMore
attribute [local go_sem] max2_mx min2_mn max_two min_two max_three min_three max_four min_four
attribute [local go_sem high] eqA23
set_option linter.unusedVariables false
set_option linter.unusedSimpArgs false
def mayF (p a e : List P3) (r : Int) : Bool := decide (0 < p.length) && decide (p.length ≤ 32) && decide (a.length ≤ 128) && decide (e.length ≤ 128) && decide (0 ≤ r) && decide (r ≤ 65536) && !p.any (far3 16777216) && !a.any (far3 1048576) && !e.any (far3 1048576)
theorem beyondE_calls (n : Int) (w : World) :
    Calls Try.prog 65 #[.int .i64 n] w fun e w' => ∃ g : Nat, e = .returned (.func (.func 121) #[] #[.pointer (some ⟨g, 0, none⟩)]) ∧ w'.cell? ⟨g, 0, none⟩ = some (.int .i64 n) ∧ Below w.heap.size w w' :=
  (beyondF_calls n w).mono fun e w' ⟨he, hw⟩ => ⟨w.heap.size, he, by rw [← hw]; simp, by rw [← hw]; exact (Below.refl _ w).alloc (Nat.le_refl _) _⟩
theorem contains_calls' (l : List P3) (m : Nat) (A : Option Addr) (c : Nat) (n : Int) (B : Nat) (v : Bool) (w : World) (hl : l.length = m) (hv : l.any (far3 n) = v) (hr : Rd w A l) (hc : m ≤ c) (hm : m < 9223372036854775807) (hB : w.cell? ⟨B, 0, none⟩ = some (.int .i64 n)) (hn1 : 0 ≤ n) (hn2 : n ≤ 9223372036854775807) :
    Calls Try.prog 68 #[.slice A m c, .func (.func 121) #[] #[.pointer (some ⟨B, 0, none⟩)]] w fun e w' => e = .returned (.bool v) ∧ Below w.heap.size w w' := by
  subst hl; subst hv; exact contains_calls l A c n B w hr hc hm hB hn1 hn2
set_option maxHeartbeats 2000000 in
set_option maxRecDepth 100000 in
theorem may_yes (p a e : List P3) (r : Int) (A0 A1 A2 : Option Addr) (c0 c1 c2 : Nat) (w : World) (h0 : Rd w A0 p) (h1 : Rd w A1 a) (h2 : Rd w A2 e) (k0 : p.length ≤ c0) (k1 : a.length ≤ c1) (k2 : e.length ≤ c2) (B : Bool) (F : Bool) (G : Bool)
    (hp1 : 0 < p.length) (hp2 : p.length ≤ 32) (ha : a.length ≤ 128) (he : e.length ≤ 128) (hr1 : 0 ≤ r) (hr2 : r ≤ 65536) (hF : p.any (far3 16777216) = false) (hG : a.any (far3 1048576) = false) (hB : e.any (far3 1048576) = B) :
    Calls Try.prog 57 #[.agg #[.slice A0 p.length c0, .slice A1 a.length c1, .slice A2 e.length c2, .int .i64 r]] w fun e w' => e = .returned (.bool !B) ∧ Below w.heap.size w w' := by
  have H0 := Lh h0
  have H1 := Lh h1
  have H2 := Lh h2
  have HF := Lh hF
  have HG := Lh hG
  have HB := Lh hB
  clear h0 h1 h2 hF hG hB
  obtain ⟨np, hnp⟩ : ∃ n, p.length = n := ⟨_, rfl⟩
  obtain ⟨na, hna⟩ : ∃ n, a.length = n := ⟨_, rfl⟩
  obtain ⟨ne, hne⟩ : ∃ n, e.length = n := ⟨_, rfl⟩
  rw [hnp] at hp1 hp2 k0 ⊢
  rw [hna] at ha k1 ⊢
  rw [hne] at he k2 ⊢
  have HNP := Lh hnp
  have HNA := Lh hna
  have HNE := Lh hne
  clear hnp hna hne
  have t1 : decide ((0 : Int) < (np : Int)) = true := by simp; omega
  have t2 : decide ((np : Int) ≤ 32) = true := by simp; omega
  have t3 : decide (mx (na : Int) (ne : Int) ≤ 128) = true := by simp [mx]; split <;> omega
  have t4 : decide (0 ≤ r) = true := by simp; omega
  have t5 : decide (r ≤ 65536) = true := by simp; omega
  go_enter Try.func57, Try.ntmps57
  go_wp2
  obtain ⟨ca, hca⟩ : ∃ ca : Array Value, #[.slice A0 np c0, .slice A1 na c1, .slice A2 ne c2, .int .i64 r] = ca := ⟨_, rfl⟩
  have G0 : Hid ((w.alloc (.cells ca 36)).drew.heap[w.heap.size]? = some (.cells ca 36 (0, 0))) := heap_alloc_new w _
  have R0 : Hid (Below w.heap.size w (w.alloc (.cells ca 36)).drew) := ((Below.refl _ w).alloc (Nat.le_refl _) _).drew
  rw [← hca] at G0 R0
  clear hca ca
  go_region_held3 (fun w' => w'.cell? ⟨w.heap.size, 0, none⟩ = some (.slice A0 np c0) ∧ w'.cell? ⟨w.heap.size, 1, none⟩ = some (.slice A1 na c1) ∧ w'.cell? ⟨w.heap.size, 2, none⟩ = some (.slice A2 ne c2) ∧ w'.cell? ⟨w.heap.size, 3, none⟩ = some (.int .i64 r))
    (first | exact ⟨(blk_cell g0.out 0).trans rfl, (blk_cell g0.out 1).trans rfl, (blk_cell g0.out 2).trans rfl, (blk_cell g0.out 3).trans rfl⟩ | (go_keep; done))
    (first
      | (go_at_call 65; (try clear g0); (try clear hg); refine (beyondE_calls _ _).mono ?_; rintro e w1 ⟨g, rfl, hg, hb1⟩; have g0 := Lh (blk_below G0.out hb1); have r0 := Lh (bthen R0.out hb1); clear G0 R0 hb1; have G0 := g0; have R0 := r0; clear r0)
      | (go_at_call_of 68 A0; (try clear g0); refine (contains_calls' p _ _ _ 16777216 _ false _ HNP.out HF.out (H0.out.below R0.out) k0 (by omega) hg (by decide) (by decide)).mono ?_; rintro e w1 ⟨rfl, hb1⟩; have g0 := Lh (blk_below G0.out hb1); have r0 := Lh (bthen R0.out hb1); clear G0 R0 hb1; have G0 := g0; have R0 := r0; clear r0)
      | (go_at_call_of 68 A1; (try clear g0); refine (contains_calls' a _ _ _ 1048576 _ false _ HNA.out HG.out (H1.out.below R0.out) k1 (by omega) hg (by decide) (by decide)).mono ?_; rintro e w1 ⟨rfl, hb1⟩; have g0 := Lh (blk_below G0.out hb1); have r0 := Lh (bthen R0.out hb1); clear G0 R0 hb1; have G0 := g0; have R0 := r0; clear r0)
      | (go_at_call_of 68 A2; (try clear g0); refine (contains_calls' e _ _ _ 1048576 _ B _ HNE.out HB.out (H2.out.below R0.out) k2 (by omega) hg (by decide) (by decide)).mono ?_; rintro e w1 ⟨rfl, hb1⟩; have g0 := Lh (blk_below G0.out hb1); have r0 := Lh (bthen R0.out hb1); clear G0 R0 hb1; have G0 := g0; have R0 := r0; clear r0))
  go_wp2
  go_ret
  exact ⟨rfl, R0.out⟩
end Go.Proofs.Ytckdhahceelckaa.G
namespace Go.Proofs.Ytckdhahceelckaa.G
open Go.RowKit Go.Proofs.YtckdhahceelckaaW.PrintWords Go.Proofs.YtckdhahceelckaaW.PrintLast Go.Proofs.YtckdhahceelckaaW.PrintMore
attribute [local go_sem] max2_mx min2_mn max_two min_two max_three min_three max_four min_four
attribute [local go_sem high] eqA23
set_option linter.unusedVariables false
set_option linter.unusedSimpArgs false
open Go.Shelf
attribute [local go_sem] Oper.semAt_some
/-- one round of the search for the best way; the whole -/
def apStep (a0 : P3) (ar : List P3) (ra : Int) (b0 : P3) (br : List P3) (rb : Int) (s : (P3 × Int) × Bool) (n : P3) : (P3 × Int) × Bool :=
  if long3 n = ⟨0, 0, 0⟩ then s else
    let g := gapsF (long3 n) a0 ar ra b0 br rb
    let o := if s.2 = true ∨ s.1.2 < g.1 then (long3 n, g.1) else s.1
    (if o.2 < g.2 then (minus3 ⟨0, 0, 0⟩ (long3 n), g.2) else o, false)
def apF (a0 : P3) (ar : List P3) (ra : Int) (b0 : P3) (br : List P3) (rb : Int) (l : List P3) : (P3 × Int) × Bool :=
  l.foldl (apStep a0 ar ra b0 br rb) ((⟨0, 0, 1048576⟩, -ra - rb), true)
theorem apF_snoc (a0 : P3) (ar : List P3) (ra : Int) (b0 : P3) (br : List P3) (rb : Int) (l : List P3) (x : P3) : apF a0 ar ra b0 br rb (l ++ [x]) = apStep a0 ar ra b0 br rb (apF a0 ar ra b0 br rb l) x := by simp [apF]
def enc3 (p : P3) : Array Value := #[.agg #[.int .i64 p.x, .int .i64 p.y, .int .i64 p.z]]
/-- ways' function value stops -/
theorem ways_stops (n : Nat) (hn : 3 ≤ n) (bo bf ga gb : Nat) (pa aa ea pb ab eb : List P3) (A0 A1 A2 B0 B1 B2 : Option Addr) (c0 c1 c2 d0 d1 d2 : Nat) (ra rb : Int) (W : World)
    (hga : W.heap[ga]? = some (.cells #[.slice A0 pa.length c0, .slice A1 aa.length c1, .slice A2 ea.length c2, .int .i64 ra] 36 (0, 0)))
    (hgb : W.heap[gb]? = some (.cells #[.slice B0 pb.length d0, .slice B1 ab.length d1, .slice B2 eb.length d2, .int .i64 rb] 36 (0, 0)))
    (R0 : Hid (RdX bo bf W A0 pa)) (R1 : Hid (RdX bo bf W A1 aa)) (R2 : Hid (RdX bo bf W A2 ea)) (S0 : Hid (RdX bo bf W B0 pb)) (S1 : Hid (RdX bo bf W B1 ab)) (S2 : Hid (RdX bo bf W B2 eb)) (hl1 : aa.length ≤ 40000) (hl2 : ab.length ≤ 40000) (hl3 : ea.length ≤ 40000) (hl4 : eb.length ≤ 40000) (hl5 : pa.length ≤ 40000) (hl6 : pb.length ≤ 40000)
    (hga1 : ga ≠ bo) (hga2 : ga ≠ bf) (hgb1 : gb ≠ bo) (hgb2 : gb ≠ bf) (hbo : bo < W.heap.size) (hbf : bf < W.heap.size) :
    SeqStopsK Fence.wide n Try.prog 115 #[.pointer (some ⟨ga, 0, none⟩), .pointer (some ⟨gb, 0, none⟩)] enc3 (KpX bo bf) (fun ys => ys = rawC pa aa ea pb ab eb) (fun pre => pre <+: rawC pa aa ea pb ab eb) (rawC pa aa ea pb ab eb).length W := by
  intro l J Jx W1 hW hJ hJx hY h0
  have KW : KpX bo bf W W1 := KpX.of_below hW
  have hs := hW.size
  exact ways1_in n hn l bo bf ga gb pa aa ea pb ab eb A0 A1 A2 B0 B1 B2 c0 c1 c2 d0 d1 d2 ra rb J Jx W1 hJ hJx hY (heap_keep hga KW hga1 hga2) (heap_keep hgb KW hgb1 hgb2) (R0.out.keep KW) (R1.out.keep KW) (R2.out.keep KW) (S0.out.keep KW) (S1.out.keep KW) (S2.out.keep KW) hl1 hl2 hl3 hl4 hl5 hl6 hga1 hga2 hgb1 hgb2 (by omega) (by omega) h0
set_option maxHeartbeats 1000000 in
theorem ways_calls (x0 x1 x2 x3 y0 y1 y2 y3 : Value) (w : World) :
    Calls Try.prog 58 #[.agg #[x0, x1, x2, x3], .agg #[y0, y1, y2, y3]] w fun e w' => e = .returned (.func (.func 115) #[] #[.pointer (some ⟨w.heap.size, 0, none⟩), .pointer (some ⟨w.heap.size + 1, 0, none⟩)]) ∧
      w' = (w.alloc (.cells #[x0, x1, x2, x3] 36)).alloc (.cells #[y0, y1, y2, y3] 36) := by
  go_enter Try.func58, Try.ntmps58
  go_wp2
  go_ret
  exact ⟨rfl, rfl⟩
/-- a block of four cells -/
theorem blk4_set {W : World} {g : Nat} {a b c d : Value} {t : TypeId} (h : W.heap[g]? = some (.cells #[a, b, c, d] t (0, 0))) (x y z u : Value) :
    ((((W.setCell ⟨g, 0, none⟩ x).setCell ⟨g, 1, none⟩ y).setCell ⟨g, 2, none⟩ z).setCell ⟨g, 3, none⟩ u).heap[g]? = some (.cells #[x, y, z, u] t (0, 0)) := by
  obtain ⟨hlt, hk⟩ := Array.getElem?_eq_some_iff.1 h
  simp [World.setCell, Array.getElem?_modify, h]
theorem blk4_own {β : Type} (g : Nat) (cs : β → Array Value) (t : TypeId) : Own (fun s W => W.heap[g]? = some (.cells (cs s) t (0, 0))) := fun s X Y row hs hg hrow =>
  (hg.block g (Array.getElem?_eq_some_iff.1 hs).1 (fun e' => by obtain ⟨o, ho, hc⟩ := hrow g e'.symm; rw [show X.heap[g]? = _ from hs] at ho; cases ho; cases hc)).trans hs
end Go.Proofs.Ytckdhahceelckaa.G
namespace Go.Proofs.Ytckdhahceelckaa.G
open Go.RowKit Go.Proofs.YtckdhahceelckaaW.PrintWords Go.Proofs.YtckdhahceelckaaW.PrintLast Go.Proofs.YtckdhahceelckaaW.PrintMore
attribute [local go_sem] max2_mx min2_mn max_two min_two max_three min_three max_four min_four
attribute [local go_sem high] eqA23
set_option linter.unusedVariables false
set_option linter.unusedSimpArgs false
open Go.Shelf
attribute [local go_sem] Oper.semAt_some
/-- a slice of points that lies in this world -/
def RdB (w : World) (A : Option Addr) (l : List P3) : Prop := Rd w A l ∧ (l ≠ [] → ∀ ad, A = some ad → ad.block < w.heap.size)
theorem dbl3_in (p : P3) (h : in3 1048576 p) : in3 1048576 (dbl3 p) := by
  induction p using dbl3.induct with
  | case1 p h' => rw [dbl3, dif_pos h']; exact h
  | case2 p h' ih =>
    rw [dbl3, dif_neg h']
    apply ih
    have h1 : far3 524288 p = false := by simpa using fun e => h' (.inl e)
    have hi := (far3_iff _ _ (by decide) (by decide)).1 h1
    unfold in3 two3 at *
    simp only
    omega
theorem long3_in (p : P3) : in3 1048576 (long3 p) := dbl3_in _ (short3_in p)
theorem KpX.seto {bo bf : Nat} (W : World) (i : Nat) (v : Value) : KpX bo bf W (W.setCell ⟨bo, i, none⟩ v) :=
  ⟨by simp, fun k c t f _ h1 _ => Below.heap_setCell _ _ _ k h1⟩
theorem KpX.setf {bo bf : Nat} (W : World) (i : Nat) (v : Value) : KpX bo bf W (W.setCell ⟨bf, i, none⟩ v) :=
  ⟨by simp, fun k c t f _ _ h1 => Below.heap_setCell _ _ _ k h1⟩
abbrev set4 (w : World) (g : Nat) (x y z u : Value) : World := (((w.setCell ⟨g, 0, none⟩ x).setCell ⟨g, 1, none⟩ y).setCell ⟨g, 2, none⟩ z).setCell ⟨g, 3, none⟩ u
theorem KpX.set4 {bo bf : Nat} (W : World) (x y z u : Value) : KpX bo bf W (set4 W bo x y z u) := (((KpX.seto W 0 x).trans (KpX.seto _ 1 y)).trans (KpX.seto _ 2 z)).trans (KpX.seto _ 3 u)
theorem keeps_set4 (W : World) (g : Nat) (x y z u : Value) : KeepsOthers W (set4 W g x y z u) := (((KeepsOthers.setCell W _ x).trans (KeepsOthers.setCell _ _ y)).trans (KeepsOthers.setCell _ _ z)).trans (KeepsOthers.setCell _ _ u)
theorem heap_set4 (W : World) (g k : Nat) (h : k ≠ g) (x y z u : Value) : (set4 W g x y z u).heap[k]? = W.heap[k]? :=
  (Below.heap_setCell _ _ _ k h).trans ((Below.heap_setCell _ _ _ k h).trans ((Below.heap_setCell _ _ _ k h).trans (Below.heap_setCell _ _ _ k h)))
theorem below_set4 {B : Nat} {a w : World} (h : Below B a w) {g : Nat} (hg : B ≤ g) (x y z u : Value) : Below B a (set4 w g x y z u) := (((h.setCell (p := ⟨g, 0, none⟩) hg x).setCell (p := ⟨g, 1, none⟩) hg y).setCell (p := ⟨g, 2, none⟩) hg z).setCell (p := ⟨g, 3, none⟩) hg u
theorem three0 (w : World) (o1 o2 o3 : Obj) : (((w.alloc o1).alloc o2).alloc o3).heap[w.heap.size]? = some o1 :=
  (Below.heap_alloc _ _ _ (by simp; omega)).trans ((Below.heap_alloc _ _ _ (by simp)).trans (World.alloc_heap_new w o1))
theorem three1 (w : World) (o1 o2 o3 : Obj) : (((w.alloc o1).alloc o2).alloc o3).heap[w.heap.size + 1]? = some o2 :=
  (Below.heap_alloc _ _ _ (by simp)).trans (by have := World.alloc_heap_new (w.alloc o1) o2; rwa [World.size_alloc] at this)
theorem three2 (w : World) (o1 o2 o3 : Obj) : (((w.alloc o1).alloc o2).alloc o3).heap[w.heap.size + 2]? = some o3 := by
  have := World.alloc_heap_new ((w.alloc o1).alloc o2) o3; rwa [World.size_alloc, World.size_alloc] at this
set_option maxHeartbeats 4000000 in
set_option maxRecDepth 100000 in
theorem apart_in (n : Nat) (hn : 6 ≤ n) (a0 : P3) (ar aa ea : List P3) (ra : Int) (b0 : P3) (br ab eb : List P3) (rb : Int) (A0 A1 A2 B0 B1 B2 : Option Addr) (c0 c1 c2 d0 d1 d2 : Nat) (w : World)
    (hA0 : Hid (RdB w A0 (a0 :: ar))) (hA1 : Hid (RdB w A1 aa)) (hA2 : Hid (RdB w A2 ea)) (hB0 : Hid (RdB w B0 (b0 :: br))) (hB1 : Hid (RdB w B1 ab)) (hB2 : Hid (RdB w B2 eb))
    (k0 : ar.length + 1 ≤ c0) (k1 : aa.length ≤ c1) (k2 : ea.length ≤ c2) (m0 : br.length + 1 ≤ d0) (m1 : ab.length ≤ d1) (m2 : eb.length ≤ d2)
    (ap : ar.length + 1 ≤ 32) (aal : aa.length ≤ 128) (eal : ea.length ≤ 128) (bp : br.length + 1 ≤ 32) (abl : ab.length ≤ 128) (ebl : eb.length ≤ 128)
    (ra1 : 0 ≤ ra) (ra2 : ra ≤ 65536) (rb1 : 0 ≤ rb) (rb2 : rb ≤ 65536)
    (pA : (a0 :: ar).any (far3 16777216) = false) (pB : (b0 :: br).any (far3 16777216) = false) (xA : aa.any (far3 1048576) = false) (xB : ab.any (far3 1048576) = false) (eA : ea.any (far3 1048576) = false) (eB : eb.any (far3 1048576) = false)
    (R : (P3 × Int) × Bool) (hR : apF a0 ar ra b0 br rb (rawC (a0 :: ar) aa ea (b0 :: br) ab eb) = R) :
    CallsIn Fence.wide n Try.prog 20 #[.agg #[.slice A0 (ar.length + 1) c0, .slice A1 aa.length c1, .slice A2 ea.length c2, .int .i64 ra], .agg #[.slice B0 (br.length + 1) d0, .slice B1 ab.length d1, .slice B2 eb.length d2, .int .i64 rb]] w
      fun e w' => e = .returned (.tuple #[.agg #[.int .i64 R.1.1.x, .int .i64 R.1.1.y, .int .i64 R.1.1.z, .int .i64 R.1.2], .bool true]) ∧ Below w.heap.size w w' := by
  have h1 : 1 ≤ n := by omega
  refine callsIn_of_wp_marks Try.func20 rfl trivial ?_ rfl
  simp only [Try.ntmps20, List.size_toArray, List.length_cons, List.length_nil, Nat.reduceAdd, Nat.reduceSub, Array.replicate_succ, Array.replicate_zero, List.push_toArray, List.append_toArray, List.nil_append, List.cons_append]
  have Ha0 : (((w.alloc (.cells #[.slice A0 (ar.length + 1) c0, .slice A1 aa.length c1, .slice A2 ea.length c2, .int .i64 ra] 36)).alloc (.cells #[.slice B0 (br.length + 1) d0, .slice B1 ab.length d1, .slice B2 eb.length d2, .int .i64 rb] 36)).alloc (.cells #[.int .i64 0, .int .i64 0, .int .i64 0, .int .i64 0] 40)).heap[w.heap.size]? = some (.cells #[.slice A0 (ar.length + 1) c0, .slice A1 aa.length c1, .slice A2 ea.length c2, .int .i64 ra] 36 (0, 0)) := three0 _ _ _ _
  have Hb0 : (((w.alloc (.cells #[.slice A0 (ar.length + 1) c0, .slice A1 aa.length c1, .slice A2 ea.length c2, .int .i64 ra] 36)).alloc (.cells #[.slice B0 (br.length + 1) d0, .slice B1 ab.length d1, .slice B2 eb.length d2, .int .i64 rb] 36)).alloc (.cells #[.int .i64 0, .int .i64 0, .int .i64 0, .int .i64 0] 40)).heap[w.heap.size + 1]? = some (.cells #[.slice B0 (br.length + 1) d0, .slice B1 ab.length d1, .slice B2 eb.length d2, .int .i64 rb] 36 (0, 0)) := three1 _ _ _ _
  have Hr0 : (((w.alloc (.cells #[.slice A0 (ar.length + 1) c0, .slice A1 aa.length c1, .slice A2 ea.length c2, .int .i64 ra] 36)).alloc (.cells #[.slice B0 (br.length + 1) d0, .slice B1 ab.length d1, .slice B2 eb.length d2, .int .i64 rb] 36)).alloc (.cells #[.int .i64 0, .int .i64 0, .int .i64 0, .int .i64 0] 40)).heap[w.heap.size + 2]? = some (.cells #[.int .i64 0, .int .i64 0, .int .i64 0, .int .i64 0] 40 (0, 0)) := three2 _ _ _ _
  have HW3 : Below w.heap.size w (((w.alloc (.cells #[.slice A0 (ar.length + 1) c0, .slice A1 aa.length c1, .slice A2 ea.length c2, .int .i64 ra] 36)).alloc (.cells #[.slice B0 (br.length + 1) d0, .slice B1 ab.length d1, .slice B2 eb.length d2, .int .i64 rb] 36)).alloc (.cells #[.int .i64 0, .int .i64 0, .int .i64 0, .int .i64 0] 40)) := (((Below.refl _ w).alloc (Nat.le_refl _) _).alloc (by simp) _).alloc (by simp; omega) _
  gi_wp2_with fail
  obtain ⟨w3, hw3⟩ : ∃ w3, ((w.alloc (.cells #[.slice A0 (ar.length + 1) c0, .slice A1 aa.length c1, .slice A2 ea.length c2, .int .i64 ra] 36)).alloc (.cells #[.slice B0 (br.length + 1) d0, .slice B1 ab.length d1, .slice B2 eb.length d2, .int .i64 rb] 36)).alloc (.cells #[.int .i64 0, .int .i64 0, .int .i64 0, .int .i64 0] 40) = w3 := ⟨_, rfl⟩
  rw [hw3] at Ha0 Hb0 Hr0 HW3 ⊢
  clear hw3
  refine ⟨trivial, ?_⟩
  refine ((callsIn_wide (n := n - 1)).2 (may_yes (a0 :: ar) aa ea ra A0 A1 A2 c0 c1 c2 w3 (hA0.out.1.below HW3) (hA1.out.1.below HW3) (hA2.out.1.below HW3) k0 k1 k2 false false false (by simp) ap aal eal ra1 ra2 pA xA eA)).mono ?_
  rintro e w4 ⟨rfl, hb4⟩
  have Ha4 := (hb4.block _ (blk_lt Ha0)).trans Ha0
  have Hb4 := (hb4.block _ (blk_lt Hb0)).trans Hb0
  have Hr4 := (hb4.block _ (blk_lt Hr0)).trans Hr0
  have HW4 := bthen HW3 hb4
  clear Ha0 Hb0 Hr0 HW3 hb4
  have x0 : w4.cell? ⟨w.heap.size + 1, 0, none⟩ = some (.slice B0 (br.length + 1) d0) := (blk_cell Hb4 0).trans rfl
  have x1 : w4.cell? ⟨w.heap.size + 1, 1, none⟩ = some (.slice B1 ab.length d1) := (blk_cell Hb4 1).trans rfl
  have x2 : w4.cell? ⟨w.heap.size + 1, 2, none⟩ = some (.slice B2 eb.length d2) := (blk_cell Hb4 2).trans rfl
  have x3 : w4.cell? ⟨w.heap.size + 1, 3, none⟩ = some (.int .i64 rb) := (blk_cell Hb4 3).trans rfl
  gi_wp2_with fail
  refine ⟨trivial, ?_⟩
  refine ((callsIn_wide (n := n - 1)).2 (may_yes (b0 :: br) ab eb rb B0 B1 B2 d0 d1 d2 w4 (hB0.out.1.below HW4) (hB1.out.1.below HW4) (hB2.out.1.below HW4) m0 m1 m2 false false false (by simp) bp abl ebl rb1 rb2 pB xB eB)).mono ?_
  rintro e w5 ⟨rfl, hb5⟩
  have Ha5 := (hb5.block _ (blk_lt Ha4)).trans Ha4
  have Hb5 := (hb5.block _ (blk_lt Hb4)).trans Hb4
  have Hr5 := (hb5.block _ (blk_lt Hr4)).trans Hr4
  have HW5 := bthen HW4 hb5
  clear Ha4 Hb4 Hr4 HW4 hb5 x0 x1 x2 x3
  have x0 : w5.cell? ⟨w.heap.size, 0, none⟩ = some (.slice A0 (ar.length + 1) c0) := (blk_cell Ha5 0).trans rfl
  have x1 : w5.cell? ⟨w.heap.size, 1, none⟩ = some (.slice A1 aa.length c1) := (blk_cell Ha5 1).trans rfl
  have x2 : w5.cell? ⟨w.heap.size, 2, none⟩ = some (.slice A2 ea.length c2) := (blk_cell Ha5 2).trans rfl
  have x3 : w5.cell? ⟨w.heap.size, 3, none⟩ = some (.int .i64 ra) := (blk_cell Ha5 3).trans rfl
  have y0 : w5.cell? ⟨w.heap.size + 1, 0, none⟩ = some (.slice B0 (br.length + 1) d0) := (blk_cell Hb5 0).trans rfl
  have y1 : w5.cell? ⟨w.heap.size + 1, 1, none⟩ = some (.slice B1 ab.length d1) := (blk_cell Hb5 1).trans rfl
  have y2 : w5.cell? ⟨w.heap.size + 1, 2, none⟩ = some (.slice B2 eb.length d2) := (blk_cell Hb5 2).trans rfl
  have y3 : w5.cell? ⟨w.heap.size + 1, 3, none⟩ = some (.int .i64 rb) := (blk_cell Hb5 3).trans rfl
  have e1 : IntKind.i64.wrap (-ra) = -ra := iw_id _ (by omega) (by omega)
  have e2 : IntKind.i64.wrap (-ra - rb) = -ra - rb := iw_id _ (by omega) (by omega)
  have za := blk_lt Ha5
  have zb := blk_lt Hb5
  have za' : w.heap.size < w5.heap.size + 1 := by omega
  have zb' : w.heap.size + 1 < w5.heap.size + 1 := by omega
  gi_wp2_with fail
  refine ⟨trivial, ?_⟩
  refine ((callsIn_wide (n := n - 1)).2 (ways_calls _ _ _ _ _ _ _ _ _)).mono ?_
  rintro e w6 ⟨rfl, hw6⟩
  have Ho6 : w6.heap[w5.heap.size]? = some (.cells #[.int .i64 0, .int .i64 0, .int .i64 1048576, .int .i64 (-ra - rb)] 40 (0, 0)) := by
    rw [hw6]; exact (Below.heap_alloc _ _ _ (by simp; omega)).trans (three0 _ _ _ _)
  have Hf6 : Boxed w6 (w5.heap.size + 1) 4 (.bool true) := by
    show w6.heap[_]? = _
    rw [hw6]; exact (Below.heap_alloc _ _ _ (by simp)).trans (three1 _ _ _ _)
  have Hc6 : w6.heap[w5.heap.size + 2]? = some (.cells #[.slice A0 (ar.length + 1) c0, .slice A1 aa.length c1, .slice A2 ea.length c2, .int .i64 ra] 36 (0, 0)) := by
    rw [hw6]; exact (Below.heap_alloc _ _ _ (by simp)).trans (three2 _ _ _ _)
  have Hd6 : w6.heap[w5.heap.size + 3]? = some (.cells #[.slice B0 (br.length + 1) d0, .slice B1 ab.length d1, .slice B2 eb.length d2, .int .i64 rb] 36 (0, 0)) := by
    rw [hw6]; have := three2 (w5.alloc (.cells #[.int .i64 0, .int .i64 0, .int .i64 1048576, .int .i64 (-ra - rb)] 40)) (.cells #[.bool true] 4) (.cells #[.slice A0 (ar.length + 1) c0, .slice A1 aa.length c1, .slice A2 ea.length c2, .int .i64 ra] 36) (.cells #[.slice B0 (br.length + 1) d0, .slice B1 ab.length d1, .slice B2 eb.length d2, .int .i64 rb] 36); rw [World.size_alloc] at this; exact this
  have hs6 : w6.heap.size = w5.heap.size + 4 := by rw [hw6]; simp
  have hb6 : Below w5.heap.size w5 w6 := by
    rw [hw6]; exact ((((Below.refl _ w5).alloc (Nat.le_refl _) _).alloc (by simp) _).alloc (by simp; omega) _).alloc (by simp; omega) _
  have Ha6 := (hb6.block _ (blk_lt Ha5)).trans Ha5
  have Hb6 := (hb6.block _ (blk_lt Hb5)).trans Hb5
  have Hr6 := (hb6.block _ (blk_lt Hr5)).trans Hr5
  have HW6 := bthen HW5 hb6
  have hws : w.heap.size + 2 < w5.heap.size := blk_lt Hr5
  have X0 : Hid (RdX w5.heap.size (w5.heap.size + 1) w6 A0 (a0 :: ar)) := ⟨hA0.out.1.below HW6, fun hne ad e => by have := hA0.out.2 hne ad e; omega⟩
  have X1 : Hid (RdX w5.heap.size (w5.heap.size + 1) w6 A1 aa) := ⟨hA1.out.1.below HW6, fun hne ad e => by have := hA1.out.2 hne ad e; omega⟩
  have X2 : Hid (RdX w5.heap.size (w5.heap.size + 1) w6 A2 ea) := ⟨hA2.out.1.below HW6, fun hne ad e => by have := hA2.out.2 hne ad e; omega⟩
  have Y0 : Hid (RdX w5.heap.size (w5.heap.size + 1) w6 B0 (b0 :: br)) := ⟨hB0.out.1.below HW6, fun hne ad e => by have := hB0.out.2 hne ad e; omega⟩
  have Y1 : Hid (RdX w5.heap.size (w5.heap.size + 1) w6 B1 ab) := ⟨hB1.out.1.below HW6, fun hne ad e => by have := hB1.out.2 hne ad e; omega⟩
  have Y2 : Hid (RdX w5.heap.size (w5.heap.size + 1) w6 B2 eb) := ⟨hB2.out.1.below HW6, fun hne ad e => by have := hB2.out.2 hne ad e; omega⟩
  have X0 : Hid (RdX w5.heap.size (w5.heap.size + 1) w6 A0 (a0 :: ar)) := ⟨hA0.out.1.below HW6, fun hne ad e => by have := hA0.out.2 hne ad e; omega⟩
  have X1 : Hid (RdX w5.heap.size (w5.heap.size + 1) w6 A1 aa) := ⟨hA1.out.1.below HW6, fun hne ad e => by have := hA1.out.2 hne ad e; omega⟩
  have X2 : Hid (RdX w5.heap.size (w5.heap.size + 1) w6 A2 ea) := ⟨hA2.out.1.below HW6, fun hne ad e => by have := hA2.out.2 hne ad e; omega⟩
  have Y0 : Hid (RdX w5.heap.size (w5.heap.size + 1) w6 B0 (b0 :: br)) := ⟨hB0.out.1.below HW6, fun hne ad e => by have := hB0.out.2 hne ad e; omega⟩
  have Y1 : Hid (RdX w5.heap.size (w5.heap.size + 1) w6 B1 ab) := ⟨hB1.out.1.below HW6, fun hne ad e => by have := hB1.out.2 hne ad e; omega⟩
  have Y2 : Hid (RdX w5.heap.size (w5.heap.size + 1) w6 B2 eb) := ⟨hB2.out.1.below HW6, fun hne ad e => by have := hB2.out.2 hne ad e; omega⟩
  clear hw6 hb6 Ha5 Hb5 Hr5 HW5 x0 x1 x2 x3 y0 y1 y2 y3 e1 e2
  gi_wp2_with fail
  refine wpIn_rangeFunc_ownH (Kp := KpX w5.heap.size (w5.heap.size + 1)) rfl h1 (gf := 115) (lb := #[.pointer (some ⟨w5.heap.size + 1 + 1, 0, none⟩), .pointer (some ⟨w5.heap.size + 1 + 1 + 1, 0, none⟩)]) rfl trivial (enters_of Try.func115 (by kernel_rfl) rfl)
    (ways_stops (n - 1) (by omega) w5.heap.size (w5.heap.size + 1) (w5.heap.size + 2) (w5.heap.size + 3) (a0 :: ar) aa ea (b0 :: br) ab eb A0 A1 A2 B0 B1 B2 c0 c1 c2 d0 d1 d2 ra rb w6 Hc6 Hd6 X0 X1 X2 Y0 Y1 Y2 (by omega) (by omega) (by omega) (by omega) (by simp; omega) (by simp; omega) (by omega) (by omega) (by omega) (by omega) (by omega) (by omega))
    KpX.trans (fun W l o o' _ hl ho _ => KpX.putObj hl ho) (Below.refl _ _) (fun _ => rfl)
    (fun pre W => ((W.heap[w5.heap.size]? = some (.cells #[.int .i64 (apF a0 ar ra b0 br rb pre).1.1.x, .int .i64 (apF a0 ar ra b0 br rb pre).1.1.y, .int .i64 (apF a0 ar ra b0 br rb pre).1.1.z, .int .i64 (apF a0 ar ra b0 br rb pre).1.2] 40 (0, 0)) ∧ Boxed W (w5.heap.size + 1) 4 (.bool (apF a0 ar ra b0 br rb pre).2)) ∧
      (W.heap[w.heap.size]? = some (.cells #[.slice A0 (ar.length + 1) c0, .slice A1 aa.length c1, .slice A2 ea.length c2, .int .i64 ra] 36 (0, 0)) ∧ W.heap[w.heap.size + 1]? = some (.cells #[.slice B0 (br.length + 1) d0, .slice B1 ab.length d1, .slice B2 eb.length d2, .int .i64 rb] 36 (0, 0)))) ∧
      (W.heap[w.heap.size + 2]? = some (.cells #[.int .i64 0, .int .i64 0, .int .i64 0, .int .i64 0] 40 (0, 0)) ∧ Below w.heap.size w W))
    (fun _ _ _ => False)
    (OwnFrom.and (OwnFrom.and (OwnFrom.and ((blk4_own _ (fun pre => #[.int .i64 (apF a0 ar ra b0 br rb pre).1.1.x, .int .i64 (apF a0 ar ra b0 br rb pre).1.1.y, .int .i64 (apF a0 ar ra b0 br rb pre).1.1.z, .int .i64 (apF a0 ar ra b0 br rb pre).1.2]) _).from _) ((boxed_own _ _ (fun pre => .bool (apF a0 ar ra b0 br rb pre).2)).from _)) (OwnFrom.and ((blk4_own _ _ _).from _) ((blk4_own _ _ _).from _))) (OwnFrom.and ((blk4_own _ _ _).from _) (ownFrom_below (Nat.le_refl _) (by omega))))
    (fun _ _ _ _ _ hs _ _ => hs)
    ⟨⟨⟨Ho6, Hf6⟩, Ha6, Hb6⟩, Hr6, HW6⟩
    (fun x a' W => ∃ Bx, w5.heap.size + 1 < Bx ∧ W.heap[Bx]? = some (.cells #[.int .i64 x.x, .int .i64 x.y, .int .i64 x.z] 23 (0, 0)) ∧ a' = { tmps := #[.agg #[.slice A0 (ar.length + 1) c0, .slice A1 aa.length c1, .slice A2 ea.length c2, .int .i64 ra], .agg #[.slice B0 (br.length + 1) d0, .slice B1 ab.length d1, .slice B2 eb.length d2, .int .i64 rb], .pointer (some ⟨w.heap.size, 0, none⟩), .pointer (some ⟨w.heap.size + 1, 0, none⟩), .pointer (some ⟨w.heap.size + 1 + 1, 0, none⟩), .bool false, .pointer (some ⟨w5.heap.size, 0, none⟩), .pointer (some ⟨w5.heap.size + 1, 0, none⟩), .pointer (some ⟨Bx, 0, none⟩), undef, undef, undef, undef, .agg #[.slice A0 (ar.length + 1) c0, .slice A1 aa.length c1, .slice A2 ea.length c2, .int .i64 ra], .bool true, .bool false, .bool false, .agg #[.slice B0 (br.length + 1) d0, .slice B1 ab.length d1, .slice B2 eb.length d2, .int .i64 rb], .bool true, .bool false, .bool false, undef, .agg #[.int .i64 0, .int .i64 0, .int .i64 1048576], .pointer (some ⟨w.heap.size, 3, none⟩), .int .i64 ra, .int .i64 (-ra), .pointer (some ⟨w.heap.size + 1, 3, none⟩), .int .i64 rb, .int .i64 (-ra - rb), .agg #[.int .i64 0, .int .i64 0, .int .i64 1048576, .int .i64 (-ra - rb)], .agg #[.slice A0 (ar.length + 1) c0, .slice A1 aa.length c1, .slice A2 ea.length c2, .int .i64 ra], .agg #[.slice B0 (br.length + 1) d0, .slice B1 ab.length d1, .slice B2 eb.length d2, .int .i64 rb], .func (.func 115) #[] #[.pointer (some ⟨w5.heap.size + 1 + 1, 0, none⟩), .pointer (some ⟨w5.heap.size + 1 + 1 + 1, 0, none⟩)], .agg #[.int .i64 x.x, .int .i64 x.y, .int .i64 x.z], undef, undef, undef, undef, undef, undef, undef, undef, undef, undef, undef, undef, undef, undef, undef, undef, undef, undef, undef, undef, undef, undef, undef, undef, undef, undef, undef, undef, undef, undef, undef, undef, undef, undef], defers := [] })
    (fun x a' _ X Y row hs hg hr => by obtain ⟨Bx, h1, h2, h3⟩ := hs; exact ⟨Bx, h1, blk4_own Bx (fun (_ : Unit) => #[.int .i64 x.x, .int .i64 x.y, .int .i64 x.z]) 23 () X Y row h2 hg (fun r e => (hr r e).2), h3⟩)
    ?assign ?body ?done ?stop
  case assign =>
    rintro l pre ⟨xx, xy, xz⟩ W K ⟨⟨⟨I1, I2⟩, I3, I4⟩, I5, I6⟩ hK
    have i1 : w5.heap.size + 1 < W.heap.size := blk_lt I2
    simp only [enc3]
    gi_wp2
    exact hK _ _ ((KeepsOthers.alloc _ _).from _) (KpX.of_below ((Below.refl _ W).alloc (Nat.le_refl _) _)) ⟨⟨⟨(Below.heap_alloc _ _ _ (by omega)).trans I1, I2.alloc _⟩, (Below.heap_alloc _ _ _ (by omega)).trans I3, (Below.heap_alloc _ _ _ (by omega)).trans I4⟩, (Below.heap_alloc _ _ _ (by omega)).trans I5, I6.alloc I6.size _⟩ ⟨W.heap.size, i1, World.alloc_heap_new W _, rfl⟩
  case body =>
    rintro l pre ⟨xx, xy, xz⟩ a' W hl ⟨r, hr⟩ ⟨⟨⟨I1, I2⟩, I3, I4⟩, I5, I6⟩ ⟨Bx, hBx, I7, rfl⟩ hlt
    dsimp only at I7
    have u0 : W.cell? ⟨Bx, 0, none⟩ = some (.int .i64 xx) := (blk_cell I7 0).trans rfl
    have u1 : W.cell? ⟨Bx, 1, none⟩ = some (.int .i64 xy) := (blk_cell I7 1).trans rfl
    have u2 : W.cell? ⟨Bx, 2, none⟩ = some (.int .i64 xz) := (blk_cell I7 2).trans rfl
    have HS := Lh (apF_snoc a0 ar ra b0 br rb pre ⟨xx, xy, xz⟩)
    obtain ⟨S, hS⟩ : ∃ S, apF a0 ar ra b0 br rb pre = S := ⟨_, rfl⟩
    rw [hS] at I1 I2 HS
    obtain ⟨S', hS'⟩ : ∃ S', apF a0 ar ra b0 br rb (pre ++ [⟨xx, xy, xz⟩]) = S' := ⟨_, rfl⟩
    rw [hS'] at HS
    have hSS := Lh hS'
    clear hS hS'
    obtain ⟨⟨⟨ox, oy, oz⟩, og⟩, first⟩ := S
    dsimp only at I1 I2
    gi_wp2_with fail
    refine ⟨trivial, fun h => (by cases h), ?_⟩
    refine (CallsIn.inRound l ((callsIn_wide (n := n - 1 - 1 - 1)).2 (lengthen_calls xx xy xz (decide (long3 ⟨xx, xy, xz⟩ ≠ ⟨0, 0, 0⟩)) W rfl))).mono ?_
    rintro e Wa ⟨rfl, hba⟩
    have i0 := blk_lt I5
    have J1 := (hba.block _ (blk_lt I1)).trans I1
    have J2 : Boxed Wa (w5.heap.size + 1) 4 (.bool first) := (hba.block _ (blk_lt I2)).trans I2
    have J3 := (hba.block _ (blk_lt I3)).trans I3
    have J4 := (hba.block _ (blk_lt I4)).trans I4
    have J5 := (hba.block _ (blk_lt I5)).trans I5
    have J6 := bthen I6 hba
    have KF : KeepsFrom w6.heap.size W Wa := ⟨hba.size, fun k o _ hk _ => (hba.block k (blk_lt hk)).trans hk⟩
    have KX : KpX w5.heap.size (w5.heap.size + 1) W Wa := KpX.of_below hba
    clear I1 I2 I3 I4 I5 I6 I7 u0 u1 u2 hba
    obtain ⟨nv, hnv⟩ : ∃ v, long3 ⟨xx, xy, xz⟩ = v := ⟨_, rfl⟩
    have hin : in3 1048576 nv := by rw [← hnv]; exact long3_in _
    have HS2 : Hid (S' = if nv = ⟨0, 0, 0⟩ then ((⟨ox, oy, oz⟩, og), first) else
        (if (if first = true ∨ og < (gapsF nv a0 ar ra b0 br rb).1 then (nv, (gapsF nv a0 ar ra b0 br rb).1) else (⟨ox, oy, oz⟩, og)).2 < (gapsF nv a0 ar ra b0 br rb).2 then (minus3 ⟨0, 0, 0⟩ nv, (gapsF nv a0 ar ra b0 br rb).2) else (if first = true ∨ og < (gapsF nv a0 ar ra b0 br rb).1 then (nv, (gapsF nv a0 ar ra b0 br rb).1) else (⟨ox, oy, oz⟩, og)), false)) := by
      show S' = _
      rw [HS.out]; unfold apStep; rw [hnv]
    rw [hnv]
    clear HS hnv
    have FIN : Hid (∀ (Wz : World) (px py pz g : Int) (f : Bool), S' = ((⟨px, py, pz⟩, g), f) → KeepsFrom w6.heap.size W Wz → KpX w5.heap.size (w5.heap.size + 1) W Wz →
        Wz.heap[w5.heap.size]? = some (.cells #[.int .i64 px, .int .i64 py, .int .i64 pz, .int .i64 g] 40 (0, 0)) → Boxed Wz (w5.heap.size + 1) 4 (.bool f) →
        Wz.heap[w.heap.size]? = some (.cells #[.slice A0 (ar.length + 1) c0, .slice A1 aa.length c1, .slice A2 ea.length c2, .int .i64 ra] 36 (0, 0)) → Wz.heap[w.heap.size + 1]? = some (.cells #[.slice B0 (br.length + 1) d0, .slice B1 ab.length d1, .slice B2 eb.length d2, .int .i64 rb] 36 (0, 0)) →
        Wz.heap[w.heap.size + 2]? = some (.cells #[.int .i64 0, .int .i64 0, .int .i64 0, .int .i64 0] 40 (0, 0)) → Below w.heap.size w Wz →
        KeepsFrom w6.heap.size W Wz ∧ KpX w5.heap.size (w5.heap.size + 1) W Wz ∧ (((Wz.heap[w5.heap.size]? = some (.cells #[.int .i64 (apF a0 ar ra b0 br rb (pre ++ [⟨xx, xy, xz⟩])).1.1.x, .int .i64 (apF a0 ar ra b0 br rb (pre ++ [⟨xx, xy, xz⟩])).1.1.y, .int .i64 (apF a0 ar ra b0 br rb (pre ++ [⟨xx, xy, xz⟩])).1.1.z, .int .i64 (apF a0 ar ra b0 br rb (pre ++ [⟨xx, xy, xz⟩])).1.2] 40 (0, 0)) ∧ Boxed Wz (w5.heap.size + 1) 4 (.bool (apF a0 ar ra b0 br rb (pre ++ [⟨xx, xy, xz⟩])).2)) ∧
      (Wz.heap[w.heap.size]? = some (.cells #[.slice A0 (ar.length + 1) c0, .slice A1 aa.length c1, .slice A2 ea.length c2, .int .i64 ra] 36 (0, 0)) ∧ Wz.heap[w.heap.size + 1]? = some (.cells #[.slice B0 (br.length + 1) d0, .slice B1 ab.length d1, .slice B2 eb.length d2, .int .i64 rb] 36 (0, 0)))) ∧
      (Wz.heap[w.heap.size + 2]? = some (.cells #[.int .i64 0, .int .i64 0, .int .i64 0, .int .i64 0] 40 (0, 0)) ∧ Below w.heap.size w Wz))) := by
      intro Wz px py pz g f hs a1 a2 a3 a4 a5 a6 a7 a8
      rw [hSS.out, hs]
      exact ⟨a1, a2, ⟨⟨a3, a4⟩, a5, a6⟩, a7, a8⟩
    clear hSS
    by_cases hz : nv = ⟨0, 0, 0⟩
    · have hS' : S' = ((⟨ox, oy, oz⟩, og), first) := by rw [HS2.out, if_pos hz]
      have hd : decide (nv ≠ ⟨0, 0, 0⟩) = false := by simpa using hz
      rw [hd]
      have HS' := Lh hS'
      clear hd HS2 hz hin hS'
      obtain ⟨nx, ny, nz⟩ := nv
      dsimp only
      gi_wp2
      refine FIN.out _ _ _ _ _ _ HS'.out (KF.trans ((KeepsOthers.alloc _ _).from _)) (KX.trans (KpX.of_below ((Below.refl _ _).alloc (Nat.le_refl _) _))) ?_ (J2.alloc _) ?_ ?_ ?_ (J6.alloc J6.size _)
      · exact (Below.heap_alloc _ _ _ (blk_lt J1)).trans J1
      · exact (Below.heap_alloc _ _ _ (blk_lt J3)).trans J3
      · exact (Below.heap_alloc _ _ _ (blk_lt J4)).trans J4
      · exact (Below.heap_alloc _ _ _ (blk_lt J5)).trans J5
    · have hd : decide (nv ≠ ⟨0, 0, 0⟩) = true := by simpa using hz
      rw [hd]
      obtain ⟨⟨g1, g2⟩, hg⟩ : ∃ g, gapsF nv a0 ar ra b0 br rb = g := ⟨_, rfl⟩
      have HS3 : Hid (S' = (if (if first = true ∨ og < g1 then (nv, g1) else (⟨ox, oy, oz⟩, og)).2 < g2 then (minus3 ⟨0, 0, 0⟩ nv, g2) else (if first = true ∨ og < g1 then (nv, g1) else (⟨ox, oy, oz⟩, og)), false)) := by
        show S' = _
        rw [HS2.out, if_neg hz, hg]
      clear hd HS2
      have p0 : Wa.cell? ⟨w.heap.size, 0, none⟩ = some (.slice A0 (ar.length + 1) c0) := (blk_cell J3 0).trans rfl
      have p1 : Wa.cell? ⟨w.heap.size, 1, none⟩ = some (.slice A1 aa.length c1) := (blk_cell J3 1).trans rfl
      have p2 : Wa.cell? ⟨w.heap.size, 2, none⟩ = some (.slice A2 ea.length c2) := (blk_cell J3 2).trans rfl
      have p3 : Wa.cell? ⟨w.heap.size, 3, none⟩ = some (.int .i64 ra) := (blk_cell J3 3).trans rfl
      have q0 : Wa.cell? ⟨w.heap.size + 1, 0, none⟩ = some (.slice B0 (br.length + 1) d0) := (blk_cell J4 0).trans rfl
      have q1 : Wa.cell? ⟨w.heap.size + 1, 1, none⟩ = some (.slice B1 ab.length d1) := (blk_cell J4 1).trans rfl
      have q2 : Wa.cell? ⟨w.heap.size + 1, 2, none⟩ = some (.slice B2 eb.length d2) := (blk_cell J4 2).trans rfl
      have q3 : Wa.cell? ⟨w.heap.size + 1, 3, none⟩ = some (.int .i64 rb) := (blk_cell J4 3).trans rfl
      have l3 := blk_lt J3
      have l4 := blk_lt J4
      obtain ⟨nx, ny, nz⟩ := nv
      dsimp only
      gi_wp2_with fail
      obtain ⟨Wb, hWb⟩ : ∃ Wb, Wa.alloc (.cells #[.int .i64 nx, .int .i64 ny, .int .i64 nz] 23) = Wb := ⟨_, rfl⟩
      have hbb : Below Wa.heap.size Wa Wb := by rw [← hWb]; exact (Below.refl _ _).alloc (Nat.le_refl _) _
      have hnb : Wb.heap[Wa.heap.size]? = some (.cells #[.int .i64 nx, .int .i64 ny, .int .i64 nz] 23 (0, 0)) := by rw [← hWb]; exact World.alloc_heap_new _ _
      rw [hWb]
      have HWb := bthen J6 hbb
      have allin : ∀ (l : List P3), l.any (far3 16777216) = false → ∀ p ∈ l, in3 16777216 p := fun l h p hp => by
        refine (far3_iff _ _ (by decide) (by decide)).1 ?_
        simp only [List.any_eq_false] at h
        simpa using h p hp
      refine ⟨trivial, fun h => (by cases h), ?_⟩
      refine (CallsIn.inRound l ((callsIn_wide (n := n - 1 - 1 - 1)).2 (gaps_calls a0 ar b0 br A0 A1 A2 B0 B1 B2 c0 _ c1 _ c2 d0 _ d1 _ d2 ra rb nx ny nz Wb (hA0.out.1.below HWb) (hB0.out.1.below HWb) k0 m0 (by omega) (by omega) hin hz (allin _ pA) (allin _ pB) ra1 (by omega) rb1 (by omega)))).mono ?_
      rw [hg]
      rintro e Wc ⟨rfl, hbc⟩
      have hac := bthen hbb hbc
      have K1 := (hac.block _ (blk_lt J1)).trans J1
      have K2 : Boxed Wc (w5.heap.size + 1) 4 (.bool first) := (hac.block _ (blk_lt J2)).trans J2
      have K3 := (hac.block _ (blk_lt J3)).trans J3
      have K4 := (hac.block _ (blk_lt J4)).trans J4
      have K5 := (hac.block _ (blk_lt J5)).trans J5
      have K6 := bthen J6 hac
      have Kn := (hbc.block _ (blk_lt hnb)).trans hnb
      have KFc : KeepsFrom w6.heap.size W Wc := KF.trans ⟨hac.size, fun k o _ hk _ => (hac.block k (blk_lt hk)).trans hk⟩
      have KXc : KpX w5.heap.size (w5.heap.size + 1) W Wc := KX.trans (KpX.of_below hac)
      have hbo := blk_lt K1
      have hsw := K6.size
      have i5 := blk_lt K5
      have nn0 : w5.heap.size ≠ Wa.heap.size := by have := blk_lt J1; omega
      have nn1 : w5.heap.size + 1 ≠ Wa.heap.size := by have := blk_lt J2; omega
      clear J1 J2 J3 J4 J5 J6 KF KX hbb hbc hnb hWb HWb hac p0 p1 p2 p3 q0 q1 q2 q3 l3 l4 allin hin hz hg
      have n0 : Wc.cell? ⟨Wa.heap.size, 0, none⟩ = some (.int .i64 nx) := (blk_cell Kn 0).trans rfl
      have n1 : Wc.cell? ⟨Wa.heap.size, 1, none⟩ = some (.int .i64 ny) := (blk_cell Kn 1).trans rfl
      have n2 : Wc.cell? ⟨Wa.heap.size, 2, none⟩ = some (.int .i64 nz) := (blk_cell Kn 2).trans rfl
      have bx0 : Wc.cell? ⟨w5.heap.size + 1, 0, none⟩ = some (.bool first) := K2.cell
      have bx1 : Wc.frozen? ⟨w5.heap.size + 1, 0, none⟩ = false := K2.frozen
      have o0 : Wc.cell? ⟨w5.heap.size, 0, none⟩ = some (.int .i64 ox) := (blk_cell K1 0).trans rfl
      have o1 : Wc.cell? ⟨w5.heap.size, 1, none⟩ = some (.int .i64 oy) := (blk_cell K1 1).trans rfl
      have o2 : Wc.cell? ⟨w5.heap.size, 2, none⟩ = some (.int .i64 oz) := (blk_cell K1 2).trans rfl
      have o3 : Wc.cell? ⟨w5.heap.size, 3, none⟩ = some (.int .i64 og) := (blk_cell K1 3).trans rfl
      have f0 : Wc.frozen? ⟨w5.heap.size, 0, none⟩ = false := blk_frozen K1 0
      have f1 : Wc.frozen? ⟨w5.heap.size, 1, none⟩ = false := blk_frozen K1 1
      have f2 : Wc.frozen? ⟨w5.heap.size, 2, none⟩ = false := blk_frozen K1 2
      have f3 : Wc.frozen? ⟨w5.heap.size, 3, none⟩ = false := blk_frozen K1 3
      by_cases hf : first = true ∨ og < g1
      · -- the way is better (or the first)
        rw [if_pos hf] at HS3
        dsimp only at HS3
        obtain ⟨V, hV⟩ : ∃ V, set4 Wc w5.heap.size (.int .i64 nx) (.int .i64 ny) (.int .i64 nz) (.int .i64 g1) = V := ⟨_, rfl⟩
        have L1 : V.heap[w5.heap.size]? = some (.cells #[.int .i64 nx, .int .i64 ny, .int .i64 nz, .int .i64 g1] 40 (0, 0)) := by rw [← hV]; exact blk4_set K1 _ _ _ _
        have L2 : Boxed V (w5.heap.size + 1) 4 (.bool first) := by show V.heap[_]? = _; rw [← hV]; exact (heap_set4 _ _ _ (by omega) _ _ _ _).trans K2
        have L3 := (show V.heap[w.heap.size]? = _ by rw [← hV]; exact heap_set4 _ _ _ (by omega) _ _ _ _).trans K3
        have L4 := (show V.heap[w.heap.size + 1]? = _ by rw [← hV]; exact heap_set4 _ _ _ (by omega) _ _ _ _).trans K4
        have L5 := (show V.heap[w.heap.size + 2]? = _ by rw [← hV]; exact heap_set4 _ _ _ (by omega) _ _ _ _).trans K5
        have L6 : Below w.heap.size w V := by rw [← hV]; exact below_set4 K6 (by omega) _ _ _ _
        have Ln := (show V.heap[Wa.heap.size]? = _ by rw [← hV]; exact heap_set4 _ _ _ (by omega) _ _ _ _).trans Kn
        have LKF : KeepsFrom w6.heap.size W V := by rw [← hV]; exact KFc.trans ((keeps_set4 _ _ _ _ _ _).from _)
        have LKX : KpX w5.heap.size (w5.heap.size + 1) W V := by rw [← hV]; exact KXc.trans (KpX.set4 _ _ _ _ _)
        have b2 : V.cell? ⟨w5.heap.size + 1, 0, none⟩ = some (.bool first) := L2.cell
        have b3 : V.frozen? ⟨w5.heap.size + 1, 0, none⟩ = false := L2.frozen
        clear K1 K2 K3 K4 K5 K6 Kn KFc KXc
        obtain ⟨V2, hV2⟩ : ∃ V2, V.setCell ⟨w5.heap.size + 1, 0, none⟩ (.bool false) = V2 := ⟨_, rfl⟩
        have M1 : V2.heap[w5.heap.size]? = some (.cells #[.int .i64 nx, .int .i64 ny, .int .i64 nz, .int .i64 g1] 40 (0, 0)) := by rw [← hV2]; exact (Below.heap_setCell _ _ _ _ (by simp)).trans L1
        have M2 : Boxed V2 (w5.heap.size + 1) 4 (.bool false) := by rw [← hV2]; exact L2.set _
        have M3 := (show V2.heap[w.heap.size]? = _ by rw [← hV2]; exact (Below.heap_setCell _ _ _ _ (by simp; omega))).trans L3
        have M4 := (show V2.heap[w.heap.size + 1]? = _ by rw [← hV2]; exact (Below.heap_setCell _ _ _ _ (by simp; omega))).trans L4
        have M5 := (show V2.heap[w.heap.size + 2]? = _ by rw [← hV2]; exact (Below.heap_setCell _ _ _ _ (by simp; omega))).trans L5
        have M6 : Below w.heap.size w V2 := by rw [← hV2]; exact L6.setCell (p := ⟨w5.heap.size + 1, 0, none⟩) (by simp; omega) _
        have Mn := (show V2.heap[Wa.heap.size]? = _ by rw [← hV2]; exact (Below.heap_setCell _ _ _ _ (by simp; omega))).trans Ln
        have MKF : KeepsFrom w6.heap.size W V2 := by rw [← hV2]; exact LKF.trans ((KeepsOthers.setCell _ _ _).from _)
        have MKX : KpX w5.heap.size (w5.heap.size + 1) W V2 := by rw [← hV2]; exact LKX.trans (KpX.setf _ _ _)
        have r0 : V2.cell? ⟨Wa.heap.size, 0, none⟩ = some (.int .i64 nx) := (blk_cell Mn 0).trans rfl
        have r1 : V2.cell? ⟨Wa.heap.size, 1, none⟩ = some (.int .i64 ny) := (blk_cell Mn 1).trans rfl
        have r2 : V2.cell? ⟨Wa.heap.size, 2, none⟩ = some (.int .i64 nz) := (blk_cell Mn 2).trans rfl
        have r3 : V2.cell? ⟨w5.heap.size, 3, none⟩ = some (.int .i64 g1) := (blk_cell M1 3).trans rfl
        clear L1 L2 L3 L4 L5 L6 Ln LKF LKX
        cases first with
        | true =>
          by_cases h2 : g1 < g2
          · have hd2 : decide (g1 < g2) = true := by simpa using h2
            rw [if_pos h2] at HS3
            have HS4 := Lh HS3
            clear HS3
            gi_wp2_with fail
            refine ⟨trivial, fun h => (by cases h), ?_⟩
            refine (CallsIn.inRound l ((callsIn_wide (n := n - 1 - 1 - 1)).2 (minus_calls 0 0 0 nx ny nz _))).mono ?_
            rintro e Vd ⟨rfl, hbd⟩
            obtain ⟨⟨tx, ty, tz⟩, hmn⟩ : ∃ t, minus3 ⟨0, 0, 0⟩ ⟨nx, ny, nz⟩ = t := ⟨_, rfl⟩
            rw [hmn]
            have HS5 : Hid (S' = ((⟨tx, ty, tz⟩, g2), false)) := by show S' = _; rw [HS4.out, hmn]
            clear HS4 hmn
            have N1 := (hbd.block _ (blk_lt M1)).trans M1
            have N2 : Boxed Vd (w5.heap.size + 1) 4 (.bool false) := (hbd.block _ (blk_lt M2)).trans M2
            have N3 := (hbd.block _ (blk_lt M3)).trans M3
            have N4 := (hbd.block _ (blk_lt M4)).trans M4
            have N5 := (hbd.block _ (blk_lt M5)).trans M5
            have N6 := bthen M6 hbd
            have NKF : KeepsFrom w6.heap.size W Vd := MKF.trans ⟨hbd.size, fun k o _ hk _ => (hbd.block k (blk_lt hk)).trans hk⟩
            have NKX : KpX w5.heap.size (w5.heap.size + 1) W Vd := MKX.trans (KpX.of_below hbd)
            clear r0 r1 r2 r3 M1 M2 M3 M4 M5 M6 Mn MKF MKX hbd hV2
            have s0 : Vd.cell? ⟨w5.heap.size, 0, none⟩ = some (.int .i64 nx) := (blk_cell N1 0).trans rfl
            have s1 : Vd.cell? ⟨w5.heap.size, 1, none⟩ = some (.int .i64 ny) := (blk_cell N1 1).trans rfl
            have s2 : Vd.cell? ⟨w5.heap.size, 2, none⟩ = some (.int .i64 nz) := (blk_cell N1 2).trans rfl
            have s3 : Vd.cell? ⟨w5.heap.size, 3, none⟩ = some (.int .i64 g1) := (blk_cell N1 3).trans rfl
            have q0 : Vd.frozen? ⟨w5.heap.size, 0, none⟩ = false := blk_frozen N1 0
            have q1 : Vd.frozen? ⟨w5.heap.size, 1, none⟩ = false := blk_frozen N1 1
            have q2 : Vd.frozen? ⟨w5.heap.size, 2, none⟩ = false := blk_frozen N1 2
            have q3 : Vd.frozen? ⟨w5.heap.size, 3, none⟩ = false := blk_frozen N1 3
            obtain ⟨V4, hV4⟩ : ∃ V4, set4 Vd w5.heap.size (.int .i64 tx) (.int .i64 ty) (.int .i64 tz) (.int .i64 g2) = V4 := ⟨_, rfl⟩
            gi_wp2
            (try rw [hV4])
            have P3 := (show V4.heap[w.heap.size]? = _ by rw [← hV4]; exact heap_set4 _ _ _ (by omega) _ _ _ _).trans N3
            have P4 := (show V4.heap[w.heap.size + 1]? = _ by rw [← hV4]; exact heap_set4 _ _ _ (by omega) _ _ _ _).trans N4
            have P5 := (show V4.heap[w.heap.size + 2]? = _ by rw [← hV4]; exact heap_set4 _ _ _ (by omega) _ _ _ _).trans N5
            exact FIN.out V4 _ _ _ _ _ HS5.out (by rw [← hV4]; exact NKF.trans ((keeps_set4 _ _ _ _ _ _).from _)) (by rw [← hV4]; exact NKX.trans (KpX.set4 _ _ _ _ _)) (by rw [← hV4]; exact blk4_set N1 _ _ _ _) (by show V4.heap[_]? = _; rw [← hV4]; exact (heap_set4 _ _ _ (by omega) _ _ _ _).trans N2) P3 P4 P5 (by rw [← hV4]; exact below_set4 N6 (by omega) _ _ _ _)
          · have hd2 : decide (g1 < g2) = false := by simpa using h2
            rw [if_neg h2] at HS3
            have HS4 := Lh HS3
            clear HS3
            gi_wp2
            exact FIN.out V2 _ _ _ _ _ HS4.out MKF MKX M1 M2 M3 M4 M5 M6
        | false =>
          have hd1 : decide (og < g1) = true := by simpa using hf
          by_cases h2 : g1 < g2
          · have hd2 : decide (g1 < g2) = true := by simpa using h2
            rw [if_pos h2] at HS3
            have HS4 := Lh HS3
            clear HS3
            gi_wp2_with fail
            refine ⟨trivial, fun h => (by cases h), ?_⟩
            refine (CallsIn.inRound l ((callsIn_wide (n := n - 1 - 1 - 1)).2 (minus_calls 0 0 0 nx ny nz _))).mono ?_
            rintro e Vd ⟨rfl, hbd⟩
            obtain ⟨⟨tx, ty, tz⟩, hmn⟩ : ∃ t, minus3 ⟨0, 0, 0⟩ ⟨nx, ny, nz⟩ = t := ⟨_, rfl⟩
            rw [hmn]
            have HS5 : Hid (S' = ((⟨tx, ty, tz⟩, g2), false)) := by show S' = _; rw [HS4.out, hmn]
            clear HS4 hmn
            have N1 := (hbd.block _ (blk_lt M1)).trans M1
            have N2 : Boxed Vd (w5.heap.size + 1) 4 (.bool false) := (hbd.block _ (blk_lt M2)).trans M2
            have N3 := (hbd.block _ (blk_lt M3)).trans M3
            have N4 := (hbd.block _ (blk_lt M4)).trans M4
            have N5 := (hbd.block _ (blk_lt M5)).trans M5
            have N6 := bthen M6 hbd
            have NKF : KeepsFrom w6.heap.size W Vd := MKF.trans ⟨hbd.size, fun k o _ hk _ => (hbd.block k (blk_lt hk)).trans hk⟩
            have NKX : KpX w5.heap.size (w5.heap.size + 1) W Vd := MKX.trans (KpX.of_below hbd)
            clear r0 r1 r2 r3 M1 M2 M3 M4 M5 M6 Mn MKF MKX hbd hV2
            have s0 : Vd.cell? ⟨w5.heap.size, 0, none⟩ = some (.int .i64 nx) := (blk_cell N1 0).trans rfl
            have s1 : Vd.cell? ⟨w5.heap.size, 1, none⟩ = some (.int .i64 ny) := (blk_cell N1 1).trans rfl
            have s2 : Vd.cell? ⟨w5.heap.size, 2, none⟩ = some (.int .i64 nz) := (blk_cell N1 2).trans rfl
            have s3 : Vd.cell? ⟨w5.heap.size, 3, none⟩ = some (.int .i64 g1) := (blk_cell N1 3).trans rfl
            have q0 : Vd.frozen? ⟨w5.heap.size, 0, none⟩ = false := blk_frozen N1 0
            have q1 : Vd.frozen? ⟨w5.heap.size, 1, none⟩ = false := blk_frozen N1 1
            have q2 : Vd.frozen? ⟨w5.heap.size, 2, none⟩ = false := blk_frozen N1 2
            have q3 : Vd.frozen? ⟨w5.heap.size, 3, none⟩ = false := blk_frozen N1 3
            obtain ⟨V4, hV4⟩ : ∃ V4, set4 Vd w5.heap.size (.int .i64 tx) (.int .i64 ty) (.int .i64 tz) (.int .i64 g2) = V4 := ⟨_, rfl⟩
            gi_wp2
            (try rw [hV4])
            have P3 := (show V4.heap[w.heap.size]? = _ by rw [← hV4]; exact heap_set4 _ _ _ (by omega) _ _ _ _).trans N3
            have P4 := (show V4.heap[w.heap.size + 1]? = _ by rw [← hV4]; exact heap_set4 _ _ _ (by omega) _ _ _ _).trans N4
            have P5 := (show V4.heap[w.heap.size + 2]? = _ by rw [← hV4]; exact heap_set4 _ _ _ (by omega) _ _ _ _).trans N5
            exact FIN.out V4 _ _ _ _ _ HS5.out (by rw [← hV4]; exact NKF.trans ((keeps_set4 _ _ _ _ _ _).from _)) (by rw [← hV4]; exact NKX.trans (KpX.set4 _ _ _ _ _)) (by rw [← hV4]; exact blk4_set N1 _ _ _ _) (by show V4.heap[_]? = _; rw [← hV4]; exact (heap_set4 _ _ _ (by omega) _ _ _ _).trans N2) P3 P4 P5 (by rw [← hV4]; exact below_set4 N6 (by omega) _ _ _ _)
          · have hd2 : decide (g1 < g2) = false := by simpa using h2
            rw [if_neg h2] at HS3
            have HS4 := Lh HS3
            clear HS3
            gi_wp2
            exact FIN.out V2 _ _ _ _ _ HS4.out MKF MKX M1 M2 M3 M4 M5 M6
      · obtain rfl : first = false := by simpa using fun e => hf (.inl e)
        have hd1 : decide (og < g1) = false := by simpa using fun e => hf (.inr e)
        rw [if_neg hf] at HS3
        dsimp only at HS3
        obtain ⟨V2, hV2⟩ : ∃ V2, Wc.setCell ⟨w5.heap.size + 1, 0, none⟩ (.bool false) = V2 := ⟨_, rfl⟩
        have M1 : V2.heap[w5.heap.size]? = some (.cells #[.int .i64 ox, .int .i64 oy, .int .i64 oz, .int .i64 og] 40 (0, 0)) := by rw [← hV2]; exact (Below.heap_setCell _ _ _ _ (by simp)).trans K1
        have M2 : Boxed V2 (w5.heap.size + 1) 4 (.bool false) := by rw [← hV2]; exact K2.set _
        have M3 := (show V2.heap[w.heap.size]? = _ by rw [← hV2]; exact (Below.heap_setCell _ _ _ _ (by simp; omega))).trans K3
        have M4 := (show V2.heap[w.heap.size + 1]? = _ by rw [← hV2]; exact (Below.heap_setCell _ _ _ _ (by simp; omega))).trans K4
        have M5 := (show V2.heap[w.heap.size + 2]? = _ by rw [← hV2]; exact (Below.heap_setCell _ _ _ _ (by simp; omega))).trans K5
        have M6 : Below w.heap.size w V2 := by rw [← hV2]; exact K6.setCell (p := ⟨w5.heap.size + 1, 0, none⟩) (by simp; omega) _
        have Mn := (show V2.heap[Wa.heap.size]? = _ by rw [← hV2]; exact (Below.heap_setCell _ _ _ _ (by simp; omega))).trans Kn
        have MKF : KeepsFrom w6.heap.size W V2 := by rw [← hV2]; exact KFc.trans ((KeepsOthers.setCell _ _ _).from _)
        have MKX : KpX w5.heap.size (w5.heap.size + 1) W V2 := by rw [← hV2]; exact KXc.trans (KpX.setf _ _ _)
        have r0 : V2.cell? ⟨Wa.heap.size, 0, none⟩ = some (.int .i64 nx) := (blk_cell Mn 0).trans rfl
        have r1 : V2.cell? ⟨Wa.heap.size, 1, none⟩ = some (.int .i64 ny) := (blk_cell Mn 1).trans rfl
        have r2 : V2.cell? ⟨Wa.heap.size, 2, none⟩ = some (.int .i64 nz) := (blk_cell Mn 2).trans rfl
        have r3 : V2.cell? ⟨w5.heap.size, 3, none⟩ = some (.int .i64 og) := (blk_cell M1 3).trans rfl
        clear K1 K2 K3 K4 K5 K6 Kn KFc KXc
        by_cases h2 : og < g2
        · have hd2 : decide (og < g2) = true := by simpa using h2
          rw [if_pos h2] at HS3
          have HS4 := Lh HS3
          clear HS3
          gi_wp2_with fail
          refine ⟨trivial, fun h => (by cases h), ?_⟩
          refine (CallsIn.inRound l ((callsIn_wide (n := n - 1 - 1 - 1)).2 (minus_calls 0 0 0 nx ny nz _))).mono ?_
          rintro e Vd ⟨rfl, hbd⟩
          obtain ⟨⟨tx, ty, tz⟩, hmn⟩ : ∃ t, minus3 ⟨0, 0, 0⟩ ⟨nx, ny, nz⟩ = t := ⟨_, rfl⟩
          rw [hmn]
          have HS5 : Hid (S' = ((⟨tx, ty, tz⟩, g2), false)) := by show S' = _; rw [HS4.out, hmn]
          clear HS4 hmn
          have N1 := (hbd.block _ (blk_lt M1)).trans M1
          have N2 : Boxed Vd (w5.heap.size + 1) 4 (.bool false) := (hbd.block _ (blk_lt M2)).trans M2
          have N3 := (hbd.block _ (blk_lt M3)).trans M3
          have N4 := (hbd.block _ (blk_lt M4)).trans M4
          have N5 := (hbd.block _ (blk_lt M5)).trans M5
          have N6 := bthen M6 hbd
          have NKF : KeepsFrom w6.heap.size W Vd := MKF.trans ⟨hbd.size, fun k o _ hk _ => (hbd.block k (blk_lt hk)).trans hk⟩
          have NKX : KpX w5.heap.size (w5.heap.size + 1) W Vd := MKX.trans (KpX.of_below hbd)
          clear r0 r1 r2 r3 M1 M2 M3 M4 M5 M6 Mn MKF MKX hbd hV2
          have s0 : Vd.cell? ⟨w5.heap.size, 0, none⟩ = some (.int .i64 ox) := (blk_cell N1 0).trans rfl
          have s1 : Vd.cell? ⟨w5.heap.size, 1, none⟩ = some (.int .i64 oy) := (blk_cell N1 1).trans rfl
          have s2 : Vd.cell? ⟨w5.heap.size, 2, none⟩ = some (.int .i64 oz) := (blk_cell N1 2).trans rfl
          have s3 : Vd.cell? ⟨w5.heap.size, 3, none⟩ = some (.int .i64 og) := (blk_cell N1 3).trans rfl
          have q0 : Vd.frozen? ⟨w5.heap.size, 0, none⟩ = false := blk_frozen N1 0
          have q1 : Vd.frozen? ⟨w5.heap.size, 1, none⟩ = false := blk_frozen N1 1
          have q2 : Vd.frozen? ⟨w5.heap.size, 2, none⟩ = false := blk_frozen N1 2
          have q3 : Vd.frozen? ⟨w5.heap.size, 3, none⟩ = false := blk_frozen N1 3
          obtain ⟨V4, hV4⟩ : ∃ V4, set4 Vd w5.heap.size (.int .i64 tx) (.int .i64 ty) (.int .i64 tz) (.int .i64 g2) = V4 := ⟨_, rfl⟩
          gi_wp2
          (try rw [hV4])
          have P3 := (show V4.heap[w.heap.size]? = _ by rw [← hV4]; exact heap_set4 _ _ _ (by omega) _ _ _ _).trans N3
          have P4 := (show V4.heap[w.heap.size + 1]? = _ by rw [← hV4]; exact heap_set4 _ _ _ (by omega) _ _ _ _).trans N4
          have P5 := (show V4.heap[w.heap.size + 2]? = _ by rw [← hV4]; exact heap_set4 _ _ _ (by omega) _ _ _ _).trans N5
          exact FIN.out V4 _ _ _ _ _ HS5.out (by rw [← hV4]; exact NKF.trans ((keeps_set4 _ _ _ _ _ _).from _)) (by rw [← hV4]; exact NKX.trans (KpX.set4 _ _ _ _ _)) (by rw [← hV4]; exact blk4_set N1 _ _ _ _) (by show V4.heap[_]? = _; rw [← hV4]; exact (heap_set4 _ _ _ (by omega) _ _ _ _).trans N2) P3 P4 P5 (by rw [← hV4]; exact below_set4 N6 (by omega) _ _ _ _)
        · have hd2 : decide (og < g2) = false := by simpa using h2
          rw [if_neg h2] at HS3
          have HS4 := Lh HS3
          clear HS3
          gi_wp2
          exact FIN.out V2 _ _ _ _ _ HS4.out MKF MKX M1 M2 M3 M4 M5 M6
  case done =>
    rintro D zs W hD rfl ⟨⟨⟨I1, I2⟩, I3, I4⟩, I5, I6⟩ hK
    rw [hR] at I1
    have u0 : W.cell? ⟨w5.heap.size, 0, none⟩ = some (.int .i64 R.1.1.x) := (blk_cell I1 0).trans rfl
    have u1 : W.cell? ⟨w5.heap.size, 1, none⟩ = some (.int .i64 R.1.1.y) := (blk_cell I1 1).trans rfl
    have u2 : W.cell? ⟨w5.heap.size, 2, none⟩ = some (.int .i64 R.1.1.z) := (blk_cell I1 2).trans rfl
    have u3 : W.cell? ⟨w5.heap.size, 3, none⟩ = some (.int .i64 R.1.2) := (blk_cell I1 3).trans rfl
    have v0 : W.cell? ⟨w.heap.size + 1 + 1, 0, none⟩ = some (.int .i64 0) := (blk_cell I5 0).trans rfl
    have v1 : W.cell? ⟨w.heap.size + 1 + 1, 1, none⟩ = some (.int .i64 0) := (blk_cell I5 1).trans rfl
    have v2 : W.cell? ⟨w.heap.size + 1 + 1, 2, none⟩ = some (.int .i64 0) := (blk_cell I5 2).trans rfl
    have v3 : W.cell? ⟨w.heap.size + 1 + 1, 3, none⟩ = some (.int .i64 0) := (blk_cell I5 3).trans rfl
    have f0 : W.frozen? ⟨w.heap.size + 1 + 1, 0, none⟩ = false := blk_frozen I5 0
    have f1 : W.frozen? ⟨w.heap.size + 1 + 1, 1, none⟩ = false := blk_frozen I5 1
    have f2 : W.frozen? ⟨w.heap.size + 1 + 1, 2, none⟩ = false := blk_frozen I5 2
    have f3 : W.frozen? ⟨w.heap.size + 1 + 1, 3, none⟩ = false := blk_frozen I5 3
    obtain ⟨W2, hW2⟩ : ∃ W2, (((W.setCell ⟨w.heap.size + 1 + 1, 0, none⟩ (.int .i64 R.1.1.x)).setCell ⟨w.heap.size + 1 + 1, 1, none⟩ (.int .i64 R.1.1.y)).setCell ⟨w.heap.size + 1 + 1, 2, none⟩ (.int .i64 R.1.1.z)).setCell ⟨w.heap.size + 1 + 1, 3, none⟩ (.int .i64 R.1.2) = W2 := ⟨_, rfl⟩
    have H2 : W2.heap[w.heap.size + 1 + 1]? = some (.cells #[.int .i64 R.1.1.x, .int .i64 R.1.1.y, .int .i64 R.1.1.z, .int .i64 R.1.2] 40 (0, 0)) := by rw [← hW2]; exact blk4_set I5 _ _ _ _
    have HD : W2.heap[D]? = some (.deferred (some [])) := by
      rw [← hW2, Below.heap_setCell _ _ _ _ (by simp; omega), Below.heap_setCell _ _ _ _ (by simp; omega), Below.heap_setCell _ _ _ _ (by simp; omega), Below.heap_setCell _ _ _ _ (by simp; omega)]; exact hK
    have HB : Below w.heap.size w W2 := by
      rw [← hW2]; exact (((I6.setCell (p := ⟨_, _, _⟩) (by simp; omega) _).setCell (p := ⟨_, _, _⟩) (by simp; omega) _).setCell (p := ⟨_, _, _⟩) (by simp; omega) _).setCell (p := ⟨_, _, _⟩) (by simp; omega) _
    gi_wp2
    (try rw [hW2])
    have hne : w.heap.size + 1 + 1 ≠ D := by omega
    obtain ⟨W3, hW3⟩ : ∃ W3, W2.putObj D (.deferred none) = W3 := ⟨_, rfl⟩
    have H3 : W3.heap[w.heap.size + 1 + 1]? = some (.cells #[.int .i64 R.1.1.x, .int .i64 R.1.1.y, .int .i64 R.1.1.z, .int .i64 R.1.2] 40 (0, 0)) := by rw [← hW3]; exact (World.putObj_heap_other hne).trans H2
    have HB3 : Below w.heap.size w W3 := by rw [← hW3]; exact HB.trans (belowK_b (w := w) (Nat.le_refl _) W2 D _ _ (by omega) HD rfl rfl)
    have t0 : W3.cell? ⟨w.heap.size + 1 + 1, 0, none⟩ = some (.int .i64 R.1.1.x) := (blk_cell H3 0).trans rfl
    have t1 : W3.cell? ⟨w.heap.size + 1 + 1, 1, none⟩ = some (.int .i64 R.1.1.y) := (blk_cell H3 1).trans rfl
    have t2 : W3.cell? ⟨w.heap.size + 1 + 1, 2, none⟩ = some (.int .i64 R.1.1.z) := (blk_cell H3 2).trans rfl
    have t3 : W3.cell? ⟨w.heap.size + 1 + 1, 3, none⟩ = some (.int .i64 R.1.2) := (blk_cell H3 3).trans rfl
    refine ⟨by simp, .inl ⟨_, _, rfl, run_takeDeferred HD, ?_⟩⟩
    rw [hW3]
    refine ⟨.tuple #[.agg #[.int .i64 R.1.1.x, .int .i64 R.1.1.y, .int .i64 R.1.1.z, .int .i64 R.1.2], .bool true], ?_, rfl, HB3⟩
    simp [results, Try.results20, go_sem, t0, t1, t2, t3]
  case stop =>
    rintro D c pre W _ _ h _
    exact h.elim
end Go.Proofs.Ytckdhahceelckaa.G
namespace Go.Proofs.Ytckdhahceelckaa.G
open Go.RowKit Go.Proofs.YtckdhahceelckaaW.PrintWords Go.Proofs.YtckdhahceelckaaW.PrintLast Go.Proofs.YtckdhahceelckaaW.PrintMore
attribute [local go_sem] max2_mx min2_mn max_two min_two max_three min_three max_four min_four
attribute [local go_sem high] eqA23
set_option linter.unusedVariables false
set_option linter.unusedSimpArgs false
set_option maxHeartbeats 2000000 in
set_option maxRecDepth 100000 in
theorem may_A (p a e : List P3) (r : Int) (A0 A1 A2 : Option Addr) (c0 c1 c2 : Nat) (w : World) (h0 : Rd w A0 p) (h1 : Rd w A1 a) (h2 : Rd w A2 e) (k0 : p.length ≤ c0) (k1 : a.length ≤ c1) (k2 : e.length ≤ c2) (B : Bool) (F : Bool) (G : Bool)
    (hp1 : p.length = 0) :
    Calls Try.prog 57 #[.agg #[.slice A0 p.length c0, .slice A1 a.length c1, .slice A2 e.length c2, .int .i64 r]] w fun e w' => e = .returned (.bool false) ∧ Below w.heap.size w w' := by
  have H0 := Lh h0
  have H1 := Lh h1
  have H2 := Lh h2
  clear h0 h1 h2
  obtain ⟨np, hnp⟩ : ∃ n, p.length = n := ⟨_, rfl⟩
  obtain ⟨na, hna⟩ : ∃ n, a.length = n := ⟨_, rfl⟩
  obtain ⟨ne, hne⟩ : ∃ n, e.length = n := ⟨_, rfl⟩
  rw [hnp] at hp1 k0 ⊢
  rw [hna] at  k1 ⊢
  rw [hne] at  k2 ⊢
  have HNP := Lh hnp
  have HNA := Lh hna
  have HNE := Lh hne
  clear hnp hna hne
  have t1 : decide ((0 : Int) < (np : Int)) = false := by simp; omega
  go_enter Try.func57, Try.ntmps57
  go_wp2
  obtain ⟨ca, hca⟩ : ∃ ca : Array Value, #[.slice A0 np c0, .slice A1 na c1, .slice A2 ne c2, .int .i64 r] = ca := ⟨_, rfl⟩
  have G0 : Hid ((w.alloc (.cells ca 36)).drew.heap[w.heap.size]? = some (.cells ca 36 (0, 0))) := heap_alloc_new w _
  have R0 : Hid (Below w.heap.size w (w.alloc (.cells ca 36)).drew) := ((Below.refl _ w).alloc (Nat.le_refl _) _).drew
  rw [← hca] at G0 R0
  clear hca ca
  have g0 : (w.alloc (.cells #[.slice A0 np c0, .slice A1 na c1, .slice A2 ne c2, .int .i64 r] 36)).cell? ⟨w.heap.size, 0, none⟩ = some (.slice A0 np c0) := (blk_cell (heap_alloc_new w _) 0).trans rfl
  have g1 : (w.alloc (.cells #[.slice A0 np c0, .slice A1 na c1, .slice A2 ne c2, .int .i64 r] 36)).cell? ⟨w.heap.size, 1, none⟩ = some (.slice A1 na c1) := (blk_cell (heap_alloc_new w _) 1).trans rfl
  have g2 : (w.alloc (.cells #[.slice A0 np c0, .slice A1 na c1, .slice A2 ne c2, .int .i64 r] 36)).cell? ⟨w.heap.size, 2, none⟩ = some (.slice A2 ne c2) := (blk_cell (heap_alloc_new w _) 2).trans rfl
  have g3 : (w.alloc (.cells #[.slice A0 np c0, .slice A1 na c1, .slice A2 ne c2, .int .i64 r] 36)).cell? ⟨w.heap.size, 3, none⟩ = some (.int .i64 r) := (blk_cell (heap_alloc_new w _) 3).trans rfl
  go_quiet (fail)
  go_wp2
  go_ret
  exact ⟨rfl, pw_below_drewN ((Below.refl _ w).alloc (Nat.le_refl _) _) _⟩
set_option maxHeartbeats 2000000 in
set_option maxRecDepth 100000 in
theorem may_B (p a e : List P3) (r : Int) (A0 A1 A2 : Option Addr) (c0 c1 c2 : Nat) (w : World) (h0 : Rd w A0 p) (h1 : Rd w A1 a) (h2 : Rd w A2 e) (k0 : p.length ≤ c0) (k1 : a.length ≤ c1) (k2 : e.length ≤ c2) (B : Bool) (F : Bool) (G : Bool)
    (hp1 : 0 < p.length) (hp2 : 32 < p.length) :
    Calls Try.prog 57 #[.agg #[.slice A0 p.length c0, .slice A1 a.length c1, .slice A2 e.length c2, .int .i64 r]] w fun e w' => e = .returned (.bool false) ∧ Below w.heap.size w w' := by
  have H0 := Lh h0
  have H1 := Lh h1
  have H2 := Lh h2
  clear h0 h1 h2
  obtain ⟨np, hnp⟩ : ∃ n, p.length = n := ⟨_, rfl⟩
  obtain ⟨na, hna⟩ : ∃ n, a.length = n := ⟨_, rfl⟩
  obtain ⟨ne, hne⟩ : ∃ n, e.length = n := ⟨_, rfl⟩
  rw [hnp] at hp1 hp2 k0 ⊢
  rw [hna] at  k1 ⊢
  rw [hne] at  k2 ⊢
  have HNP := Lh hnp
  have HNA := Lh hna
  have HNE := Lh hne
  clear hnp hna hne
  have t1 : decide ((0 : Int) < (np : Int)) = true := by simp; omega
  have t2 : decide ((np : Int) ≤ 32) = false := by simp; omega
  go_enter Try.func57, Try.ntmps57
  go_wp2
  obtain ⟨ca, hca⟩ : ∃ ca : Array Value, #[.slice A0 np c0, .slice A1 na c1, .slice A2 ne c2, .int .i64 r] = ca := ⟨_, rfl⟩
  have G0 : Hid ((w.alloc (.cells ca 36)).drew.heap[w.heap.size]? = some (.cells ca 36 (0, 0))) := heap_alloc_new w _
  have R0 : Hid (Below w.heap.size w (w.alloc (.cells ca 36)).drew) := ((Below.refl _ w).alloc (Nat.le_refl _) _).drew
  rw [← hca] at G0 R0
  clear hca ca
  have g0 : (w.alloc (.cells #[.slice A0 np c0, .slice A1 na c1, .slice A2 ne c2, .int .i64 r] 36)).cell? ⟨w.heap.size, 0, none⟩ = some (.slice A0 np c0) := (blk_cell (heap_alloc_new w _) 0).trans rfl
  have g1 : (w.alloc (.cells #[.slice A0 np c0, .slice A1 na c1, .slice A2 ne c2, .int .i64 r] 36)).cell? ⟨w.heap.size, 1, none⟩ = some (.slice A1 na c1) := (blk_cell (heap_alloc_new w _) 1).trans rfl
  have g2 : (w.alloc (.cells #[.slice A0 np c0, .slice A1 na c1, .slice A2 ne c2, .int .i64 r] 36)).cell? ⟨w.heap.size, 2, none⟩ = some (.slice A2 ne c2) := (blk_cell (heap_alloc_new w _) 2).trans rfl
  have g3 : (w.alloc (.cells #[.slice A0 np c0, .slice A1 na c1, .slice A2 ne c2, .int .i64 r] 36)).cell? ⟨w.heap.size, 3, none⟩ = some (.int .i64 r) := (blk_cell (heap_alloc_new w _) 3).trans rfl
  go_quiet (fail)
  go_wp2
  go_ret
  exact ⟨rfl, pw_below_drewN ((Below.refl _ w).alloc (Nat.le_refl _) _) _⟩
set_option maxHeartbeats 2000000 in
set_option maxRecDepth 100000 in
theorem may_C (p a e : List P3) (r : Int) (A0 A1 A2 : Option Addr) (c0 c1 c2 : Nat) (w : World) (h0 : Rd w A0 p) (h1 : Rd w A1 a) (h2 : Rd w A2 e) (k0 : p.length ≤ c0) (k1 : a.length ≤ c1) (k2 : e.length ≤ c2) (B : Bool) (F : Bool) (G : Bool)
    (hp1 : 0 < p.length) (hp2 : p.length ≤ 32) (ha : 128 < a.length ∨ 128 < e.length) :
    Calls Try.prog 57 #[.agg #[.slice A0 p.length c0, .slice A1 a.length c1, .slice A2 e.length c2, .int .i64 r]] w fun e w' => e = .returned (.bool false) ∧ Below w.heap.size w w' := by
  have H0 := Lh h0
  have H1 := Lh h1
  have H2 := Lh h2
  clear h0 h1 h2
  obtain ⟨np, hnp⟩ : ∃ n, p.length = n := ⟨_, rfl⟩
  obtain ⟨na, hna⟩ : ∃ n, a.length = n := ⟨_, rfl⟩
  obtain ⟨ne, hne⟩ : ∃ n, e.length = n := ⟨_, rfl⟩
  rw [hnp] at hp1 hp2 k0 ⊢
  rw [hna] at ha k1 ⊢
  rw [hne] at ha k2 ⊢
  have HNP := Lh hnp
  have HNA := Lh hna
  have HNE := Lh hne
  clear hnp hna hne
  have t1 : decide ((0 : Int) < (np : Int)) = true := by simp; omega
  have t2 : decide ((np : Int) ≤ 32) = true := by simp; omega
  have t3 : decide (mx (na : Int) (ne : Int) ≤ 128) = false := by obtain ⟨m1, m2, m3⟩ := mx_facts (na : Int) (ne : Int); simp; omega
  go_enter Try.func57, Try.ntmps57
  go_wp2
  obtain ⟨ca, hca⟩ : ∃ ca : Array Value, #[.slice A0 np c0, .slice A1 na c1, .slice A2 ne c2, .int .i64 r] = ca := ⟨_, rfl⟩
  have G0 : Hid ((w.alloc (.cells ca 36)).drew.heap[w.heap.size]? = some (.cells ca 36 (0, 0))) := heap_alloc_new w _
  have R0 : Hid (Below w.heap.size w (w.alloc (.cells ca 36)).drew) := ((Below.refl _ w).alloc (Nat.le_refl _) _).drew
  rw [← hca] at G0 R0
  clear hca ca
  have g0 : (w.alloc (.cells #[.slice A0 np c0, .slice A1 na c1, .slice A2 ne c2, .int .i64 r] 36)).cell? ⟨w.heap.size, 0, none⟩ = some (.slice A0 np c0) := (blk_cell (heap_alloc_new w _) 0).trans rfl
  have g1 : (w.alloc (.cells #[.slice A0 np c0, .slice A1 na c1, .slice A2 ne c2, .int .i64 r] 36)).cell? ⟨w.heap.size, 1, none⟩ = some (.slice A1 na c1) := (blk_cell (heap_alloc_new w _) 1).trans rfl
  have g2 : (w.alloc (.cells #[.slice A0 np c0, .slice A1 na c1, .slice A2 ne c2, .int .i64 r] 36)).cell? ⟨w.heap.size, 2, none⟩ = some (.slice A2 ne c2) := (blk_cell (heap_alloc_new w _) 2).trans rfl
  have g3 : (w.alloc (.cells #[.slice A0 np c0, .slice A1 na c1, .slice A2 ne c2, .int .i64 r] 36)).cell? ⟨w.heap.size, 3, none⟩ = some (.int .i64 r) := (blk_cell (heap_alloc_new w _) 3).trans rfl
  go_quiet (fail)
  go_wp2
  go_ret
  exact ⟨rfl, pw_below_drewN ((Below.refl _ w).alloc (Nat.le_refl _) _) _⟩
set_option maxHeartbeats 2000000 in
set_option maxRecDepth 100000 in
theorem may_D (p a e : List P3) (r : Int) (A0 A1 A2 : Option Addr) (c0 c1 c2 : Nat) (w : World) (h0 : Rd w A0 p) (h1 : Rd w A1 a) (h2 : Rd w A2 e) (k0 : p.length ≤ c0) (k1 : a.length ≤ c1) (k2 : e.length ≤ c2) (B : Bool) (F : Bool) (G : Bool)
    (hp1 : 0 < p.length) (hp2 : p.length ≤ 32) (ha : a.length ≤ 128) (he : e.length ≤ 128) (hr1 : r < 0) :
    Calls Try.prog 57 #[.agg #[.slice A0 p.length c0, .slice A1 a.length c1, .slice A2 e.length c2, .int .i64 r]] w fun e w' => e = .returned (.bool false) ∧ Below w.heap.size w w' := by
  have H0 := Lh h0
  have H1 := Lh h1
  have H2 := Lh h2
  clear h0 h1 h2
  obtain ⟨np, hnp⟩ : ∃ n, p.length = n := ⟨_, rfl⟩
  obtain ⟨na, hna⟩ : ∃ n, a.length = n := ⟨_, rfl⟩
  obtain ⟨ne, hne⟩ : ∃ n, e.length = n := ⟨_, rfl⟩
  rw [hnp] at hp1 hp2 k0 ⊢
  rw [hna] at ha k1 ⊢
  rw [hne] at he k2 ⊢
  have HNP := Lh hnp
  have HNA := Lh hna
  have HNE := Lh hne
  clear hnp hna hne
  have t1 : decide ((0 : Int) < (np : Int)) = true := by simp; omega
  have t2 : decide ((np : Int) ≤ 32) = true := by simp; omega
  have t3 : decide (mx (na : Int) (ne : Int) ≤ 128) = true := by obtain ⟨m1, m2, m3⟩ := mx_facts (na : Int) (ne : Int); simp; omega
  have t4 : decide (0 ≤ r) = false := by simp; omega
  go_enter Try.func57, Try.ntmps57
  go_wp2
  obtain ⟨ca, hca⟩ : ∃ ca : Array Value, #[.slice A0 np c0, .slice A1 na c1, .slice A2 ne c2, .int .i64 r] = ca := ⟨_, rfl⟩
  have G0 : Hid ((w.alloc (.cells ca 36)).drew.heap[w.heap.size]? = some (.cells ca 36 (0, 0))) := heap_alloc_new w _
  have R0 : Hid (Below w.heap.size w (w.alloc (.cells ca 36)).drew) := ((Below.refl _ w).alloc (Nat.le_refl _) _).drew
  rw [← hca] at G0 R0
  clear hca ca
  have g0 : (w.alloc (.cells #[.slice A0 np c0, .slice A1 na c1, .slice A2 ne c2, .int .i64 r] 36)).cell? ⟨w.heap.size, 0, none⟩ = some (.slice A0 np c0) := (blk_cell (heap_alloc_new w _) 0).trans rfl
  have g1 : (w.alloc (.cells #[.slice A0 np c0, .slice A1 na c1, .slice A2 ne c2, .int .i64 r] 36)).cell? ⟨w.heap.size, 1, none⟩ = some (.slice A1 na c1) := (blk_cell (heap_alloc_new w _) 1).trans rfl
  have g2 : (w.alloc (.cells #[.slice A0 np c0, .slice A1 na c1, .slice A2 ne c2, .int .i64 r] 36)).cell? ⟨w.heap.size, 2, none⟩ = some (.slice A2 ne c2) := (blk_cell (heap_alloc_new w _) 2).trans rfl
  have g3 : (w.alloc (.cells #[.slice A0 np c0, .slice A1 na c1, .slice A2 ne c2, .int .i64 r] 36)).cell? ⟨w.heap.size, 3, none⟩ = some (.int .i64 r) := (blk_cell (heap_alloc_new w _) 3).trans rfl
  go_quiet (fail)
  go_wp2
  go_ret
  exact ⟨rfl, pw_below_drewN ((Below.refl _ w).alloc (Nat.le_refl _) _) _⟩
set_option maxHeartbeats 2000000 in
set_option maxRecDepth 100000 in
theorem may_E (p a e : List P3) (r : Int) (A0 A1 A2 : Option Addr) (c0 c1 c2 : Nat) (w : World) (h0 : Rd w A0 p) (h1 : Rd w A1 a) (h2 : Rd w A2 e) (k0 : p.length ≤ c0) (k1 : a.length ≤ c1) (k2 : e.length ≤ c2) (B : Bool) (F : Bool) (G : Bool)
    (hp1 : 0 < p.length) (hp2 : p.length ≤ 32) (ha : a.length ≤ 128) (he : e.length ≤ 128) (hr1 : 0 ≤ r) (hr2 : 65536 < r) :
    Calls Try.prog 57 #[.agg #[.slice A0 p.length c0, .slice A1 a.length c1, .slice A2 e.length c2, .int .i64 r]] w fun e w' => e = .returned (.bool false) ∧ Below w.heap.size w w' := by
  have H0 := Lh h0
  have H1 := Lh h1
  have H2 := Lh h2
  clear h0 h1 h2
  obtain ⟨np, hnp⟩ : ∃ n, p.length = n := ⟨_, rfl⟩
  obtain ⟨na, hna⟩ : ∃ n, a.length = n := ⟨_, rfl⟩
  obtain ⟨ne, hne⟩ : ∃ n, e.length = n := ⟨_, rfl⟩
  rw [hnp] at hp1 hp2 k0 ⊢
  rw [hna] at ha k1 ⊢
  rw [hne] at he k2 ⊢
  have HNP := Lh hnp
  have HNA := Lh hna
  have HNE := Lh hne
  clear hnp hna hne
  have t1 : decide ((0 : Int) < (np : Int)) = true := by simp; omega
  have t2 : decide ((np : Int) ≤ 32) = true := by simp; omega
  have t3 : decide (mx (na : Int) (ne : Int) ≤ 128) = true := by obtain ⟨m1, m2, m3⟩ := mx_facts (na : Int) (ne : Int); simp; omega
  have t4 : decide (0 ≤ r) = true := by simp; omega
  have t5 : decide (r ≤ 65536) = false := by simp; omega
  go_enter Try.func57, Try.ntmps57
  go_wp2
  obtain ⟨ca, hca⟩ : ∃ ca : Array Value, #[.slice A0 np c0, .slice A1 na c1, .slice A2 ne c2, .int .i64 r] = ca := ⟨_, rfl⟩
  have G0 : Hid ((w.alloc (.cells ca 36)).drew.heap[w.heap.size]? = some (.cells ca 36 (0, 0))) := heap_alloc_new w _
  have R0 : Hid (Below w.heap.size w (w.alloc (.cells ca 36)).drew) := ((Below.refl _ w).alloc (Nat.le_refl _) _).drew
  rw [← hca] at G0 R0
  clear hca ca
  have g0 : (w.alloc (.cells #[.slice A0 np c0, .slice A1 na c1, .slice A2 ne c2, .int .i64 r] 36)).cell? ⟨w.heap.size, 0, none⟩ = some (.slice A0 np c0) := (blk_cell (heap_alloc_new w _) 0).trans rfl
  have g1 : (w.alloc (.cells #[.slice A0 np c0, .slice A1 na c1, .slice A2 ne c2, .int .i64 r] 36)).cell? ⟨w.heap.size, 1, none⟩ = some (.slice A1 na c1) := (blk_cell (heap_alloc_new w _) 1).trans rfl
  have g2 : (w.alloc (.cells #[.slice A0 np c0, .slice A1 na c1, .slice A2 ne c2, .int .i64 r] 36)).cell? ⟨w.heap.size, 2, none⟩ = some (.slice A2 ne c2) := (blk_cell (heap_alloc_new w _) 2).trans rfl
  have g3 : (w.alloc (.cells #[.slice A0 np c0, .slice A1 na c1, .slice A2 ne c2, .int .i64 r] 36)).cell? ⟨w.heap.size, 3, none⟩ = some (.int .i64 r) := (blk_cell (heap_alloc_new w _) 3).trans rfl
  go_quiet (fail)
  go_wp2
  go_ret
  exact ⟨rfl, pw_below_drewN ((Below.refl _ w).alloc (Nat.le_refl _) _) _⟩
end Go.Proofs.Ytckdhahceelckaa.G
namespace Go.Proofs.Ytckdhahceelckaa.G
open Go.RowKit Go.Proofs.YtckdhahceelckaaW.PrintWords Go.Proofs.YtckdhahceelckaaW.PrintLast Go.Proofs.YtckdhahceelckaaW.PrintMore
attribute [local go_sem] max2_mx min2_mn max_two min_two max_three min_three max_four min_four
attribute [local go_sem high] eqA23
set_option linter.unusedVariables false
set_option linter.unusedSimpArgs false
/-- which of n things a raw number speaks of -/
def pickF (c n : Int) : Int := (if c < 0 then -(c + 1) else c).tmod n
theorem pickF_bd (c n : Int) (hn : 0 < n) : 0 ≤ pickF c n ∧ pickF c n < n := by
  unfold pickF
  have h0 : 0 ≤ (if c < 0 then -(c + 1) else c) := by split <;> omega
  generalize (if c < 0 then -(c + 1) else c) = d at h0
  rw [Int.tmod_eq_emod_of_nonneg h0]
  exact ⟨Int.emod_nonneg _ (by omega), Int.emod_lt_of_pos _ hn⟩
set_option maxHeartbeats 1000000 in
theorem rminus_calls (x y z a b c : Int) (w : World) :
    Calls Try.prog 23 #[.agg #[.int .i64 x, .int .i64 y, .int .i64 z], .agg #[.int .i64 a, .int .i64 b, .int .i64 c]] w fun e w' => e = .returned (.agg #[.int .i64 (minus3 ⟨x, y, z⟩ ⟨a, b, c⟩).x, .int .i64 (minus3 ⟨x, y, z⟩ ⟨a, b, c⟩).y, .int .i64 (minus3 ⟨x, y, z⟩ ⟨a, b, c⟩).z]) ∧ Below w.heap.size w w' := by
  go_enter Try.func23, Try.ntmps23
  go_wp2
  exact bodyPost_ret (v := .agg #[.int .i64 (minus3 ⟨x, y, z⟩ ⟨a, b, c⟩).x, .int .i64 (minus3 ⟨x, y, z⟩ ⟨a, b, c⟩).y, .int .i64 (minus3 ⟨x, y, z⟩ ⟨a, b, c⟩).z]) (by simp [results, Try.results23, go_sem, minus3]) rfl ⟨rfl, (by repeat (first | exact Below.refl _ _ | refine Below.setCell ?_ (by simp <;> omega) _ | refine Below.alloc ?_ (by simp <;> omega) _ | refine Below.drew ?_))⟩
set_option maxHeartbeats 1000000 in
theorem rdot_calls (x y z a b c : Int) (w : World) :
    Calls Try.prog 24 #[.agg #[.int .i64 x, .int .i64 y, .int .i64 z], .agg #[.int .i64 a, .int .i64 b, .int .i64 c]] w fun e w' => e = .returned (.int .i64 (dot3 ⟨x, y, z⟩ ⟨a, b, c⟩)) ∧ Below w.heap.size w w' := by
  go_enter Try.func24, Try.ntmps24
  go_wp2
  go_ret
  exact ⟨by simp [dot3, wrap64, go_sem], (by repeat (first | exact Below.refl _ _ | refine Below.setCell ?_ (by simp <;> omega) _ | refine Below.alloc ?_ (by simp <;> omega) _ | refine Below.drew ?_))⟩
/-- a core: what a value speaks of in this world -/
structure CoreV (w : World) (v : Value) (p a e : List P3) (r : Int) : Prop where
  out : ∃ A0 A1 A2 c0 c1 c2, v = .agg #[.slice A0 p.length c0, .slice A1 a.length c1, .slice A2 e.length c2, .int .i64 r] ∧ RdB w A0 p ∧ RdB w A1 a ∧ RdB w A2 e ∧ p.length ≤ c0 ∧ a.length ≤ c1 ∧ e.length ≤ c2
theorem RdB.below {w w1 : World} {A l} (h : RdB w A l) (hb : Below w.heap.size w w1) : RdB w1 A l := ⟨h.1.below hb, fun hne ad e => Nat.lt_of_lt_of_le (h.2 hne ad e) hb.size⟩
theorem RdB.nil (w : World) : RdB w none [] := ⟨Rd.nil _ _, fun h => absurd rfl h⟩
theorem CoreV.below {w w1 : World} {v p a e r} (h : CoreV w v p a e r) (hb : Below w.heap.size w w1) : CoreV w1 v p a e r := by
  obtain ⟨A0, A1, A2, c0, c1, c2, e1, h0, h1, h2, h3⟩ := h.out
  exact ⟨A0, A1, A2, c0, c1, c2, e1, h0.below hb, h1.below hb, h2.below hb, h3⟩
/-- may this be one? -/
structure MayP (p a e : List P3) (r : Int) : Prop where
  p0 : p ≠ []
  p1 : p.length ≤ 32
  a1 : a.length ≤ 128
  e1 : e.length ≤ 128
  r0 : 0 ≤ r
  r1 : r ≤ 65536
  pf : p.any (far3 16777216) = false
  af : a.any (far3 1048576) = false
  ef : e.any (far3 1048576) = false
/-- the answer for two that may be -/
def apartF (p a e : List P3) (r : Int) (q b f : List P3) (s : Int) : P3 × Int :=
  (apF (p.headD ⟨0, 0, 0⟩) p.tail r (q.headD ⟨0, 0, 0⟩) q.tail s (rawC p a e q b f)).1
theorem apart_calls (p a e : List P3) (r : Int) (q b f : List P3) (s : Int) (v u : Value) (w : World) (hv : CoreV w v p a e r) (hu : CoreV w u q b f s) (m : MayP p a e r) (k : MayP q b f s) (R : P3 × Int) (hR : apartF p a e r q b f s = R) :
    Calls Try.prog 20 #[v, u] w fun e w' => e = .returned (.tuple #[.agg #[.int .i64 R.1.x, .int .i64 R.1.y, .int .i64 R.1.z, .int .i64 R.2], .bool true]) ∧ Below w.heap.size w w' := by
  obtain ⟨A0, A1, A2, c0, c1, c2, rfl, h0, h1, h2, h3, h4, h5⟩ := hv.out
  obtain ⟨B0, B1, B2, d0, d1, d2, rfl, g0, g1, g2, g3, g4, g5⟩ := hu.out
  obtain ⟨p0, pr, rfl⟩ := List.exists_cons_of_ne_nil m.p0
  obtain ⟨q0, qr, rfl⟩ := List.exists_cons_of_ne_nil k.p0
  subst hR
  exact (callsIn_wide (n := 20)).1 (apart_in 20 (by decide) p0 pr a e r q0 qr b f s A0 A1 A2 B0 B1 B2 c0 c1 c2 d0 d1 d2 w h0 h1 h2 g0 g1 g2 (by simpa using h3) h4 h5 (by simpa using g3) g4 g5 (by simpa using m.p1) m.a1 m.e1 (by simpa using k.p1) k.a1 k.e1 m.r0 m.r1 k.r0 k.r1 m.pf k.pf m.af k.af m.ef k.ef _ rfl)
theorem Rd_one {w : World} {g : Nat} {x y z : Int} {t : TypeId} (h : w.heap[g]? = some (.cells #[.int .i64 x, .int .i64 y, .int .i64 z] t (0, 0))) : RdB w (some ⟨g, 0, none⟩) [⟨x, y, z⟩] :=
  ⟨fun i p hp => by
    match i with
    | 0 =>
      simp at hp
      subst hp
      exact ⟨g, 0, rfl, blk_lt h, (blk_cell h 0).trans rfl, (blk_cell h 1).trans rfl, (blk_cell h 2).trans rfl⟩
    | i + 1 => simp at hp, fun _ ad e => by cases e; exact blk_lt h⟩
end Go.Proofs.Ytckdhahceelckaa.G
set_option maxRecDepth 100000
namespace Go.Proofs.Ytckdhahceelckaa.G
open Go.ChangeShapes Go.WideShapes Go.RowKit
set_option linter.unusedVariables false
set_option linter.unusedSimpArgs false
theorem list_of3 {α : Type} {Q : Nat → α → Prop} : ∀ (n : Nat), (∀ i, i < n → ∃ p, Q i p) → ∃ l : List α, l.length = n ∧ ∀ i p, l[i]? = some p → Q i p
  | 0, _ => ⟨[], rfl, fun i p h => by simp at h⟩
  | n + 1, H => by
    obtain ⟨l, hl, hq⟩ := list_of3 n fun i hi => H i (by omega)
    obtain ⟨p, hp⟩ := H n (by omega)
    refine ⟨l ++ [p], by simp [hl], fun i q h => ?_⟩
    rcases Nat.lt_or_ge i l.length with h' | h'
    · rw [List.getElem?_append_left h'] at h
      exact hq i q h
    · rw [List.getElem?_append_right h'] at h
      have : i - l.length = 0 := by
        rcases Nat.eq_zero_or_pos (i - l.length) with e | e
        · exact e
        · rw [List.getElem?_eq_none (by simp; omega)] at h; cases h
      rw [this] at h
      simp at h
      subst h
      have : i = n := by omega
      rwa [this]
section
variable {H : Type} {enc : TypeId × Value → H} {W : World} {base : Nat} {spare : Nat → Bool} {held : Bool}
set_option maxRecDepth 100000 in
/-- a slice of points that reads, read -/
theorem open_pts3 {fuel : Nat} {A : Option Addr} {n c : Nat} {y : DataW H × List MemPlace} (hA : ∀ a, A = some a → a.spot = none ∧ a.block < W.heap.size)
    (h : DataW.trod enc Try.prog W base spare held fuel 24 [.slice A n c] = some y) (hw : ∀ k ∈ y.1.weights Try.prog 24, k ≤ reachBytes) :
    ∃ l : List P3, l.length = n ∧ RdB W A l ∧ l.length ≤ 140737488355328 := by
  rcases Go.Deep.open_slice Try.underlying24 h with ⟨e, _⟩ | ⟨a, len, cap, m, k, D, Pl, e, hb, hl, hc, hm, hx, hf⟩
  · simp only [List.cons.injEq, Value.slice.injEq, and_true] at e
    obtain ⟨rfl, rfl, rfl⟩ := e
    exact ⟨[], rfl, RdB.nil W, by simp⟩
  · simp only [List.cons.injEq, Value.slice.injEq, and_true] at e
    obtain ⟨rfl, rfl, rfl⟩ := e
    obtain ⟨hs, hlt⟩ := hA a rfl
    obtain ⟨b, o, s⟩ := a
    simp only at hs hlt
    subst hs
    have hlen : n ≤ 140737488355328 := by
      rw [hx] at hw
      have := hw _ (by rw [DataW.weights, Try.underlying24]; exact List.mem_cons_self)
      have hbs : Try.prog.bytesOf 23 = 24 := by kernel_rfl
      rw [hbs] at this
      simp [reachBytes] at this
      omega
    have hcells : Try.prog.cellsOf 23 = 3 := by kernel_rfl
    have each : ∀ i, i < n → ∃ p : P3, W.cell? ⟨b, o + i * 3, none⟩ = some (.int .i64 p.x) ∧ W.cell? ⟨b, o + i * 3 + 1, none⟩ = some (.int .i64 p.y) ∧ W.cell? ⟨b, o + i * 3 + 2, none⟩ = some (.int .i64 p.z) := by
      intro i hi
      have him : i < m := by
        rw [hm]; split <;> omega
      obtain ⟨cs', h1, h2⟩ := hf i him
      rw [hcells] at h1
      obtain ⟨_, hl3, hg⟩ := World.cells?_some h1
      have ea : (⟨b, o, none⟩ : Addr).add (i * 3) = ⟨b, o + i * 3, none⟩ := by
        unfold Addr.add
        split
        · rename_i h0; rw [h0]; rfl
        · rfl
      rw [ea] at hg
      obtain ⟨v0, v1, v2, rfl⟩ : ∃ v0 v1 v2, cs' = [v0, v1, v2] := by
        match cs', hl3 with
        | [v0, v1, v2], _ => exact ⟨v0, v1, v2, rfl⟩
      obtain ⟨y0, y1, y2, n', _, _, t0, t1, t2⟩ := Go.Deep.trod_struct3 Try.underlying23 h2
      obtain ⟨x, hx', _, wx⟩ := DataW.trod_int (k := .i64) Try.underlying3 t0
      obtain ⟨y, hy', _, wy⟩ := DataW.trod_int (k := .i64) Try.underlying3 t1
      obtain ⟨z, hz', _, wz⟩ := DataW.trod_int (k := .i64) Try.underlying3 t2
      have k3 : Try.prog.cellsOf 3 = 1 := by kernel_rfl
      simp [k3] at hx' hy' hz'
      subst hx' hy' hz'
      exact ⟨⟨x, y, z⟩, hg 0 (by decide), hg 1 (by decide), hg 2 (by decide)⟩
    obtain ⟨l, hll, hq⟩ := list_of3 n each
    refine ⟨l, hll, ⟨fun i p hp => ⟨b, o, rfl, hlt, hq i p hp⟩, fun _ ad e => by cases e; exact hlt⟩, by omega⟩
end
end Go.Proofs.Ytckdhahceelckaa.G
namespace Go.Proofs.Ytckdhahceelckaa.G
set_option linter.unusedVariables false
def mag : List Int → Int
  | [] => 0
  | x :: l => x + 16777216 * mag l
def digs (l : List Int) : Prop := ∀ x ∈ l, 0 ≤ x ∧ x < 16777216
/-- digit k -/
def dg (l : List Int) (k : Nat) : Int := l.getD k 0
abbrev BW : Int := 16777216
theorem pw_pos (n : Nat) : (0 : Int) < 16777216 ^ n := Int.pow_pos (by decide)
theorem pw_succ (n : Nat) : (16777216 : Int) ^ (n + 1) = 16777216 ^ n * 16777216 := Int.pow_succ ..
theorem mag_nonneg : ∀ (l : List Int), digs l → 0 ≤ mag l
  | [], _ => Int.le_refl _
  | x :: l, h => by
    have := mag_nonneg l (fun y hy => h y (.tail _ hy))
    have := h x (.head _)
    unfold mag; omega
theorem mag_lt : ∀ (l : List Int), digs l → mag l < 16777216 ^ l.length
  | [], _ => by simp [mag]
  | x :: l, h => by
    have := mag_lt l (fun y hy => h y (.tail _ hy))
    have := h x (.head _)
    rw [List.length_cons, pw_succ]
    unfold mag; omega
theorem mag_append : ∀ (a b : List Int), mag (a ++ b) = mag a + 16777216 ^ a.length * mag b
  | [], b => by simp [mag]
  | x :: a, b => by
    rw [List.cons_append, mag, mag, mag_append a b, List.length_cons, pw_succ]
    grind
theorem mag_split (l : List Int) (i : Nat) (h : i ≤ l.length) : mag l = mag (l.take i) + 16777216 ^ i * mag (l.drop i) := by
  have := mag_append (l.take i) (l.drop i)
  rw [List.take_append_drop, List.length_take, Nat.min_eq_left h] at this
  exact this
theorem dg_lt (l : List Int) (i : Nat) (h : i < l.length) : dg l i = l[i] := by
  unfold dg; rw [List.getD_eq_getElem?_getD, List.getElem?_eq_getElem h]; rfl
theorem mag_take_succ (l : List Int) (i : Nat) (h : i < l.length) : mag (l.take (i + 1)) = mag (l.take i) + 16777216 ^ i * dg l i := by
  rw [List.take_succ_eq_append_getElem h, mag_append, List.length_take, Nat.min_eq_left (by omega), dg_lt l i h]
  simp [mag]
theorem mag_drop (l : List Int) (i : Nat) (h : i < l.length) : mag (l.drop i) = dg l i + 16777216 * mag (l.drop (i + 1)) := by
  rw [List.drop_eq_getElem_cons h, mag, dg_lt l i h]
theorem mag_set : ∀ (l : List Int) (i : Nat) (x : Int), i < l.length → mag (l.set i x) = mag l + 16777216 ^ i * (x - dg l i)
  | [], i, x, h => by simp at h
  | y :: l, 0, x, h => by simp [mag, dg]; omega
  | y :: l, i + 1, x, h => by
    have := mag_set l i x (by simpa using h)
    rw [List.set_cons_succ, mag, mag, this, pw_succ]
    have e : dg (y :: l) (i + 1) = dg l i := by simp [dg]
    rw [e]; grind
theorem dg_set (l : List Int) (i k : Nat) (x : Int) (h : i < l.length) : dg (l.set i x) k = if k = i then x else dg l k := by
  unfold dg
  rw [List.getD_eq_getElem?_getD, List.getD_eq_getElem?_getD, List.getElem?_set]
  by_cases e : i = k
  · subst e; simp [h]
  · rw [if_neg e, if_neg (fun h => e h.symm)]
theorem dg_ok {l : List Int} (h : digs l) (k : Nat) : 0 ≤ dg l k ∧ dg l k < 16777216 := by
  by_cases hk : k < l.length
  · rw [dg_lt l k hk]; exact h _ (List.getElem_mem _)
  · unfold dg; rw [List.getD_eq_getElem?_getD, List.getElem?_eq_none (by omega)]; decide
theorem digs_set {l : List Int} (h : digs l) (i : Nat) (x : Int) (h0 : 0 ≤ x) (h1 : x < 16777216) : digs (l.set i x) := fun y hy => by
  rcases List.mem_or_eq_of_mem_set hy with h' | rfl
  · exact h y h'
  · exact ⟨h0, h1⟩
theorem digs_take {l : List Int} (h : digs l) (i : Nat) : digs (l.take i) := fun y hy => h y (List.mem_of_mem_take hy)
theorem digs_drop {l : List Int} (h : digs l) (i : Nat) : digs (l.drop i) := fun y hy => h y (List.mem_of_mem_drop hy)
/-- the value -/
def wval (neg : Bool) (l : List Int) : Int := if neg then -mag l else mag l
theorem mag_zeros (n : Nat) : mag (List.replicate n 0) = 0 := by
  induction n with
  | zero => rfl
  | succ n ih => rw [List.replicate_succ, mag, ih]; rfl
def OfI (n : Nat) (i : Nat) (l : List Int) (u : Nat) : Prop := l.length = 8 ∧ digs l ∧ (∀ j, i ≤ j → dg l j = 0) ∧ mag l + 16777216 ^ i * (u : Int) = n
theorem OfI.start (n : Nat) : OfI n 0 (List.replicate 8 0) n := by
  refine ⟨by simp, fun x hx => by rw [List.eq_of_mem_replicate hx]; decide, fun j _ => ?_, by rw [mag_zeros]; simp⟩
  unfold dg; rw [List.getD_eq_getElem?_getD, List.getElem?_replicate]; split <;> rfl
theorem OfI.step {n i : Nat} {l : List Int} {u : Nat} (h : OfI n i l u) (hi : i < 8) : OfI n (i + 1) (l.set i ((u % 16777216 : Nat) : Int)) (u / 16777216) := by
  obtain ⟨h1, h2, h3, h4⟩ := h
  refine ⟨by simpa using h1, digs_set h2 _ _ (by omega) (by omega), fun j hj => by rw [dg_set _ _ _ _ (by omega), if_neg (by omega)]; exact h3 j (by omega), ?_⟩
  rw [mag_set _ _ _ (by omega), h3 i (Nat.le_refl _), pw_succ]
  have e : ((u : Nat) : Int) = ((u % 16777216 : Nat) : Int) + 16777216 * ((u / 16777216 : Nat) : Int) := by omega
  rw [e] at h4
  grind
theorem OfI.le {n i : Nat} {l : List Int} {u : Nat} (h : OfI n i l u) : u ≤ n := by
  obtain ⟨h1, h2, h3, h4⟩ := h
  have := mag_nonneg l h2
  have h5 : 1 * (u : Int) ≤ 16777216 ^ i * (u : Int) := Int.mul_le_mul_of_nonneg_right (by have := pw_pos i; omega) (by omega)
  omega
theorem OfI.done {n : Nat} {l : List Int} {u : Nat} (h : OfI n 8 l u) (hn : n < 16777216 ^ 8) : mag l = n := by
  obtain ⟨h1, h2, h3, h4⟩ := h
  have := mag_nonneg l h2
  have hu : u = 0 := by
    rcases Nat.eq_zero_or_pos u with h0 | h0
    · exact h0
    · exfalso
      have : (16777216 : Int) ^ 8 * 1 ≤ 16777216 ^ 8 * (u : Int) := Int.mul_le_mul_of_nonneg_left (by omega) (by decide)
      have : ((16777216 ^ 8 : Nat) : Int) = (16777216 : Int) ^ 8 := by decide
      omega
  subst hu
  omega
def AddI (a b : List Int) (i : Nat) (o : List Int) (c : Int) : Prop := o.length = 8 ∧ digs o ∧ 0 ≤ c ∧ c ≤ 1 ∧ (∀ j, i ≤ j → dg o j = dg a j) ∧ mag o + 16777216 ^ i * c = mag a + mag (b.take i)
theorem AddI.start (a b : List Int) (ha : a.length = 8) (hd : digs a) : AddI a b 0 a 0 := ⟨ha, hd, by decide, by decide, fun _ _ => rfl, by simp [mag]⟩
theorem AddI.step {a b : List Int} {i : Nat} {o : List Int} {c : Int} (h : AddI a b i o c) (ha : digs a) (hb : digs b) (hlb : b.length = 8) (hi : i < 8) :
    AddI a b (i + 1) (o.set i ((dg a i + dg b i + c) % 16777216)) ((dg a i + dg b i + c) / 16777216) := by
  obtain ⟨h1, h2, h3, h4, h5, h6⟩ := h
  have ka := dg_ok ha i
  have kb := dg_ok hb i
  refine ⟨by simpa using h1, digs_set h2 _ _ (by omega) (by omega), by omega, by omega, fun j hj => by rw [dg_set _ _ _ _ (by omega), if_neg (by omega)]; exact h5 j (by omega), ?_⟩
  rw [mag_set _ _ _ (by omega), mag_take_succ b i (by omega), h5 i (Nat.le_refl _), pw_succ]
  have e := Int.mul_ediv_add_emod (dg a i + dg b i + c) 16777216
  generalize (dg a i + dg b i + c) % 16777216 = r at e
  generalize (dg a i + dg b i + c) / 16777216 = q at e
  grind
theorem AddI.done {a b o : List Int} {c : Int} (h : AddI a b 8 o c) (hlb : b.length = 8) (hs : mag a + mag b < 16777216 ^ 8) : mag o = mag a + mag b := by
  obtain ⟨h1, h2, h3, h4, h5, h6⟩ := h
  have := mag_nonneg o h2
  rw [List.take_of_length_le (by omega)] at h6
  have hp : (16777216 : Int) ^ 8 = 6277101735386680763835789423207666416102355444464034512896 := by decide
  rw [hp] at *
  have : c = 0 := by omega
  subst this; omega
def SubI (a b : List Int) (i : Nat) (o : List Int) (c : Int) : Prop := o.length = 8 ∧ digs o ∧ 0 ≤ c ∧ c ≤ 1 ∧ (∀ j, i ≤ j → dg o j = dg a j) ∧ mag o - 16777216 ^ i * c = mag a - mag (b.take i)
theorem SubI.start (a b : List Int) (ha : a.length = 8) (hd : digs a) : SubI a b 0 a 0 := ⟨ha, hd, by decide, by decide, fun _ _ => rfl, by simp [mag]⟩
theorem SubI.step0 {a b : List Int} {i : Nat} {o : List Int} {c : Int} (h : SubI a b i o c) (ha : digs a) (hb : digs b) (hlb : b.length = 8) (hi : i < 8) (hn : 0 ≤ dg a i - dg b i - c) :
    SubI a b (i + 1) (o.set i (dg a i - dg b i - c)) 0 := by
  obtain ⟨h1, h2, h3, h4, h5, h6⟩ := h
  have ka := dg_ok ha i
  have kb := dg_ok hb i
  refine ⟨by simpa using h1, digs_set h2 _ _ (by omega) (by omega), by omega, by omega, fun j hj => by rw [dg_set _ _ _ _ (by omega), if_neg (by omega)]; exact h5 j (by omega), ?_⟩
  rw [mag_set _ _ _ (by omega), mag_take_succ b i (by omega), h5 i (Nat.le_refl _), pw_succ]
  grind
theorem SubI.step1 {a b : List Int} {i : Nat} {o : List Int} {c : Int} (h : SubI a b i o c) (ha : digs a) (hb : digs b) (hlb : b.length = 8) (hi : i < 8) (hn : dg a i - dg b i - c < 0) :
    SubI a b (i + 1) (o.set i (dg a i - dg b i - c + 16777216)) 1 := by
  obtain ⟨h1, h2, h3, h4, h5, h6⟩ := h
  have ka := dg_ok ha i
  have kb := dg_ok hb i
  refine ⟨by simpa using h1, digs_set h2 _ _ (by omega) (by omega), by omega, by omega, fun j hj => by rw [dg_set _ _ _ _ (by omega), if_neg (by omega)]; exact h5 j (by omega), ?_⟩
  rw [mag_set _ _ _ (by omega), mag_take_succ b i (by omega), h5 i (Nat.le_refl _), pw_succ]
  grind
theorem SubI.done {a b o : List Int} {c : Int} (h : SubI a b 8 o c) (hlb : b.length = 8) (hs : mag b ≤ mag a) : mag o = mag a - mag b := by
  obtain ⟨h1, h2, h3, h4, h5, h6⟩ := h
  have hl := mag_lt o h2
  rw [h1] at hl
  rw [List.take_of_length_le (by omega)] at h6
  have hp : (16777216 : Int) ^ 8 = 6277101735386680763835789423207666416102355444464034512896 := by decide
  rw [hp] at *
  have : c = 0 := by omega
  subst this; omega
/-- the inner loop: digit i of a (x), k of b's digits done; s: the sum ahead of it -/
def MulI (s x : Int) (b : List Int) (i k : Nat) (o : List Int) (c : Int) : Prop := o.length = 8 ∧ digs o ∧ 0 ≤ c ∧ c < 16777216 ∧ mag o + 16777216 ^ (i + k) * c = s + 16777216 ^ i * x * mag (b.take k)
theorem MulI.start {o : List Int} (x : Int) (b : List Int) (i : Nat) (h : o.length = 8) (hd : digs o) : MulI (mag o) x b i 0 o 0 := ⟨h, hd, by decide, by decide, by simp [mag]⟩
theorem mul_dig (u x y c : Int) (h1 : 0 ≤ u) (h2 : u < 16777216) (h3 : 0 ≤ x) (h4 : x < 16777216) (h5 : 0 ≤ y) (h6 : y < 16777216) (h7 : 0 ≤ c) (h8 : c < 16777216) : 0 ≤ x * y ∧ x * y ≤ 281474943156225 := by
  have a := Int.mul_nonneg h3 h5
  have b : x * y ≤ 16777215 * 16777215 := Int.mul_le_mul (by omega) (by omega) h5 (by decide)
  omega
theorem MulI.step {s x : Int} {b : List Int} {i k : Nat} {o : List Int} {c : Int} (h : MulI s x b i k o c) (hx0 : 0 ≤ x) (hx1 : x < 16777216) (hb : digs b) (hlb : b.length = 8) (hi : i + k < 8) :
    MulI s x b i (k + 1) (o.set (i + k) ((dg o (i + k) + x * dg b k + c) % 16777216)) ((dg o (i + k) + x * dg b k + c) / 16777216) := by
  obtain ⟨h1, h2, h3, h4, h6⟩ := h
  have ko := dg_ok h2 (i + k)
  have kb := dg_ok hb k
  have km := mul_dig (dg o (i + k)) x (dg b k) c ko.1 ko.2 hx0 hx1 kb.1 kb.2 h3 h4
  refine ⟨by simpa using h1, digs_set h2 _ _ (by omega) (by omega), by omega, by omega, ?_⟩
  rw [mag_set _ _ _ (by omega), mag_take_succ b k (by omega), ← Nat.add_assoc, pw_succ]
  have e := Int.mul_ediv_add_emod (dg o (i + k) + x * dg b k + c) 16777216
  generalize (dg o (i + k) + x * dg b k + c) % 16777216 = r at e
  generalize (dg o (i + k) + x * dg b k + c) / 16777216 = q at e
  have e2 : (16777216 : Int) ^ (i + k) = 16777216 ^ i * 16777216 ^ k := Int.pow_add ..
  rw [e2] at *
  grind
/-- the outer loop -/
def MulO (a b : List Int) (i : Nat) (o : List Int) : Prop := o.length = 8 ∧ digs o ∧ mag o = mag (a.take i) * mag b
theorem MulO.start (a b : List Int) : MulO a b 0 (List.replicate 8 0) :=
  ⟨by simp, fun x hx => by rw [List.eq_of_mem_replicate hx]; decide, by rw [mag_zeros]; simp [mag]⟩
theorem MulO.skip {a b o : List Int} {i : Nat} (h : MulO a b i o) (hla : a.length = 8) (hi : i < 8) (h0 : dg a i = 0) : MulO a b (i + 1) o := by
  obtain ⟨h1, h2, h3⟩ := h
  exact ⟨h1, h2, by rw [mag_take_succ a i (by omega), h0, h3]; simp⟩
theorem mag_take_le {l : List Int} (h : digs l) (i : Nat) (hi : i ≤ l.length) : mag (l.take i) ≤ mag l := by
  have := mag_split l i hi
  have := Int.mul_nonneg (Int.le_of_lt (pw_pos i)) (mag_nonneg _ (digs_drop h i))
  omega
theorem MulO.step {a b o o' : List Int} {i : Nat} {c : Int} (h : MulO a b i o) (hi : i < 8) (hm : MulI (mag o) (dg a i) b i (8 - i) o' c) (ha : digs a) (hb : digs b) (hla : a.length = 8) (hlb : b.length = 8) (hs : mag a * mag b < 16777216 ^ 8) :
    MulO a b (i + 1) o' := by
  obtain ⟨h1, h2, h3⟩ := h
  obtain ⟨k1, k2, k3, k4, k5⟩ := hm
  rw [show i + (8 - i) = 8 by omega] at k5
  have hb0 := mag_nonneg b hb
  have hle := mag_take_le ha (i + 1) (by omega)
  have hle2 : mag (a.take (i + 1)) * mag b ≤ mag a * mag b := Int.mul_le_mul_of_nonneg_right hle hb0
  rw [mag_take_succ a i (by omega)] at hle2
  have hsp := mag_split b (8 - i) (by omega)
  have hx := dg_ok ha i
  have hz := mag_nonneg _ (digs_drop hb (8 - i))
  have hxz := Int.mul_nonneg hx.1 hz
  have hn0 := mag_nonneg o' k2
  have e8 : (16777216 : Int) ^ i * 16777216 ^ (8 - i) = 16777216 ^ 8 := by rw [← Int.pow_add, show i + (8 - i) = 8 by omega]
  have e1 : (mag (a.take i) + 16777216 ^ i * dg a i) * mag b = mag (a.take i) * mag b + 16777216 ^ i * dg a i * mag (b.take (8 - i)) + 16777216 ^ 8 * (dg a i * mag (b.drop (8 - i))) := by
    rw [← e8]
    generalize (16777216 : Int) ^ i = p at *
    generalize (16777216 : Int) ^ (8 - i) = q at *
    grind
  have hp : (16777216 : Int) ^ 8 = 6277101735386680763835789423207666416102355444464034512896 := by decide
  rw [e1] at hle2
  rw [hp] at k5 hs hle2 e1
  refine ⟨k1, k2, ?_⟩
  rw [mag_take_succ a i (by omega), e1]
  rw [h3] at k5
  generalize mag (a.take i) * mag b = A at *
  generalize 16777216 ^ i * dg a i * mag (b.take (8 - i)) = Bx at *
  generalize dg a i * mag (b.drop (8 - i)) = C at *
  generalize mag a * mag b = D at *
  omega
end Go.Proofs.Ytckdhahceelckaa.G
namespace Go.Proofs.Ytckdhahceelckaa.G
set_option linter.unusedVariables false
theorem two_pos (n : Nat) : (0 : Int) < 2 ^ n := Int.pow_pos (by decide)
theorem two_succ (n : Nat) : (2 : Int) ^ (n + 1) = 2 * 2 ^ n := by rw [Int.pow_succ, Int.mul_comm]
/-- the bit of round j out of n -/
def bitOf (n j : Nat) : Int := if j < n then 2 ^ (n - 1 - j) else 0
theorem bitOf_half (n j : Nat) (h : j < n) : bitOf n j / 2 = bitOf n (j + 1) := by
  unfold bitOf
  rw [if_pos h]
  by_cases h2 : j + 1 < n
  · rw [if_pos h2, show n - 1 - j = (n - 1 - (j + 1)) + 1 by omega, two_succ]; omega
  · rw [if_neg h2, show n - 1 - j = 0 by omega]; decide
theorem bitOf_pos (n j : Nat) (h : j < n) : 0 < bitOf n j := by unfold bitOf; rw [if_pos h]; exact two_pos _
theorem bitOf_le (n j : Nat) : bitOf n j ≤ 2 ^ (n - 1) ∧ 0 ≤ bitOf n j := by
  unfold bitOf
  split
  · refine ⟨?_, Int.le_of_lt (two_pos _)⟩
    have : (2 : Int) ^ (n - 1) = 2 ^ (n - 1 - j) * 2 ^ j := by rw [← Int.pow_add, show n - 1 - j + j = n - 1 by omega]
    rw [this]
    have h1 := two_pos j
    have := Int.mul_le_mul_of_nonneg_left (show 1 ≤ (2 : Int) ^ j by omega) (Int.le_of_lt (two_pos (n - 1 - j)))
    omega
  · exact ⟨Int.le_of_lt (two_pos _), Int.le_refl _⟩
/-- j bits of digit d are done, D stands above it -/
def DivI (D d c : Int) (j : Nat) (q r : Int) : Prop := 0 ≤ q ∧ 0 ≤ r ∧ r < c ∧ q * c + r = D * 2 ^ j + d / 2 ^ (24 - j)
theorem DivI.start {D d c q r : Int} (hq : 0 ≤ q) (hr : 0 ≤ r) (hc : r < c) (h : q * c + r = D) (h0 : 0 ≤ d) (h1 : d < 16777216) : DivI D d c 0 q r :=
  ⟨hq, hr, hc, by rw [h, show (2 : Int) ^ (24 - 0) = 16777216 by decide, Int.ediv_eq_zero_of_lt h0 h1]; simp⟩
theorem DivI.next {D d c q r : Int} {j : Nat} (hj : j < 24) (h : DivI D d c j q r) : 2 * q * c + (2 * r + d / bitOf 24 j % 2) = D * 2 ^ (j + 1) + d / 2 ^ (24 - (j + 1)) := by
  obtain ⟨h1, h2, h3, h4⟩ := h
  unfold bitOf
  rw [if_pos hj, show 24 - 1 - j = 24 - (j + 1) by omega]
  have e : d / 2 ^ (24 - (j + 1)) / 2 = d / 2 ^ (24 - j) := by
    have e0 : (2 : Int) ^ (24 - j) = 2 ^ (24 - (j + 1)) * 2 := by rw [show 24 - j = (24 - (j + 1)) + 1 by omega, Int.pow_succ]
    rw [Int.ediv_ediv_of_nonneg (Int.le_of_lt (two_pos _)), e0]
  have e2 := Int.mul_ediv_add_emod (d / 2 ^ (24 - (j + 1))) 2
  rw [e] at e2
  rw [two_succ]
  generalize d / 2 ^ (24 - (j + 1)) % 2 = b at *
  generalize d / 2 ^ (24 - (j + 1)) = x at *
  generalize d / 2 ^ (24 - j) = y at *
  generalize (2 : Int) ^ j = p at *
  grind
theorem DivI.step0 {D d c q r : Int} {j : Nat} (hj : j < 24) (h : DivI D d c j q r) (hn : 2 * r + d / bitOf 24 j % 2 < c) : DivI D d c (j + 1) (2 * q) (2 * r + d / bitOf 24 j % 2) := by
  have h4 := h.next hj
  obtain ⟨h1, h2, h3, _⟩ := h
  have := Int.emod_nonneg (d / bitOf 24 j) (show (2 : Int) ≠ 0 by decide)
  exact ⟨by omega, by omega, hn, h4⟩
theorem DivI.step1 {D d c q r : Int} {j : Nat} (hj : j < 24) (h : DivI D d c j q r) (hn : c ≤ 2 * r + d / bitOf 24 j % 2) : DivI D d c (j + 1) (2 * q + 1) (2 * r + d / bitOf 24 j % 2 - c) := by
  have h4 := h.next hj
  obtain ⟨h1, h2, h3, _⟩ := h
  have := Int.emod_lt_of_pos (d / bitOf 24 j) (show (0 : Int) < 2 by decide)
  refine ⟨by omega, by omega, by omega, ?_⟩
  rw [← h4]; grind
theorem DivI.done {D d c q r : Int} (h : DivI D d c 24 q r) : 0 ≤ q ∧ 0 ≤ r ∧ r < c ∧ q * c + r = d + 16777216 * D := by
  obtain ⟨h1, h2, h3, h4⟩ := h
  refine ⟨h1, h2, h3, ?_⟩
  rw [h4, show (2 : Int) ^ 24 = 16777216 by decide, show 24 - 24 = 0 by rfl, Int.pow_zero, Int.ediv_one]; omega
/-- what is left fits: the quotient so far is at most half of the greatest one -/
theorem DivI.small {D d c q r M S : Int} {j : Nat} (hj : j < 24) (h : DivI D d c j q r) (hD : 0 ≤ D) (hd : 0 ≤ d) (hM : d + 16777216 * D ≤ M) (hS : M < (S + 1) * c) : 2 * q ≤ S := by
  obtain ⟨h1, h2, h3, h4⟩ := h
  have a : d / 2 ^ (24 - j) * 2 ≤ d := by
    have e : (2 : Int) ^ (24 - j) = 2 * 2 ^ (23 - j) := by rw [← two_succ, show 23 - j + 1 = 24 - j by omega]
    rw [e, ← Int.ediv_ediv_of_nonneg (by decide)]
    have p := two_pos (23 - j)
    have b : d / 2 / 2 ^ (23 - j) ≤ d / 2 := Int.ediv_le_self _ (by omega)
    omega
  have b : D * 2 ^ j * 2 ≤ 16777216 * D := by
    have e : (16777216 : Int) = 2 ^ (j + 1) * 2 ^ (23 - j) := by rw [← Int.pow_add, show j + 1 + (23 - j) = 24 by omega]; decide
    have p := two_pos (23 - j)
    have k : D * 2 ^ (j + 1) * 1 ≤ D * 2 ^ (j + 1) * 2 ^ (23 - j) := Int.mul_le_mul_of_nonneg_left (by omega) (Int.mul_nonneg hD (Int.le_of_lt (two_pos _)))
    rw [e]
    rw [two_succ] at *
    generalize (2 : Int) ^ (23 - j) = x at *
    generalize (2 : Int) ^ j = y at *
    grind
  have hc : 0 < c := by omega
  have k : 2 * q * c < (S + 1) * c := by
    have e : 2 * q * c = 2 * (q * c) := by grind
    omega
  have := Int.lt_of_mul_lt_mul_right k (Int.le_of_lt hc)
  omega
theorem divEnd {M c q r : Int} (hq : 0 ≤ q) (hr : 0 ≤ r) (hc : r < c) (h : q * c + r = M) : q = M / c ∧ r = M % c := by
  have hp : 0 < c := by omega
  have e : M / c = q := by
    rw [← h, Int.add_comm, Int.add_mul_ediv_right _ _ (by omega), Int.ediv_eq_zero_of_lt hr hc]; omega
  refine ⟨e.symm, ?_⟩
  have := Int.mul_ediv_add_emod M c
  rw [e] at this
  have : c * q = q * c := Int.mul_comm ..
  omega
/-- the floor of a wide number's quotient, c above 0 -/
theorem floor_neg (M c : Int) (hc : 0 < c) : (-M) / c = if M % c > 0 then -(M / c + 1) else -(M / c) := by
  have e := Int.mul_ediv_add_emod M c
  have h1 := Int.emod_nonneg M (show c ≠ 0 by omega)
  have h2 := Int.emod_lt_of_pos M hc
  split
  · have : -M = (c - M % c) + -(M / c + 1) * c := by grind
    rw [this, Int.add_mul_ediv_right _ _ (by omega), Int.ediv_eq_zero_of_lt (by omega) (by omega)]; omega
  · have : -M = 0 + -(M / c) * c := by grind
    rw [this, Int.add_mul_ediv_right _ _ (by omega), Int.zero_ediv]; omega
def RootI (a : Int) (j : Nat) (r : Int) : Prop := 0 ≤ r ∧ r ≤ 2 ^ 62 - 2 ^ (62 - j) ∧ r * r ≤ a ∧ a < (r + 2 ^ (62 - j)) * (r + 2 ^ (62 - j))
theorem RootI.start {a : Int} (h0 : 0 ≤ a) (h1 : a < 2 ^ 124) : RootI a 0 0 := ⟨by decide, by decide, by simpa using h0, by
  have : ((0 : Int) + 2 ^ (62 - 0)) * (0 + 2 ^ (62 - 0)) = 2 ^ 124 := by decide
  rw [this]; exact h1⟩
theorem RootI.bit {a r : Int} {j : Nat} (hj : j < 62) (h : RootI a j r) : 0 ≤ r + bitOf 62 j ∧ r + bitOf 62 j ≤ 4611686018427387904 - bitOf 62 j ∧ 0 < bitOf 62 j := by
  obtain ⟨h1, h2, h3, h4⟩ := h
  have e : bitOf 62 j = 2 ^ (61 - j) := by unfold bitOf; rw [if_pos hj]
  have e2 : (2 : Int) ^ (62 - j) = 2 * 2 ^ (61 - j) := by rw [← two_succ, show 61 - j + 1 = 62 - j by omega]
  have p := two_pos (61 - j)
  rw [e2, show (2 : Int) ^ 62 = 4611686018427387904 by decide] at h2
  rw [e]
  exact ⟨by omega, by omega, p⟩
theorem RootI.no {a r : Int} {j : Nat} (hj : j < 62) (h : RootI a j r) (hn : a < (r + bitOf 62 j) * (r + bitOf 62 j)) : RootI a (j + 1) r := by
  obtain ⟨h1, h2, h3, h4⟩ := h
  have e : bitOf 62 j = 2 ^ (62 - (j + 1)) := by unfold bitOf; rw [if_pos hj, show 62 - 1 - j = 62 - (j + 1) by omega]
  have e2 : (2 : Int) ^ (62 - j) = 2 * 2 ^ (62 - (j + 1)) := by rw [← two_succ, show 62 - (j + 1) + 1 = 62 - j by omega]
  have p := two_pos (62 - (j + 1))
  rw [e2] at h2
  rw [e] at hn
  exact ⟨h1, by omega, h3, hn⟩
theorem RootI.done {a r : Int} (h : RootI a 62 r) : 0 ≤ r ∧ r * r ≤ a ∧ a < (r + 1) * (r + 1) := by
  obtain ⟨h1, h2, h3, h4⟩ := h
  exact ⟨h1, h3, by simpa using h4⟩
end Go.Proofs.Ytckdhahceelckaa.G
