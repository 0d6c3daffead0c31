/- What the laws of this claim lean on: contracts of the functions that they reach, and plain lemmas; no condition of its own (part 1 of 6; the texts XA, XB, XL1, XW1, XW2, XW3, XW4, XN2, XW5, XW6, XW7, XW8, XW9, XN3, XN1, XN4, XN5, XW10, XW11, XW12, XW13, XN11, XN12, XN13). -/
import Derived.ArgAppend
import Derived.Below
import Derived.BigQuiet
import Derived.Carry
import Derived.ChangeArms
import Derived.ChangeShapes
import Derived.Deep.AppendLies
import Derived.Deep.CutBlock
import Derived.Deep.DeepCutAuto
import Derived.Deep.Draws
import Derived.Deep.LoopGhost
import Derived.Deep.OwnRows
import Derived.Deep.QuietTactic
import Derived.Deep.RegionHeld3
import Derived.IntWalk
import Derived.KernelRfl
import Derived.Laws.BitsAllLaws
import Derived.Laws.BitsLemmas
import Derived.Laws.BytesArg
import Derived.Laws.IdiomCopy
import Derived.Laws.MakeOwn
import Derived.Laws.OwnMore
import Derived.Laws.Rows
import Derived.Laws.Slices
import Derived.Laws.StructEq
import Derived.Lib.AppendStr
import Derived.Lib.AppendZeros
import Derived.Lib.ConvBytes
import Derived.Lib.Hide
import Derived.Lib.SmallJoins
import Derived.Maps.AppendAt
import Derived.OrdersHeld
import Derived.Outline
import Derived.OwnWalk
import Derived.RowKit
import Derived.RowKit3
import Derived.SizedLaws
import Derived.Tactics
import Derived.Tactics2
import Derived.Test.YtckdhahceelckaaProg
import Derived.WalkKit
import Derived.WalkSpells
import Derived.WideLaws
namespace Go.Proofs.YtckdhahceelckaaW.PrintLast
section
variable {P : Program} {ops : Array Oper} {Q : Exit → Act → World → Prop} {md : Region.Mode} {S : World → Prop} {ds : List Nat}
def Region.reachB (md : Region.Mode) (ops : Array Oper) (i : Nat) : Nat → Nat → Bool
  | 0, _ => false
  | fuel + 1, d => match ops[d]? with
    | some o => o.after.any fun e => Region.binds md e && (e.on == i || Region.reachB md ops i fuel e.on)
    | none => false
end
section
variable {P : Program} {ops : Array Oper} {Q : Exit → Act → World → Prop} {md : Region.Mode} {S : World → Prop} {ds : List Nat}
def Region.closedB (md : Region.Mode) (ops : Array Oper) (listed : Array Bool) : Bool :=
  (List.range ops.size).all fun j => !listed.getD j false || match ops[j]? with
    | some o => o.after.all fun e => !Region.binds md e || listed.getD e.on false
    | none => true
end
section
variable {P : Program} {ops : Array Oper} {Q : Exit → Act → World → Prop} {md : Region.Mode} {S : World → Prop} {ds : List Nat}
def Region.lastB (md : Region.Mode) (ops : Array Oper) (listed : Array Bool) (ds : List Nat) (i : Nat) : Bool :=
  ds.all fun d => listed.getD d true || Region.reachB md ops i ops.size d
end
section
variable {P : Program} {ops : Array Oper} {Q : Exit → Act → World → Prop} {md : Region.Mode} {S : World → Prop} {ds : List Nat}
def ListedClosed (md : Region.Mode) (ops : Array Oper) (listed : Array Bool) : Prop :=
  ∀ j oj, ops[j]? = some oj → listed.getD j false = true → ∀ e ∈ oj.after, Region.binds md e = true → listed.getD e.on false = true
end
section
variable {P : Program} {ops : Array Oper} {Q : Exit → Act → World → Prop} {md : Region.Mode} {S : World → Prop} {ds : List Nat}
theorem Region.closedB_spec {listed : Array Bool} (h : Region.closedB md ops listed = true) : ListedClosed md ops listed := by
  intro j oj hj hl e he hb
  have hlt : j < ops.size := (Array.getElem?_eq_some_iff.1 hj).1
  have h1 := List.all_eq_true.1 h j (List.mem_range.2 hlt)
  simp only [hl, hj, Bool.not_true, Bool.false_or] at h1
  have h2 := Array.all_eq_true_iff_forall_mem.1 h1 e he
  simpa [hb] using h2
end
section
variable {P : Program} {ops : Array Oper} {Q : Exit → Act → World → Prop} {md : Region.Mode} {S : World → Prop} {ds : List Nat}
theorem ListedClosed.set {listed : Array Bool} {i : Nat} (h : ListedClosed md ops listed) (hi : i ∈ Region.ready md ops listed) : ListedClosed md ops (listed.setIfInBounds i true) := by
  obtain ⟨_, oi, hoi, hall⟩ := mem_ready.1 hi
  intro j oj hj hl e he hb
  by_cases hij : i = j
  · subst hij
    have : oj = oi := Option.some.inj (hj.symm.trans hoi)
    subst this
    exact getD_set_true (hall e he hb)
  · rw [getD_set_ne false hij] at hl
    exact getD_set_true (h j oj hj hl e he hb)
end
section
variable {P : Program} {ops : Array Oper} {Q : Exit → Act → World → Prop} {md : Region.Mode} {S : World → Prop} {ds : List Nat}
theorem Region.reach_listed {listed : Array Bool} {i : Nat} (hc : ListedClosed md ops listed) : ∀ (fuel d : Nat), Region.reachB md ops i fuel d = true → listed.getD d false = true → listed.getD i false = true
  | 0, _, h, _ => by simp [Region.reachB] at h
  | fuel + 1, d, h, hl => by
    unfold Region.reachB at h
    cases ho : ops[d]? with
    | none => rw [ho] at h; simp at h
    | some o =>
      rw [ho] at h
      obtain ⟨e, he, h1⟩ := Array.any_eq_true'.1 h
      simp only [Bool.and_eq_true, Bool.or_eq_true, beq_iff_eq] at h1
      have hle := hc d o ho hl e he h1.1
      rcases h1.2 with h2 | h2
      · rw [← h2]; exact hle
      · exact Region.reach_listed hc fuel e.on h2 hle
end
section
variable {P : Program} {ops : Array Oper} {Q : Exit → Act → World → Prop} {md : Region.Mode} {S : World → Prop} {ds : List Nat}
theorem Region.reach_not_ready {listed : Array Bool} {i d fuel : Nat} (hc : ListedClosed md ops listed) (hr : Region.reachB md ops i fuel d = true) (hun : listed.getD i true = false) : d ∉ Region.ready md ops listed := by
  intro hd
  obtain ⟨_, o, ho, hall⟩ := mem_ready.1 hd
  have hi : listed.getD i false = true := by
    cases fuel with
    | zero => simp [Region.reachB] at hr
    | succ n =>
      unfold Region.reachB at hr
      rw [ho] at hr
      obtain ⟨e, he, h1⟩ := Array.any_eq_true'.1 hr
      simp only [Bool.and_eq_true, Bool.or_eq_true, beq_iff_eq] at h1
      have hle := hall e he h1.1
      rcases h1.2 with h2 | h2
      · rw [← h2]; exact hle
      · exact Region.reach_listed hc n e.on h2 hle
  rcases Nat.lt_or_ge i listed.size with h' | h'
  · simp [h'] at hun hi
    rw [hun] at hi
    cases hi
  · simp [Array.getElem?_eq_none h'] at hun
end
section
variable {P : Program} {ops : Array Oper} {Q : Exit → Act → World → Prop} {md : Region.Mode} {S : World → Prop} {ds : List Nat}
def wpAnyLast (P : Program) (md : Region.Mode) (ops : Array Oper) (Q : Exit → Act → World → Prop) (S : World → Prop) (ds : List Nat) : Nat → Array Bool → Act → World → Prop
  | 0, listed, a, w => Region.ready md ops listed = [] ∧ Q .normal a w
  | fuel + 1, listed, a, w =>
    (Region.ready md ops listed = [] → Q .normal a w) ∧
    ∀ i ∈ Region.ready md ops listed, wpOp P ops Q i (fun a' w' => (i ∉ ds → S w → S w') ∧ wpAnyLast P md ops Q S ds fuel (listed.setIfInBounds i true) a' w') a w
end
section
variable {P : Program} {ops : Array Oper} {Q : Exit → Act → World → Prop} {md : Region.Mode} {S : World → Prop} {ds : List Nat}
theorem wpAny_of_last : ∀ (fuel : Nat) (listed : Array Bool) (a : Act) (w : World), wpAnyLast P md ops Q S ds fuel listed a w → wpAny P md ops Q fuel listed a w
  | 0, _, _, _, h => h
  | fuel + 1, _, _, _, h => ⟨h.1, fun i hi => wpOp_mono (fun a' w' h' => wpAny_of_last fuel _ a' w' h'.2) (h.2 i hi)⟩
end
section
variable {P : Program} {ops : Array Oper} {Q : Exit → Act → World → Prop} {md : Region.Mode} {S : World → Prop} {ds : List Nat}
theorem wpAnyLast_first {i : Nat} {oi : Oper} {v : Value} (hi : ops[i]? = some oi) (hsel : ∀ (j : Nat) (o : Oper) cs b, ops[j]? = some o → o.op ≠ .select cs b)
    (hQ : ∀ c a w, Q (.panic c) (a.put oi.dst v) w → Q (.panic c) a w) (n : Nat) :
    ∀ (fuel : Nat) (listed : Array Bool) (a : Act) (w : World),
      (∀ j oj, ops[j]? = some oj → j ≠ i → listed.getD j true = false → (∀ e ∈ oj.after, Region.binds md e = true → e.on ≠ i) → oi.apart ops oj = true) →
      ListedClosed md ops listed → (∀ d ∈ ds, listed.getD d true = false → Region.reachB md ops i n d = true) →
      i ∈ Region.ready md ops listed → YieldsIf P ops S oi v a → S w →
      wpAnyLast P md ops Q S ds fuel (listed.setIfInBounds i true) (a.put oi.dst v) w → wpAnyLast P md ops Q S ds (fuel + 1) listed a w := by
  intro fuel
  induction fuel with
  | zero =>
    intro listed a w _ _ _ hr hy hS H
    refine ⟨fun h => (by rw [h] at hr; cases hr), fun j hj => ?_⟩
    by_cases hji : j = i
    · subst hji; exact hy.wpOp hi hS ⟨fun _ h => h, H⟩
    · have := ready_mono hj hji
      rw [H.1] at this
      cases this
  | succ fuel ih =>
    intro listed a w hfree hc hd hr hy hS H
    refine ⟨fun h => (by rw [h] at hr; cases hr), fun j hj => ?_⟩
    by_cases hji : j = i
    · subst hji; exact hy.wpOp hi hS ⟨fun _ h => h, H⟩
    · have h1 := H.2 j (ready_mono hj hji)
      obtain ⟨hjun, oj, hoj, hall⟩ := mem_ready.1 hj
      have hiun := (mem_ready.1 hr).1
      have hnot : ∀ e ∈ oj.after, Region.binds md e = true → e.on ≠ i := fun e he hb heq => by
        have h1 := hall e he hb
        rw [heq] at h1
        rcases Nat.lt_or_ge i listed.size with h' | h'
        · simp [h'] at hiun h1; rw [hiun] at h1; cases h1
        · simp [Array.getElem?_eq_none h'] at h1
      have hjd : j ∉ ds := fun hm => Region.reach_not_ready hc (hd j hm hjun) hiun hj
      have h2 := wpOp_putIf hoj (hfree j oj hoj hji hjun hnot) (fun cs b => hsel i oi cs b hi) (fun cs b => hsel j oj cs b hoj) hQ hy h1
      have hfree' : ∀ k ok, ops[k]? = some ok → k ≠ i → (listed.setIfInBounds j true).getD k true = false →
          (∀ e ∈ ok.after, Region.binds md e = true → e.on ≠ i) → oi.apart ops ok = true := fun k ok hk hki hun hno => by
        refine hfree k ok hk hki ?_ hno
        by_cases hjk : j = k
        · subst hjk; exact hjun
        · rw [getD_set_ne true hjk] at hun; exact hun
      have hd' : ∀ d ∈ ds, (listed.setIfInBounds j true).getD d true = false → Region.reachB md ops i n d = true := fun d hm hun => by
        refine hd d hm ?_
        by_cases hjk : j = d
        · subst hjk; exact hjun
        · rw [getD_set_ne true hjk] at hun; exact hun
      refine wpOp_mono (fun a' w' h3 => ⟨h3.2.1, ih (listed.setIfInBounds j true) a' w' hfree' (hc.set hj) hd' (ready_mono hr (Ne.symm hji)) h3.1 (h3.2.1 hjd hS) ?_⟩) h2
      rw [Array.setIfInBounds_comm _ _ hji]
      exact h3.2.2
end
section
variable {P : Program} {ops : Array Oper} {Q : Exit → Act → World → Prop} {md : Region.Mode} {S : World → Prop} {ds : List Nat}
theorem wpAnyLast_any {i : Nat} {oi : Oper} {v : Value} (hi : ops[i]? = some oi) (hsel : ∀ (j : Nat) (o : Oper) cs b, ops[j]? = some o → o.op ≠ .select cs b)
    (hQ : ∀ c a w, Q (.panic c) (a.put oi.dst v) w → Q (.panic c) a w) :
    ∀ (fuel : Nat) (listed : Array Bool) (a : Act) (w : World),
      (∀ j oj, ops[j]? = some oj → j ≠ i → listed.getD j true = false → (∀ e ∈ oj.after, Region.binds md e = true → e.on ≠ i) → oi.apart ops oj = true) →
      i ∈ Region.ready md ops listed → Yields P ops oi v a →
      wpAnyLast P md ops Q S ds fuel (listed.setIfInBounds i true) (a.put oi.dst v) w → wpAnyLast P md ops Q S ds (fuel + 1) listed a w := by
  intro fuel
  induction fuel with
  | zero =>
    intro listed a w _ hr hy H
    refine ⟨fun h => (by rw [h] at hr; cases hr), fun j hj => ?_⟩
    by_cases hji : j = i
    · subst hji; exact (hy.yieldsIf (S := fun _ => True)).wpOp hi trivial ⟨fun _ h => h, H⟩
    · have := ready_mono hj hji
      rw [H.1] at this
      cases this
  | succ fuel ih =>
    intro listed a w hfree hr hy H
    refine ⟨fun h => (by rw [h] at hr; cases hr), fun j hj => ?_⟩
    by_cases hji : j = i
    · subst hji; exact (hy.yieldsIf (S := fun _ => True)).wpOp hi trivial ⟨fun _ h => h, H⟩
    · have h1 := H.2 j (ready_mono hj hji)
      obtain ⟨hjun, oj, hoj, hall⟩ := mem_ready.1 hj
      have hiun := (mem_ready.1 hr).1
      have hnot : ∀ e ∈ oj.after, Region.binds md e = true → e.on ≠ i := fun e he hb heq => by
        have h1 := hall e he hb
        rw [heq] at h1
        rcases Nat.lt_or_ge i listed.size with h' | h'
        · simp [h'] at hiun h1; rw [hiun] at h1; cases h1
        · simp [Array.getElem?_eq_none h'] at h1
      have h2 := wpOp_put hoj (hfree j oj hoj hji hjun hnot) (fun cs b => hsel i oi cs b hi) (fun cs b => hsel j oj cs b hoj) hQ hy h1
      have hfree' : ∀ k ok, ops[k]? = some ok → k ≠ i → (listed.setIfInBounds j true).getD k true = false →
          (∀ e ∈ ok.after, Region.binds md e = true → e.on ≠ i) → oi.apart ops ok = true := fun k ok hk hki hun hno => by
        refine hfree k ok hk hki ?_ hno
        by_cases hjk : j = k
        · subst hjk; exact hjun
        · rw [getD_set_ne true hjk] at hun; exact hun
      refine wpOp_mono (fun a' w' h3 => ⟨h3.2.1, ih (listed.setIfInBounds j true) a' w' hfree' (ready_mono hr (Ne.symm hji)) h3.1 ?_⟩) h2
      rw [Array.setIfInBounds_comm _ _ hji]
      exact h3.2.2
end
section
variable {P : Program} {ops : Array Oper} {Q : Exit → Act → World → Prop} {md : Region.Mode} {S : World → Prop} {ds : List Nat}
theorem wpAnyLast_take {i : Nat} {oi : Oper} {v : Value} {fuel : Nat} {listed : Array Bool} {a : Act} {w : World} (hi : ops[i]? = some oi)
    (hs : Region.noSelect ops = true) (hf : Region.free md ops listed i = true) (hr : (Region.ready md ops listed).contains i = true)
    (hc : Region.closedB md ops listed = true) (hl : Region.lastB md ops listed ds i = true)
    (hQ : ∀ c a w, Q (.panic c) (a.put oi.dst v) w → Q (.panic c) a w) (hy : YieldsIf P ops S oi v a) (hS : S w)
    (h : wpAnyLast P md ops Q S ds fuel (listed.setIfInBounds i true) (a.put oi.dst v) w) : wpAnyLast P md ops Q S ds (fuel + 1) listed a w :=
  wpAnyLast_first hi (Region.noSelect_spec hs) hQ ops.size fuel listed a w (Region.free_spec hi hf) (Region.closedB_spec hc)
    (fun d hm hun => by have := List.all_eq_true.1 hl d hm; rw [hun] at this; simpa using this) (by simpa using hr) hy hS h
end
section
variable {P : Program} {ops : Array Oper} {Q : Exit → Act → World → Prop} {md : Region.Mode} {S : World → Prop} {ds : List Nat}
theorem wpAnyLast_all {rs : List Nat} {fuel : Nat} {listed : Array Bool} {a : Act} {w : World} (hr : Region.ready md ops listed = rs) (hne : rs ≠ [])
    (h : ∀ i ∈ rs, wpOp P ops Q i (fun a' w' => (i ∉ ds → S w → S w') ∧ wpAnyLast P md ops Q S ds fuel (listed.setIfInBounds i true) a' w') a w) : wpAnyLast P md ops Q S ds (fuel + 1) listed a w :=
  ⟨fun h0 => absurd (hr ▸ h0) hne, hr ▸ h⟩
end
section
variable {P : Program} {ops : Array Oper} {Q : Exit → Act → World → Prop} {md : Region.Mode} {S : World → Prop} {ds : List Nat}
theorem wpAnyLast_done {listed : Array Bool} {a : Act} {w : World} (hr : Region.ready md ops listed = []) (h : Q .normal a w) :
    ∀ fuel, wpAnyLast P md ops Q S ds fuel listed a w
  | 0 => ⟨hr, h⟩
  | _ + 1 => ⟨fun _ => h, by rw [hr]; simp⟩
end
section
variable {P : Program} {ops : Array Oper} {Q : Exit → Act → World → Prop} {md : Region.Mode} {S : World → Prop} {ds : List Nat}
theorem wp_region_last {id : Nat} {a : Act} {w : World} (hm : P.follows .mixedOrders = true)
    (h : wpAnyLast P .any ops Q S ds ops.size (Array.replicate ops.size false) a { w with drawn := w.drawn + 1 }) : (Code.region id ops true).wp P Q a w :=
  wp_region_any hm (wpAny_of_last _ _ _ _ h)
end
section
variable {P : Program} {ops : Array Oper} {Q : Exit → Act → World → Prop} {md : Region.Mode} {S : World → Prop} {ds : List Nat}
def AllReadyL (P : Program) (md : Region.Mode) (ops : Array Oper) (Q : Exit → Act → World → Prop) (S : World → Prop) (ds : List Nat) (fuel : Nat) (listed : Array Bool) (a : Act) (w : World) (rs : List Nat) : Prop :=
  ∀ i ∈ rs, wpOp P ops Q i (fun a' w' => (i ∉ ds → S w → S w') ∧ wpAnyLast P md ops Q S ds fuel (listed.setIfInBounds i true) a' w') a w
end
section
variable {P : Program} {ops : Array Oper} {Q : Exit → Act → World → Prop} {md : Region.Mode} {S : World → Prop} {ds : List Nat}
theorem AllReadyL.nil {fuel : Nat} {listed : Array Bool} {a : Act} {w : World} : AllReadyL P md ops Q S ds fuel listed a w [] := fun _ h => by cases h
end
section
variable {P : Program} {ops : Array Oper} {Q : Exit → Act → World → Prop} {md : Region.Mode} {S : World → Prop} {ds : List Nat}
theorem AllReadyL.cons {fuel : Nat} {listed : Array Bool} {a : Act} {w : World} {i : Nat} {o : Oper} {rs : List Nat} (ho : ops[i]? = some o) (hd : i ∉ ds)
    (h : ∀ K' : Act → World → Prop, Shut (∀ a w, S w → (S w → wpAnyLast P md ops Q S ds fuel (listed.setIfInBounds i true) a w) → K' a w) → if Region.wanted o (yielded ops a.tmps) = true then Oper.wp P o a w K' Q else K' (a.put o.dst undef) w)
    (hs : AllReadyL P md ops Q S ds fuel listed a w rs) : AllReadyL P md ops Q S ds fuel listed a w (i :: rs) := fun j hj => by
  rcases List.mem_cons.1 hj with rfl | hj
  · exact wpOp_step ho (fun K' hK => h K' (fun a w hS hW => hK a w ⟨fun _ _ => hS, hW hS⟩))
  · exact hs j hj
end
section
variable {P : Program} {ops : Array Oper} {Q : Exit → Act → World → Prop} {md : Region.Mode} {S : World → Prop} {ds : List Nat}
theorem AllReadyL.cons_last {fuel : Nat} {listed : Array Bool} {a : Act} {w : World} {i : Nat} {o : Oper} {rs : List Nat} (ho : ops[i]? = some o) (hd : i ∈ ds)
    (h : ∀ K' : Act → World → Prop, Shut (∀ a w, wpAnyLast P md ops Q S ds fuel (listed.setIfInBounds i true) a w → K' a w) → if Region.wanted o (yielded ops a.tmps) = true then Oper.wp P o a w K' Q else K' (a.put o.dst undef) w)
    (hs : AllReadyL P md ops Q S ds fuel listed a w rs) : AllReadyL P md ops Q S ds fuel listed a w (i :: rs) := fun j hj => by
  rcases List.mem_cons.1 hj with rfl | hj
  · exact wpOp_step ho (fun K' hK => h K' (fun a w hW => hK a w ⟨fun hn => absurd hd hn, hW⟩))
  · exact hs j hj
end
section
variable {P : Program} {ops : Array Oper} {Q : Exit → Act → World → Prop} {md : Region.Mode} {S : World → Prop} {ds : List Nat}
theorem wpAnyLast_ready {rs : List Nat} {fuel : Nat} {listed : Array Bool} {a : Act} {w : World} (hr : Region.ready md ops listed = rs) (hne : rs ≠ [])
    (h : AllReadyL P md ops Q S ds fuel listed a w rs) : wpAnyLast P md ops Q S ds (fuel + 1) listed a w := wpAnyLast_all hr hne h
end
section
variable {P : Program} {ops : Array Oper} {Q : Exit → Act → World → Prop} {md : Region.Mode} {S : World → Prop} {ds : List Nat}
theorem start_ {id n : Nat} {a : Act} {w : World} (l : Array Bool) (hm : P.follows .mixedOrders = true) (hn : ops.size = n) (hl : Array.replicate n false = l) (hS : S w.drew)
    (h : S w.drew → wpAnyLast P .any ops Q S ds n l a w.drew) : (Code.region id ops true).wp P Q a w := by
  subst hn
  subst hl
  exact wp_region_last hm (h hS)
end
section
variable {P : Program} {ops : Array Oper} {Q : Exit → Act → World → Prop} {md : Region.Mode} {S : World → Prop} {ds : List Nat}
def takeB (md : Region.Mode) (ops : Array Oper) (ds : List Nat) (l l' : Array Bool) (i : Nat) : Bool :=
  Region.noSelect ops && Region.free md ops l i && (Region.ready md ops l).contains i && Region.closedB md ops l && Region.lastB md ops l ds i && (l.setIfInBounds i true == l')
end
section
variable {P : Program} {ops : Array Oper} {Q : Exit → Act → World → Prop} {md : Region.Mode} {S : World → Prop} {ds : List Nat}
theorem take_ {i : Nat} {N : Option Tmp} {oi : Oper} {v : Value} {fuel : Nat} {l : Array Bool} {a : Act} {w : World} (l' : Array Bool) (hi : ops[i]? = some oi) (hN : oi.dst = N) (hc : takeB md ops ds l l' i = true)
    (hQ : ∀ c a w, Q (.panic c) (a.put oi.dst v) w → Q (.panic c) a w) (hy : YieldsIf P ops S oi v a) (hS : S w) {a' : Act} (ha : a.put N v = a')
    (h : wpAnyLast P md ops Q S ds fuel l' a' w) : wpAnyLast P md ops Q S ds (fuel + 1) l a w := by
  subst ha
  subst hN
  simp only [takeB, Bool.and_eq_true, beq_iff_eq] at hc
  obtain ⟨⟨⟨⟨⟨h1, h2⟩, h3⟩, h4⟩, h5⟩, h6⟩ := hc
  subst h6
  exact wpAnyLast_take hi h1 h2 h3 h4 h5 hQ hy hS h
end
section
variable {P : Program} {ops : Array Oper} {Q : Exit → Act → World → Prop} {md : Region.Mode} {S : World → Prop} {ds : List Nat}
def anyB (md : Region.Mode) (ops : Array Oper) (l l' : Array Bool) (i : Nat) : Bool :=
  Region.noSelect ops && Region.free md ops l i && (Region.ready md ops l).contains i && (l.setIfInBounds i true == l')
end
section
variable {P : Program} {ops : Array Oper} {Q : Exit → Act → World → Prop} {md : Region.Mode} {S : World → Prop} {ds : List Nat}
theorem pure_ {i : Nat} {N : Option Tmp} {oi : Oper} {v : Value} {fuel : Nat} {l : Array Bool} {a : Act} {w : World} (l' : Array Bool) (hi : ops[i]? = some oi) (hN : oi.dst = N) (hc : anyB md ops l l' i = true)
    (hQ : ∀ c a w, Q (.panic c) (a.put oi.dst v) w → Q (.panic c) a w) (hy : Yields P ops oi v a) {a' : Act} (ha : a.put N v = a')
    (h : wpAnyLast P md ops Q S ds fuel l' a' w) : wpAnyLast P md ops Q S ds (fuel + 1) l a w := by
  subst ha
  subst hN
  simp only [anyB, Bool.and_eq_true, beq_iff_eq] at hc
  obtain ⟨⟨⟨h1, h2⟩, h3⟩, h6⟩ := hc
  subst h6
  exact wpAnyLast_any hi (Region.noSelect_spec h1) hQ fuel l a w (Region.free_spec hi h2) (by simpa using h3) hy h
end
section
variable {P : Program} {ops : Array Oper} {Q : Exit → Act → World → Prop} {md : Region.Mode} {S : World → Prop} {ds : List Nat}
def readyB (md : Region.Mode) (ops : Array Oper) (l l' : Array Bool) (i : Nat) : Bool := (Region.ready md ops l == [i]) && (l.setIfInBounds i true == l')
end
section
variable {P : Program} {ops : Array Oper} {Q : Exit → Act → World → Prop} {md : Region.Mode} {S : World → Prop} {ds : List Nat}
theorem one_ {i : Nat} {N : Option Tmp} {oi : Oper} {fuel : Nat} {l : Array Bool} {a : Act} {w : World} (l' : Array Bool) (hi : ops[i]? = some oi) (hN : oi.dst = N) (hc : readyB md ops l l' i = true) (hd : i ∉ ds)
    (h : ∀ K : Act → World → Prop, Shut (∀ a' w', S w' → (S w' → wpAnyLast P md ops Q S ds fuel l' a' w') → K a' w') → if Region.wanted oi (yielded ops a.tmps) = true then Oper.wp P oi a w K Q else K (a.put N undef) w) :
    wpAnyLast P md ops Q S ds (fuel + 1) l a w := by
  subst hN
  simp only [readyB, Bool.and_eq_true, beq_iff_eq] at hc
  obtain ⟨h1, h2⟩ := hc
  subst h2
  exact wpAnyLast_ready h1 (by simp) (AllReadyL.cons hi hd (fun K hK => h K hK) AllReadyL.nil)
end
section
variable {P : Program} {ops : Array Oper} {Q : Exit → Act → World → Prop} {md : Region.Mode} {S : World → Prop} {ds : List Nat}
theorem last_ {i : Nat} {N : Option Tmp} {oi : Oper} {fuel : Nat} {l : Array Bool} {a : Act} {w : World} (l' : Array Bool) (hi : ops[i]? = some oi) (hN : oi.dst = N) (hc : readyB md ops l l' i = true) (hd : i ∈ ds)
    (h : ∀ K : Act → World → Prop, Shut (∀ a' w', wpAnyLast P md ops Q S ds fuel l' a' w' → K a' w') → if Region.wanted oi (yielded ops a.tmps) = true then Oper.wp P oi a w K Q else K (a.put N undef) w) :
    wpAnyLast P md ops Q S ds (fuel + 1) l a w := by
  subst hN
  simp only [readyB, Bool.and_eq_true, beq_iff_eq] at hc
  obtain ⟨h1, h2⟩ := hc
  subst h2
  exact wpAnyLast_ready h1 (by simp) (AllReadyL.cons_last hi hd (fun K hK => h K hK) AllReadyL.nil)
end
section
variable {P : Program} {ops : Array Oper} {Q : Exit → Act → World → Prop} {md : Region.Mode} {S : World → Prop} {ds : List Nat}
theorem done_ {l : Array Bool} {a : Act} {w : World} {n : Nat} (hr : (Region.ready md ops l == []) = true) (h : Q .normal a w) : wpAnyLast P md ops Q S ds n l a w := wpAnyLast_done (by simpa using hr) h n
end
section
variable {P : Program} {ops : Array Oper} {Q : Exit → Act → World → Prop} {md : Region.Mode} {S : World → Prop} {ds : List Nat}
theorem two_ {i j : Nat} {Ni Nj : Option Tmp} {oi oj : Oper} {fuel : Nat} {l : Array Bool} {a : Act} {w : World} (li lj : Array Bool) (hi : ops[i]? = some oi) (hj : ops[j]? = some oj) (hNi : oi.dst = Ni) (hNj : oj.dst = Nj)
    (hc : (Region.ready md ops l == [i, j] && l.setIfInBounds i true == li && l.setIfInBounds j true == lj) = true) (hdi : i ∉ ds) (hdj : j ∉ ds)
    (h1 : ∀ K : Act → World → Prop, Shut (∀ a' w', S w' → (S w' → wpAnyLast P md ops Q S ds fuel li a' w') → K a' w') → if Region.wanted oi (yielded ops a.tmps) = true then Oper.wp P oi a w K Q else K (a.put Ni undef) w)
    (h2 : ∀ K : Act → World → Prop, Shut (∀ a' w', S w' → (S w' → wpAnyLast P md ops Q S ds fuel lj a' w') → K a' w') → if Region.wanted oj (yielded ops a.tmps) = true then Oper.wp P oj a w K Q else K (a.put Nj undef) w) :
    wpAnyLast P md ops Q S ds (fuel + 1) l a w := by
  subst hNi
  subst hNj
  simp only [Bool.and_eq_true, beq_iff_eq] at hc
  obtain ⟨⟨h3, h4⟩, h5⟩ := hc
  subst h4
  subst h5
  exact wpAnyLast_ready h3 (by simp) (AllReadyL.cons hi hdi (fun K hK => h1 K hK) (AllReadyL.cons hj hdj (fun K hK => h2 K hK) AllReadyL.nil))
end
section
variable {P : Program} {ops : Array Oper} {Q : Exit → Act → World → Prop} {md : Region.Mode} {S : World → Prop} {ds : List Nat}
def putAll : Act → List (Tmp × Value) → Act
  | a, [] => a
  | a, (n, v) :: r => putAll (a.put (some n) v) r
end
section
variable {P : Program} {ops : Array Oper} {Q : Exit → Act → World → Prop} {md : Region.Mode} {S : World → Prop} {ds : List Nat}
theorem join_ {σ : Type} {fuel : Nat} {l : Array Bool} {a : Act} {w : World} (fuel' : Nat) (l' : Array Bool) (ns : σ → List (Tmp × Value)) (F : σ → World → Prop)
    (hcont : ∀ s w', F s w' → wpAnyLast P md ops Q S ds fuel' l' (putAll a (ns s)) w')
    (h : (∀ s w', F s w' → wpAnyLast P md ops Q S ds fuel' l' (putAll a (ns s)) w') → wpAnyLast P md ops Q S ds fuel l a w) : wpAnyLast P md ops Q S ds fuel l a w := h hcont
end
section
variable {P : Program} {ops : Array Oper} {Q : Exit → Act → World → Prop} {md : Region.Mode} {S : World → Prop} {ds : List Nat}
theorem norm_ {fuel : Nat} {l : Array Bool} {a a' : Act} {w : World} (ha : a = a') (h : wpAnyLast P md ops Q S ds fuel l a' w) : wpAnyLast P md ops Q S ds fuel l a w := by
  subst ha
  exact h
end
section
variable {P : Program} {ops : Array Oper} {Q : Exit → Act → World → Prop} {md : Region.Mode} {S : World → Prop} {ds : List Nat}
theorem call_ {oi : Oper} {N : Option Tmp} {a : Act} {w : World} {K : Act → World → Prop} (f : FuncId) (args : Array Value) (hw : Region.wanted oi (yielded ops a.tmps) = true) (hN : oi.dst = N) (hrun : (execOp a.eval oi).run P w = .ok (.enter f args) w)
    (h : Calls P f args w fun e w' => ∃ v, e = .returned v ∧ K (a.put N v) w') : if Region.wanted oi (yielded ops a.tmps) = true then Oper.wp P oi a w K Q else K (a.put N undef) w := by
  rw [if_pos hw]
  subst hN
  unfold Oper.wp
  rw [hrun, Oper.upon_enter]
  refine h.mono fun e w'' hh => ?_
  obtain ⟨v, rfl, hk⟩ := hh
  exact hk
end
section
variable {P : Program} {ops : Array Oper} {Q : Exit → Act → World → Prop} {md : Region.Mode} {S : World → Prop} {ds : List Nat}
theorem enters_ {f : FuncId} {fn : Func} (hf : P.funcs[f]? = some fn) (hname : (fn.name == "runtime.NumGoroutine") = false) (hb : fn.body.isSome = true) (args : Array Value) (w : World) : (callFunc f args).run P w = .ok (.enter f args) w := by
  have h1 : fn.name ≠ "runtime.NumGoroutine" := by simpa using hname
  obtain ⟨c, hc⟩ := Option.isSome_iff_exists.1 hb
  simp [callFunc, hf, h1, hc]
end
section
variable {P : Program} {ops : Array Oper} {Q : Exit → Act → World → Prop} {md : Region.Mode} {S : World → Prop} {ds : List Nat}
theorem goes_ {oi : Oper} {N : Option Tmp} {a : Act} {w : World} {K : Act → World → Prop} {f : FuncId} {fn : Func} {os : Array Operand} {ts : Array TypeId} (hf : P.funcs[f]? = some fn) (hname : (fn.name == "runtime.NumGoroutine") = false) (hb : fn.body.isSome = true) (args : Array Value)
    (hw : Region.wanted oi (yielded ops a.tmps) = true) (hN : oi.dst = N) (hop : oi.op = .call { callee := .value (.func f), args := os, argTypes := ts }) (hargs : os.map a.eval = args)
    (h : Calls P f args w fun e w' => ∃ v, e = .returned v ∧ K (a.put N v) w') : if Region.wanted oi (yielded ops a.tmps) = true then Oper.wp P oi a w K Q else K (a.put N undef) w := by
  refine call_ f args hw hN ?_ h
  have he := enters_ hf hname hb args w
  unfold execOp
  simp [hop, resolve, Deferred.ofValue, invoke, Act.eval, hargs, he]
end
section
variable {P : Program} {ops : Array Oper} {Q : Exit → Act → World → Prop} {md : Region.Mode} {S : World → Prop} {ds : List Nat}
theorem value_ {oi : Oper} {N : Option Tmp} {a : Act} {w w1 : World} {v : Value} {K : Act → World → Prop} (hw : Region.wanted oi (yielded ops a.tmps) = true) (hN : oi.dst = N) (hrun : (execOp a.eval oi).run P w = .ok (.value v) w1)
    (h : K (a.put N v) w1) : if Region.wanted oi (yielded ops a.tmps) = true then Oper.wp P oi a w K Q else K (a.put N undef) w := by
  rw [if_pos hw]
  subst hN
  unfold Oper.wp
  rw [hrun]
  exact h
end
section
variable {P : Program} {ops : Array Oper} {Q : Exit → Act → World → Prop} {md : Region.Mode} {S : World → Prop} {ds : List Nat}
theorem skip_ {oi : Oper} {a : Act} {w w1 : World} {K : Act → World → Prop} (hw : Region.wanted oi (yielded ops a.tmps) = true) (hN : oi.dst = none) (hrun : (execOp a.eval oi).run P w = .ok .skip w1)
    (h : K a w1) : if Region.wanted oi (yielded ops a.tmps) = true then Oper.wp P oi a w K Q else K (a.put none undef) w := by
  rw [if_pos hw]
  unfold Oper.wp
  rw [hrun]
  show K (a.put oi.dst undef) w1
  rw [hN]
  exact h
end
section
variable {P : Program} {ops : Array Oper} {Q : Exit → Act → World → Prop} {md : Region.Mode} {S : World → Prop} {ds : List Nat}
theorem i64_w (n : Int) : IntKind.i64.wrap n = Go.RowKit.wrap64 n := by unfold Go.RowKit.wrap64; exact IntKind.wrap_i64 n
end
section
variable {P : Program} {ops : Array Oper} {Q : Exit → Act → World → Prop} {md : Region.Mode} {S : World → Prop} {ds : List Nat}
theorem i32_w (n : Int) : IntKind.i32.wrap n = Go.RowKit.wrap32 n := by unfold Go.RowKit.wrap32; exact IntKind.wrap_i32 n
end
end Go.Proofs.YtckdhahceelckaaW.PrintLast
namespace Go.Proofs.YtckdhahceelckaaW.PrintWords
open Go.RowKit
theorem pw_below_drewN {B : Nat} {w W : World} (h : Below B w W) (n : Nat) : Below B w (W.drewN n) := ⟨h.os, h.tape, h.output, h.size, h.block⟩
theorem grown_of_below {w w1 : World} (h : Below w.heap.size w w1) (row : Option Nat) : w.grownBy w1 row := ⟨h.os, h.tape, h.output, h.size, fun i hi _ => h.block i hi⟩
open Go.RowKit
theorem own_base {w : World} {base : Nat} {e : TypeId} {size n : Nat} {v : Value} {xs : List Value} (h : w.ownsRow base e size v n xs) (k : Nat) (hk : v.ownBlock = some k) : base ≤ k := by
  rcases h.2 with ⟨rfl, _⟩ | ⟨g, cap, cur, rfl, hb, _⟩
  · simp [Value.ownBlock] at hk
  · have : g = k := by simpa [Value.ownBlock] using hk
    omega
theorem pw_own_below {w w1 : World} {base : Nat} {e : TypeId} {size n : Nat} {v : Value} {xs : List Value} (h : w.ownsRow base e size v n xs) (hb : Below w.heap.size w w1) : w1.ownsRow base e size v n xs :=
  h.kept (grown_of_below hb none) (by cases v.ownBlock <;> simp)
open Go.RowKit
theorem own_setCell {w : World} {base : Nat} {e : TypeId} {size n : Nat} {v : Value} {xs : List Value} (h : w.ownsRow base e size v n xs) {p : Addr} (hne : some p.block ≠ v.ownBlock) (u : Value) : (w.setCell p u).ownsRow base e size v n xs := by
  obtain ⟨h1, h2⟩ := h
  refine ⟨h1, ?_⟩
  rcases h2 with h2 | ⟨g, cap, cur, rfl, hg, hh, r⟩
  · exact .inl h2
  · exact .inr ⟨g, cap, cur, rfl, hg, by rw [Below.heap_setCell _ _ _ _ (fun e => hne (by rw [e]; rfl))]; exact hh, r⟩
theorem blk_lt {w : World} {g : Nat} {o : Obj} (h : w.heap[g]? = some o) : g < w.heap.size := (Array.getElem?_eq_some_iff.1 h).1
open Go.RowKit
theorem blk_cell {w : World} {g : Nat} {t : TypeId} {cs : Array Value} (h : w.heap[g]? = some (.cells cs t (0, 0))) (i : Nat) : w.cell? ⟨g, i, none⟩ = cs[i]? := cell_of_row w g i cs t (0, 0) h
theorem blk_frozen {w : World} {g : Nat} {t : TypeId} {cs : Array Value} (h : w.heap[g]? = some (.cells cs t (0, 0))) (i : Nat) : w.frozen? ⟨g, i, none⟩ = false := by simp [World.frozen?, h]
open Go.RowKit
theorem own_weaken {w : World} {base base' : Nat} {e : TypeId} {size n : Nat} {v : Value} {xs : List Value} (h : w.ownsRow base e size v n xs) (hb : base' ≤ base) : w.ownsRow base' e size v n xs := by
  obtain ⟨h1, h2⟩ := h
  refine ⟨h1, ?_⟩
  rcases h2 with h2 | ⟨g, cap, cur, rfl, hg, r⟩
  · exact .inl h2
  · exact .inr ⟨g, cap, cur, rfl, Nat.le_trans hb hg, r⟩
theorem blk_alloc {w : World} {g : Nat} {o : Obj} (h : w.heap[g]? = some o) (o' : Obj) : (w.alloc o').heap[g]? = some o := (Below.heap_alloc w o' g (blk_lt h)).trans h
open Go.RowKit
theorem blk_below {w w1 : World} {g : Nat} {o : Obj} (h : w.heap[g]? = some o) (hb : Below w.heap.size w w1) : w1.heap[g]? = some o := (hb.block g (blk_lt h)).trans h
section
variable {P : Program}
theorem cut_from (t e : TypeId) (kl : IntKind) {i : TypeInfo} (ht : P.underlying t = some (.slice e)) (hi : P.info? e = some i) (size : Nat) (hsz : i.size = size) (A : Option Addr) (n c : Nat) (j : Int) (h0 : 0 ≤ j) (hm : j ≤ n) :
    ∀ W : World, (Instr.slice t (.slice A n c) (some (.int kl j)) none none).run P W = .ok (.slice (if c = j.toNat then A else A.map (·.add (j.toNat * size))) (n - j.toNat) (c - j.toNat)) W := by
  intro W
  have hel : P.elem t = e := by simp [Program.elem, ht]
  have hu : P.underlying t = some (.slice (P.elem t)) := by rw [hel]; exact ht
  rw [run_slice_l W t A n c hu kl j h0 hm, hel]
  simp [sizeOf, typeInfo, hi, hsz, sliced, Result.andThen]
end
end Go.Proofs.YtckdhahceelckaaW.PrintWords
namespace Go.Proofs.YtckdhahceelckaaW.PrintMore
open Go.RowKit Go.Proofs.YtckdhahceelckaaW.PrintWords
theorem max2_int (k k' : IntKind) (x y : Int) : Builtin.max2 (.int k x) (.int k' y) = pure (.int k (if x < y then y else x)) := by simp only [Builtin.max2, gt_iff_lt]
theorem min2_int (k k' : IntKind) (x y : Int) : Builtin.min2 (.int k x) (.int k' y) = pure (.int k (if y < x then y else x)) := by simp only [Builtin.min2]
open Go.RowKit Go.Proofs.YtckdhahceelckaaW.PrintWords
theorem max_two (ats : Array TypeId) (ty : TypeId) (a b : Value) : Builtin.max_ ats ty #[a, b] = (Builtin.max2 a b >>= fun s => pure s) := by simp only [Builtin.max_, List.foldlM_cons, List.foldlM_nil]
theorem min_two (ats : Array TypeId) (ty : TypeId) (a b : Value) : Builtin.min_ ats ty #[a, b] = (Builtin.min2 a b >>= fun s => pure s) := by simp only [Builtin.min_, List.foldlM_cons, List.foldlM_nil]
open Go.RowKit Go.Proofs.YtckdhahceelckaaW.PrintWords
theorem max_three (ats : Array TypeId) (ty : TypeId) (a b c : Value) : Builtin.max_ ats ty #[a, b, c] = (Builtin.max2 a b >>= fun s => Builtin.max2 s c >>= fun s => pure s) := by simp only [Builtin.max_, List.foldlM_cons, List.foldlM_nil]
theorem min_three (ats : Array TypeId) (ty : TypeId) (a b c : Value) : Builtin.min_ ats ty #[a, b, c] = (Builtin.min2 a b >>= fun s => Builtin.min2 s c >>= fun s => pure s) := by simp only [Builtin.min_, List.foldlM_cons, List.foldlM_nil]
open Go.RowKit Go.Proofs.YtckdhahceelckaaW.PrintWords
theorem max_four (ats : Array TypeId) (ty : TypeId) (a b c d : Value) : Builtin.max_ ats ty #[a, b, c, d] = (Builtin.max2 a b >>= fun s => Builtin.max2 s c >>= fun s => Builtin.max2 s d >>= fun s => pure s) := by simp only [Builtin.max_, List.foldlM_cons, List.foldlM_nil]
theorem min_four (ats : Array TypeId) (ty : TypeId) (a b c d : Value) : Builtin.min_ ats ty #[a, b, c, d] = (Builtin.min2 a b >>= fun s => Builtin.min2 s c >>= fun s => Builtin.min2 s d >>= fun s => pure s) := by simp only [Builtin.min_, List.foldlM_cons, List.foldlM_nil]
end Go.Proofs.YtckdhahceelckaaW.PrintMore
namespace Go.Proofs.YtckdhahceelckaaW.PrintWords
open Go.RowKit
def mx (a b : Int) : Int := if a < b then b else a
def mn (a b : Int) : Int := if b < a then b else a
open Go.RowKit
section
variable {P : Program} {d : Nat} {xs ys : Array Value} {f : Field} {fs : List Field} {a b : Value} {r s : Bool} {w : World}
theorem eqf_last (hn : (f.name == "_") = false) (ha : (part f.type xs f.offset).run P w = .ok a w) (hb : (part f.type ys f.offset).run P w = .ok b w) (he : (Op.equalIn d f.type a b).run P w = .ok r w) : (Op.eqFields d xs ys [f]).run P w = .ok r w := by
  have hn' : f.name ≠ "_" := by simpa using hn
  simp only [Op.eqFields, if_pos hn', Sem.run_bind, ha, hb, he, Result.andThen_ok]
  cases r <;> simp
end
section
variable {P : Program} {d : Nat} {xs ys : Array Value} {f : Field} {fs : List Field} {a b : Value} {r s : Bool} {w : World}
theorem eqf_cons (hn : (f.name == "_") = false) (ha : (part f.type xs f.offset).run P w = .ok a w) (hb : (part f.type ys f.offset).run P w = .ok b w) (he : (Op.equalIn d f.type a b).run P w = .ok r w) (hr : (Op.eqFields d xs ys fs).run P w = .ok s w) : (Op.eqFields d xs ys (f :: fs)).run P w = .ok (r && s) w := by
  have hn' : f.name ≠ "_" := by simpa using hn
  rw [Op.eqFields]
  simp only [if_pos hn', Sem.run_bind, ha, hb, he, Result.andThen_ok]
  cases r
  · simp
  · simpa using hr
end
open Go.RowKit
section
variable {P : Program} {d : Nat} {xs ys : Array Value} {f : Field} {fs : List Field} {a b : Value} {r s : Bool} {w : World}
theorem eqA_of {t : TypeId} {fs : Array Field} (hu : P.underlying t = some (.struct fs)) (hp : P.stoodInHeld t = false) (h : (Op.eqFields d xs ys fs.toList).run P w = .ok r w) : (Op.equalIn (d + 1) t (.agg xs) (.agg ys)).run P w = .ok r w := by
  have hf : P.fieldsOf t = fs := by simp [Program.fieldsOf, hu]
  rw [run_equalIn_struct (P := P) w d t xs ys (by rw [hf]; exact hu) hp, hf]
  exact h
end
end Go.Proofs.YtckdhahceelckaaW.PrintWords
namespace Go.Proofs.Ytckdhahceelckaa.G
open Go.RowKit Go.Proofs.YtckdhahceelckaaW.PrintWords Go.Proofs.YtckdhahceelckaaW.PrintLast Go.Proofs.YtckdhahceelckaaW.PrintMore
set_option linter.unusedVariables false
set_option linter.unusedSimpArgs false
theorem max2_mx (k k' : IntKind) (x y : Int) : Builtin.max2 (.int k x) (.int k' y) = pure (.int k (mx x y)) := max2_int k k' x y
theorem min2_mn (k k' : IntKind) (x y : Int) : Builtin.min2 (.int k x) (.int k' y) = pure (.int k (mn x y)) := min2_int k k' x y
/-- the first k are, the rest are not -/
abbrev MT (k m : Nat) : Array Bool := (List.replicate k true ++ List.replicate m false).toArray
structure P3 where
  x : Int
  y : Int
  z : Int
deriving DecidableEq
def dot3 (p q : P3) : Int := wrap64 ((wrap64 ((wrap64 (p.x * q.x)) + (wrap64 (p.y * q.y)))) + (wrap64 (p.z * q.z)))
def minus3 (p q : P3) : P3 := ⟨wrap64 (p.x - q.x), wrap64 (p.y - q.y), wrap64 (p.z - q.z)⟩
def cross3 (a b : P3) : P3 := ⟨wrap64 ((wrap64 (a.y * b.z)) - (wrap64 (a.z * b.y))), wrap64 ((wrap64 (a.z * b.x)) - (wrap64 (a.x * b.z))), wrap64 ((wrap64 (a.x * b.y)) - (wrap64 (a.y * b.x)))⟩
/-- a part's size is above n -/
def far3 (n : Int) (p : P3) : Bool := decide (mx (mx p.x p.y) p.z > n) || decide (mn (mn p.x p.y) p.z < wrap64 (-n))
theorem bcell {w w1 : World} (hb : Below w.heap.size w w1) : (∀ b o, b < w.heap.size → w1.cell? ⟨b, o, none⟩ = w.cell? ⟨b, o, none⟩) ∧ (∀ b o, b < w.heap.size → w1.frozen? ⟨b, o, none⟩ = w.frozen? ⟨b, o, none⟩) :=
  ⟨fun b o h => hb.cell (p := ⟨b, o, none⟩) h, fun b o h => hb.frozen (p := ⟨b, o, none⟩) h⟩
theorem bthen {w w1 w2 : World} (h : Below w.heap.size w w1) (k : Below w1.heap.size w1 w2) : Below w.heap.size w w2 := h.trans (k.mono h.size)
/-- three cells of block g hold a, b, c and may be written -/
structure C3 (w : World) (g : Nat) (a b c : Value) : Prop where
  c0 : w.cell? ⟨g, 0, none⟩ = some a
  c1 : w.cell? ⟨g, 1, none⟩ = some b
  c2 : w.cell? ⟨g, 2, none⟩ = some c
  f0 : w.frozen? ⟨g, 0, none⟩ = false
  f1 : w.frozen? ⟨g, 1, none⟩ = false
  f2 : w.frozen? ⟨g, 2, none⟩ = false
theorem C3.below {w w1 : World} {g a b c} (h : C3 w g a b c) (hb : Below w.heap.size w w1) : C3 w1 g a b c := by
  have hg : g < w.heap.size := World.block_lt_of_cell? w _ h.c0
  exact ⟨(hb.cell (p := ⟨g, 0, none⟩) hg).trans h.c0, (hb.cell (p := ⟨g, 1, none⟩) hg).trans h.c1, (hb.cell (p := ⟨g, 2, none⟩) hg).trans h.c2, (hb.frozen (p := ⟨g, 0, none⟩) hg).trans h.f0, (hb.frozen (p := ⟨g, 1, none⟩) hg).trans h.f1, (hb.frozen (p := ⟨g, 2, none⟩) hg).trans h.f2⟩
theorem C3.drew {w : World} {g a b c} (h : C3 w g a b c) : C3 w.drew g a b c := ⟨h.c0, h.c1, h.c2, h.f0, h.f1, h.f2⟩
theorem C3.drewN {w : World} {g a b c} (h : C3 w g a b c) (n : Nat) : C3 (w.drewN n) g a b c := ⟨h.c0, h.c1, h.c2, h.f0, h.f1, h.f2⟩
theorem C3.of {w : World} {g a b c t} (h : w.heap[g]? = some (.cells #[a, b, c] t (0, 0))) : C3 w g a b c :=
  ⟨blk_cell h 0, blk_cell h 1, blk_cell h 2, blk_frozen h 0, blk_frozen h 1, blk_frozen h 2⟩
theorem C3.new (w : World) (a b c : Value) (t : TypeId) : C3 (w.alloc (.cells #[a, b, c] t)) w.heap.size a b c := .of (heap_alloc_new w _)
theorem C3.alloc {w : World} {g a b c} (h : C3 w g a b c) (o : Obj) : C3 (w.alloc o) g a b c := h.below ((Below.refl _ w).alloc (Nat.le_refl _) o)
theorem C3.lt {w : World} {g a b c} (h : C3 w g a b c) : g < w.heap.size := World.block_lt_of_cell? w _ h.c0
theorem C3.far {w : World} {g a b c} (h : C3 w g a b c) {p : Addr} (hp : p.block ≠ g) (u : Value) : C3 (w.setCell p u) g a b c := by
  have e : (w.setCell p u).heap[g]? = w.heap[g]? := Below.heap_setCell w p u g (Ne.symm hp)
  exact ⟨(World.cell?_of_block (a := ⟨g, 0, none⟩) e).trans h.c0, (World.cell?_of_block (a := ⟨g, 1, none⟩) e).trans h.c1, (World.cell?_of_block (a := ⟨g, 2, none⟩) e).trans h.c2, (World.frozen?_of_block (a := ⟨g, 0, none⟩) e).trans h.f0, (World.frozen?_of_block (a := ⟨g, 1, none⟩) e).trans h.f1, (World.frozen?_of_block (a := ⟨g, 2, none⟩) e).trans h.f2⟩
theorem C3.set0 {w : World} {g a b c} (h : C3 w g a b c) (u : Value) : C3 (w.setCell ⟨g, 0, none⟩ u) g u b c :=
  ⟨World.cell?_setCell_same' _ _ _ (by rw [h.c0]; rfl), (World.cell?_setCell_other w ⟨g, 0, none⟩ ⟨g, 1, none⟩ u (by simp)).trans h.c1, (World.cell?_setCell_other w ⟨g, 0, none⟩ ⟨g, 2, none⟩ u (by simp)).trans h.c2, by rw [World.frozen?_setCell]; exact h.f0, by rw [World.frozen?_setCell]; exact h.f1, by rw [World.frozen?_setCell]; exact h.f2⟩
theorem C3.set1 {w : World} {g a b c} (h : C3 w g a b c) (u : Value) : C3 (w.setCell ⟨g, 1, none⟩ u) g a u c :=
  ⟨(World.cell?_setCell_other w ⟨g, 1, none⟩ ⟨g, 0, none⟩ u (by simp)).trans h.c0, World.cell?_setCell_same' _ _ _ (by rw [h.c1]; rfl), (World.cell?_setCell_other w ⟨g, 1, none⟩ ⟨g, 2, none⟩ u (by simp)).trans h.c2, by rw [World.frozen?_setCell]; exact h.f0, by rw [World.frozen?_setCell]; exact h.f1, by rw [World.frozen?_setCell]; exact h.f2⟩
theorem C3.set2 {w : World} {g a b c} (h : C3 w g a b c) (u : Value) : C3 (w.setCell ⟨g, 2, none⟩ u) g a b u :=
  ⟨(World.cell?_setCell_other w ⟨g, 2, none⟩ ⟨g, 0, none⟩ u (by simp)).trans h.c0, (World.cell?_setCell_other w ⟨g, 2, none⟩ ⟨g, 1, none⟩ u (by simp)).trans h.c1, World.cell?_setCell_same' _ _ _ (by rw [h.c2]; rfl), by rw [World.frozen?_setCell]; exact h.f0, by rw [World.frozen?_setCell]; exact h.f1, by rw [World.frozen?_setCell]; exact h.f2⟩
/-- the point at block g written -/
abbrev set3 (w : World) (g : Nat) (x y z : Value) : World := ((w.setCell ⟨g, 0, none⟩ x).setCell ⟨g, 1, none⟩ y).setCell ⟨g, 2, none⟩ z
theorem C3.set {w : World} {g a b c} (h : C3 w g a b c) (x y z : Value) : C3 (set3 w g x y z) g x y z := ((h.set0 x).set1 y).set2 z
theorem C3.other {w : World} {g g' a b c} (h : C3 w g a b c) (hne : g' ≠ g) (x y z : Value) : C3 (set3 w g' x y z) g a b c := ((h.far (p := ⟨g', 0, none⟩) hne x).far (p := ⟨g', 1, none⟩) hne y).far (p := ⟨g', 2, none⟩) hne z
theorem below_set3 {B : Nat} {a w : World} (h : Below B a w) {g : Nat} (hg : B ≤ g) (x y z : Value) : Below B a (set3 w g x y z) := ((h.setCell (p := ⟨g, 0, none⟩) hg x).setCell (p := ⟨g, 1, none⟩) hg y).setCell (p := ⟨g, 2, none⟩) hg z
/-- the slice at A reads as the points l -/
def Rd (w : World) (A : Option Addr) (l : List P3) : Prop :=
  ∀ i p, l[i]? = some p → ∃ b o, A = some ⟨b, o, none⟩ ∧ b < w.heap.size ∧ w.cell? ⟨b, o + i * 3, none⟩ = some (.int .i64 p.x) ∧ w.cell? ⟨b, o + i * 3 + 1, none⟩ = some (.int .i64 p.y) ∧ w.cell? ⟨b, o + i * 3 + 2, none⟩ = some (.int .i64 p.z)
theorem Rd.below {w w1 : World} {A l} (h : Rd w A l) (hb : Below w.heap.size w w1) : Rd w1 A l := fun i p hp => by
  obtain ⟨b, o, hA, hlt, h1, h2, h3⟩ := h i p hp
  exact ⟨b, o, hA, Nat.lt_of_lt_of_le hlt hb.size, (hb.cell (p := ⟨b, _, none⟩) hlt).trans h1, (hb.cell (p := ⟨b, _, none⟩) hlt).trans h2, (hb.cell (p := ⟨b, _, none⟩) hlt).trans h3⟩
theorem Rd.get {w : World} {A : Option Addr} {l : List P3} (h : Rd w A l) (i : Nat) (hi : i < l.length) : ∃ b o, A = some ⟨b, o, none⟩ ∧ b < w.heap.size ∧ w.cell? ⟨b, o + i * 3, none⟩ = some (.int .i64 l[i].x) ∧ w.cell? ⟨b, o + i * 3 + 1, none⟩ = some (.int .i64 l[i].y) ∧ w.cell? ⟨b, o + i * 3 + 2, none⟩ = some (.int .i64 l[i].z) :=
  h i _ (List.getElem?_eq_getElem hi)
theorem Rd.nil (w : World) (A : Option Addr) : Rd w A [] := fun i p hp => by simp at hp
theorem Rd.drew {w : World} {A l} (h : Rd w A l) : Rd w.drew A l := h
theorem Rd.alloc {w : World} {A l} (h : Rd w A l) (o : Obj) : Rd (w.alloc o) A l := h.below ((Below.refl _ w).alloc (Nat.le_refl _) o)
theorem info3 : (Try.prog.info? 3).map (fun i => (i.zero, i.size, i.bytes)) = some (some (.int .i64 0), 1, 8) := by kernel_rfl
theorem info23 : (Try.prog.info? 23).map (fun i => (i.zero, i.size, i.bytes)) = some (some (.agg #[(.int .i64 0), (.int .i64 0), (.int .i64 0)]), 3, 24) := by kernel_rfl
/-- '==' of two points -/
def eqP (x y z a b c : Int) : Bool := x == a && (y == b && z == c)
theorem eqA23 (d : Nat) (w : World) (x0 y0 : Int) (x1 y1 : Int) (x2 y2 : Int) :
    (Op.equalIn (d + 2) 23 (.agg #[.int .i64 x0, .int .i64 x1, .int .i64 x2]) (.agg #[.int .i64 y0, .int .i64 y1, .int .i64 y2])).run Try.prog w = .ok (eqP x0 x1 x2 y0 y1 y2) w := by
  unfold eqP
  refine eqA_of Try.underlying23 (by kernel_rfl) ?_
  refine eqf_cons (by rfl) (by go_simp; rfl) (by go_simp; rfl) (by go_simp) ?_
  refine eqf_cons (by rfl) (by go_simp; rfl) (by go_simp; rfl) (by go_simp) ?_
  exact eqf_last (by rfl) (by go_simp; rfl) (by go_simp; rfl) (by go_simp)
theorem eqP_iff (x y z a b c : Int) : eqP x y z a b c = true ↔ (⟨x, y, z⟩ : P3) = ⟨a, b, c⟩ := by
  unfold eqP; simp
theorem eqP_no {x y z a b c : Int} (h : (⟨x, y, z⟩ : P3) ≠ ⟨a, b, c⟩) : eqP x y z a b c = false := by
  cases e : eqP x y z a b c
  · rfl
  · exact absurd ((eqP_iff ..).1 e) h
theorem eqP_yes {x y z a b c : Int} (h : (⟨x, y, z⟩ : P3) = ⟨a, b, c⟩) : eqP x y z a b c = true := (eqP_iff ..).2 h
section
variable {P : Program} {ops : Array Oper} {Q : Exit → Act → World → Prop} {md : Region.Mode} {S : World → Prop} {ds : List Nat}
/-- a pure operation -/
theorem pu_ (i : Nat) (n : Tmp) {oi : Oper} {v : Value} {fuel : Nat} {l l' : Array Bool} {a a' : Act} {w : World}
    (hi : ops[i]? = some oi := by rfl) (hN : oi.dst = some n := by rfl)
    (hl : l.setIfInBounds i true = l' := by simp only [List.setIfInBounds_toArray, List.set_cons_zero, List.set_cons_succ]; rfl)
    (hc : anyB md ops l l' i = true := by kernel_rfl)
    (hQ : ∀ c a w, Q (.panic c) (a.put oi.dst v) w → Q (.panic c) a w := by exact fun _ _ _ h => h)
    (hy : Yields P ops oi v a := by exact Or.inl ⟨by rfl, by intro w'; go_simp; with_reducible rfl⟩)
    (ha : a.put (some n) v = a' := by first | (simp only [Act.put, List.setIfInBounds_toArray, List.set_cons_zero, List.set_cons_succ, i64_w, i32_w]; rfl) | rfl)
    (h : wpAnyLast P md ops Q S ds fuel l' a' w) : wpAnyLast P md ops Q S ds (fuel + 1) l a w :=
  pure_ l' hi hN hc hQ hy ha h
/-- one whose guard is off -/
theorem of_ (i : Nat) (n : Tmp) {oi : Oper} {fuel : Nat} {l l' : Array Bool} {a a' : Act} {w : World}
    (hi : ops[i]? = some oi := by rfl) (hN : oi.dst = some n := by rfl)
    (hl : l.setIfInBounds i true = l' := by simp only [List.setIfInBounds_toArray, List.set_cons_zero, List.set_cons_succ]; rfl)
    (hc : anyB md ops l l' i = true := by kernel_rfl)
    (hQ : ∀ c a w, Q (.panic c) (a.put oi.dst undef) w → Q (.panic c) a w := by exact fun _ _ _ h => h)
    (hy : Yields P ops oi undef a := by exact Or.inr ⟨by rfl, rfl⟩)
    (ha : a.put (some n) undef = a' := by first | (simp only [Act.put, List.setIfInBounds_toArray, List.set_cons_zero, List.set_cons_succ, i64_w, i32_w]; rfl) | rfl)
    (h : wpAnyLast P md ops Q S ds fuel l' a' w) : wpAnyLast P md ops Q S ds (fuel + 1) l a w :=
  pure_ l' hi hN hc hQ hy ha h
/-- one that reads what S says -/
theorem ta_ (i : Nat) (n : Tmp) {oi : Oper} {v : Value} {fuel : Nat} {l l' : Array Bool} {a a' : Act} {w : World} (hS : S w)
    (hi : ops[i]? = some oi := by rfl) (hN : oi.dst = some n := by rfl)
    (hl : l.setIfInBounds i true = l' := by simp only [List.setIfInBounds_toArray, List.set_cons_zero, List.set_cons_succ]; rfl)
    (hc : takeB md ops ds l l' i = true := by kernel_rfl)
    (hQ : ∀ c a w, Q (.panic c) (a.put oi.dst v) w → Q (.panic c) a w := by exact fun _ _ _ h => h)
    (hy : YieldsIf P ops S oi v a := by exact Or.inl ⟨by rfl, by intro w' hs; (repeat (obtain ⟨_, hs⟩ := hs)); go_simp; with_reducible rfl⟩)
    (ha : a.put (some n) v = a' := by first | (simp only [Act.put, List.setIfInBounds_toArray, List.set_cons_zero, List.set_cons_succ, i64_w, i32_w]; rfl) | rfl)
    (h : wpAnyLast P md ops Q S ds fuel l' a' w) : wpAnyLast P md ops Q S ds (fuel + 1) l a w :=
  take_ l' hi hN hc hQ hy hS ha h
/-- the one that may come up now -/
theorem on_ (i : Nat) (N : Option Tmp) {oi : Oper} {fuel : Nat} {l l' : Array Bool} {a : Act} {w : World}
    (hi : ops[i]? = some oi := by rfl) (hN : oi.dst = N := by rfl)
    (hl : l.setIfInBounds i true = l' := by simp only [List.setIfInBounds_toArray, List.set_cons_zero, List.set_cons_succ]; rfl)
    (hc : readyB md ops l l' i = true := by kernel_rfl) (hd : i ∉ ds := by decide)
    (h : ∀ K : Act → World → Prop, Shut (∀ a' w', S w' → (S w' → wpAnyLast P md ops Q S ds fuel l' a' w') → K a' w') → if Region.wanted oi (yielded ops a.tmps) = true then Oper.wp P oi a w K Q else K (a.put N undef) w) :
    wpAnyLast P md ops Q S ds (fuel + 1) l a w :=
  one_ l' hi hN hc hd h
theorem no_ {fuel : Nat} {l : Array Bool} {a a' : Act} {w : World} (ha : a = a' := by first | (simp only [putAll, Act.put, List.setIfInBounds_toArray, List.set_cons_zero, List.set_cons_succ, i64_w, i32_w]; rfl) | rfl)
    (h : wpAnyLast P md ops Q S ds fuel l a' w) : wpAnyLast P md ops Q S ds fuel l a w := norm_ ha h
end
/-- said short: hidden -/
theorem Lh {p : Prop} (h : p) : Hid p := Lib.hid h
/-- a call, said short -/
theorem gs_ {P : Program} {ops : Array Oper} {Q : Exit → Act → World → Prop} {oi : Oper} {N : Option Tmp} {a : Act} {w : World} {K : Act → World → Prop} {f : FuncId} {fn : Func} {os : Array Operand} {ts : Array TypeId} (hf : P.funcs[f]? = some fn) (args : Array Value)
    (h : Calls P f args w fun e w' => ∃ v, e = .returned v ∧ K (a.put N v) w')
    (hname : (fn.name == "runtime.NumGoroutine") = false := by kernel_rfl) (hb : fn.body.isSome = true := by rfl) (hw : Region.wanted oi (yielded ops a.tmps) = true := by rfl) (hN : oi.dst = N := by rfl) (hop : oi.op = .call { callee := .value (.func f), args := os, argTypes := ts } := by rfl) (hargs : os.map a.eval = args := by simp only [List.map_toArray, List.map_cons, List.map_nil]; rfl) : if Region.wanted oi (yielded ops a.tmps) = true then Oper.wp P oi a w K Q else K (a.put N undef) w :=
  goes_ hf hname hb args hw hN hop hargs h
end Go.Proofs.Ytckdhahceelckaa.G
namespace Go.Proofs.Ytckdhahceelckaa.G
open Go.ChangeShapes Go.WideShapes Go.RowKit
set_option linter.unusedVariables false
theorem i64_of_wf {n : Int} (h : (Lit.int .i64 n).wf = true) : -9223372036854775808 ≤ n ∧ n ≤ 9223372036854775807 := by
  simp [Lit.wf] at h
  have e : IntKind.i64.min = -9223372036854775808 := by decide
  omega
set_option maxRecDepth 100000 in
theorem open_num {H : Type} {enc : TypeId × Value → H} {W : World} {base : Nat} {spare : Nat → Bool} {held : Bool} {r : Reach} {b0 : Nat} {v : Value} {d : DataW H} {p : List MemPlace}
    (hval : Value.okWide Try.prog W r b0 3 v) (h : DataW.Trod enc Try.prog W base spare held 3 v d p) : ∃ n, v = .int .i64 n ∧ -9223372036854775808 ≤ n ∧ n ≤ 9223372036854775807 := by
  obtain ⟨n, rfl, _, _, hw⟩ := open_int Try.underlying3 hval h
  exact ⟨n, rfl, i64_of_wf hw⟩
set_option maxRecDepth 100000 in
theorem open_point {H : Type} {enc : TypeId × Value → H} {W : World} {base : Nat} {spare : Nat → Bool} {held : Bool} {r : Reach} {b0 : Nat} {v : Value} {d : DataW H} {p : List MemPlace}
    (hval : Value.okWide Try.prog W r b0 23 v) (h : DataW.Trod enc Try.prog W base spare held 23 v d p) :
    ∃ x y z, v = .agg #[.int .i64 x, .int .i64 y, .int .i64 z] ∧ (-9223372036854775808 ≤ x ∧ x ≤ 9223372036854775807) ∧ (-9223372036854775808 ≤ y ∧ y ≤ 9223372036854775807) ∧ (-9223372036854775808 ≤ z ∧ z ≤ 9223372036854775807) := by
  obtain ⟨v0, v1, v2, y0, y1, y2, n, rfl, _, _, h0, h1, h2⟩ := Go.Joins.open_agg3 Try.underlying23 (by kernel_rfl) (by kernel_rfl) hval h
  obtain ⟨a, ha, _, wa⟩ := DataW.trod_int (k := .i64) Try.underlying3 h0
  obtain ⟨b, hb, _, wb⟩ := DataW.trod_int (k := .i64) Try.underlying3 h1
  obtain ⟨c, hc, _, wc⟩ := DataW.trod_int (k := .i64) Try.underlying3 h2
  simp at ha hb hc
  subst ha hb hc
  exact ⟨a, b, c, rfl, i64_of_wf wa, i64_of_wf wb, i64_of_wf wc⟩
theorem laidOut : laidOutB Try.prog = true := by kernel_rfl
end Go.Proofs.Ytckdhahceelckaa.G
namespace Go.Proofs.Ytckdhahceelckaa.G
set_option linter.unusedVariables false
def mag : List Int → Int
  | [] => 0
  | x :: l => x + 16777216 * mag l
def digs (l : List Int) : Prop := ∀ x ∈ l, 0 ≤ x ∧ x < 16777216
/-- digit k -/
def dg (l : List Int) (k : Nat) : Int := l.getD k 0
theorem pw_pos (n : Nat) : (0 : Int) < 16777216 ^ n := Int.pow_pos (by decide)
theorem pw_succ (n : Nat) : (16777216 : Int) ^ (n + 1) = 16777216 ^ n * 16777216 := Int.pow_succ ..
theorem mag_nonneg : ∀ (l : List Int), digs l → 0 ≤ mag l
  | [], _ => Int.le_refl _
  | x :: l, h => by
    have := mag_nonneg l (fun y hy => h y (.tail _ hy))
    have := h x (.head _)
    unfold mag; omega
theorem mag_lt : ∀ (l : List Int), digs l → mag l < 16777216 ^ l.length
  | [], _ => by simp [mag]
  | x :: l, h => by
    have := mag_lt l (fun y hy => h y (.tail _ hy))
    have := h x (.head _)
    rw [List.length_cons, pw_succ]
    unfold mag; omega
theorem mag_append : ∀ (a b : List Int), mag (a ++ b) = mag a + 16777216 ^ a.length * mag b
  | [], b => by simp [mag]
  | x :: a, b => by
    rw [List.cons_append, mag, mag, mag_append a b, List.length_cons, pw_succ]
    grind
theorem mag_split (l : List Int) (i : Nat) (h : i ≤ l.length) : mag l = mag (l.take i) + 16777216 ^ i * mag (l.drop i) := by
  have := mag_append (l.take i) (l.drop i)
  rw [List.take_append_drop, List.length_take, Nat.min_eq_left h] at this
  exact this
theorem dg_lt (l : List Int) (i : Nat) (h : i < l.length) : dg l i = l[i] := by
  unfold dg; rw [List.getD_eq_getElem?_getD, List.getElem?_eq_getElem h]; rfl
theorem mag_take_succ (l : List Int) (i : Nat) (h : i < l.length) : mag (l.take (i + 1)) = mag (l.take i) + 16777216 ^ i * dg l i := by
  rw [List.take_succ_eq_append_getElem h, mag_append, List.length_take, Nat.min_eq_left (by omega), dg_lt l i h]
  simp [mag]
theorem mag_drop (l : List Int) (i : Nat) (h : i < l.length) : mag (l.drop i) = dg l i + 16777216 * mag (l.drop (i + 1)) := by
  rw [List.drop_eq_getElem_cons h, mag, dg_lt l i h]
theorem mag_set : ∀ (l : List Int) (i : Nat) (x : Int), i < l.length → mag (l.set i x) = mag l + 16777216 ^ i * (x - dg l i)
  | [], i, x, h => by simp at h
  | y :: l, 0, x, h => by simp [mag, dg]; omega
  | y :: l, i + 1, x, h => by
    have := mag_set l i x (by simpa using h)
    rw [List.set_cons_succ, mag, mag, this, pw_succ]
    have e : dg (y :: l) (i + 1) = dg l i := by simp [dg]
    rw [e]; grind
theorem dg_set (l : List Int) (i k : Nat) (x : Int) (h : i < l.length) : dg (l.set i x) k = if k = i then x else dg l k := by
  unfold dg
  rw [List.getD_eq_getElem?_getD, List.getD_eq_getElem?_getD, List.getElem?_set]
  by_cases e : i = k
  · subst e; simp [h]
  · rw [if_neg e, if_neg (fun h => e h.symm)]
theorem dg_ok {l : List Int} (h : digs l) (k : Nat) : 0 ≤ dg l k ∧ dg l k < 16777216 := by
  by_cases hk : k < l.length
  · rw [dg_lt l k hk]; exact h _ (List.getElem_mem _)
  · unfold dg; rw [List.getD_eq_getElem?_getD, List.getElem?_eq_none (by omega)]; decide
theorem digs_set {l : List Int} (h : digs l) (i : Nat) (x : Int) (h0 : 0 ≤ x) (h1 : x < 16777216) : digs (l.set i x) := fun y hy => by
  rcases List.mem_or_eq_of_mem_set hy with h' | rfl
  · exact h y h'
  · exact ⟨h0, h1⟩
theorem digs_take {l : List Int} (h : digs l) (i : Nat) : digs (l.take i) := fun y hy => h y (List.mem_of_mem_take hy)
theorem digs_drop {l : List Int} (h : digs l) (i : Nat) : digs (l.drop i) := fun y hy => h y (List.mem_of_mem_drop hy)
theorem mag_take_lt {l : List Int} (h : digs l) (i : Nat) (hi : i ≤ l.length) : mag (l.take i) < 16777216 ^ i := by
  have := mag_lt _ (digs_take h i)
  rwa [List.length_take, Nat.min_eq_left hi] at this
/-- two numbers with a differing digit and the same ones above it -/
theorem mag_less (a b : List Int) (i : Nat) (ha : digs a) (hb : digs b) (hi : i < a.length) (hj : i < b.length) (hd : a.drop (i + 1) = b.drop (i + 1)) (h : dg a i < dg b i) : mag a < mag b := by
  rw [mag_split a i (by omega), mag_split b i (by omega), mag_drop a i hi, mag_drop b i hj, hd]
  have h1 := mag_take_lt ha i (by omega)
  have h2 := mag_nonneg _ (digs_take hb i)
  have h3 : (16777216 : Int) ^ i * 1 ≤ 16777216 ^ i * (dg b i - dg a i) := Int.mul_le_mul_of_nonneg_left (by omega) (Int.le_of_lt (pw_pos i))
  have e : (16777216 : Int) ^ i * (dg b i + 16777216 * mag (b.drop (i + 1))) - 16777216 ^ i * (dg a i + 16777216 * mag (b.drop (i + 1))) = 16777216 ^ i * (dg b i - dg a i) := by grind
  omega
/-- the value -/
def wval (neg : Bool) (l : List Int) : Int := if neg then -mag l else mag l
theorem mag_zeros (n : Nat) : mag (List.replicate n 0) = 0 := by
  induction n with
  | zero => rfl
  | succ n ih => rw [List.replicate_succ, mag, ih]; rfl
def OfI (n : Nat) (i : Nat) (l : List Int) (u : Nat) : Prop := l.length = 8 ∧ digs l ∧ (∀ j, i ≤ j → dg l j = 0) ∧ mag l + 16777216 ^ i * (u : Int) = n
theorem OfI.start (n : Nat) : OfI n 0 (List.replicate 8 0) n := by
  refine ⟨by simp, fun x hx => by rw [List.eq_of_mem_replicate hx]; decide, fun j _ => ?_, by rw [mag_zeros]; simp⟩
  unfold dg; rw [List.getD_eq_getElem?_getD, List.getElem?_replicate]; split <;> rfl
theorem OfI.step {n i : Nat} {l : List Int} {u : Nat} (h : OfI n i l u) (hi : i < 8) : OfI n (i + 1) (l.set i ((u % 16777216 : Nat) : Int)) (u / 16777216) := by
  obtain ⟨h1, h2, h3, h4⟩ := h
  refine ⟨by simpa using h1, digs_set h2 _ _ (by omega) (by omega), fun j hj => by rw [dg_set _ _ _ _ (by omega), if_neg (by omega)]; exact h3 j (by omega), ?_⟩
  rw [mag_set _ _ _ (by omega), h3 i (Nat.le_refl _), pw_succ]
  have e : ((u : Nat) : Int) = ((u % 16777216 : Nat) : Int) + 16777216 * ((u / 16777216 : Nat) : Int) := by omega
  rw [e] at h4
  grind
theorem OfI.le {n i : Nat} {l : List Int} {u : Nat} (h : OfI n i l u) : u ≤ n := by
  obtain ⟨h1, h2, h3, h4⟩ := h
  have := mag_nonneg l h2
  have h5 : 1 * (u : Int) ≤ 16777216 ^ i * (u : Int) := Int.mul_le_mul_of_nonneg_right (by have := pw_pos i; omega) (by omega)
  omega
theorem OfI.done {n : Nat} {l : List Int} {u : Nat} (h : OfI n 8 l u) (hn : n < 16777216 ^ 8) : mag l = n := by
  obtain ⟨h1, h2, h3, h4⟩ := h
  have := mag_nonneg l h2
  have hu : u = 0 := by
    rcases Nat.eq_zero_or_pos u with h0 | h0
    · exact h0
    · exfalso
      have : (16777216 : Int) ^ 8 * 1 ≤ 16777216 ^ 8 * (u : Int) := Int.mul_le_mul_of_nonneg_left (by omega) (by decide)
      have : ((16777216 ^ 8 : Nat) : Int) = (16777216 : Int) ^ 8 := by decide
      omega
  subst hu
  omega
def AddI (a b : List Int) (i : Nat) (o : List Int) (c : Int) : Prop := o.length = 8 ∧ digs o ∧ 0 ≤ c ∧ c ≤ 1 ∧ (∀ j, i ≤ j → dg o j = dg a j) ∧ mag o + 16777216 ^ i * c = mag a + mag (b.take i)
theorem AddI.start (a b : List Int) (ha : a.length = 8) (hd : digs a) : AddI a b 0 a 0 := ⟨ha, hd, by decide, by decide, fun _ _ => rfl, by simp [mag]⟩
theorem AddI.step {a b : List Int} {i : Nat} {o : List Int} {c : Int} (h : AddI a b i o c) (ha : digs a) (hb : digs b) (hlb : b.length = 8) (hi : i < 8) :
    AddI a b (i + 1) (o.set i ((dg a i + dg b i + c) % 16777216)) ((dg a i + dg b i + c) / 16777216) := by
  obtain ⟨h1, h2, h3, h4, h5, h6⟩ := h
  have ka := dg_ok ha i
  have kb := dg_ok hb i
  refine ⟨by simpa using h1, digs_set h2 _ _ (by omega) (by omega), by omega, by omega, fun j hj => by rw [dg_set _ _ _ _ (by omega), if_neg (by omega)]; exact h5 j (by omega), ?_⟩
  rw [mag_set _ _ _ (by omega), mag_take_succ b i (by omega), h5 i (Nat.le_refl _), pw_succ]
  have e := Int.mul_ediv_add_emod (dg a i + dg b i + c) 16777216
  generalize (dg a i + dg b i + c) % 16777216 = r at e
  generalize (dg a i + dg b i + c) / 16777216 = q at e
  grind
theorem AddI.done {a b o : List Int} {c : Int} (h : AddI a b 8 o c) (hlb : b.length = 8) (hs : mag a + mag b < 16777216 ^ 8) : mag o = mag a + mag b := by
  obtain ⟨h1, h2, h3, h4, h5, h6⟩ := h
  have := mag_nonneg o h2
  rw [List.take_of_length_le (by omega)] at h6
  have hp : (16777216 : Int) ^ 8 = 6277101735386680763835789423207666416102355444464034512896 := by decide
  rw [hp] at *
  have : c = 0 := by omega
  subst this; omega
def SubI (a b : List Int) (i : Nat) (o : List Int) (c : Int) : Prop := o.length = 8 ∧ digs o ∧ 0 ≤ c ∧ c ≤ 1 ∧ (∀ j, i ≤ j → dg o j = dg a j) ∧ mag o - 16777216 ^ i * c = mag a - mag (b.take i)
theorem SubI.start (a b : List Int) (ha : a.length = 8) (hd : digs a) : SubI a b 0 a 0 := ⟨ha, hd, by decide, by decide, fun _ _ => rfl, by simp [mag]⟩
theorem SubI.step0 {a b : List Int} {i : Nat} {o : List Int} {c : Int} (h : SubI a b i o c) (ha : digs a) (hb : digs b) (hlb : b.length = 8) (hi : i < 8) (hn : 0 ≤ dg a i - dg b i - c) :
    SubI a b (i + 1) (o.set i (dg a i - dg b i - c)) 0 := by
  obtain ⟨h1, h2, h3, h4, h5, h6⟩ := h
  have ka := dg_ok ha i
  have kb := dg_ok hb i
  refine ⟨by simpa using h1, digs_set h2 _ _ (by omega) (by omega), by omega, by omega, fun j hj => by rw [dg_set _ _ _ _ (by omega), if_neg (by omega)]; exact h5 j (by omega), ?_⟩
  rw [mag_set _ _ _ (by omega), mag_take_succ b i (by omega), h5 i (Nat.le_refl _), pw_succ]
  grind
theorem SubI.step1 {a b : List Int} {i : Nat} {o : List Int} {c : Int} (h : SubI a b i o c) (ha : digs a) (hb : digs b) (hlb : b.length = 8) (hi : i < 8) (hn : dg a i - dg b i - c < 0) :
    SubI a b (i + 1) (o.set i (dg a i - dg b i - c + 16777216)) 1 := by
  obtain ⟨h1, h2, h3, h4, h5, h6⟩ := h
  have ka := dg_ok ha i
  have kb := dg_ok hb i
  refine ⟨by simpa using h1, digs_set h2 _ _ (by omega) (by omega), by omega, by omega, fun j hj => by rw [dg_set _ _ _ _ (by omega), if_neg (by omega)]; exact h5 j (by omega), ?_⟩
  rw [mag_set _ _ _ (by omega), mag_take_succ b i (by omega), h5 i (Nat.le_refl _), pw_succ]
  grind
theorem SubI.done {a b o : List Int} {c : Int} (h : SubI a b 8 o c) (hlb : b.length = 8) (hs : mag b ≤ mag a) : mag o = mag a - mag b := by
  obtain ⟨h1, h2, h3, h4, h5, h6⟩ := h
  have hl := mag_lt o h2
  rw [h1] at hl
  rw [List.take_of_length_le (by omega)] at h6
  have hp : (16777216 : Int) ^ 8 = 6277101735386680763835789423207666416102355444464034512896 := by decide
  rw [hp] at *
  have : c = 0 := by omega
  subst this; omega
/-- the inner loop: digit i of a (x), k of b's digits done; s: the sum ahead of it -/
def MulI (s x : Int) (b : List Int) (i k : Nat) (o : List Int) (c : Int) : Prop := o.length = 8 ∧ digs o ∧ 0 ≤ c ∧ c < 16777216 ∧ mag o + 16777216 ^ (i + k) * c = s + 16777216 ^ i * x * mag (b.take k)
theorem MulI.start {o : List Int} (x : Int) (b : List Int) (i : Nat) (h : o.length = 8) (hd : digs o) : MulI (mag o) x b i 0 o 0 := ⟨h, hd, by decide, by decide, by simp [mag]⟩
theorem mul_dig (u x y c : Int) (h1 : 0 ≤ u) (h2 : u < 16777216) (h3 : 0 ≤ x) (h4 : x < 16777216) (h5 : 0 ≤ y) (h6 : y < 16777216) (h7 : 0 ≤ c) (h8 : c < 16777216) : 0 ≤ x * y ∧ x * y ≤ 281474943156225 := by
  have a := Int.mul_nonneg h3 h5
  have b : x * y ≤ 16777215 * 16777215 := Int.mul_le_mul (by omega) (by omega) h5 (by decide)
  omega
theorem MulI.step {s x : Int} {b : List Int} {i k : Nat} {o : List Int} {c : Int} (h : MulI s x b i k o c) (hx0 : 0 ≤ x) (hx1 : x < 16777216) (hb : digs b) (hlb : b.length = 8) (hi : i + k < 8) :
    MulI s x b i (k + 1) (o.set (i + k) ((dg o (i + k) + x * dg b k + c) % 16777216)) ((dg o (i + k) + x * dg b k + c) / 16777216) := by
  obtain ⟨h1, h2, h3, h4, h6⟩ := h
  have ko := dg_ok h2 (i + k)
  have kb := dg_ok hb k
  have km := mul_dig (dg o (i + k)) x (dg b k) c ko.1 ko.2 hx0 hx1 kb.1 kb.2 h3 h4
  refine ⟨by simpa using h1, digs_set h2 _ _ (by omega) (by omega), by omega, by omega, ?_⟩
  rw [mag_set _ _ _ (by omega), mag_take_succ b k (by omega), ← Nat.add_assoc, pw_succ]
  have e := Int.mul_ediv_add_emod (dg o (i + k) + x * dg b k + c) 16777216
  generalize (dg o (i + k) + x * dg b k + c) % 16777216 = r at e
  generalize (dg o (i + k) + x * dg b k + c) / 16777216 = q at e
  have e2 : (16777216 : Int) ^ (i + k) = 16777216 ^ i * 16777216 ^ k := Int.pow_add ..
  rw [e2] at *
  grind
/-- the outer loop -/
def MulO (a b : List Int) (i : Nat) (o : List Int) : Prop := o.length = 8 ∧ digs o ∧ mag o = mag (a.take i) * mag b
theorem MulO.start (a b : List Int) : MulO a b 0 (List.replicate 8 0) :=
  ⟨by simp, fun x hx => by rw [List.eq_of_mem_replicate hx]; decide, by rw [mag_zeros]; simp [mag]⟩
theorem MulO.skip {a b o : List Int} {i : Nat} (h : MulO a b i o) (hla : a.length = 8) (hi : i < 8) (h0 : dg a i = 0) : MulO a b (i + 1) o := by
  obtain ⟨h1, h2, h3⟩ := h
  exact ⟨h1, h2, by rw [mag_take_succ a i (by omega), h0, h3]; simp⟩
theorem mag_take_le {l : List Int} (h : digs l) (i : Nat) (hi : i ≤ l.length) : mag (l.take i) ≤ mag l := by
  have := mag_split l i hi
  have := Int.mul_nonneg (Int.le_of_lt (pw_pos i)) (mag_nonneg _ (digs_drop h i))
  omega
theorem MulO.step {a b o o' : List Int} {i : Nat} {c : Int} (h : MulO a b i o) (hi : i < 8) (hm : MulI (mag o) (dg a i) b i (8 - i) o' c) (ha : digs a) (hb : digs b) (hla : a.length = 8) (hlb : b.length = 8) (hs : mag a * mag b < 16777216 ^ 8) :
    MulO a b (i + 1) o' := by
  obtain ⟨h1, h2, h3⟩ := h
  obtain ⟨k1, k2, k3, k4, k5⟩ := hm
  rw [show i + (8 - i) = 8 by omega] at k5
  have hb0 := mag_nonneg b hb
  have hle := mag_take_le ha (i + 1) (by omega)
  have hle2 : mag (a.take (i + 1)) * mag b ≤ mag a * mag b := Int.mul_le_mul_of_nonneg_right hle hb0
  rw [mag_take_succ a i (by omega)] at hle2
  have hsp := mag_split b (8 - i) (by omega)
  have hx := dg_ok ha i
  have hz := mag_nonneg _ (digs_drop hb (8 - i))
  have hxz := Int.mul_nonneg hx.1 hz
  have hn0 := mag_nonneg o' k2
  have e8 : (16777216 : Int) ^ i * 16777216 ^ (8 - i) = 16777216 ^ 8 := by rw [← Int.pow_add, show i + (8 - i) = 8 by omega]
  have e1 : (mag (a.take i) + 16777216 ^ i * dg a i) * mag b = mag (a.take i) * mag b + 16777216 ^ i * dg a i * mag (b.take (8 - i)) + 16777216 ^ 8 * (dg a i * mag (b.drop (8 - i))) := by
    rw [← e8]
    generalize (16777216 : Int) ^ i = p at *
    generalize (16777216 : Int) ^ (8 - i) = q at *
    grind
  have hp : (16777216 : Int) ^ 8 = 6277101735386680763835789423207666416102355444464034512896 := by decide
  rw [e1] at hle2
  rw [hp] at k5 hs hle2 e1
  refine ⟨k1, k2, ?_⟩
  rw [mag_take_succ a i (by omega), e1]
  rw [h3] at k5
  generalize mag (a.take i) * mag b = A at *
  generalize 16777216 ^ i * dg a i * mag (b.take (8 - i)) = Bx at *
  generalize dg a i * mag (b.drop (8 - i)) = C at *
  generalize mag a * mag b = D at *
  omega
end Go.Proofs.Ytckdhahceelckaa.G
namespace Go.Proofs.Ytckdhahceelckaa.G
set_option linter.unusedVariables false
theorem two_pos (n : Nat) : (0 : Int) < 2 ^ n := Int.pow_pos (by decide)
theorem two_succ (n : Nat) : (2 : Int) ^ (n + 1) = 2 * 2 ^ n := by rw [Int.pow_succ, Int.mul_comm]
/-- the bit of round j out of n -/
def bitOf (n j : Nat) : Int := if j < n then 2 ^ (n - 1 - j) else 0
theorem bitOf_half (n j : Nat) (h : j < n) : bitOf n j / 2 = bitOf n (j + 1) := by
  unfold bitOf
  rw [if_pos h]
  by_cases h2 : j + 1 < n
  · rw [if_pos h2, show n - 1 - j = (n - 1 - (j + 1)) + 1 by omega, two_succ]; omega
  · rw [if_neg h2, show n - 1 - j = 0 by omega]; decide
theorem bitOf_pos (n j : Nat) (h : j < n) : 0 < bitOf n j := by unfold bitOf; rw [if_pos h]; exact two_pos _
theorem bitOf_le (n j : Nat) : bitOf n j ≤ 2 ^ (n - 1) ∧ 0 ≤ bitOf n j := by
  unfold bitOf
  split
  · refine ⟨?_, Int.le_of_lt (two_pos _)⟩
    have : (2 : Int) ^ (n - 1) = 2 ^ (n - 1 - j) * 2 ^ j := by rw [← Int.pow_add, show n - 1 - j + j = n - 1 by omega]
    rw [this]
    have h1 := two_pos j
    have := Int.mul_le_mul_of_nonneg_left (show 1 ≤ (2 : Int) ^ j by omega) (Int.le_of_lt (two_pos (n - 1 - j)))
    omega
  · exact ⟨Int.le_of_lt (two_pos _), Int.le_refl _⟩
/-- j bits of digit d are done, D stands above it -/
def DivI (D d c : Int) (j : Nat) (q r : Int) : Prop := 0 ≤ q ∧ 0 ≤ r ∧ r < c ∧ q * c + r = D * 2 ^ j + d / 2 ^ (24 - j)
theorem DivI.start {D d c q r : Int} (hq : 0 ≤ q) (hr : 0 ≤ r) (hc : r < c) (h : q * c + r = D) (h0 : 0 ≤ d) (h1 : d < 16777216) : DivI D d c 0 q r :=
  ⟨hq, hr, hc, by rw [h, show (2 : Int) ^ (24 - 0) = 16777216 by decide, Int.ediv_eq_zero_of_lt h0 h1]; simp⟩
theorem DivI.next {D d c q r : Int} {j : Nat} (hj : j < 24) (h : DivI D d c j q r) : 2 * q * c + (2 * r + d / bitOf 24 j % 2) = D * 2 ^ (j + 1) + d / 2 ^ (24 - (j + 1)) := by
  obtain ⟨h1, h2, h3, h4⟩ := h
  unfold bitOf
  rw [if_pos hj, show 24 - 1 - j = 24 - (j + 1) by omega]
  have e : d / 2 ^ (24 - (j + 1)) / 2 = d / 2 ^ (24 - j) := by
    have e0 : (2 : Int) ^ (24 - j) = 2 ^ (24 - (j + 1)) * 2 := by rw [show 24 - j = (24 - (j + 1)) + 1 by omega, Int.pow_succ]
    rw [Int.ediv_ediv_of_nonneg (Int.le_of_lt (two_pos _)), e0]
  have e2 := Int.mul_ediv_add_emod (d / 2 ^ (24 - (j + 1))) 2
  rw [e] at e2
  rw [two_succ]
  generalize d / 2 ^ (24 - (j + 1)) % 2 = b at *
  generalize d / 2 ^ (24 - (j + 1)) = x at *
  generalize d / 2 ^ (24 - j) = y at *
  generalize (2 : Int) ^ j = p at *
  grind
theorem DivI.step0 {D d c q r : Int} {j : Nat} (hj : j < 24) (h : DivI D d c j q r) (hn : 2 * r + d / bitOf 24 j % 2 < c) : DivI D d c (j + 1) (2 * q) (2 * r + d / bitOf 24 j % 2) := by
  have h4 := h.next hj
  obtain ⟨h1, h2, h3, _⟩ := h
  have := Int.emod_nonneg (d / bitOf 24 j) (show (2 : Int) ≠ 0 by decide)
  exact ⟨by omega, by omega, hn, h4⟩
theorem DivI.step1 {D d c q r : Int} {j : Nat} (hj : j < 24) (h : DivI D d c j q r) (hn : c ≤ 2 * r + d / bitOf 24 j % 2) : DivI D d c (j + 1) (2 * q + 1) (2 * r + d / bitOf 24 j % 2 - c) := by
  have h4 := h.next hj
  obtain ⟨h1, h2, h3, _⟩ := h
  have := Int.emod_lt_of_pos (d / bitOf 24 j) (show (0 : Int) < 2 by decide)
  refine ⟨by omega, by omega, by omega, ?_⟩
  rw [← h4]; grind
theorem DivI.done {D d c q r : Int} (h : DivI D d c 24 q r) : 0 ≤ q ∧ 0 ≤ r ∧ r < c ∧ q * c + r = d + 16777216 * D := by
  obtain ⟨h1, h2, h3, h4⟩ := h
  refine ⟨h1, h2, h3, ?_⟩
  rw [h4, show (2 : Int) ^ 24 = 16777216 by decide, show 24 - 24 = 0 by rfl, Int.pow_zero, Int.ediv_one]; omega
/-- what is left fits: the quotient so far is at most half of the greatest one -/
theorem DivI.small {D d c q r M S : Int} {j : Nat} (hj : j < 24) (h : DivI D d c j q r) (hD : 0 ≤ D) (hd : 0 ≤ d) (hM : d + 16777216 * D ≤ M) (hS : M < (S + 1) * c) : 2 * q ≤ S := by
  obtain ⟨h1, h2, h3, h4⟩ := h
  have a : d / 2 ^ (24 - j) * 2 ≤ d := by
    have e : (2 : Int) ^ (24 - j) = 2 * 2 ^ (23 - j) := by rw [← two_succ, show 23 - j + 1 = 24 - j by omega]
    rw [e, ← Int.ediv_ediv_of_nonneg (by decide)]
    have p := two_pos (23 - j)
    have b : d / 2 / 2 ^ (23 - j) ≤ d / 2 := Int.ediv_le_self _ (by omega)
    omega
  have b : D * 2 ^ j * 2 ≤ 16777216 * D := by
    have e : (16777216 : Int) = 2 ^ (j + 1) * 2 ^ (23 - j) := by rw [← Int.pow_add, show j + 1 + (23 - j) = 24 by omega]; decide
    have p := two_pos (23 - j)
    have k : D * 2 ^ (j + 1) * 1 ≤ D * 2 ^ (j + 1) * 2 ^ (23 - j) := Int.mul_le_mul_of_nonneg_left (by omega) (Int.mul_nonneg hD (Int.le_of_lt (two_pos _)))
    rw [e]
    rw [two_succ] at *
    generalize (2 : Int) ^ (23 - j) = x at *
    generalize (2 : Int) ^ j = y at *
    grind
  have hc : 0 < c := by omega
  have k : 2 * q * c < (S + 1) * c := by
    have e : 2 * q * c = 2 * (q * c) := by grind
    omega
  have := Int.lt_of_mul_lt_mul_right k (Int.le_of_lt hc)
  omega
theorem divEnd {M c q r : Int} (hq : 0 ≤ q) (hr : 0 ≤ r) (hc : r < c) (h : q * c + r = M) : q = M / c ∧ r = M % c := by
  have hp : 0 < c := by omega
  have e : M / c = q := by
    rw [← h, Int.add_comm, Int.add_mul_ediv_right _ _ (by omega), Int.ediv_eq_zero_of_lt hr hc]; omega
  refine ⟨e.symm, ?_⟩
  have := Int.mul_ediv_add_emod M c
  rw [e] at this
  have : c * q = q * c := Int.mul_comm ..
  omega
/-- the floor of a wide number's quotient, c above 0 -/
theorem floor_neg (M c : Int) (hc : 0 < c) : (-M) / c = if M % c > 0 then -(M / c + 1) else -(M / c) := by
  have e := Int.mul_ediv_add_emod M c
  have h1 := Int.emod_nonneg M (show c ≠ 0 by omega)
  have h2 := Int.emod_lt_of_pos M hc
  split
  · have : -M = (c - M % c) + -(M / c + 1) * c := by grind
    rw [this, Int.add_mul_ediv_right _ _ (by omega), Int.ediv_eq_zero_of_lt (by omega) (by omega)]; omega
  · have : -M = 0 + -(M / c) * c := by grind
    rw [this, Int.add_mul_ediv_right _ _ (by omega), Int.zero_ediv]; omega
def RootI (a : Int) (j : Nat) (r : Int) : Prop := 0 ≤ r ∧ r ≤ 2 ^ 62 - 2 ^ (62 - j) ∧ r * r ≤ a ∧ a < (r + 2 ^ (62 - j)) * (r + 2 ^ (62 - j))
theorem RootI.start {a : Int} (h0 : 0 ≤ a) (h1 : a < 2 ^ 124) : RootI a 0 0 := ⟨by decide, by decide, by simpa using h0, by
  have : ((0 : Int) + 2 ^ (62 - 0)) * (0 + 2 ^ (62 - 0)) = 2 ^ 124 := by decide
  rw [this]; exact h1⟩
theorem RootI.bit {a r : Int} {j : Nat} (hj : j < 62) (h : RootI a j r) : 0 ≤ r + bitOf 62 j ∧ r + bitOf 62 j ≤ 4611686018427387904 - bitOf 62 j ∧ 0 < bitOf 62 j := by
  obtain ⟨h1, h2, h3, h4⟩ := h
  have e : bitOf 62 j = 2 ^ (61 - j) := by unfold bitOf; rw [if_pos hj]
  have e2 : (2 : Int) ^ (62 - j) = 2 * 2 ^ (61 - j) := by rw [← two_succ, show 61 - j + 1 = 62 - j by omega]
  have p := two_pos (61 - j)
  rw [e2, show (2 : Int) ^ 62 = 4611686018427387904 by decide] at h2
  rw [e]
  exact ⟨by omega, by omega, p⟩
theorem RootI.yes {a r : Int} {j : Nat} (hj : j < 62) (h : RootI a j r) (hn : (r + bitOf 62 j) * (r + bitOf 62 j) ≤ a) : RootI a (j + 1) (r + bitOf 62 j) := by
  obtain ⟨h1, h2, h3, h4⟩ := h
  have e : bitOf 62 j = 2 ^ (62 - (j + 1)) := by unfold bitOf; rw [if_pos hj, show 62 - 1 - j = 62 - (j + 1) by omega]
  have e2 : (2 : Int) ^ (62 - j) = 2 * 2 ^ (62 - (j + 1)) := by rw [← two_succ, show 62 - (j + 1) + 1 = 62 - j by omega]
  have p := two_pos (62 - (j + 1))
  rw [e2] at h2 h4
  rw [e] at hn ⊢
  refine ⟨by omega, by omega, hn, ?_⟩
  have : r + 2 * 2 ^ (62 - (j + 1)) = r + 2 ^ (62 - (j + 1)) + 2 ^ (62 - (j + 1)) := by omega
  rw [this] at h4; exact h4
theorem RootI.no {a r : Int} {j : Nat} (hj : j < 62) (h : RootI a j r) (hn : a < (r + bitOf 62 j) * (r + bitOf 62 j)) : RootI a (j + 1) r := by
  obtain ⟨h1, h2, h3, h4⟩ := h
  have e : bitOf 62 j = 2 ^ (62 - (j + 1)) := by unfold bitOf; rw [if_pos hj, show 62 - 1 - j = 62 - (j + 1) by omega]
  have e2 : (2 : Int) ^ (62 - j) = 2 * 2 ^ (62 - (j + 1)) := by rw [← two_succ, show 62 - (j + 1) + 1 = 62 - j by omega]
  have p := two_pos (62 - (j + 1))
  rw [e2] at h2
  rw [e] at hn
  exact ⟨h1, by omega, h3, hn⟩
theorem RootI.done {a r : Int} (h : RootI a 62 r) : 0 ≤ r ∧ r * r ≤ a ∧ a < (r + 1) * (r + 1) := by
  obtain ⟨h1, h2, h3, h4⟩ := h
  exact ⟨h1, h3, by simpa using h4⟩
end Go.Proofs.Ytckdhahceelckaa.G
namespace Go.Proofs.Ytckdhahceelckaa.G
open Go.RowKit Go.Proofs.YtckdhahceelckaaW.PrintWords Go.Proofs.YtckdhahceelckaaW.PrintLast Go.Proofs.YtckdhahceelckaaW.PrintMore
attribute [local go_sem] max2_mx min2_mn max_two min_two max_three min_three max_four min_four
set_option linter.unusedVariables false
set_option linter.unusedSimpArgs false
/-- the cells of a wide number -/
abbrev aW (n : Bool) (l : List Int) : Array Value := #[.bool n, .int .i64 (dg l 0), .int .i64 (dg l 1), .int .i64 (dg l 2), .int .i64 (dg l 3), .int .i64 (dg l 4), .int .i64 (dg l 5), .int .i64 (dg l 6), .int .i64 (dg l 7)]
/-- block g holds it -/
def Wd (w : World) (g : Nat) (n : Bool) (l : List Int) : Prop := w.heap[g]? = some (.cells (aW n l) 169 (0, 0))
theorem Wd.lt {w g n l} (h : Wd w g n l) : g < w.heap.size := blk_lt h
theorem Wd.neg {w g n l} (h : Wd w g n l) : w.cell? ⟨g, 0, none⟩ = some (.bool n) := (blk_cell h 0).trans rfl
theorem aW_get (n : Bool) (l : List Int) (k : Nat) (hk : k < 8) : (aW n l)[1 + k]? = some (.int .i64 (dg l k)) := by
  match k, hk with
  | 0, _ | 1, _ | 2, _ | 3, _ | 4, _ | 5, _ | 6, _ | 7, _ => rfl
theorem Wd.dig {w g n l} (h : Wd w g n l) (k : Nat) (hk : k < 8) : w.cell? ⟨g, 1 + k, none⟩ = some (.int .i64 (dg l k)) := (blk_cell h (1 + k)).trans (aW_get n l k hk)
theorem Wd.fz {w g n l} (h : Wd w g n l) (k : Nat) : w.frozen? ⟨g, k, none⟩ = false := blk_frozen h k
theorem aW_set (n : Bool) (l : List Int) (hl : l.length = 8) (k : Nat) (hk : k < 8) (x : Int) : (aW n l).setIfInBounds (1 + k) (.int .i64 x) = aW n (l.set k x) := by
  have e : ∀ j, dg (l.set k x) j = if j = k then x else dg l j := fun j => dg_set l k j x (by omega)
  unfold aW
  simp only [e]
  match k, hk with
  | 0, _ | 1, _ | 2, _ | 3, _ | 4, _ | 5, _ | 6, _ | 7, _ => rfl
theorem blk_set {w : World} {g : Nat} {cs : Array Value} {t : TypeId} (h : w.heap[g]? = some (.cells cs t (0, 0))) (j : Nat) (u : Value) : (w.setCell ⟨g, j, none⟩ u).heap[g]? = some (.cells (cs.setIfInBounds j u) t (0, 0)) := by
  simp [World.setCell, Array.getElem?_modify, h]
theorem Wd.set {w g n l} (h : Wd w g n l) (hl : l.length = 8) (k : Nat) (hk : k < 8) (x : Int) : Wd (w.setCell ⟨g, 1 + k, none⟩ (.int .i64 x)) g n (l.set k x) := by
  unfold Wd; rw [blk_set h, aW_set n l hl k hk]
theorem Wd.setn {w g n l} (h : Wd w g n l) (b : Bool) : Wd (w.setCell ⟨g, 0, none⟩ (.bool b)) g b l := by
  unfold Wd; rw [blk_set h]; rfl
theorem Wd.far {w g n l} (h : Wd w g n l) {p : Addr} (hp : p.block ≠ g) (u : Value) : Wd (w.setCell p u) g n l := (Below.heap_setCell w p u g (Ne.symm hp)).trans h
theorem Wd.below {w w1 g n l} (h : Wd w g n l) (hb : Below w.heap.size w w1) : Wd w1 g n l := (hb.block _ h.lt).trans h
/-- all nine cells -/
theorem Wd.alloc {w g n l} (h : Wd w g n l) (o : Obj) : Wd (w.alloc o) g n l := h.below ((Below.refl _ w).alloc (Nat.le_refl _) o)
theorem Wd.new (w : World) (n : Bool) (l : List Int) : Wd (w.alloc (.cells (aW n l) 169)) w.heap.size n l := heap_alloc_new w _
theorem Wd.drew {w g n l} (h : Wd w g n l) : Wd w.drew g n l := h
theorem Wd.drewN {w g n l} (h : Wd w g n l) (k : Nat) : Wd (w.drewN k) g n l := h
theorem Wd.fzs {w g n l} (h : Wd w g n l) : w.frozen? ⟨g, 0, none⟩ = false ∧ w.frozen? ⟨g, 1, none⟩ = false ∧ w.frozen? ⟨g, 2, none⟩ = false ∧ w.frozen? ⟨g, 3, none⟩ = false ∧ w.frozen? ⟨g, 4, none⟩ = false ∧ w.frozen? ⟨g, 5, none⟩ = false ∧ w.frozen? ⟨g, 6, none⟩ = false ∧ w.frozen? ⟨g, 7, none⟩ = false ∧ w.frozen? ⟨g, 8, none⟩ = false :=
  ⟨h.fz 0, h.fz 1, h.fz 2, h.fz 3, h.fz 4, h.fz 5, h.fz 6, h.fz 7, h.fz 8⟩
/-- all nine cells -/
theorem Wd.all {w g n l} (h : Wd w g n l) : w.cell? ⟨g, 0, none⟩ = some (.bool n) ∧ w.cell? ⟨g, 1, none⟩ = some (.int .i64 (dg l 0)) ∧ w.cell? ⟨g, 2, none⟩ = some (.int .i64 (dg l 1)) ∧ w.cell? ⟨g, 3, none⟩ = some (.int .i64 (dg l 2)) ∧ w.cell? ⟨g, 4, none⟩ = some (.int .i64 (dg l 3)) ∧ w.cell? ⟨g, 5, none⟩ = some (.int .i64 (dg l 4)) ∧ w.cell? ⟨g, 6, none⟩ = some (.int .i64 (dg l 5)) ∧ w.cell? ⟨g, 7, none⟩ = some (.int .i64 (dg l 6)) ∧ w.cell? ⟨g, 8, none⟩ = some (.int .i64 (dg l 7)) :=
  ⟨h.neg, h.dig 0 (by omega), h.dig 1 (by omega), h.dig 2 (by omega), h.dig 3 (by omega), h.dig 4 (by omega), h.dig 5 (by omega), h.dig 6 (by omega), h.dig 7 (by omega)⟩
/-- nine stores -/
def set9 (w : World) (g : Nat) (a0 a1 a2 a3 a4 a5 a6 a7 a8 : Value) : World := ((((((((w.setCell ⟨g, 0, none⟩ a0).setCell ⟨g, 1, none⟩ a1).setCell ⟨g, 2, none⟩ a2).setCell ⟨g, 3, none⟩ a3).setCell ⟨g, 4, none⟩ a4).setCell ⟨g, 5, none⟩ a5).setCell ⟨g, 6, none⟩ a6).setCell ⟨g, 7, none⟩ a7).setCell ⟨g, 8, none⟩ a8
theorem blk9 {W : World} {g : Nat} {b0 b1 b2 b3 b4 b5 b6 b7 b8 : Value} {t : TypeId} (h : W.heap[g]? = some (.cells #[b0, b1, b2, b3, b4, b5, b6, b7, b8] t (0, 0))) (a0 a1 a2 a3 a4 a5 a6 a7 a8 : Value) :
    (set9 W g a0 a1 a2 a3 a4 a5 a6 a7 a8).heap[g]? = some (.cells #[a0, a1, a2, a3, a4, a5, a6, a7, a8] t (0, 0)) := by
  have h0 := blk_set h 0 a0
  have h1 := blk_set h0 1 a1
  have h2 := blk_set h1 2 a2
  have h3 := blk_set h2 3 a3
  have h4 := blk_set h3 4 a4
  have h5 := blk_set h4 5 a5
  have h6 := blk_set h5 6 a6
  have h7 := blk_set h6 7 a7
  have h8 := blk_set h7 8 a8
  simp only [List.setIfInBounds_toArray, List.set_cons_zero, List.set_cons_succ] at h8
  exact h8
theorem blk9_set {W : World} {g : Nat} {n l} (h : Wd W g n l) (m : Bool) (k : List Int) :
    Wd (set9 W g (.bool m) (.int .i64 (dg k 0)) (.int .i64 (dg k 1)) (.int .i64 (dg k 2)) (.int .i64 (dg k 3)) (.int .i64 (dg k 4)) (.int .i64 (dg k 5)) (.int .i64 (dg k 6)) (.int .i64 (dg k 7))) g m k := blk9 h ..
theorem below_set9 {B : Nat} {a w : World} (h : Below B a w) {g : Nat} (hg : B ≤ g) (a0 a1 a2 a3 a4 a5 a6 a7 a8 : Value) : Below B a (set9 w g a0 a1 a2 a3 a4 a5 a6 a7 a8) :=
  ((((((((h.setCell (p := ⟨g, 0, none⟩) hg a0).setCell (p := ⟨g, 1, none⟩) hg a1).setCell (p := ⟨g, 2, none⟩) hg a2).setCell (p := ⟨g, 3, none⟩) hg a3).setCell (p := ⟨g, 4, none⟩) hg a4).setCell (p := ⟨g, 5, none⟩) hg a5).setCell (p := ⟨g, 6, none⟩) hg a6).setCell (p := ⟨g, 7, none⟩) hg a7).setCell (p := ⟨g, 8, none⟩) hg a8
theorem set9_far {w : World} {g k : Nat} (h : k ≠ g) (a0 a1 a2 a3 a4 a5 a6 a7 a8 : Value) : (set9 w g a0 a1 a2 a3 a4 a5 a6 a7 a8).heap[k]? = w.heap[k]? :=
  (Below.heap_setCell _ _ _ k h).trans ((Below.heap_setCell _ _ _ k h).trans ((Below.heap_setCell _ _ _ k h).trans ((Below.heap_setCell _ _ _ k h).trans ((Below.heap_setCell _ _ _ k h).trans ((Below.heap_setCell _ _ _ k h).trans ((Below.heap_setCell _ _ _ k h).trans ((Below.heap_setCell _ _ _ k h).trans (Below.heap_setCell _ _ _ k h))))))))
/-- a value is a wide number's, with eight digits -/
structure WV (v : Value) (x : Int) : Prop where
  out : ∃ n l, v = .agg (aW n l) ∧ l.length = 8 ∧ digs l ∧ wval n l = x
def zs8 : List Int := [0, 0, 0, 0, 0, 0, 0, 0]
def OfPost (x : Int) (w : World) (e : Ending) (w' : World) : Prop := ∃ v, e = .returned v ∧ WV v x ∧ Below w.heap.size w w'
theorem u64_neg (x : Int) (h1 : -9223372036854775808 ≤ x) (h2 : x < 0) : IntKind.u64.wrap (-IntKind.u64.wrap x) = ((x.natAbs : Nat) : Int) := by
  have e : IntKind.u64.wrap x = x + 18446744073709551616 := by
    simp [IntKind.wrap, IntKind.bits, IntKind.signed]; omega
  rw [e]
  simp [IntKind.wrap, IntKind.bits, IntKind.signed]; omega
theorem u64_pos (x : Int) (h1 : 0 ≤ x) (h2 : x ≤ 9223372036854775807) : IntKind.u64.wrap x = ((x.natAbs : Nat) : Int) := by
  simp [IntKind.wrap, IntKind.bits, IntKind.signed]; omega
set_option maxHeartbeats 1000000 in
theorem of_calls (x : Int) (hx1 : -9223372036854775808 ≤ x) (hx2 : x ≤ 9223372036854775807) (w : World) : Calls Try.prog 152 #[.int .i64 x] w (OfPost x w) := by
  have h1 := u64_neg x hx1
  have h2 := fun h => u64_pos x h hx2
  obtain ⟨N, hN⟩ : ∃ N, x.natAbs = N := ⟨_, rfl⟩
  have hN2 : N < 16777216 ^ 8 := by omega
  have hN3 : N ≤ 9223372036854775808 := by omega
  go_enter Try.func152, Try.ntmps152
  go_wp2
  all_goals
    go_loopw [4, 5] (fun v4 v5 wr => ∃ (k u : Nat) (l : List Int) (n : Bool), k ≤ 8 ∧ v5 = .int .i64 k ∧ v4 = .int .u64 u ∧ Hid (Wd wr (w.heap.size + 1) n l) ∧ Hid (n = decide (x < 0)) ∧ Hid (Wd wr w.heap.size false zs8) ∧ Hid (OfI N k l u) ∧ Hid (Below w.heap.size w wr)) (fun _ i _ => 8 - (intOf i).toNat)
    case atStart =>
      refine ⟨0, N, zs8, decide (x < 0), by omega, rfl, by simp [*], Lh ?_, rfl, Lh ?_, Lh (OfI.start N), Lh ?_⟩
      · first
          | (rw [decide_eq_true (by assumption)]; have HB := Wd.new (w.alloc (.cells (aW false zs8) 169)) true zs8; rw [World.size_alloc] at HB; exact HB)
          | (rw [decide_eq_false (by omega)]; have HB := Wd.new (w.alloc (.cells (aW false zs8) 169)) false zs8; rw [World.size_alloc] at HB; exact HB)
      · exact (Wd.new w false zs8).alloc _
      · exact ((Below.refl _ w).alloc (Nat.le_refl _) _).alloc (by simp) _
    case round =>
      obtain ⟨k, u, l, n, hk, rfl, rfl, hB, hn, hA, hI, hW⟩ := hrel
      by_cases hlt : k < 8
      · have c0 := hB.out.dig k hlt
        have f0 := hB.out.fz (1 + k)
        have hu := hI.out.le
        have e1 : IntKind.u64.wrap ((u : Int) / 16777216) = ((u / 16777216 : Nat) : Int) := by simp [IntKind.wrap, IntKind.bits, IntKind.signed]; omega
        go_wp2
        go_roundw
        case rel => exact ⟨k + 1, u / 16777216, l.set k ((u % 16777216 : Nat) : Int), n, by omega, by go_num, by go_num, hB.out.set hI.out.1 k hlt _, hn, hA.out.far (by simp) _, hI.out.step hlt, hW.out.setCell (by simp) _⟩
        case measure => simp [intOf]; omega
      · obtain rfl : k = 8 := by omega
        obtain ⟨z0, z1, z2, z3, z4, z5, z6, z7, z8⟩ := hB.out.all
        obtain ⟨y0, y1, y2, y3, y4, y5, y6, y7, y8⟩ := hA.out.all
        obtain ⟨x0, x1, x2, x3, x4, x5, x6, x7, x8⟩ := hA.out.fzs
        have hv : WV (.agg (aW n l)) x := ⟨n, l, rfl, hI.out.1, hI.out.2.1, by have := hI.out.done hN2; rw [hn.out]; unfold wval; split <;> (simp at *; omega)⟩
        have HS := blk9_set hA.out n l
        have HW := below_set9 hW.out (Nat.le_refl _) (.bool n) (.int .i64 (dg l 0)) (.int .i64 (dg l 1)) (.int .i64 (dg l 2)) (.int .i64 (dg l 3)) (.int .i64 (dg l 4)) (.int .i64 (dg l 5)) (.int .i64 (dg l 6)) (.int .i64 (dg l 7))
        unfold set9 at HS HW
        obtain ⟨V, hV⟩ : ∃ V, ((((((((wr.setCell ⟨w.heap.size, 0, none⟩ (.bool n)).setCell ⟨w.heap.size, 1, none⟩ (.int .i64 (dg l 0))).setCell ⟨w.heap.size, 2, none⟩ (.int .i64 (dg l 1))).setCell ⟨w.heap.size, 3, none⟩ (.int .i64 (dg l 2))).setCell ⟨w.heap.size, 4, none⟩ (.int .i64 (dg l 3))).setCell ⟨w.heap.size, 5, none⟩ (.int .i64 (dg l 4))).setCell ⟨w.heap.size, 6, none⟩ (.int .i64 (dg l 5))).setCell ⟨w.heap.size, 7, none⟩ (.int .i64 (dg l 6))).setCell ⟨w.heap.size, 8, none⟩ (.int .i64 (dg l 7)) = V := ⟨_, rfl⟩
        rw [hV] at HS HW
        obtain ⟨t0, t1, t2, t3, t4, t5, t6, t7, t8⟩ := HS.all
        clear h1 h2 HS
        have HV := Lh hV
        clear hV
        go_wp2
        rw [HV.out]
        exact bodyPost_ret (v := .agg (aW n l)) (by simp [results, Try.results152, go_sem, t0, t1, t2, t3, t4, t5, t6, t7, t8]) rfl ⟨_, rfl, hv, HW⟩
end Go.Proofs.Ytckdhahceelckaa.G
namespace Go.Proofs.Ytckdhahceelckaa.G
open Go.RowKit Go.Proofs.YtckdhahceelckaaW.PrintWords Go.Proofs.YtckdhahceelckaaW.PrintLast Go.Proofs.YtckdhahceelckaaW.PrintMore
attribute [local go_sem] max2_mx min2_mn max_two min_two max_three min_three max_four min_four
set_option linter.unusedVariables false
set_option linter.unusedSimpArgs false
/-- which of two lists of digits is the lesser one -/
def cmpF (l k : List Int) : Int := if mag l < mag k then -1 else if mag k < mag l then 1 else 0
theorem cmpF_lt {l k : List Int} (h : mag l < mag k) : cmpF l k = -1 := by unfold cmpF; rw [if_pos h]
theorem cmpF_gt {l k : List Int} (h : mag k < mag l) : cmpF l k = 1 := by unfold cmpF; rw [if_neg (by omega), if_pos h]
theorem cmpF_eq {l k : List Int} (h : l = k) : cmpF l k = 0 := by subst h; unfold cmpF; rw [if_neg (by omega), if_neg (by omega)]
theorem drop_step {l k : List Int} {i : Nat} (hl : l.length = 8) (hk : k.length = 8) (hi : i < 8) (h : l.drop (i + 1) = k.drop (i + 1)) (he : dg l i = dg k i) : l.drop i = k.drop i := by
  rw [List.drop_eq_getElem_cons (by omega), List.drop_eq_getElem_cons (show i < k.length by omega), h, ← dg_lt l i (by omega), ← dg_lt k i (by omega), he]
set_option maxHeartbeats 1000000 in
theorem size_calls (n m : Bool) (l k : List Int) (hl : l.length = 8) (hk : k.length = 8) (hd : digs l) (he : digs k) (w : World) :
    Calls Try.prog 181 #[.agg (aW n l), .agg (aW m k)] w fun e w' => e = .returned (.int .i64 (cmpF l k)) ∧ Below w.heap.size w w' := by
  have HL := Lh hl
  have HK := Lh hk
  have HD := Lh hd
  have HE := Lh he
  clear hl hk hd he
  have HA := Lh ((Wd.new w n l).alloc (.cells (aW m k) 169))
  have HB := Lh (Wd.new (w.alloc (.cells (aW n l) 169)) m k)
  rw [World.size_alloc] at HB
  have HW := Lh (((Below.refl _ w).alloc (Nat.le_refl _) (.cells (aW n l) 169)).alloc (by simp) (.cells (aW m k) 169))
  go_enter Try.func181, Try.ntmps181
  go_wp2
  go_loopw [5] (fun v5 wr => ∃ z : Int, v5 = .int .i64 z ∧ -1 ≤ z ∧ z ≤ 7 ∧ Hid (l.drop (z + 1).toNat = k.drop (z + 1).toNat) ∧ Hid (Wd wr w.heap.size n l) ∧ Hid (Wd wr (w.heap.size + 1) m k) ∧ Hid (Below w.heap.size w wr)) (fun i _ => (intOf i + 1).toNat)
  case atStart => exact ⟨7, rfl, by omega, by omega, Lh (by rw [List.drop_of_length_le (by rw [HL.out]; decide), List.drop_of_length_le (by rw [HK.out]; decide)]), HA, HB, HW⟩
  case round =>
    obtain ⟨z, rfl, hz1, hz2, hD, hA, hB, hW⟩ := hrel
    by_cases hz : z < 0
    · obtain rfl : z = -1 := by omega
      have E : Hid (cmpF l k = 0) := Lh (cmpF_eq (by simpa using hD.out))
      go_wp2
      go_ret
      exact ⟨by rw [E.out]; rfl, hW.out⟩
    · obtain ⟨i, rfl⟩ : ∃ i : Nat, z = i := ⟨z.toNat, by omega⟩
      have hi : i < 8 := by omega
      have c0 := hA.out.dig i hi
      have c1 := hB.out.dig i hi
      have hdr : Hid (l.drop (i + 1) = k.drop (i + 1)) := hD
      clear hz hD
      rcases Int.lt_trichotomy (dg l i) (dg k i) with h | h | h
      · have t1 : decide (dg l i < dg k i) = true := by simpa using h
        have e := cmpF_lt (mag_less l k i HD.out HE.out (by rw [HL.out]; exact hi) (by rw [HK.out]; exact hi) hdr.out h)
        have E := Lh e
        clear e h
        go_wp2
        go_quiet (fail)
        go_wp2
        go_ret
        exact ⟨by rw [E.out]; rfl, pw_below_drewN hW.out _⟩
      · have t1 : decide (dg l i < dg k i) = false := by simp; omega
        have t2 : decide (dg k i < dg l i) = false := by simp; omega
        have hN := Lh (drop_step HL.out HK.out hi hdr.out h)
        clear h
        go_wp2
        go_quiet (fail)
        go_wp2
        go_quiet (fail)
        go_wp2
        go_roundw
        case rel => exact ⟨↑i - 1, rfl, by omega, by omega, by rw [show ((i : Int) - 1 + 1).toNat = i by omega]; exact hN, hA, hB, pw_below_drewN hW.out _⟩
        case measure => simp [intOf]
      · have t1 : decide (dg l i < dg k i) = false := by simp; omega
        have t2 : decide (dg k i < dg l i) = true := by simpa using h
        have e := cmpF_gt (mag_less k l i HE.out HD.out (by rw [HK.out]; exact hi) (by rw [HL.out]; exact hi) hdr.out.symm h)
        have E := Lh e
        clear e h
        go_wp2
        go_quiet (fail)
        go_wp2
        go_quiet (fail)
        go_wp2
        go_ret
        exact ⟨by rw [E.out]; rfl, pw_below_drewN (pw_below_drewN hW.out _) _⟩
end Go.Proofs.Ytckdhahceelckaa.G
namespace Go.Proofs.Ytckdhahceelckaa.G
open Go.RowKit Go.Proofs.YtckdhahceelckaaW.PrintWords Go.Proofs.YtckdhahceelckaaW.PrintLast Go.Proofs.YtckdhahceelckaaW.PrintMore
attribute [local go_sem] max2_mx min2_mn max_two min_two max_three min_three max_four min_four
set_option linter.unusedVariables false
set_option linter.unusedSimpArgs false
theorem gcd_tmod (a b : Int) : Int.gcd b (a.tmod b) = Int.gcd a b := by
  rw [Int.tmod_def, Int.gcd_comm]
  exact Int.gcd_sub_mul_left_left b a _
theorem ret_int {k : IntKind} {a b : Int} (h : a = b) : Ending.returned (.int k a) = Ending.returned (.int k b) := by rw [h]
theorem w64_id (x : Int) (h1 : -9223372036854775808 ≤ x) (h2 : x ≤ 9223372036854775807) : wrap64 x = x := by unfold wrap64; omega
set_option maxHeartbeats 1000000 in
theorem gcd_calls (a b : Int) (w : World) (ha1 : -4611686018427387904 ≤ a) (ha2 : a ≤ 4611686018427387904) (hb1 : -4611686018427387904 ≤ b) (hb2 : b ≤ 4611686018427387904) :
    Calls Try.prog 166 #[.int .i64 a, .int .i64 b] w fun e w' => e = .returned (.int .i64 (Int.gcd a b)) ∧ Below w.heap.size w w' := by
  go_enter Try.func166, Try.ntmps166
  go_wp2
  go_loopw [0, 1] (fun v0 v1 wr => ∃ x y : Int, v0 = .int .i64 x ∧ v1 = .int .i64 y ∧ Hid (Int.gcd x y = Int.gcd a b) ∧ -4611686018427387904 ≤ x ∧ x ≤ 4611686018427387904 ∧ -4611686018427387904 ≤ y ∧ y ≤ 4611686018427387904 ∧ Below w.heap.size w wr) (fun _ y _ => (intOf y).natAbs)
  case atStart => exact ⟨a, b, rfl, rfl, rfl, ha1, ha2, hb1, hb2, Below.refl _ _⟩
  case round =>
    obtain ⟨x, y, rfl, rfl, hg, hx1, hx2, hy1, hy2, hbr⟩ := hrel
    clear ha1 ha2 hb1 hb2
    by_cases h0 : y = 0
    · subst h0
      go_wp2
      go_ret
      refine ⟨ret_int ?_, hbr⟩
      have e := hg.out
      simp at e
      rw [← e]
      unfold mx
      omega
    · have h0' : (y != 0) = true := by simpa using h0
      have h0'' : (y == 0) = false := by simpa using h0
      have hG := gcd_tmod x y
      have hm1 : (x.tmod y).natAbs < y.natAbs := by rw [Int.natAbs_tmod]; exact Nat.mod_lt _ (by omega)
      have HG : Hid (Int.gcd y (x.tmod y) = Int.gcd a b) := hG.trans hg.out
      clear hG hg
      go_wp2
      go_quiet (fail)
      go_wp2
      go_roundw
      case rel => exact ⟨y, x.tmod y, rfl, rfl, HG, by omega, by omega, by omega, by omega, pw_below_drewN hbr _⟩
      case measure => simpa [intOf] using hm1
theorem beyond_calls (x y z n : Int) (w : World) (hn1 : 0 ≤ n) (hn2 : n ≤ 9223372036854775807) :
    Calls Try.prog 123 #[.agg #[.int .i64 x, .int .i64 y, .int .i64 z], .int .i64 n] w fun e w' => e = .returned (.bool (far3 n ⟨x, y, z⟩)) ∧ Below w.heap.size w w' := by
  have hw : wrap64 (-n) = -n := w64_id _ (by omega) (by omega)
  unfold far3
  rw [hw]
  clear hw
  go_enter Try.func123, Try.ntmps123
  go_wp2
  all_goals (go_ret; exact ⟨by simp [*], ((Below.refl _ _).alloc (Nat.le_refl _) _)⟩)
theorem tdiv_le (x n : Int) (B : Nat) (hx : x.natAbs ≤ B) : (x.tdiv n).natAbs ≤ B := by
  rw [Int.natAbs_tdiv]; exact Nat.le_trans (Nat.div_le_self _ _) hx
theorem iw_id (x : Int) (h1 : -9223372036854775808 ≤ x) (h2 : x ≤ 9223372036854775807) : IntKind.i64.wrap x = x := by rw [IntKind.wrap_i64]; omega
theorem iw_tdiv (x n : Int) (h1 : -4611686018427387904 ≤ x) (h2 : x ≤ 4611686018427387904) : IntKind.i64.wrap (x.tdiv n) = x.tdiv n := by
  have := tdiv_le x n 4611686018427387904 (by omega)
  exact iw_id _ (by omega) (by omega)
def div3 (n : Int) (p : P3) : P3 := ⟨p.x.tdiv n, p.y.tdiv n, p.z.tdiv n⟩
set_option maxHeartbeats 1000000 in
theorem divisor_calls (n x y z : Int) (w : World) (hn : n ≠ 0) (hn1 : 1 ≤ n) (hx1 : -4611686018427387904 ≤ x) (hx2 : x ≤ 4611686018427387904) (hy1 : -4611686018427387904 ≤ y) (hy2 : y ≤ 4611686018427387904) (hz1 : -4611686018427387904 ≤ z) (hz2 : z ≤ 4611686018427387904) :
    Calls Try.prog 125 #[.int .i64 n, .agg #[.int .i64 x, .int .i64 y, .int .i64 z]] w fun e w' => e = .returned (.agg #[.int .i64 (div3 n ⟨x, y, z⟩).x, .int .i64 (div3 n ⟨x, y, z⟩).y, .int .i64 (div3 n ⟨x, y, z⟩).z]) ∧ Below w.heap.size w w' := by
  have hd : (n == 0) = false := by simpa using hn
  have ex := iw_tdiv x n hx1 hx2
  have ey := iw_tdiv y n hy1 hy2
  have ez := iw_tdiv z n hz1 hz2
  go_enter Try.func125, Try.ntmps125
  go_wp2
  go_region_held3 (fun w' => w'.cell? ⟨w.heap.size, 0, none⟩ = some (.int .i64 x) ∧ w'.cell? ⟨w.heap.size, 1, none⟩ = some (.int .i64 y) ∧ w'.cell? ⟨w.heap.size, 2, none⟩ = some (.int .i64 z)) (go_keep) (fail)
  go_wp2
  exact bodyPost_ret (v := .agg #[.int .i64 (div3 n ⟨x, y, z⟩).x, .int .i64 (div3 n ⟨x, y, z⟩).y, .int .i64 (div3 n ⟨x, y, z⟩).z]) (by simp [results, Try.results125, go_sem, div3]) rfl ⟨rfl, (by repeat (first | exact Below.refl _ _ | refine Below.setCell ?_ (by simp <;> omega) _ | refine Below.alloc ?_ (by simp <;> omega) _ | refine Below.drew ?_))⟩
def gcd3 (p : P3) : Int := Int.gcd (Int.gcd p.x p.y) p.z
def bare3 (p : P3) : P3 := div3 (gcd3 p) p
def in3 (n : Int) (p : P3) : Prop := -n ≤ p.x ∧ p.x ≤ n ∧ -n ≤ p.y ∧ p.y ≤ n ∧ -n ≤ p.z ∧ p.z ≤ n
theorem gcd_le_bd (a b : Int) (B : Nat) (ha : a.natAbs ≤ B) (hb : b.natAbs ≤ B) : Int.gcd a b ≤ B := by
  by_cases h : a = 0
  · subst h; simpa using hb
  · exact Nat.le_trans (Nat.le_of_dvd (by omega) (Nat.gcd_dvd_left a.natAbs b.natAbs)) ha
theorem gcd3_pos (p : P3) (h : p ≠ ⟨0, 0, 0⟩) : 1 ≤ gcd3 p := by
  unfold gcd3
  rcases Nat.eq_zero_or_pos (Int.gcd (Int.gcd p.x p.y) p.z) with h0 | h0
  · exfalso
    rw [Int.gcd_eq_zero_iff] at h0
    obtain ⟨h1, h2⟩ := h0
    have h1' : Int.gcd p.x p.y = 0 := by omega
    rw [Int.gcd_eq_zero_iff] at h1'
    exact h (by cases p; simp_all)
  · omega
set_option maxHeartbeats 1000000 in
theorem bare_calls (x y z : Int) (w : World) (hp : (⟨x, y, z⟩ : P3) ≠ ⟨0, 0, 0⟩) (hx1 : -4611686018427387904 ≤ x) (hx2 : x ≤ 4611686018427387904) (hy1 : -4611686018427387904 ≤ y) (hy2 : y ≤ 4611686018427387904) (hz1 : -4611686018427387904 ≤ z) (hz2 : z ≤ 4611686018427387904) :
    Calls Try.prog 124 #[.agg #[.int .i64 x, .int .i64 y, .int .i64 z]] w fun e w' => e = .returned (.agg #[.int .i64 (bare3 ⟨x, y, z⟩).x, .int .i64 (bare3 ⟨x, y, z⟩).y, .int .i64 (bare3 ⟨x, y, z⟩).z]) ∧ Below w.heap.size w w' := by
  have k1 := gcd3_pos _ hp
  have k2 : (Int.gcd x y : Int) ≤ 4611686018427387904 := by have := gcd_le_bd x y 4611686018427387904 (by omega) (by omega); omega
  have k3 : (0 : Int) ≤ Int.gcd x y := by omega
  unfold bare3
  unfold gcd3 at k1 ⊢
  simp only at k1 ⊢
  clear hp
  obtain ⟨G, hG⟩ : ∃ G : Int, (Int.gcd x y : Int) = G := ⟨_, rfl⟩
  obtain ⟨E, hE⟩ : ∃ E : Int, (Int.gcd G z : Int) = E := ⟨_, rfl⟩
  rw [hG] at k1 k2 k3
  rw [hG, hE]
  rw [hE] at k1
  have HG := Lh hG
  have HE := Lh hE
  clear hG hE
  go_enter Try.func124, Try.ntmps124
  go_wp2
  have B1 := ((C3.new w (.int .i64 x) (.int .i64 y) (.int .i64 z) 23).alloc (.cells #[.int .i64 0, .int .i64 0, .int .i64 0] 23)).drew
  have B2 := (C3.new (w.alloc (.cells #[.int .i64 x, .int .i64 y, .int .i64 z] 23)) (.int .i64 0) (.int .i64 0) (.int .i64 0) 23).drew
  simp only [World.size_alloc] at B2
  go_region_held3 (fun w' => w'.cell? ⟨w.heap.size, 0, none⟩ = some (.int .i64 x) ∧ w'.cell? ⟨w.heap.size, 1, none⟩ = some (.int .i64 y) ∧ w'.cell? ⟨w.heap.size, 2, none⟩ = some (.int .i64 z))
    (first | exact ⟨c10, c11, c12⟩ | (go_keep; done))
    (first
      | (go_at_call_of 166 z; refine (gcd_calls _ _ _ ?_ ?_ ?_ ?_).mono ?_; omega; omega; omega; omega; rintro e w2 ⟨rfl, hb2⟩; rw [HE.out]; have B1 := B1.below hb2; have B2 := B2.below hb2; obtain ⟨c10, c11, c12, f10, f11, f12⟩ := id B1; obtain ⟨c20, c21, c22, f20, f21, f22⟩ := id B2)
      | (go_at_call_of 166 y; refine (gcd_calls _ _ _ ?_ ?_ ?_ ?_).mono ?_; omega; omega; omega; omega; rintro e w1 ⟨rfl, hb1⟩; rw [HG.out]; have B1 := B1.below hb1; have B2 := B2.below hb1; obtain ⟨c10, c11, c12, f10, f11, f12⟩ := id B1; obtain ⟨c20, c21, c22, f20, f21, f22⟩ := id B2)
      | (go_at_call 125; refine (divisor_calls _ _ _ _ _ ?_ ?_ ?_ ?_ ?_ ?_ ?_ ?_).mono ?_; omega; omega; omega; omega; omega; omega; omega; omega; rintro e w3 ⟨rfl, hb3⟩; have B1 := B1.below hb3; have B2 := B2.below hb3; obtain ⟨c10, c11, c12, f10, f11, f12⟩ := id B1; obtain ⟨c20, c21, c22, f20, f21, f22⟩ := id B2))
  go_wp2
  have hB : Below w.heap.size w w3 := (((((Below.refl _ w).alloc (Nat.le_refl _) _).alloc (by simp) _).drew.trans (hb1.mono (by simp; omega))).trans (hb2.mono (by have := hb1.size; simp at this; omega))).trans (hb3.mono (by have := hb1.size; have := hb2.size; simp at *; omega))
  exact bodyPost_ret (v := .agg #[.int .i64 (div3 E ⟨x, y, z⟩).x, .int .i64 (div3 E ⟨x, y, z⟩).y, .int .i64 (div3 E ⟨x, y, z⟩).z]) (by simp [results, Try.results124, go_sem, *]) rfl ⟨rfl, ((hB.setCell (by simp) _).setCell (by simp) _).setCell (by simp) _⟩
end Go.Proofs.Ytckdhahceelckaa.G
namespace Go.Proofs.Ytckdhahceelckaa.G
open Go.RowKit Go.Proofs.YtckdhahceelckaaW.PrintWords Go.Proofs.YtckdhahceelckaaW.PrintLast Go.Proofs.YtckdhahceelckaaW.PrintMore
attribute [local go_sem] max2_mx min2_mn max_two min_two max_three min_three max_four min_four
set_option linter.unusedVariables false
set_option linter.unusedSimpArgs false
set_option maxHeartbeats 2000000 in
theorem plus_same (n : Bool) (l k : List Int) (hl : l.length = 8) (hk : k.length = 8) (hd : digs l) (he : digs k) (hs : mag l + mag k < 16777216 ^ 8) (w : World) :
    Calls Try.prog 179 #[.agg (aW n l), .agg (aW n k)] w (OfPost (wval n l + wval n k) w) := by
  have HL := Lh hl
  have HK := Lh hk
  have HD := Lh hd
  have HE := Lh he
  have HS := Lh hs
  have HX := Lh (AddI.start l k hl hd)
  clear hl hk hd he hs
  have HA := ((Wd.new w n l).alloc (.cells (aW n k) 169)).alloc (.cells (aW false zs8) 169)
  have HB := (Wd.new (w.alloc (.cells (aW n l) 169)) n k).alloc (.cells (aW false zs8) 169)
  have HC := Wd.new ((w.alloc (.cells (aW n l) 169)).alloc (.cells (aW n k) 169)) false zs8
  rw [World.size_alloc] at HB
  rw [World.size_alloc, World.size_alloc] at HC
  have HW := (((Below.refl _ w).alloc (Nat.le_refl _) (.cells (aW n l) 169)).alloc (by simp) (.cells (aW n k) 169)).alloc (by simp; omega) (.cells (aW false zs8) 169)
  have HA := Lh (HA.alloc (.cells (aW n l) 169))
  have HB := Lh (HB.alloc (.cells (aW n l) 169))
  have HC := Lh (HC.alloc (.cells (aW n l) 169))
  have HO := Wd.new (((w.alloc (.cells (aW n l) 169)).alloc (.cells (aW n k) 169)).alloc (.cells (aW false zs8) 169)) n l
  simp only [World.size_alloc] at HO
  have HO := Lh HO
  have HW := Lh (HW.alloc (by simp; omega) (.cells (aW n l) 169))
  go_enter Try.func179, Try.ntmps179
  go_wp2
  go_loopw [5, 7, 8] (fun v5 v7 v8 wr => ∃ (i : Nat) (c : Int) (o : List Int), i ≤ 8 ∧ v7 = .int .i64 i ∧ v5 = .int .i64 c ∧ 0 ≤ c ∧ c ≤ 1 ∧ Hid (Wd wr w.heap.size n l) ∧ Hid (Wd wr (w.heap.size + 1) n k) ∧ Hid (Wd wr (w.heap.size + 1 + 1) false zs8) ∧ Hid (Wd wr (w.heap.size + 1 + 1 + 1) n o) ∧ Hid (AddI l k i o c) ∧ Hid (Below w.heap.size w wr)) (fun _ i _ _ => 8 - (intOf i).toNat)
  case atStart => exact ⟨0, 0, l, by omega, rfl, rfl, by omega, by omega, HA, HB, HC, HO, HX, HW⟩
  case round =>
    clear HX HA HB HC HO HW
    obtain ⟨i, c, o, hi8, rfl, rfl, hc0, hc1, hA, hB, hC, hO, hI, hW⟩ := hrel
    by_cases hi : i < 8
    · have c0 := hA.out.dig i hi
      have c1 := hB.out.dig i hi
      have c2 := hO.out.dig i hi
      have f2 := hO.out.fz (1 + i)
      obtain ⟨a0, a1⟩ := dg_ok HD.out i
      obtain ⟨b0, b1⟩ := dg_ok HE.out i
      have hN := Lh (hI.out.step HD.out HE.out HK.out hi)
      obtain ⟨x, hx⟩ : ∃ x, dg l i = x := ⟨_, rfl⟩
      obtain ⟨y, hy⟩ : ∃ y, dg k i = y := ⟨_, rfl⟩
      rw [hx] at c0 a0 a1 hN
      rw [hy] at c1 b0 b1 hN
      clear hx hy
      have e1 : IntKind.i64.wrap (x + y) = x + y := iw_id _ (by omega) (by omega)
      have e2 : IntKind.i64.wrap (x + y + c) = x + y + c := iw_id _ (by omega) (by omega)
      go_wp2
      go_quiet (fail)
      clear e1 e2
      obtain ⟨s, hs⟩ : ∃ s, x + y + c = s := ⟨_, rfl⟩
      have s0 : 0 ≤ s := by omega
      have s1 : s ≤ 33554431 := by omega
      rw [hs] at hN ⊢
      clear hs
      go_wp2
      go_roundw
      case rel => exact ⟨i + 1, s / 16777216, _, by omega, by go_num, rfl, by omega, by omega, (hA.out.drewN _).far (by simp; try omega) _, (hB.out.drewN _).far (by simp; try omega) _, (hC.out.drewN _).far (by simp; try omega) _, (hO.out.drewN _).set hI.out.1 i hi _, hN, (pw_below_drewN hW.out _).setCell (by simp; omega) _⟩
      case measure => simp [intOf]; omega
    · obtain rfl : i = 8 := by omega
      obtain ⟨z0, z1, z2, z3, z4, z5, z6, z7, z8⟩ := hO.out.all
      obtain ⟨y0, y1, y2, y3, y4, y5, y6, y7, y8⟩ := hC.out.all
      obtain ⟨x0, x1, x2, x3, x4, x5, x6, x7, x8⟩ := hC.out.fzs
      have hv : WV (.agg (aW n o)) (wval n l + wval n k) := ⟨n, o, rfl, hI.out.1, hI.out.2.1, by have := hI.out.done HK.out HS.out; unfold wval; split <;> omega⟩
      have HS := blk9_set hC.out n o
      have HW := below_set9 hW.out (g := w.heap.size + 1 + 1) (by omega) (.bool n) (.int .i64 (dg o 0)) (.int .i64 (dg o 1)) (.int .i64 (dg o 2)) (.int .i64 (dg o 3)) (.int .i64 (dg o 4)) (.int .i64 (dg o 5)) (.int .i64 (dg o 6)) (.int .i64 (dg o 7))
      obtain ⟨V, hV⟩ : ∃ V, set9 wr (w.heap.size + 1 + 1) (.bool n) (.int .i64 (dg o 0)) (.int .i64 (dg o 1)) (.int .i64 (dg o 2)) (.int .i64 (dg o 3)) (.int .i64 (dg o 4)) (.int .i64 (dg o 5)) (.int .i64 (dg o 6)) (.int .i64 (dg o 7)) = V := ⟨_, rfl⟩
      rw [hV] at HS HW
      obtain ⟨t0, t1, t2, t3, t4, t5, t6, t7, t8⟩ := HS.all
      unfold set9 at hV
      have HV := Lh hV
      clear hV HS
      go_wp2
      rw [HV.out]
      exact bodyPost_ret (v := .agg (aW n o)) (by simp [results, Try.results179, go_sem, t0, t1, t2, t3, t4, t5, t6, t7, t8]) rfl ⟨_, rfl, hv, HW⟩
end Go.Proofs.Ytckdhahceelckaa.G
namespace Go.Proofs.Ytckdhahceelckaa.G
open Go.RowKit Go.Proofs.YtckdhahceelckaaW.PrintWords Go.Proofs.YtckdhahceelckaaW.PrintLast Go.Proofs.YtckdhahceelckaaW.PrintMore
attribute [local go_sem] max2_mx min2_mn max_two min_two max_three min_three max_four min_four
set_option linter.unusedVariables false
set_option linter.unusedSimpArgs false
set_option maxHeartbeats 2000000 in
theorem plus_more (n m : Bool) (l k : List Int) (hnm : (n == m) = false) (hl : l.length = 8) (hk : k.length = 8) (hd : digs l) (he : digs k) (hs : mag k ≤ mag l) (w : World) :
    Calls Try.prog 179 #[.agg (aW n l), .agg (aW m k)] w (OfPost (wval n l + wval m k) w) := by
  have HV : Hid (wval n l + wval m k = wval n l + wval m k ∧ ∀ o, mag o = mag l - mag k → wval n o = wval n l + wval m k) := by
    refine ⟨by omega, fun o ho => ?_⟩
    cases n <;> cases m <;> simp at hnm <;> (simp [wval]; omega)
  have HL := Lh hl
  have HK := Lh hk
  have HD := Lh hd
  have HE := Lh he
  have HX := Lh (SubI.start l k hl hd)
  have hcmp : Hid (decide (cmpF l k < 0) = false) := by unfold cmpF; rw [if_neg (by omega)]; split <;> rfl
  have HS := Lh hs
  clear hl hk hd he hs
  have HA := Lh (((Wd.new w n l).alloc (.cells (aW m k) 169)).alloc (.cells (aW false zs8) 169))
  have HB := (Wd.new (w.alloc (.cells (aW n l) 169)) m k).alloc (.cells (aW false zs8) 169)
  have HC := Wd.new ((w.alloc (.cells (aW n l) 169)).alloc (.cells (aW m k) 169)) false zs8
  rw [World.size_alloc] at HB
  rw [World.size_alloc, World.size_alloc] at HC
  have HB := Lh HB
  have HC := Lh HC
  have HW := Lh ((((Below.refl _ w).alloc (Nat.le_refl _) (.cells (aW n l) 169)).alloc (by simp) (.cells (aW m k) 169)).alloc (by simp; omega) (.cells (aW false zs8) 169))
  go_enter Try.func179, Try.ntmps179
  go_wp2_with fail
  refine (size_calls n m l k HL.out HK.out HD.out HE.out _).mono ?_
  rintro e w3 ⟨rfl, hb3⟩
  have HA3 := Lh (HA.out.below hb3)
  have HB3 := Lh (HB.out.below hb3)
  have HC3 := Lh (HC.out.below hb3)
  have HW3 := Lh (bthen HW.out hb3)
  have hz : w.heap.size + 1 + 1 + 1 ≤ w3.heap.size := by have := hb3.size; simp at this; omega
  have hc := hcmp.out
  clear HA HB HC HW hcmp hb3 hnm
  obtain ⟨p0, p1, p2, p3, p4, p5, p6, p7, p8⟩ := HA3.out.all
  obtain ⟨q0, q1, q2, q3, q4, q5, q6, q7, q8⟩ := HB3.out.all
  go_wp2
  have hA := Lh (HA3.out.alloc (.cells (aW n l) 169))
  have hB := Lh (HB3.out.alloc (.cells (aW n l) 169))
  have hC := Lh (HC3.out.alloc (.cells (aW n l) 169))
  have hO := Lh (Wd.new w3 n l)
  have hW := Lh (HW3.out.alloc (by omega) (.cells (aW n l) 169))
  clear p0 p1 p2 p3 p4 p5 p6 p7 p8 q0 q1 q2 q3 q4 q5 q6 q7 q8 hc HA3 HB3 HC3 HW3
  obtain ⟨O, hO'⟩ : ∃ O, w3.heap.size = O := ⟨_, rfl⟩
  rw [hO'] at hO hz ⊢
  generalize w3.alloc (.cells (aW n l) 169) = w4 at hA hB hC hO hW ⊢
  clear hO'
  go_loopw [11, 12, 13] (fun v11 v12 v13 wr => ∃ (i : Nat) (c : Int) (o : List Int), i ≤ 8 ∧ v12 = .int .i64 i ∧ v11 = .int .i64 c ∧ 0 ≤ c ∧ c ≤ 1 ∧ Hid (Wd wr w.heap.size n l) ∧ Hid (Wd wr (w.heap.size + 1) m k) ∧ Hid (Wd wr (w.heap.size + 1 + 1) false zs8) ∧ Hid (Wd wr O n o) ∧ Hid (SubI l k i o c) ∧ Hid (Below w.heap.size w wr)) (fun _ i _ _ => 8 - (intOf i).toNat)
  case atStart => exact ⟨0, 0, l, by omega, rfl, rfl, by omega, by omega, hA, hB, hC, hO, HX, hW⟩
  case round =>
    clear HX hA hB hC hO hW
    obtain ⟨i, c, o, hi8, rfl, rfl, hc0, hc1, hA, hB, hC, hO, hI, hW⟩ := hrel
    by_cases hi : i < 8
    · have c0 := hA.out.dig i hi
      have c1 := hB.out.dig i hi
      have c2 := hO.out.dig i hi
      have f2 := hO.out.fz (1 + i)
      obtain ⟨a0, a1⟩ := dg_ok HD.out i
      obtain ⟨b0, b1⟩ := dg_ok HE.out i
      by_cases hneg : dg l i - dg k i - c < 0
      · have hN := Lh (hI.out.step1 HD.out HE.out HK.out hi hneg)
        obtain ⟨x, hx⟩ : ∃ x, dg l i = x := ⟨_, rfl⟩
        obtain ⟨y, hy⟩ : ∃ y, dg k i = y := ⟨_, rfl⟩
        rw [hx] at c0 a0 a1 hN hneg
        rw [hy] at c1 b0 b1 hN hneg
        clear hx hy
        have e1 : IntKind.i64.wrap (x - y) = x - y := iw_id _ (by omega) (by omega)
        have e2 : IntKind.i64.wrap (x - y - c) = x - y - c := iw_id _ (by omega) (by omega)
        go_wp2
        go_quiet (fail)
        clear e1 e2
        obtain ⟨s, hs⟩ : ∃ s, x - y - c = s := ⟨_, rfl⟩
        have s0 : -16777216 ≤ s := by omega
        rw [hs] at hN hneg ⊢
        clear hs
        have hd : decide (s < 0) = true := by simpa using hneg
        go_wp2
        go_roundw
        case rel => exact ⟨i + 1, 1, _, by omega, by go_num, rfl, by omega, by omega, (hA.out.drewN _).far (by simp; try omega) _, (hB.out.drewN _).far (by simp; try omega) _, (hC.out.drewN _).far (by simp; try omega) _, (hO.out.drewN _).set hI.out.1 i hi _, hN, (pw_below_drewN hW.out _).setCell (by first | (simp; done) | (simp; omega) | omega) _⟩
        case measure => simp [intOf]; omega
      · have hN := Lh (hI.out.step0 HD.out HE.out HK.out hi (by omega))
        obtain ⟨x, hx⟩ : ∃ x, dg l i = x := ⟨_, rfl⟩
        obtain ⟨y, hy⟩ : ∃ y, dg k i = y := ⟨_, rfl⟩
        rw [hx] at c0 a0 a1 hN hneg
        rw [hy] at c1 b0 b1 hN hneg
        clear hx hy
        have e1 : IntKind.i64.wrap (x - y) = x - y := iw_id _ (by omega) (by omega)
        have e2 : IntKind.i64.wrap (x - y - c) = x - y - c := iw_id _ (by omega) (by omega)
        go_wp2
        go_quiet (fail)
        clear e1 e2
        obtain ⟨s, hs⟩ : ∃ s, x - y - c = s := ⟨_, rfl⟩
        have s0 : s < 16777216 := by omega
        rw [hs] at hN hneg ⊢
        clear hs
        have hd : decide (s < 0) = false := by simpa using hneg
        go_wp2
        go_roundw
        case rel => exact ⟨i + 1, 0, _, by omega, by go_num, rfl, by omega, by omega, (hA.out.drewN _).far (by simp; try omega) _, (hB.out.drewN _).far (by simp; try omega) _, (hC.out.drewN _).far (by simp; try omega) _, (hO.out.drewN _).set hI.out.1 i hi _, hN, (pw_below_drewN hW.out _).setCell (by first | (simp; done) | (simp; omega) | omega) _⟩
        case measure => simp [intOf]; omega
    · obtain rfl : i = 8 := by omega
      obtain ⟨z0, z1, z2, z3, z4, z5, z6, z7, z8⟩ := hO.out.all
      obtain ⟨y0, y1, y2, y3, y4, y5, y6, y7, y8⟩ := hC.out.all
      obtain ⟨x0, x1, x2, x3, x4, x5, x6, x7, x8⟩ := hC.out.fzs
      have hv : WV (.agg (aW n o)) (wval n l + wval m k) := ⟨n, o, rfl, hI.out.1, hI.out.2.1, by rw [HV.out.2 o (hI.out.done HK.out (HS.out))]; try exact HV.out.1⟩
      have HS := blk9_set hC.out n o
      have HW := below_set9 hW.out (g := w.heap.size + 1 + 1) (by omega) (.bool n) (.int .i64 (dg o 0)) (.int .i64 (dg o 1)) (.int .i64 (dg o 2)) (.int .i64 (dg o 3)) (.int .i64 (dg o 4)) (.int .i64 (dg o 5)) (.int .i64 (dg o 6)) (.int .i64 (dg o 7))
      obtain ⟨V, hV⟩ : ∃ V, set9 wr (w.heap.size + 1 + 1) (.bool n) (.int .i64 (dg o 0)) (.int .i64 (dg o 1)) (.int .i64 (dg o 2)) (.int .i64 (dg o 3)) (.int .i64 (dg o 4)) (.int .i64 (dg o 5)) (.int .i64 (dg o 6)) (.int .i64 (dg o 7)) = V := ⟨_, rfl⟩
      rw [hV] at HS HW
      obtain ⟨t0, t1, t2, t3, t4, t5, t6, t7, t8⟩ := HS.all
      unfold set9 at hV
      have HV' := Lh hV
      clear hV HS
      go_wp2
      rw [HV'.out]
      exact bodyPost_ret (v := .agg (aW n o)) (by simp [results, Try.results179, go_sem, t0, t1, t2, t3, t4, t5, t6, t7, t8]) rfl ⟨_, rfl, hv, HW⟩
set_option maxHeartbeats 2000000 in
theorem plus_less (n m : Bool) (l k : List Int) (hnm : (n == m) = false) (hl : l.length = 8) (hk : k.length = 8) (hd : digs l) (he : digs k) (hs : mag l < mag k) (w : World) :
    Calls Try.prog 179 #[.agg (aW n l), .agg (aW m k)] w (OfPost (wval n l + wval m k) w) := by
  have HV : Hid (wval m k + wval n l = wval n l + wval m k ∧ ∀ o, mag o = mag k - mag l → wval m o = wval m k + wval n l) := by
    refine ⟨by omega, fun o ho => ?_⟩
    cases n <;> cases m <;> simp at hnm <;> (simp [wval]; omega)
  have HL := Lh hl
  have HK := Lh hk
  have HD := Lh hd
  have HE := Lh he
  have HX := Lh (SubI.start k l hk he)
  have hcmp : Hid (decide (cmpF l k < 0) = true) := by rw [cmpF_lt hs]; rfl
  have HS := Lh hs
  clear hl hk hd he hs
  have HA := Lh (((Wd.new w n l).alloc (.cells (aW m k) 169)).alloc (.cells (aW false zs8) 169))
  have HB := (Wd.new (w.alloc (.cells (aW n l) 169)) m k).alloc (.cells (aW false zs8) 169)
  have HC := Wd.new ((w.alloc (.cells (aW n l) 169)).alloc (.cells (aW m k) 169)) false zs8
  rw [World.size_alloc] at HB
  rw [World.size_alloc, World.size_alloc] at HC
  have HB := Lh HB
  have HC := Lh HC
  have HW := Lh ((((Below.refl _ w).alloc (Nat.le_refl _) (.cells (aW n l) 169)).alloc (by simp) (.cells (aW m k) 169)).alloc (by simp; omega) (.cells (aW false zs8) 169))
  go_enter Try.func179, Try.ntmps179
  go_wp2_with fail
  refine (size_calls n m l k HL.out HK.out HD.out HE.out _).mono ?_
  rintro e w3 ⟨rfl, hb3⟩
  have HA3 := Lh (HA.out.below hb3)
  have HB3 := Lh (HB.out.below hb3)
  have HC3 := Lh (HC.out.below hb3)
  have HW3 := Lh (bthen HW.out hb3)
  have hz : w.heap.size + 1 + 1 + 1 ≤ w3.heap.size := by have := hb3.size; simp at this; omega
  have hc := hcmp.out
  clear HA HB HC HW hcmp hb3 hnm
  obtain ⟨p0, p1, p2, p3, p4, p5, p6, p7, p8⟩ := HA3.out.all
  obtain ⟨q0, q1, q2, q3, q4, q5, q6, q7, q8⟩ := HB3.out.all
  have hA := HA3.out.alloc (.cells (aW n l) 169)
  have hB := HB3.out.alloc (.cells (aW n l) 169)
  have hC := HC3.out.alloc (.cells (aW n l) 169)
  have hO := Wd.new w3 n l
  have hW := HW3.out.alloc (by omega) (.cells (aW n l) 169)
  obtain ⟨v4, hv4⟩ : ∃ v4, w3.alloc (.cells (aW n l) 169) = v4 := ⟨_, rfl⟩
  have hz4 : v4.heap.size = w3.heap.size + 1 := by rw [← hv4]; simp
  rw [hv4] at hA hB hC hO hW
  clear HA3 HB3 HC3 HW3
  have hA1 := blk9_set hA m k
  have hB1 : Wd _ _ m k := (set9_far (w := v4) (g := w.heap.size) (k := w.heap.size + 1) (by omega) (.bool m) (.int .i64 (dg k 0)) (.int .i64 (dg k 1)) (.int .i64 (dg k 2)) (.int .i64 (dg k 3)) (.int .i64 (dg k 4)) (.int .i64 (dg k 5)) (.int .i64 (dg k 6)) (.int .i64 (dg k 7))).trans hB
  have hC1 : Wd _ _ false zs8 := (set9_far (w := v4) (g := w.heap.size) (k := w.heap.size + 1 + 1) (by omega) (.bool m) (.int .i64 (dg k 0)) (.int .i64 (dg k 1)) (.int .i64 (dg k 2)) (.int .i64 (dg k 3)) (.int .i64 (dg k 4)) (.int .i64 (dg k 5)) (.int .i64 (dg k 6)) (.int .i64 (dg k 7))).trans hC
  have hO1 : Wd _ _ n l := (set9_far (w := v4) (g := w.heap.size) (k := w3.heap.size) (by omega) (.bool m) (.int .i64 (dg k 0)) (.int .i64 (dg k 1)) (.int .i64 (dg k 2)) (.int .i64 (dg k 3)) (.int .i64 (dg k 4)) (.int .i64 (dg k 5)) (.int .i64 (dg k 6)) (.int .i64 (dg k 7))).trans hO
  have hW1 := below_set9 hW (Nat.le_refl _) (.bool m) (.int .i64 (dg k 0)) (.int .i64 (dg k 1)) (.int .i64 (dg k 2)) (.int .i64 (dg k 3)) (.int .i64 (dg k 4)) (.int .i64 (dg k 5)) (.int .i64 (dg k 6)) (.int .i64 (dg k 7))
  have hz5 : (set9 v4 w.heap.size (.bool m) (.int .i64 (dg k 0)) (.int .i64 (dg k 1)) (.int .i64 (dg k 2)) (.int .i64 (dg k 3)) (.int .i64 (dg k 4)) (.int .i64 (dg k 5)) (.int .i64 (dg k 6)) (.int .i64 (dg k 7))).heap.size = w3.heap.size + 1 := by unfold set9; simp [hz4]
  obtain ⟨v5, hv5⟩ : ∃ v5, set9 v4 w.heap.size (.bool m) (.int .i64 (dg k 0)) (.int .i64 (dg k 1)) (.int .i64 (dg k 2)) (.int .i64 (dg k 3)) (.int .i64 (dg k 4)) (.int .i64 (dg k 5)) (.int .i64 (dg k 6)) (.int .i64 (dg k 7)) = v5 := ⟨_, rfl⟩
  rw [hv5] at hA1 hB1 hC1 hO1 hW1 hz5
  unfold set9 at hv5
  have hB2 := blk9_set hB1 n l
  have hA2 : Wd _ _ m k := (set9_far (w := v5) (g := w.heap.size + 1) (k := w.heap.size) (by omega) (.bool n) (.int .i64 (dg l 0)) (.int .i64 (dg l 1)) (.int .i64 (dg l 2)) (.int .i64 (dg l 3)) (.int .i64 (dg l 4)) (.int .i64 (dg l 5)) (.int .i64 (dg l 6)) (.int .i64 (dg l 7))).trans hA1
  have hC2 : Wd _ _ false zs8 := (set9_far (w := v5) (g := w.heap.size + 1) (k := w.heap.size + 1 + 1) (by omega) (.bool n) (.int .i64 (dg l 0)) (.int .i64 (dg l 1)) (.int .i64 (dg l 2)) (.int .i64 (dg l 3)) (.int .i64 (dg l 4)) (.int .i64 (dg l 5)) (.int .i64 (dg l 6)) (.int .i64 (dg l 7))).trans hC1
  have hW2 := below_set9 hW1 (g := w.heap.size + 1) (by omega) (.bool n) (.int .i64 (dg l 0)) (.int .i64 (dg l 1)) (.int .i64 (dg l 2)) (.int .i64 (dg l 3)) (.int .i64 (dg l 4)) (.int .i64 (dg l 5)) (.int .i64 (dg l 6)) (.int .i64 (dg l 7))
  have hz6 : (set9 v5 (w.heap.size + 1) (.bool n) (.int .i64 (dg l 0)) (.int .i64 (dg l 1)) (.int .i64 (dg l 2)) (.int .i64 (dg l 3)) (.int .i64 (dg l 4)) (.int .i64 (dg l 5)) (.int .i64 (dg l 6)) (.int .i64 (dg l 7))).heap.size = w3.heap.size + 1 := by unfold set9; simp [hz5]
  obtain ⟨v6, hv6⟩ : ∃ v6, set9 v5 (w.heap.size + 1) (.bool n) (.int .i64 (dg l 0)) (.int .i64 (dg l 1)) (.int .i64 (dg l 2)) (.int .i64 (dg l 3)) (.int .i64 (dg l 4)) (.int .i64 (dg l 5)) (.int .i64 (dg l 6)) (.int .i64 (dg l 7)) = v6 := ⟨_, rfl⟩
  rw [hv6] at hA2 hB2 hC2 hW2 hz6
  unfold set9 at hv6
  obtain ⟨fa0, fa1, fa2, fa3, fa4, fa5, fa6, fa7, fa8⟩ := hA.fzs
  obtain ⟨r0, r1, r2, r3, r4, r5, r6, r7, r8⟩ := hA.all
  obtain ⟨s0, s1, s2, s3, s4, s5, s6, s7, s8⟩ := hB.all
  obtain ⟨fb0, fb1, fb2, fb3, fb4, fb5, fb6, fb7, fb8⟩ := hB1.fzs
  obtain ⟨o0, o1, o2, o3, o4, o5, o6, o7, o8⟩ := hO1.all
  obtain ⟨b0, b1, b2, b3, b4, b5, b6, b7, b8⟩ := hB1.all
  obtain ⟨a0, a1, a2, a3, a4, a5, a6, a7, a8⟩ := hA2.all
  have HZ6 := Lh hz6
  have HA2 := Lh hA2
  have HB2 := Lh hB2
  have HC2 := Lh hC2
  have HW2 := Lh hW2
  clear hz4 hz5 hz6 hA hB hC hO hW hA1 hB1 hC1 hO1 hW1 hA2 hB2 hC2 hW2
  go_wp2
  have hA := Lh (HA2.out.alloc (.cells (aW m k) 169))
  have hB := Lh (HB2.out.alloc (.cells (aW m k) 169))
  have hC := Lh (HC2.out.alloc (.cells (aW m k) 169))
  have hO := Lh (Wd.new v6 m k)
  have hW := Lh (HW2.out.alloc (by rw [HZ6.out]; omega) (.cells (aW m k) 169))
  clear fa0 fa1 fa2 fa3 fa4 fa5 fa6 fa7 fa8 r0 r1 r2 r3 r4 r5 r6 r7 r8 s0 s1 s2 s3 s4 s5 s6 s7 s8 fb0 fb1 fb2 fb3 fb4 fb5 fb6 fb7 fb8 o0 o1 o2 o3 o4 o5 o6 o7 o8 b0 b1 b2 b3 b4 b5 b6 b7 b8 a0 a1 a2 a3 a4 a5 a6 a7 a8 p0 p1 p2 p3 p4 p5 p6 p7 p8 q0 q1 q2 q3 q4 q5 q6 q7 q8 hc hv4 hv5 hv6 HA2 HB2 HC2 HW2
  have hz : w.heap.size + 1 + 1 + 1 ≤ v6.heap.size := by rw [HZ6.out]; omega
  clear HZ6
  obtain ⟨O, hO'⟩ : ∃ O, v6.heap.size = O := ⟨_, rfl⟩
  rw [hO'] at hO hz ⊢
  generalize v6.alloc (.cells (aW m k) 169) = w4 at hA hB hC hO hW ⊢
  clear hO'
  go_loopw [11, 12, 13] (fun v11 v12 v13 wr => ∃ (i : Nat) (c : Int) (o : List Int), i ≤ 8 ∧ v12 = .int .i64 i ∧ v11 = .int .i64 c ∧ 0 ≤ c ∧ c ≤ 1 ∧ Hid (Wd wr w.heap.size m k) ∧ Hid (Wd wr (w.heap.size + 1) n l) ∧ Hid (Wd wr (w.heap.size + 1 + 1) false zs8) ∧ Hid (Wd wr O m o) ∧ Hid (SubI k l i o c) ∧ Hid (Below w.heap.size w wr)) (fun _ i _ _ => 8 - (intOf i).toNat)
  case atStart => exact ⟨0, 0, k, by omega, rfl, rfl, by omega, by omega, hA, hB, hC, hO, HX, hW⟩
  case round =>
    clear HX hA hB hC hO hW
    obtain ⟨i, c, o, hi8, rfl, rfl, hc0, hc1, hA, hB, hC, hO, hI, hW⟩ := hrel
    by_cases hi : i < 8
    · have c0 := hA.out.dig i hi
      have c1 := hB.out.dig i hi
      have c2 := hO.out.dig i hi
      have f2 := hO.out.fz (1 + i)
      obtain ⟨a0, a1⟩ := dg_ok HE.out i
      obtain ⟨b0, b1⟩ := dg_ok HD.out i
      by_cases hneg : dg k i - dg l i - c < 0
      · have hN := Lh (hI.out.step1 HE.out HD.out HL.out hi hneg)
        obtain ⟨x, hx⟩ : ∃ x, dg k i = x := ⟨_, rfl⟩
        obtain ⟨y, hy⟩ : ∃ y, dg l i = y := ⟨_, rfl⟩
        rw [hx] at c0 a0 a1 hN hneg
        rw [hy] at c1 b0 b1 hN hneg
        clear hx hy
        have e1 : IntKind.i64.wrap (x - y) = x - y := iw_id _ (by omega) (by omega)
        have e2 : IntKind.i64.wrap (x - y - c) = x - y - c := iw_id _ (by omega) (by omega)
        go_wp2
        go_quiet (fail)
        clear e1 e2
        obtain ⟨s, hs⟩ : ∃ s, x - y - c = s := ⟨_, rfl⟩
        have s0 : -16777216 ≤ s := by omega
        rw [hs] at hN hneg ⊢
        clear hs
        have hd : decide (s < 0) = true := by simpa using hneg
        go_wp2
        go_roundw
        case rel => exact ⟨i + 1, 1, _, by omega, by go_num, rfl, by omega, by omega, (hA.out.drewN _).far (by simp; try omega) _, (hB.out.drewN _).far (by simp; try omega) _, (hC.out.drewN _).far (by simp; try omega) _, (hO.out.drewN _).set hI.out.1 i hi _, hN, (pw_below_drewN hW.out _).setCell (by first | (simp; done) | (simp; omega) | omega) _⟩
        case measure => simp [intOf]; omega
      · have hN := Lh (hI.out.step0 HE.out HD.out HL.out hi (by omega))
        obtain ⟨x, hx⟩ : ∃ x, dg k i = x := ⟨_, rfl⟩
        obtain ⟨y, hy⟩ : ∃ y, dg l i = y := ⟨_, rfl⟩
        rw [hx] at c0 a0 a1 hN hneg
        rw [hy] at c1 b0 b1 hN hneg
        clear hx hy
        have e1 : IntKind.i64.wrap (x - y) = x - y := iw_id _ (by omega) (by omega)
        have e2 : IntKind.i64.wrap (x - y - c) = x - y - c := iw_id _ (by omega) (by omega)
        go_wp2
        go_quiet (fail)
        clear e1 e2
        obtain ⟨s, hs⟩ : ∃ s, x - y - c = s := ⟨_, rfl⟩
        have s0 : s < 16777216 := by omega
        rw [hs] at hN hneg ⊢
        clear hs
        have hd : decide (s < 0) = false := by simpa using hneg
        go_wp2
        go_roundw
        case rel => exact ⟨i + 1, 0, _, by omega, by go_num, rfl, by omega, by omega, (hA.out.drewN _).far (by simp; try omega) _, (hB.out.drewN _).far (by simp; try omega) _, (hC.out.drewN _).far (by simp; try omega) _, (hO.out.drewN _).set hI.out.1 i hi _, hN, (pw_below_drewN hW.out _).setCell (by first | (simp; done) | (simp; omega) | omega) _⟩
        case measure => simp [intOf]; omega
    · obtain rfl : i = 8 := by omega
      obtain ⟨z0, z1, z2, z3, z4, z5, z6, z7, z8⟩ := hO.out.all
      obtain ⟨y0, y1, y2, y3, y4, y5, y6, y7, y8⟩ := hC.out.all
      obtain ⟨x0, x1, x2, x3, x4, x5, x6, x7, x8⟩ := hC.out.fzs
      have hv : WV (.agg (aW m o)) (wval n l + wval m k) := ⟨m, o, rfl, hI.out.1, hI.out.2.1, by rw [HV.out.2 o (hI.out.done HL.out (Int.le_of_lt HS.out))]; try exact HV.out.1⟩
      have HS := blk9_set hC.out m o
      have HW := below_set9 hW.out (g := w.heap.size + 1 + 1) (by omega) (.bool m) (.int .i64 (dg o 0)) (.int .i64 (dg o 1)) (.int .i64 (dg o 2)) (.int .i64 (dg o 3)) (.int .i64 (dg o 4)) (.int .i64 (dg o 5)) (.int .i64 (dg o 6)) (.int .i64 (dg o 7))
      obtain ⟨V, hV⟩ : ∃ V, set9 wr (w.heap.size + 1 + 1) (.bool m) (.int .i64 (dg o 0)) (.int .i64 (dg o 1)) (.int .i64 (dg o 2)) (.int .i64 (dg o 3)) (.int .i64 (dg o 4)) (.int .i64 (dg o 5)) (.int .i64 (dg o 6)) (.int .i64 (dg o 7)) = V := ⟨_, rfl⟩
      rw [hV] at HS HW
      obtain ⟨t0, t1, t2, t3, t4, t5, t6, t7, t8⟩ := HS.all
      unfold set9 at hV
      have HV' := Lh hV
      clear hV HS
      go_wp2
      rw [HV'.out]
      exact bodyPost_ret (v := .agg (aW m o)) (by simp [results, Try.results179, go_sem, t0, t1, t2, t3, t4, t5, t6, t7, t8]) rfl ⟨_, rfl, hv, HW⟩
theorem plus_calls (n m : Bool) (l k : List Int) (hl : l.length = 8) (hk : k.length = 8) (hd : digs l) (he : digs k) (hs : mag l + mag k < 16777216 ^ 8) (w : World) :
    Calls Try.prog 179 #[.agg (aW n l), .agg (aW m k)] w (OfPost (wval n l + wval m k) w) := by
  by_cases hnm : n = m
  · subst hnm; exact plus_same n l k hl hk hd he hs w
  · have h : (n == m) = false := by simpa using hnm
    by_cases hc : mag l < mag k
    · exact plus_less n m l k h hl hk hd he hc w
    · exact plus_more n m l k h hl hk hd he (by omega) w
end Go.Proofs.Ytckdhahceelckaa.G
namespace Go.Proofs.Ytckdhahceelckaa.G
open Go.RowKit Go.Proofs.YtckdhahceelckaaW.PrintWords Go.Proofs.YtckdhahceelckaaW.PrintLast Go.Proofs.YtckdhahceelckaaW.PrintMore
attribute [local go_sem] max2_mx min2_mn max_two min_two max_three min_three max_four min_four
set_option linter.unusedVariables false
set_option linter.unusedSimpArgs false
theorem wval_mul (n m : Bool) (l k o : List Int) (h : mag o = mag l * mag k) : wval (!(n == m)) o = wval n l * wval m k := by
  cases n <;> cases m <;> simp [wval, h, Int.neg_mul, Int.mul_neg]
set_option maxHeartbeats 4000000 in
theorem times_calls (n m : Bool) (l k : List Int) (hl : l.length = 8) (hk : k.length = 8) (hd : digs l) (he : digs k) (hs : mag l * mag k < 16777216 ^ 8) (w : World) :
    Calls Try.prog 151 #[.agg (aW n l), .agg (aW m k)] w (OfPost (wval n l * wval m k) w) := by
  have HL := Lh hl
  have HK := Lh hk
  have HD := Lh hd
  have HE := Lh he
  have HS := Lh hs
  clear hl hk hd he hs
  have HA := Lh ((((Wd.new w n l).alloc (.cells (aW m k) 169)).alloc (.cells (aW false zs8) 169)).alloc (.cells (aW false zs8) 169))
  have HB := ((Wd.new (w.alloc (.cells (aW n l) 169)) m k).alloc (.cells (aW false zs8) 169)).alloc (.cells (aW false zs8) 169)
  have HC := (Wd.new ((w.alloc (.cells (aW n l) 169)).alloc (.cells (aW m k) 169)) false zs8).alloc (.cells (aW false zs8) 169)
  have HO := Wd.new (((w.alloc (.cells (aW n l) 169)).alloc (.cells (aW m k) 169)).alloc (.cells (aW false zs8) 169)) false zs8
  simp only [World.size_alloc] at HB HC HO
  have HB := Lh HB
  have HC := Lh HC
  have HO := Lh HO
  have HW := Lh (((((Below.refl _ w).alloc (Nat.le_refl _) (.cells (aW n l) 169)).alloc (by simp) (.cells (aW m k) 169)).alloc (by simp; omega) (.cells (aW false zs8) 169)).alloc (by simp; omega) (.cells (aW false zs8) 169))
  go_enter Try.func151, Try.ntmps151
  go_wp2
  go_loopw [6, 7, 8, 9] (fun v6 v7 v8 v9 wr => ∃ (i : Nat) (o : List Int), i ≤ 8 ∧ v6 = .int .i64 i ∧ Hid (Wd wr w.heap.size n l) ∧ Hid (Wd wr (w.heap.size + 1) m k) ∧ Hid (Wd wr (w.heap.size + 1 + 1) false zs8) ∧ Hid (Wd wr (w.heap.size + 1 + 1 + 1) false o) ∧ Hid (MulO l k i o) ∧ Hid (Below w.heap.size w wr)) (fun i _ _ _ _ => 8 - (intOf i).toNat)
  case atStart => exact ⟨0, zs8, by omega, rfl, HA, HB, HC, HO, Lh (MulO.start l k), HW⟩
  case round =>
    clear HA HB HC HO HW
    obtain ⟨i, o, hi8, rfl, hA, hB, hC, hO, hI, hW⟩ := hrel
    obtain ⟨wo, rfl⟩ : ∃ wo : World, wo = wr := ⟨_, rfl⟩
    by_cases hi : i < 8
    · have c0 := hA.out.dig i hi
      obtain ⟨a0, a1⟩ := dg_ok HD.out i
      by_cases h0 : dg l i = 0
      · have hN := Lh (hI.out.skip HL.out hi h0)
        rw [h0] at c0
        clear h0 a0 a1
        go_wp2
        go_roundw
        case rel => exact ⟨i + 1, o, by omega, by go_num, hA, hB, hC, hO, hN, hW⟩
        case measure => simp [intOf]; omega
      · obtain ⟨x, hx⟩ : ∃ x, dg l i = x := ⟨_, rfl⟩
        rw [hx] at c0 a0 a1 h0
        have HX := Lh hx
        have t0 : (x == 0) = false := by simpa using h0
        clear hx h0
        go_wp2
        go_loopw [7, 8, 9] (fun v7 v8 v9 wr => ∃ (j : Nat) (c : Int) (o' : List Int), i + j ≤ 8 ∧ v8 = .int .i64 j ∧ v7 = .int .i64 c ∧ 0 ≤ c ∧ c < 16777216 ∧ Hid (Wd wr w.heap.size n l) ∧ Hid (Wd wr (w.heap.size + 1) m k) ∧ Hid (Wd wr (w.heap.size + 1 + 1) false zs8) ∧ Hid (Wd wr (w.heap.size + 1 + 1 + 1) false o') ∧ Hid (MulI (mag o) x k i j o' c) ∧ Hid (Below w.heap.size w wr)) (fun _ j _ _ => 8 - (intOf j).toNat)
        case atStart => exact ⟨0, 0, o, by omega, rfl, rfl, by omega, by omega, hA, hB, hC, hO, Lh (MulI.start x k i hI.out.1 hI.out.2.1), hW⟩
        case round =>
          clear hA hB hC hO hW t0 c0
          obtain ⟨j, c, o', hj8, rfl, rfl, k0, k1, hA, hB, hC, hO, hJ, hW⟩ := hrel
          by_cases hj : i + j < 8
          · have c0 := hA.out.dig i hi
            rw [HX.out] at c0
            have c1 := hB.out.dig j (by omega)
            have c2 := hO.out.dig (i + j) hj
            have f2 := hO.out.fz (1 + (i + j))
            obtain ⟨b0, b1⟩ := dg_ok HE.out j
            obtain ⟨d0, d1⟩ := dg_ok hJ.out.2.1 (i + j)
            have hm := mul_dig _ _ _ _ d0 d1 a0 a1 b0 b1 k0 k1
            have hN := Lh (hJ.out.step a0 a1 HE.out HK.out hj)
            obtain ⟨y, hy⟩ : ∃ y, dg k j = y := ⟨_, rfl⟩
            obtain ⟨z, hz⟩ : ∃ z, dg o' (i + j) = z := ⟨_, rfl⟩
            rw [hy] at c1 b0 b1 hN hm
            rw [hz] at c2 d0 d1 hN
            clear hy hz
            obtain ⟨m0, m1⟩ := hm
            have n1 : (i : Int) + (j : Int) < 8 := by omega
            have n0 : 0 ≤ (i : Int) + (j : Int) := by omega
            have e0 : IntKind.i64.wrap ((i : Int) + (j : Int)) = (i : Int) + (j : Int) := iw_id _ (by omega) (by omega)
            have e1 : IntKind.i64.wrap (x * y) = x * y := iw_id _ (by omega) (by omega)
            have e2 : IntKind.i64.wrap (z + x * y) = z + x * y := iw_id _ (by omega) (by omega)
            have e3 : IntKind.i64.wrap (z + x * y + c) = z + x * y + c := iw_id _ (by omega) (by omega)
            have e4 : ((i : Int) + (j : Int)).toNat = i + j := by omega
            go_wp2
            go_quiet (fail)
            clear e1 e2 e3
            obtain ⟨s, hs⟩ : ∃ s, z + x * y + c = s := ⟨_, rfl⟩
            have s0 : 0 ≤ s := by omega
            have s1 : s ≤ 281474976710655 := by omega
            rw [hs] at hN ⊢
            clear hs m0 m1
            go_wp2
            go_roundw
            case rel => exact ⟨j + 1, s / 16777216, _, by omega, by go_num, rfl, by omega, by omega, (hA.out.drewN _).far (by simp; try omega) _, (hB.out.drewN _).far (by simp; try omega) _, (hC.out.drewN _).far (by simp; try omega) _, (hO.out.drewN _).set hJ.out.1 (i + j) hj _, hN, (pw_below_drewN hW.out _).setCell (by first | (simp; done) | (simp; omega) | omega) _⟩
            case measure => simp [intOf]; omega
          · obtain rfl : j = 8 - i := by omega
            have e0 : IntKind.i64.wrap ((i : Int) + ((8 - i : Nat) : Int)) = 8 := by rw [show (i : Int) + ((8 - i : Nat) : Int) = 8 by omega]; decide
            have hJ' := hJ.out
            rw [← HX.out] at hJ'
            have hN := Lh (hI.out.step hi hJ' HD.out HE.out HL.out HK.out HS.out)
            clear hJ'
            go_wp2
            go_roundw
            case rel => exact ⟨i + 1, o', by omega, by go_num, hA, hB, hC, hO, hN, hW⟩
            case measure => simp [intOf]; omega
    · obtain rfl : i = 8 := by omega
      have hz := hI.out.2.2
      rw [List.take_of_length_le (by rw [HL.out]; decide)] at hz
      have hv : WV (.agg (aW (!(n == m)) o)) (wval n l * wval m k) := ⟨_, o, rfl, hI.out.1, hI.out.2.1, wval_mul n m l k o hz⟩
      clear hz
      have y0 := hA.out.neg
      have y1 := hB.out.neg
      have y2 := hO.out.neg
      have y3 := hO.out.fz 0
      have hO1 := hO.out.setn (!(n == m))
      have hC1 := hC.out.far (p := ⟨w.heap.size + 1 + 1 + 1, 0, none⟩) (by simp) (.bool (!(n == m)))
      have hW1 := hW.out.setCell (p := ⟨w.heap.size + 1 + 1 + 1, 0, none⟩) (by simp; omega) (.bool (!(n == m)))
      obtain ⟨v1, hv1⟩ : ∃ v1, wo.setCell ⟨w.heap.size + 1 + 1 + 1, 0, none⟩ (.bool (!(n == m))) = v1 := ⟨_, rfl⟩
      rw [hv1] at hO1 hC1 hW1
      obtain ⟨z0, z1, z2, z3, z4, z5, z6, z7, z8⟩ := hO1.all
      obtain ⟨x1, x2, x3, x4, x5, x6, x7, x8, x9⟩ := hC1.all
      obtain ⟨f0, f1, f2, f3, f4, f5, f6, f7, f8⟩ := hC1.fzs
      have HS := blk9_set hC1 (!(n == m)) o
      have HW := below_set9 hW1 (g := w.heap.size + 1 + 1) (by omega) (.bool (!(n == m))) (.int .i64 (dg o 0)) (.int .i64 (dg o 1)) (.int .i64 (dg o 2)) (.int .i64 (dg o 3)) (.int .i64 (dg o 4)) (.int .i64 (dg o 5)) (.int .i64 (dg o 6)) (.int .i64 (dg o 7))
      obtain ⟨V, hV⟩ : ∃ V, set9 v1 (w.heap.size + 1 + 1) (.bool (!(n == m))) (.int .i64 (dg o 0)) (.int .i64 (dg o 1)) (.int .i64 (dg o 2)) (.int .i64 (dg o 3)) (.int .i64 (dg o 4)) (.int .i64 (dg o 5)) (.int .i64 (dg o 6)) (.int .i64 (dg o 7)) = V := ⟨_, rfl⟩
      rw [hV] at HS HW
      obtain ⟨t0, t1, t2, t3, t4, t5, t6, t7, t8⟩ := HS.all
      unfold set9 at hV
      have HV := Lh hV
      have HW := Lh HW
      have hv := Lh hv
      clear hV HS hO1 hC1 hW1
      go_wp2
      rw [HV.out]
      exact bodyPost_ret (v := .agg (aW (!(n == m)) o)) (by simp [results, Try.results151, go_sem, t0, t1, t2, t3, t4, t5, t6, t7, t8]) rfl ⟨_, rfl, hv.out, HW.out⟩
end Go.Proofs.Ytckdhahceelckaa.G
namespace Go.Proofs.Ytckdhahceelckaa.G
open Go.RowKit Go.Proofs.YtckdhahceelckaaW.PrintWords Go.Proofs.YtckdhahceelckaaW.PrintLast Go.Proofs.YtckdhahceelckaaW.PrintMore
attribute [local go_sem] max2_mx min2_mn max_two min_two max_three min_three max_four min_four
set_option linter.unusedVariables false
set_option linter.unusedSimpArgs false
def signF (x : Int) : Int := if x < 0 then -1 else if 0 < x then 1 else 0
theorem zs8_ok : zs8.length = 8 ∧ digs zs8 ∧ mag zs8 = 0 := ⟨rfl, by unfold zs8 digs; decide, by decide⟩
set_option maxHeartbeats 1000000 in
theorem sign_calls (n : Bool) (l : List Int) (hl : l.length = 8) (hd : digs l) (w : World) :
    Calls Try.prog 180 #[.agg (aW n l)] w fun e w' => e = .returned (.int .i64 (signF (wval n l))) ∧ Below w.heap.size w w' := by
  have hm := mag_nonneg l hd
  have HS := Lh (size_calls n false l zs8 hl rfl hd zs8_ok.2.1)
  have HA := (Wd.new w n l).alloc (.cells (aW false zs8) 169)
  have HB := Wd.new (w.alloc (.cells (aW n l) 169)) false zs8
  rw [World.size_alloc] at HB
  have HW := Lh (((Below.refl _ w).alloc (Nat.le_refl _) (.cells (aW n l) 169)).alloc (by simp) (.cells (aW false zs8) 169))
  have HA' := Lh HA
  clear HA HB hl hd
  rcases Int.lt_trichotomy (mag l) 0 with h | h | h
  · omega
  · have hc : cmpF l zs8 = 0 := by unfold cmpF; rw [zs8_ok.2.2, if_neg (by omega), if_neg (by omega)]
    have hg : Hid (signF (wval n l) = 0) := by unfold signF wval; rw [h]; cases n <;> rfl
    rw [hc] at HS
    clear hc hm h
    go_enter Try.func180, Try.ntmps180
    go_wp2_with fail
    refine (HS.out _).mono ?_
    rintro e w3 ⟨rfl, hb3⟩
    have H3 := Lh (bthen HW.out hb3)
    clear hb3
    go_wp2
    go_ret
    exact ⟨by rw [hg.out]; rfl, H3.out⟩
  · have hc : cmpF l zs8 = 1 := by unfold cmpF; rw [zs8_ok.2.2, if_neg (by omega), if_pos h]
    have hg : Hid (signF (wval n l) = if n then -1 else 1) := by
      unfold signF wval
      cases n
      · simp only [Bool.false_eq_true, if_false]; rw [if_neg (by omega), if_pos h]; rfl
      · simp only [if_true]; rw [if_pos (by omega)]; rfl
    rw [hc] at HS
    clear hc hm h
    go_enter Try.func180, Try.ntmps180
    go_wp2_with fail
    refine (HS.out _).mono ?_
    rintro e w3 ⟨rfl, hb3⟩
    have H3 := Lh (bthen HW.out hb3)
    have c0 := (HA'.out.below hb3).neg
    clear hb3
    cases n
    · go_wp2
      go_ret
      exact ⟨by rw [hg.out]; rfl, H3.out⟩
    · go_wp2
      go_ret
      exact ⟨by rw [hg.out]; rfl, H3.out⟩
theorem wval_not (m : Bool) (k : List Int) : wval (!m) k = -wval m k := by cases m <;> simp [wval]
theorem wval_add (n m : Bool) (l k o : List Int) : wval n l + wval (!m) k = wval n l - wval m k := by rw [wval_not]; omega
set_option maxHeartbeats 1000000 in
theorem less_calls (n m : Bool) (l k : List Int) (hl : l.length = 8) (hk : k.length = 8) (hd : digs l) (he : digs k) (hs : mag l + mag k < 16777216 ^ 8) (b : Bool) (hb : decide (wval n l < wval m k) = b) (w : World) :
    Calls Try.prog 178 #[.agg (aW n l), .agg (aW m k)] w fun e w' => e = .returned (.bool b) ∧ Below w.heap.size w w' := by
  have HP := Lh (plus_calls n (!m) l k hl hk hd he hs)
  have HW := Lh (((Below.refl _ w).alloc (Nat.le_refl _) (.cells (aW n l) 169)).alloc (by simp) (.cells (aW (!m) k) 169))
  have Hb := Lh hb
  have HE := Lh (wval_add n m l k k)
  clear hl hk hd he hs hb
  go_enter Try.func178, Try.ntmps178
  go_wp2_with fail
  refine (HP.out _).mono ?_
  rintro e w3 ⟨v, rfl, ⟨p, o, rfl, ho, hd, hv⟩, hb3⟩
  have H3 := Lh (bthen HW.out hb3)
  have HS := Lh (sign_calls p o ho hd)
  have hq : Hid (decide (signF (wval p o) < 0) = b) := by
    rw [hv, HE.out, ← Hb.out]
    apply Lib.hid
    rw [Bool.eq_iff_iff]
    simp only [decide_eq_true_eq]
    unfold signF
    repeat' split
    all_goals omega
  clear hb3 ho hd hv
  go_wp2_with fail
  refine (HS.out _).mono ?_
  rintro e w4 ⟨rfl, hb4⟩
  have H4 := Lh (bthen H3.out hb4)
  have hq' := hq.out
  clear hb4
  go_wp2
  go_ret
  exact ⟨by rw [← hq']; rfl, H4.out⟩
end Go.Proofs.Ytckdhahceelckaa.G
namespace Go.Proofs.Ytckdhahceelckaa.G
open Go.RowKit Go.Proofs.YtckdhahceelckaaW.PrintWords Go.Proofs.YtckdhahceelckaaW.PrintLast Go.Proofs.YtckdhahceelckaaW.PrintMore
attribute [local go_sem] max2_mx min2_mn max_two min_two max_three min_three max_four min_four
set_option linter.unusedVariables false
set_option linter.unusedSimpArgs false
/-- the state ahead of digit z -/
def DnI (l : List Int) (c z q r : Int) : Prop := 0 ≤ q ∧ 0 ≤ r ∧ r < c ∧ q * c + r = mag (l.drop (z + 1).toNat)
theorem DnI.start (l : List Int) (c : Int) (hl : l.length = 8) (hc : 0 < c) : DnI l c 7 0 0 := ⟨by omega, by omega, hc, by rw [List.drop_of_length_le (by omega)]; simp [mag]⟩
theorem DnI.skip {l : List Int} {c : Int} {i : Nat} (h : DnI l c i 0 0) (hl : l.length = 8) (hi : i < 8) (h0 : dg l i = 0) : DnI l c ((i : Int) - 1) 0 0 := by
  obtain ⟨h1, h2, h3, h4⟩ := h
  refine ⟨h1, h2, h3, ?_⟩
  rw [show ((i : Int) - 1 + 1).toNat = i by omega, mag_drop l i (by omega), h0]
  rw [show ((i : Int) + 1).toNat = i + 1 by omega] at h4
  rw [← h4]; simp
theorem DnI.inn {l : List Int} {c q r : Int} {i : Nat} (h : DnI l c i q r) (hd : digs l) : DivI (mag (l.drop (i + 1))) (dg l i) c 0 q r := by
  obtain ⟨h1, h2, h3, h4⟩ := h
  rw [show ((i : Int) + 1).toNat = i + 1 by omega] at h4
  exact DivI.start h1 h2 h3 h4 (dg_ok hd i).1 (dg_ok hd i).2
theorem DnI.out {l : List Int} {c q r : Int} {i : Nat} (h : DivI (mag (l.drop (i + 1))) (dg l i) c 24 q r) (hl : l.length = 8) (hi : i < 8) : DnI l c ((i : Int) - 1) q r := by
  obtain ⟨h1, h2, h3, h4⟩ := h.done
  refine ⟨h1, h2, h3, ?_⟩
  rw [show ((i : Int) - 1 + 1).toNat = i by omega, mag_drop l i (by omega), h4]
theorem DnI.q_le {l : List Int} {c q r : Int} {i j : Nat} (h : DivI (mag (l.drop (i + 1))) (dg l i) c j q r) (hj : j < 24) (hl : l.length = 8) (hd : digs l) (hi : i < 8) (hM : mag l ≤ 4611686018427387902 * c) : q ≤ 2305843009213693951 := by
  have h1 := mag_split l i (by omega)
  rw [mag_drop l i (by omega)] at h1
  have h2 := mag_nonneg _ (digs_take hd i)
  have h3 := mag_nonneg _ (digs_drop hd (i + 1))
  have h4 := dg_ok hd i
  have h5 : 1 * (dg l i + 16777216 * mag (l.drop (i + 1))) ≤ 16777216 ^ i * (dg l i + 16777216 * mag (l.drop (i + 1))) := Int.mul_le_mul_of_nonneg_right (by have := pw_pos i; omega) (by omega)
  obtain ⟨a1, a2, a3, a4⟩ := id h
  have := h.small (S := 4611686018427387902) hj h3 h4.1 (M := mag l) (by omega) (by omega)
  omega
theorem DnI.fin {l : List Int} {c q r : Int} (h : DnI l c (-1) q r) (hM : mag l ≤ 4611686018427387902 * c) : 0 ≤ q ∧ q ≤ 4611686018427387902 ∧ 0 ≤ r ∧ (0 < r → wval true l / c = -(q + 1)) ∧ (r ≤ 0 → wval true l / c = -q) ∧ wval false l / c = q := by
  obtain ⟨h1, h2, h3, h4⟩ := h
  rw [show ((-1 : Int) + 1).toNat = 0 by decide, List.drop_zero] at h4
  have hc : 0 < c := by omega
  obtain ⟨e1, e2⟩ := divEnd h1 h2 h3 h4
  have f := floor_neg (mag l) c hc
  rw [← e1, ← e2] at f
  have k : q * c ≤ 4611686018427387902 * c := by omega
  have k2 := Int.le_of_mul_le_mul_right k hc
  refine ⟨h1, k2, h2, fun hr => ?_, fun hr => ?_, e1.symm⟩
  · show (-mag l) / c = _
    rw [f, if_pos hr]
  · show (-mag l) / c = _
    rw [f, if_neg (by omega)]
set_option maxHeartbeats 4000000 in
theorem down_calls (n : Bool) (l : List Int) (c : Int) (hl : l.length = 8) (hd : digs l) (hc0 : 0 < c) (hc1 : c ≤ 4611686018427387903) (hM : mag l ≤ 4611686018427387902 * c) (w : World) :
    Calls Try.prog 150 #[.agg (aW n l), .int .i64 c] w fun e w' => e = .returned (.tuple #[.int .i64 (wval n l / c), .bool true]) ∧ Below w.heap.size w w' := by
  have HL := Lh hl
  have HD := Lh hd
  have HM := Lh hM
  have HX := Lh (DnI.start l c hl hc0)
  clear hl hd hM
  have HA := Lh (Wd.new w n l)
  have HW := Lh ((Below.refl _ w).alloc (Nat.le_refl _) (.cells (aW n l) 169))
  have hcn : decide (c < 0) = false := by simp; omega
  go_enter Try.func150, Try.ntmps150
  go_wp2
  clear hcn
  go_loopw [7, 8, 9, 10] (fun v7 v8 v9 v10 wr => ∃ z q r : Int, v9 = .int .i64 z ∧ v7 = .int .i64 q ∧ v8 = .int .i64 r ∧ -1 ≤ z ∧ z ≤ 7 ∧ Hid (DnI l c z q r) ∧ Hid (Wd wr w.heap.size n l) ∧ Hid (Below w.heap.size w wr)) (fun _ _ i _ _ => (intOf i + 1).toNat)
  case atStart => exact ⟨7, 0, 0, rfl, rfl, rfl, by omega, by omega, HX, HA, HW⟩
  case round =>
    clear HX HA HW
    obtain ⟨z, q, r, rfl, rfl, rfl, hz1, hz2, hI, hA, hW⟩ := hrel
    obtain ⟨wo, rfl⟩ : ∃ wo : World, wo = wr := ⟨_, rfl⟩
    by_cases hz : z < 0
    · obtain rfl : z = -1 := by omega
      obtain ⟨q0, q1, r0, v1, v2, v3⟩ := hI.out.fin HM.out
      clear hz1 hz2 hz
      cases n
      · have hd1 : decide ((4611686018427387903 : Int) < q) = false := by simp; omega
        have V := Lh v3
        clear v1 v2 v3
        go_wp2
        go_ret2
        exact ⟨by rw [V.out]; rfl, hW.out⟩
      · by_cases hr : 0 < r
        · have hd1 : decide ((4611686018427387903 : Int) < q + 1) = false := by simp; omega
          have V := Lh (v1 hr)
          have hr1 : decide (0 < r) = true := by simpa using hr
          clear v1 v2 v3 hr
          go_wp2
          go_ret2
          exact ⟨by rw [V.out]; rfl, hW.out⟩
        · have hd1 : decide ((4611686018427387903 : Int) < q) = false := by simp; omega
          have V := Lh (v2 (by omega))
          have hr1 : decide (0 < r) = false := by simpa using hr
          clear v1 v2 v3 hr
          go_wp2
          go_ret2
          exact ⟨by rw [V.out]; rfl, hW.out⟩
    · obtain ⟨i, rfl⟩ : ∃ i : Nat, z = i := ⟨z.toNat, by omega⟩
      have hi : i < 8 := by omega
      have c0 := hA.out.dig i hi
      obtain ⟨a0, a1⟩ := dg_ok HD.out i
      obtain ⟨q0, r0, r1, _⟩ := id hI.out
      by_cases hskip : dg l i = 0 ∧ q = 0 ∧ r = 0
      · obtain ⟨h0, rfl, rfl⟩ := hskip
        have hN := Lh (hI.out.skip HL.out hi h0)
        rw [h0] at c0
        clear h0 a0 a1 q0 r0 r1 hz
        go_wp2
        go_roundw
        case rel => exact ⟨_, 0, 0, rfl, rfl, rfl, by omega, by omega, hN, hA, hW⟩
        case measure => simp [intOf]
      · obtain ⟨d, hd⟩ : ∃ d, dg l i = d := ⟨_, rfl⟩
        have hN := Lh (hI.out.inn HD.out)
        have HQ := Lh (fun (j : Nat) (q r : Int) (h : DivI (mag (l.drop (i + 1))) (dg l i) c j q r) (hj : j < 24) => DnI.q_le h hj HL.out HD.out hi HM.out)
        have HO := Lh (fun (q r : Int) (h : DivI (mag (l.drop (i + 1))) (dg l i) c 24 q r) => DnI.out h HL.out hi)
        rw [hd] at c0 a0 a1 hskip hN HQ HO
        have HDD := Lh hd
        clear hd hz
        have hcase : ((d == 0) = false) ∨ ((d == 0) = true ∧ (q == 0) = false) ∨ ((d == 0) = true ∧ (q == 0) = true ∧ (r == 0) = false) := by
          by_cases x : d = 0
          · by_cases y : q = 0
            · right; right; simp [x, y] at hskip ⊢; exact hskip
            · right; left; simp [x, y]
          · left; simp [x]
        clear hskip
        generalize mag (l.drop (i + 1)) = D at hN HQ HO
        rcases hcase with t1 | ⟨t1, t2⟩ | ⟨t1, t2, t3⟩
        all_goals
          go_wp2
          go_loopw [7, 8, 10] (fun v7 v8 v10 wr => ∃ (j : Nat) (q r : Int), j ≤ 24 ∧ v10 = .int .i64 (bitOf 24 j) ∧ v7 = .int .i64 q ∧ v8 = .int .i64 r ∧ Hid (DivI D d c j q r) ∧ Hid (Wd wr w.heap.size n l) ∧ Hid (Below w.heap.size w wr)) (fun _ _ b _ => (intOf b).toNat)
          case atStart => exact ⟨0, q, r, by omega, rfl, rfl, rfl, hN, hA, hW⟩
          case round =>
            clear hN hA hW q0 r0 r1 c0
            (try clear t1)
            (try clear t2)
            (try clear t3)
            obtain ⟨j, q, r, hj24, rfl, rfl, rfl, hJ, hA, hW⟩ := hrel
            obtain ⟨q0, r0, r1, _⟩ := id hJ.out
            by_cases hj : j < 24
            · have q1 := HQ.out j q r hJ.out hj
              have b0 := bitOf_pos 24 j hj
              have b1 := (bitOf_le 24 j).1
              have HB := Lh (bitOf_half 24 j hj)
              have m0 := Int.emod_nonneg (d / bitOf 24 j) (show (2 : Int) ≠ 0 by decide)
              have m1 := Int.emod_lt_of_pos (d / bitOf 24 j) (show (0 : Int) < 2 by decide)
              have HS0 := Lh (fun h => hJ.out.step0 hj h)
              have HS1 := Lh (fun h => hJ.out.step1 hj h)
              have c0 := hA.out.dig i hi
              rw [HDD.out] at c0
              have bb : (2 : Int) ^ (24 - 1) = 8388608 := by decide
              rw [bb] at b1
              obtain ⟨B, hB⟩ : ∃ B, bitOf 24 j = B := ⟨_, rfl⟩
              rw [hB] at b0 b1 m0 m1 HS0 HS1 HB ⊢
              have e0 : (B == 0) = false := by simp; omega
              have x0 : 0 ≤ d / B := Int.ediv_nonneg a0 (by omega)
              have x1 : d / B ≤ d := Int.ediv_le_self _ a0
              have e1 : IntKind.i64.wrap (d.tdiv B) = d / B := by rw [Int.tdiv_eq_ediv_of_nonneg a0]; exact iw_id _ (by omega) (by omega)
              clear bb hB
              have hd2 : decide ((2305843009213693951 : Int) < q) = false := by simp; omega
              obtain ⟨X, hX⟩ : ∃ X, d / B = X := ⟨_, rfl⟩
              rw [hX] at m0 m1 HS0 HS1 x0 x1 e1
              clear hX
              have hb : X % 2 = 0 ∨ X % 2 = 1 := by omega
              rcases hb with hb | hb
              · have e2 : (X % 2 == 1) = false := by rw [hb]; rfl
                rw [hb, Int.add_zero] at HS0 HS1
                clear hb m0 m1
                by_cases hc : c ≤ 2 * r
                · have hN := Lh (HS1.out hc)
                  have hd3 : decide (c ≤ 2 * r) = true := by simpa using hc
                  go_wp2
                  go_roundw
                  case rel => exact ⟨j + 1, _, _, by omega, by rw [← HB.out], rfl, rfl, hN, hA, hW⟩
                  case measure => simp [intOf]; omega
                · have hN := Lh (HS0.out (by omega))
                  have hd3 : decide (c ≤ 2 * r) = false := by simpa using hc
                  go_wp2
                  go_roundw
                  case rel => exact ⟨j + 1, _, _, by omega, by rw [← HB.out], rfl, rfl, hN, hA, hW⟩
                  case measure => simp [intOf]; omega
              · have e2 : (X % 2 == 1) = true := by rw [hb]; rfl
                rw [hb] at HS0 HS1
                clear hb m0 m1
                by_cases hc : c ≤ 2 * r + 1
                · have hN := Lh (HS1.out hc)
                  have hd3 : decide (c ≤ 2 * r + 1) = true := by simpa using hc
                  go_wp2
                  go_roundw
                  case rel => exact ⟨j + 1, _, _, by omega, by rw [← HB.out], rfl, rfl, hN, hA, hW⟩
                  case measure => simp [intOf]; omega
                · have hN := Lh (HS0.out (by omega))
                  have hd3 : decide (c ≤ 2 * r + 1) = false := by simpa using hc
                  go_wp2
                  go_roundw
                  case rel => exact ⟨j + 1, _, _, by omega, by rw [← HB.out], rfl, rfl, hN, hA, hW⟩
                  case measure => simp [intOf]; omega
            · obtain rfl : j = 24 := by omega
              have e0 : bitOf 24 24 = 0 := rfl
              have hN := Lh (HO.out q r hJ.out)
              go_wp2
              go_roundw
              case rel => exact ⟨_, q, r, rfl, rfl, rfl, by omega, by omega, hN, hA, hW⟩
              case measure => simp [intOf]
end Go.Proofs.Ytckdhahceelckaa.G
namespace Go.Proofs.Ytckdhahceelckaa.G
open Go.RowKit Go.Proofs.YtckdhahceelckaaW.PrintWords Go.Proofs.YtckdhahceelckaaW.PrintLast Go.Proofs.YtckdhahceelckaaW.PrintMore
attribute [local go_sem] max2_mx min2_mn max_two min_two max_three min_three max_four min_four
attribute [local go_sem high] eqA23
set_option linter.unusedVariables false
set_option linter.unusedSimpArgs false
theorem mx_facts (a b : Int) : a ≤ mx a b ∧ b ≤ mx a b ∧ (mx a b = a ∨ mx a b = b) := by unfold mx; split <;> omega
theorem mn_facts (a b : Int) : mn a b ≤ a ∧ mn a b ≤ b ∧ (mn a b = a ∨ mn a b = b) := by unfold mn; split <;> omega
theorem far3_iff (n : Int) (p : P3) (hn : 0 ≤ n) (hn2 : n ≤ 9223372036854775807) : far3 n p = false ↔ in3 n p := by
  have hw : wrap64 (-n) = -n := w64_id _ (by omega) (by omega)
  unfold far3 in3
  rw [hw]
  obtain ⟨a1, a2, a3⟩ := mx_facts p.x p.y
  obtain ⟨b1, b2, b3⟩ := mx_facts (mx p.x p.y) p.z
  obtain ⟨c1, c2, c3⟩ := mn_facts p.x p.y
  obtain ⟨d1, d2, d3⟩ := mn_facts (mn p.x p.y) p.z
  simp only [Bool.or_eq_false_iff, decide_eq_false_iff_not]
  omega
def size3 (p : P3) : Nat := p.x.natAbs + p.y.natAbs + p.z.natAbs
theorem tdiv2_abs (x : Int) : (x.tdiv 2).natAbs = x.natAbs / 2 := by rw [Int.natAbs_tdiv]; rfl
theorem div3_in (n B : Int) (p : P3) (h : in3 B p) : in3 B (div3 n p) := by
  obtain ⟨h1, h2, h3, h4, h5, h6⟩ := h
  have a := tdiv_le p.x n B.natAbs (by omega)
  have b := tdiv_le p.y n B.natAbs (by omega)
  have c := tdiv_le p.z n B.natAbs (by omega)
  unfold in3 div3
  simp only
  omega
theorem div2_lt (p : P3) (h : far3 1048576 p = true) : size3 (div3 2 p) < size3 p := by
  have h' : ¬ in3 1048576 p := fun hi => by rw [(far3_iff _ _ (by omega) (by omega)).2 hi] at h; cases h
  have a := tdiv2_abs p.x
  have b := tdiv2_abs p.y
  have c := tdiv2_abs p.z
  unfold in3 at h'
  unfold size3 div3
  simp only
  omega
def halve3 (p : P3) : P3 := if h : far3 1048576 p = true then halve3 (div3 2 p) else p
termination_by size3 p
decreasing_by exact div2_lt p h
theorem div2_ne (p : P3) (h : far3 1048576 p = true) : div3 2 p ≠ ⟨0, 0, 0⟩ := by
  have h' : ¬ in3 1048576 p := fun hi => by rw [(far3_iff _ _ (by omega) (by omega)).2 hi] at h; cases h
  have a := tdiv2_abs p.x
  have b := tdiv2_abs p.y
  have c := tdiv2_abs p.z
  intro e
  unfold div3 at e
  simp only [P3.mk.injEq] at e
  unfold in3 at h'
  obtain ⟨e1, e2, e3⟩ := e
  rw [e1] at a; rw [e2] at b; rw [e3] at c
  simp at a b c
  omega
def short3 (p : P3) : P3 := if far3 4398046511104 p = true ∨ p = ⟨0, 0, 0⟩ then ⟨0, 0, 0⟩ else bare3 (halve3 (bare3 p))
theorem bare3_ne (p : P3) (B : Nat) (h : p ≠ ⟨0, 0, 0⟩) : bare3 p ≠ ⟨0, 0, 0⟩ := by
  have hg := gcd3_pos p h
  have d1 : gcd3 p ∣ p.x := Int.dvd_trans (by unfold gcd3; exact Int.gcd_dvd_left ..) (Int.gcd_dvd_left ..)
  have d2 : gcd3 p ∣ p.y := Int.dvd_trans (by unfold gcd3; exact Int.gcd_dvd_left ..) (Int.gcd_dvd_right ..)
  have d3 : gcd3 p ∣ p.z := by unfold gcd3; exact Int.gcd_dvd_right ..
  intro e
  unfold bare3 div3 at e
  simp only [P3.mk.injEq] at e
  obtain ⟨e1, e2, e3⟩ := e
  apply h
  have x0 := Int.tdiv_mul_cancel d1
  have y0 := Int.tdiv_mul_cancel d2
  have z0 := Int.tdiv_mul_cancel d3
  rw [e1] at x0; rw [e2] at y0; rw [e3] at z0
  cases p; simp at x0 y0 z0 ⊢; omega
set_option maxHeartbeats 2000000 in
theorem short_calls (x y z : Int) (w : World) :
    Calls Try.prog 77 #[.agg #[.int .i64 x, .int .i64 y, .int .i64 z]] w fun e w' => e = .returned (.agg #[.int .i64 (short3 ⟨x, y, z⟩).x, .int .i64 (short3 ⟨x, y, z⟩).y, .int .i64 (short3 ⟨x, y, z⟩).z]) ∧ Below w.heap.size w w' := by
  have B1 := ((C3.new w (.int .i64 x) (.int .i64 y) (.int .i64 z) 23).alloc (.cells #[.int .i64 0, .int .i64 0, .int .i64 0] 23))
  have B2 := (C3.new (w.alloc (.cells #[.int .i64 x, .int .i64 y, .int .i64 z] 23)) (.int .i64 0) (.int .i64 0) (.int .i64 0) 23)
  simp only [World.size_alloc] at B2
  by_cases hf : far3 4398046511104 ⟨x, y, z⟩ = true
  · have hs : short3 ⟨x, y, z⟩ = ⟨0, 0, 0⟩ := by unfold short3; rw [if_pos (.inl hf)]
    rw [hs]
    clear hs
    go_enter Try.func77, Try.ntmps77
    go_wp2_with (go_at_call 123; refine (beyond_calls _ _ _ _ _ (by decide) (by decide)).mono ?_; rintro e w1 ⟨rfl, hb1⟩; rw [hf]; have B2 := B2.below hb1; obtain ⟨c20, c21, c22, f20, f21, f22⟩ := id B2)
    exact bodyPost_ret (v := .agg #[.int .i64 0, .int .i64 0, .int .i64 0]) (by simp [results, Try.results77, go_sem, c20, c21, c22]) rfl ⟨rfl, (((((Below.refl _ w).alloc (Nat.le_refl _) _).alloc (by simp) _).trans (hb1.mono (by simp; omega))).setCell (by simp) _).setCell (by simp) _ |>.setCell (by simp) _⟩
  · have hf' : far3 4398046511104 ⟨x, y, z⟩ = false := by simpa using hf
    obtain ⟨hx1, hx2, hy1, hy2, hz1, hz2⟩ := (far3_iff _ _ (by decide) (by decide)).1 hf'
    simp only at hx1 hx2 hy1 hy2 hz1 hz2
    by_cases hp : (⟨x, y, z⟩ : P3) = ⟨0, 0, 0⟩
    · have hs : short3 ⟨x, y, z⟩ = ⟨0, 0, 0⟩ := by unfold short3; rw [if_pos (.inr hp)]
      rw [hs]
      clear hs
      simp only [P3.mk.injEq] at hp
      obtain ⟨rfl, rfl, rfl⟩ := hp
      have he0 : eqP 0 0 0 0 0 0 = true := by decide
      go_enter Try.func77, Try.ntmps77
      go_wp2_with (go_at_call 123; refine (beyond_calls _ _ _ _ _ (by decide) (by decide)).mono ?_; rintro e w1 ⟨rfl, hb1⟩; rw [hf']; have B1 := B1.below hb1; obtain ⟨c10, c11, c12, f10, f11, f12⟩ := id B1; have B2 := B2.below hb1; obtain ⟨c20, c21, c22, f20, f21, f22⟩ := id B2)
      exact bodyPost_ret (v := .agg #[.int .i64 0, .int .i64 0, .int .i64 0]) (by simp [results, Try.results77, go_sem, c20, c21, c22]) rfl ⟨rfl, (((((Below.refl _ w).alloc (Nat.le_refl _) _).alloc (by simp) _).trans (hb1.mono (by simp; omega))).setCell (by simp) _).setCell (by simp) _ |>.setCell (by simp) _⟩
    · have hs : short3 ⟨x, y, z⟩ = bare3 (halve3 (bare3 ⟨x, y, z⟩)) := by unfold short3; rw [if_neg (by simp [hf', hp])]
      rw [hs]
      clear hs
      go_enter Try.func77, Try.ntmps77
      have HP := Lh hp
      have he0 := eqP_no hp
      clear hp hf
      go_wp2_with (first
        | (go_at_call 123; refine (beyond_calls _ _ _ _ _ (by decide) (by decide)).mono ?_; rintro e w1 ⟨rfl, hb1⟩; rw [hf']; have B1 := B1.below hb1; obtain ⟨c10, c11, c12, f10, f11, f12⟩ := id B1; have B2 := B2.below hb1)
        | (go_at_call 124; refine (bare_calls _ _ _ _ HP.out ?_ ?_ ?_ ?_ ?_ ?_).mono ?_; omega; omega; omega; omega; omega; omega; rintro e w2 ⟨rfl, hb2⟩; have B1 := B1.below hb2; obtain ⟨c10, c11, c12, f10, f11, f12⟩ := id B1; have B2 := B2.below hb2))
      have hB : Below w.heap.size w w2 := (((Below.refl _ w).alloc (Nat.le_refl _) _).alloc (by simp) _).trans ((hb1.mono (by simp; omega)).trans (hb2.mono (by have := hb1.size; simp at this; omega)))
      have hB := below_set3 hB (Nat.le_refl w.heap.size) (.int .i64 (bare3 ⟨x, y, z⟩).x) (.int .i64 (bare3 ⟨x, y, z⟩).y) (.int .i64 (bare3 ⟨x, y, z⟩).z)
      have B2 := B2.other (g' := w.heap.size) (by omega) (.int .i64 (bare3 ⟨x, y, z⟩).x) (.int .i64 (bare3 ⟨x, y, z⟩).y) (.int .i64 (bare3 ⟨x, y, z⟩).z)
      have B1 := B1.set (.int .i64 (bare3 ⟨x, y, z⟩).x) (.int .i64 (bare3 ⟨x, y, z⟩).y) (.int .i64 (bare3 ⟨x, y, z⟩).z)
      have hin := div3_in (gcd3 ⟨x, y, z⟩) 4398046511104 ⟨x, y, z⟩ ⟨hx1, hx2, hy1, hy2, hz1, hz2⟩
      have hne := bare3_ne _ 0 HP.out
      change in3 4398046511104 (bare3 ⟨x, y, z⟩) at hin
      unfold set3 at B1 B2 hB
      obtain ⟨q, hq⟩ : ∃ q, bare3 ⟨x, y, z⟩ = q := ⟨_, rfl⟩
      rw [hq] at B1 B2 hB hin hne ⊢
      generalize ((w2.setCell { block := w.heap.size, off := 0 } (Value.int IntKind.i64 q.x)).setCell { block := w.heap.size, off := 1 } (Value.int IntKind.i64 q.y)).setCell { block := w.heap.size, off := 2 } (Value.int IntKind.i64 q.z) = w3 at B1 B2 hB ⊢
      have HQ := Lh hq
      clear hq he0 HP hb1 hb2 c10 c11 c12 f10 f11 f12
      go_loopg [] (size3 q) (fun kq wr => ∃ r : P3, Hid (kq = size3 r) ∧ Hid (halve3 r = halve3 q) ∧ Hid (in3 4398046511104 r) ∧ Hid (r ≠ ⟨0, 0, 0⟩) ∧ Hid (C3 wr w.heap.size (.int .i64 r.x) (.int .i64 r.y) (.int .i64 r.z)) ∧ Hid (C3 wr (w.heap.size + 1) (.int .i64 0) (.int .i64 0) (.int .i64 0)) ∧ Hid (Below w.heap.size w wr))
      case atStart => exact ⟨q, rfl, rfl, hin, hne, B1, B2, hB⟩
      case round =>
        obtain ⟨r, h1, h2, h3, h4, h5, h6, h7⟩ := hrel
        obtain ⟨hx1, hx2, hy1, hy2, hz1, hz2⟩ := h3.out
        obtain ⟨rx, ry, rz⟩ := r
        dsimp only at h5 hx1 hx2 hy1 hy2 hz1 hz2
        obtain ⟨c10, c11, c12, f10, f11, f12⟩ := id h5.out
        cases hf : far3 1048576 ⟨rx, ry, rz⟩ with
        | true =>
          have e1 : halve3 ⟨rx, ry, rz⟩ = halve3 (div3 2 ⟨rx, ry, rz⟩) := by rw [halve3, dif_pos hf]
          have e2 : Hid (size3 (div3 2 ⟨rx, ry, rz⟩) < gk) := by rw [h1.out]; exact div2_lt _ hf
          have e3 := Lh (div3_in 2 4398046511104 _ h3.out)
          have e4 := Lh (div2_ne _ hf)
          have E1 : Hid (halve3 (div3 2 ⟨rx, ry, rz⟩) = halve3 q) := e1.symm.trans h2.out
          clear e1
          go_wp2_with (first
            | (go_at_call 123; refine (beyond_calls _ _ _ _ _ (by decide) (by decide)).mono ?_; rintro e w4 ⟨rfl, hb4⟩; rw [hf]; have C1 := Lh (h5.out.below hb4); have C2 := Lh (h6.out.below hb4); obtain ⟨c10, c11, c12, f10, f11, f12⟩ := id C1.out)
            | (go_at_call 125; refine (divisor_calls _ _ _ _ _ ?_ ?_ ?_ ?_ ?_ ?_ ?_ ?_).mono ?_; omega; omega; omega; omega; omega; omega; omega; omega; rintro e w5 ⟨rfl, hb5⟩; have D1 := Lh (C1.out.below hb5); have D2 := Lh (C2.out.below hb5); obtain ⟨c10, c11, c12, f10, f11, f12⟩ := id D1.out))
          go_roundg (size3 (div3 2 ⟨rx, ry, rz⟩))
          case measure => exact e2.out
          case rel => exact ⟨div3 2 ⟨rx, ry, rz⟩, rfl, E1, e3, e4, D1.out.set _ _ _, D2.out.other (by omega) _ _ _, below_set3 (h7.out.trans ((hb4.mono h7.out.size).trans (hb5.mono (Nat.le_trans h7.out.size hb4.size)))) (Nat.le_refl _) _ _ _⟩
        | false =>
          have e1 : halve3 ⟨rx, ry, rz⟩ = ⟨rx, ry, rz⟩ := by rw [halve3, dif_neg (by rw [hf]; simp)]
          have E1 : Hid (halve3 q = ⟨rx, ry, rz⟩) := h2.out.symm.trans e1
          clear e1
          have H4 := h4.out
          go_wp2_with (first
            | (go_at_call 123; refine (beyond_calls _ _ _ _ _ (by decide) (by decide)).mono ?_; rintro e w4 ⟨rfl, hb4⟩; rw [hf]; have C1 := Lh (h5.out.below hb4); have C2 := Lh (h6.out.below hb4); obtain ⟨c10, c11, c12, f10, f11, f12⟩ := id C1.out)
            | (go_at_call 124; refine (bare_calls _ _ _ _ h4.out ?_ ?_ ?_ ?_ ?_ ?_).mono ?_; omega; omega; omega; omega; omega; omega; rintro e w5 ⟨rfl, hb5⟩; have D2 := Lh (C2.out.below hb5); obtain ⟨c20, c21, c22, f20, f21, f22⟩ := id D2.out))
          rw [HQ.out, E1.out]
          exact bodyPost_ret (v := .agg #[.int .i64 (bare3 ⟨rx, ry, rz⟩).x, .int .i64 (bare3 ⟨rx, ry, rz⟩).y, .int .i64 (bare3 ⟨rx, ry, rz⟩).z]) (by simp [results, Try.results77, go_sem, c20, c21, c22]) rfl ⟨rfl, below_set3 (h7.out.trans ((hb4.mono h7.out.size).trans (hb5.mono (Nat.le_trans h7.out.size hb4.size)))) (by omega) _ _ _⟩
end Go.Proofs.Ytckdhahceelckaa.G
namespace Go.Proofs.Ytckdhahceelckaa.G
open Go.RowKit Go.Proofs.YtckdhahceelckaaW.PrintWords Go.Proofs.YtckdhahceelckaaW.PrintLast Go.Proofs.YtckdhahceelckaaW.PrintMore
attribute [local go_sem] max2_mx min2_mn max_two min_two max_three min_three max_four min_four
set_option linter.unusedVariables false
set_option linter.unusedSimpArgs false
theorem dot_calls (x y z a b c : Int) (w : World) :
    Calls Try.prog 66 #[.agg #[.int .i64 x, .int .i64 y, .int .i64 z], .agg #[.int .i64 a, .int .i64 b, .int .i64 c]] w fun e w' => e = .returned (.int .i64 (dot3 ⟨x, y, z⟩ ⟨a, b, c⟩)) ∧ Below w.heap.size w w' := by
  go_enter Try.func66, Try.ntmps66
  go_wp2
  go_ret
  exact ⟨rfl, ((Below.refl _ _).alloc (Nat.le_refl _) _).alloc (by simp) _⟩
theorem minus_calls (x y z a b c : Int) (w : World) :
    Calls Try.prog 61 #[.agg #[.int .i64 x, .int .i64 y, .int .i64 z], .agg #[.int .i64 a, .int .i64 b, .int .i64 c]] w fun e w' => e = .returned (.agg #[.int .i64 (minus3 ⟨x, y, z⟩ ⟨a, b, c⟩).x, .int .i64 (minus3 ⟨x, y, z⟩ ⟨a, b, c⟩).y, .int .i64 (minus3 ⟨x, y, z⟩ ⟨a, b, c⟩).z]) ∧ Below w.heap.size w w' := by
  go_enter Try.func61, Try.ntmps61
  go_wp2
  exact bodyPost_ret (v := .agg #[.int .i64 (minus3 ⟨x, y, z⟩ ⟨a, b, c⟩).x, .int .i64 (minus3 ⟨x, y, z⟩ ⟨a, b, c⟩).y, .int .i64 (minus3 ⟨x, y, z⟩ ⟨a, b, c⟩).z]) (by simp [results, Try.results61, go_sem, minus3]) rfl ⟨rfl, (by repeat (first | exact Below.refl _ _ | refine Below.setCell ?_ (by simp <;> omega) _ | refine Below.alloc ?_ (by simp <;> omega) _ | refine Below.drew ?_))⟩
theorem cross_calls (x y z a b c : Int) (w : World) :
    Calls Try.prog 117 #[.agg #[.int .i64 x, .int .i64 y, .int .i64 z], .agg #[.int .i64 a, .int .i64 b, .int .i64 c]] w fun e w' => e = .returned (.agg #[.int .i64 (cross3 ⟨x, y, z⟩ ⟨a, b, c⟩).x, .int .i64 (cross3 ⟨x, y, z⟩ ⟨a, b, c⟩).y, .int .i64 (cross3 ⟨x, y, z⟩ ⟨a, b, c⟩).z]) ∧ Below w.heap.size w w' := by
  go_enter Try.func117, Try.ntmps117
  go_wp2
  exact bodyPost_ret (v := .agg #[.int .i64 (cross3 ⟨x, y, z⟩ ⟨a, b, c⟩).x, .int .i64 (cross3 ⟨x, y, z⟩ ⟨a, b, c⟩).y, .int .i64 (cross3 ⟨x, y, z⟩ ⟨a, b, c⟩).z]) (by simp [results, Try.results117, go_sem, cross3]) rfl ⟨rfl, (by repeat (first | exact Below.refl _ _ | refine Below.setCell ?_ (by simp <;> omega) _ | refine Below.alloc ?_ (by simp <;> omega) _ | refine Below.drew ?_))⟩
def rstep (n : P3) (s : Int × Int) (p : P3) : Int × Int := (mn s.1 (dot3 n p), mx s.2 (dot3 n p))
def reachF (n p0 : P3) (r : List P3) : Int × Int := r.foldl (rstep n) (dot3 n p0, dot3 n p0)
theorem reachF_snoc (n p0 : P3) (r : List P3) (k : Nat) (h : k < r.length) : reachF n p0 (r.take (k + 1)) = rstep n (reachF n p0 (r.take k)) r[k] := by
  unfold reachF
  rw [List.take_succ_eq_append_getElem h, List.foldl_append]; rfl
set_option maxHeartbeats 1000000 in
theorem reach_calls (p0 : P3) (r : List P3) (A : Option Addr) (c : Nat) (x y z : Int) (w : World) (hr : Rd w A (p0 :: r)) (hc : r.length + 1 ≤ c) (hm : r.length < 9223372036854775807) :
    Calls Try.prog 69 #[.slice A (r.length + 1) c, .agg #[.int .i64 x, .int .i64 y, .int .i64 z]] w fun e w' => e = .returned (.tuple #[.int .i64 (reachF ⟨x, y, z⟩ p0 r).1, .int .i64 (reachF ⟨x, y, z⟩ p0 r).2]) ∧ Below w.heap.size w w' := by
  obtain ⟨b, o, rfl, hlt, h1, h2, h3⟩ := hr.get 0 (by simp)
  simp only [Nat.zero_mul, Nat.add_zero, List.getElem_cons_zero] at h1 h2 h3
  have hl0' : (0 : Int) < (r.length : Int) + 1 := by omega
  have hl1' : (1 : Int) ≤ (r.length : Int) + 1 := by omega
  have hR := Lh hr
  clear hr
  obtain ⟨i0, hi0, _, hsz0, _⟩ := info_parts info23
  obtain ⟨A', hA', hcut⟩ : ∃ A' : Option Addr, (0 < r.length → A' = some ⟨b, o + 3, none⟩) ∧ ∀ W : World, (Instr.slice 24 (.slice (some ⟨b, o, none⟩) (r.length + 1) c) (some (.int .i64 1)) none none).run Try.prog W = .ok (.slice A' r.length (c - 1)) W :=
    ⟨_, fun h => if_neg (by omega), fun W => cut_from (P := Try.prog) 24 23 .i64 Try.underlying24 hi0 3 hsz0 (some ⟨b, o, none⟩) (r.length + 1) c 1 (by omega) (by omega) W⟩
  go_enter Try.func69, Try.ntmps69
  go_wp2
  go_region_held3 (fun w' => w'.cell? ⟨w.heap.size, 0, none⟩ = some (.int .i64 x) ∧ w'.cell? ⟨w.heap.size, 1, none⟩ = some (.int .i64 y) ∧ w'.cell? ⟨w.heap.size, 2, none⟩ = some (.int .i64 z) ∧ w'.cell? ⟨b, o, none⟩ = some (.int .i64 p0.x) ∧ w'.cell? ⟨b, o + 1, none⟩ = some (.int .i64 p0.y) ∧ w'.cell? ⟨b, o + 2, none⟩ = some (.int .i64 p0.z))
    (((try dsimp only); (repeat' apply And.intro) <;> first | (go_keep; done) | (rw [hc1 _ _ (by simp <;> omega)]; simp [*]; done)))
    ((go_at_call 66; refine (dot_calls _ _ _ _ _ _ _).mono ?_; rintro e w1 ⟨rfl, hb⟩; obtain ⟨hc1, hf1⟩ := bcell hb))
  have hB : Below w.heap.size w w1 := (((Below.refl _ w).alloc (Nat.le_refl _) _).drew).trans (hb.mono (by simp))
  clear hc1 hf1
  go_wp2
  obtain ⟨D, hD⟩ : ∃ D, dot3 ⟨x, y, z⟩ p0 = D := ⟨_, rfl⟩
  have hD' : dot3 ⟨x, y, z⟩ ⟨p0.x, p0.y, p0.z⟩ = D := hD
  simp only [hD']
  obtain ⟨g1, g2, g3, _⟩ := ‹w1.cell? ⟨w.heap.size, 0, none⟩ = some (.int .i64 x) ∧ w1.cell? ⟨w.heap.size, 1, none⟩ = some (.int .i64 y) ∧ w1.cell? ⟨w.heap.size, 2, none⟩ = some (.int .i64 z) ∧ _›
  have hsz : w.heap.size < w1.heap.size := by have := hb.size; simp at this; omega
  go_loopw [4, 5, 18] (fun v4 v5 v18 wr => ∃ k : Nat, k ≤ r.length ∧ v18 = .int .i64 k ∧ v4 = .int .i64 (reachF ⟨x, y, z⟩ p0 (r.take k)).1 ∧ v5 = .int .i64 (reachF ⟨x, y, z⟩ p0 (r.take k)).2 ∧ Below w1.heap.size w1 wr) (fun _ _ i _ => r.length - (intOf i).toNat)
  case atStart => exact ⟨0, Nat.zero_le _, rfl, by simp [reachF, ← hD], by simp [reachF, ← hD], Below.refl _ _⟩
  case round =>
    obtain ⟨k, hk, rfl, rfl, rfl, hbr⟩ := hrel
    obtain ⟨hcr, hfr⟩ := bcell hbr
    have q1 := (hcr _ 0 hsz).trans g1
    have q2 := (hcr _ 1 hsz).trans g2
    have q3 := (hcr _ 2 hsz).trans g3
    have hszr : w.heap.size < wr.heap.size := Nat.lt_of_lt_of_le hsz hbr.size
    have hbB : Below w.heap.size w wr := hB.trans (hbr.mono (by omega))
    clear hcr hfr g1 g2 g3 hb hD hD' h1 h2 h3
    by_cases hlt2 : k < r.length
    · obtain rfl := hA' (by omega)
      obtain ⟨b', o', hA, _, h1, h2, h3⟩ := hR.out.get (k + 1) (by simp; omega)
      simp only [Option.some.injEq, Addr.mk.injEq, and_true] at hA
      obtain ⟨rfl, rfl⟩ := hA
      simp only [List.getElem_cons_succ, show o + (k + 1) * 3 = o + 3 + k * 3 from by omega] at h1 h2 h3
      have e1 := (hbB.cell (p := ⟨b, o + 3 + k * 3, none⟩) hlt).trans h1
      have e2 := (hbB.cell (p := ⟨b, o + 3 + k * 3 + 1, none⟩) hlt).trans h2
      have e3 := (hbB.cell (p := ⟨b, o + 3 + k * 3 + 2, none⟩) hlt).trans h3
      clear h1 h2 h3
      have hS := Lh (reachF_snoc ⟨x, y, z⟩ p0 r k hlt2)
      go_wp2_with (go_at_call 66; refine (dot_calls _ _ _ _ _ _ _).mono ?_; rintro e w3 ⟨rfl, hb3⟩)
      go_roundw
      case rel => exact ⟨k + 1, by omega, by go_num, by rw [hS.out]; rfl, by rw [hS.out]; rfl, hbr.trans ((((Below.refl _ wr).alloc hbr.size _)).trans (hb3.mono (by simp; have := hbr.size; omega)))⟩
      case measure => simp [intOf]; omega
    · obtain rfl : k = r.length := by omega
      go_wp2
      go_ret2
      exact ⟨by simp, hbB⟩
end Go.Proofs.Ytckdhahceelckaa.G
namespace Go.Proofs.Ytckdhahceelckaa.G
open Go.RowKit Go.Proofs.YtckdhahceelckaaW.PrintWords Go.Proofs.YtckdhahceelckaaW.PrintLast Go.Proofs.YtckdhahceelckaaW.PrintMore
attribute [local go_sem] max2_mx min2_mn max_two min_two max_three min_three max_four min_four
attribute [local go_sem high] eqA23
set_option linter.unusedVariables false
set_option linter.unusedSimpArgs false
theorem beyond1_calls (x y z n : Int) (B : Nat) (w : World) (hc : w.cell? ⟨B, 0, none⟩ = some (.int .i64 n)) (hn1 : 0 ≤ n) (hn2 : n ≤ 9223372036854775807) :
    Calls Try.prog 121 #[.agg #[.int .i64 x, .int .i64 y, .int .i64 z], .pointer (some ⟨B, 0, none⟩)] w fun e w' => e = .returned (.bool (far3 n ⟨x, y, z⟩)) ∧ Below w.heap.size w w' := by
  have hB := World.block_lt_of_cell? w _ hc
  have hc2 := (World.cell?_alloc_lt w (.cells #[.int .i64 x, .int .i64 y, .int .i64 z] 23) ⟨B, 0, none⟩ hB).trans hc
  have hw : wrap64 (-n) = -n := w64_id _ (by omega) (by omega)
  unfold far3
  rw [hw]
  clear hw
  go_enter Try.func121, Try.ntmps121
  go_wp2
  all_goals (go_ret; exact ⟨by simp [*], ((Below.refl _ _).alloc (Nat.le_refl _) _)⟩)
theorem beyondF_calls (n : Int) (w : World) :
    Calls Try.prog 65 #[.int .i64 n] w fun e w' => e = .returned (.func (.func 121) #[] #[.pointer (some ⟨w.heap.size, 0, none⟩)]) ∧ w.alloc (.cells #[.int .i64 n] 3) = w' := by
  go_enter Try.func65, Try.ntmps65
  go_wp2
  go_ret
  exact ⟨rfl, rfl⟩
def idxF (n : Int) (l : List P3) : Int := match l.findIdx? (far3 n) with | some i => (i : Int) | none => -1
theorem idxF_some {n l} {i : Nat} (h : l.findIdx? (far3 n) = some i) : idxF n l = i := by unfold idxF; rw [h]
theorem idxF_none {n l} (h : l.findIdx? (far3 n) = none) : idxF n l = -1 := by unfold idxF; rw [h]
theorem idxF_any (n l) : decide (0 ≤ idxF n l) = l.any (far3 n) := by
  cases h : l.findIdx? (far3 n) with
  | none =>
    rw [idxF_none h]
    rw [List.findIdx?_eq_none_iff] at h
    have : l.any (far3 n) = false := by rw [List.any_eq_false]; intro x hx; rw [h x hx]; simp
    rw [this]; rfl
  | some i =>
    rw [idxF_some h]
    rw [List.findIdx?_eq_some_iff_getElem] at h
    obtain ⟨hi, h1, _⟩ := h
    have : l.any (far3 n) = true := by rw [List.any_eq_true]; exact ⟨_, List.getElem_mem hi, h1⟩
    rw [this]; simp
set_option maxHeartbeats 1000000 in
theorem index_calls (l : List P3) (A : Option Addr) (c : Nat) (n : Int) (B : Nat) (w : World) (hr : Rd w A l) (hc : l.length ≤ c) (hm : l.length < 9223372036854775807) (hB : w.cell? ⟨B, 0, none⟩ = some (.int .i64 n)) (hn1 : 0 ≤ n) (hn2 : n ≤ 9223372036854775807) :
    Calls Try.prog 122 #[.slice A l.length c, .func (.func 121) #[] #[.pointer (some ⟨B, 0, none⟩)]] w fun e w' => e = .returned (.int .i64 (idxF n l)) ∧ Below w.heap.size w w' := by
  have hBl := World.block_lt_of_cell? w _ hB
  have HR := Lh hr
  clear hr
  go_enter Try.func122, Try.ntmps122
  go_wp2
  go_loopw [5, 8] (fun v5 v8 wr => ∃ k : Nat, k ≤ l.length ∧ v8 = .int .i64 k ∧ Hid (∀ i, i < k → ∀ p, l[i]? = some p → far3 n p = false) ∧ Below w.heap.size w wr) (fun _ i _ => l.length - (intOf i).toNat)
  case atStart => exact ⟨0, Nat.zero_le _, rfl, fun i hi => absurd hi (by omega), Below.refl _ _⟩
  case round =>
    obtain ⟨k, hk, rfl, hno, hbr⟩ := hrel
    by_cases hlt : k < l.length
    · obtain ⟨b, o, rfl, hbl, h1, h2, h3⟩ := HR.out.get k hlt
      have e1 := (hbr.cell (p := ⟨b, o + k * 3, none⟩) hbl).trans h1
      have e2 := (hbr.cell (p := ⟨b, o + k * 3 + 1, none⟩) hbl).trans h2
      have e3 := (hbr.cell (p := ⟨b, o + k * 3 + 2, none⟩) hbl).trans h3
      have eB := (hbr.cell (p := ⟨B, 0, none⟩) hBl).trans hB
      clear h1 h2 h3
      obtain ⟨p, hp⟩ : ∃ p, l[k] = p := ⟨_, rfl⟩
      rw [hp] at e1 e2 e3
      have HP := Lh hp
      clear hp
      obtain ⟨px, py, pz⟩ := p
      dsimp only at e1 e2 e3
      cases hf : far3 n ⟨px, py, pz⟩ with
      | true =>
        go_wp2_with (go_at_call 121; refine (beyond1_calls _ _ _ _ _ _ eB hn1 hn2).mono ?_; rintro e w3 ⟨rfl, hb3⟩; rw [hf])
        go_ret
        refine ⟨ret_int ?_, bthen hbr hb3⟩
        have : l.findIdx? (far3 n) = some k := by
          rw [List.findIdx?_eq_some_iff_getElem]
          refine ⟨hlt, by rw [HP.out]; exact hf, fun j hj => ?_⟩
          rw [hno.out j hj _ (List.getElem?_eq_getElem (by omega))]; simp
        exact (idxF_some this).symm
      | false =>
        go_wp2_with (go_at_call 121; refine (beyond1_calls _ _ _ _ _ _ eB hn1 hn2).mono ?_; rintro e w3 ⟨rfl, hb3⟩; rw [hf])
        go_roundw
        case rel =>
          refine ⟨k + 1, by omega, by go_num, fun i hi p' hp' => ?_, bthen hbr hb3⟩
          by_cases e : i = k
          · subst e
            rw [List.getElem?_eq_getElem hlt, HP.out] at hp'
            cases hp'; exact hf
          · exact hno.out i (by omega) p' hp'
        case measure => simp [intOf]; omega
    · obtain rfl : k = l.length := by omega
      go_wp2
      go_ret
      refine ⟨ret_int ?_, hbr⟩
      have : l.findIdx? (far3 n) = none := by
        rw [List.findIdx?_eq_none_iff]
        intro x hx
        obtain ⟨i, hi, rfl⟩ := List.getElem_of_mem hx
        exact hno.out i hi _ (List.getElem?_eq_getElem hi)
      exact (idxF_none this).symm
theorem contains_calls (l : List P3) (A : Option Addr) (c : Nat) (n : Int) (B : Nat) (w : World) (hr : Rd w A l) (hc : l.length ≤ c) (hm : l.length < 9223372036854775807) (hB : w.cell? ⟨B, 0, none⟩ = some (.int .i64 n)) (hn1 : 0 ≤ n) (hn2 : n ≤ 9223372036854775807) :
    Calls Try.prog 68 #[.slice A l.length c, .func (.func 121) #[] #[.pointer (some ⟨B, 0, none⟩)]] w fun e w' => e = .returned (.bool (l.any (far3 n))) ∧ Below w.heap.size w w' := by
  go_enter Try.func68, Try.ntmps68
  go_wp2_with (go_at_call 122; refine (index_calls l _ _ n _ _ hr hc hm hB hn1 hn2).mono ?_; rintro e w3 ⟨rfl, hb3⟩)
  go_ret
  exact ⟨by rw [← idxF_any]; rfl, hb3⟩
end Go.Proofs.Ytckdhahceelckaa.G
namespace Go.Proofs.Ytckdhahceelckaa.G
open Go.RowKit Go.Proofs.YtckdhahceelckaaW.PrintWords Go.Proofs.YtckdhahceelckaaW.PrintLast Go.Proofs.YtckdhahceelckaaW.PrintMore
attribute [local go_sem] max2_mx min2_mn max_two min_two max_three min_three max_four min_four
attribute [local go_sem high] eqA23
set_option linter.unusedVariables false
set_option linter.unusedSimpArgs false
/-- the root of a number, down -/
def isq : Nat → Nat
  | 0 => 0
  | n + 1 => if (isq n + 1) * (isq n + 1) ≤ n + 1 then isq n + 1 else isq n
theorem isq_spec : ∀ n, isq n * isq n ≤ n ∧ n < (isq n + 1) * (isq n + 1)
  | 0 => by simp [isq]
  | n + 1 => by
    obtain ⟨h1, h2⟩ := isq_spec n
    unfold isq
    split
    · rename_i h
      refine ⟨h, ?_⟩
      have e : (isq n + 1 + 1) * (isq n + 1 + 1) = (isq n + 1) * (isq n + 1) + 2 * (isq n + 1) + 1 := by grind
      omega
    · rename_i h
      exact ⟨by omega, by omega⟩
theorem isq_unique (n r : Nat) (h1 : r * r ≤ n) (h2 : n < (r + 1) * (r + 1)) : r = isq n := by
  obtain ⟨a, b⟩ := isq_spec n
  rcases Nat.lt_trichotomy r (isq n) with h | h | h
  · have := Nat.mul_le_mul (show r + 1 ≤ isq n by omega) (show r + 1 ≤ isq n by omega); omega
  · exact h
  · have := Nat.mul_le_mul (show isq n + 1 ≤ r by omega) (show isq n + 1 ≤ r by omega); omega
def dotI (p q : P3) : Int := p.x * q.x + p.y * q.y + p.z * q.z
theorem mul_bd (a b : Int) (A B : Nat) (ha : a.natAbs ≤ A) (hb : b.natAbs ≤ B) : (a * b).natAbs ≤ A * B := by rw [Int.natAbs_mul]; exact Nat.mul_le_mul ha hb
theorem dot3_eq (p q : P3) (A B : Nat) (hp : in3 A p) (hq : in3 B q) (h : A * B ≤ 1152921504606846976) : dot3 p q = dotI p q := by
  obtain ⟨a1, a2, a3, a4, a5, a6⟩ := hp
  obtain ⟨b1, b2, b3, b4, b5, b6⟩ := hq
  have m1 := mul_bd p.x q.x A B (by omega) (by omega)
  have m2 := mul_bd p.y q.y A B (by omega) (by omega)
  have m3 := mul_bd p.z q.z A B (by omega) (by omega)
  unfold dot3 dotI
  generalize p.x * q.x = u at *
  generalize p.y * q.y = v at *
  generalize p.z * q.z = t at *
  rw [w64_id u (by omega) (by omega), w64_id v (by omega) (by omega), w64_id t (by omega) (by omega), w64_id (u + v) (by omega) (by omega), w64_id _ (by omega) (by omega)]
theorem dotI_bd (p q : P3) (A B : Nat) (hp : in3 A p) (hq : in3 B q) : (dotI p q).natAbs ≤ 3 * (A * B) := by
  obtain ⟨a1, a2, a3, a4, a5, a6⟩ := hp
  obtain ⟨b1, b2, b3, b4, b5, b6⟩ := hq
  have m1 := mul_bd p.x q.x A B (by omega) (by omega)
  have m2 := mul_bd p.y q.y A B (by omega) (by omega)
  have m3 := mul_bd p.z q.z A B (by omega) (by omega)
  unfold dotI
  omega
theorem sq_nonneg (a : Int) : 0 ≤ a * a := by
  rcases Int.le_total 0 a with h | h
  · exact Int.mul_nonneg h h
  · have := Int.mul_nonneg (show 0 ≤ -a by omega) (show 0 ≤ -a by omega); rwa [Int.neg_mul_neg] at this
theorem dotI_self (p : P3) : 0 ≤ dotI p p := by have := sq_nonneg p.x; have := sq_nonneg p.y; have := sq_nonneg p.z; unfold dotI; omega
/-- the size of a direction, down; up -/
def fl3 (p : P3) : Int := isq (dotI p p).toNat
def ce3 (p : P3) : Int := if fl3 p * fl3 p < dotI p p then fl3 p + 1 else fl3 p
def sz3 (p : P3) : Int × Int := if far3 16777216 p then (0, 0) else (fl3 p, ce3 p)
theorem ofInt_i64 (a : Nat) (ha : a < 9223372036854775808) : (BitVec.ofInt 64 (a : Int)).toNat = a := by
  rw [BitVec.ofInt_natCast, BitVec.toNat_ofNat]; exact Nat.mod_eq_of_lt (by omega)
theorem i64_or_nat (a b : Nat) (ha : a < 9223372036854775808) (hb : b < 9223372036854775808) : bits .or .i64 (a : Int) (b : Int) = ((a ||| b : Nat) : Int) := by
  have hx : a ||| b < 2 ^ 63 := Nat.or_lt_two_pow (by omega) (by omega)
  show IntKind.i64.wrap ((BitVec.ofInt 64 (a : Int) ||| BitVec.ofInt 64 (b : Int)).toNat : Int) = _
  rw [BitVec.toNat_or, ofInt_i64 a ha, ofInt_i64 b hb, IntKind.wrap_i64]
  omega
theorem ret_two {k k' : IntKind} {a b c d : Int} (h : a = b) (h' : c = d) : Ending.returned (.tuple #[.int k a, .int k' c]) = Ending.returned (.tuple #[.int k b, .int k' d]) := by rw [h, h']
def SzInv (s r b : Nat) : Prop := r * r ≤ s ∧ ((b = 0 ∧ s < (r + 1) * (r + 1)) ∨ ∃ k q, k ≤ 25 ∧ b = 2 ^ k ∧ r = 2 ^ (k + 1) * q ∧ s < (r + 2 * b) * (r + 2 * b))
theorem SzInv.start (s : Nat) (h : s ≤ 844424930131968) : SzInv s 0 33554432 := ⟨by omega, .inr ⟨25, 0, by omega, by decide, by simp, by omega⟩⟩
theorem SzInv.done {s r : Nat} (h : SzInv s r 0) : r = isq s := by
  obtain ⟨h1, h2⟩ := h
  rcases h2 with ⟨_, h2⟩ | ⟨k, q, _, hb, _⟩
  · exact isq_unique s r h1 h2
  · exact absurd hb (by have := Nat.two_pow_pos k; omega)
theorem SzInv.step {s r b : Nat} (h : SzInv s r b) (hb : b ≠ 0) : r ||| b = r + b ∧ b ≤ 33554432 ∧ ((r + b) * (r + b) ≤ s → SzInv s (r + b) (b / 2)) ∧ (s < (r + b) * (r + b) → SzInv s r (b / 2)) := by
  obtain ⟨h1, h2⟩ := h
  rcases h2 with ⟨h2, _⟩ | ⟨k, q, hk, rfl, rfl, h3⟩
  · exact absurd h2 hb
  · have hp : 2 ^ k ≤ 2 ^ 25 := Nat.pow_le_pow_right (by omega) hk
    have e2 : 2 ^ (k + 1) = 2 * 2 ^ k := by rw [Nat.pow_succ]; omega
    refine ⟨?_, by simpa using hp, ?_, ?_⟩
    · exact (Nat.two_pow_add_eq_or_of_lt (show 2 ^ k < 2 ^ (k + 1) by omega) q).symm
    · intro h4
      refine ⟨h4, ?_⟩
      cases k with
      | zero => exact .inl ⟨by decide, by simpa [Nat.add_assoc] using h3⟩
      | succ k =>
        have e3 : 2 ^ (k + 1) / 2 = 2 ^ k := by rw [Nat.pow_succ]; omega
        have e4 : 2 ^ (k + 1) = 2 * 2 ^ k := by rw [Nat.pow_succ]; omega
        refine .inr ⟨k, 2 * q + 1, by omega, e3, ?_, ?_⟩
        · rw [e2, Nat.mul_add, Nat.mul_one, Nat.mul_assoc, Nat.mul_left_comm]
        · rw [e3]
          have : 2 ^ (k + 1 + 1) * q + 2 ^ (k + 1) + 2 * 2 ^ k = 2 ^ (k + 1 + 1) * q + 2 * 2 ^ (k + 1) := by omega
          rw [this]; exact h3
    · intro h4
      refine ⟨h1, ?_⟩
      cases k with
      | zero => exact .inl ⟨by decide, by simpa using h4⟩
      | succ k =>
        have e3 : 2 ^ (k + 1) / 2 = 2 ^ k := by rw [Nat.pow_succ]; omega
        have e4 : 2 ^ (k + 1) = 2 * 2 ^ k := by rw [Nat.pow_succ]; omega
        refine .inr ⟨k, 2 * q, by omega, e3, ?_, ?_⟩
        · rw [e2, Nat.mul_assoc, Nat.mul_left_comm]
        · rw [e3, ← e4]; exact h4
theorem SzInv.bd {s r b : Nat} (h : SzInv s r b) (hs : s ≤ 844424930131968) : r ≤ 33554432 := by
  rcases Nat.lt_or_ge 33554432 r with h1 | h1
  · have := Nat.mul_le_mul (show 33554432 ≤ r by omega) (show 33554432 ≤ r by omega)
    have := h.1; omega
  · exact h1
set_option maxHeartbeats 1000000 in
theorem sizes_calls (x y z : Int) (w : World) :
    Calls Try.prog 26 #[.agg #[.int .i64 x, .int .i64 y, .int .i64 z]] w fun e w' => e = .returned (.tuple #[.int .i64 (sz3 ⟨x, y, z⟩).1, .int .i64 (sz3 ⟨x, y, z⟩).2]) ∧ Below w.heap.size w w' := by
  have B1 := C3.new w (.int .i64 x) (.int .i64 y) (.int .i64 z) 23
  cases hf : far3 16777216 ⟨x, y, z⟩ with
  | true =>
    have hs : sz3 ⟨x, y, z⟩ = (0, 0) := by unfold sz3; rw [hf]; rfl
    rw [hs]
    clear hs
    go_enter Try.func26, Try.ntmps26
    go_wp2
    go_region_held3 (fun w' => w'.cell? ⟨w.heap.size, 0, none⟩ = some (.int .i64 x) ∧ w'.cell? ⟨w.heap.size, 1, none⟩ = some (.int .i64 y) ∧ w'.cell? ⟨w.heap.size, 2, none⟩ = some (.int .i64 z))
      (first | (go_keep; done) | exact ⟨c10, c11, c12⟩)
      (first
        | (go_at_call 65; refine (beyondF_calls _ _).mono ?_; rintro e w1 ⟨rfl, rfl⟩)
        | (go_at_call 121; refine (beyond1_calls _ _ _ 16777216 _ _ (by simp) (by decide) (by decide)).mono ?_; rintro e w1 ⟨rfl, hb1⟩; rw [hf]; obtain ⟨c10, c11, c12, f10, f11, f12⟩ := (B1.drew.alloc _).below hb1))
    go_wp2
    go_ret2
    exact ⟨rfl, ((((Below.refl _ w).alloc (Nat.le_refl _) _).drew).alloc (by simp) _).trans (hb1.mono (by simp; omega))⟩
  | false =>
    have hin := (far3_iff _ _ (by decide) (by decide)).1 hf
    have hd := dot3_eq ⟨x, y, z⟩ ⟨x, y, z⟩ 16777216 16777216 hin hin (by decide)
    have hd1 := dotI_bd ⟨x, y, z⟩ ⟨x, y, z⟩ 16777216 16777216 hin hin
    have hd2 := dotI_self ⟨x, y, z⟩
    have hs : sz3 ⟨x, y, z⟩ = (fl3 ⟨x, y, z⟩, ce3 ⟨x, y, z⟩) := by unfold sz3; rw [hf]; rfl
    rw [hs]
    clear hs
    unfold ce3 fl3
    obtain ⟨s, hs⟩ : ∃ s : Nat, dotI ⟨x, y, z⟩ ⟨x, y, z⟩ = s := ⟨_, (Int.toNat_of_nonneg hd2).symm⟩
    rw [hs] at hd hd1 hd2 ⊢
    rw [Int.toNat_natCast]
    have hsb : s ≤ 844424930131968 := by omega
    have HD := Lh hd
    clear hd hd1 hd2 hs hin
    obtain ⟨U, hU⟩ : ∃ U : Int, (if (isq s : Int) * (isq s : Int) < (s : Int) then (isq s : Int) + 1 else (isq s : Int)) = U := ⟨_, rfl⟩
    rw [hU]
    have HU := Lh hU
    clear hU
    go_enter Try.func26, Try.ntmps26
    go_wp2
    go_region_held3 (fun w' => w'.cell? ⟨w.heap.size, 0, none⟩ = some (.int .i64 x) ∧ w'.cell? ⟨w.heap.size, 1, none⟩ = some (.int .i64 y) ∧ w'.cell? ⟨w.heap.size, 2, none⟩ = some (.int .i64 z))
      (first | (go_keep; done) | exact ⟨c10, c11, c12⟩)
      (first
        | (go_at_call 65; refine (beyondF_calls _ _).mono ?_; rintro e w1 ⟨rfl, rfl⟩)
        | (go_at_call 121; refine (beyond1_calls _ _ _ 16777216 _ _ (by simp) (by decide) (by decide)).mono ?_; rintro e w1 ⟨rfl, hb1⟩; rw [hf]; obtain ⟨c10, c11, c12, f10, f11, f12⟩ := (B1.drew.alloc _).below hb1))
    go_wp2_with (go_at_call 66; refine (dot_calls _ _ _ _ _ _ _).mono ?_; rintro e w2 ⟨rfl, hb2⟩; rw [HD.out])
    have hB : Below w.heap.size w w2 := ((((Below.refl _ w).alloc (Nat.le_refl _) _).drew).alloc (by simp) _).trans ((hb1.mono (by simp; omega)).trans (hb2.mono (by have := hb1.size; simp at this; omega)))
    clear hb1 hb2 c10 c11 c12 f10 f11 f12 B1 HD
    go_loopw [5, 6, 7] (fun v5 v6 v7 wr => ∃ (r : Nat) (b : Nat), v5 = .int .i64 r ∧ v6 = .int .i64 b ∧ Hid (SzInv s r b) ∧ Below w.heap.size w wr) (fun _ b _ _ => (intOf b).toNat)
    case atStart => exact ⟨0, 33554432, rfl, rfl, SzInv.start s hsb, hB⟩
    case round =>
      obtain ⟨r, b, rfl, rfl, hi, hbr⟩ := hrel
      have hrb := hi.out.bd hsb
      by_cases hb0 : b = 0
      · subst hb0
        have hr := Lh hi.out.done
        have hrr : r * r ≤ s := hi.out.1
        have hrr' : (r : Int) * r ≤ s := by exact_mod_cast hrr
        have hp : (r : Int) * r = (r * r : Nat) := by simp
        obtain ⟨m, hm⟩ : ∃ m : Nat, r * r = m := ⟨_, rfl⟩
        rw [hm] at hp hrr
        clear hrr'
        have HM := Lh hm
        clear hm
        have hr' : isq s = r := hr.out.symm
        rcases Nat.lt_or_ge m s with hlt | hge
        · go_wp2
          go_ret2
          refine ⟨ret_two (by rw [hr']) ?_, hbr⟩
          rw [← HU.out, hr', hp, if_pos (by omega)]
        · go_wp2
          go_ret2
          refine ⟨ret_two (by rw [hr']) ?_, hbr⟩
          rw [← HU.out, hr', hp, if_neg (by omega)]
      · obtain ⟨h1, h2, h3, h4⟩ := hi.out.step hb0
        have hor : bits .or .i64 (r : Int) (b : Int) = ((r + b : Nat) : Int) := by rw [i64_or_nat _ _ (by omega) (by omega), h1]
        obtain ⟨t, ht⟩ : ∃ t : Nat, r + b = t := ⟨_, rfl⟩
        rw [ht] at hor h3 h4
        have htb : t ≤ 67108864 := by omega
        have htt : t * t ≤ 67108864 * 67108864 := Nat.mul_le_mul htb htb
        obtain ⟨m, hm⟩ : ∃ m : Nat, t * t = m := ⟨_, rfl⟩
        have hp : (t : Int) * t = (m : Int) := by rw [← hm]; simp
        rw [hm] at h3 h4 htt
        have H3 := Lh h3
        have H4 := Lh h4
        clear h1 h3 h4 ht hm
        rcases Nat.lt_or_ge s m with hlt | hge
        · go_wp2
          go_roundw
          case rel => exact ⟨r, b / 2, rfl, by go_num, H4.out hlt, hbr⟩
          case measure => simp [intOf]; omega
        · go_wp2
          go_roundw
          case rel => exact ⟨t, b / 2, rfl, by go_num, H3.out hge, hbr⟩
          case measure => simp [intOf]; omega
end Go.Proofs.Ytckdhahceelckaa.G
namespace Go.Proofs.Ytckdhahceelckaa.G
open Go.RowKit Go.Proofs.YtckdhahceelckaaW.PrintWords Go.Proofs.YtckdhahceelckaaW.PrintLast Go.Proofs.YtckdhahceelckaaW.PrintMore
attribute [local go_sem] max2_mx min2_mn max_two min_two max_three min_three max_four min_four
set_option linter.unusedVariables false
set_option linter.unusedSimpArgs false
theorem mag_wval {n : Bool} {l : List Int} (h : digs l) : 0 ≤ mag l ∧ (mag l = wval n l ∨ mag l = -wval n l) := by
  refine ⟨mag_nonneg l h, ?_⟩
  cases n <;> simp [wval]
/-- the root, down -/
def rtI (v : Int) : Int := isq v.toNat
theorem rtI_of {v r : Int} (h0 : 0 ≤ r) (h1 : r * r ≤ v) (h2 : v < (r + 1) * (r + 1)) : r = rtI v := by
  unfold rtI
  have hv : 0 ≤ v := by have := Int.mul_nonneg h0 h0; omega
  have e : (r.toNat : Int) = r := by omega
  have e1 : ((r.toNat * r.toNat : Nat) : Int) = r * r := by rw [Int.natCast_mul, e]
  have e2 : (((r.toNat + 1) * (r.toNat + 1) : Nat) : Int) = (r + 1) * (r + 1) := by rw [Int.natCast_mul, Int.natCast_add, e]; rfl
  have := isq_unique v.toNat r.toNat (by omega) (by omega)
  omega
theorem rtI_spec {v : Int} (h : 0 ≤ v) : 0 ≤ rtI v ∧ rtI v * rtI v ≤ v ∧ v < (rtI v + 1) * (rtI v + 1) := by
  obtain ⟨h1, h2⟩ := isq_spec v.toNat
  unfold rtI
  have e1 : ((isq v.toNat * isq v.toNat : Nat) : Int) = (isq v.toNat : Int) * (isq v.toNat : Int) := Int.natCast_mul ..
  have e2 : (((isq v.toNat + 1) * (isq v.toNat + 1) : Nat) : Int) = ((isq v.toNat : Int) + 1) * ((isq v.toNat : Int) + 1) := by rw [Int.natCast_mul, Int.natCast_add]; rfl
  omega
theorem p8 : (16777216 : Int) ^ 8 = 6277101735386680763835789423207666416102355444464034512896 := by decide
theorem sq_small {t : Int} (h0 : 0 ≤ t) (h1 : t ≤ 4611686018427387904) : 0 ≤ t * t ∧ t * t ≤ 21267647932558653966460912964485513216 := by
  have a := Int.mul_nonneg h0 h0
  have b := Int.mul_le_mul h1 h1 h0 (by decide)
  omega
set_option maxHeartbeats 4000000 in
theorem rootof_calls (n : Bool) (l : List Int) (hl : l.length = 8) (hd : digs l) (h0 : 0 ≤ wval n l) (h1 : wval n l < 21267647932558653966460912964485513216) (w : World) :
    Calls Try.prog 175 #[.agg (aW n l)] w fun e w' => e = .returned (.tuple #[.int .i64 (rtI (wval n l)), .bool true]) ∧ Below w.heap.size w w' := by
  have HL := Lh hl
  have HD := Lh hd
  have hmm := mag_wval (n := n) hd
  have HMM := Lh hmm
  have HX := Lh (RootI.start h0 (by rw [show (2 : Int) ^ 124 = 21267647932558653966460912964485513216 by decide]; exact h1))
  have H0 := Lh h0
  have H1 := Lh h1
  clear hl hd h0 h1 hmm
  have HA := Lh (Wd.new w n l)
  have HW := Lh ((Below.refl _ w).alloc (Nat.le_refl _) (.cells (aW n l) 169))
  go_enter Try.func175, Try.ntmps175
  go_wp2_with fail
  refine (of_calls 4611686018427387904 (by decide) (by decide) _).mono ?_
  rintro e w1 ⟨v, rfl, ⟨n1, l1, rfl, hl1, hd1, hv1⟩, hb1⟩
  have HA1 := Lh (HA.out.below hb1)
  have HW1 := Lh (bthen HW.out hb1)
  clear HA HW hb1
  have hp1 := Lh (And.intro hl1 (And.intro hd1 hv1))
  clear hl1 hd1 hv1
  go_wp2_with fail
  refine (of_calls 4611686018427387904 (by decide) (by decide) _).mono ?_
  rintro e w2 ⟨v, rfl, ⟨n2, l2, rfl, hl2, hd2, hv2⟩, hb2⟩
  have HA2 := Lh (HA1.out.below hb2)
  have HW2 := Lh (bthen HW1.out hb2)
  have hp2 := Lh (And.intro hl2 (And.intro hd2 hv2))
  clear HA1 HW1 hb2 hl2 hd2 hv2
  go_wp2_with fail
  have hm1 := mag_wval (n := n1) hp1.out.2.1
  have hm2 := mag_wval (n := n2) hp2.out.2.1
  have hq1 : mag l1 = 4611686018427387904 := by have := hp1.out.2.2; omega
  have hq2 : mag l2 = 4611686018427387904 := by have := hp2.out.2.2; omega
  refine (times_calls n1 n2 l1 l2 hp1.out.1 hp2.out.1 hp1.out.2.1 hp2.out.2.1 (by rw [hq1, hq2]; decide) _).mono ?_
  rintro e w3 ⟨v, rfl, ⟨n3, l3, rfl, hl3, hd3, hv3⟩, hb3⟩
  have HA3 := Lh ((HA2.out.below hb3).alloc (.cells (aW n3 l3) 169))
  have HW3 := Lh ((bthen HW2.out hb3).alloc (by have := HW2.out.size; have := hb3.size; omega) (.cells (aW n3 l3) 169))
  rw [hp1.out.2.2, hp2.out.2.2] at hv3
  have HT := Lh (Wd.new w3 n3 l3)
  have hm3 := mag_wval (n := n3) hd3
  have hz3 : w.heap.size + 1 ≤ w3.heap.size := by have := hb3.size; have := HA2.out.lt; omega
  have hless : Hid (∀ W, Calls Try.prog 178 #[.agg (aW n l), .agg (aW n3 l3)] W fun e w' => e = .returned (.bool true) ∧ Below W.heap.size W w') := fun W =>
    less_calls n n3 l l3 HL.out hl3 HD.out hd3 (by have := HMM.out; have := H0.out; have := H1.out; rw [p8]; omega) true (by rw [hv3]; simpa using H1.out) W
  clear HA2 HW2 hb3 hl3 hd3 hv3 hm1 hm2 hm3 hq1 hq2 hp1 hp2
  have hA3 := HA3.out
  obtain ⟨a0, a1, a2, a3, a4, a5, a6, a7, a8⟩ := hA3.all
  obtain ⟨b0, b1, b2, b3, b4, b5, b6, b7, b8⟩ := HT.out.all
  clear hA3
  go_wp2_with fail
  refine (hless.out _).mono ?_
  rintro e w4 ⟨rfl, hb4⟩
  have HA4 := Lh (HA3.out.below hb4)
  have HW4 := Lh (bthen HW3.out hb4)
  have hz4 : w.heap.size + 1 + 1 ≤ w4.heap.size := by have := hb4.size; simp at this; omega
  clear a0 a1 a2 a3 a4 a5 a6 a7 a8 b0 b1 b2 b3 b4 b5 b6 b7 b8 HT hless HA3 HW3 hb4
  go_wp2
  go_loopw [6, 7, 8, 9] (fun v6 v7 v8 v9 wr => ∃ (j : Nat) (r : Int), j ≤ 62 ∧ v6 = .int .i64 r ∧ v7 = .int .i64 (bitOf 62 j) ∧ Hid (RootI (wval n l) j r) ∧ Hid (Wd wr w.heap.size n l) ∧ Hid (Below w.heap.size w wr)) (fun _ b _ _ _ => (intOf b).toNat)
  case atStart => exact ⟨0, 0, by omega, rfl, rfl, HX, HA4, HW4⟩
  case round =>
    clear HX HA4 HW4
    obtain ⟨j, r, hj62, rfl, rfl, hI, hA, hW⟩ := hrel
    by_cases hj : j < 62
    · obtain ⟨x0, x1, x2⟩ := hI.out.bit hj
      have r0 := hI.out.1
      have HB := Lh (bitOf_half 62 j hj)
      have HY := Lh (fun h => hI.out.yes hj h)
      have HN := Lh (fun h => hI.out.no hj h)
      obtain ⟨B, hB⟩ : ∃ B, bitOf 62 j = B := ⟨_, rfl⟩
      rw [hB] at x0 x1 x2 HB HY HN ⊢
      clear hB
      go_wp2_with fail
      refine (of_calls (r + B) (by omega) (by omega) _).mono ?_
      rintro e w5 ⟨v, rfl, ⟨n5, l5, rfl, hl5, hd5, hv5⟩, hb5⟩
      have hm5 := mag_wval (n := n5) hd5
      have hq5 : mag l5 = r + B := by omega
      have hsq := sq_small x0 (by omega)
      have HT5 := Lh (fun W => times_calls n5 n5 l5 l5 hl5 hl5 hd5 hd5 (by rw [hq5, p8]; omega) W)
      rw [hv5] at HT5
      have HA5 := Lh ((hA.out.below hb5).alloc (.cells (aW n5 l5) 169))
      have HO5 := Lh (Wd.new w5 n5 l5)
      have HW5 := Lh ((bthen hW.out hb5).alloc (by have := hW.out.size; have := hb5.size; omega) (.cells (aW n5 l5) 169))
      have hz5 : w.heap.size + 1 ≤ w5.heap.size := by have := hb5.size; have := hA.out.lt; omega
      clear hb5 hl5 hd5 hv5 hm5 hq5 hA hW
      obtain ⟨a0, a1, a2, a3, a4, a5, a6, a7, a8⟩ := HA5.out.all
      obtain ⟨b0, b1, b2, b3, b4, b5, b6, b7, b8⟩ := HO5.out.all
      rcases (show (r + B) * (r + B) ≤ wval n l ∨ wval n l < (r + B) * (r + B) by omega) with hc | hc
      · have hN := Lh (HY.out hc)
        have HC := Lh hc
        clear hc
        go_wp2_with fail
        have HA5 := Lh HA5.out.drew
        have HO5 := Lh HO5.out.drew
        have HW5 := Lh HW5.out.drew
        go_region_held3 (fun w' => w'.cell? ⟨w.heap.size, 0, none⟩ = some (.bool n) ∧ w'.cell? ⟨w.heap.size, 1, none⟩ = some (.int .i64 (dg l 0)) ∧ w'.cell? ⟨w.heap.size, 2, none⟩ = some (.int .i64 (dg l 1)) ∧ w'.cell? ⟨w.heap.size, 3, none⟩ = some (.int .i64 (dg l 2)) ∧ w'.cell? ⟨w.heap.size, 4, none⟩ = some (.int .i64 (dg l 3)) ∧ w'.cell? ⟨w.heap.size, 5, none⟩ = some (.int .i64 (dg l 4)) ∧ w'.cell? ⟨w.heap.size, 6, none⟩ = some (.int .i64 (dg l 5)) ∧ w'.cell? ⟨w.heap.size, 7, none⟩ = some (.int .i64 (dg l 6)) ∧ w'.cell? ⟨w.heap.size, 8, none⟩ = some (.int .i64 (dg l 7)) ∧ w'.cell? ⟨w5.heap.size, 0, none⟩ = some (.bool n5) ∧ w'.cell? ⟨w5.heap.size, 1, none⟩ = some (.int .i64 (dg l5 0)) ∧ w'.cell? ⟨w5.heap.size, 2, none⟩ = some (.int .i64 (dg l5 1)) ∧ w'.cell? ⟨w5.heap.size, 3, none⟩ = some (.int .i64 (dg l5 2)) ∧ w'.cell? ⟨w5.heap.size, 4, none⟩ = some (.int .i64 (dg l5 3)) ∧ w'.cell? ⟨w5.heap.size, 5, none⟩ = some (.int .i64 (dg l5 4)) ∧ w'.cell? ⟨w5.heap.size, 6, none⟩ = some (.int .i64 (dg l5 5)) ∧ w'.cell? ⟨w5.heap.size, 7, none⟩ = some (.int .i64 (dg l5 6)) ∧ w'.cell? ⟨w5.heap.size, 8, none⟩ = some (.int .i64 (dg l5 7)))
          (first | exact ⟨a0, a1, a2, a3, a4, a5, a6, a7, a8, b0, b1, b2, b3, b4, b5, b6, b7, b8⟩ | (go_keep; done))
          (first
            | (go_at_call 151; refine (HT5.out _).mono ?_; rintro e w6 ⟨v, rfl, ⟨n6, l6, rfl, hl6, hd6, hv6⟩, hb6⟩; have HA6 := Lh (HA5.out.below hb6); have HO6 := Lh (HO5.out.below hb6); have HW6 := Lh (bthen HW5.out hb6); have HP6 := Lh (And.intro hl6 (And.intro hd6 hv6)); clear hl6 hd6 hv6 hb6; obtain ⟨a0, a1, a2, a3, a4, a5, a6, a7, a8⟩ := HA6.out.all; obtain ⟨b0, b1, b2, b3, b4, b5, b6, b7, b8⟩ := HO6.out.all)
            | (go_at_call 178; refine (less_calls n n6 l l6 HL.out HP6.out.1 HD.out HP6.out.2.1 ?_ false ?_ _).mono ?_; have m6 := mag_wval (n := n6) HP6.out.2.1; have m7 := HMM.out; have m8 := H0.out; have m9 := H1.out; have m10 := HP6.out.2.2; rw [p8]; omega; have m10 := HP6.out.2.2; have m11 := HC.out; rw [m10]; simp; omega; rintro e w7 ⟨rfl, hb7⟩; have HA7 := Lh (HA6.out.below hb7); have HO7 := Lh (HO6.out.below hb7); have HW7 := Lh (bthen HW6.out hb7); clear hb7; obtain ⟨a0, a1, a2, a3, a4, a5, a6, a7, a8⟩ := HA7.out.all; obtain ⟨b0, b1, b2, b3, b4, b5, b6, b7, b8⟩ := HO7.out.all))
        go_wp2
        go_roundw
        case rel => exact ⟨j + 1, _, by omega, rfl, by rw [HB.out], hN, HA7, HW7⟩
        case measure => simp [intOf]; omega
      · have hN := Lh (HN.out hc)
        have HC := Lh hc
        clear hc
        go_wp2_with fail
        have HA5 := Lh HA5.out.drew
        have HO5 := Lh HO5.out.drew
        have HW5 := Lh HW5.out.drew
        go_region_held3 (fun w' => w'.cell? ⟨w.heap.size, 0, none⟩ = some (.bool n) ∧ w'.cell? ⟨w.heap.size, 1, none⟩ = some (.int .i64 (dg l 0)) ∧ w'.cell? ⟨w.heap.size, 2, none⟩ = some (.int .i64 (dg l 1)) ∧ w'.cell? ⟨w.heap.size, 3, none⟩ = some (.int .i64 (dg l 2)) ∧ w'.cell? ⟨w.heap.size, 4, none⟩ = some (.int .i64 (dg l 3)) ∧ w'.cell? ⟨w.heap.size, 5, none⟩ = some (.int .i64 (dg l 4)) ∧ w'.cell? ⟨w.heap.size, 6, none⟩ = some (.int .i64 (dg l 5)) ∧ w'.cell? ⟨w.heap.size, 7, none⟩ = some (.int .i64 (dg l 6)) ∧ w'.cell? ⟨w.heap.size, 8, none⟩ = some (.int .i64 (dg l 7)) ∧ w'.cell? ⟨w5.heap.size, 0, none⟩ = some (.bool n5) ∧ w'.cell? ⟨w5.heap.size, 1, none⟩ = some (.int .i64 (dg l5 0)) ∧ w'.cell? ⟨w5.heap.size, 2, none⟩ = some (.int .i64 (dg l5 1)) ∧ w'.cell? ⟨w5.heap.size, 3, none⟩ = some (.int .i64 (dg l5 2)) ∧ w'.cell? ⟨w5.heap.size, 4, none⟩ = some (.int .i64 (dg l5 3)) ∧ w'.cell? ⟨w5.heap.size, 5, none⟩ = some (.int .i64 (dg l5 4)) ∧ w'.cell? ⟨w5.heap.size, 6, none⟩ = some (.int .i64 (dg l5 5)) ∧ w'.cell? ⟨w5.heap.size, 7, none⟩ = some (.int .i64 (dg l5 6)) ∧ w'.cell? ⟨w5.heap.size, 8, none⟩ = some (.int .i64 (dg l5 7)))
          (first | exact ⟨a0, a1, a2, a3, a4, a5, a6, a7, a8, b0, b1, b2, b3, b4, b5, b6, b7, b8⟩ | (go_keep; done))
          (first
            | (go_at_call 151; refine (HT5.out _).mono ?_; rintro e w6 ⟨v, rfl, ⟨n6, l6, rfl, hl6, hd6, hv6⟩, hb6⟩; have HA6 := Lh (HA5.out.below hb6); have HO6 := Lh (HO5.out.below hb6); have HW6 := Lh (bthen HW5.out hb6); have HP6 := Lh (And.intro hl6 (And.intro hd6 hv6)); clear hl6 hd6 hv6 hb6; obtain ⟨a0, a1, a2, a3, a4, a5, a6, a7, a8⟩ := HA6.out.all; obtain ⟨b0, b1, b2, b3, b4, b5, b6, b7, b8⟩ := HO6.out.all)
            | (go_at_call 178; refine (less_calls n n6 l l6 HL.out HP6.out.1 HD.out HP6.out.2.1 ?_ true ?_ _).mono ?_; have m6 := mag_wval (n := n6) HP6.out.2.1; have m7 := HMM.out; have m8 := H0.out; have m9 := H1.out; have m10 := HP6.out.2.2; rw [p8]; omega; have m10 := HP6.out.2.2; have m11 := HC.out; rw [m10]; simp; omega; rintro e w7 ⟨rfl, hb7⟩; have HA7 := Lh (HA6.out.below hb7); have HO7 := Lh (HO6.out.below hb7); have HW7 := Lh (bthen HW6.out hb7); clear hb7; obtain ⟨a0, a1, a2, a3, a4, a5, a6, a7, a8⟩ := HA7.out.all; obtain ⟨b0, b1, b2, b3, b4, b5, b6, b7, b8⟩ := HO7.out.all))
        go_wp2
        go_roundw
        case rel => exact ⟨j + 1, _, by omega, rfl, by rw [HB.out], hN, HA7, HW7⟩
        case measure => simp [intOf]; omega
    · obtain rfl : j = 62 := by omega
      have e0 : bitOf 62 62 = 0 := rfl
      obtain ⟨k0, k1, k2⟩ := hI.out.done
      have E := Lh (rtI_of k0 k1 k2)
      clear k1 k2
      go_wp2
      go_ret2
      exact ⟨by rw [← E.out]; rfl, hW.out⟩
end Go.Proofs.Ytckdhahceelckaa.G
namespace Go.Proofs.Ytckdhahceelckaa.G
open Go.RowKit Go.Proofs.YtckdhahceelckaaW.PrintWords Go.Proofs.YtckdhahceelckaaW.PrintLast Go.Proofs.YtckdhahceelckaaW.PrintMore
attribute [local go_sem] max2_mx min2_mn max_two min_two max_three min_three max_four min_four
set_option linter.unusedVariables false
set_option linter.unusedSimpArgs false
/-- the slice at A reads as the numbers l -/
def RdI (w : World) (A : Option Addr) (l : List Int) : Prop :=
  ∀ i x, l[i]? = some x → ∃ b o, A = some ⟨b, o, none⟩ ∧ b < w.heap.size ∧ w.cell? ⟨b, o + i, none⟩ = some (.int .i64 x)
theorem RdI.below {w w1 : World} {A l} (h : RdI w A l) (hb : Below w.heap.size w w1) : RdI w1 A l := fun i p hp => by
  obtain ⟨b, o, hA, hlt, h1⟩ := h i p hp
  exact ⟨b, o, hA, Nat.lt_of_lt_of_le hlt hb.size, (hb.cell (p := ⟨b, _, none⟩) hlt).trans h1⟩
theorem RdI.get {w : World} {A : Option Addr} {l : List Int} (h : RdI w A l) (i : Nat) (hi : i < l.length) : ∃ b o, A = some ⟨b, o, none⟩ ∧ b < w.heap.size ∧ w.cell? ⟨b, o + i, none⟩ = some (.int .i64 l[i]) :=
  h i _ (List.getElem?_eq_getElem hi)
theorem RdI.of2 {w : World} {g : Nat} {x y : Int} {t : TypeId} (h : w.heap[g]? = some (.cells #[.int .i64 x, .int .i64 y] t (0, 0))) : RdI w (some ⟨g, 0, none⟩) [x, y] := fun i p hp => by
  match i, hp with
  | 0, hp => simp at hp; subst hp; exact ⟨g, 0, rfl, blk_lt h, (blk_cell h 0).trans rfl⟩
  | 1, hp => simp at hp; subst hp; exact ⟨g, 0, rfl, blk_lt h, (blk_cell h 1).trans rfl⟩
theorem RdI.of3 {w : World} {g : Nat} {x y z : Int} {t : TypeId} (h : w.heap[g]? = some (.cells #[.int .i64 x, .int .i64 y, .int .i64 z] t (0, 0))) : RdI w (some ⟨g, 0, none⟩) [x, y, z] := fun i p hp => by
  match i, hp with
  | 0, hp => simp at hp; subst hp; exact ⟨g, 0, rfl, blk_lt h, (blk_cell h 0).trans rfl⟩
  | 1, hp => simp at hp; subst hp; exact ⟨g, 0, rfl, blk_lt h, (blk_cell h 1).trans rfl⟩
  | 2, hp => simp at hp; subst hp; exact ⟨g, 0, rfl, blk_lt h, (blk_cell h 2).trans rfl⟩
theorem RdI.of4 {w : World} {g : Nat} {x y z u : Int} {t : TypeId} (h : w.heap[g]? = some (.cells #[.int .i64 x, .int .i64 y, .int .i64 z, .int .i64 u] t (0, 0))) : RdI w (some ⟨g, 0, none⟩) [x, y, z, u] := fun i p hp => by
  match i, hp with
  | 0, hp => simp at hp; subst hp; exact ⟨g, 0, rfl, blk_lt h, (blk_cell h 0).trans rfl⟩
  | 1, hp => simp at hp; subst hp; exact ⟨g, 0, rfl, blk_lt h, (blk_cell h 1).trans rfl⟩
  | 2, hp => simp at hp; subst hp; exact ⟨g, 0, rfl, blk_lt h, (blk_cell h 2).trans rfl⟩
  | 3, hp => simp at hp; subst hp; exact ⟨g, 0, rfl, blk_lt h, (blk_cell h 3).trans rfl⟩
/-- numbers that may be -/
def fits (x : Int) : Prop := -4611686018427387903 ≤ x ∧ x ≤ 4611686018427387903
set_option maxHeartbeats 1000000 in
theorem great_calls (l : List Int) (A : Option Addr) (c : Nat) (w : World) (h : RdI w A l) (hc : l.length ≤ c) (hm : l.length ≤ 100) (hf : ∀ x ∈ l, fits x) :
    Calls Try.prog 148 #[.slice A l.length c] w fun e w' => e = .returned (.bool false) ∧ w' = w := by
  have H := Lh h
  have HF := Lh hf
  clear h hf
  go_enter Try.func148, Try.ntmps148
  go_wp2
  go_loop [3] (fun v3 => ∃ k : Nat, k ≤ l.length ∧ v3 = .int .i64 k) (fun i => l.length - (intOf i).toNat)
  case atStart => exact ⟨0, by omega, rfl⟩
  case round =>
    obtain ⟨k, hk, rfl⟩ := hrel
    by_cases hlt : k < l.length
    · obtain ⟨b, o, rfl, hb, hx⟩ := H.out.get k hlt
      obtain ⟨f1, f2⟩ := HF.out _ (List.getElem_mem hlt)
      obtain ⟨x, hx'⟩ : ∃ x, l[k] = x := ⟨_, rfl⟩
      rw [hx'] at hx f1 f2
      clear hx'
      have d1 : decide (x < -4611686018427387903) = false := by simp; omega
      have d2 : decide (4611686018427387903 < x) = false := by simp; omega
      go_wp2
      go_round
      case rel => exact ⟨k + 1, by omega, by go_num⟩
      case measure => simp [intOf]; omega
    · go_wp2
      go_ret
      exact ⟨rfl, rfl⟩
set_option maxHeartbeats 1000000 in
theorem tells_calls (v : Value) (n : Int) (hn : fits n) (w : World) :
    Calls Try.prog 149 #[v, .int .i64 n, .bool true] w fun e w' => e = .returned (.int .i64 n) ∧ w' = w := by
  obtain ⟨f1, f2⟩ := hn
  have d1 : decide (n < -4611686018427387903) = false := by simp; omega
  have d2 : decide (4611686018427387903 < n) = false := by simp; omega
  go_enter Try.func149, Try.ntmps149
  go_wp2
  go_ret
  exact ⟨rfl, rfl⟩
set_option maxHeartbeats 1000000 in
theorem wadd_calls (v : Value) (a b : Int) (ha : fits a) (hb : fits b) (hs : fits (a + b)) (w : World) :
    Calls Try.prog 99 #[v, .int .i64 a, .int .i64 b] w fun e w' => e = .returned (.int .i64 (a + b)) ∧ Below w.heap.size w w' := by
  have HF : Hid (∀ x ∈ [a, b], fits x) := Lh (by intro x hx; simp at hx; rcases hx with rfl | rfl <;> assumption)
  have HS := Lh hs
  obtain ⟨a1, a2⟩ := ha
  obtain ⟨b1, b2⟩ := hb
  clear hs
  go_enter Try.func99, Try.ntmps99
  go_wp2_with fail
  refine (great_calls [a, b] _ 2 _ (RdI.of2 (heap_alloc_new w _)) (Nat.le_refl _) (by simp) HF.out).mono ?_
  rintro e w1 ⟨rfl, rfl⟩
  go_wp2_with fail
  refine (tells_calls v (a + b) HS.out _).mono ?_
  rintro e w1 ⟨rfl, rfl⟩
  go_wp2
  go_ret
  exact ⟨rfl, (Below.refl _ w).alloc (Nat.le_refl _) _⟩
set_option maxHeartbeats 1000000 in
theorem wsub_calls (v : Value) (a b : Int) (ha : fits a) (hb : fits b) (hs : fits (a - b)) (w : World) :
    Calls Try.prog 101 #[v, .int .i64 a, .int .i64 b] w fun e w' => e = .returned (.int .i64 (a - b)) ∧ Below w.heap.size w w' := by
  have HF : Hid (∀ x ∈ [a, b], fits x) := Lh (by intro x hx; simp at hx; rcases hx with rfl | rfl <;> assumption)
  have HS := Lh hs
  obtain ⟨a1, a2⟩ := ha
  obtain ⟨b1, b2⟩ := hb
  clear hs
  go_enter Try.func101, Try.ntmps101
  go_wp2_with fail
  refine (great_calls [a, b] _ 2 _ (RdI.of2 (heap_alloc_new w _)) (Nat.le_refl _) (by simp) HF.out).mono ?_
  rintro e w1 ⟨rfl, rfl⟩
  go_wp2_with fail
  refine (tells_calls v (a - b) HS.out _).mono ?_
  rintro e w1 ⟨rfl, rfl⟩
  go_wp2
  go_ret
  exact ⟨rfl, (Below.refl _ w).alloc (Nat.le_refl _) _⟩
theorem mag_prod {n m : Bool} {l k : List Int} (hd : digs l) (he : digs k) (X Y : Nat) (h1 : (wval n l).natAbs ≤ X) (h2 : (wval m k).natAbs ≤ Y) : mag l * mag k ≤ X * Y := by
  have a := mag_wval (n := n) hd
  have b := mag_wval (n := m) he
  exact Int.mul_le_mul (by omega) (by omega) b.1 (by omega)
set_option maxHeartbeats 2000000 in
theorem wratio_calls (v : Value) (a b c : Int) (ha : fits a) (hb : fits b) (hc : fits c) (hc0 : 0 < c) (hq : (a * b).natAbs ≤ 4611686018427387902 * c) (w : World) :
    Calls Try.prog 100 #[v, .int .i64 a, .int .i64 b, .int .i64 c] w fun e w' => e = .returned (.int .i64 (a * b / c)) ∧ Below w.heap.size w w' := by
  have HF : Hid (∀ x ∈ [a, b, c], fits x) := Lh (by intro x hx; simp at hx; rcases hx with rfl | rfl | rfl <;> assumption)
  obtain ⟨a1, a2⟩ := ha
  obtain ⟨b1, b2⟩ := hb
  obtain ⟨c1, c2⟩ := hc
  have hz : (c == 0) = false := by simp; omega
  have hfit : Hid (fits (a * b / c)) := by
    have e1 : a * b / c * c ≤ a * b := Int.ediv_mul_le _ (by omega)
    have e2 : a * b < (a * b / c + 1) * c := by have := Int.lt_ediv_add_one_mul_self (a * b) hc0; exact this
    unfold fits
    constructor
    · rcases Int.le_total 0 (a * b / c + 4611686018427387903) with h | h
      · omega
      · have := Int.mul_le_mul_of_nonneg_right (show a * b / c + 1 ≤ -4611686018427387902 by omega) (Int.le_of_lt hc0); omega
    · rcases Int.le_total (a * b / c) 4611686018427387903 with h | h
      · omega
      · have := Int.mul_le_mul_of_nonneg_right h (Int.le_of_lt hc0); omega
  have HQ := Lh hq
  clear hq
  go_enter Try.func100, Try.ntmps100
  go_wp2_with fail
  refine (great_calls [a, b, c] _ 3 _ (RdI.of3 (heap_alloc_new w _)) (Nat.le_refl _) (by simp) HF.out).mono ?_
  rintro e w1 ⟨rfl, rfl⟩
  go_wp2_with fail
  refine (of_calls a (by omega) (by omega) _).mono ?_
  rintro e w1 ⟨u, rfl, ⟨n1, l1, rfl, hl1, hd1, hv1⟩, hb1⟩
  have H1 := Lh (And.intro hl1 (And.intro hd1 hv1))
  have HB1 := Lh (bthen ((Below.refl _ w).alloc (Nat.le_refl _) _) hb1)
  clear hl1 hd1 hv1 hb1
  go_wp2_with fail
  refine (of_calls b (by omega) (by omega) _).mono ?_
  rintro e w2 ⟨u, rfl, ⟨n2, l2, rfl, hl2, hd2, hv2⟩, hb2⟩
  have H2 := Lh (And.intro hl2 (And.intro hd2 hv2))
  have HB2 := Lh (bthen HB1.out hb2)
  clear hl2 hd2 hv2 hb2 HB1
  go_wp2_with fail
  refine (times_calls n1 n2 l1 l2 H1.out.1 H2.out.1 H1.out.2.1 H2.out.2.1 ?_ _).mono ?_
  · have := mag_prod (n := n1) (m := n2) H1.out.2.1 H2.out.2.1 9223372036854775807 9223372036854775807 (by rw [H1.out.2.2]; omega) (by rw [H2.out.2.2]; omega)
    rw [p8]; omega
  rintro e w3 ⟨u, rfl, ⟨n3, l3, rfl, hl3, hd3, hv3⟩, hb3⟩
  rw [H1.out.2.2, H2.out.2.2] at hv3
  have H3 := Lh (And.intro hl3 (And.intro hd3 hv3))
  have HB3 := Lh (bthen HB2.out hb3)
  clear hl3 hd3 hv3 hb3 HB2
  go_wp2_with fail
  refine (down_calls n3 l3 c H3.out.1 H3.out.2.1 hc0 c2 ?_ _).mono ?_
  · have := mag_wval (n := n3) H3.out.2.1; have := H3.out.2.2; have := HQ.out; omega
  rintro e w4 ⟨rfl, hb4⟩
  rw [H3.out.2.2]
  have HB4 := Lh (bthen HB3.out hb4)
  clear hb4 HB3
  go_wp2_with fail
  refine (tells_calls v (a * b / c) hfit.out _).mono ?_
  rintro e w5 ⟨rfl, rfl⟩
  go_wp2
  go_ret
  exact ⟨rfl, HB4.out⟩
set_option maxHeartbeats 2000000 in
theorem wdiv_calls (v : Value) (a c : Int) (ha : fits a) (hc : fits c) (hc0 : 0 < c) (hq : (a * 4294967296).natAbs ≤ 4611686018427387902 * c) (w : World) :
    Calls Try.prog 160 #[v, .int .i64 a, .int .i64 c] w fun e w' => e = .returned (.int .i64 (a * 4294967296 / c)) ∧ Below w.heap.size w w' := by
  have H := Lh (wratio_calls v a 4294967296 c ha (by unfold fits; decide) hc hc0 hq)
  clear ha hc hc0 hq
  go_enter Try.func160, Try.ntmps160
  go_wp2_with fail
  refine (H.out _).mono ?_
  rintro e w1 ⟨rfl, hb1⟩
  go_wp2
  go_ret
  exact ⟨rfl, hb1⟩
end Go.Proofs.Ytckdhahceelckaa.G
namespace Go.Proofs.Ytckdhahceelckaa.G
open Go.RowKit Go.Proofs.YtckdhahceelckaaW.PrintWords Go.Proofs.YtckdhahceelckaaW.PrintLast Go.Proofs.YtckdhahceelckaaW.PrintMore
attribute [local go_sem] max2_mx min2_mn max_two min_two max_three min_three max_four min_four
set_option linter.unusedVariables false
set_option linter.unusedSimpArgs false
/-- the sum of the products -/
def dotL : List Int → List Int → Int
  | x :: l, y :: m => x * y + dotL l m
  | _, _ => 0
theorem dotL_snoc : ∀ (l m : List Int) (k : Nat) (h : k < l.length) (h' : k < m.length), dotL (l.take (k + 1)) (m.take (k + 1)) = dotL (l.take k) (m.take k) + l[k] * m[k]
  | x :: l, y :: m, 0, _, _ => by simp [dotL]
  | x :: l, y :: m, k + 1, h, h' => by
    have := dotL_snoc l m k (by simpa using h) (by simpa using h')
    simp only [List.take_succ_cons, dotL, List.getElem_cons_succ, this]; omega
theorem fits_mul {x y : Int} (hx : fits x) (hy : fits y) : (x * y).natAbs ≤ 21267647932558653957237540927630737409 := by
  rw [Int.natAbs_mul]
  obtain ⟨a, b⟩ := hx
  obtain ⟨c, d⟩ := hy
  exact Nat.mul_le_mul (show x.natAbs ≤ 4611686018427387903 by omega) (show y.natAbs ≤ 4611686018427387903 by omega)
theorem dotL_bd : ∀ (l m : List Int), (∀ x ∈ l, fits x) → (∀ x ∈ m, fits x) → (dotL l m).natAbs ≤ l.length * 21267647932558653957237540927630737409
  | [], _, _, _ => by simp [dotL]
  | x :: l, [], _, _ => by simp [dotL]
  | x :: l, y :: m, h1, h2 => by
    have a := dotL_bd l m (fun z hz => h1 z (.tail _ hz)) (fun z hz => h2 z (.tail _ hz))
    have b := fits_mul (h1 x (.head _)) (h2 y (.head _))
    simp only [dotL, List.length_cons]; omega
theorem bd8 {d n C : Nat} (h1 : d ≤ n * C) (h : n ≤ 8) : d ≤ 8 * C := Nat.le_trans h1 (Nat.mul_le_mul_right _ h)
theorem rd1 {w : World} {b o : Nat} {l : List Int} {k : Nat} (h : RdI w (some ⟨b, o, none⟩) l) (hk : k < l.length) : w.cell? ⟨b, o + k, none⟩ = some (.int .i64 l[k]) := by
  obtain ⟨b', o', e, _, hc⟩ := h.get k hk
  simp only [Option.some.injEq, Addr.mk.injEq, and_true] at e
  obtain ⟨rfl, rfl⟩ := e
  exact hc
theorem sum_m1 {n1 n2 : Bool} {l1 l2 : List Int} {x y : Int} (h1 : l1.length = 8 ∧ digs l1 ∧ wval n1 l1 = x) (h2 : l2.length = 8 ∧ digs l2 ∧ wval n2 l2 = y) (hx : fits x) (hy : fits y) : mag l1 * mag l2 < 16777216 ^ 8 := by
  obtain ⟨a, b⟩ := hx
  obtain ⟨c, d⟩ := hy
  have := mag_prod (n := n1) (m := n2) h1.2.1 h2.2.1 4611686018427387903 4611686018427387903 (by rw [h1.2.2]; omega) (by rw [h2.2.2]; omega)
  rw [p8]; omega
theorem sum_m2 {n n3 : Bool} {o l3 : List Int} {x y s : Int} (h : o.length = 8 ∧ digs o ∧ wval n o = s) (h3 : l3.length = 8 ∧ digs l3 ∧ wval n3 l3 = x * y) (hx : fits x) (hy : fits y) (hb : s.natAbs ≤ 8 * 21267647932558653957237540927630737409) : mag o + mag l3 < 16777216 ^ 8 := by
  have a := mag_wval (n := n) h.2.1
  have b := mag_wval (n := n3) h3.2.1
  have c := fits_mul hx hy
  rw [h.2.2] at a
  rw [h3.2.2] at b
  rw [p8]; omega
set_option maxHeartbeats 4000000 in
set_option maxRecDepth 100000 in
theorem sum_calls (l m : List Int) (A B : Option Addr) (c d : Nat) (w : World) (hA : RdI w A l) (hB : RdI w B m) (hlm : m.length = l.length) (h8 : l.length ≤ 8) (hc : l.length ≤ c) (hd : m.length ≤ d) (hf : ∀ x ∈ l, fits x) (hg : ∀ x ∈ m, fits x) :
    Calls Try.prog 176 #[.slice A l.length c, .slice B l.length d] w (OfPost (dotL l m) w) := by
  have HA := Lh hA
  have HB := Lh hB
  have HLM := Lh hlm
  have HF := Lh hf
  have HG := Lh hg
  obtain ⟨N, hN⟩ : ∃ N, l.length = N := ⟨_, rfl⟩
  have HN := Lh hN
  rw [hN] at h8 hc ⊢
  have hd' : N ≤ d := by omega
  clear hA hB hlm hf hg hN hd
  have HR := Lh ((Wd.new w false zs8).alloc (.cells (aW false zs8) 169))
  have HO := Wd.new (w.alloc (.cells (aW false zs8) 169)) false zs8
  rw [World.size_alloc] at HO
  have HO := Lh HO
  have HW := Lh (((Below.refl _ w).alloc (Nat.le_refl _) (.cells (aW false zs8) 169)).alloc (by simp) (.cells (aW false zs8) 169))
  go_enter Try.func176, Try.ntmps176
  go_wp2
  go_loopw [6] (fun v6 wr => ∃ (k : Nat) (n : Bool) (o : List Int), k ≤ N ∧ v6 = .int .i64 k ∧ Hid (o.length = 8 ∧ digs o ∧ wval n o = dotL (l.take k) (m.take k)) ∧ Hid (Wd wr w.heap.size false zs8) ∧ Hid (Wd wr (w.heap.size + 1) n o) ∧ Hid (Below w.heap.size w wr)) (fun i _ => N - (intOf i).toNat)
  case atStart => exact ⟨0, false, zs8, by omega, rfl, Lh ⟨rfl, zs8_ok.2.1, by simp [wval, zs8_ok.2.2, dotL]⟩, HR, HO, HW⟩
  case round =>
    clear HR HO HW
    obtain ⟨k, n, o, hk, rfl, hP, hR, hO, hW⟩ := hrel
    by_cases hkN : k < N
    · have hlt : k < l.length := by rw [HN.out]; exact hkN
      have hlt2 : k < m.length := by rw [HLM.out]; exact hlt
      have hA := Lh (HA.out.below hW.out)
      have hB := Lh (HB.out.below hW.out)
      obtain ⟨ba, oa, rfl, _, _⟩ := hA.out.get k hlt
      obtain ⟨bb, ob, rfl, _, _⟩ := hB.out.get k hlt2
      have hxx : fits l[k] := HF.out _ (List.getElem_mem _)
      have hyy : fits m[k] := HG.out _ (List.getElem_mem _)
      have hS := dotL_snoc l m k hlt hlt2
      have hbd := Lh (bd8 (dotL_bd (l.take k) (m.take k) (fun x hx => HF.out x (List.mem_of_mem_take hx)) (fun x hx => HG.out x (List.mem_of_mem_take hx))) (show (l.take k).length ≤ 8 by rw [List.length_take]; omega))
      obtain ⟨x, hx⟩ : ∃ x, l[k] = x := ⟨_, rfl⟩
      obtain ⟨y, hy⟩ : ∃ y, m[k] = y := ⟨_, rfl⟩
      rw [hx] at hxx hS
      rw [hy] at hyy hS
      have hx := Lh hx
      have hy := Lh hy
      have hS := Lh hS
      obtain ⟨q1, q2⟩ := id hxx
      obtain ⟨q3, q4⟩ := id hyy
      have hO := Lh hO.out.drew
      have hR := Lh hR.out.drew
      have hW := Lh (pw_below_drewN hW.out 1)
      have hA := Lh (HA.out.below hW.out)
      have hB := Lh (HB.out.below hW.out)
      obtain ⟨z0, z1, z2, z3, z4, z5, z6, z7, z8⟩ := hO.out.all
      have cx := rd1 hA.out hlt
      have cy := rd1 hB.out hlt2
      rw [hx.out] at cx
      rw [hy.out] at cy
      have hkN1 : (k : Int) < (N : Int) := by omega
      go_wp2_with fail
      refine start_ (n := 14) (S := fun w' => w'.cell? ⟨w.heap.size + 1, 0, none⟩ = some (.bool n) ∧ w'.cell? ⟨w.heap.size + 1, 1, none⟩ = some (.int .i64 (dg o 0)) ∧ w'.cell? ⟨w.heap.size + 1, 2, none⟩ = some (.int .i64 (dg o 1)) ∧ w'.cell? ⟨w.heap.size + 1, 3, none⟩ = some (.int .i64 (dg o 2)) ∧ w'.cell? ⟨w.heap.size + 1, 4, none⟩ = some (.int .i64 (dg o 3)) ∧ w'.cell? ⟨w.heap.size + 1, 5, none⟩ = some (.int .i64 (dg o 4)) ∧ w'.cell? ⟨w.heap.size + 1, 6, none⟩ = some (.int .i64 (dg o 5)) ∧ w'.cell? ⟨w.heap.size + 1, 7, none⟩ = some (.int .i64 (dg o 6)) ∧ w'.cell? ⟨w.heap.size + 1, 8, none⟩ = some (.int .i64 (dg o 7)) ∧ w'.cell? ⟨ba, oa + k, none⟩ = some (.int .i64 x) ∧ w'.cell? ⟨bb, ob + k, none⟩ = some (.int .i64 y)) (ds := [13]) (MT 0 14) (by kernel_rfl) rfl rfl ⟨z0, z1, z2, z3, z4, z5, z6, z7, z8, cx, cy⟩ (fun hHeld => ?_)
      refine pu_ 1 14 (h := ?_)
      refine pu_ 2 15 (h := ?_)
      refine pu_ 3 16 (h := ?_)
      refine pu_ 6 19 (h := ?_)
      refine pu_ 7 20 (h := ?_)
      refine pu_ 8 21 (h := ?_)
      refine take_ (i := 0) (N := some 13) (v := ?_) (a' := ?_) #[true, true, true, true, false, false, true, true, true, false, false, false, false, false] rfl rfl (by kernel_rfl) (fun _ _ _ h => h) (Or.inl ⟨by rfl, ?_⟩) (by assumption) ?_ ?_
      rotate_left
      · rintro w' ⟨s0, s1, s2, s3, s4, s5, s6, s7, s8, s9, s10⟩
        go_simp
        with_reducible rfl
      rotate_left
      · simp only [Act.put, List.setIfInBounds_toArray, List.set_cons_zero, List.set_cons_succ]
        rfl
      refine take_ (i := 4) (N := some 17) (v := ?_) (a' := ?_) #[true, true, true, true, true, false, true, true, true, false, false, false, false, false] rfl rfl (by kernel_rfl) (fun _ _ _ h => h) (Or.inl ⟨by rfl, ?_⟩) (by assumption) ?_ ?_
      rotate_left
      · rintro w' ⟨s0, s1, s2, s3, s4, s5, s6, s7, s8, s9, s10⟩
        go_simp
        with_reducible rfl
      rotate_left
      · simp only [Act.put, List.setIfInBounds_toArray, List.set_cons_zero, List.set_cons_succ]
        rfl
      refine take_ (i := 9) (N := some 22) (v := ?_) (a' := ?_) #[true, true, true, true, true, false, true, true, true, true, false, false, false, false] rfl rfl (by kernel_rfl) (fun _ _ _ h => h) (Or.inl ⟨by rfl, ?_⟩) (by assumption) ?_ ?_
      rotate_left
      · rintro w' ⟨s0, s1, s2, s3, s4, s5, s6, s7, s8, s9, s10⟩
        go_simp
        with_reducible rfl
      rotate_left
      · simp only [Act.put, List.setIfInBounds_toArray, List.set_cons_zero, List.set_cons_succ]
        rfl
      refine on_ 5 (some 18) (h := fun K hK => ?_)
      refine goes_ Try.func152 (by kernel_rfl) rfl #[.int .i64 x] (by rfl) rfl rfl (by first | rfl | (simp only [List.map_toArray, List.map_cons, List.map_nil]; rfl)) ?_
      with_reducible refine (of_calls x (by omega) (by omega) _).mono ?_
      rintro e w1 ⟨u, rfl, ⟨n1, l1, rfl, hl1, hd1, hv1⟩, hb⟩
      have HOw1 := Lh (hO.out.below hb)
      have HRw1 := Lh (hR.out.below hb)
      have HWw1 := Lh (bthen hW.out hb)
      have HAw1 := Lh (hA.out.below hb)
      have HBw1 := Lh (hB.out.below hb)
      obtain ⟨z0, z1, z2, z3, z4, z5, z6, z7, z8⟩ := HOw1.out.all
      have cx := rd1 HAw1.out hlt
      rw [hx.out] at cx
      have cy := rd1 HBw1.out hlt2
      rw [hy.out] at cy
      have P1 := Lh (And.intro hl1 (And.intro hd1 hv1))
      clear hl1 hd1 hv1
      clear hb
      refine ⟨_, rfl, ?_⟩
      refine hK.out _ _ ⟨z0, z1, z2, z3, z4, z5, z6, z7, z8, cx, cy⟩ (fun hHeld => ?_)
      clear hK K
      refine no_ (h := ?_)
      refine on_ 10 (some 23) (h := fun K hK => ?_)
      refine goes_ Try.func152 (by kernel_rfl) rfl #[.int .i64 y] (by rfl) rfl rfl (by first | rfl | (simp only [List.map_toArray, List.map_cons, List.map_nil]; rfl)) ?_
      with_reducible refine (of_calls y (by omega) (by omega) _).mono ?_
      rintro e w2 ⟨u, rfl, ⟨n2, l2, rfl, hl2, hd2, hv2⟩, hb⟩
      have HOw2 := Lh (HOw1.out.below hb)
      have HRw2 := Lh (HRw1.out.below hb)
      have HWw2 := Lh (bthen HWw1.out hb)
      have HAw2 := Lh (HAw1.out.below hb)
      have HBw2 := Lh (HBw1.out.below hb)
      obtain ⟨z0, z1, z2, z3, z4, z5, z6, z7, z8⟩ := HOw2.out.all
      have cx := rd1 HAw2.out hlt
      rw [hx.out] at cx
      have cy := rd1 HBw2.out hlt2
      rw [hy.out] at cy
      have P2 := Lh (And.intro hl2 (And.intro hd2 hv2))
      clear hl2 hd2 hv2
      clear hb
      refine ⟨_, rfl, ?_⟩
      refine hK.out _ _ ⟨z0, z1, z2, z3, z4, z5, z6, z7, z8, cx, cy⟩ (fun hHeld => ?_)
      clear hK K
      refine no_ (h := ?_)
      refine on_ 11 (some 24) (h := fun K hK => ?_)
      refine goes_ Try.func151 (by kernel_rfl) rfl #[.agg (aW n1 l1), .agg (aW n2 l2)] (by rfl) rfl rfl (by first | rfl | (simp only [List.map_toArray, List.map_cons, List.map_nil]; rfl)) ?_
      with_reducible refine (times_calls n1 n2 l1 l2 P1.out.1 P2.out.1 P1.out.2.1 P2.out.2.1 (sum_m1 P1.out P2.out hxx hyy) _).mono ?_
      rintro e w3 ⟨u, rfl, ⟨n3, l3, rfl, hl3, hd3, hv3⟩, hb⟩
      have HOw3 := Lh (HOw2.out.below hb)
      have HRw3 := Lh (HRw2.out.below hb)
      have HWw3 := Lh (bthen HWw2.out hb)
      have HAw3 := Lh (HAw2.out.below hb)
      have HBw3 := Lh (HBw2.out.below hb)
      obtain ⟨z0, z1, z2, z3, z4, z5, z6, z7, z8⟩ := HOw3.out.all
      have cx := rd1 HAw3.out hlt
      rw [hx.out] at cx
      have cy := rd1 HBw3.out hlt2
      rw [hy.out] at cy
      rw [P1.out.2.2, P2.out.2.2] at hv3
      have P3 := Lh (And.intro hl3 (And.intro hd3 hv3))
      clear hl3 hd3 hv3
      clear hb
      refine ⟨_, rfl, ?_⟩
      refine hK.out _ _ ⟨z0, z1, z2, z3, z4, z5, z6, z7, z8, cx, cy⟩ (fun hHeld => ?_)
      clear hK K
      refine no_ (h := ?_)
      refine on_ 12 (some 25) (h := fun K hK => ?_)
      refine goes_ Try.func179 (by kernel_rfl) rfl #[.agg (aW n o), .agg (aW n3 l3)] (by rfl) rfl rfl (by first | rfl | (simp only [List.map_toArray, List.map_cons, List.map_nil]; rfl)) ?_
      with_reducible refine (plus_calls n n3 o l3 hP.out.1 P3.out.1 hP.out.2.1 P3.out.2.1 (sum_m2 hP.out P3.out hxx hyy hbd.out) _).mono ?_
      rintro e w4 ⟨u, rfl, ⟨n4, l4, rfl, hl4, hd4, hv4⟩, hb⟩
      have HOw4 := Lh (HOw3.out.below hb)
      have HRw4 := Lh (HRw3.out.below hb)
      have HWw4 := Lh (bthen HWw3.out hb)
      have HAw4 := Lh (HAw3.out.below hb)
      have HBw4 := Lh (HBw3.out.below hb)
      obtain ⟨z0, z1, z2, z3, z4, z5, z6, z7, z8⟩ := HOw4.out.all
      have cx := rd1 HAw4.out hlt
      rw [hx.out] at cx
      have cy := rd1 HBw4.out hlt2
      rw [hy.out] at cy
      rw [hP.out.2.2, P3.out.2.2] at hv4
      have P4 := Lh (And.intro hl4 (And.intro hd4 hv4))
      clear hl4 hd4 hv4
      obtain ⟨f0, f1, f2, f3, f4, f5, f6, f7, f8⟩ := HOw4.out.fzs
      clear hb
      refine ⟨_, rfl, ?_⟩
      refine hK.out _ _ ⟨z0, z1, z2, z3, z4, z5, z6, z7, z8, cx, cy⟩ (fun hHeld => ?_)
      clear hK K
      refine no_ (h := ?_)
      refine last_ (i := 13) (N := none) (MT 14 0) rfl rfl (by kernel_rfl) (by decide) (fun K hK => ?_)
      refine skip_ (w1 := ?_) (by rfl) rfl ?_ ?_
      rotate_left
      · go_simp
        rfl
      refine hK.out _ _ ?_
      clear hK K
      refine done_ (by kernel_rfl) ?_
      have hN := blk9_set HOw4.out n4 l4
      have hR' := (set9_far (w := w4) (g := w.heap.size + 1) (k := w.heap.size) (by omega) (.bool n4) (.int .i64 (dg l4 0)) (.int .i64 (dg l4 1)) (.int .i64 (dg l4 2)) (.int .i64 (dg l4 3)) (.int .i64 (dg l4 4)) (.int .i64 (dg l4 5)) (.int .i64 (dg l4 6)) (.int .i64 (dg l4 7))).trans HRw4.out
      have hW' := below_set9 HWw4.out (g := w.heap.size + 1) (by omega) (.bool n4) (.int .i64 (dg l4 0)) (.int .i64 (dg l4 1)) (.int .i64 (dg l4 2)) (.int .i64 (dg l4 3)) (.int .i64 (dg l4 4)) (.int .i64 (dg l4 5)) (.int .i64 (dg l4 6)) (.int .i64 (dg l4 7))
      unfold set9 at hN hR' hW'
      have hN := Lh hN
      have hR' := Lh hR'
      have hW' := Lh hW'
      have hP' : Hid (l4.length = 8 ∧ digs l4 ∧ wval n4 l4 = dotL (l.take (k + 1)) (m.take (k + 1))) := Lh ⟨P4.out.1, P4.out.2.1, by rw [P4.out.2.2, hS.out]⟩
      go_wp2
      go_roundw
      case rel => exact ⟨k + 1, n4, l4, by omega, by go_num, hP', hR', hN, hW'⟩
      case measure => simp [intOf]; omega
    · obtain rfl : k = N := by omega
      obtain ⟨z0, z1, z2, z3, z4, z5, z6, z7, z8⟩ := hO.out.all
      obtain ⟨x0, x1, x2, x3, x4, x5, x6, x7, x8⟩ := hR.out.all
      obtain ⟨f0, f1, f2, f3, f4, f5, f6, f7, f8⟩ := hR.out.fzs
      have hv : WV (.agg (aW n o)) (dotL l m) := ⟨n, o, rfl, hP.out.1, hP.out.2.1, by rw [hP.out.2.2, List.take_of_length_le (by rw [HN.out]; omega), List.take_of_length_le (by rw [HLM.out, HN.out]; omega)]⟩
      have HS := blk9_set hR.out n o
      have HW := below_set9 hW.out (Nat.le_refl _) (.bool n) (.int .i64 (dg o 0)) (.int .i64 (dg o 1)) (.int .i64 (dg o 2)) (.int .i64 (dg o 3)) (.int .i64 (dg o 4)) (.int .i64 (dg o 5)) (.int .i64 (dg o 6)) (.int .i64 (dg o 7))
      obtain ⟨V, hV⟩ : ∃ V, set9 wr w.heap.size (.bool n) (.int .i64 (dg o 0)) (.int .i64 (dg o 1)) (.int .i64 (dg o 2)) (.int .i64 (dg o 3)) (.int .i64 (dg o 4)) (.int .i64 (dg o 5)) (.int .i64 (dg o 6)) (.int .i64 (dg o 7)) = V := ⟨_, rfl⟩
      rw [hV] at HS HW
      obtain ⟨t0, t1, t2, t3, t4, t5, t6, t7, t8⟩ := HS.all
      unfold set9 at hV
      have HV := Lh hV
      have HW := Lh HW
      have hv := Lh hv
      clear hV HS
      go_wp2
      rw [HV.out]
      exact bodyPost_ret (v := .agg (aW n o)) (by simp [results, Try.results176, go_sem, t0, t1, t2, t3, t4, t5, t6, t7, t8]) rfl ⟨_, rfl, hv.out, HW.out⟩
end Go.Proofs.Ytckdhahceelckaa.G
namespace Go.Proofs.Ytckdhahceelckaa.G
open Go.RowKit Go.Proofs.YtckdhahceelckaaW.PrintWords Go.Proofs.YtckdhahceelckaaW.PrintLast Go.Proofs.YtckdhahceelckaaW.PrintMore
attribute [local go_sem] max2_mx min2_mn max_two min_two max_three min_three max_four min_four
set_option linter.unusedVariables false
set_option linter.unusedSimpArgs false
theorem dotL_self : ∀ (l : List Int), 0 ≤ dotL l l
  | [] => by simp [dotL]
  | x :: l => by have := dotL_self l; have := sq_nonneg x; simp only [dotL]; omega
theorem rtI_fits {v : Int} (h0 : 0 ≤ v) (h : v < 21267647932558653966460912964485513216) : fits (rtI v) := by
  obtain ⟨a, b, _⟩ := rtI_spec h0
  refine ⟨by omega, ?_⟩
  rcases Int.le_total (rtI v) 4611686018427387903 with h1 | h1
  · exact h1
  · rcases Int.le_total (rtI v) 4611686018427387903 with h3 | h3
    · exact h3
    · by_cases h4 : rtI v = 4611686018427387903
      · omega
      · have := Int.mul_le_mul (show (4611686018427387904 : Int) ≤ rtI v by omega) (show (4611686018427387904 : Int) ≤ rtI v by omega) (by decide) (by omega)
        omega
set_option maxHeartbeats 2000000 in
theorem norm_calls (v : Value) (l : List Int) (A : Option Addr) (c : Nat) (w : World) (hA : RdI w A l) (h8 : l.length ≤ 8) (hc : l.length ≤ c) (hf : ∀ x ∈ l, fits x) (hs : dotL l l < 21267647932558653966460912964485513216) :
    Calls Try.prog 159 #[v, .slice A l.length c] w fun e w' => e = .returned (.int .i64 (rtI (dotL l l))) ∧ Below w.heap.size w w' := by
  have HG := Lh (great_calls l A c w hA hc (by omega) hf)
  have HS := Lh (sum_calls l l A A c c w hA hA rfl h8 hc hc hf hf)
  have HF := Lh (rtI_fits (dotL_self l) hs)
  have H0 := Lh (dotL_self l)
  have H1 := Lh hs
  have hd : decide ((8 : Int) < (l.length : Int)) = false := by simp; omega
  have hd2 : decide (8 < l.length) = false := by simp; omega
  clear hA hf hs
  obtain ⟨N, hN⟩ : ∃ N, l.length = N := ⟨_, rfl⟩
  rw [hN] at HG HS hd hd2 h8 hc ⊢
  clear hN
  go_enter Try.func159, Try.ntmps159
  go_wp2_with fail
  refine HG.out.mono ?_
  rintro e w1 ⟨rfl, rfl⟩
  clear HG
  go_wp2_with fail
  refine HS.out.mono ?_
  rintro e w2 ⟨u, rfl, ⟨n, o, rfl, ho, hdg, hv⟩, hb⟩
  have hr := rootof_calls n o ho hdg (by rw [hv]; exact H0.out) (by rw [hv]; exact H1.out) w2
  rw [hv] at hr
  have HR := Lh hr
  have HB := Lh hb
  clear hr hb hv ho hdg HS hd hd2
  go_wp2_with fail
  refine HR.out.mono ?_
  rintro e w3 ⟨rfl, hb3⟩
  have HB3 := Lh (bthen HB.out hb3)
  clear hb3 HR HB
  go_wp2_with fail
  refine (tells_calls v _ HF.out _).mono ?_
  rintro e w4 ⟨rfl, rfl⟩
  go_wp2
  go_ret
  exact ⟨rfl, HB3.out⟩
theorem fdiv_fits {s : Int} (h : s.natAbs ≤ 4611686018427387902 * 4294967296) : fits (s / 4294967296) := by unfold fits; omega
set_option maxHeartbeats 2000000 in
theorem wdot_calls (v : Value) (l m : List Int) (A B : Option Addr) (c d : Nat) (w : World) (hA : RdI w A l) (hB : RdI w B m) (hlm : m.length = l.length) (h8 : l.length ≤ 8) (hc : l.length ≤ c) (hdd : m.length ≤ d) (hf : ∀ x ∈ l, fits x) (hg : ∀ x ∈ m, fits x) (hs : (dotL l m).natAbs ≤ 4611686018427387902 * 4294967296) :
    Calls Try.prog 163 #[v, .slice A l.length c, .slice B l.length d] w fun e w' => e = .returned (.int .i64 (dotL l m / 4294967296)) ∧ Below w.heap.size w w' := by
  have HG := Lh (great_calls l A c w hA hc (by omega) hf)
  have hg' := great_calls m B d w hB hdd (by omega) hg
  rw [hlm] at hg'
  have HG2 := Lh hg'
  have HS := Lh (sum_calls l m A B c d w hA hB hlm h8 hc hdd hf hg)
  have HF := Lh (fdiv_fits hs)
  have H1 := Lh hs
  clear hA hB hf hg hs hg' hlm hdd
  obtain ⟨N, hN⟩ : ∃ N, l.length = N := ⟨_, rfl⟩
  rw [hN] at HG HG2 HS h8 hc ⊢
  clear hN
  have hd : decide ((8 : Int) < (N : Int)) = false := by simp; omega
  have hd2 : decide (8 < N) = false := by simp; omega
  have hd3 : ((N : Int) != (N : Int)) = false := by simp
  go_enter Try.func163, Try.ntmps163
  go_wp2_with fail
  refine HG.out.mono ?_
  rintro e w1 ⟨rfl, rfl⟩
  clear HG
  go_wp2_with fail
  refine HG2.out.mono ?_
  rintro e w1 ⟨rfl, rfl⟩
  clear HG2
  go_wp2_with fail
  refine HS.out.mono ?_
  rintro e w2 ⟨u, rfl, ⟨n, o, rfl, ho, hdg, hv⟩, hb⟩
  have hmm := mag_wval (n := n) hdg
  have hr := down_calls n o 4294967296 ho hdg (by decide) (by decide) (by have := H1.out; rw [hv] at hmm; omega) w2
  rw [hv] at hr
  have HR := Lh hr
  have HB := Lh hb
  clear hr hb hv ho hdg HS hd hd2 hmm
  go_wp2_with fail
  refine HR.out.mono ?_
  rintro e w3 ⟨rfl, hb3⟩
  have HB3 := Lh (bthen HB.out hb3)
  clear hb3 HR HB
  go_wp2_with fail
  refine (tells_calls v _ HF.out _).mono ?_
  rintro e w4 ⟨rfl, rfl⟩
  go_wp2
  go_ret
  exact ⟨rfl, HB3.out⟩
/-- a store of what lies there -/
theorem setCell_id (w : World) (g o : Nat) (v : Value) (h : w.cell? ⟨g, o, none⟩ = some v) : w.setCell ⟨g, o, none⟩ v = w := by
  have e : (w.setCell ⟨g, o, none⟩ v).heap = w.heap := by
    unfold World.setCell
    apply Array.ext_getElem?
    intro i
    simp only [Option.isSome_none, Bool.false_eq_true, if_false]
    rw [Array.getElem?_modify]
    split
    · rename_i he
      unfold World.cell? at h
      rw [← he]
      simp only [Option.isSome_none, Bool.false_eq_true, if_false] at h
      cases ho : w.heap[g]? with
      | none => rfl
      | some ob =>
        rw [ho] at h
        cases ob with
        | cells cs t fr =>
          simp only [Option.map_some, Option.some.injEq, Obj.cells.injEq, and_true] at h ⊢
          apply Array.ext_getElem?
          intro j
          rw [Array.getElem?_setIfInBounds]
          split
          · rename_i hj
            rw [← hj, h]
            have := (Array.getElem?_eq_some_iff.1 h).1
            simp [this]
          · rfl
        | _ => simp at h
    · rfl
  have e2 : w.setCell ⟨g, o, none⟩ v = { w with heap := (w.setCell ⟨g, o, none⟩ v).heap } := rfl
  rw [e2, e]
set_option maxHeartbeats 1000000 in
theorem bare_w_calls (w : World) : Calls Try.prog 158 #[] w fun e w' => e = .returned (.pointer (some ⟨w.heap.size, 0, none⟩)) ∧ w' = w.alloc (.cells #[.bool false] 85) := by
  go_enter Try.func158, Try.ntmps158
  go_wp2
  go_ret
  exact ⟨rfl, rfl⟩
set_option maxHeartbeats 1000000 in
theorem done_calls (g h : Nat) (w : World) (h1 : w.cell? ⟨g, 0, none⟩ = some (.bool false)) (f1 : w.frozen? ⟨g, 0, none⟩ = false) (h2 : w.cell? ⟨h, 0, none⟩ = some (.bool false)) :
    Calls Try.prog 161 #[.pointer (some ⟨g, 0, none⟩), .pointer (some ⟨h, 0, none⟩)] w fun e w' => e = .returned (.bool true) ∧ w' = w := by
  have hs := setCell_id w _ _ _ h1
  go_enter Try.func161, Try.ntmps161
  go_wp2
  go_ret
  exact ⟨rfl, by simp [*]⟩
end Go.Proofs.Ytckdhahceelckaa.G
namespace Go.Proofs.Ytckdhahceelckaa.G
open Go.RowKit Go.Proofs.YtckdhahceelckaaW.PrintWords Go.Proofs.YtckdhahceelckaaW.PrintLast Go.Proofs.YtckdhahceelckaaW.PrintMore
attribute [local go_sem] max2_mx min2_mn max_two min_two max_three min_three max_four min_four
attribute [local go_sem high] eqA23
set_option linter.unusedVariables false
set_option linter.unusedSimpArgs false
def OwnP (w : World) (base : Nat) (v : Value) (l : List P3) : Prop := w.ownsRow base 23 3 v l.length (l.flatMap fun p => [.int .i64 p.x, .int .i64 p.y, .int .i64 p.z])
def GrowPost (w : World) (e : Ending) (w' : World) : Prop := ∃ v, e = .returned v ∧ OwnP w' w.heap.size v [] ∧ Below w.heap.size w w'
set_option maxHeartbeats 1000000 in
set_option maxRecDepth 100000 in
theorem grow_calls (n : Nat) (w : World) (hn : n ≤ 100000) :
    Calls Try.prog 165 #[.slice none 0 0, .int .i64 n] w (GrowPost w) := by
  obtain ⟨i0, hi0, hz0, hsz0, hby0⟩ := info_parts info23
  by_cases h0 : n = 0
  · subst h0
    go_enter Try.func165, Try.ntmps165
    go_wp2
    go_ret
    exact ⟨_, rfl, World.ownsRow_nil _ _ _ _, Below.refl _ _⟩
  · have hap := fun W => Go.Lib.run_append_nil_zeros (P := Try.prog) W 24 3 24 23 i0 (.agg #[(.int .i64 0), (.int .i64 0), (.int .i64 0)]) .i64 .i64 Try.underlying24 Try.underlying3 hi0 hz0 n (by omega) (by rw [hsz0]; omega) (by omega) (by rw [hby0]; omega)
    have hpos : (0 : Int) < (n : Int) := by omega
    have hcap : ∀ W : World, n ≤ grownCap W n 0 23 := fun W => grownCap_ge W n 0 23
    have hcap2 : ∀ W : World, grownCap W n 0 23 ≤ maxLen := fun W => grownCap_le_maxLen W n 0 23 (by unfold maxLen; omega)
    have HAP := Lh hap
    have HC := Lh hcap
    have HC2 := Lh hcap2
    clear hap hcap hcap2
    go_enter Try.func165, Try.ntmps165
    go_wp2_with (at_builtin; refine Go.Lib.wpList_append_run _ rfl _ _ _ _ rfl _ _ rfl rfl _ _ (HAP.out _) ?_)
    go_ret
    refine ⟨.slice (some ⟨w.heap.size, 0, none⟩) 0 (grownCap w n 0 23), rfl, ?_, ((Below.refl _ w).alloc (Nat.le_refl _) _).drew⟩
    exact World.ownsRow_made w _ _ (Nat.le_refl _) (HC2.out w) (by simp [size_zeroCells]; have := HC.out w; omega)
end Go.Proofs.Ytckdhahceelckaa.G
namespace Go.Proofs.Ytckdhahceelckaa.G
open Go.RowKit Go.Proofs.YtckdhahceelckaaW.PrintWords Go.Proofs.YtckdhahceelckaaW.PrintLast Go.Proofs.YtckdhahceelckaaW.PrintMore
attribute [local go_sem] max2_mx min2_mn max_two min_two max_three min_three max_four min_four
attribute [local go_sem high] eqA23
set_option linter.unusedVariables false
set_option linter.unusedSimpArgs false
def cells3 (l : List P3) : List Value := l.flatMap fun p => [.int .i64 p.x, .int .i64 p.y, .int .i64 p.z]
theorem cells3_length (l : List P3) : (cells3 l).length = l.length * 3 := by
  induction l with
  | nil => rfl
  | cons p l ih => simp only [cells3, List.flatMap_cons, List.length_append, List.length_cons, List.length_nil] at *; omega
theorem Rd.tail {w : World} {b o : Nat} {p : P3} {l : List P3} (h : Rd w (some ⟨b, o, none⟩) (p :: l)) : Rd w (some ⟨b, o + 3, none⟩) l := fun i q hq => by
  obtain ⟨b', o', e, hb, h1, h2, h3⟩ := h (i + 1) q (by simpa using hq)
  simp only [Option.some.injEq, Addr.mk.injEq, and_true] at e
  obtain ⟨rfl, rfl⟩ := e
  have ee : o + (i + 1) * 3 = o + 3 + i * 3 := by omega
  rw [ee] at h1 h2 h3
  exact ⟨b, o + 3, rfl, hb, h1, h2, h3⟩
theorem Rd.cells {w : World} {b : Nat} : ∀ {l : List P3} {o : Nat}, Rd w (some ⟨b, o, none⟩) l → ∀ (j : Nat) (u : Value), (cells3 l)[j]? = some u → w.cell? ⟨b, o + j, none⟩ = some u
  | [], o, _, j, u, hj => by simp [cells3] at hj
  | p :: l, o, h, j, u, hj => by
    obtain ⟨b', o', e, hb, h1, h2, h3⟩ := h 0 p rfl
    simp only [Option.some.injEq, Addr.mk.injEq, and_true] at e
    obtain ⟨rfl, rfl⟩ := e
    simp only [Nat.zero_mul, Nat.add_zero] at h1 h2 h3
    match j, hj with
    | 0, hj => simp only [cells3, List.flatMap_cons, List.cons_append, List.getElem?_cons_zero, Option.some.injEq] at hj; subst hj; exact h1
    | 1, hj => simp only [cells3, List.flatMap_cons, List.cons_append, List.getElem?_cons_succ, List.getElem?_cons_zero, Option.some.injEq] at hj; subst hj; exact h2
    | 2, hj => simp only [cells3, List.flatMap_cons, List.cons_append, List.getElem?_cons_succ, List.getElem?_cons_zero, Option.some.injEq] at hj; subst hj; exact h3
    | j + 3, hj =>
      have := Rd.cells h.tail j u (by simpa [cells3] using hj)
      rwa [show o + 3 + j = o + (j + 3) from by omega] at this
theorem Rd.of_cells {w : World} {b o : Nat} {l : List P3} (hb : b < w.heap.size) (h : ∀ (j : Nat) (u : Value), (cells3 l)[j]? = some u → w.cell? ⟨b, o + j, none⟩ = some u) : Rd w (some ⟨b, o, none⟩) l := by
  induction l generalizing o with
  | nil => exact Rd.nil _ _
  | cons p l ih =>
    have hl := ih (o := o + 3) (fun j u hj => by have := h (j + 3) u (by simpa [cells3] using hj); rwa [show o + (j + 3) = o + 3 + j from by omega] at this)
    intro i q hq
    cases i with
    | zero =>
      simp only [List.getElem?_cons_zero, Option.some.injEq] at hq
      subst hq
      refine ⟨b, o, rfl, hb, ?_, ?_, ?_⟩
      · simpa using h 0 (.int .i64 p.x) (by simp [cells3])
      · simpa using h 1 (.int .i64 p.y) (by simp [cells3])
      · simpa using h 2 (.int .i64 p.z) (by simp [cells3])
    | succ i =>
      obtain ⟨b', o', e, hb', h1, h2, h3⟩ := hl i q (by simpa using hq)
      simp only [Option.some.injEq, Addr.mk.injEq, and_true] at e
      obtain ⟨rfl, rfl⟩ := e
      rw [show o + 3 + i * 3 = o + (i + 1) * 3 from by omega] at h1 h2 h3
      exact ⟨b, o, rfl, hb, h1, h2, h3⟩
theorem cells3_append (l m : List P3) : cells3 (l ++ m) = cells3 l ++ cells3 m := by simp [cells3]
theorem cells3_one (l : List P3) : ∀ u ∈ cells3 l, u.oneCell' = true := by
  intro u hu
  simp only [cells3, List.mem_flatMap] at hu
  obtain ⟨p, _, hu⟩ := hu
  simp at hu
  rcases hu with rfl | rfl | rfl <;> rfl
theorem add_at (b o j : Nat) : (⟨b, o, none⟩ : Addr).add j = ⟨b, o + j, none⟩ := by unfold Addr.add; split <;> simp_all
theorem OwnP.rd {w : World} {base : Nat} {v : Value} {l : List P3} (h : OwnP w base v l) : ∃ A c, v = .slice A l.length c ∧ l.length ≤ c ∧ Rd w A l ∧ (∀ ad, A = some ad → base ≤ ad.block) := by
  have h0 := h
  obtain ⟨h1, h2⟩ := h
  rcases h2 with ⟨rfl, hn⟩ | ⟨g, cap, cur, rfl, hb, hg, hnc, hm, hsz, ht⟩
  · obtain rfl := List.eq_nil_of_length_eq_zero hn
    exact ⟨none, 0, rfl, Nat.le_refl _, Rd.nil _ _, fun ad e => by cases e⟩
  · refine ⟨some ⟨g, 0, none⟩, cap, rfl, hnc, Rd.of_cells (Array.getElem?_eq_some_iff.1 hg).1 fun j u hj => ?_, fun ad e => by cases e; exact hb⟩
    have := h0.cells (g := g) rfl j u hj
    rwa [add_at] at this
theorem OwnP.nil (w : World) (base : Nat) : OwnP w base (.slice none 0 0) [] := World.ownsRow_nil _ _ _ _
theorem OwnP.grown {w w' : World} {base : Nat} {v : Value} {l : List P3} (h : OwnP w base v l) (hb : Below w.heap.size w w') : OwnP w' base v l := pw_own_below h hb
theorem OwnP.drew {w : World} {base : Nat} {v : Value} {l : List P3} (h : OwnP w base v l) : OwnP w.drew base v l := h
theorem OwnP.base_ {w : World} {base : Nat} {v : Value} {l : List P3} (h : OwnP w base v l) (k : Nat) (hk : v.ownBlock = some k) : base ≤ k := own_base h k hk
section
variable {w : World} {ops : Array Oper} {rest : List Oper} {o : Oper} {a : Act} {Q : Exit → Act → World → Prop}
/-- append(v, xs...) of points -/
theorem append_pts (base : Nat) (hgd : o.guard = none) (s x : Operand) (ho : o.op = .call { callee := .builtin .append, args := #[s, x], argTypes := #[24, 24] })
    (v : Value) (l l2 : List P3) (A : Option Addr) (m c : Nat) (hs : a.eval s = v) (hx : a.eval x = .slice A m c) (hown : OwnP w base v l) (hr : Rd w A l2) (hm : l2.length = m) (hsz : l.length + m ≤ 1000000) (hbase : base ≤ w.heap.size)
    (h : ∀ v' w', OwnP w' base v' (l ++ l2) → w.grownBy w' v.ownBlock → wpList Try.prog ops Q rest (a.put o.dst v') w') : wpList Try.prog ops Q (o :: rest) a w := by
  obtain ⟨i0, hi, hz0, hz1, hz2⟩ := info_parts info23
  cases A with
  | none =>
    have h0 : l2 = [] := by
      cases l2 with
      | nil => rfl
      | cons p l2 => obtain ⟨b, o', e, _⟩ := hr 0 p rfl; cases e
    subst h0
    simp only [List.length_nil] at hm
    subst hm
    refine Go.Lib.wpList_append_run w hgd s x 24 24 ho v (.slice none 0 c) hs hx v w ?_ (h v w (by rw [List.append_nil]; exact hown) (World.grownBy.refl w _))
    rcases hown.2 with ⟨rfl, hn⟩ | ⟨g, cap, cur, rfl, _, _, hnc, _⟩
    · simp [Builtin.append_, run_underlying Try.underlying24, sizeOf, typeInfo, hi, Builtin.lenOf, Builtin.firstCells]
    · simp [Builtin.append_, run_underlying Try.underlying24, sizeOf, typeInfo, hi, Builtin.lenOf, Builtin.firstCells, hnc, storeCells]
  | some ad =>
    have hnews : ∀ j u, (cells3 l2)[j]? = some u → w.cell? (ad.add j) = some u := by
      cases l2 with
      | nil => intro j u hj; simp [cells3] at hj
      | cons p l2 =>
        obtain ⟨b, o', e, _⟩ := hr 0 p rfl
        simp only [Option.some.injEq] at e
        subst e
        intro j u hj
        rw [add_at]
        exact hr.cells j u hj
    refine wpList_append_own w hgd s x 24 ho base 23 i0 _ 3 24 Try.underlying24 hi hz0 hz1 hz2 rfl (by omega) v l.length (cells3 l) hs hown ad m c (cells3 l2) hx (by rw [cells3_length, hm]) hnews (cells3_one l2) (by unfold maxLen; omega) (by omega) hbase ?_
    intro v' w' h1 h2 _
    refine h v' w' ?_ h2
    show w'.ownsRow base 23 3 v' (l ++ l2).length (cells3 (l ++ l2))
    rw [cells3_append, List.length_append, hm]
    exact h1
end
end Go.Proofs.Ytckdhahceelckaa.G
namespace Go.Proofs.Ytckdhahceelckaa.G
open Go.RowKit Go.Proofs.YtckdhahceelckaaW.PrintWords Go.Proofs.YtckdhahceelckaaW.PrintLast Go.Proofs.YtckdhahceelckaaW.PrintMore
attribute [local go_sem] max2_mx min2_mn max_two min_two max_three min_three max_four min_four
attribute [local go_sem high] eqA23
set_option linter.unusedVariables false
set_option linter.unusedSimpArgs false
def csz (n0 n1 k : Nat) : Nat := if k = 0 then 0 else if k = 1 then n0 else n0 + n1
def cpt (l0 l1 : List P3) (k : Nat) : List P3 := if k = 0 then [] else if k = 1 then l0 else l0 ++ l1
def PtsPost (l : List P3) (w : World) (e : Ending) (w' : World) : Prop := ∃ A c, e = .returned (.slice A l.length c) ∧ l.length ≤ c ∧ Rd w' A l ∧ Below w.heap.size w w' ∧ (∀ ad, A = some ad → w.heap.size ≤ ad.block)
set_option maxHeartbeats 2000000 in
set_option maxRecDepth 100000 in
theorem concat_calls (l0 l1 : List P3) (n0 n1 : Nat) (A0 A1 : Option Addr) (c0 c1 g : Nat) (w : World) (hn0 : l0.length = n0) (hn1 : l1.length = n1) (hg0 : w.cell? ⟨g, 0, none⟩ = some (.slice A0 n0 c0)) (hg1 : w.cell? ⟨g, 1, none⟩ = some (.slice A1 n1 c1)) (h0 : Rd w A0 l0) (h1 : Rd w A1 l1) (hb0 : n0 ≤ 40000) (hb1 : n1 ≤ 40000) :
    Calls Try.prog 116 #[.slice (some ⟨g, 0, none⟩) 2 2] w (PtsPost (l0 ++ l1) w) := by
  have H0 := Lh h0
  have H1 := Lh h1
  have N0 := Lh hn0
  have N1 := Lh hn1
  have hgl := World.block_lt_of_cell? w _ hg0
  have HG0 := Lh hg0
  have HG1 := Lh hg1
  clear h0 h1 hn0 hn1 hg0 hg1
  go_enter Try.func116, Try.ntmps116
  go_wp2
  go_loopw [3, 5, 11] (fun v3 v5 v11 wr => ∃ k : Nat, k ≤ 2 ∧ v11 = .int .i64 k ∧ v3 = .int .i64 (csz n0 n1 k) ∧ Below w.heap.size w wr) (fun _ _ i _ => 2 - (intOf i).toNat)
  case atStart => exact ⟨0, by omega, rfl, rfl, Below.refl _ _⟩
  case round =>
    obtain ⟨k, hk, rfl, rfl, hbr⟩ := hrel
    have e0 := (hbr.cell (p := ⟨g, 0, none⟩) hgl).trans HG0.out
    have e1 := (hbr.cell (p := ⟨g, 1, none⟩) hgl).trans HG1.out
    have hc : k = 0 ∨ k = 1 ∨ k = 2 := by omega
    rcases hc with rfl | rfl | rfl
    · simp only [csz, if_true]
      go_wp2
      go_roundw
      case rel => exact ⟨1, by omega, rfl, by simp [csz], hbr⟩
      case measure => simp [intOf]
    · simp only [csz, if_true, if_neg (show ¬ (1 : Nat) = 0 by omega)]
      go_wp2
      go_roundw
      case rel => exact ⟨2, by omega, rfl, by simp [csz], hbr⟩
      case measure => simp [intOf]
    · simp only [csz, if_neg (show ¬ (2 : Nat) = 0 by omega), if_neg (show ¬ (2 : Nat) = 1 by omega)]
      clear e0 e1
      go_wp2_with fail
      have hgr := grow_calls (n0 + n1) wr (by omega)
      rw [Int.natCast_add] at hgr
      refine hgr.mono ?_
      rintro e w2 ⟨v, rfl, hv, hb2⟩
      have hB2 : Below w.heap.size w w2 := bthen hbr hb2
      have hv0 : OwnP w2 w.heap.size v [] := own_weaken hv hbr.size
      clear hgr hv hb2
      go_wp2
      clear hbr
      go_loopw [6, 8, 27] (fun v6 v8 v27 wr => ∃ k : Nat, k ≤ 2 ∧ v27 = .int .i64 k ∧ Hid (OwnP wr w.heap.size v6 (cpt l0 l1 k)) ∧ Hid (Below w.heap.size w wr)) (fun _ _ i _ => 2 - (intOf i).toNat)
      case atStart => exact ⟨0, by omega, rfl, hv0, hB2⟩
      case round =>
        clear hv0 hB2
        obtain ⟨k, hk, rfl, hv, hbr⟩ := hrel
        have hbr2 := hbr.out
        have e0 := (hbr2.cell (p := ⟨g, 0, none⟩) hgl).trans HG0.out
        have e1 := (hbr2.cell (p := ⟨g, 1, none⟩) hgl).trans HG1.out
        have hc : k = 0 ∨ k = 1 ∨ k = 2 := by omega
        rcases hc with rfl | rfl | rfl
        · go_wp2_with (at_builtin; refine append_pts w.heap.size rfl _ _ rfl _ [] l0 A0 _ _ rfl rfl hv.out (H0.out.below hbr2) N0.out (by simp; omega) hbr2.size ?_; intro v2 w3 hv2 hg2)
          go_roundw
          case rel => exact ⟨1, by omega, rfl, hv2, hbr2.grown hg2 hbr2.size (fun k hk => hv.out.base_ k hk)⟩
          case measure => simp [intOf]
        · go_wp2_with (at_builtin; refine append_pts w.heap.size rfl _ _ rfl _ l0 l1 A1 _ _ rfl rfl hv.out (H1.out.below hbr2) N1.out (by rw [N0.out]; omega) hbr2.size ?_; intro v2 w3 hv2 hg2)
          go_roundw
          case rel => exact ⟨2, by omega, rfl, hv2, hbr2.grown hg2 hbr2.size (fun k hk => hv.out.base_ k hk)⟩
          case measure => simp [intOf]
        · clear e0 e1
          go_wp2
          go_ret
          obtain ⟨A, c, rfl, hlc, hrd, hbs⟩ := hv.out.rd
          exact ⟨A, c, rfl, hlc, hrd, hbr2, hbs⟩
end Go.Proofs.Ytckdhahceelckaa.G
