/- What the laws of this claim lean on: contracts of the functions that they reach, and plain lemmas; no condition of its own (part 5 of 6; the texts XR10, XV1, XV2, XV3, XM1, XG10, XG15, XM2, XV4, XV5, XR6, XR7, XR14, XR15, XV6, XV9, XV10, XV11, XM4, XM5, XG8, XG17, XV7, XV12, XV13, XV14, XV19). -/
import Derived.Test.YtckdhahceelckaaKSU4
import Derived.Laws.IdiomCopy
import Derived.Maps.AppendAt
namespace Go.Proofs.Ytckdhahceelckaa.G
open Go.RowKit Go.Proofs.YtckdhahceelckaaW.PrintWords Go.Proofs.YtckdhahceelckaaW.PrintLast Go.Proofs.YtckdhahceelckaaW.PrintMore
set_option linter.unusedVariables false
set_option linter.unusedSimpArgs false
section
variable {w : World} {ops : Array Oper} {rest : List Oper} {o : Oper} {a : Act} {Q : Exit → Act → World → Prop} {K : Act → World → Prop} {N : Option Tmp}
theorem run_append_pts (w : World) (base : Nat) (ty : TypeId) (v : Value) (l l2 : List P3) (A : Option Addr) (m c : Nat) (hown : OwnP w base v l) (hr : Rd w A l2) (hm : l2.length = m) (hsz : l.length + m ≤ 1000000) (hbase : base ≤ w.heap.size) :
    ∃ v' w', (Builtin.append_ #[24, 24] ty #[v, .slice A m c]).run Try.prog w = .ok v' w' ∧ OwnP w' base v' (l ++ l2) ∧ w.grownBy w' v.ownBlock ∧ (v'.ownBlock = v.ownBlock ∨ v'.ownBlock = some w.heap.size) := by
  obtain ⟨i0, hi, hz0, hz1, hz2⟩ := info_parts info23
  cases A with
  | none =>
    have h0 : l2 = [] := by
      cases l2 with
      | nil => rfl
      | cons p l2 => obtain ⟨b, o', e, _⟩ := hr 0 p rfl; cases e
    subst h0
    simp only [List.length_nil] at hm
    subst hm
    refine ⟨v, w, ?_, by rw [List.append_nil]; exact hown, World.grownBy.refl w _, .inl rfl⟩
    rcases hown.2 with ⟨rfl, hn⟩ | ⟨g, cap, cur, rfl, _, _, hnc, _⟩
    · simp [Builtin.append_, run_underlying Try.underlying24, sizeOf, typeInfo, hi, Builtin.lenOf, Builtin.firstCells]
    · simp [Builtin.append_, run_underlying Try.underlying24, sizeOf, typeInfo, hi, Builtin.lenOf, Builtin.firstCells, hnc, storeCells]
  | some ad =>
    have hnews : ∀ j u, (cells3 l2)[j]? = some u → w.cell? (ad.add j) = some u := by
      cases l2 with
      | nil => intro j u hj; simp [cells3] at hj
      | cons p l2 =>
        obtain ⟨b, o', e, _⟩ := hr 0 p rfl
        simp only [Option.some.injEq] at e
        subst e
        intro j u hj
        rw [add_at]
        exact hr.cells j u hj
    obtain ⟨v', w', h0, h1, h2, _, h4⟩ := Go.run_append_own_at (P := Try.prog) w base 24 ty 23 i0 _ 3 24 Try.underlying24 hi hz0 hz1 hz2 rfl (by omega) v l.length (cells3 l) hown ad m c (cells3 l2) (by rw [cells3_length, hm]) hnews (cells3_one l2) (by unfold maxLen; omega) (by omega) hbase
    refine ⟨v', w', h0, ?_, h2, h4⟩
    show w'.ownsRow base 23 3 v' (l ++ l2).length (cells3 (l ++ l2))
    rw [cells3_append, List.length_append, hm]
    exact h1
/-- append of points, where the new row lies told -/
theorem appL_ (base : Nat) (hgd : o.guard = none) (s x : Operand) (ho : o.op = .call { callee := .builtin .append, args := #[s, x], argTypes := #[24, 24] })
    (v : Value) (l l2 : List P3) (A : Option Addr) (m c : Nat) (hs : a.eval s = v) (hx : a.eval x = .slice A m c) (hown : OwnP w base v l) (hr : Rd w A l2) (hm : l2.length = m) (hsz : l.length + m ≤ 1000000) (hbase : base ≤ w.heap.size)
    (h : ∀ v' w', OwnP w' base v' (l ++ l2) → w.grownBy w' v.ownBlock → (v'.ownBlock = v.ownBlock ∨ v'.ownBlock = some w.heap.size) → wpList Try.prog ops Q rest (a.put o.dst v') w') : wpList Try.prog ops Q (o :: rest) a w := by
  obtain ⟨v', w', h0, h1, h2, h3⟩ := run_append_pts w base o.type v l l2 A m c hown hr hm hsz hbase
  exact Go.Lib.wpList_append_run w hgd s x 24 24 ho v (.slice A m c) hs hx v' w' h0 (h v' w' h1 h2 h3)
end
theorem OwnP.rdB2 {w : World} {base : Nat} {v : Value} {l : List P3} (h : OwnP w base v l) : ∃ A c, v = .slice A l.length c ∧ l.length ≤ c ∧ RdB w A l ∧ (∀ ad, A = some ad → base ≤ ad.block) := by
  obtain ⟨A, c, e, h1, h2, h3⟩ := OwnP.rd h
  refine ⟨A, c, e, h1, ⟨h2, fun ad ea => ?_⟩, h3⟩
  subst ea
  exact (World.ownsRow.lt h ad.block (by rw [e]; rfl)).2
/-- a list of the call's own grows; what lay there at its beginning, and what is kept, stays -/
structure CSt (w1 W : World) (v : Value) (l : List P3) (keep : List Nat) : Prop where
  own : OwnP W w1.heap.size v l
  below : Below w1.heap.size w1 W
  ne : ∀ k ∈ keep, v.ownBlock ≠ some k ∧ k < W.heap.size
theorem CSt.start (w1 : World) : CSt w1 w1 (.slice none 0 0) [] [] := ⟨OwnP.nil _ _, Below.refl _ _, by simp⟩
theorem CSt.grown {w1 W W' : World} {v : Value} {l : List P3} {keep : List Nat} (h : CSt w1 W v l keep) (hb : Below W.heap.size W W') : CSt w1 W' v l keep :=
  ⟨h.own.grown hb, bthen h.below hb, fun k hk => ⟨(h.ne k hk).1, Nat.lt_of_lt_of_le (h.ne k hk).2 hb.size⟩⟩
theorem CSt.app {w1 W W' : World} {v v' : Value} {l l' : List P3} {keep : List Nat} (h : CSt w1 W v l keep) (hv : OwnP W' w1.heap.size v' l') (hg : W.grownBy W' v.ownBlock) (hat : v'.ownBlock = v.ownBlock ∨ v'.ownBlock = some W.heap.size) : CSt w1 W' v' l' keep := by
  refine ⟨hv, h.below.grown hg h.below.size (fun k hk => h.own.base_ k hk), fun k hk => ?_⟩
  obtain ⟨h1, h2⟩ := h.ne k hk
  refine ⟨?_, Nat.lt_of_lt_of_le h2 hg.size⟩
  rcases hat with e | e
  · rw [e]; exact h1
  · rw [e]; intro e'; cases e'; omega
theorem CSt.blk {w1 W W' : World} {v : Value} {l : List P3} {keep : List Nat} (h : CSt w1 W v l keep) (hg : W.grownBy W' v.ownBlock) {k : Nat} (hk : k ∈ keep) {o : Obj} (ho : W.heap[k]? = some o) : W'.heap[k]? = some o :=
  (hg.block k (h.ne k hk).2 (fun e => (h.ne k hk).1 e.symm)).trans ho
theorem CSt.more {w1 W W' : World} {v : Value} {l : List P3} {keep : List Nat} (h : CSt w1 W v l keep) (hb : Below W.heap.size W W') {k : Nat} (hk : W.heap.size ≤ k) (hk2 : k < W'.heap.size) : CSt w1 W' v l (k :: keep) := by
  refine ⟨h.own.grown hb, bthen h.below hb, fun j hj => ?_⟩
  rcases List.mem_cons.1 hj with rfl | hj
  · exact ⟨fun e => by have := h.own.lt _ e; omega, hk2⟩
  · exact ⟨(h.ne j hj).1, Nat.lt_of_lt_of_le (h.ne j hj).2 hb.size⟩
theorem CSt.old {w1 W : World} {v : Value} {l : List P3} {keep : List Nat} (h : CSt w1 W v l keep) {k : Nat} {o : Obj} (ho : w1.heap[k]? = some o) : W.heap[k]? = some o := (h.below.block k (blk_lt ho)).trans ho
theorem CSt.len {w1 W : World} {v : Value} {l l' : List P3} {keep : List Nat} (h : CSt w1 W v l keep) (e : l = l') : CSt w1 W v l' keep := e ▸ h
theorem RdB.blk {w W : World} {A : Option Addr} {l : List P3} (h : RdB w A l) (hs : w.heap.size ≤ W.heap.size) (hk : ∀ ad, A = some ad → W.heap[ad.block]? = w.heap[ad.block]?) : RdB W A l := by
  refine ⟨fun i p hp => ?_, fun ad e => Nat.lt_of_lt_of_le (h.2 ad e) hs⟩
  obtain ⟨b, o, rfl, hlt, h1, h2, h3⟩ := h.1 i p hp
  have hb := hk _ rfl
  have q : ∀ k, W.cell? ⟨b, k, none⟩ = w.cell? ⟨b, k, none⟩ := fun k => World.cell?_of_block (a := ⟨b, k, none⟩) hb
  exact ⟨b, o, rfl, Nat.lt_of_lt_of_le hlt hs, (q _).trans h1, (q _).trans h2, (q _).trans h3⟩
/-- the block of a slice -/
def keepA (A : Option Addr) : List Nat := (A.map (·.block)).toList
theorem RdB.keep {w1 W W' : World} {v : Value} {l es : List P3} {keep : List Nat} {A : Option Addr} (h : RdB W A es) (S : CSt w1 W v l keep) (hs : ∀ k ∈ keepA A, k ∈ keep) (hg : W.grownBy W' v.ownBlock) : RdB W' A es :=
  h.blk hg.size fun ad e => by
    have hk := hs ad.block (by rw [e]; simp [keepA])
    exact hg.block ad.block (S.ne _ hk).2 (fun e' => (S.ne _ hk).1 e'.symm)
end Go.Proofs.Ytckdhahceelckaa.G
namespace Go.Proofs.Ytckdhahceelckaa.G
open Go.RowKit Go.Proofs.YtckdhahceelckaaW.PrintWords Go.Proofs.YtckdhahceelckaaW.PrintLast Go.Proofs.YtckdhahceelckaaW.PrintMore
attribute [local go_sem] max2_mx min2_mn max_two min_two max_three min_three max_four min_four
attribute [local go_sem high] eqA23
set_option linter.unusedVariables false
set_option linter.unusedSimpArgs false
/-- is it nought? -/
def isz (p : P3) : Bool := eqP p.x p.y p.z 0 0 0
set_option maxHeartbeats 1000000 in
theorem with1_calls (x y z : Int) (w : World) : Calls Try.prog 127 #[.agg #[.int .i64 x, .int .i64 y, .int .i64 z]] w fun e w' => e = .returned (.bool (isz ⟨x, y, z⟩)) ∧ Below w.heap.size w w' := by
  go_enter Try.func127, Try.ntmps127
  go_wp2
  go_ret
  exact ⟨rfl, (Below.refl _ w).alloc (Nat.le_refl _) _⟩
def idx0 (l : List P3) : Int := match l.findIdx? isz with | some k => k | none => -1
theorem idx0_some {l : List P3} {k : Nat} (h : l.findIdx? isz = some k) : idx0 l = k := by unfold idx0; rw [h]
theorem idx0_none {l : List P3} (h : l.findIdx? isz = none) : idx0 l = -1 := by unfold idx0; rw [h]
set_option maxHeartbeats 1000000 in
theorem index0_calls (l : List P3) (A : Option Addr) (c : Nat) (w : World) (hr : Rd w A l) (hc : l.length ≤ c) (hm : l.length < 9223372036854775807) :
    Calls Try.prog 122 #[.slice A l.length c, .func (.func 127) #[] #[]] w fun e w' => e = .returned (.int .i64 (idx0 l)) ∧ Below w.heap.size w w' := by
  have HR := Lh hr
  clear hr
  go_enter Try.func122, Try.ntmps122
  go_wp2
  go_loopw [5, 8] (fun v5 v8 wr => ∃ k : Nat, k ≤ l.length ∧ v8 = .int .i64 k ∧ Hid (∀ i, i < k → ∀ p, l[i]? = some p → isz p = false) ∧ Below w.heap.size w wr) (fun _ i _ => l.length - (intOf i).toNat)
  case atStart => exact ⟨0, Nat.zero_le _, rfl, fun i hi => absurd hi (by omega), Below.refl _ _⟩
  case round =>
    obtain ⟨k, hk, rfl, hno, hbr⟩ := hrel
    by_cases hlt : k < l.length
    · obtain ⟨b, o, rfl, hbl, h1, h2, h3⟩ := HR.out.get k hlt
      have e1 := (hbr.cell (p := ⟨b, o + k * 3, none⟩) hbl).trans h1
      have e2 := (hbr.cell (p := ⟨b, o + k * 3 + 1, none⟩) hbl).trans h2
      have e3 := (hbr.cell (p := ⟨b, o + k * 3 + 2, none⟩) hbl).trans h3
      clear h1 h2 h3
      obtain ⟨p, hp⟩ : ∃ p, l[k] = p := ⟨_, rfl⟩
      rw [hp] at e1 e2 e3
      have HP := Lh hp
      clear hp
      obtain ⟨px, py, pz⟩ := p
      dsimp only at e1 e2 e3
      cases hf : isz ⟨px, py, pz⟩ with
      | true =>
        go_wp2_with (go_at_call 127; refine (with1_calls _ _ _ _).mono ?_; rintro e w3 ⟨rfl, hb3⟩; rw [hf])
        go_ret
        refine ⟨ret_int ?_, bthen hbr hb3⟩
        have : l.findIdx? isz = some k := by
          rw [List.findIdx?_eq_some_iff_getElem]
          refine ⟨hlt, by rw [HP.out]; exact hf, fun j hj => ?_⟩
          rw [hno.out j hj _ (List.getElem?_eq_getElem (by omega))]; simp
        exact (idx0_some this).symm
      | false =>
        go_wp2_with (go_at_call 127; refine (with1_calls _ _ _ _).mono ?_; rintro e w3 ⟨rfl, hb3⟩; rw [hf])
        go_roundw
        case rel =>
          refine ⟨k + 1, by omega, by go_num, fun i hi p' hp' => ?_, bthen hbr hb3⟩
          by_cases e : i = k
          · subst e
            rw [List.getElem?_eq_getElem hlt, HP.out] at hp'
            cases hp'; exact hf
          · exact hno.out i (by omega) p' hp'
        case measure => simp [intOf]; omega
    · obtain rfl : k = l.length := by omega
      go_wp2
      go_ret
      refine ⟨ret_int ?_, hbr⟩
      have : l.findIdx? isz = none := by
        rw [List.findIdx?_eq_none_iff]
        intro p hp
        obtain ⟨i, hi, rfl⟩ := List.mem_iff_getElem.1 hp
        exact hno.out i hi _ (List.getElem?_eq_getElem hi)
      exact (idx0_none this).symm
end Go.Proofs.Ytckdhahceelckaa.G
namespace Go.Proofs.Ytckdhahceelckaa.G
open Go.RowKit Go.Proofs.YtckdhahceelckaaW.PrintWords Go.Proofs.YtckdhahceelckaaW.PrintLast Go.Proofs.YtckdhahceelckaaW.PrintMore
attribute [local go_sem] max2_mx min2_mn max_two min_two max_three min_three max_four min_four
attribute [local go_sem high] eqA23
set_option linter.unusedVariables false
set_option linter.unusedSimpArgs false
theorem scross_calls (x y z a b c : Int) (w : World) :
    Calls Try.prog 78 #[.agg #[.int .i64 x, .int .i64 y, .int .i64 z], .agg #[.int .i64 a, .int .i64 b, .int .i64 c]] w fun e w' => e = .returned (.agg #[.int .i64 (cross3 ⟨x, y, z⟩ ⟨a, b, c⟩).x, .int .i64 (cross3 ⟨x, y, z⟩ ⟨a, b, c⟩).y, .int .i64 (cross3 ⟨x, y, z⟩ ⟨a, b, c⟩).z]) ∧ Below w.heap.size w w' := by
  go_enter Try.func78, Try.ntmps78
  go_wp2
  exact bodyPost_ret (v := .agg #[.int .i64 (cross3 ⟨x, y, z⟩ ⟨a, b, c⟩).x, .int .i64 (cross3 ⟨x, y, z⟩ ⟨a, b, c⟩).y, .int .i64 (cross3 ⟨x, y, z⟩ ⟨a, b, c⟩).z]) (by simp [results, Try.results78, go_sem, cross3]) rfl ⟨rfl, (by repeat (first | exact Below.refl _ _ | refine Below.setCell ?_ (by simp <;> omega) _ | refine Below.alloc ?_ (by simp <;> omega) _ | refine Below.drew ?_))⟩
set_option maxHeartbeats 1000000 in
theorem clip_calls (A : Option Addr) (n c : Nat) (w : World) (hc : n ≤ c) (hm : n < 9223372036854775807) (ha : A = none → n = 0) : Calls Try.prog 128 #[.slice A n c] w fun e w' => e = .returned (.slice A n n) ∧ w' = w := by
  go_enter Try.func128, Try.ntmps128
  go_wp2
  go_ret
  exact ⟨rfl, rfl⟩
end Go.Proofs.Ytckdhahceelckaa.G
namespace Go.Proofs.Ytckdhahceelckaa.G
open Go.RowKit Go.Proofs.YtckdhahceelckaaW.PrintWords Go.Proofs.YtckdhahceelckaaW.PrintLast Go.Proofs.YtckdhahceelckaaW.PrintMore
set_option linter.unusedVariables false
set_option linter.unusedSimpArgs false
theorem cells3_cons (p : P3) (l : List P3) : cells3 (p :: l) = .int .i64 p.x :: .int .i64 p.y :: .int .i64 p.z :: cells3 l := by
  unfold cells3; simp
theorem cells3_set (l : List P3) (i : Nat) (h : i < l.length) (p : P3) : (((cells3 l).set (i * 3) (.int .i64 p.x)).set (i * 3 + 1) (.int .i64 p.y)).set (i * 3 + 2) (.int .i64 p.z) = cells3 (l.set i p) := by
  induction l generalizing i with
  | nil => simp at h
  | cons q l ih =>
    cases i with
    | zero => rw [List.set_cons_zero, cells3_cons, cells3_cons]; simp
    | succ i =>
      rw [List.set_cons_succ, cells3_cons, cells3_cons, ← ih i (by simpa using h)]
      have e0 : (i + 1) * 3 = i * 3 + 3 := by omega
      rw [e0]
      simp
theorem OwnP.setAt {w : World} {base g n c : Nat} {l : List P3} (h : OwnP w base (.slice (some ⟨g, 0, none⟩) n c) l) (i : Nat) (hi : i < l.length) (p : P3) :
    OwnP (((w.setCell ⟨g, i * 3, none⟩ (.int .i64 p.x)).setCell ⟨g, i * 3 + 1, none⟩ (.int .i64 p.y)).setCell ⟨g, i * 3 + 2, none⟩ (.int .i64 p.z)) base (.slice (some ⟨g, 0, none⟩) n c) (l.set i p) := by
  obtain ⟨hx, h2⟩ := h
  rcases h2 with ⟨e, _⟩ | ⟨g', cap, cur, e, hb, hg, hnc, hm, hsz, ht⟩
  · cases e
  · have e2 := e
    injection e2 with e3 e4 e5
    injection e3 with e3
    injection e3 with e3
    subst e3
    subst e5
    have b := blk_set (blk_set (blk_set hg (i * 3) (.int .i64 p.x)) (i * 3 + 1) (.int .i64 p.y)) (i * 3 + 2) (.int .i64 p.z)
    refine ⟨?_, .inr ⟨g, c, _, ?_, hb, b, ?_, hm, by simpa using hsz, ?_⟩⟩
    · show (cells3 (l.set i p)).length = _
      rw [cells3_length, List.length_set]
    · rw [e4, List.length_set]
    · rw [List.length_set]; exact hnc
    · rw [List.length_set]
      simp only [Array.toList_setIfInBounds, List.take_set]
      rw [ht]
      exact cells3_set l i hi p
theorem OwnP.cut {w : World} {base g n c : Nat} {l : List P3} (h : OwnP w base (.slice (some ⟨g, 0, none⟩) n c) l) (i : Nat) (hi : i ≤ l.length) : OwnP w base (.slice (some ⟨g, 0, none⟩) i c) (l.take i) := by
  obtain ⟨hx, h2⟩ := h
  rcases h2 with ⟨e, _⟩ | ⟨g', cap, cur, e, hb, hg, hnc, hm, hsz, ht⟩
  · cases e
  · have e2 := e
    injection e2 with e3 e4 e5
    injection e3 with e3
    injection e3 with e3
    subst e3
    subst e5
    have el : (l.take i).length = i := by rw [List.length_take]; omega
    refine ⟨?_, .inr ⟨g, c, cur, ?_, hb, hg, ?_, hm, hsz, ?_⟩⟩
    · show (cells3 (l.take i)).length = _
      rw [cells3_length]
    · rw [el]
    · rw [el]; omega
    · rw [el]
      have t := congrArg (List.take (i * 3)) ht
      rw [List.take_take, Nat.min_eq_left (by omega)] at t
      rw [t]
      have ca : cells3 l = cells3 (l.take i) ++ cells3 (l.drop i) := by rw [← cells3_append, List.take_append_drop]
      show List.take (i * 3) (cells3 l) = cells3 (l.take i)
      rw [ca, List.take_append_of_le_length (by rw [cells3_length, el]; exact Nat.le_refl _), List.take_of_length_le (by rw [cells3_length, el]; exact Nat.le_refl _)]
end Go.Proofs.Ytckdhahceelckaa.G
namespace Go.Proofs.Ytckdhahceelckaa.G
open Go.RowKit Go.Proofs.YtckdhahceelckaaW.PrintWords Go.Proofs.YtckdhahceelckaaW.PrintLast Go.Proofs.YtckdhahceelckaaW.PrintMore
attribute [local go_sem] max2_mx min2_mn max_two min_two max_three min_three max_four min_four
attribute [local go_sem high] eqA23
set_option linter.unusedVariables false
set_option linter.unusedSimpArgs false
theorem eqSn0 (d n c : Nat) (w : World) : (Op.equalIn (d + 1) 24 (.slice none n c) (.slice none 0 0)).run Try.prog w = .ok true w := by
  simp [Op.equalIn, run_underlying Try.underlying24]
theorem eqSs0 (d n c : Nat) (ad : Addr) (w : World) : (Op.equalIn (d + 1) 24 (.slice (some ad) n c) (.slice none 0 0)).run Try.prog w = .ok false w := by
  simp [Op.equalIn, run_underlying Try.underlying24]
theorem eqE (x y : Value) (w : World) (b : Bool) (hx : binOp .eql 24 x y = (do pure (.bool (← Op.equal 24 x y)))) (h : ∀ d, (Op.equalIn (d + 1) 24 x y).run Try.prog w = .ok b w) : Sem.run Try.prog (binOp .eql 24 x y) w = .ok (.bool b) w := by
  rw [hx, Sem.run_bind]
  unfold Op.equal Op.maxDepth
  rw [h 9999]
  rfl
theorem eqSn (n c : Nat) (w : World) : Sem.run Try.prog (binOp .eql 24 (.slice none n c) (.slice none 0 0)) w = .ok (.bool true) w := eqE _ _ w true rfl fun d => eqSn0 d n c w
theorem eqSs (n c : Nat) (ad : Addr) (w : World) : Sem.run Try.prog (binOp .eql 24 (.slice (some ad) n c) (.slice none 0 0)) w = .ok (.bool false) w := eqE _ _ w false rfl fun d => eqSs0 d n c ad w
/-- a list of points of its own -/
def PtsPostB (l : List P3) (w : World) (e : Ending) (w' : World) : Prop := ∃ A c, e = .returned (.slice A l.length c) ∧ l.length ≤ c ∧ RdB w' A l ∧ Below w.heap.size w w' ∧ (∀ ad, A = some ad → w.heap.size ≤ ad.block)
attribute [local go_sem high] eqSn eqSs
end Go.Proofs.Ytckdhahceelckaa.G
namespace Go.Proofs.Ytckdhahceelckaa.G
open Go.RowKit Go.Proofs.YtckdhahceelckaaW.PrintWords
set_option linter.unusedVariables false
/-- a core has a way of its own, or two points at most -/
def Ways (p a : List P3) : Prop := p.length ≤ 2 ∨ ∃ x ∈ a, long3 x ≠ ⟨0, 0, 0⟩
end Go.Proofs.Ytckdhahceelckaa.G
namespace Go.Proofs.Ytckdhahceelckaa.G
open Go.RowKit Go.Proofs.YtckdhahceelckaaW.PrintWords
set_option linter.unusedVariables false
/-- the told gap is the widest -/
theorem apF_top (a0 : P3) (ar : List P3) (ra : Int) (b0 : P3) (br : List P3) (rb : Int) (l : List P3) :
    ∀ x ∈ l, long3 x ≠ ⟨0, 0, 0⟩ → (gapsF (long3 x) a0 ar ra b0 br rb).1 ≤ (apF a0 ar ra b0 br rb l).1.2 ∧ (gapsF (long3 x) a0 ar ra b0 br rb).2 ≤ (apF a0 ar ra b0 br rb l).1.2 := by
  have st : ∀ (s : (P3 × Int) × Bool) (n : P3), long3 n ≠ ⟨0, 0, 0⟩ → (apStep a0 ar ra b0 br rb s n).2 = false ∧ (s.2 = false → s.1.2 ≤ (apStep a0 ar ra b0 br rb s n).1.2) ∧
      (gapsF (long3 n) a0 ar ra b0 br rb).1 ≤ (apStep a0 ar ra b0 br rb s n).1.2 ∧ (gapsF (long3 n) a0 ar ra b0 br rb).2 ≤ (apStep a0 ar ra b0 br rb s n).1.2 := by
    intro s n h
    unfold apStep
    rw [if_neg h]
    obtain ⟨⟨ax, g⟩, fl⟩ := s
    generalize gapsF (long3 n) a0 ar ra b0 br rb = t
    obtain ⟨t1, t2⟩ := t
    simp only
    by_cases h1 : fl = true ∨ g < t1
    · simp only [h1, if_true]
      by_cases h2 : t1 < t2
      · simp only [h2, if_true]
        refine ⟨trivial, fun hf => ?_, ?_, ?_⟩
        · rcases h1 with h1 | h1
          · rw [hf] at h1; cases h1
          · omega
        · omega
        · omega
      · simp only [h2, if_false]
        refine ⟨trivial, fun hf => ?_, ?_, ?_⟩
        · rcases h1 with h1 | h1
          · rw [hf] at h1; cases h1
          · omega
        · omega
        · omega
    · simp only [h1, if_false]
      have h1' : ¬ g < t1 := fun e => h1 (.inr e)
      by_cases h2 : g < t2
      · simp only [h2, if_true]
        exact ⟨trivial, fun _ => by omega, by omega, by omega⟩
      · simp only [h2, if_false]
        exact ⟨trivial, fun _ => by omega, by omega, by omega⟩
  have gen : ∀ (l : List P3) (s : (P3 × Int) × Bool), (s.2 = false → s.1.2 ≤ (l.foldl (apStep a0 ar ra b0 br rb) s).1.2) ∧ ∀ x ∈ l, long3 x ≠ ⟨0, 0, 0⟩ →
      (gapsF (long3 x) a0 ar ra b0 br rb).1 ≤ (l.foldl (apStep a0 ar ra b0 br rb) s).1.2 ∧ (gapsF (long3 x) a0 ar ra b0 br rb).2 ≤ (l.foldl (apStep a0 ar ra b0 br rb) s).1.2 := by
    intro l
    induction l with
    | nil => intro s; exact ⟨fun _ => Int.le_refl _, fun x hx => by simp at hx⟩
    | cons n l ih =>
      intro s
      rw [List.foldl_cons]
      obtain ⟨i1, i2⟩ := ih (apStep a0 ar ra b0 br rb s n)
      by_cases h : long3 n = ⟨0, 0, 0⟩
      · have e : apStep a0 ar ra b0 br rb s n = s := by unfold apStep; rw [if_pos h]
        rw [e] at i1 i2 ⊢
        refine ⟨i1, fun x hx h0 => ?_⟩
        rcases List.mem_cons.1 hx with rfl | hx
        · exact absurd h h0
        · exact i2 x hx h0
      · obtain ⟨s1, s2, s3, s4⟩ := st s n h
        have i1 := i1 s1
        refine ⟨fun hf => Int.le_trans (s2 hf) i1, fun x hx h0 => ?_⟩
        rcases List.mem_cons.1 hx with rfl | hx
        · exact ⟨Int.le_trans s3 i1, Int.le_trans s4 i1⟩
        · exact i2 x hx h0
  exact (gen l _).2
/-- moved by grains -/
def plusI (y x : P3) : P3 := ⟨x.x + y.x, x.y + y.y, x.z + y.z⟩
theorem plusI_in {y x : P3} (hy : in3 1048576 y) (hx : in3 8388608 x) : in3 16777216 (plusI y x) := by unfold in3 plusI at *; simp only; omega
theorem MayP.moved {p a e : List P3} {r : Int} (m : MayP p a e r) {y : P3} (hy : in3 1048576 y) (hp : ∀ x ∈ p, in3 8388608 x) : MayP (p.map (plusI y)) a e r where
  p0 := by have := m.p0; simpa using this
  p1 := by rw [List.length_map]; exact m.p1
  a1 := m.a1
  e1 := m.e1
  r0 := m.r0
  r1 := m.r1
  pf := by
    rw [List.any_eq_false]
    intro x hx
    obtain ⟨z, hz, rfl⟩ := List.mem_map.1 hx
    rw [(far3_iff _ _ (by decide) (by decide)).2 (plusI_in hy (hp z hz))]
    decide
  af := m.af
  ef := m.ef
end Go.Proofs.Ytckdhahceelckaa.G
namespace Go.Proofs.Ytckdhahceelckaa.G
open Go.RowKit Go.Proofs.YtckdhahceelckaaW.PrintWords Go.Proofs.YtckdhahceelckaaW.PrintLast Go.Proofs.YtckdhahceelckaaW.PrintMore
attribute [local go_sem] max2_mx min2_mn max_two min_two max_three min_three max_four min_four
attribute [local go_sem high] eqA23
set_option linter.unusedVariables false
set_option linter.unusedSimpArgs false
theorem gb_below {w w1 w2 : World} {k : Option Nat} (h : w.grownBy w1 k) (b : Below w1.heap.size w1 w2) : w.grownBy w2 k :=
  ⟨b.os.trans h.os, b.tape.trans h.tape, b.output.trans h.output, Nat.le_trans h.size b.size, fun j hj hk => (b.block j (Nat.lt_of_lt_of_le hj h.size)).trans (h.block j hj hk)⟩
theorem gb_set {w w1 : World} {g : Nat} (h : w.grownBy w1 (some g)) (j : Nat) (u : Value) : w.grownBy (w1.setCell ⟨g, j, none⟩ u) (some g) :=
  ⟨h.os, h.tape, h.output, by simpa using h.size, fun i hi hk => (Below.heap_setCell w1 ⟨g, j, none⟩ u i (fun e => hk (by simp at e; rw [e]))).trans (h.block i hi hk)⟩
theorem gb_refl (w : World) (k : Option Nat) : w.grownBy w k := ⟨rfl, rfl, rfl, Nat.le_refl _, fun _ _ _ => rfl⟩
theorem RdB.gb {w w1 : World} {A : Option Addr} {l : List P3} {g : Nat} (h : RdB w A l) (k : w.grownBy w1 (some g)) (hne : ∀ ad, A = some ad → ad.block ≠ g) : RdB w1 A l :=
  h.blk k.size fun ad e => k.block ad.block (h.2 ad e) (fun e' => hne ad e (by cases e'; rfl))
theorem below_gb {w w1 w2 : World} {g b : Nat} (h : Below b w w1) (k : w1.grownBy w2 (some g)) (hg : b ≤ g) (hb : b ≤ w1.heap.size) : Below b w w2 :=
  ⟨k.os.trans h.os, k.tape.trans h.tape, k.output.trans h.output, Nat.le_trans h.size k.size, fun j hj => (k.block j (Nat.lt_of_lt_of_le hj hb) (fun e => by cases e; omega)).trans (h.block j hj)⟩
end Go.Proofs.Ytckdhahceelckaa.G
namespace Go.Proofs.Ytckdhahceelckaa.G
open Go.RowKit Go.Proofs.YtckdhahceelckaaW.PrintWords Go.Proofs.YtckdhahceelckaaW.PrintLast Go.Proofs.YtckdhahceelckaaW.PrintMore
set_option linter.unusedVariables false
set_option linter.unusedSimpArgs false
theorem OwnP.setAbove {w : World} {base g n c : Nat} {l : List P3} (h : OwnP w base (.slice (some ⟨g, 0, none⟩) n c) l) (o : Nat) (ho : l.length * 3 ≤ o) (u : Value) : OwnP (w.setCell ⟨g, o, none⟩ u) base (.slice (some ⟨g, 0, none⟩) n c) l := by
  obtain ⟨hx, h2⟩ := h
  rcases h2 with ⟨e, _⟩ | ⟨g', cap, cur, e, hb, hg, hnc, hm, hsz, ht⟩
  · cases e
  · have e2 := e
    injection e2 with e3 e4 e5
    injection e3 with e3
    injection e3 with e3
    subst e3
    refine ⟨hx, .inr ⟨g, cap, _, e, hb, blk_set hg o u, hnc, hm, by simpa using hsz, ?_⟩⟩
    simp only [Array.toList_setIfInBounds]
    rw [List.take_set_of_le ho]
    exact ht
theorem OwnP.setsAbove {base g n c : Nat} {l : List P3} (vs : List Value) : ∀ (w : World) (o : Nat), l.length * 3 ≤ o → OwnP w base (.slice (some ⟨g, 0, none⟩) n c) l → OwnP (w.setCells g o vs) base (.slice (some ⟨g, 0, none⟩) n c) l ∧ w.grownBy (w.setCells g o vs) (some g) := by
  induction vs with
  | nil => intro w o _ h; exact ⟨h, gb_refl _ _⟩
  | cons v r ih =>
    intro w o ho h
    obtain ⟨h1, h2⟩ := ih (w.setCell ⟨g, o, none⟩ v) (o + 1) (by omega) (h.setAbove o ho v)
    refine ⟨h1, ?_⟩
    have g1 := gb_set (gb_refl w (some g)) o v
    exact ⟨h2.os.trans g1.os, h2.tape.trans g1.tape, h2.output.trans g1.output, Nat.le_trans g1.size h2.size, fun j hj hk => (h2.block j (Nat.lt_of_lt_of_le hj g1.size) hk).trans (g1.block j hj hk)⟩
theorem zero23 (w : World) : (zeroValue 23).run Try.prog w = .ok (.agg #[.int .i64 0, .int .i64 0, .int .i64 0]) w := by
  go_simp
theorem run_clear_pts (w : World) (base g n c i cc : Nat) (ty : TypeId) (l : List P3) (h : OwnP w base (.slice (some ⟨g, 0, none⟩) n c) l) (hi : i < n) :
    ∃ w', (Builtin.clear_ #[24] ty #[.slice (some ⟨g, i * 3, none⟩) (n - i) cc]).run Try.prog w = .ok (.tuple #[]) w' ∧ OwnP w' base (.slice (some ⟨g, 0, none⟩) i c) (l.take i) ∧ w.grownBy w' (some g) := by
  have hc := h
  obtain ⟨hx, h2⟩ := h
  rcases h2 with ⟨e, _⟩ | ⟨g', cap, cur, e, hb, hg, hnc, hm, hsz, ht⟩
  · cases e
  · have e2 := e
    injection e2 with e3 e4 e5
    injection e3 with e3
    injection e3 with e3
    subst e3
    have hcut := hc.cut i (by omega)
    have el : (l.take i).length = i := by rw [List.length_take]; omega
    obtain ⟨zs, hzs⟩ : ∃ zs, (Builtin.zeroCells #[.int .i64 0, .int .i64 0, .int .i64 0] (n - i)).toList = zs := ⟨_, rfl⟩
    have zl : zs.length = (n - i) * 3 := by rw [← hzs]; simp [Builtin.zeroCells]
    have z1 : ∀ v ∈ zs, v.oneCell' = true := by
      intro v hv
      rw [← hzs] at hv
      simp only [Builtin.zeroCells, Array.toList_map, List.mem_map] at hv
      obtain ⟨k, _, rfl⟩ := hv
      have : k % 3 = 0 ∨ k % 3 = 1 ∨ k % 3 = 2 := by omega
      show (#[Value.int .i64 0, Value.int .i64 0, Value.int .i64 0][k % 3]!).oneCell' = true
      rcases this with h | h | h <;> rw [h] <;> rfl
    have hst := run_storeCells_cells (P := Try.prog) g (i * 3) zs 0 w (fun j hj => by
      rw [blk_cell hg]
      have : i * 3 + j < cur.size := by
        have := Nat.mul_le_mul_right 3 hnc
        rw [zl] at hj
        omega
      simp [this]) (fun j hj => blk_frozen hg _) z1
    simp only [Nat.add_zero] at hst
    obtain ⟨o1, o2⟩ := OwnP.setsAbove zs w (i * 3) (by rw [el]; exact Nat.le_refl _) hcut
    refine ⟨w.setCells g (i * 3) zs, ?_, o1, o2⟩
    obtain ⟨m, hm'⟩ : ∃ m, n - i = m + 1 := ⟨n - i - 1, by omega⟩
    rw [hm'] at hzs ⊢
    have hcz : (Value.agg #[.int .i64 0, .int .i64 0, .int .i64 0]).cells = #[.int .i64 0, .int .i64 0, .int .i64 0] := by simp [Value.cells]
    simp [Builtin.clear_, run_underlying Try.underlying24, zero23, hcz, hzs, hst]
end Go.Proofs.Ytckdhahceelckaa.G
namespace Go.Proofs.Ytckdhahceelckaa.G
open Go.RowKit Go.Proofs.YtckdhahceelckaaW.PrintWords Go.Proofs.YtckdhahceelckaaW.PrintLast Go.Proofs.YtckdhahceelckaaW.PrintMore
attribute [local go_sem] max2_mx min2_mn max_two min_two max_three min_three max_four min_four
attribute [local go_sem high] eqA23
set_option linter.unusedVariables false
set_option linter.unusedSimpArgs false
theorem gb_trans {w w1 w2 : World} {k : Option Nat} (h : w.grownBy w1 k) (h2 : w1.grownBy w2 k) : w.grownBy w2 k :=
  ⟨h2.os.trans h.os, h2.tape.trans h.tape, h2.output.trans h.output, Nat.le_trans h.size h2.size, fun j hj hk => (h2.block j (Nat.lt_of_lt_of_le hj h.size) hk).trans (h.block j hj hk)⟩
def nz (p : P3) : Bool := !isz p
theorem filter_keep (l lst : List P3) (i j : Nat) (hj : j < l.length) (hij : i < j) (hlen : lst.length = l.length) (ht : lst.take i = (l.take j).filter nz) (hd : lst.drop j = l.drop j) (h : isz l[j] = false) :
    (lst.set i l[j]).take (i + 1) = (l.take (j + 1)).filter nz ∧ (lst.set i l[j]).drop (j + 1) = l.drop (j + 1) := by
  constructor
  · rw [List.take_succ_eq_append_getElem hj, List.filter_append, ← ht, List.take_succ_eq_append_getElem (by rw [List.length_set]; omega), List.getElem_set_self, List.take_set_of_le (Nat.le_refl _)]
    simp [nz, h]
  · rw [List.drop_set_of_lt (by omega)]
    have := congrArg (List.drop 1) hd
    rwa [List.drop_drop, List.drop_drop] at this
theorem filter_drop (l lst : List P3) (i j : Nat) (hj : j < l.length) (ht : lst.take i = (l.take j).filter nz) (hd : lst.drop j = l.drop j) (h : isz l[j] = true) :
    lst.take i = (l.take (j + 1)).filter nz ∧ lst.drop (j + 1) = l.drop (j + 1) := by
  constructor
  · rw [List.take_succ_eq_append_getElem hj, List.filter_append, ← ht]; simp [nz, h]
  · have := congrArg (List.drop 1) hd
    rwa [List.drop_drop, List.drop_drop] at this
theorem OwnP.fz {w : World} {base g n c : Nat} {l : List P3} (h : OwnP w base (.slice (some ⟨g, 0, none⟩) n c) l) : (∀ o, w.frozen? ⟨g, o, none⟩ = false) ∧ g < w.heap.size ∧ base ≤ g ∧ n = l.length ∧ n ≤ c ∧ c ≤ maxLen := by
  obtain ⟨hx, h2⟩ := h
  rcases h2 with ⟨e, _⟩ | ⟨g', cap, cur, e, hb, hg, hnc, hm, hsz, ht⟩
  · cases e
  · have e2 := e
    injection e2 with e3 e4 e5
    injection e3 with e3
    injection e3 with e3
    subst e3
    exact ⟨fun o => blk_frozen hg o, blk_lt hg, hb, e4, by omega, by omega⟩
theorem OwnP.at3 {w : World} {base g n c : Nat} {l : List P3} (h : OwnP w base (.slice (some ⟨g, 0, none⟩) n c) l) (i : Nat) (hi : i < l.length) : w.cell? ⟨g, i * 3, none⟩ = some (.int .i64 l[i].x) ∧ w.cell? ⟨g, i * 3 + 1, none⟩ = some (.int .i64 l[i].y) ∧ w.cell? ⟨g, i * 3 + 2, none⟩ = some (.int .i64 l[i].z) := by
  obtain ⟨A', c', eA, _, hr, _⟩ := OwnP.rd h
  injection eA with eA1 eA2 eA3
  subst eA1
  obtain ⟨b, o, eb, hbl, h1, h2, h3⟩ := hr.get i hi
  simp only [Option.some.injEq, Addr.mk.injEq, and_true] at eb
  obtain ⟨rfl, rfl⟩ := eb
  simp only [Nat.zero_add] at h1 h2 h3
  exact ⟨h1, h2, h3⟩
def DelPost (g c base : Nat) (l : List P3) (w : World) (e : Ending) (w' : World) : Prop := ∃ m, e = .returned (.slice (some ⟨g, 0, none⟩) m c) ∧ OwnP w' base (.slice (some ⟨g, 0, none⟩) m c) (l.filter nz) ∧ w.grownBy w' (some g)
set_option maxHeartbeats 2000000 in
set_option maxRecDepth 100000 in
theorem delete_calls (l : List P3) (g n c base : Nat) (w : World) (h : OwnP w base (.slice (some ⟨g, 0, none⟩) n c) l) (hl : n ≤ 40000) :
    Calls Try.prog 126 #[.slice (some ⟨g, 0, none⟩) n c, .func (.func 127) #[] #[]] w (DelPost g c base l w) := by
  obtain ⟨_, hgl, hbg, hn, hnc, hcm⟩ := h.fz
  have HI := Lh (index0_calls l (some ⟨g, 0, none⟩) c w (by
    obtain ⟨A, c', e, _, hr, _⟩ := OwnP.rd h
    injection e with e1 _ _
    rw [e1]; exact hr) (by omega) (by omega))
  have HO := Lh h
  rw [← hn] at HI
  have HN := Lh hn
  clear h hn
  go_enter Try.func126, Try.ntmps126
  go_wp2_with fail
  with_reducible refine HI.out.mono ?_
  rintro e w1 ⟨rfl, hb⟩
  have hO1 := HO.out.grown hb
  have hG1 := gb_below (gb_refl w (some g)) hb
  cases hf : l.findIdx? isz with
  | none =>
    rw [idx0_none hf]
    have hfil : l.filter nz = l := by
      rw [List.filter_eq_self]
      intro p hp
      rw [List.findIdx?_eq_none_iff] at hf
      unfold nz; rw [hf p hp]; rfl
    clear HI hb
    go_wp2
    go_ret
    exact ⟨n, rfl, by rw [hfil]; exact hO1, hG1⟩
  | some k =>
    rw [idx0_some hf]
    rw [List.findIdx?_eq_some_iff_getElem] at hf
    obtain ⟨hk, hz, hno⟩ := hf
    have hst : l.take k = (l.take (k + 1)).filter nz := by
      rw [List.take_succ_eq_append_getElem hk, List.filter_append]
      have : (l.take k).filter nz = l.take k := by
        rw [List.filter_eq_self]
        intro p hp
        obtain ⟨i, hi, rfl⟩ := List.mem_iff_getElem.1 hp
        rw [List.length_take] at hi
        rw [List.getElem_take]
        have := hno i (by omega)
        unfold nz
        cases e : isz l[i]
        · rfl
        · rw [e] at this; simp at this
      rw [this]; simp [nz, hz]
    have hO1 := Lh hO1
    have hG1 := Lh hG1
    have hst := Lh hst
    have hkn : k < n := by have := HN.out; omega
    have e1 : ((k : Int) == -1) = false := by simp
    clear HI hb hz hno
    go_wp2_with fail
    go_loopw [5, 6] (fun v5 v6 wr => ∃ (i j : Nat) (lst : List P3), v5 = .int .i64 i ∧ v6 = .int .i64 j ∧ j ≤ n ∧ i < j ∧ lst.length = n ∧ Hid (lst.take i = (l.take j).filter nz) ∧ Hid (lst.drop j = l.drop j) ∧ Hid (OwnP wr base (.slice (some ⟨g, 0, none⟩) n c) lst) ∧ Hid (w.grownBy wr (some g))) (fun _ j _ => n - (intOf j).toNat)
    case atStart => exact ⟨k, k + 1, l, rfl, rfl, Nat.succ_le_of_lt hkn, Nat.lt_succ_self k, HN.out.symm, hst, Lh rfl, hO1, hG1⟩
    case round =>
      clear hO1 hG1 hst
      obtain ⟨i, j, lst, rfl, rfl, hj, hij, hlen, hT, hD, hO, hG⟩ := hrel
      by_cases hlt : j < n
      · have hjl : j < lst.length := by omega
        have hjl0 : j < l.length := by rw [← HN.out]; exact hlt
        have hel : lst[j] = l[j] := by
          have := congrArg (fun t => t[0]?) hD.out
          simpa [List.getElem?_drop, hjl, hjl0] using this
        obtain ⟨A', c', eA, _, hr, _⟩ := OwnP.rd hO.out
        injection eA with eA1 eA2 eA3
        subst eA1
        obtain ⟨b, o, eb, hbl, h1, h2, h3⟩ := hr.get j hjl
        simp only [Option.some.injEq, Addr.mk.injEq, and_true] at eb
        obtain ⟨rfl, rfl⟩ := eb
        rw [hel] at h1 h2 h3
        have HK := Lh (fun (h : isz l[j] = false) => filter_keep l lst i j hjl0 hij (by rw [hlen, HN.out]) hT.out hD.out h)
        have HDR := Lh (fun (h : isz l[j] = true) => filter_drop l lst i j hjl0 hT.out hD.out h)
        have HFZ := Lh hO.out.fz
        obtain ⟨p, hp⟩ : ∃ p, l[j] = p := ⟨_, rfl⟩
        rw [hp] at h1 h2 h3 HK HDR
        obtain ⟨px, py, pz⟩ := p
        simp only [Nat.zero_add] at h1 h2 h3
        clear hel eA2 eA3 hr hp
        cases hf : isz ⟨px, py, pz⟩ with
        | true =>
          obtain ⟨hT2, hD2⟩ := HDR.out hf
          have hT2 := Lh hT2
          have hD2 := Lh hD2
          clear HK HDR
          go_wp2_with (go_at_call 127; refine (with1_calls _ _ _ _).mono ?_; rintro e w3 ⟨rfl, hb3⟩; rw [hf])
          go_roundw
          case rel => exact ⟨i, j + 1, lst, rfl, by go_num, by omega, by omega, hlen, hT2, hD2, Lh (hO.out.grown (bthen ((Below.refl _ wr).alloc (Nat.le_refl _) _) hb3)), Lh (gb_below hG.out (bthen ((Below.refl _ wr).alloc (Nat.le_refl _) _) hb3))⟩
          case measure => simp [intOf]; omega
        | false =>
          obtain ⟨hT2, hD2⟩ := HK.out hf
          have hT2 := Lh hT2
          have hD2 := Lh hD2
          clear HK HDR
          have hli : i < lst.length := by omega
          go_wp2_with (go_at_call 127; refine (with1_calls _ _ _ _).mono ?_; rintro e w3 ⟨rfl, hb3⟩; rw [hf]; have hN3 := (hb3.block wr.heap.size (by simp)).trans (heap_alloc_new wr (.cells #[.int .i64 px, .int .i64 py, .int .i64 pz] 23)); have b0 : w3.cell? ⟨wr.heap.size, 0, none⟩ = some (.int .i64 px) := (blk_cell hN3 0).trans rfl; have b1 : w3.cell? ⟨wr.heap.size, 1, none⟩ = some (.int .i64 py) := (blk_cell hN3 1).trans rfl; have b2 : w3.cell? ⟨wr.heap.size, 2, none⟩ = some (.int .i64 pz) := (blk_cell hN3 2).trans rfl; have hW3 := Lh (bthen ((Below.refl _ wr).alloc (Nat.le_refl _) (.cells #[.int .i64 px, .int .i64 py, .int .i64 pz] 23)) hb3); have hO3 := Lh (hO.out.grown hW3.out); have ⟨g0, g1, g2⟩ := hO3.out.at3 i hli; have F0 := hO3.out.fz.1 (i * 3); have F1 := hO3.out.fz.1 (i * 3 + 1); have F2 := hO3.out.fz.1 (i * 3 + 2); clear hN3 hb3)
          go_roundw
          case rel => exact ⟨i + 1, j + 1, lst.set i ⟨px, py, pz⟩, by go_num, by go_num, by omega, by omega, by rw [List.length_set]; exact hlen, hT2, hD2, Lh (hO3.out.setAt i hli ⟨px, py, pz⟩), Lh (gb_set (gb_set (gb_set (gb_below hG.out hW3.out) _ _) _ _) _ _)⟩
          case measure => simp [intOf]; omega
      · obtain rfl : j = n := by omega
        have hi : (i : Int) ≤ (j : Int) := by omega
        have hTT : lst.take i = l.filter nz := by rw [hT.out, List.take_of_length_le (by rw [← HN.out]; exact Nat.le_refl _)]
        obtain ⟨w9, hrun, ho9, hg9⟩ := run_clear_pts wr base g j c i (c - i) 0 lst hO.out hij
        rw [hTT] at ho9
        go_wp2
        go_ret
        exact ⟨i, rfl, ho9, gb_trans hG.out hg9⟩
end Go.Proofs.Ytckdhahceelckaa.G
namespace Go.Proofs.Ytckdhahceelckaa.G
open Go.RowKit Go.Proofs.YtckdhahceelckaaW.PrintWords Go.Proofs.YtckdhahceelckaaW.PrintLast Go.Proofs.YtckdhahceelckaaW.PrintMore
attribute [local go_sem] max2_mx min2_mn max_two min_two max_three min_three max_four min_four
attribute [local go_sem high] eqA23
set_option linter.unusedVariables false
set_option linter.unusedSimpArgs false
set_option maxHeartbeats 4000000 in
set_option maxRecDepth 100000 in
theorem may_F (p a e : List P3) (r : Int) (A0 A1 A2 : Option Addr) (c0 c1 c2 : Nat) (w : World) (h0 : Rd w A0 p) (h1 : Rd w A1 a) (h2 : Rd w A2 e) (k0 : p.length ≤ c0) (k1 : a.length ≤ c1) (k2 : e.length ≤ c2)
    (hp1 : 0 < p.length) (hp2 : p.length ≤ 32) (ha : a.length ≤ 128) (he : e.length ≤ 128) (hr1 : 0 ≤ r) (hr2 : r ≤ 65536) (hF : p.any (far3 16777216) = true) :
    Calls Try.prog 57 #[.agg #[.slice A0 p.length c0, .slice A1 a.length c1, .slice A2 e.length c2, .int .i64 r]] w fun e w' => e = .returned (.bool false) ∧ Below w.heap.size w w' := by
  have H0 := Lh h0
  have H1 := Lh h1
  have H2 := Lh h2
  have HF := Lh hF
  clear h0 h1 h2 hF 
  obtain ⟨np, hnp⟩ : ∃ n, p.length = n := ⟨_, rfl⟩
  obtain ⟨na, hna⟩ : ∃ n, a.length = n := ⟨_, rfl⟩
  obtain ⟨ne, hne⟩ : ∃ n, e.length = n := ⟨_, rfl⟩
  rw [hnp] at hp1 hp2 k0 ⊢
  rw [hna] at ha k1 ⊢
  rw [hne] at he k2 ⊢
  have HNP := Lh hnp
  have HNA := Lh hna
  have HNE := Lh hne
  clear hnp hna hne
  have t1 : decide ((0 : Int) < (np : Int)) = true := by simp; omega
  have t2 : decide ((np : Int) ≤ 32) = true := by simp; omega
  have t3 : decide (mx (na : Int) (ne : Int) ≤ 128) = true := by simp [mx]; split <;> omega
  have t4 : decide (0 ≤ r) = true := by simp; omega
  have t5 : decide (r ≤ 65536) = true := by simp; omega
  have z := heap_alloc_new w (.cells #[.slice A0 np c0, .slice A1 na c1, .slice A2 ne c2, .int .i64 r] 36)
  have zb := (Below.refl _ w).alloc (Nat.le_refl _) (.cells #[.slice A0 np c0, .slice A1 na c1, .slice A2 ne c2, .int .i64 r] 36)
  obtain ⟨w1, hw1⟩ : ∃ V, w.alloc (.cells #[.slice A0 np c0, .slice A1 na c1, .slice A2 ne c2, .int .i64 r] 36) = V := ⟨_, rfl⟩
  rw [hw1] at z zb
  have hw1' := Lh hw1
  have ZB := Lh zb
  have lt0 : w.heap.size < w1.heap.size := blk_lt z
  clear hw1 zb
  go_enter Try.func57, Try.ntmps57
  go_wp2
  rw [hw1'.out]
  clear hw1'
  have x0 : w1.cell? ⟨w.heap.size, 0, none⟩ = some (.slice A0 np c0) := (blk_cell z 0).trans rfl
  have x1 : w1.cell? ⟨w.heap.size, 1, none⟩ = some (.slice A1 na c1) := (blk_cell z 1).trans rfl
  have x2 : w1.cell? ⟨w.heap.size, 2, none⟩ = some (.slice A2 ne c2) := (blk_cell z 2).trans rfl
  have x3 : w1.cell? ⟨w.heap.size, 3, none⟩ = some (.int .i64 r) := (blk_cell z 3).trans rfl
  have HB := Lh ((Below.refl (w1.heap.size) w1).drew)
  have FF := Lh (show ∀ V, Hid (Below (w1.heap.size) w1 V) → V.cell? ⟨w.heap.size, 0, none⟩ = some (.slice A0 np c0) ∧ V.cell? ⟨w.heap.size, 1, none⟩ = some (.slice A1 na c1) ∧ V.cell? ⟨w.heap.size, 2, none⟩ = some (.slice A2 ne c2) ∧ V.cell? ⟨w.heap.size, 3, none⟩ = some (.int .i64 r) from fun V HB => ⟨(HB.out.cell (p := ⟨w.heap.size, 0, none⟩) (lt0)).trans x0, (HB.out.cell (p := ⟨w.heap.size, 1, none⟩) (lt0)).trans x1, (HB.out.cell (p := ⟨w.heap.size, 2, none⟩) (lt0)).trans x2, (HB.out.cell (p := ⟨w.heap.size, 3, none⟩) (lt0)).trans x3⟩)
  refine start_ (n := 52) (S := fun w' => w'.cell? ⟨w.heap.size, 0, none⟩ = some (.slice A0 np c0) ∧ w'.cell? ⟨w.heap.size, 1, none⟩ = some (.slice A1 na c1) ∧ w'.cell? ⟨w.heap.size, 2, none⟩ = some (.slice A2 ne c2) ∧ w'.cell? ⟨w.heap.size, 3, none⟩ = some (.int .i64 r)) (ds := []) (MT 0 52) (by kernel_rfl) rfl rfl (FF.out _ HB) (fun hHeld => ?_)
  obtain ⟨wd, hwd⟩ : ∃ x, w1.drew = x := ⟨_, rfl⟩
  rw [hwd] at HB hHeld ⊢
  clear hwd
  refine pu_ 0 3 (h := ?_)
  refine ta_ 1 4 hHeld (h := ?_)
  refine pu_ 2 5 (h := ?_)
  refine pu_ 3 6 (h := ?_)
  refine pu_ 4 7 (h := ?_)
  refine pu_ 5 8 (h := ?_)
  refine ta_ 6 9 hHeld (h := ?_)
  refine pu_ 7 10 (h := ?_)
  refine pu_ 8 11 (h := ?_)
  refine pu_ 9 12 (h := ?_)
  refine pu_ 10 13 (h := ?_)
  refine pu_ 11 14 (h := ?_)
  refine pu_ 14 17 (h := ?_)
  refine ta_ 12 15 hHeld (h := ?_)
  refine pu_ 13 16 (h := ?_)
  refine ta_ 15 18 hHeld (h := ?_)
  refine pu_ 16 19 (h := ?_)
  refine pu_ 17 20 (h := ?_)
  refine pu_ 18 21 (h := ?_)
  refine pu_ 19 22 (h := ?_)
  refine pu_ 20 23 (h := ?_)
  refine pu_ 21 24 (h := ?_)
  refine ta_ 22 25 hHeld (h := ?_)
  refine pu_ 23 26 (h := ?_)
  refine pu_ 24 27 (h := ?_)
  refine pu_ 25 28 (h := ?_)
  refine pu_ 26 29 (h := ?_)
  refine ta_ 27 30 hHeld (h := ?_)
  refine pu_ 28 31 (h := ?_)
  refine pu_ 29 32 (h := ?_)
  refine pu_ 30 33 (h := ?_)
  refine pu_ 31 34 (h := ?_)
  refine ta_ 32 35 hHeld (h := ?_)
  refine on_ 33 (some 36) (h := fun K hK => ?_)
  refine gs_ Try.func65 #[.int .i64 16777216] ?_
  with_reducible refine (beyondE_calls _ _).mono ?_
  rintro e' w2 ⟨g, rfl, kg_, hb⟩
  have HB := Lh (HB.out.trans (hb.mono HB.out.size))
  have HGc := Lh kg_
  clear kg_
  clear hb
  refine ⟨_, rfl, ?_⟩
  refine hK.out _ _ (FF.out _ HB) (fun hHeld => ?_)
  clear hK K
  refine no_ (h := ?_)
  refine on_ 34 (some 37) (h := fun K hK => ?_)
  refine gs_ Try.func68 #[.slice A0 np c0, .func (.func 121) #[] #[.pointer (some ⟨g, 0, none⟩)]] ?_
  with_reducible refine (contains_calls' p _ _ _ 16777216 _ true _ HNP.out HF.out (H0.out.below (bthen ZB.out HB.out)) k0 (by omega) HGc.out (by decide) (by decide)).mono ?_
  rintro e' w2 ⟨rfl, hb⟩
  have HB := Lh (HB.out.trans (hb.mono HB.out.size))
  clear HGc
  clear hb
  refine ⟨_, rfl, ?_⟩
  refine hK.out _ _ (FF.out _ HB) (fun hHeld => ?_)
  clear hK K
  refine no_ (h := ?_)
  refine pu_ 35 38 (h := ?_)
  refine pu_ 36 39 (h := ?_)
  refine pu_ 37 40 (h := ?_)
  refine of_ 38 41 (h := ?_)
  refine of_ 39 42 (h := ?_)
  refine of_ 40 43 (h := ?_)
  refine of_ 41 44 (h := ?_)
  refine of_ 42 45 (h := ?_)
  refine pu_ 43 46 (h := ?_)
  refine pu_ 44 47 (h := ?_)
  refine of_ 45 48 (h := ?_)
  refine of_ 46 49 (h := ?_)
  refine of_ 47 50 (h := ?_)
  refine of_ 48 51 (h := ?_)
  refine of_ 49 52 (h := ?_)
  refine pu_ 50 53 (h := ?_)
  refine pu_ 51 2 (h := ?_)
  refine done_ (by kernel_rfl) ?_
  have ZF := Lh (bthen ZB.out HB.out)
  go_wp2
  go_ret
  exact ⟨rfl, ZF.out⟩
set_option maxHeartbeats 4000000 in
set_option maxRecDepth 100000 in
theorem may_G (p a e : List P3) (r : Int) (A0 A1 A2 : Option Addr) (c0 c1 c2 : Nat) (w : World) (h0 : Rd w A0 p) (h1 : Rd w A1 a) (h2 : Rd w A2 e) (k0 : p.length ≤ c0) (k1 : a.length ≤ c1) (k2 : e.length ≤ c2)
    (hp1 : 0 < p.length) (hp2 : p.length ≤ 32) (ha : a.length ≤ 128) (he : e.length ≤ 128) (hr1 : 0 ≤ r) (hr2 : r ≤ 65536) (hF : p.any (far3 16777216) = false) (hG : a.any (far3 1048576) = true) :
    Calls Try.prog 57 #[.agg #[.slice A0 p.length c0, .slice A1 a.length c1, .slice A2 e.length c2, .int .i64 r]] w fun e w' => e = .returned (.bool false) ∧ Below w.heap.size w w' := by
  have H0 := Lh h0
  have H1 := Lh h1
  have H2 := Lh h2
  have HF := Lh hF
  have HG := Lh hG
  clear h0 h1 h2 hF hG
  obtain ⟨np, hnp⟩ : ∃ n, p.length = n := ⟨_, rfl⟩
  obtain ⟨na, hna⟩ : ∃ n, a.length = n := ⟨_, rfl⟩
  obtain ⟨ne, hne⟩ : ∃ n, e.length = n := ⟨_, rfl⟩
  rw [hnp] at hp1 hp2 k0 ⊢
  rw [hna] at ha k1 ⊢
  rw [hne] at he k2 ⊢
  have HNP := Lh hnp
  have HNA := Lh hna
  have HNE := Lh hne
  clear hnp hna hne
  have t1 : decide ((0 : Int) < (np : Int)) = true := by simp; omega
  have t2 : decide ((np : Int) ≤ 32) = true := by simp; omega
  have t3 : decide (mx (na : Int) (ne : Int) ≤ 128) = true := by simp [mx]; split <;> omega
  have t4 : decide (0 ≤ r) = true := by simp; omega
  have t5 : decide (r ≤ 65536) = true := by simp; omega
  have z := heap_alloc_new w (.cells #[.slice A0 np c0, .slice A1 na c1, .slice A2 ne c2, .int .i64 r] 36)
  have zb := (Below.refl _ w).alloc (Nat.le_refl _) (.cells #[.slice A0 np c0, .slice A1 na c1, .slice A2 ne c2, .int .i64 r] 36)
  obtain ⟨w1, hw1⟩ : ∃ V, w.alloc (.cells #[.slice A0 np c0, .slice A1 na c1, .slice A2 ne c2, .int .i64 r] 36) = V := ⟨_, rfl⟩
  rw [hw1] at z zb
  have hw1' := Lh hw1
  have ZB := Lh zb
  have lt0 : w.heap.size < w1.heap.size := blk_lt z
  clear hw1 zb
  go_enter Try.func57, Try.ntmps57
  go_wp2
  rw [hw1'.out]
  clear hw1'
  have x0 : w1.cell? ⟨w.heap.size, 0, none⟩ = some (.slice A0 np c0) := (blk_cell z 0).trans rfl
  have x1 : w1.cell? ⟨w.heap.size, 1, none⟩ = some (.slice A1 na c1) := (blk_cell z 1).trans rfl
  have x2 : w1.cell? ⟨w.heap.size, 2, none⟩ = some (.slice A2 ne c2) := (blk_cell z 2).trans rfl
  have x3 : w1.cell? ⟨w.heap.size, 3, none⟩ = some (.int .i64 r) := (blk_cell z 3).trans rfl
  have HB := Lh ((Below.refl (w1.heap.size) w1).drew)
  have FF := Lh (show ∀ V, Hid (Below (w1.heap.size) w1 V) → V.cell? ⟨w.heap.size, 0, none⟩ = some (.slice A0 np c0) ∧ V.cell? ⟨w.heap.size, 1, none⟩ = some (.slice A1 na c1) ∧ V.cell? ⟨w.heap.size, 2, none⟩ = some (.slice A2 ne c2) ∧ V.cell? ⟨w.heap.size, 3, none⟩ = some (.int .i64 r) from fun V HB => ⟨(HB.out.cell (p := ⟨w.heap.size, 0, none⟩) (lt0)).trans x0, (HB.out.cell (p := ⟨w.heap.size, 1, none⟩) (lt0)).trans x1, (HB.out.cell (p := ⟨w.heap.size, 2, none⟩) (lt0)).trans x2, (HB.out.cell (p := ⟨w.heap.size, 3, none⟩) (lt0)).trans x3⟩)
  refine start_ (n := 52) (S := fun w' => w'.cell? ⟨w.heap.size, 0, none⟩ = some (.slice A0 np c0) ∧ w'.cell? ⟨w.heap.size, 1, none⟩ = some (.slice A1 na c1) ∧ w'.cell? ⟨w.heap.size, 2, none⟩ = some (.slice A2 ne c2) ∧ w'.cell? ⟨w.heap.size, 3, none⟩ = some (.int .i64 r)) (ds := []) (MT 0 52) (by kernel_rfl) rfl rfl (FF.out _ HB) (fun hHeld => ?_)
  obtain ⟨wd, hwd⟩ : ∃ x, w1.drew = x := ⟨_, rfl⟩
  rw [hwd] at HB hHeld ⊢
  clear hwd
  refine pu_ 0 3 (h := ?_)
  refine ta_ 1 4 hHeld (h := ?_)
  refine pu_ 2 5 (h := ?_)
  refine pu_ 3 6 (h := ?_)
  refine pu_ 4 7 (h := ?_)
  refine pu_ 5 8 (h := ?_)
  refine ta_ 6 9 hHeld (h := ?_)
  refine pu_ 7 10 (h := ?_)
  refine pu_ 8 11 (h := ?_)
  refine pu_ 9 12 (h := ?_)
  refine pu_ 10 13 (h := ?_)
  refine pu_ 11 14 (h := ?_)
  refine pu_ 14 17 (h := ?_)
  refine ta_ 12 15 hHeld (h := ?_)
  refine pu_ 13 16 (h := ?_)
  refine ta_ 15 18 hHeld (h := ?_)
  refine pu_ 16 19 (h := ?_)
  refine pu_ 17 20 (h := ?_)
  refine pu_ 18 21 (h := ?_)
  refine pu_ 19 22 (h := ?_)
  refine pu_ 20 23 (h := ?_)
  refine pu_ 21 24 (h := ?_)
  refine ta_ 22 25 hHeld (h := ?_)
  refine pu_ 23 26 (h := ?_)
  refine pu_ 24 27 (h := ?_)
  refine pu_ 25 28 (h := ?_)
  refine pu_ 26 29 (h := ?_)
  refine ta_ 27 30 hHeld (h := ?_)
  refine pu_ 28 31 (h := ?_)
  refine pu_ 29 32 (h := ?_)
  refine pu_ 30 33 (h := ?_)
  refine pu_ 31 34 (h := ?_)
  refine ta_ 32 35 hHeld (h := ?_)
  refine on_ 33 (some 36) (h := fun K hK => ?_)
  refine gs_ Try.func65 #[.int .i64 16777216] ?_
  with_reducible refine (beyondE_calls _ _).mono ?_
  rintro e' w2 ⟨g, rfl, kg_, hb⟩
  have HB := Lh (HB.out.trans (hb.mono HB.out.size))
  have HGc := Lh kg_
  clear kg_
  clear hb
  refine ⟨_, rfl, ?_⟩
  refine hK.out _ _ (FF.out _ HB) (fun hHeld => ?_)
  clear hK K
  refine no_ (h := ?_)
  refine on_ 34 (some 37) (h := fun K hK => ?_)
  refine gs_ Try.func68 #[.slice A0 np c0, .func (.func 121) #[] #[.pointer (some ⟨g, 0, none⟩)]] ?_
  with_reducible refine (contains_calls' p _ _ _ 16777216 _ false _ HNP.out HF.out (H0.out.below (bthen ZB.out HB.out)) k0 (by omega) HGc.out (by decide) (by decide)).mono ?_
  rintro e' w2 ⟨rfl, hb⟩
  have HB := Lh (HB.out.trans (hb.mono HB.out.size))
  clear HGc
  clear hb
  refine ⟨_, rfl, ?_⟩
  refine hK.out _ _ (FF.out _ HB) (fun hHeld => ?_)
  clear hK K
  refine no_ (h := ?_)
  refine pu_ 35 38 (h := ?_)
  refine pu_ 36 39 (h := ?_)
  refine pu_ 37 40 (h := ?_)
  refine pu_ 38 41 (h := ?_)
  refine ta_ 39 42 hHeld (h := ?_)
  refine on_ 40 (some 43) (h := fun K hK => ?_)
  refine gs_ Try.func65 #[.int .i64 1048576] ?_
  with_reducible refine (beyondE_calls _ _).mono ?_
  rintro e' w2 ⟨g2, rfl, kg_, hb⟩
  have HB := Lh (HB.out.trans (hb.mono HB.out.size))
  have HGc := Lh kg_
  clear kg_
  clear hb
  refine ⟨_, rfl, ?_⟩
  refine hK.out _ _ (FF.out _ HB) (fun hHeld => ?_)
  clear hK K
  refine no_ (h := ?_)
  refine on_ 41 (some 44) (h := fun K hK => ?_)
  refine gs_ Try.func68 #[.slice A1 na c1, .func (.func 121) #[] #[.pointer (some ⟨g2, 0, none⟩)]] ?_
  with_reducible refine (contains_calls' a _ _ _ 1048576 _ true _ HNA.out HG.out (H1.out.below (bthen ZB.out HB.out)) k1 (by omega) HGc.out (by decide) (by decide)).mono ?_
  rintro e' w2 ⟨rfl, hb⟩
  have HB := Lh (HB.out.trans (hb.mono HB.out.size))
  clear HGc
  clear hb
  refine ⟨_, rfl, ?_⟩
  refine hK.out _ _ (FF.out _ HB) (fun hHeld => ?_)
  clear hK K
  refine no_ (h := ?_)
  refine pu_ 42 45 (h := ?_)
  refine pu_ 43 46 (h := ?_)
  refine pu_ 44 47 (h := ?_)
  refine of_ 45 48 (h := ?_)
  refine of_ 46 49 (h := ?_)
  refine of_ 47 50 (h := ?_)
  refine of_ 48 51 (h := ?_)
  refine of_ 49 52 (h := ?_)
  refine pu_ 50 53 (h := ?_)
  refine pu_ 51 2 (h := ?_)
  refine done_ (by kernel_rfl) ?_
  have ZF := Lh (bthen ZB.out HB.out)
  go_wp2
  go_ret
  exact ⟨rfl, ZF.out⟩
end Go.Proofs.Ytckdhahceelckaa.G
namespace Go.Proofs.Ytckdhahceelckaa.G
open Go.RowKit Go.Proofs.YtckdhahceelckaaW.PrintWords Go.Proofs.YtckdhahceelckaaW.PrintLast Go.Proofs.YtckdhahceelckaaW.PrintMore
attribute [local go_sem] max2_mx min2_mn max_two min_two max_three min_three max_four min_four
attribute [local go_sem high] eqA23
set_option linter.unusedVariables false
set_option linter.unusedSimpArgs false
theorem mayF_iff (p a e : List P3) (r : Int) : mayF p a e r = true ↔ MayP p a e r := by
  unfold mayF
  simp only [Bool.and_eq_true, decide_eq_true_eq, Bool.not_eq_true']
  constructor
  · rintro ⟨⟨⟨⟨⟨⟨⟨⟨h1, h2⟩, h3⟩, h4⟩, h5⟩, h6⟩, h7⟩, h8⟩, h9⟩
    exact ⟨List.length_pos_iff.1 h1, h2, h3, h4, h5, h6, h7, h8, h9⟩
  · rintro ⟨h1, h2, h3, h4, h5, h6, h7, h8, h9⟩
    exact ⟨⟨⟨⟨⟨⟨⟨⟨List.length_pos_iff.2 h1, h2⟩, h3⟩, h4⟩, h5⟩, h6⟩, h7⟩, h8⟩, h9⟩
theorem may_all {w : World} {v : Value} {p a e : List P3} {r : Int} (h : CoreV w v p a e r) : MaySays w v (mayF p a e r) := fun w' hb => by
  obtain ⟨A0, A1, A2, c0, c1, c2, rfl, h0, h1, h2, h3, h4, h5⟩ := (h.below hb).out
  have no : ∀ (P : Prop), P → (MayP p a e r → ¬P) → mayF p a e r = false := fun P hP hn => by
    cases hm : mayF p a e r with
    | false => rfl
    | true => exact absurd hP (hn ((mayF_iff p a e r).1 hm))
  rcases Nat.eq_zero_or_pos p.length with e0 | p0
  · rw [no _ e0 (fun m => by have := List.length_pos_iff.2 m.p0; omega)]
    exact may_A p a e r A0 A1 A2 c0 c1 c2 w' h0.1 h1.1 h2.1 h3 h4 h5 false false false e0
  rcases Nat.lt_or_ge 32 p.length with e1 | p1
  · rw [no _ e1 (fun m => by have := m.p1; omega)]
    exact may_B p a e r A0 A1 A2 c0 c1 c2 w' h0.1 h1.1 h2.1 h3 h4 h5 false false false p0 e1
  by_cases e2 : 128 < a.length ∨ 128 < e.length
  · rw [no _ e2 (fun m => by have := m.a1; have := m.e1; omega)]
    exact may_C p a e r A0 A1 A2 c0 c1 c2 w' h0.1 h1.1 h2.1 h3 h4 h5 false false false p0 p1 e2
  have a1 : a.length ≤ 128 := by omega
  have e1 : e.length ≤ 128 := by omega
  rcases Int.lt_or_le r 0 with e3 | r0
  · rw [no _ e3 (fun m => by have := m.r0; omega)]
    exact may_D p a e r A0 A1 A2 c0 c1 c2 w' h0.1 h1.1 h2.1 h3 h4 h5 false false false p0 p1 a1 e1 e3
  rcases Int.lt_or_le 65536 r with e4 | r1
  · rw [no _ e4 (fun m => by have := m.r1; omega)]
    exact may_E p a e r A0 A1 A2 c0 c1 c2 w' h0.1 h1.1 h2.1 h3 h4 h5 false false false p0 p1 a1 e1 r0 e4
  cases hF : p.any (far3 16777216) with
  | true =>
    rw [no _ hF (fun m => by rw [m.pf]; decide)]
    exact may_F p a e r A0 A1 A2 c0 c1 c2 w' h0.1 h1.1 h2.1 h3 h4 h5 p0 p1 a1 e1 r0 r1 hF
  | false =>
    cases hG : a.any (far3 1048576) with
    | true =>
      rw [no _ hG (fun m => by rw [m.af]; decide)]
      exact may_G p a e r A0 A1 A2 c0 c1 c2 w' h0.1 h1.1 h2.1 h3 h4 h5 p0 p1 a1 e1 r0 r1 hF hG
    | false =>
      have hB : mayF p a e r = !(e.any (far3 1048576)) := by
        unfold mayF
        rw [hF, hG, decide_eq_true p0, decide_eq_true p1, decide_eq_true a1, decide_eq_true e1, decide_eq_true r0, decide_eq_true r1]
        rfl
      rw [hB]
      exact may_yes p a e r A0 A1 A2 c0 c1 c2 w' h0.1 h1.1 h2.1 h3 h4 h5 _ false false p0 p1 a1 e1 r0 r1 hF hG rfl
end Go.Proofs.Ytckdhahceelckaa.G
namespace Go.Proofs.Ytckdhahceelckaa.G
open Go.RowKit Go.Proofs.YtckdhahceelckaaW.PrintWords Go.Proofs.YtckdhahceelckaaW.PrintLast Go.Proofs.YtckdhahceelckaaW.PrintMore
attribute [local go_sem] max2_mx min2_mn max_two min_two max_three min_three max_four min_four
attribute [local go_sem high] eqA23
set_option linter.unusedVariables false
set_option linter.unusedSimpArgs false
theorem RdB.set4' {w : World} {A : Option Addr} {l : List P3} (h : RdB w A l) {g : Nat} (hne : ∀ ad, A = some ad → ad.block ≠ g) (x y z u : Value) : RdB (set4 w g x y z u) A l :=
  h.blk (by simp) fun ad e => heap_set4 w g ad.block (hne ad e) x y z u
/-- the state of Apart's loop: two cores, the answer's block, the best so far, the candidates -/
structure ASt (w W : World) (ca cb : Array Value) (OB : Nat) (o : P3 × Int) (A : Option Addr) (C : List P3) : Prop where
  below : Below w.heap.size w W
  z0 : W.heap[w.heap.size]? = some (.cells ca 36 (0, 0))
  z1 : W.heap[w.heap.size + 1]? = some (.cells cb 36 (0, 0))
  z2 : W.heap[w.heap.size + 2]? = some (.cells #[.int .i64 0, .int .i64 0, .int .i64 0, .int .i64 0] 40 (0, 0))
  ob : W.heap[OB]? = some (.cells #[.int .i64 o.1.x, .int .i64 o.1.y, .int .i64 o.1.z, .int .i64 o.2] 40 (0, 0))
  rd : RdB W A C
  lo : w.heap.size + 2 < OB
  ne : ∀ ad, A = some ad → ad.block ≠ OB
theorem ASt.then {w W V : World} {ca cb : Array Value} {OB : Nat} {o : P3 × Int} {A : Option Addr} {C : List P3} (h : ASt w W ca cb OB o A C) (hb : Below W.heap.size W V) : ASt w V ca cb OB o A C :=
  ⟨bthen h.below hb, (hb.block _ (blk_lt h.z0)).trans h.z0, (hb.block _ (blk_lt h.z1)).trans h.z1, (hb.block _ (blk_lt h.z2)).trans h.z2, (hb.block _ (blk_lt h.ob)).trans h.ob, h.rd.below hb, h.lo, h.ne⟩
theorem ASt.put {w W : World} {ca cb : Array Value} {OB : Nat} {o : P3 × Int} {A : Option Addr} {C : List P3} (h : ASt w W ca cb OB o A C) (x y z g : Int) : ASt w (set4 W OB (.int .i64 x) (.int .i64 y) (.int .i64 z) (.int .i64 g)) ca cb OB (⟨x, y, z⟩, g) A C := by
  have lo := h.lo
  exact ⟨below_set4 h.below (by omega) _ _ _ _, (heap_set4 W OB _ (by omega) _ _ _ _).trans h.z0, (heap_set4 W OB _ (by omega) _ _ _ _).trans h.z1, (heap_set4 W OB _ (by omega) _ _ _ _).trans h.z2, blk4_set h.ob _ _ _ _, h.rd.set4' h.ne _ _ _ _, h.lo, h.ne⟩
end Go.Proofs.Ytckdhahceelckaa.G
namespace Go.Proofs.Ytckdhahceelckaa.G
open Go.RowKit Go.Proofs.YtckdhahceelckaaW.PrintWords Go.Proofs.YtckdhahceelckaaW.PrintLast Go.Proofs.YtckdhahceelckaaW.PrintMore
attribute [local go_sem] max2_mx min2_mn max_two min_two max_three min_three max_four min_four
attribute [local go_sem high] eqA23
set_option linter.unusedVariables false
set_option linter.unusedSimpArgs false
set_option maxHeartbeats 2000000 in
theorem apart_noa (v0 v1 v2 v3 u0 u1 u2 u3 : Value) (w : World) (ha : MaySays w (.agg #[v0, v1, v2, v3]) false) :
    Calls Try.prog 20 #[.agg #[v0, v1, v2, v3], .agg #[u0, u1, u2, u3]] w fun e w' => e = .returned (.tuple #[.agg #[.int .i64 0, .int .i64 0, .int .i64 0, .int .i64 0], .bool false]) ∧ Below w.heap.size w w' := by
  have HA := Lh ha
  clear ha
  have Hb0 := three1 w (.cells #[v0, v1, v2, v3] 36) (.cells #[u0, u1, u2, u3] 36) (.cells #[.int .i64 0, .int .i64 0, .int .i64 0, .int .i64 0] 40)
  have Hr0 := three2 w (.cells #[v0, v1, v2, v3] 36) (.cells #[u0, u1, u2, u3] 36) (.cells #[.int .i64 0, .int .i64 0, .int .i64 0, .int .i64 0] 40)
  have HW3 : Below w.heap.size w (((w.alloc (.cells #[v0, v1, v2, v3] 36)).alloc (.cells #[u0, u1, u2, u3] 36)).alloc (.cells #[.int .i64 0, .int .i64 0, .int .i64 0, .int .i64 0] 40)) := (((Below.refl _ w).alloc (Nat.le_refl _) _).alloc (by simp) _).alloc (by simp; omega) _
  have HB0 := Lh Hb0
  have HR0 := Lh Hr0
  clear Hb0 Hr0
  go_enter Try.func20, Try.ntmps20
  go_wp2_with fail
  obtain ⟨w3, hw3⟩ : ∃ w3, ((w.alloc (.cells #[v0, v1, v2, v3] 36)).alloc (.cells #[u0, u1, u2, u3] 36)).alloc (.cells #[.int .i64 0, .int .i64 0, .int .i64 0, .int .i64 0] 40) = w3 := ⟨_, rfl⟩
  rw [hw3] at HB0 HR0 HW3 ⊢
  clear hw3
  refine (HA.out _ HW3).mono ?_
  rintro e w4 ⟨rfl, hb4⟩
  have Hr4 := (hb4.block _ (blk_lt HR0.out)).trans HR0.out
  have HW4 := bthen HW3 hb4
  clear HB0 HR0 HW3 hb4
  have v0 : w4.cell? ⟨w.heap.size + 1 + 1, 0, none⟩ = some (.int .i64 0) := (blk_cell Hr4 0).trans rfl
  have v1 : w4.cell? ⟨w.heap.size + 1 + 1, 1, none⟩ = some (.int .i64 0) := (blk_cell Hr4 1).trans rfl
  have v2 : w4.cell? ⟨w.heap.size + 1 + 1, 2, none⟩ = some (.int .i64 0) := (blk_cell Hr4 2).trans rfl
  have v3 : w4.cell? ⟨w.heap.size + 1 + 1, 3, none⟩ = some (.int .i64 0) := (blk_cell Hr4 3).trans rfl
  have f0 : w4.frozen? ⟨w.heap.size + 1 + 1, 0, none⟩ = false := blk_frozen Hr4 0
  have f1 : w4.frozen? ⟨w.heap.size + 1 + 1, 1, none⟩ = false := blk_frozen Hr4 1
  have f2 : w4.frozen? ⟨w.heap.size + 1 + 1, 2, none⟩ = false := blk_frozen Hr4 2
  have f3 : w4.frozen? ⟨w.heap.size + 1 + 1, 3, none⟩ = false := blk_frozen Hr4 3
  obtain ⟨V, hV⟩ : ∃ V, set4 w4 (w.heap.size + 1 + 1) (.int .i64 0) (.int .i64 0) (.int .i64 0) (.int .i64 0) = V := ⟨_, rfl⟩
  have HV : V.heap[w.heap.size + 1 + 1]? = some (.cells #[.int .i64 0, .int .i64 0, .int .i64 0, .int .i64 0] 40 (0, 0)) := by rw [← hV]; exact blk4_set Hr4 _ _ _ _
  have HBV : Below w.heap.size w V := by rw [← hV]; exact below_set4 HW4 (by omega) _ _ _ _
  have t0 : V.cell? ⟨w.heap.size + 1 + 1, 0, none⟩ = some (.int .i64 0) := (blk_cell HV 0).trans rfl
  have t1 : V.cell? ⟨w.heap.size + 1 + 1, 1, none⟩ = some (.int .i64 0) := (blk_cell HV 1).trans rfl
  have t2 : V.cell? ⟨w.heap.size + 1 + 1, 2, none⟩ = some (.int .i64 0) := (blk_cell HV 2).trans rfl
  have t3 : V.cell? ⟨w.heap.size + 1 + 1, 3, none⟩ = some (.int .i64 0) := (blk_cell HV 3).trans rfl
  go_wp2
  (try rw [hV])
  exact bodyPost_ret (v := .tuple #[.agg #[.int .i64 0, .int .i64 0, .int .i64 0, .int .i64 0], .bool false]) (by simp [results, Try.results20, go_sem, t0, t1, t2, t3]) rfl ⟨rfl, HBV⟩
/-- Apart's whole answer -/
def apartS (p a e : List P3) (r : Int) (q b f : List P3) (s : Int) : (P3 × Int) × Bool := if (mayF p a e r && mayF q b f s) = true then (apartF p a e r q b f s, true) else ((⟨0, 0, 0⟩, 0), false)
theorem apart_all {w : World} {v u : Value} {p a e : List P3} {r : Int} {q b f : List P3} {s : Int} (hv : CoreV w v p a e r) (hu : CoreV w u q b f s) (R : (P3 × Int) × Bool) (hR : apartS p a e r q b f s = R) :
    Calls Try.prog 20 #[v, u] w fun en w' => en = .returned (.tuple #[.agg #[.int .i64 R.1.1.x, .int .i64 R.1.1.y, .int .i64 R.1.1.z, .int .i64 R.1.2], .bool R.2]) ∧ Below w.heap.size w w' := by
  subst hR
  have ha := may_all hv
  have hb := may_all hu
  obtain ⟨A0, A1, A2, c0, c1, c2, hve, _⟩ := hv.out
  obtain ⟨B0, B1, B2, d0, d1, d2, hue, _⟩ := hu.out
  unfold apartS
  cases h1 : mayF p a e r with
  | false =>
    rw [h1] at ha
    subst hve hue
    exact apart_noa _ _ _ _ _ _ _ _ w ha
  | true =>
    cases h2 : mayF q b f s with
    | false =>
      rw [h1] at ha
      rw [h2] at hb
      subst hve hue
      exact apart_nob _ _ _ _ _ _ _ _ w ha hb
    | true => exact apart_calls p a e r q b f s v u w hv hu ((mayF_iff p a e r).1 h1) ((mayF_iff q b f s).1 h2) _ rfl
end Go.Proofs.Ytckdhahceelckaa.G
namespace Go.Proofs.Ytckdhahceelckaa.G
open Go.RowKit Go.Proofs.YtckdhahceelckaaW.PrintWords Go.Proofs.YtckdhahceelckaaW.PrintLast Go.Proofs.YtckdhahceelckaaW.PrintMore
set_option linter.unusedVariables false
set_option linter.unusedSimpArgs false
/-- a core: points, axes, edges, radius -/
structure Cr where
  p : List P3
  a : List P3
  e : List P3
  r : Int
/-- a value speaks of a core -/
def CrV (w : World) (v : Value) (c : Cr) : Prop := CoreV w v c.p c.a c.e c.r
theorem CrV.below {w w1 : World} {v : Value} {c : Cr} (h : CrV w v c) (hb : Below w.heap.size w w1) : CrV w1 v c := CoreV.below h hb
def Cr.may (c : Cr) : Bool := mayF c.p c.a c.e c.r
abbrev Cr0 : Cr := ⟨[], [], [], 0⟩
/-- narrow.Apart of any two -/
def apS (c d : Cr) : (P3 × Int) × Bool := apartS c.p c.a c.e c.r d.p d.a d.e d.r
theorem apS_may (c d : Cr) : (apS c d).2 = (c.may && d.may) := by
  unfold apS apartS Cr.may
  split
  · rename_i h; exact h.symm
  · rename_i h; simpa using h
theorem apS_val {c d : Cr} (hc : c.may = true) (hd : d.may = true) : apS c d = (apartF c.p c.a c.e c.r d.p d.a d.e d.r, true) := by
  unfold apS apartS Cr.may at *
  rw [hc, hd]; rfl
theorem Cr.mayP {c : Cr} (h : c.may = true) : MayP c.p c.a c.e c.r := (mayF_iff ..).1 h
theorem mayOne {x : P3} (h : in3 16777216 x) {r : Int} (h0 : 0 ≤ r) (h1 : r ≤ 65536) : (⟨[x], [], [], r⟩ : Cr).may = true :=
  (mayF_iff ..).2 ⟨by simp, by simp, by simp, by simp, h0, h1, by simpa using (far3_iff _ _ (by decide) (by decide)).2 h, rfl, rfl⟩
/-- may a way be? -/
def wayOk (y : P3) : Bool := decide (mx (mx y.x y.y) y.z ≤ 4194304) && decide (mn (mn y.x y.y) y.z ≥ -4194304)
theorem wayOk_iff (y : P3) : wayOk y = true ↔ in3 4194304 y := by
  have a := mx_facts y.x y.y
  have b := mx_facts (mx y.x y.y) y.z
  have c := mn_facts y.x y.y
  have d := mn_facts (mn y.x y.y) y.z
  unfold wayOk in3
  simp only [Bool.and_eq_true, decide_eq_true_eq]
  omega
def smay (c : Cr) (y : P3) : Bool := c.may && decide (c.p.length ≤ 16) && wayOk y
theorem smay_iff (c : Cr) (y : P3) : smay c y = true ↔ c.may = true ∧ c.p.length ≤ 16 ∧ in3 4194304 y := by
  unfold smay
  rw [Bool.and_eq_true, Bool.and_eq_true, decide_eq_true_eq, wayOk_iff, and_assoc]
/-- a part of the way -/
def partP (y : P3) (k : Int) : P3 := ⟨(y.x * k).tdiv 16, (y.y * k).tdiv 16, (y.z * k).tdiv 16⟩
def withF (l m : List P3) : List P3 := ((l ++ m).filter nz).take 128
def acrossF (y : P3) (l : List P3) : List P3 := l.map fun e => short3 (cross3 e (short3 y))
def trailF (c : Cr) (y : P3) (k : Int) : Cr :=
  if smay c y = true ∧ 0 ≤ k ∧ k ≤ 16 then ⟨c.p ++ c.p.map (plusI (partP y k)), withF c.a (acrossF y c.e), withF c.e [short3 y], c.r⟩ else Cr0
theorem trailF_yes {c : Cr} {y : P3} {k : Int} (h : smay c y = true) (h0 : 0 ≤ k) (h1 : k ≤ 16) :
    trailF c y k = ⟨c.p ++ c.p.map (plusI (partP y k)), withF c.a (acrossF y c.e), withF c.e [short3 y], c.r⟩ := if_pos ⟨h, h0, h1⟩
theorem tdiv16 (x k : Int) (h0 : 0 ≤ k) (h1 : k ≤ 16) : (0 ≤ x → 0 ≤ (x * k).tdiv 16 ∧ (x * k).tdiv 16 ≤ x) ∧ (x ≤ 0 → x ≤ (x * k).tdiv 16 ∧ (x * k).tdiv 16 ≤ 0) := by
  constructor
  · intro hx
    have e0 := Int.mul_nonneg hx h0
    have e1 := Int.mul_le_mul_of_nonneg_left h1 hx
    rw [Int.tdiv_eq_ediv_of_nonneg e0]
    omega
  · intro hx
    have e0 := Int.mul_nonneg (show 0 ≤ -x by omega) h0
    have e1 := Int.mul_le_mul_of_nonneg_left h1 (show 0 ≤ -x by omega)
    rw [Int.neg_mul] at e0 e1
    rw [← Int.neg_neg (x * k), Int.neg_tdiv, Int.tdiv_eq_ediv_of_nonneg e0]
    omega
theorem partP_bd (y : P3) (k : Int) (h0 : 0 ≤ k) (h1 : k ≤ 16) (B : Int) (hy : in3 B y) (hB : 0 ≤ B) : in3 B (partP y k) := by
  have a := tdiv16 y.x k h0 h1
  have b := tdiv16 y.y k h0 h1
  have c := tdiv16 y.z k h0 h1
  unfold in3 partP at *
  simp only
  omega
theorem partP_16 (y : P3) : partP y 16 = y := by
  unfold partP
  simp
theorem withF_len (l m : List P3) : (withF l m).length ≤ 128 := by
  unfold withF; rw [List.length_take]; exact Nat.min_le_left _ _
theorem withF_in {l m : List P3} {B : Int} (hl : ∀ x ∈ l, in3 B x) (hm : ∀ x ∈ m, in3 B x) : ∀ x ∈ withF l m, in3 B x := by
  intro x hx
  have h := List.mem_of_mem_take hx
  rcases List.mem_append.1 (List.mem_filter.1 h).1 with h | h
  · exact hl x h
  · exact hm x h
theorem acrossF_in (y : P3) (l : List P3) : ∀ x ∈ acrossF y l, in3 1048576 x := by
  intro x hx
  obtain ⟨e, _, rfl⟩ := List.mem_map.1 hx
  exact short3_in _
theorem any_far_of {l : List P3} {n : Int} (h0 : 0 ≤ n) (h1 : n ≤ 9223372036854775807) (h : ∀ x ∈ l, in3 n x) : l.any (far3 n) = false := by
  rw [List.any_eq_false]
  intro x hx
  rw [(far3_iff _ _ h0 h1).2 (h x hx)]; simp
/-- what a core takes up on its way may be, where its last place may -/
theorem trail_may {c : Cr} {y : P3} (h : smay c y = true) {k : Int} (h0 : 0 ≤ k) (h1 : k ≤ 16) (hp : ∀ x ∈ c.p, in3 16777216 (plusI (partP y k) x)) : (trailF c y k).may = true := by
  rw [trailF_yes h h0 h1]
  obtain ⟨hm, hl, hy⟩ := (smay_iff ..).1 h
  have m := Cr.mayP hm
  refine (mayF_iff ..).2 ⟨?_, ?_, withF_len _ _, withF_len _ _, m.r0, m.r1, ?_, ?_, ?_⟩
  · have := m.p0
    simp [this]
  · simp only [List.length_append, List.length_map]; omega
  · refine any_far_of (by decide) (by decide) ?_
    intro x hx
    rcases List.mem_append.1 hx with hx | hx
    · exact far_in (by decide) (by decide) m.pf x hx
    · obtain ⟨z, hz, rfl⟩ := List.mem_map.1 hx
      exact hp z hz
  · exact any_far_of (by decide) (by decide) (withF_in (far_in (by decide) (by decide) m.af) (acrossF_in _ _))
  · refine any_far_of (by decide) (by decide) (withF_in (far_in (by decide) (by decide) m.ef) ?_)
    intro x hx
    rw [List.mem_singleton] at hx
    subst hx
    exact short3_in _
/-- the search for the last free part -/
def castL (c : Cr) (y : P3) (d : Cr) : Nat → Nat → P3 × Int → Nat × (P3 × Int)
  | 0, k, x => (k, x)
  | n + 1, k, x => if x.2 < 0 then (k, x) else if (apS (trailF c y ((k : Int) + 1)) d).1.2 < 0 then (k, x) else castL c y d n (k + 1) (apS (trailF c y ((k : Int) + 1)) d).1
def castOk (c : Cr) (y : P3) (d : Cr) : Bool := (apS c d).2 && smay c y && (apS (trailF c y 16) d).2
def castF (c : Cr) (y : P3) (d : Cr) : (Nat × (P3 × Int)) × Bool :=
  if castOk c y d = true then (castL c y d 16 0 (apS c d).1, true) else ((0, (⟨0, 0, 0⟩, 0)), false)
theorem castOk_iff (c : Cr) (y : P3) (d : Cr) : castOk c y d = true ↔ c.may = true ∧ d.may = true ∧ smay c y = true ∧ (trailF c y 16).may = true := by
  unfold castOk
  rw [apS_may, apS_may]
  simp only [Bool.and_eq_true]
  constructor
  · rintro ⟨⟨⟨a, b⟩, c⟩, d, e⟩; exact ⟨a, b, c, d⟩
  · rintro ⟨a, b, c, d⟩; exact ⟨⟨⟨a, b⟩, c⟩, d, b⟩
theorem castL_le (c : Cr) (y : P3) (d : Cr) (n : Nat) : ∀ (k : Nat) (x : P3 × Int), k ≤ (castL c y d n k x).1 ∧ (castL c y d n k x).1 ≤ k + n := by
  induction n with
  | zero => intro k x; exact ⟨Nat.le_refl _, Nat.le_refl _⟩
  | succ n ih =>
    intro k x
    rw [castL]
    split
    · exact ⟨Nat.le_refl _, Nat.le_add_right _ _⟩
    · split
      · exact ⟨Nat.le_refl _, Nat.le_add_right _ _⟩
      · have := ih (k + 1) (apS (trailF c y ((k : Int) + 1)) d).1
        omega
theorem castF_le (c : Cr) (y : P3) (d : Cr) : (castF c y d).1.1 ≤ 16 := by
  unfold castF
  split
  · have := castL_le c y d 16 0 (apS c d).1
    show (castL c y d 16 0 (apS c d).1).1 ≤ 16
    omega
  · exact Nat.zero_le _
/-- are they met? -/
def overB (c d : Cr) : Bool := (apS c d).2 && decide ((apS c d).1.2 < 1)
def overF (c : Cr) : Nat → List Cr → List Nat
  | _, [] => []
  | i, d :: l => if overB c d = true then i :: overF c (i + 1) l else overF c (i + 1) l
theorem overF_snoc (c : Cr) (l : List Cr) : ∀ (i : Nat) (d : Cr), overF c i (l ++ [d]) = overF c i l ++ (if overB c d = true then [i + l.length] else []) := by
  induction l with
  | nil => intro i d; simp [overF]
  | cons x l ih =>
    intro i d
    rw [List.cons_append, overF, overF, ih]
    have : i + 1 + l.length = i + (x :: l).length := by simp; omega
    rw [this]
    split <;> simp
/-- the place of the least one of those that are, the first one of equals -/
def leastF {α : Type} (z : α) (ask : Nat → α × Bool) (lt : α → α → Bool) : Nat → Int × α
  | 0 => (-1, z)
  | i + 1 => if (ask i).2 = true ∧ ((leastF z ask lt i).1 < 0 ∨ lt (ask i).1 (leastF z ask lt i).2 = true) then ((i : Int), (ask i).1) else leastF z ask lt i
theorem leastF_spec {α : Type} (z : α) (ask : Nat → α × Bool) (lt : α → α → Bool) (f : α → Int) (hlt : ∀ a b, lt a b = decide (f a < f b)) (n : Nat) :
    ((leastF z ask lt n).1 = -1 ∧ (leastF z ask lt n).2 = z ∧ ∀ i, i < n → (ask i).2 = false) ∨
    (∃ j : Nat, j < n ∧ (leastF z ask lt n).1 = (j : Int) ∧ (ask j).2 = true ∧ (leastF z ask lt n).2 = (ask j).1 ∧ (∀ i, i < n → (ask i).2 = true → f (ask j).1 ≤ f (ask i).1) ∧ (∀ i, i < j → (ask i).2 = true → f (ask j).1 < f (ask i).1)) := by
  induction n with
  | zero => exact .inl ⟨rfl, rfl, fun i hi => absurd hi (by omega)⟩
  | succ n ih =>
    rw [leastF]
    rcases ih with ⟨h1, h2, h3⟩ | ⟨j, hj, h1, h2, h3, h4, h5⟩
    · by_cases ha : (ask n).2 = true
      · rw [if_pos ⟨ha, .inl (by rw [h1]; decide)⟩]
        refine .inr ⟨n, Nat.lt_succ_self n, rfl, ha, rfl, fun i hi ht => ?_, fun i hi ht => ?_⟩
        · by_cases e : i = n
          · subst e; exact Int.le_refl _
          · rw [h3 i (by omega)] at ht; cases ht
        · rw [h3 i hi] at ht; cases ht
      · rw [if_neg (fun h => ha h.1)]
        refine .inl ⟨h1, h2, fun i hi => ?_⟩
        by_cases e : i = n
        · subst e; simpa using ha
        · exact h3 i (by omega)
    · rw [h1, h3, hlt]
      by_cases ha : (ask n).2 = true ∧ f (ask n).1 < f (ask j).1
      · rw [if_pos ⟨ha.1, .inr (by simpa using ha.2)⟩]
        refine .inr ⟨n, Nat.lt_succ_self n, rfl, ha.1, rfl, fun i hi ht => ?_, fun i hi ht => ?_⟩
        · by_cases e : i = n
          · subst e; exact Int.le_refl _
          · have := h4 i (by omega) ht; omega
        · have := h4 i (by omega) ht; omega
      · rw [if_neg (by
          rintro ⟨a1, a2 | a2⟩
          · omega
          · exact ha ⟨a1, by simpa using a2⟩)]
        refine .inr ⟨j, by omega, h1, h2, h3, fun i hi ht => ?_, h5⟩
        by_cases e : i = n
        · subst e
          by_cases hb : f (ask i).1 < f (ask j).1
          · exact absurd ⟨ht, hb⟩ ha
          · omega
        · exact h4 i (by omega) ht
def nearZ : P3 × Int := (⟨0, 0, 0⟩, 0)
/-- the nearest of some -/
def nearL (c : Cr) (l : List Cr) : Int × (P3 × Int) := leastF nearZ (fun i => match l[i]? with | some d => apS c d | none => (nearZ, false)) (fun x y => decide (x.2 < y.2)) l.length
/-- what Ray asks of one -/
def rayAsk (c : Cr) (y : P3) (d : Cr) : Nat × Bool := ((castF c y d).1.1, (castF c y d).2 && (decide ((castF c y d).1.1 < 16) || decide ((castF c y d).1.2.2 < 0)))
def rayL (c : Cr) (y : P3) (l : List Cr) : Int × Nat := leastF 0 (fun i => match l[i]? with | some d => rayAsk c y d | none => (0, false)) (fun a b => decide (a < b)) l.length
def rayF (x y : P3) (l : List Cr) : (Int × Nat) × Bool :=
  if smay ⟨[x], [], [], 0⟩ y = true then (if (rayL ⟨[x], [], [], 0⟩ y l).1 < 0 then ((-1, 16), false) else (rayL ⟨[x], [], [], 0⟩ y l, true)) else ((-1, 0), false)
end Go.Proofs.Ytckdhahceelckaa.G
namespace Go.Proofs.Ytckdhahceelckaa.G
open Go.RowKit Go.Proofs.YtckdhahceelckaaW.PrintWords Go.Proofs.YtckdhahceelckaaW.PrintLast Go.Proofs.YtckdhahceelckaaW.PrintMore
attribute [local go_sem] max2_mx min2_mn max_two min_two max_three min_three max_four min_four
attribute [local go_sem high] eqA23
set_option linter.unusedVariables false
set_option linter.unusedSimpArgs false
/-- a list of its own -/
def OwnPost (l : List P3) (w : World) (e : Ending) (w' : World) : Prop := ∃ v, e = .returned v ∧ OwnP w' w.heap.size v l ∧ Below w.heap.size w w'
set_option maxHeartbeats 2000000 in
set_option maxRecDepth 100000 in
theorem concat_own (l0 l1 : List P3) (n0 n1 : Nat) (A0 A1 : Option Addr) (c0 c1 g : Nat) (w : World) (hn0 : l0.length = n0) (hn1 : l1.length = n1) (hg0 : w.cell? ⟨g, 0, none⟩ = some (.slice A0 n0 c0)) (hg1 : w.cell? ⟨g, 1, none⟩ = some (.slice A1 n1 c1)) (h0 : Rd w A0 l0) (h1 : Rd w A1 l1) (hb0 : n0 ≤ 40000) (hb1 : n1 ≤ 40000) :
    Calls Try.prog 116 #[.slice (some ⟨g, 0, none⟩) 2 2] w (OwnPost (l0 ++ l1) w) := by
  have H0 := Lh h0
  have H1 := Lh h1
  have N0 := Lh hn0
  have N1 := Lh hn1
  have hgl := World.block_lt_of_cell? w _ hg0
  have HG0 := Lh hg0
  have HG1 := Lh hg1
  clear h0 h1 hn0 hn1 hg0 hg1
  go_enter Try.func116, Try.ntmps116
  go_wp2
  go_loopw [3, 5, 11] (fun v3 v5 v11 wr => ∃ k : Nat, k ≤ 2 ∧ v11 = .int .i64 k ∧ v3 = .int .i64 (csz n0 n1 k) ∧ Below w.heap.size w wr) (fun _ _ i _ => 2 - (intOf i).toNat)
  case atStart => exact ⟨0, by omega, rfl, rfl, Below.refl _ _⟩
  case round =>
    obtain ⟨k, hk, rfl, rfl, hbr⟩ := hrel
    have e0 := (hbr.cell (p := ⟨g, 0, none⟩) hgl).trans HG0.out
    have e1 := (hbr.cell (p := ⟨g, 1, none⟩) hgl).trans HG1.out
    have hc : k = 0 ∨ k = 1 ∨ k = 2 := by omega
    rcases hc with rfl | rfl | rfl
    · simp only [csz, if_true]
      go_wp2
      go_roundw
      case rel => exact ⟨1, by omega, rfl, by simp [csz], hbr⟩
      case measure => simp [intOf]
    · simp only [csz, if_true, if_neg (show ¬ (1 : Nat) = 0 by omega)]
      go_wp2
      go_roundw
      case rel => exact ⟨2, by omega, rfl, by simp [csz], hbr⟩
      case measure => simp [intOf]
    · simp only [csz, if_neg (show ¬ (2 : Nat) = 0 by omega), if_neg (show ¬ (2 : Nat) = 1 by omega)]
      clear e0 e1
      go_wp2_with fail
      have hgr := grow_calls (n0 + n1) wr (by omega)
      rw [Int.natCast_add] at hgr
      refine hgr.mono ?_
      rintro e w2 ⟨v, rfl, hv, hb2⟩
      have hB2 : Below w.heap.size w w2 := bthen hbr hb2
      have hv0 : OwnP w2 w.heap.size v [] := own_weaken hv hbr.size
      clear hgr hv hb2
      go_wp2
      clear hbr
      go_loopw [6, 8, 27] (fun v6 v8 v27 wr => ∃ k : Nat, k ≤ 2 ∧ v27 = .int .i64 k ∧ Hid (OwnP wr w.heap.size v6 (cpt l0 l1 k)) ∧ Hid (Below w.heap.size w wr)) (fun _ _ i _ => 2 - (intOf i).toNat)
      case atStart => exact ⟨0, by omega, rfl, hv0, hB2⟩
      case round =>
        clear hv0 hB2
        obtain ⟨k, hk, rfl, hv, hbr⟩ := hrel
        have hbr2 := hbr.out
        have e0 := (hbr2.cell (p := ⟨g, 0, none⟩) hgl).trans HG0.out
        have e1 := (hbr2.cell (p := ⟨g, 1, none⟩) hgl).trans HG1.out
        have hc : k = 0 ∨ k = 1 ∨ k = 2 := by omega
        rcases hc with rfl | rfl | rfl
        · go_wp2_with (at_builtin; refine append_pts w.heap.size rfl _ _ rfl _ [] l0 A0 _ _ rfl rfl hv.out (H0.out.below hbr2) N0.out (by simp; omega) hbr2.size ?_; intro v2 w3 hv2 hg2)
          go_roundw
          case rel => exact ⟨1, by omega, rfl, hv2, hbr2.grown hg2 hbr2.size (fun k hk => hv.out.base_ k hk)⟩
          case measure => simp [intOf]
        · go_wp2_with (at_builtin; refine append_pts w.heap.size rfl _ _ rfl _ l0 l1 A1 _ _ rfl rfl hv.out (H1.out.below hbr2) N1.out (by rw [N0.out]; omega) hbr2.size ?_; intro v2 w3 hv2 hg2)
          go_roundw
          case rel => exact ⟨2, by omega, rfl, hv2, hbr2.grown hg2 hbr2.size (fun k hk => hv.out.base_ k hk)⟩
          case measure => simp [intOf]
        · clear e0 e1
          go_wp2
          go_ret
          exact ⟨_, rfl, hv.out, hbr2⟩
set_option maxHeartbeats 2000000 in
/-- slices.DeleteFunc of a slice that is none -/
theorem delete_none (w : World) : Calls Try.prog 126 #[.slice none 0 0, .func (.func 127) #[] #[]] w fun e w' => e = .returned (.slice none 0 0) ∧ Below w.heap.size w w' := by
  have HI := Lh (index0_calls [] none 0 w (Rd.nil _ _) (Nat.le_refl _) (by decide))
  have hx : idx0 [] = -1 := rfl
  rw [hx, List.length_nil] at HI
  go_enter Try.func126, Try.ntmps126
  go_wp2_with fail
  with_reducible refine HI.out.mono ?_
  rintro e w1 ⟨rfl, hb⟩
  go_wp2
  go_ret
  exact ⟨rfl, hb⟩
theorem OwnP.lenB {w : World} {base : Nat} {v : Value} {l : List P3} (h : OwnP w base v l) : (v = .slice none 0 0 ∧ l = []) ∨ ∃ g c, v = .slice (some ⟨g, 0, none⟩) l.length c ∧ l.length ≤ c := by
  obtain ⟨hx, h2⟩ := h
  rcases h2 with ⟨e, hn⟩ | ⟨g', cap, cur, e, hb, hg, hnc, hm, hsz, ht⟩
  · exact .inl ⟨e, List.eq_nil_of_length_eq_zero hn⟩
  · exact .inr ⟨g', cap, e, hnc⟩
theorem delete_own (l : List P3) (base : Nat) (v : Value) (w : World) (h : OwnP w base v l) (hl : l.length ≤ 40000) (hb : base ≤ w.heap.size) :
    Calls Try.prog 126 #[v, .func (.func 127) #[] #[]] w fun e w' => ∃ u, e = .returned u ∧ OwnP w' base u (l.filter nz) ∧ Below base w w' := by
  rcases h.lenB with ⟨rfl, rfl⟩ | ⟨g, c, rfl, hc⟩
  · refine (delete_none w).mono ?_
    rintro e w' ⟨rfl, hb2⟩
    exact ⟨_, rfl, OwnP.nil _ _, hb2.mono hb⟩
  · have hz := h.fz
    refine (delete_calls l g _ c base w h hl).mono ?_
    rintro e w' ⟨m, rfl, ho, hg⟩
    exact ⟨_, rfl, ho, below_gb (Below.refl _ _) hg hz.2.2.1 hb⟩
theorem filter_len (l : List P3) : (l.filter nz).length ≤ l.length := List.length_filter_le _ _
set_option maxHeartbeats 4000000 in
set_option maxRecDepth 100000 in
theorem with_calls (l m : List P3) (n k : Nat) (A B : Option Addr) (c d : Nat) (w : World) (hn : l.length = n) (hk : m.length = k) (hA : Rd w A l) (hB : Rd w B m) (hn1 : n ≤ 10000) (hk1 : k ≤ 10000) :
    Calls Try.prog 79 #[.slice A n c, .slice B k d] w (PtsPostB (withF l m) w) := by
  have HC := Lh (concat_own l m n k A B c d w.heap.size (w.alloc (.cells #[.slice A n c, .slice B k d] 24)) hn hk (by simp) (by simp) (hA.alloc _) (hB.alloc _) (by omega) (by omega))
  have HL : Hid ((l ++ m).length ≤ 20000) := Lh (by rw [List.length_append]; omega)
  have HW : Hid (withF l m = ((l ++ m).filter nz).take 128) := Lh rfl
  obtain ⟨L, hL⟩ : ∃ L, l ++ m = L := ⟨_, rfl⟩
  rw [hL] at HC HL HW
  clear hn hk hL hA hB
  go_enter Try.func79, Try.ntmps79
  go_wp2_with fail
  with_reducible refine HC.out.mono ?_
  rintro e w1 ⟨v, rfl, ho, hb⟩
  have hsz : w.heap.size ≤ w1.heap.size := by have := hb.size; simp at this; omega
  have HB := Lh (((Below.refl _ w).alloc (Nat.le_refl _) (.cells #[.slice A n c, .slice B k d] 24)).trans (hb.mono (by simp)))
  have HO : Hid (OwnP w1 w.heap.size v L) := Lh (own_weaken ho (by simp))
  clear hb ho HC
  go_wp2_with fail
  with_reducible refine (delete_own L w.heap.size v w1 HO.out (by have := HL.out; omega) hsz).mono ?_
  rintro e w2 ⟨u, rfl, ho, hb⟩
  have HB := Lh (HB.out.trans hb)
  have HF := Lh (filter_len L)
  obtain ⟨F, hF⟩ : ∃ F, L.filter nz = F := ⟨_, rfl⟩
  rw [hF] at ho HW HF
  have hsz2 : w.heap.size ≤ w2.heap.size := HB.out.size
  have HO := Lh ho
  clear ho hb hF hsz
  rcases HO.out.lenB with ⟨rfl, rfl⟩ | ⟨g, cc, rfl, hcc⟩
  · have hr : withF l m = [] := by rw [HW.out]; rfl
    have HRR := Lh hr
    clear hr
    go_wp2_with (go_at_call 128; refine (clip_calls none 0 0 _ (Nat.le_refl _) (by decide) (fun _ => rfl)).mono ?_; rintro e w3 ⟨rfl, rfl⟩)
    go_ret
    rw [HRR.out]
    exact ⟨none, 0, rfl, Nat.le_refl _, RdB.nil _, HB.out, fun ad e => by cases e⟩
  · obtain ⟨q, hq⟩ : ∃ q, F.length = q := ⟨_, rfl⟩
    have hq2 : q ≤ 20000 := by have := HF.out; have := HL.out; omega
    rw [hq] at HO hcc ⊢
    by_cases t : q ≤ 128
    · have hm : mn (q : Int) 128 = (q : Int) := by unfold mn; split <;> omega
      have hr : withF l m = F := by rw [HW.out, List.take_of_length_le (by omega)]
      have HRR := Lh hr
      have HQ := Lh hq
      clear hq hr
      go_wp2_with (go_at_call 128; refine (clip_calls (some ⟨g, 0, none⟩) q cc _ hcc (by omega) (fun e => by cases e)).mono ?_; rintro e w3 ⟨rfl, rfl⟩)
      go_ret
      obtain ⟨A', c', e, h1, h2, h3⟩ := HO.out.rdB2
      injection e with e1 e2 e3
      subst e1
      rw [HRR.out]
      exact ⟨some ⟨g, 0, none⟩, q, by rw [HQ.out]; rfl, by rw [HQ.out]; exact Nat.le_refl _, h2, HB.out, fun ad e => by cases e; exact HO.out.fz.2.2.1⟩
    · have hm : mn (q : Int) 128 = ((128 : Nat) : Int) := by unfold mn; split <;> omega
      have hr : (withF l m).length = 128 := by rw [HW.out, List.length_take]; omega
      have ho := HO.out.cut 128 (by rw [hq]; omega)
      rw [← HW.out] at ho
      have HR := Lh hr
      have HOC := Lh ho
      clear hq hr ho
      go_wp2_with (go_at_call 128; refine (clip_calls (some ⟨g, 0, none⟩) 128 cc _ (by omega) (by omega) (fun e => by cases e)).mono ?_; rintro e w3 ⟨rfl, rfl⟩)
      go_ret
      obtain ⟨A', c', e, h1, h2, h3⟩ := HOC.out.rdB2
      injection e with e1 e2 e3
      subst e1
      exact ⟨some ⟨g, 0, none⟩, 128, by rw [HR.out]; rfl, by rw [HR.out]; exact Nat.le_refl _, h2, HB.out, fun ad e => by cases e; exact HOC.out.fz.2.2.1⟩
end Go.Proofs.Ytckdhahceelckaa.G
namespace Go.Proofs.Ytckdhahceelckaa.G
open Go.RowKit Go.Proofs.YtckdhahceelckaaW.PrintWords Go.Proofs.YtckdhahceelckaaW.PrintLast Go.Proofs.YtckdhahceelckaaW.PrintMore
attribute [local go_sem] max2_mx min2_mn max_two min_two max_three min_three max_four min_four
attribute [local go_sem high] eqA23 eqA40
set_option linter.unusedVariables false
set_option linter.unusedSimpArgs false
set_option maxHeartbeats 4000000 in
set_option maxRecDepth 100000 in
theorem smay_calls {w : World} {v : Value} {c : Cr} (h : CrV w v c) (y : P3) (hl : c.p.length ≤ 140737488355328) : Calls Try.prog 72 #[v, aP y] w fun e w' => e = .returned (.bool (smay c y)) ∧ Below w.heap.size w w' := by
  obtain ⟨p, a, e, r⟩ := c
  obtain ⟨yx, yy, yz⟩ := y
  obtain ⟨A0, A1, A2, c0, c1, c2, rfl, h0, h1, h2, k0, k1, k2⟩ := id h.out
  have hm : (apartS p a e r [⟨0, 0, 0⟩] [] [] 0).2 = mayF p a e r := by
    have := apS_may ⟨p, a, e, r⟩ ⟨[⟨0, 0, 0⟩], [], [], 0⟩
    rw [mayOne (x := ⟨0, 0, 0⟩) (by unfold in3; decide) (by decide) (by decide), Bool.and_true] at this
    exact this
  obtain ⟨R, hR⟩ : ∃ R, apartS p a e r [⟨0, 0, 0⟩] [] [] 0 = R := ⟨_, rfl⟩
  have HA := Lh (fun (W : World) (u v : Value) (h1 : CoreV W v p a e r) (h2 : CoreV W u [⟨0, 0, 0⟩] [] [] 0) => apart_all h1 h2 R hR)
  rw [hR] at hm
  obtain ⟨⟨⟨Rx, Ry, Rz⟩, Rg⟩, Ro⟩ := R
  simp only at HA hm
  obtain ⟨NP, hNP⟩ : ∃ n, p.length = n := ⟨_, rfl⟩
  obtain ⟨NA, hNA⟩ : ∃ n, a.length = n := ⟨_, rfl⟩
  obtain ⟨NE, hNE⟩ : ∃ n, e.length = n := ⟨_, rfl⟩
  have HS : Hid (smay ⟨p, a, e, r⟩ ⟨yx, yy, yz⟩ = (Ro && decide ((NP : Int) ≤ 16) && (decide (mx (mx yx yy) yz ≤ 4194304) && decide (-4194304 ≤ mn (mn yx yy) yz)))) := Lh (by
    unfold smay Cr.may wayOk
    rw [hm]
    simp only
    rw [hNP]
    have : decide (NP ≤ 16) = decide ((NP : Int) ≤ 16) := by by_cases t : NP ≤ 16 <;> simp [t] <;> omega
    rw [this])
  have HV := Lh (show CoreV w (.agg #[.slice A0 p.length c0, .slice A1 a.length c1, .slice A2 e.length c2, .int .i64 r]) p a e r from h)
  simp only at hl
  rw [hNP, hNA, hNE] at HV ⊢
  rw [hNP] at hl
  clear hNP hNA hNE hm hR h h0 h1 h2 k0 k1 k2
  have Z0 := Lh (three0 w (.cells #[.slice A0 NP c0, .slice A1 NA c1, .slice A2 NE c2, .int .i64 r] 36) (.cells #[.int .i64 yx, .int .i64 yy, .int .i64 yz] 23) (.cells #[.int .i64 0, .int .i64 0, .int .i64 0] 23))
  have Z1 := Lh (three1 w (.cells #[.slice A0 NP c0, .slice A1 NA c1, .slice A2 NE c2, .int .i64 r] 36) (.cells #[.int .i64 yx, .int .i64 yy, .int .i64 yz] 23) (.cells #[.int .i64 0, .int .i64 0, .int .i64 0] 23))
  have Z2 := Lh (three2 w (.cells #[.slice A0 NP c0, .slice A1 NA c1, .slice A2 NE c2, .int .i64 r] 36) (.cells #[.int .i64 yx, .int .i64 yy, .int .i64 yz] 23) (.cells #[.int .i64 0, .int .i64 0, .int .i64 0] 23))
  have ZB := Lh (Go.Joins.below_alloc3 w (.cells #[.slice A0 NP c0, .slice A1 NA c1, .slice A2 NE c2, .int .i64 r] 36) (.cells #[.int .i64 yx, .int .i64 yy, .int .i64 yz] 23) (.cells #[.int .i64 0, .int .i64 0, .int .i64 0] 23))
  go_enter Try.func72, Try.ntmps72
  go_wp2_with fail
  obtain ⟨w1, hw1⟩ : ∃ V, ((w.alloc (.cells #[.slice A0 NP c0, .slice A1 NA c1, .slice A2 NE c2, .int .i64 r] 36)).alloc (.cells #[.int .i64 yx, .int .i64 yy, .int .i64 yz] 23)).alloc (.cells #[.int .i64 0, .int .i64 0, .int .i64 0] 23) = V := ⟨_, rfl⟩
  rw [hw1] at Z0 Z1 Z2 ZB ⊢
  clear hw1
  with_reducible refine (HA.out w1 _ _ (HV.out.below ZB.out) (ball_core w1 _ 0 0 0 0 1 (Nat.le_refl _) Z2.out)).mono ?_
  rintro e w2 ⟨rfl, hb⟩
  have Z0 := Lh ((hb.block _ (blk_lt Z0.out)).trans Z0.out)
  have Z1 := Lh ((hb.block _ (blk_lt Z1.out)).trans Z1.out)
  have ZB := Lh (bthen ZB.out hb)
  have x0 : w2.cell? ⟨w.heap.size, 0, none⟩ = some (.slice A0 NP c0) := (blk_cell Z0.out 0).trans rfl
  have y0 : w2.cell? ⟨w.heap.size + 1, 0, none⟩ = some (.int .i64 yx) := (blk_cell Z1.out 0).trans rfl
  have y1 : w2.cell? ⟨w.heap.size + 1, 1, none⟩ = some (.int .i64 yy) := (blk_cell Z1.out 1).trans rfl
  have y2 : w2.cell? ⟨w.heap.size + 1, 2, none⟩ = some (.int .i64 yz) := (blk_cell Z1.out 2).trans rfl
  have l0 : w.heap.size < w2.heap.size := blk_lt Z0.out
  have l1 : w.heap.size + 1 < w2.heap.size := blk_lt Z1.out
  have ZB2 := Lh (bthen ZB.out ((Below.refl _ w2).alloc (Nat.le_refl _) (.cells #[.int .i64 Rx, .int .i64 Ry, .int .i64 Rz, .int .i64 Rg] 40)))
  clear hb HA HV Z2
  cases Ro with
  | false =>
    have HS2 := Lh (HS.out.trans (by simp : _ = false))
    clear HS
    go_wp2
    go_ret
    exact ⟨by rw [HS2.out]; rfl, ZB2.out⟩
  | true =>
    by_cases t1 : (NP : Int) ≤ 16
    · have e1 : decide ((NP : Int) ≤ 16) = true := decide_eq_true t1
      by_cases t2 : mx (mx yx yy) yz ≤ 4194304
      · have e2 : decide (mx (mx yx yy) yz ≤ 4194304) = true := decide_eq_true t2
        by_cases t3 : -4194304 ≤ mn (mn yx yy) yz
        · have e3 : decide (-4194304 ≤ mn (mn yx yy) yz) = true := decide_eq_true t3
          have HS2 := Lh (HS.out.trans (by rw [e1, e2, e3]; rfl : _ = true))
          clear HS t1 t2 t3
          go_wp2
          go_ret
          exact ⟨by rw [HS2.out]; rfl, ZB2.out⟩
        · have e3 : decide (-4194304 ≤ mn (mn yx yy) yz) = false := decide_eq_false t3
          have HS2 := Lh (HS.out.trans (by rw [e1, e2, e3]; rfl : _ = false))
          clear HS t1 t2 t3
          go_wp2
          go_ret
          exact ⟨by rw [HS2.out]; rfl, ZB2.out⟩
      · have e2 : decide (mx (mx yx yy) yz ≤ 4194304) = false := decide_eq_false t2
        have HS2 := Lh (HS.out.trans (by rw [e1, e2]; rfl : _ = false))
        clear HS t1 t2
        go_wp2
        go_ret
        exact ⟨by rw [HS2.out]; rfl, ZB2.out⟩
    · have e1 : decide ((NP : Int) ≤ 16) = false := decide_eq_false t1
      have HS2 := Lh (HS.out.trans (by rw [e1]; rfl : _ = false))
      clear HS t1
      go_wp2
      go_ret
      exact ⟨by rw [HS2.out]; rfl, ZB2.out⟩
end Go.Proofs.Ytckdhahceelckaa.G
namespace Go.Proofs.Ytckdhahceelckaa.G
open Go.RowKit Go.Proofs.YtckdhahceelckaaW.PrintWords Go.Proofs.YtckdhahceelckaaW.PrintLast Go.Proofs.YtckdhahceelckaaW.PrintMore
attribute [local go_sem] max2_mx min2_mn max_two min_two max_three min_three max_four min_four
attribute [local go_sem high] eqA23 eqA40
set_option linter.unusedVariables false
set_option linter.unusedSimpArgs false
attribute [local go_sem high] eqSn eqSs
set_option maxHeartbeats 2000000 in
set_option maxRecDepth 100000 in
theorem clone_own (l : List P3) (n : Nat) (A : Option Addr) (c : Nat) (w : World) (hn : l.length = n) (hr : Rd w A l) (hb : n ≤ 40000) :
    Calls Try.prog 71 #[.slice A n c] w (OwnPost l w) := by
  have HR := Lh hr
  have HN := Lh hn
  cases A with
  | none =>
    have h0 : l = [] := by
      cases l with
      | nil => rfl
      | cons p l => obtain ⟨b, o', e, _⟩ := hr 0 p rfl; cases e
    subst h0
    clear hn hr
    go_enter Try.func71, Try.ntmps71
    go_wp2
    go_ret
    exact ⟨_, rfl, OwnP.nil _ _, Below.refl _ _⟩
  | some ad =>
    clear hn hr
    go_enter Try.func71, Try.ntmps71
    have hown : OwnP (w.alloc (.cells #[] 23)) w.heap.size (.slice (some ⟨w.heap.size, 0, none⟩) 0 0) [] := ⟨rfl, .inr ⟨w.heap.size, 0, #[], rfl, Nat.le_refl _, heap_alloc_new w (.cells #[] 23), Nat.le_refl _, by decide, rfl, rfl⟩⟩
    have hB := (Below.refl w.heap.size w).alloc (Nat.le_refl _) (.cells #[] 23)
    have HOWN := Lh hown
    have HB := Lh hB
    clear hown hB
    go_wp2_with (at_builtin; refine appL_ w.heap.size rfl _ _ rfl _ [] l (some ad) _ _ rfl rfl HOWN.out (HR.out.below HB.out) HN.out (by simp; omega) HB.out.size ?_; intro v2 w3 hv hg hat)
    go_ret
    exact ⟨_, rfl, by simpa using hv, HB.out.grown hg HB.out.size (fun k hk => HOWN.out.base_ k hk)⟩
theorem CSt.setKeep {w1 W : World} {v : Value} {l : List P3} {keep : List Nat} (h : CSt w1 W v l keep) {k : Nat} (hk : k ∈ keep) (hw : w1.heap.size ≤ k) (j : Nat) (u : Value) : CSt w1 (W.setCell ⟨k, j, none⟩ u) v l keep :=
  ⟨own_setCell h.own (fun e => (h.ne k hk).1 e.symm) u, h.below.setCell (p := ⟨k, j, none⟩) hw u, fun i hi => ⟨(h.ne i hi).1, by simpa using (h.ne i hi).2⟩⟩
theorem blk_s1 {w : World} {g : Nat} {a b c d : Value} {t : TypeId} (h : w.heap[g]? = some (.cells #[a, b, c, d] t (0, 0))) (u : Value) : (w.setCell ⟨g, 1, none⟩ u).heap[g]? = some (.cells #[a, u, c, d] t (0, 0)) := by
  simp [World.setCell, Array.getElem?_modify, h]
theorem blk_s2 {w : World} {g : Nat} {a b c d : Value} {t : TypeId} (h : w.heap[g]? = some (.cells #[a, b, c, d] t (0, 0))) (u : Value) : (w.setCell ⟨g, 2, none⟩ u).heap[g]? = some (.cells #[a, b, u, d] t (0, 0)) := by
  simp [World.setCell, Array.getElem?_modify, h]
/-- a list of its own from a world on -/
def RdV (W : World) (b : Nat) (v : Value) (l : List P3) : Prop := ∃ A c, v = .slice A l.length c ∧ l.length ≤ c ∧ RdB W A l ∧ ∀ ad, A = some ad → b ≤ ad.block
theorem RdV.below {W W1 : World} {b : Nat} {v : Value} {l : List P3} (h : RdV W b v l) (hb : Below W.heap.size W W1) : RdV W1 b v l := by
  obtain ⟨A, c, e, h1, h2, h3⟩ := h
  exact ⟨A, c, e, h1, h2.below hb, h3⟩
theorem wmul16 (x k : Int) (hx : -4194304 ≤ x ∧ x ≤ 4194304) (h0 : 0 ≤ k) (h1 : k ≤ 16) : wrap64 (x * k) = x * k ∧ wrap64 ((x * k).tdiv 16) = (x * k).tdiv 16 := by
  have a := tdiv16 x k h0 h1
  have hb : -67108864 ≤ x * k ∧ x * k ≤ 67108864 := by
    have e1 := Int.mul_nonneg (show 0 ≤ x + 4194304 by omega) h0
    have e2 := Int.mul_nonneg (show 0 ≤ 4194304 - x by omega) h0
    rw [Int.add_mul] at e1
    rw [Int.sub_mul] at e2
    omega
  unfold wrap64
  omega
def TrailPost (t : Cr) (w : World) (en : Ending) (w' : World) : Prop := ∃ v, en = .returned v ∧ CrV w' v t ∧ Below w.heap.size w w'
set_option maxHeartbeats 16000000 in
set_option maxRecDepth 100000 in
theorem trail_in (p a e : List P3) (r : Int) (A0 A1 A2 : Option Addr) (c0 c1 c2 : Nat) (y : P3) (K : Int) (w : World) (hv : CoreV w (.agg #[.slice A0 p.length c0, .slice A1 a.length c1, .slice A2 e.length c2, .int .i64 r]) p a e r) (h0 : RdB w A0 p) (h1 : RdB w A1 a) (h2 : RdB w A2 e) (hl : p.length ≤ 140737488355328) :
    Calls Try.prog 37 #[.agg #[.slice A0 p.length c0, .slice A1 a.length c1, .slice A2 e.length c2, .int .i64 r], aP y, .int .i64 K] w (TrailPost (trailF ⟨p, a, e, r⟩ y K) w) := by
  have HM := Lh (fun (W : World) (hW : CoreV W (.agg #[.slice A0 p.length c0, .slice A1 a.length c1, .slice A2 e.length c2, .int .i64 r]) p a e r) => smay_calls (c := ⟨p, a, e, r⟩) hW y hl)
  have HYES := Lh (fun (h : smay ⟨p, a, e, r⟩ y = true) => (smay_iff ⟨p, a, e, r⟩ y).1 h)
  have HT1 := Lh (fun (h : smay ⟨p, a, e, r⟩ y = true) (g0 : 0 ≤ K) (g1 : K ≤ 16) => trailF_yes (c := ⟨p, a, e, r⟩) h g0 g1)
  have HT0 := Lh (fun (h : smay ⟨p, a, e, r⟩ y = false ∨ K < 0 ∨ 16 < K) => show trailF ⟨p, a, e, r⟩ y K = Cr0 from if_neg (by
    rintro ⟨q0, q1, q2⟩
    rcases h with h | h | h
    · rw [h] at q0; cases q0
    · omega
    · omega))
  obtain ⟨S, hS⟩ : ∃ S, smay ⟨p, a, e, r⟩ y = S := ⟨_, rfl⟩
  rw [hS] at HM HYES HT0 HT1
  obtain ⟨T, hT⟩ : ∃ T, trailF ⟨p, a, e, r⟩ y K = T := ⟨_, rfl⟩
  rw [hT] at HT0 HT1 ⊢
  obtain ⟨yx, yy, yz⟩ := y
  obtain ⟨NP, hNP⟩ : ∃ N, p.length = N := ⟨_, rfl⟩
  obtain ⟨NA, hNA⟩ : ∃ N, a.length = N := ⟨_, rfl⟩
  obtain ⟨NE, hNE⟩ : ∃ N, e.length = N := ⟨_, rfl⟩
  have HNP := Lh hNP
  have HNA := Lh hNA
  have HNE := Lh hNE
  rw [hNP, hNA, hNE] at hv HM ⊢
  rw [hNP] at hl
  have HV := Lh hv
  have H0 := Lh h0
  have H1 := Lh h1
  have H2 := Lh h2
  clear h0 h1 h2 hv hS hT hNP hNA hNE hl
  have z0 := three0 w (.cells #[.slice A0 NP c0, .slice A1 NA c1, .slice A2 NE c2, .int .i64 r] 36) (.cells #[.int .i64 yx, .int .i64 yy, .int .i64 yz] 23) (.cells #[.slice none 0 0, .slice none 0 0, .slice none 0 0, .int .i64 0] 36)
  have z1 := three1 w (.cells #[.slice A0 NP c0, .slice A1 NA c1, .slice A2 NE c2, .int .i64 r] 36) (.cells #[.int .i64 yx, .int .i64 yy, .int .i64 yz] 23) (.cells #[.slice none 0 0, .slice none 0 0, .slice none 0 0, .int .i64 0] 36)
  have z2 := three2 w (.cells #[.slice A0 NP c0, .slice A1 NA c1, .slice A2 NE c2, .int .i64 r] 36) (.cells #[.int .i64 yx, .int .i64 yy, .int .i64 yz] 23) (.cells #[.slice none 0 0, .slice none 0 0, .slice none 0 0, .int .i64 0] 36)
  have zb := Go.Joins.below_alloc3 w (.cells #[.slice A0 NP c0, .slice A1 NA c1, .slice A2 NE c2, .int .i64 r] 36) (.cells #[.int .i64 yx, .int .i64 yy, .int .i64 yz] 23) (.cells #[.slice none 0 0, .slice none 0 0, .slice none 0 0, .int .i64 0] 36)
  go_enter Try.func37, Try.ntmps37
  go_wp2_with fail
  obtain ⟨w1, hw1⟩ : ∃ V, ((w.alloc (.cells #[.slice A0 NP c0, .slice A1 NA c1, .slice A2 NE c2, .int .i64 r] 36)).alloc (.cells #[.int .i64 yx, .int .i64 yy, .int .i64 yz] 23)).alloc (.cells #[.slice none 0 0, .slice none 0 0, .slice none 0 0, .int .i64 0] 36) = V := ⟨_, rfl⟩
  rw [hw1] at z0 z1 z2 zb ⊢
  clear hw1
  with_reducible refine (HM.out w1 (HV.out.below zb)).mono ?_
  rintro en w2 ⟨rfl, hb⟩
  have Z0 := Lh ((hb.block _ (blk_lt z0)).trans z0)
  have Z1 := Lh ((hb.block _ (blk_lt z1)).trans z1)
  have Z2 := Lh ((hb.block _ (blk_lt z2)).trans z2)
  have ZB := Lh (bthen zb hb)
  have H0 := Lh (H0.out.below ZB.out)
  have H1 := Lh (H1.out.below ZB.out)
  have H2 := Lh (H2.out.below ZB.out)
  clear zb z0 z1 z2 hb HM HV
  cases S with
  | false =>
    have HT := Lh (HT0.out (.inl rfl))
    clear HT0 HT1 HYES
    have f0 : w2.frozen? ⟨w.heap.size + 2, 0, none⟩ = false := blk_frozen Z2.out 0
    have f1 : w2.frozen? ⟨w.heap.size + 2, 1, none⟩ = false := blk_frozen Z2.out 1
    have f2 : w2.frozen? ⟨w.heap.size + 2, 2, none⟩ = false := blk_frozen Z2.out 2
    have f3 : w2.frozen? ⟨w.heap.size + 2, 3, none⟩ = false := blk_frozen Z2.out 3
    have r0 : w2.cell? ⟨w.heap.size + 2, 0, none⟩ = some (.slice none 0 0) := (blk_cell Z2.out 0).trans rfl
    have r1 : w2.cell? ⟨w.heap.size + 2, 1, none⟩ = some (.slice none 0 0) := (blk_cell Z2.out 1).trans rfl
    have r2 : w2.cell? ⟨w.heap.size + 2, 2, none⟩ = some (.slice none 0 0) := (blk_cell Z2.out 2).trans rfl
    have r3 : w2.cell? ⟨w.heap.size + 2, 3, none⟩ = some (.int .i64 0) := (blk_cell Z2.out 3).trans rfl
    obtain ⟨V, hV⟩ : ∃ V, set4 w2 (w.heap.size + 1 + 1) (.slice none 0 0) (.slice none 0 0) (.slice none 0 0) (.int .i64 0) = V := ⟨_, rfl⟩
    have HV : V.heap[w.heap.size + 2]? = some (.cells #[.slice none 0 0, .slice none 0 0, .slice none 0 0, .int .i64 0] 36 (0, 0)) := by rw [← hV]; exact blk4_set Z2.out _ _ _ _
    have HBV : Below w.heap.size w V := by rw [← hV]; exact below_set4 ZB.out (by omega) _ _ _ _
    have t0 : V.cell? ⟨w.heap.size + 1 + 1, 0, none⟩ = some (.slice none 0 0) := (blk_cell HV 0).trans rfl
    have t1 : V.cell? ⟨w.heap.size + 1 + 1, 1, none⟩ = some (.slice none 0 0) := (blk_cell HV 1).trans rfl
    have t2 : V.cell? ⟨w.heap.size + 1 + 1, 2, none⟩ = some (.slice none 0 0) := (blk_cell HV 2).trans rfl
    have t3 : V.cell? ⟨w.heap.size + 1 + 1, 3, none⟩ = some (.int .i64 0) := (blk_cell HV 3).trans rfl
    go_wp2
    (try rw [hV])
    exact bodyPost_ret (v := .agg #[.slice none 0 0, .slice none 0 0, .slice none 0 0, .int .i64 0]) (by simp [results, Try.results37, go_sem, t0, t1, t2, t3]) rfl ⟨_, rfl, by rw [HT.out]; exact ⟨none, none, none, 0, 0, 0, rfl, RdB.nil _, RdB.nil _, RdB.nil _, Nat.le_refl _, Nat.le_refl _, Nat.le_refl _⟩, HBV⟩
  | true =>
    by_cases tk0 : K < 0
    · have ek0 : decide (K < 0) = true := decide_eq_true tk0
      have HT := Lh (HT0.out (.inr (.inl tk0)))
      clear HT0 HT1 HYES
      have f0 : w2.frozen? ⟨w.heap.size + 2, 0, none⟩ = false := blk_frozen Z2.out 0
      have f1 : w2.frozen? ⟨w.heap.size + 2, 1, none⟩ = false := blk_frozen Z2.out 1
      have f2 : w2.frozen? ⟨w.heap.size + 2, 2, none⟩ = false := blk_frozen Z2.out 2
      have f3 : w2.frozen? ⟨w.heap.size + 2, 3, none⟩ = false := blk_frozen Z2.out 3
      have r0 : w2.cell? ⟨w.heap.size + 2, 0, none⟩ = some (.slice none 0 0) := (blk_cell Z2.out 0).trans rfl
      have r1 : w2.cell? ⟨w.heap.size + 2, 1, none⟩ = some (.slice none 0 0) := (blk_cell Z2.out 1).trans rfl
      have r2 : w2.cell? ⟨w.heap.size + 2, 2, none⟩ = some (.slice none 0 0) := (blk_cell Z2.out 2).trans rfl
      have r3 : w2.cell? ⟨w.heap.size + 2, 3, none⟩ = some (.int .i64 0) := (blk_cell Z2.out 3).trans rfl
      obtain ⟨V, hV⟩ : ∃ V, set4 w2 (w.heap.size + 1 + 1) (.slice none 0 0) (.slice none 0 0) (.slice none 0 0) (.int .i64 0) = V := ⟨_, rfl⟩
      have HV : V.heap[w.heap.size + 2]? = some (.cells #[.slice none 0 0, .slice none 0 0, .slice none 0 0, .int .i64 0] 36 (0, 0)) := by rw [← hV]; exact blk4_set Z2.out _ _ _ _
      have HBV : Below w.heap.size w V := by rw [← hV]; exact below_set4 ZB.out (by omega) _ _ _ _
      have t0 : V.cell? ⟨w.heap.size + 1 + 1, 0, none⟩ = some (.slice none 0 0) := (blk_cell HV 0).trans rfl
      have t1 : V.cell? ⟨w.heap.size + 1 + 1, 1, none⟩ = some (.slice none 0 0) := (blk_cell HV 1).trans rfl
      have t2 : V.cell? ⟨w.heap.size + 1 + 1, 2, none⟩ = some (.slice none 0 0) := (blk_cell HV 2).trans rfl
      have t3 : V.cell? ⟨w.heap.size + 1 + 1, 3, none⟩ = some (.int .i64 0) := (blk_cell HV 3).trans rfl
      go_wp2
      (try rw [hV])
      exact bodyPost_ret (v := .agg #[.slice none 0 0, .slice none 0 0, .slice none 0 0, .int .i64 0]) (by simp [results, Try.results37, go_sem, t0, t1, t2, t3]) rfl ⟨_, rfl, by rw [HT.out]; exact ⟨none, none, none, 0, 0, 0, rfl, RdB.nil _, RdB.nil _, RdB.nil _, Nat.le_refl _, Nat.le_refl _, Nat.le_refl _⟩, HBV⟩
    have ek0 : decide (K < 0) = false := decide_eq_false tk0
    by_cases tk1 : 16 < K
    · have ek1 : decide (16 < K) = true := decide_eq_true tk1
      have HT := Lh (HT0.out (.inr (.inr tk1)))
      clear HT0 HT1 HYES
      have f0 : w2.frozen? ⟨w.heap.size + 2, 0, none⟩ = false := blk_frozen Z2.out 0
      have f1 : w2.frozen? ⟨w.heap.size + 2, 1, none⟩ = false := blk_frozen Z2.out 1
      have f2 : w2.frozen? ⟨w.heap.size + 2, 2, none⟩ = false := blk_frozen Z2.out 2
      have f3 : w2.frozen? ⟨w.heap.size + 2, 3, none⟩ = false := blk_frozen Z2.out 3
      have r0 : w2.cell? ⟨w.heap.size + 2, 0, none⟩ = some (.slice none 0 0) := (blk_cell Z2.out 0).trans rfl
      have r1 : w2.cell? ⟨w.heap.size + 2, 1, none⟩ = some (.slice none 0 0) := (blk_cell Z2.out 1).trans rfl
      have r2 : w2.cell? ⟨w.heap.size + 2, 2, none⟩ = some (.slice none 0 0) := (blk_cell Z2.out 2).trans rfl
      have r3 : w2.cell? ⟨w.heap.size + 2, 3, none⟩ = some (.int .i64 0) := (blk_cell Z2.out 3).trans rfl
      obtain ⟨V, hV⟩ : ∃ V, set4 w2 (w.heap.size + 1 + 1) (.slice none 0 0) (.slice none 0 0) (.slice none 0 0) (.int .i64 0) = V := ⟨_, rfl⟩
      have HV : V.heap[w.heap.size + 2]? = some (.cells #[.slice none 0 0, .slice none 0 0, .slice none 0 0, .int .i64 0] 36 (0, 0)) := by rw [← hV]; exact blk4_set Z2.out _ _ _ _
      have HBV : Below w.heap.size w V := by rw [← hV]; exact below_set4 ZB.out (by omega) _ _ _ _
      have t0 : V.cell? ⟨w.heap.size + 1 + 1, 0, none⟩ = some (.slice none 0 0) := (blk_cell HV 0).trans rfl
      have t1 : V.cell? ⟨w.heap.size + 1 + 1, 1, none⟩ = some (.slice none 0 0) := (blk_cell HV 1).trans rfl
      have t2 : V.cell? ⟨w.heap.size + 1 + 1, 2, none⟩ = some (.slice none 0 0) := (blk_cell HV 2).trans rfl
      have t3 : V.cell? ⟨w.heap.size + 1 + 1, 3, none⟩ = some (.int .i64 0) := (blk_cell HV 3).trans rfl
      go_wp2
      (try rw [hV])
      exact bodyPost_ret (v := .agg #[.slice none 0 0, .slice none 0 0, .slice none 0 0, .int .i64 0]) (by simp [results, Try.results37, go_sem, t0, t1, t2, t3]) rfl ⟨_, rfl, by rw [HT.out]; exact ⟨none, none, none, 0, 0, 0, rfl, RdB.nil _, RdB.nil _, RdB.nil _, Nat.le_refl _, Nat.le_refl _, Nat.le_refl _⟩, HBV⟩
    have ek1 : decide (16 < K) = false := decide_eq_false tk1
    obtain ⟨hm, hl16, hy⟩ := HYES.out rfl
    have m := Cr.mayP hm
    have g0 : 0 ≤ K := by omega
    have g1 : K ≤ 16 := by omega
    have hl1 : NP ≤ 16 := by rw [← HNP.out]; exact hl16
    have hl2 : NA ≤ 128 := by rw [← HNA.out]; exact m.a1
    have hl3 : NE ≤ 128 := by rw [← HNE.out]; exact m.e1
    have HT := Lh (HT1.out rfl g0 g1)
    have HEI := Lh (far_in (by decide) (by decide) m.ef)
    have hpi := far_in (by decide) (by decide) m.pf
    have hBB := partP_bd ⟨yx, yy, yz⟩ K g0 g1 4194304 hy (by decide)
    have ⟨mx1, mx2⟩ := wmul16 yx K ⟨hy.1, hy.2.1⟩ g0 g1
    have ⟨my1, my2⟩ := wmul16 yy K ⟨hy.2.2.1, hy.2.2.2.1⟩ g0 g1
    have ⟨mz1, mz2⟩ := wmul16 yz K ⟨hy.2.2.2.2.1, hy.2.2.2.2.2⟩ g0 g1
    have HPX := Lh (fun k (hk : k < p.length) => show plusI (partP ⟨yx, yy, yz⟩ K) p[k] = ⟨wrap64 (p[k].x + wrap64 ((wrap64 (yx * K)).tdiv 16)), wrap64 (p[k].y + wrap64 ((wrap64 (yy * K)).tdiv 16)), wrap64 (p[k].z + wrap64 ((wrap64 (yz * K)).tdiv 16))⟩ by
      have := hpi p[k] (List.getElem_mem hk)
      rw [mx1, my1, mz1, mx2, my2, mz2]
      unfold in3 partP at hBB
      unfold in3 at this
      unfold plusI partP wrap64
      simp only [P3.mk.injEq] at this hBB ⊢
      omega)
    have HLM := Lh (fun k (hk : k < p.length) => show (p ++ p.map (plusI (partP ⟨yx, yy, yz⟩ K))).take (NP + (k + 1)) = (p ++ p.map (plusI (partP ⟨yx, yy, yz⟩ K))).take (NP + k) ++ [plusI (partP ⟨yx, yy, yz⟩ K) p[k]] by
      have h9 := HNP.out
      rw [show NP + (k + 1) = NP + k + 1 from rfl, List.take_succ_eq_append_getElem (by rw [List.length_append, List.length_map, HNP.out]; omega), List.getElem_append_right (by rw [HNP.out]; omega)]
      simp [HNP.out])
    have HLM0 : Hid ((p ++ p.map (plusI (partP ⟨yx, yy, yz⟩ K))).take (NP + 0) = p) := Lh (by rw [Nat.add_zero, ← HNP.out, List.take_left])
    have HLM1 : Hid ((p ++ p.map (plusI (partP ⟨yx, yy, yz⟩ K))).take (NP + NP) = p ++ p.map (plusI (partP ⟨yx, yy, yz⟩ K))) := Lh (List.take_of_length_le (by rw [List.length_append, List.length_map, HNP.out]; exact Nat.le_refl _))
    have HLL : Hid ((p ++ p.map (plusI (partP ⟨yx, yy, yz⟩ K))).length ≤ 32) := Lh (by rw [List.length_append, List.length_map, HNP.out]; omega)
    obtain ⟨LM, hLM⟩ : ∃ L, p ++ p.map (plusI (partP ⟨yx, yy, yz⟩ K)) = L := ⟨_, rfl⟩
    rw [hLM] at HLM HLM0 HLM1 HLL HT
    have HSH := Lh (fun W => short_calls yx yy yz W)
    obtain ⟨s, hs⟩ : ∃ s, short3 ⟨yx, yy, yz⟩ = s := ⟨_, rfl⟩
    rw [hs] at HSH HT
    have HLA := Lh (fun k (hk : k < e.length) => show (acrossF ⟨yx, yy, yz⟩ e).take (k + 1) = (acrossF ⟨yx, yy, yz⟩ e).take k ++ [short3 (cross3 e[k] s)] by
      unfold acrossF
      rw [List.take_succ_eq_append_getElem (by rw [List.length_map]; exact hk), List.getElem_map, hs])
    have HLAL : Hid ((acrossF ⟨yx, yy, yz⟩ e).length = NE) := Lh (by unfold acrossF; rw [List.length_map]; exact HNE.out)
    obtain ⟨LA, hLA⟩ : ∃ L, acrossF ⟨yx, yy, yz⟩ e = L := ⟨_, rfl⟩
    rw [hLA] at HLA HLAL HT
    obtain ⟨sx, sy, sz⟩ := s
    simp only at HSH
    have HCL := Lh (fun (W : World) (hW : RdB W A0 p) => clone_own p NP A0 c0 W HNP.out hW.1 (by omega))
    have HW1 := Lh (fun (W : World) (va : Option Addr) (ca : Nat) (hA : RdB W A1 a) (hB : RdB W va LA) => with_calls a LA NA NE A1 va c1 ca W HNA.out HLAL.out hA.1 hB.1 (by omega) (by omega))
    have HW2 := Lh (fun (W : World) (vb : Option Addr) (hA : RdB W A2 e) (hB : RdB W vb [⟨sx, sy, sz⟩]) => with_calls e [⟨sx, sy, sz⟩] NE 1 A2 vb c2 1 W HNE.out rfl hA.1 hB.1 (by omega) (by omega))
    clear HT0 HT1 HYES hm hl16 m hpi hBB hLM hs hLA tk0 tk1 hy g0 g1 mx1 mx2 my1 my2 mz1 mz2
    have x0 : w2.cell? ⟨w.heap.size, 0, none⟩ = some (.slice A0 NP c0) := (blk_cell Z0.out 0).trans rfl
    have x3 : w2.cell? ⟨w.heap.size, 3, none⟩ = some (.int .i64 r) := (blk_cell Z0.out 3).trans rfl
    have l0 : w.heap.size < w2.heap.size := blk_lt Z0.out
    go_wp2_with fail
    have HB := Lh ((Below.refl w2.heap.size w2).drew)
    have FF := Lh (show ∀ V, Hid (Below (w2.heap.size) w2 V) → V.cell? ⟨w.heap.size, 0, none⟩ = some (.slice A0 NP c0) ∧ V.cell? ⟨w.heap.size, 3, none⟩ = some (.int .i64 r) from fun V HB => ⟨(HB.out.cell (p := ⟨w.heap.size, 0, none⟩) (l0)).trans x0, (HB.out.cell (p := ⟨w.heap.size, 3, none⟩) (l0)).trans x3⟩)
    refine start_ (n := 8) (S := fun w' => w'.cell? ⟨w.heap.size, 0, none⟩ = some (.slice A0 NP c0) ∧ w'.cell? ⟨w.heap.size, 3, none⟩ = some (.int .i64 r)) (ds := []) (MT 0 8) (by kernel_rfl) rfl rfl (FF.out _ HB) (fun hHeld => ?_)
    obtain ⟨wd, hwd⟩ : ∃ x, w2.drew = x := ⟨_, rfl⟩
    rw [hwd] at HB hHeld ⊢
    clear hwd
    refine pu_ 0 27 (h := ?_)
    refine pu_ 2 29 (h := ?_)
    refine ta_ 1 28 hHeld (h := ?_)
    refine ta_ 3 30 hHeld (h := ?_)
    refine join_ (σ := Nat × Value) 1 (MT 7 1) (fun s => [(31, s.2), (32, .agg #[s.2, .slice none 0 0, .slice none 0 0, .int .i64 r]), (7, .pointer (some ⟨s.1, 0, none⟩))]) (fun (s : Nat × Value) w' => match s with | (s1, s2) => w2.heap.size ≤ s1 ∧ w'.heap[s1]? = some (.cells #[.slice none 0 0, .slice none 0 0, .slice none 0 0, .int .i64 0] 36 (0, 0)) ∧ Below (w2.heap.size) w2 w' ∧ OwnP w' w2.heap.size s2 p ∧ s2.ownBlock ≠ some s1) ?_ ?_
    rotate_left
    · intro hCont
      refine two_ (i := 4) (j := 6) (Ni := some 31) (Nj := some 7) (MT 5 3) #[true, true, true, true, false, false, true, false] rfl rfl rfl rfl (by kernel_rfl) (by decide) (by decide) (fun K hK => ?_) (fun K hK => ?_)
      · skip
        refine gs_ Try.func71 #[.slice A0 NP c0] ?_
        with_reducible refine (HCL.out _ (H0.out.below HB.out)).mono ?_
        rintro en w3 ⟨vc, rfl, ho, hb⟩
        obtain ⟨Av, nv, cv, hvv⟩ : ∃ A n c, vc = .slice A n c := (by obtain ⟨A, c, h, _⟩ := OwnP.rd ho; exact ⟨A, _, c, h⟩)
        subst hvv
        have HO : Hid (OwnP _ w2.heap.size (.slice Av nv cv) p) := Lh (own_weaken ho HB.out.size)
        have HB := Lh (HB.out.trans (hb.mono HB.out.size))
        clear hb ho
        refine ⟨_, rfl, ?_⟩
        refine hK.out _ _ (FF.out _ HB) (fun hHeld => ?_)
        clear hK K
        refine no_ (h := ?_)
        refine pu_ 5 32 (h := ?_)
        refine on_ 6 (some 7) (h := fun K hK => ?_)
        refine value_ (w1 := ?_) (v := ?_) (by rfl) rfl ?_ ?_
        rotate_left 2
        · go_simp
          constructor
          · rfl
          · rfl
        have HA := Lh (ha_new HB.out (.cells #[.slice none 0 0, .slice none 0 0, .slice none 0 0, .int .i64 0] 36))
        have hge := HB.out.size
        have NE_ := Lh (fun (e0 : _ = some _) => Nat.lt_irrefl _ (World.ownsRow.lt HO.out _ e0).2)
        have HO := Lh (HO.out.grown ((Below.refl _ _).alloc (Nat.le_refl _) (.cells #[.slice none 0 0, .slice none 0 0, .slice none 0 0, .int .i64 0] 36)))
        have HB := Lh (HB.out.alloc (Nat.le_trans (Nat.le_refl _) HB.out.size) (.cells #[.slice none 0 0, .slice none 0 0, .slice none 0 0, .int .i64 0] 36))
        refine hK.out _ _ (FF.out _ HB) (fun hHeld => ?_)
        clear hK K
        refine no_ (h := ?_)
        exact norm_ (by simp only [putAll, Act.put, List.setIfInBounds_toArray, List.set_cons_zero, List.set_cons_succ]) (hCont (_, _) _ ⟨hge, HA.out, HB.out, HO.out, NE_.out⟩)
      · skip
        refine value_ (w1 := ?_) (v := ?_) (by rfl) rfl ?_ ?_
        rotate_left 2
        · go_simp
          constructor
          · rfl
          · rfl
        have HA := Lh (ha_new HB.out (.cells #[.slice none 0 0, .slice none 0 0, .slice none 0 0, .int .i64 0] 36))
        have hge := HB.out.size
        have HB := Lh (HB.out.alloc (Nat.le_trans (Nat.le_refl _) HB.out.size) (.cells #[.slice none 0 0, .slice none 0 0, .slice none 0 0, .int .i64 0] 36))
        refine hK.out _ _ (FF.out _ HB) (fun hHeld => ?_)
        clear hK K
        refine no_ (h := ?_)
        refine on_ 4 (some 31) (h := fun K hK => ?_)
        refine gs_ Try.func71 #[.slice A0 NP c0] ?_
        with_reducible refine (HCL.out _ (H0.out.below HB.out)).mono ?_
        rintro en w3 ⟨vc, rfl, ho, hb⟩
        obtain ⟨Av, nv, cv, hvv⟩ : ∃ A n c, vc = .slice A n c := (by obtain ⟨A, c, h, _⟩ := OwnP.rd ho; exact ⟨A, _, c, h⟩)
        subst hvv
        have NE_ := Lh (fun (e0 : (Value.slice Av nv cv).ownBlock = some _) => Nat.lt_irrefl _ (Nat.lt_of_lt_of_le (blk_lt HA.out) (ho.base_ _ e0)))
        have HA := Lh ((hb.block _ (blk_lt HA.out)).trans HA.out)
        have HO : Hid (OwnP _ w2.heap.size (.slice Av nv cv) p) := Lh (own_weaken ho HB.out.size)
        have HB := Lh (HB.out.trans (hb.mono HB.out.size))
        clear hb ho
        refine ⟨_, rfl, ?_⟩
        refine hK.out _ _ (FF.out _ HB) (fun hHeld => ?_)
        clear hK K
        refine no_ (h := ?_)
        refine pu_ 5 32 (h := ?_)
        exact norm_ (by simp only [putAll, Act.put, List.setIfInBounds_toArray, List.set_cons_zero, List.set_cons_succ]) (hCont (_, _) _ ⟨hge, HA.out, HB.out, HO.out, NE_.out⟩)
    rintro ⟨AB, vc⟩ wj ⟨hge, HA, HB, HO, NE_⟩
    (try simp only at hge HA HB HO NE_)
    have HA := Lh HA
    have HB := Lh HB
    have NE_ := Lh NE_
    obtain ⟨Av, nv, cv, hvv⟩ : ∃ A n c, vc = .slice A n c := (by obtain ⟨A, c, h, _⟩ := OwnP.rd HO; exact ⟨A, _, c, h⟩)
    subst hvv
    have HO := Lh HO
    have hHeld := FF.out _ HB
    refine no_ (h := ?_)
    refine on_ 7 (none) (h := fun K hK => ?_)
    have sc0 : World.cell? _ ⟨AB, 0, none⟩ = some (.slice none 0 0) := (blk_cell HA.out 0).trans rfl
    have sf0 := blk_frozen HA.out 0
    have sc1 : World.cell? _ ⟨AB, 1, none⟩ = some (.slice none 0 0) := (blk_cell HA.out 1).trans rfl
    have sf1 := blk_frozen HA.out 1
    have sc2 : World.cell? _ ⟨AB, 2, none⟩ = some (.slice none 0 0) := (blk_cell HA.out 2).trans rfl
    have sf2 := blk_frozen HA.out 2
    have sc3 : World.cell? _ ⟨AB, 3, none⟩ = some (.int .i64 0) := (blk_cell HA.out 3).trans rfl
    have sf3 := blk_frozen HA.out 3
    refine skip_ (w1 := ?_) (by rfl) rfl ?_ ?_
    rotate_left
    · go_simp
      rfl
    have HO := Lh (own_setCell (own_setCell (own_setCell (own_setCell HO.out (p := ⟨AB, 0, none⟩) (fun e0 => NE_.out e0.symm) (.slice Av nv cv)) (p := ⟨AB, 1, none⟩) (fun e0 => NE_.out e0.symm) (.slice none 0 0)) (p := ⟨AB, 2, none⟩) (fun e0 => NE_.out e0.symm) (.slice none 0 0)) (p := ⟨AB, 3, none⟩) (fun e0 => NE_.out e0.symm) (.int .i64 r))
    have HA := Lh (bs4 HA.out (.slice Av nv cv) (.slice none 0 0) (.slice none 0 0) (.int .i64 r))
    have HB := Lh (bb4 HB.out (Nat.le_trans (Nat.le_refl _) hge) (.slice Av nv cv) (.slice none 0 0) (.slice none 0 0) (.int .i64 r))
    clear sc0 sf0 sc1 sf1 sc2 sf2 sc3 sf3
    refine hK.out _ _ (FF.out _ HB) (fun hHeld => ?_)
    clear hK K
    refine done_ (by kernel_rfl) ?_
    obtain ⟨w3, hwn⟩ : ∃ V, ((((wj.setCell ⟨AB, 0, none⟩ (.slice Av nv cv)).setCell ⟨AB, 1, none⟩ (.slice none 0 0)).setCell ⟨AB, 2, none⟩ (.slice none 0 0)).setCell ⟨AB, 3, none⟩ (.int .i64 r)) = V := ⟨_, rfl⟩
    rw [hwn] at HA HB HO ⊢
    clear hwn
    have HC3 : Hid (CSt w2 w3 (.slice Av nv cv) p [AB]) := Lh ⟨HO.out, HB.out, fun k hk => by
      rw [List.mem_singleton] at hk
      subst hk
      exact ⟨NE_.out, blk_lt HA.out⟩⟩
    have HC3 := Lh (HC3.out.len HLM0.out.symm)
    have HG := Lh hge
    have C0 := Lh ((HB.out.block _ (blk_lt Z0.out)).trans Z0.out)
    have HA3 := HA
    clear HA HB HO hge x0 x3 l0 HCL HLM0 NE_ FF
    have x0 : w3.cell? ⟨w.heap.size, 0, none⟩ = some (.slice A0 NP c0) := (blk_cell C0.out 0).trans rfl
    go_wp2_with fail
    go_loopw [36] (fun v36 wr => ∃ k : Nat, ∃ v : Value, k ≤ NP ∧ v36 = .int .i64 k ∧ Hid (CSt w2 wr v (LM.take (NP + k)) [AB]) ∧ Hid (wr.heap[AB]? = some (.cells #[v, .slice none 0 0, .slice none 0 0, .int .i64 r] 36 (0, 0)))) (fun i _ => NP - (intOf i).toNat)
    case atStart => exact ⟨0, _, by omega, rfl, HC3, HA3⟩
    case round =>
      obtain ⟨k, v, hk, rfl, hS, hT⟩ := hrel
      clear x0 HC3 HA3
      by_cases hlt : k < NP
      · have hkl : k < p.length := by rw [HNP.out]; exact hlt
        obtain ⟨b, o, rfl, lb, e0, e1, e2⟩ := (H0.out.below hS.out.below).1.get k hkl
        have HX := Lh (HPX.out k hkl)
        have HM1 := Lh (HLM.out k hkl)
        obtain ⟨x, hx⟩ : ∃ x, p[k] = x := ⟨_, rfl⟩
        rw [hx] at e0 e1 e2 HX HM1
        obtain ⟨xx, xy, xz⟩ := x
        simp only at HX e0 e1 e2
        rw [HX.out] at HM1
        have C1r := Lh (hS.out.old Z1.out)
        have q0 : wr.cell? ⟨w.heap.size + 1, 0, none⟩ = some (.int .i64 yx) := (blk_cell C1r.out 0).trans rfl
        have q1 : wr.cell? ⟨w.heap.size + 1, 1, none⟩ = some (.int .i64 yy) := (blk_cell C1r.out 1).trans rfl
        have q2 : wr.cell? ⟨w.heap.size + 1, 2, none⟩ = some (.int .i64 yz) := (blk_cell C1r.out 2).trans rfl
        have lq : w.heap.size + 1 < wr.heap.size := blk_lt C1r.out
        have t0 : wr.cell? ⟨AB, 0, none⟩ = some v := (blk_cell hT.out 0).trans rfl
        have lt : AB < wr.heap.size := blk_lt hT.out
        have tk : (k : Int) < (NP : Int) := by omega
        clear hx hkl C1r
        have hbA := ((Below.refl _ wr).alloc (Nat.le_refl _) (.cells #[.int .i64 xx, .int .i64 xy, .int .i64 xz] 23)).alloc (by simp) (.cells #[.int .i64 (wrap64 (xx + wrap64 ((wrap64 (yx * K)).tdiv 16))), .int .i64 (wrap64 (xy + wrap64 ((wrap64 (yy * K)).tdiv 16))), .int .i64 (wrap64 (xz + wrap64 ((wrap64 (yz * K)).tdiv 16)))] 23)
        have hS2 := Lh (hS.out.grown hbA)
        have hT2 := Lh ((hbA.block _ lt).trans hT.out)
        have hR2 := (Rd_one (heap_alloc_new (wr.alloc (.cells #[.int .i64 xx, .int .i64 xy, .int .i64 xz] 23)) (.cells #[.int .i64 (wrap64 (xx + wrap64 ((wrap64 (yx * K)).tdiv 16))), .int .i64 (wrap64 (xy + wrap64 ((wrap64 (yy * K)).tdiv 16))), .int .i64 (wrap64 (xz + wrap64 ((wrap64 (yz * K)).tdiv 16)))] 23))).1
        rw [World.size_alloc] at hR2
        clear hbA
        go_wp2_with (at_builtin; refine appL_ w2.heap.size rfl _ _ rfl _ (LM.take (NP + k)) [⟨wrap64 (xx + wrap64 ((wrap64 (yx * K)).tdiv 16)), wrap64 (xy + wrap64 ((wrap64 (yy * K)).tdiv 16)), wrap64 (xz + wrap64 ((wrap64 (yz * K)).tdiv 16))⟩] _ _ _ rfl rfl hS2.out.own hR2 rfl (by have := List.length_take_le (NP + k) LM; simp; omega) hS2.out.below.size ?_; intro v2 w4 hv2 hg2 hat; obtain ⟨Av2, nv2, cv2, hvv⟩ : ∃ A n c, v2 = .slice A n c := (by obtain ⟨A, c, h, _⟩ := OwnP.rd hv2; exact ⟨A, _, c, h⟩); subst hvv; have hT4 := Lh (hS2.out.blk hg2 (List.mem_singleton.2 rfl) hT2.out); have hS4 := Lh ((hS2.out.app hv2 hg2 hat).len HM1.out.symm); have u0 : w4.cell? ⟨AB, 0, none⟩ = some v := (blk_cell hT4.out 0).trans rfl; have u1 : w4.frozen? ⟨AB, 0, none⟩ = false := blk_frozen hT4.out 0; have lA4 : AB < w4.heap.size := blk_lt hT4.out; clear hv2 hg2 hat)
        go_roundw
        case rel => exact ⟨k + 1, .slice Av2 nv2 cv2, by omega, by go_num, Lh (hS4.out.setKeep (List.mem_singleton.2 rfl) HG.out 0 _), Lh (blk40 hT4.out (.slice Av2 nv2 cv2))⟩
        case measure => simp [intOf]; omega
      · obtain rfl : NP = k := by omega
        have hS := Lh (hS.out.len HLM1.out)
        clear HLM HLM1 HPX
        obtain ⟨nP, hnP⟩ : ∃ n, LM.length = n := ⟨_, rfl⟩
        obtain ⟨Ap, cp, hvp, hlp, hrp, hbp⟩ := hS.out.own.rdB2
        subst hvp
        rw [hnP] at hT hlp
        have HNM := Lh hnP
        have HLP := Lh hlp
        have HRP := Lh hrp
        have HBP := Lh (fun (ad : Addr) (ea : Ap = some ad) => show ad.block ≠ AB from fun e0 => (hS.out.ne AB (List.mem_singleton.2 rfl)).1 (by rw [ea]; show some ad.block = some AB; rw [e0]))
        have HBW := Lh hS.out.below
        have C0 := Lh (hS.out.old Z0.out)
        have C1 := Lh (hS.out.old Z1.out)
        have C2 := Lh (hS.out.old Z2.out)
        have H1 := Lh (H1.out.below HBW.out)
        have H2 := Lh (H2.out.below HBW.out)
        have ZB := Lh (bthen ZB.out HBW.out)
        have HGW := HG
        have q0 : wr.cell? ⟨w.heap.size + 1, 0, none⟩ = some (.int .i64 yx) := (blk_cell C1.out 0).trans rfl
        have q1 : wr.cell? ⟨w.heap.size + 1, 1, none⟩ = some (.int .i64 yy) := (blk_cell C1.out 1).trans rfl
        have q2 : wr.cell? ⟨w.heap.size + 1, 2, none⟩ = some (.int .i64 yz) := (blk_cell C1.out 2).trans rfl
        have lq : w.heap.size + 1 < wr.heap.size := blk_lt C1.out
        clear hnP hlp hrp hbp hS C1 H0 HNP
        go_wp2_with fail
        with_reducible refine (HSH.out _).mono ?_
        rintro en w5 ⟨rfl, hb⟩
        have HTA := Lh ((hb.block _ (blk_lt hT.out)).trans hT.out)
        have C0 := Lh ((hb.block _ (blk_lt C0.out)).trans C0.out)
        have C2 := Lh ((hb.block _ (blk_lt C2.out)).trans C2.out)
        have HRP := Lh (HRP.out.below hb)
        have H1 := Lh (H1.out.below hb)
        have H2 := Lh (H2.out.below hb)
        have ZB := Lh (bthen ZB.out hb)
        clear hb hT q0 q1 q2 lq HBW
        have x2 : w5.cell? ⟨w.heap.size, 2, none⟩ = some (.slice A2 NE c2) := (blk_cell C0.out 2).trans rfl
        have l0 : w.heap.size < w5.heap.size := blk_lt C0.out
        have zb6 := (Below.refl _ w5).alloc (Nat.le_refl _) (.cells #[.int .i64 sx, .int .i64 sy, .int .i64 sz] 23)
        have C5 := Lh (heap_alloc_new w5 (.cells #[.int .i64 sx, .int .i64 sy, .int .i64 sz] 23))
        have HTA := Lh ((zb6.block _ (blk_lt HTA.out)).trans HTA.out)
        have C0 := Lh ((zb6.block _ (blk_lt C0.out)).trans C0.out)
        have C2 := Lh ((zb6.block _ (blk_lt C2.out)).trans C2.out)
        have HRP := Lh (HRP.out.below zb6)
        have H1 := Lh (H1.out.below zb6)
        have H2 := Lh (H2.out.below zb6)
        have ZB := Lh (bthen ZB.out zb6)
        obtain ⟨w6, hw6⟩ : ∃ V, w5.alloc (.cells #[.int .i64 sx, .int .i64 sy, .int .i64 sz] 23) = V := ⟨_, rfl⟩
        rw [hw6] at HTA C0 C2 C5 HRP H1 H2 ZB zb6
        have hw6' := Lh hw6
        obtain ⟨SB, hSB⟩ : ∃ n, w5.heap.size = n := ⟨_, rfl⟩
        rw [hSB] at C5
        have HSB := Lh hSB
        have hls : SB < w6.heap.size := blk_lt C5.out
        clear hw6 zb6 hSB
        go_wp2_with fail
        (try rw [hw6'.out])
        (try rw [HSB.out])
        go_loopw [76, 11] (fun v76 v11 wr => ∃ k : Nat, k ≤ NE ∧ v76 = .int .i64 k ∧ Hid (CSt w6 wr v11 (LA.take k) [])) (fun i _ _ => NE - (intOf i).toNat)
        case atStart => exact ⟨0, by omega, rfl, Lh (CSt.start w6)⟩
        case round =>
          obtain ⟨k, hk, rfl, hS⟩ := hrel
          clear x2 l0
          obtain ⟨wq, hwq⟩ : ∃ x : World, x = wr := ⟨_, rfl⟩
          subst hwq
          by_cases hlt : k < NE
          · have hkl : k < e.length := by rw [HNE.out]; exact hlt
            obtain ⟨b, o, rfl, lb, e0, e1, e2⟩ := (H2.out.below hS.out.below).1.get k hkl
            have HM1 := Lh (HLA.out k hkl)
            obtain ⟨x, hx⟩ : ∃ x, e[k] = x := ⟨_, rfl⟩
            rw [hx] at e0 e1 e2 HM1
            obtain ⟨xx, xy, xz⟩ := x
            simp only at e0 e1 e2
            have HX1 := Lh (fun W => scross_calls xx xy xz sx sy sz W)
            obtain ⟨u, hu⟩ : ∃ u, cross3 ⟨xx, xy, xz⟩ ⟨sx, sy, sz⟩ = u := ⟨_, rfl⟩
            rw [hu] at HX1 HM1
            obtain ⟨ux, uy, uz⟩ := u
            simp only at HX1
            have HX2 := Lh (fun W => short_calls ux uy uz W)
            obtain ⟨d, hd⟩ : ∃ u, short3 ⟨ux, uy, uz⟩ = u := ⟨_, rfl⟩
            rw [hd] at HX2 HM1
            obtain ⟨dx, dy, dz⟩ := d
            simp only at HX2
            have C5q := Lh (hS.out.old C5.out)
            have s0 : wq.cell? ⟨SB, 0, none⟩ = some (.int .i64 sx) := (blk_cell C5q.out 0).trans rfl
            have s1 : wq.cell? ⟨SB, 1, none⟩ = some (.int .i64 sy) := (blk_cell C5q.out 1).trans rfl
            have s2 : wq.cell? ⟨SB, 2, none⟩ = some (.int .i64 sz) := (blk_cell C5q.out 2).trans rfl
            have ls : SB < wq.heap.size := blk_lt C5q.out
            have tk : (k : Int) < (NE : Int) := by omega
            clear hx hu hd hkl
            go_wp2_with fail
            with_reducible refine (HX1.out _).mono ?_
            rintro en w7 ⟨rfl, hb7⟩
            have hB7 := Lh (((Below.refl _ wq).alloc (Nat.le_refl _) (.cells #[.int .i64 xx, .int .i64 xy, .int .i64 xz] 23)).trans (hb7.mono (by simp)))
            clear hb7 e0 e1 e2 s0 s1 s2
            go_wp2_with fail
            with_reducible refine (HX2.out _).mono ?_
            rintro en w8 ⟨rfl, hb8⟩
            have hB8 := Lh (bthen hB7.out hb8)
            have hB9 := Lh (hB8.out.alloc hB8.out.size (.cells #[.int .i64 dx, .int .i64 dy, .int .i64 dz] 23))
            have hS9 := Lh (hS.out.grown hB9.out)
            have hR9 := (Rd_one (heap_alloc_new w8 (.cells #[.int .i64 dx, .int .i64 dy, .int .i64 dz] 23))).1
            clear hb8 hB7 hB8 hS
            go_wp2_with (at_builtin; refine appL_ w6.heap.size rfl _ _ rfl _ (LA.take k) [⟨dx, dy, dz⟩] _ _ _ rfl rfl hS9.out.own hR9 rfl (by have := List.length_take_le k LA; simp; omega) hS9.out.below.size ?_; intro v2 w4 hv2 hg2 hat; have hS4 := Lh ((hS9.out.app hv2 hg2 hat).len HM1.out.symm); clear hv2 hg2 hat)
            go_roundw
            case rel => exact ⟨k + 1, by omega, by go_num, hS4⟩
            case measure => simp [intOf]; omega
          · obtain rfl : NE = k := by omega
            have hS := Lh (hS.out.len (List.take_of_length_le (Nat.le_of_eq HLAL.out)))
            obtain ⟨Aa, ca, hva, hla, hra, hba⟩ := hS.out.own.rdB2
            subst hva
            rw [HLAL.out]
            have HRA := Lh hra
            have HB6 := Lh hS.out.below
            have HTA := Lh (hS.out.old HTA.out)
            have C0 := Lh (hS.out.old C0.out)
            have C2 := Lh (hS.out.old C2.out)
            have C5 := Lh (hS.out.old C5.out)
            have HRP := Lh (HRP.out.below HB6.out)
            have H1 := Lh (H1.out.below HB6.out)
            have H2 := Lh (H2.out.below HB6.out)
            have ZB := Lh (bthen ZB.out HB6.out)
            have x1 : wq.cell? ⟨w.heap.size, 1, none⟩ = some (.slice A1 NA c1) := (blk_cell C0.out 1).trans rfl
            have x2 : wq.cell? ⟨w.heap.size, 2, none⟩ = some (.slice A2 NE c2) := (blk_cell C0.out 2).trans rfl
            have s0 : wq.cell? ⟨SB, 0, none⟩ = some (.int .i64 sx) := (blk_cell C5.out 0).trans rfl
            have s1 : wq.cell? ⟨SB, 1, none⟩ = some (.int .i64 sy) := (blk_cell C5.out 1).trans rfl
            have s2 : wq.cell? ⟨SB, 2, none⟩ = some (.int .i64 sz) := (blk_cell C5.out 2).trans rfl
            have l0 : w.heap.size < wq.heap.size := blk_lt C0.out
            have ls : SB < wq.heap.size := blk_lt C5.out
            have lA : AB < wq.heap.size := blk_lt HTA.out
            clear hS hla hra hba hw6' HLA HSH
            go_wp2_with fail
            have HB := Lh ((Below.refl wq.heap.size wq).drew)
            have FF := Lh (show ∀ V, Hid (Below (wq.heap.size) wq V) → V.cell? ⟨w.heap.size, 1, none⟩ = some (.slice A1 NA c1) ∧ V.cell? ⟨w.heap.size, 2, none⟩ = some (.slice A2 NE c2) ∧ V.cell? ⟨SB, 0, none⟩ = some (.int .i64 sx) ∧ V.cell? ⟨SB, 1, none⟩ = some (.int .i64 sy) ∧ V.cell? ⟨SB, 2, none⟩ = some (.int .i64 sz) from fun V HB => ⟨(HB.out.cell (p := ⟨w.heap.size, 1, none⟩) (l0)).trans x1, (HB.out.cell (p := ⟨w.heap.size, 2, none⟩) (l0)).trans x2, (HB.out.cell (p := ⟨SB, 0, none⟩) (ls)).trans s0, (HB.out.cell (p := ⟨SB, 1, none⟩) (ls)).trans s1, (HB.out.cell (p := ⟨SB, 2, none⟩) (ls)).trans s2⟩)
            refine start_ (n := 13) (S := fun w' => w'.cell? ⟨w.heap.size, 1, none⟩ = some (.slice A1 NA c1) ∧ w'.cell? ⟨w.heap.size, 2, none⟩ = some (.slice A2 NE c2) ∧ w'.cell? ⟨SB, 0, none⟩ = some (.int .i64 sx) ∧ w'.cell? ⟨SB, 1, none⟩ = some (.int .i64 sy) ∧ w'.cell? ⟨SB, 2, none⟩ = some (.int .i64 sz)) (ds := [10, 12]) (MT 0 13) (by kernel_rfl) rfl rfl (FF.out _ HB) (fun hHeld => ?_)
            obtain ⟨wd, hwd⟩ : ∃ x, wq.drew = x := ⟨_, rfl⟩
            rw [hwd] at HB hHeld ⊢
            clear hwd
            refine pu_ 0 88 (h := ?_)
            refine pu_ 2 90 (h := ?_)
            refine pu_ 4 92 (h := ?_)
            refine ta_ 1 89 hHeld (h := ?_)
            refine ta_ 5 93 hHeld (h := ?_)
            refine ta_ 6 94 hHeld (h := ?_)
            refine join_ (σ := Nat × Value) 4 #[true, true, true, true, true, true, true, true, false, true, false, false, false] (fun s => [(91, s.2), (95, .slice (some ⟨s.1, 0, none⟩) 1 1), (97, .pointer (some ⟨AB, 1, none⟩))]) (fun (s : Nat × Value) w' => match s with | (s1, s2) => w'.heap[s1]? = some (.cells #[.int .i64 sx, .int .i64 sy, .int .i64 sz] 23 (0, 0)) ∧ Below (wq.heap.size) wq w' ∧ RdV w' wq.heap.size s2 (withF a LA)) ?_ ?_
            rotate_left
            · intro hCont
              refine two_ (i := 3) (j := 7) (Ni := some 91) (Nj := some 95) (MT 7 6) #[true, true, true, false, true, true, true, true, false, false, false, false, false] rfl rfl rfl rfl (by kernel_rfl) (by decide) (by decide) (fun K hK => ?_) (fun K hK => ?_)
              · skip
                refine gs_ Try.func79 #[.slice A1 NA c1, .slice Aa NE ca] ?_
                with_reducible refine (HW1.out _ _ _ (H1.out.below HB.out) (HRA.out.below HB.out)).mono ?_
                rintro en w7 ⟨A7, c7, rfl, hlc, hrd, hb, hbs⟩
                have HR1 : Hid (RdV _ wq.heap.size (.slice A7 (withF a LA).length c7) (withF a LA)) := Lh ⟨A7, c7, rfl, hlc, hrd, fun ad ea => Nat.le_trans HB.out.size (hbs ad ea)⟩
                have HB := Lh (HB.out.trans (hb.mono HB.out.size))
                clear hlc hrd hb hbs
                refine ⟨_, rfl, ?_⟩
                refine hK.out _ _ (FF.out _ HB) (fun hHeld => ?_)
                clear hK K
                refine no_ (h := ?_)
                refine pu_ 9 97 (h := ?_)
                refine on_ 7 (some 95) (h := fun K hK => ?_)
                refine value_ (w1 := ?_) (v := ?_) (by rfl) rfl ?_ ?_
                rotate_left 2
                · go_simp
                  constructor
                  · rfl
                  · rfl
                have HA := Lh (ha_new HB.out (.cells #[.int .i64 sx, .int .i64 sy, .int .i64 sz] 23))
                have HR1 := Lh (HR1.out.below ((Below.refl _ _).alloc (Nat.le_refl _) (.cells #[.int .i64 sx, .int .i64 sy, .int .i64 sz] 23)))
                have HB := Lh (HB.out.alloc (Nat.le_trans (Nat.le_refl _) HB.out.size) (.cells #[.int .i64 sx, .int .i64 sy, .int .i64 sz] 23))
                refine hK.out _ _ (FF.out _ HB) (fun hHeld => ?_)
                clear hK K
                refine no_ (h := ?_)
                exact norm_ (by simp only [putAll, Act.put, List.setIfInBounds_toArray, List.set_cons_zero, List.set_cons_succ]) (hCont (_, _) _ ⟨HA.out, HB.out, HR1.out⟩)
              · skip
                refine value_ (w1 := ?_) (v := ?_) (by rfl) rfl ?_ ?_
                rotate_left 2
                · go_simp
                  constructor
                  · rfl
                  · rfl
                have HA := Lh (ha_new HB.out (.cells #[.int .i64 sx, .int .i64 sy, .int .i64 sz] 23))
                have HB := Lh (HB.out.alloc (Nat.le_trans (Nat.le_refl _) HB.out.size) (.cells #[.int .i64 sx, .int .i64 sy, .int .i64 sz] 23))
                refine hK.out _ _ (FF.out _ HB) (fun hHeld => ?_)
                clear hK K
                refine no_ (h := ?_)
                refine on_ 3 (some 91) (h := fun K hK => ?_)
                refine gs_ Try.func79 #[.slice A1 NA c1, .slice Aa NE ca] ?_
                with_reducible refine (HW1.out _ _ _ (H1.out.below HB.out) (HRA.out.below HB.out)).mono ?_
                rintro en w7 ⟨A7, c7, rfl, hlc, hrd, hb, hbs⟩
                have HA := Lh ((hb.block _ (blk_lt HA.out)).trans HA.out)
                have HR1 : Hid (RdV _ wq.heap.size (.slice A7 (withF a LA).length c7) (withF a LA)) := Lh ⟨A7, c7, rfl, hlc, hrd, fun ad ea => Nat.le_trans HB.out.size (hbs ad ea)⟩
                have HB := Lh (HB.out.trans (hb.mono HB.out.size))
                clear hlc hrd hb hbs
                refine ⟨_, rfl, ?_⟩
                refine hK.out _ _ (FF.out _ HB) (fun hHeld => ?_)
                clear hK K
                refine no_ (h := ?_)
                refine pu_ 9 97 (h := ?_)
                exact norm_ (by simp only [putAll, Act.put, List.setIfInBounds_toArray, List.set_cons_zero, List.set_cons_succ]) (hCont (_, _) _ ⟨HA.out, HB.out, HR1.out⟩)
            rintro ⟨sb, va⟩ wj ⟨HA, HB, HR1⟩
            (try simp only at HA HB HR1)
            have HA := Lh HA
            have HB := Lh HB
            obtain ⟨A7, c7, rfl, hl7, hr7, hb7⟩ := HR1
            have HR7 := Lh hr7
            have HL7 := Lh hl7
            have HB7 := Lh hb7
            obtain ⟨n7, hn7⟩ : ∃ n, (withF a LA).length = n := ⟨_, rfl⟩
            rw [hn7] at HL7 ⊢
            have HN7 := Lh hn7
            clear hl7 hr7 hb7 hn7
            have hHeld := FF.out _ HB
            refine no_ (h := ?_)
            refine on_ 8 (some 96) (h := fun K hK => ?_)
            refine gs_ Try.func79 #[.slice A2 NE c2, .slice (some ⟨sb, 0, none⟩) 1 1] ?_
            with_reducible refine (HW2.out _ _ (H2.out.below HB.out) (Rd_one HA.out)).mono ?_
            rintro en w8 ⟨A8, c8, rfl, hlc, hrd, hb, hbs⟩
            have HR7 := Lh (HR7.out.below hb)
            have HB8 := Lh (fun (ad : Addr) (ea : A8 = some ad) => Nat.le_trans HB.out.size (hbs ad ea))
            have HB := Lh (HB.out.trans (hb.mono HB.out.size))
            have HR8 := Lh hrd
            have HL8 := Lh hlc
            obtain ⟨n8, hn8⟩ : ∃ n, (withF e [⟨sx, sy, sz⟩]).length = n := ⟨_, rfl⟩
            rw [hn8] at HL8 ⊢
            have HN8 := Lh hn8
            clear hlc hrd hb hbs hn8 HA
            refine ⟨_, rfl, ?_⟩
            refine hK.out _ _ (FF.out _ HB) (fun hHeld => ?_)
            clear hK K
            refine no_ (h := ?_)
            refine last_ (i := 10) (N := none) (MT 11 2) rfl rfl (by kernel_rfl) (by decide) (fun K hK => ?_)
            have HTB := Lh ((HB.out.block _ lA).trans HTA.out)
            have u1 : w8.cell? ⟨AB, 1, none⟩ = some (.slice none 0 0) := (blk_cell HTB.out 1).trans rfl
            have f1 : w8.frozen? ⟨AB, 1, none⟩ = false := blk_frozen HTB.out 1
            refine skip_ (w1 := ?_) (by rfl) rfl ?_ ?_
            rotate_left
            · go_simp
              rfl
            clear u1 f1
            refine hK.out _ _ ?_
            clear hK K
            refine pu_ 11 98 (h := ?_)
            refine last_ (i := 12) (N := none) (MT 13 0) rfl rfl (by kernel_rfl) (by decide) (fun K hK => ?_)
            have HTC := Lh (blk_s1 HTB.out (.slice A7 n7 c7))
            obtain ⟨w9, hw9⟩ : ∃ V, w8.setCell ⟨AB, 1, none⟩ (.slice A7 n7 c7) = V := ⟨_, rfl⟩
            rw [hw9] at HTC
            have hw9' := Lh hw9
            (try rw [hw9])
            clear hw9
            have u2 : w9.cell? ⟨AB, 2, none⟩ = some (.slice none 0 0) := (blk_cell HTC.out 2).trans rfl
            have f2 : w9.frozen? ⟨AB, 2, none⟩ = false := blk_frozen HTC.out 2
            refine skip_ (w1 := ?_) (by rfl) rfl ?_ ?_
            rotate_left
            · go_simp
              rfl
            clear u2 f2
            refine hK.out _ _ ?_
            clear hK K
            refine done_ (by kernel_rfl) ?_
            have HTD := Lh (blk_s2 HTC.out (.slice A8 n8 c8))
            have NP7 := Lh (fun (ad : Addr) (ea : A7 = some ad) => show ad.block ≠ AB from fun e0 => by have := HB7.out ad ea; omega)
            have NP8 := Lh (fun (ad : Addr) (ea : A8 = some ad) => show ad.block ≠ AB from fun e0 => by have := HB8.out ad ea; omega)
            have hge : w2.heap.size ≤ AB := HGW.out
            have hzz : w.heap.size + 2 < w2.heap.size := blk_lt Z2.out
            have hAw : w.heap.size ≤ AB := by omega
            have hA2 : w.heap.size + 2 ≠ AB := by omega
            have p9 := ((HRP.out.below HB.out).setc HBP.out 1 (.slice A7 n7 c7)).setc HBP.out 2 (.slice A8 n8 c8)
            have a9 := (HR7.out.setc NP7.out 1 (.slice A7 n7 c7)).setc NP7.out 2 (.slice A8 n8 c8)
            have e9 := (HR8.out.setc NP8.out 1 (.slice A7 n7 c7)).setc NP8.out 2 (.slice A8 n8 c8)
            have R9 := (Below.heap_setCell (w8.setCell ⟨AB, 1, none⟩ (.slice A7 n7 c7)) ⟨AB, 2, none⟩ (.slice A8 n8 c8) (w.heap.size + 2) hA2).trans ((Below.heap_setCell w8 ⟨AB, 1, none⟩ (.slice A7 n7 c7) (w.heap.size + 2) hA2).trans ((HB.out.block _ (blk_lt C2.out)).trans C2.out))
            have B9 := ((bthen ZB.out HB.out).setCell (p := ⟨AB, 1, none⟩) hAw (.slice A7 n7 c7)).setCell (p := ⟨AB, 2, none⟩) hAw (.slice A8 n8 c8)
            rw [hw9'.out] at p9 a9 e9 R9 B9
            obtain ⟨w10, hw10⟩ : ∃ V, w9.setCell ⟨AB, 2, none⟩ (.slice A8 n8 c8) = V := ⟨_, rfl⟩
            rw [hw10] at p9 a9 e9 R9 B9 HTD ⊢
            have d0_ : w10.cell? ⟨AB, 0, none⟩ = some (.slice Ap nP cp) := (blk_cell HTD.out 0).trans rfl
            have d1_ : w10.cell? ⟨AB, 1, none⟩ = some (.slice A7 n7 c7) := (blk_cell HTD.out 1).trans rfl
            have d2_ : w10.cell? ⟨AB, 2, none⟩ = some (.slice A8 n8 c8) := (blk_cell HTD.out 2).trans rfl
            have d3_ : w10.cell? ⟨AB, 3, none⟩ = some (.int .i64 r) := (blk_cell HTD.out 3).trans rfl
            have lA10 : AB < w10.heap.size := blk_lt HTD.out
            have r0 : w10.cell? ⟨w.heap.size + 1 + 1, 0, none⟩ = some (.slice none 0 0) := (blk_cell R9 0).trans rfl
            have r1 : w10.cell? ⟨w.heap.size + 1 + 1, 1, none⟩ = some (.slice none 0 0) := (blk_cell R9 1).trans rfl
            have r2 : w10.cell? ⟨w.heap.size + 1 + 1, 2, none⟩ = some (.slice none 0 0) := (blk_cell R9 2).trans rfl
            have r3 : w10.cell? ⟨w.heap.size + 1 + 1, 3, none⟩ = some (.int .i64 0) := (blk_cell R9 3).trans rfl
            have f0 : w10.frozen? ⟨w.heap.size + 1 + 1, 0, none⟩ = false := blk_frozen R9 0
            have f1 : w10.frozen? ⟨w.heap.size + 1 + 1, 1, none⟩ = false := blk_frozen R9 1
            have f2 : w10.frozen? ⟨w.heap.size + 1 + 1, 2, none⟩ = false := blk_frozen R9 2
            have f3 : w10.frozen? ⟨w.heap.size + 1 + 1, 3, none⟩ = false := blk_frozen R9 3
            have T7 := bs4 R9 (.slice Ap nP cp) (.slice A7 n7 c7) (.slice A8 n8 c8) (.int .i64 r)
            have B7 := bb4 B9 (show w.heap.size ≤ w.heap.size + 2 by omega) (.slice Ap nP cp) (.slice A7 n7 c7) (.slice A8 n8 c8) (.int .i64 r)
            have p7 := p9.setS R9 (.slice Ap nP cp) (.slice A7 n7 c7) (.slice A8 n8 c8) (.int .i64 r)
            have a7 := a9.setS R9 (.slice Ap nP cp) (.slice A7 n7 c7) (.slice A8 n8 c8) (.int .i64 r)
            have e7 := e9.setS R9 (.slice Ap nP cp) (.slice A7 n7 c7) (.slice A8 n8 c8) (.int .i64 r)
            obtain ⟨w11, hw11⟩ : ∃ V, ((((w10.setCell ⟨w.heap.size + 1 + 1, 0, none⟩ (.slice Ap nP cp)).setCell ⟨w.heap.size + 1 + 1, 1, none⟩ (.slice A7 n7 c7)).setCell ⟨w.heap.size + 1 + 1, 2, none⟩ (.slice A8 n8 c8)).setCell ⟨w.heap.size + 1 + 1, 3, none⟩ (.int .i64 r)) = V := ⟨_, rfl⟩
            have hw11b : ((((w10.setCell ⟨w.heap.size + 2, 0, none⟩ (.slice Ap nP cp)).setCell ⟨w.heap.size + 2, 1, none⟩ (.slice A7 n7 c7)).setCell ⟨w.heap.size + 2, 2, none⟩ (.slice A8 n8 c8)).setCell ⟨w.heap.size + 2, 3, none⟩ (.int .i64 r)) = w11 := hw11
            rw [hw11b] at T7 B7 p7 a7 e7
            have hv11 := Lh hw11
            have T7 := Lh T7
            have B7 := Lh B7
            have HVF : Hid (CrV w11 (.agg #[.slice Ap nP cp, .slice A7 n7 c7, .slice A8 n8 c8, .int .i64 r]) T) := Lh (by
              rw [HT.out]
              exact ⟨Ap, A7, A8, cp, c7, c8, by rw [HNM.out, HN7.out, HN8.out], p7, a7, e7, by rw [HNM.out]; exact HLP.out, by rw [HN7.out]; exact HL7.out, by rw [HN8.out]; exact HL8.out⟩)
            clear hw11 hw11b p7 a7 e7 p9 a9 e9 R9 B9 hw10 hHeld x1 x2 s0 s1 s2 l0 ls lA HTD HTC HTB HB HR7 HR8 hw9'
            go_wp2
            (try rw [hv11.out])
            have y0 : w11.cell? ⟨w.heap.size + 1 + 1, 0, none⟩ = some (.slice Ap nP cp) := (blk_cell T7.out 0).trans rfl
            have y1 : w11.cell? ⟨w.heap.size + 1 + 1, 1, none⟩ = some (.slice A7 n7 c7) := (blk_cell T7.out 1).trans rfl
            have y2 : w11.cell? ⟨w.heap.size + 1 + 1, 2, none⟩ = some (.slice A8 n8 c8) := (blk_cell T7.out 2).trans rfl
            have y3 : w11.cell? ⟨w.heap.size + 1 + 1, 3, none⟩ = some (.int .i64 r) := (blk_cell T7.out 3).trans rfl
            exact bodyPost_ret (v := .agg #[.slice Ap nP cp, .slice A7 n7 c7, .slice A8 n8 c8, .int .i64 r]) (by simp [results, Try.results37, go_sem, y0, y1, y2, y3]) rfl ⟨_, rfl, HVF.out, B7.out⟩
theorem trail_calls {w : World} {v : Value} {c : Cr} (h : CrV w v c) (y : P3) (K : Int) (hl : c.p.length ≤ 140737488355328) : Calls Try.prog 37 #[v, aP y, .int .i64 K] w (TrailPost (trailF c y K) w) := by
  obtain ⟨p, a, e, r⟩ := c
  obtain ⟨A0, A1, A2, c0, c1, c2, rfl, h0, h1, h2, _⟩ := id h.out
  exact trail_in p a e r A0 A1 A2 c0 c1 c2 y K w h h0 h1 h2 hl
end Go.Proofs.Ytckdhahceelckaa.G
namespace Go.Proofs.Ytckdhahceelckaa.G
open Go.RowKit Go.Proofs.YtckdhahceelckaaW.PrintWords Go.Proofs.YtckdhahceelckaaW.PrintLast Go.Proofs.YtckdhahceelckaaW.PrintMore
attribute [local go_sem] max2_mx min2_mn max_two min_two max_three min_three max_four min_four
attribute [local go_sem high] eqA23
set_option linter.unusedVariables false
set_option linter.unusedSimpArgs false
/-- half sizes of NarrowBricks -/
def hb_ (h : P3) : Prop := 1 ≤ h.x ∧ h.x ≤ 1000 ∧ 1 ≤ h.y ∧ h.y ≤ 1000 ∧ 1 ≤ h.z ∧ h.z ≤ 1000
end Go.Proofs.Ytckdhahceelckaa.G
namespace Go.Proofs.Ytckdhahceelckaa.G
open Go.RowKit Go.Proofs.YtckdhahceelckaaW.PrintWords Go.Proofs.YtckdhahceelckaaW.PrintLast Go.Proofs.YtckdhahceelckaaW.PrintMore
attribute [local go_sem] max2_mx min2_mn max_two min_two max_three min_three max_four min_four
attribute [local go_sem high] eqA23
set_option linter.unusedVariables false
set_option linter.unusedSimpArgs false
theorem CSt.set {w1 W : World} {v : Value} {l : List P3} {keep : List Nat} (h : CSt w1 W v l keep) {g : Nat} (hm : g ∈ keep) (hg : w1.heap.size ≤ g) (j : Nat) (u : Value) : CSt w1 (W.setCell ⟨g, j, none⟩ u) v l keep :=
  ⟨own_setCell h.own (fun e => (h.ne g hm).1 e.symm) u, h.below.setCell (p := ⟨g, j, none⟩) hg u, fun k hk => ⟨(h.ne k hk).1, by simpa using (h.ne k hk).2⟩⟩
end Go.Proofs.Ytckdhahceelckaa.G
namespace Go.Proofs.Ytckdhahceelckaa.G
open Go.RowKit Go.Proofs.YtckdhahceelckaaW.PrintWords Go.Proofs.YtckdhahceelckaaW.PrintLast Go.Proofs.YtckdhahceelckaaW.PrintMore
set_option linter.unusedVariables false
set_option linter.unusedSimpArgs false
theorem any_far {n : Int} (h0 : 0 ≤ n) (h1 : n ≤ 9223372036854775807) {l : List P3} (h : ∀ x ∈ l, in3 n x) : l.any (far3 n) = false := by
  rw [List.any_eq_false]
  intro x hx
  rw [(far3_iff n x h0 h1).2 (h x hx)]
  decide
theorem place_in3 {m : M3} {at_ x : P3} (hm : mOk m) (ha : atOk at_) (hx : in3 65536 x) : in3 8388608 (placePt m at_ x) := by
  obtain ⟨_, _, _, h⟩ := turn_ok2 hm (times_in2 hx)
  obtain ⟨_, _, _, h2⟩ := add_in h ha
  exact down_in h2
theorem waysF_in (m : M3) (l : List P3) : ∀ x ∈ waysF m l, in3 1048576 x := by
  intro x hx
  unfold waysF at hx
  obtain ⟨h1, _⟩ := List.mem_filter.1 hx
  obtain ⟨y, _, rfl⟩ := List.mem_map.1 h1
  exact short3_in _
theorem CoreIs.may {s : Shp} (hs : ShpOk s) {p a e : List P3} (h : CoreIs s p a e) {q : P7} (hm : mOk (rowsF q.turn)) (ha : atOk q.at_) :
    MayP (p.map (placePt (rowsF q.turn) q.at_)) (waysF (rowsF q.turn) a) (waysF (rowsF q.turn) e) s.radius := by
  have hB := h.bounds hs
  refine ⟨fun e' => ?_, ?_, ?_, ?_, ?_, ?_, any_far (by decide) (by decide) fun x hx => ?_, any_far (by decide) (by decide) (waysF_in _ _), any_far (by decide) (by decide) (waysF_in _ _)⟩
  · have := hB.p0
    rw [List.map_eq_nil_iff] at e'
    rw [e'] at this
    simp at this
  · rw [List.length_map]; have := hB.p1; omega
  · have := hB.a1; have := waysF_len (rowsF q.turn) a; omega
  · have := hB.e1; have := waysF_len (rowsF q.turn) e; omega
  · have := hs.r0; omega
  · have := hs.r1; omega
  · obtain ⟨y, hy, rfl⟩ := List.mem_map.1 hx
    exact in3_le (by decide) (place_in3 hm ha (hB.pin y hy))
/-- both of Cores' answers may be -/
theorem rightPose_ok (p : P7) : mOk (rowsF (rightPose p).turn) ∧ atOk (rightPose p).at_ := by
  simp only [rightPose]
  exact ⟨rows_mOk (wholeF_q32 (partQ p.turn)), partV_at p.at_⟩
theorem nearF_ok (near : Int) (way : P3) (p : P7) : atOk (nearF near way (rightPose p).at_) := by
  have a := partF_bd p.at_.x 4398046511104 (by decide)
  have b := partF_bd p.at_.y 4398046511104 (by decide)
  have c := partF_bd p.at_.z 4398046511104 (by decide)
  have n := pickF_bd near 131072 (by decide)
  have x := pickF_bd way.x (2 * (1 + pickF near 131072)) (by omega)
  have y := pickF_bd way.y (2 * (1 + pickF near 131072)) (by omega)
  have z := pickF_bd way.z (2 * (1 + pickF near 131072)) (by omega)
  simp only [rightPose, partV, nearF, atOk, in3]
  omega
/-- what a value of Cores is for Apart -/
theorem CoreAt.may {s : Shp} (hs : ShpOk s) {q : P7} (hm : mOk (rowsF q.turn)) (ha : atOk q.at_) {w : World} {v : Value} (h : CoreAt s q w v) : ∃ p a e, CoreV w v p a e s.radius ∧ MayP p a e s.radius := by
  obtain ⟨p, a, e, h1, h2⟩ := h
  exact ⟨_, _, _, h2, h1.may hs hm ha⟩
end Go.Proofs.Ytckdhahceelckaa.G
namespace Go.Proofs.Ytckdhahceelckaa.G
open Go.RowKit Go.Proofs.YtckdhahceelckaaW.PrintWords
set_option linter.unusedVariables false
set_option linter.unusedSimpArgs false
theorem dblS {p : P3} (h : in3 524288 p) (h0 : p ≠ ⟨0, 0, 0⟩) : dbl3 p = dbl3 (two3 p) := by
  rw [dbl3, dif_neg]
  rintro (h1 | h1)
  · rw [(far3_iff _ _ (by omega) (by omega)).2 h] at h1; cases h1
  · exact h0 h1
theorem dbl_end {p : P3} (h : ¬ in3 524288 p) : dbl3 p = p := by
  rw [dbl3, dif_pos]
  left
  cases hf : far3 524288 p
  · exact absurd ((far3_iff _ _ (by omega) (by omega)).1 hf) h
  · rfl
abbrev E1 : P3 := ⟨1048576, 0, 0⟩
abbrev E2 : P3 := ⟨0, 1048576, 0⟩
abbrev E3 : P3 := ⟨0, 0, 1048576⟩
theorem long_1 : long3 ⟨1, 0, 0⟩ = E1 := by
  have e : short3 ⟨1, 0, 0⟩ = ⟨1, 0, 0⟩ := by
    have b : bare3 ⟨1, 0, 0⟩ = ⟨1, 0, 0⟩ := by unfold bare3 div3 gcd3; simp
    rw [short3_eq _ (by unfold in3; simp) (by simp), b, halve3_id _ (by unfold in3; simp), b]
  have s : ∀ x : Int, 1 ≤ x → x ≤ 524288 → dbl3 ⟨x, 0, 0⟩ = dbl3 ⟨2 * x, 0, 0⟩ := fun x h1 h2 => by
    have := dblS (p := ⟨x, 0, 0⟩) (by unfold in3; simp only; omega) (by simp; omega)
    rw [this]; unfold two3; simp
  unfold long3
  rw [e]
  refine (s 1 (by omega) (by omega)).trans ?_
  refine (s 2 (by omega) (by omega)).trans ?_
  refine (s 4 (by omega) (by omega)).trans ?_
  refine (s 8 (by omega) (by omega)).trans ?_
  refine (s 16 (by omega) (by omega)).trans ?_
  refine (s 32 (by omega) (by omega)).trans ?_
  refine (s 64 (by omega) (by omega)).trans ?_
  refine (s 128 (by omega) (by omega)).trans ?_
  refine (s 256 (by omega) (by omega)).trans ?_
  refine (s 512 (by omega) (by omega)).trans ?_
  refine (s 1024 (by omega) (by omega)).trans ?_
  refine (s 2048 (by omega) (by omega)).trans ?_
  refine (s 4096 (by omega) (by omega)).trans ?_
  refine (s 8192 (by omega) (by omega)).trans ?_
  refine (s 16384 (by omega) (by omega)).trans ?_
  refine (s 32768 (by omega) (by omega)).trans ?_
  refine (s 65536 (by omega) (by omega)).trans ?_
  refine (s 131072 (by omega) (by omega)).trans ?_
  refine (s 262144 (by omega) (by omega)).trans ?_
  refine (s 524288 (by omega) (by omega)).trans ?_
  exact dbl_end (by unfold in3; simp)
theorem sizes_x : fl3 E1 = 1048576 ∧ ce3 E1 = 1048576 := by
  have e : dotI E1 E1 = 1099511627776 := by unfold dotI; simp
  have a : fl3 E1 = 1048576 := by
    unfold fl3
    rw [e]
    have := isq_unique (1099511627776 : Int).toNat 1048576 (by decide) (by decide)
    rw [← this]; rfl
  refine ⟨a, ?_⟩
  unfold ce3
  rw [a, e]
  simp
theorem long_zero : long3 ⟨0, 0, 0⟩ = ⟨0, 0, 0⟩ := by
  unfold long3
  rw [short3_zero, dbl3, dif_pos (.inr rfl)]
end Go.Proofs.Ytckdhahceelckaa.G
namespace Go.Proofs.Ytckdhahceelckaa.G
open Go.RowKit Go.Proofs.YtckdhahceelckaaW.PrintWords Go.Proofs.YtckdhahceelckaaW.PrintLast Go.Proofs.YtckdhahceelckaaW.PrintMore
set_option linter.unusedVariables false
set_option linter.unusedSimpArgs false
theorem p3_of {p : P3} {a b c : Int} (h : p.x = a ∧ p.y = b ∧ p.z = c) : p = ⟨a, b, c⟩ := by
  cases p
  simp_all
theorem short_b (n : Int) (h0 : 1 ≤ n) (h1 : n ≤ 1000) (hbn : bare3 ⟨n, 0, 0⟩ = ⟨1, 0, 0⟩) : short3 ⟨n, 0, 0⟩ = ⟨1, 0, 0⟩ := by
  have h3 : halve3 ⟨1, 0, 0⟩ = ⟨1, 0, 0⟩ := by rw [halve3, dif_neg (by decide +kernel)]
  have b2 : bare3 ⟨1, 0, 0⟩ = ⟨1, 0, 0⟩ := p3_of (by decide +kernel)
  have hf : far3 4398046511104 ⟨n, 0, 0⟩ = false := (far3_iff _ _ (by decide) (by decide)).2 (by unfold in3; simp only; omega)
  unfold short3
  rw [if_neg (by
    rw [hf]
    rintro (h | h)
    · cases h
    · injection h with h _ _; omega), hbn, h3, b2]
theorem short_x (n : Int) (h0 : 1 ≤ n) (h1 : n ≤ 20) : short3 ⟨n, 0, 0⟩ = ⟨1, 0, 0⟩ := by
  have hb : ∀ m ∈ List.range 20, (bare3 ⟨((m + 1 : Nat) : Int), 0, 0⟩).x = 1 ∧ (bare3 ⟨((m + 1 : Nat) : Int), 0, 0⟩).y = 0 ∧ (bare3 ⟨((m + 1 : Nat) : Int), 0, 0⟩).z = 0 := by decide +kernel
  have hbn : bare3 ⟨n, 0, 0⟩ = ⟨1, 0, 0⟩ := by
    have := p3_of (hb (n.toNat - 1) (List.mem_range.2 (by omega)))
    have e : ((n.toNat - 1 + 1 : Nat) : Int) = n := by omega
    rwa [e] at this
  exact short_b n h0 (by omega) hbn
theorem short_zero : short3 ⟨0, 0, 0⟩ = ⟨0, 0, 0⟩ := by unfold short3; rw [if_pos (.inr rfl)]
def exB : Cr := ⟨[⟨20, 0, 0⟩], [], [], 2⟩
theorem ex_gaps (m ra : Int) (l : List P3) (hl : l = [] ∧ m = 0 ∨ l = [⟨m, 0, 0⟩]) (h0 : 0 ≤ m) (h1 : m ≤ 20) : gapsF E1 ⟨0, 0, 0⟩ l ra ⟨20, 0, 0⟩ [] 2 = (20 - m - ra - 2, -20 - ra - 2) := by
  have d0 : dot3 E1 ⟨0, 0, 0⟩ = 0 := by decide +kernel
  have dm : dot3 E1 ⟨m, 0, 0⟩ = 1048576 * m := by
    rw [dot3_eq E1 ⟨m, 0, 0⟩ 1048576 1048576 (by unfold in3 E1; decide) (by unfold in3; simp only; omega) (by decide)]
    unfold dotI E1
    simp only
    omega
  have d20 : dot3 E1 ⟨20, 0, 0⟩ = 20971520 := by decide +kernel
  have ha : reachF E1 ⟨0, 0, 0⟩ l = (0, 1048576 * m) := by
    rcases hl with ⟨rfl, rfl⟩ | rfl
    · simp [reachF, d0]
    · simp only [reachF, List.foldl_cons, List.foldl_nil, rstep, d0, dm, mn, mx, Prod.mk.injEq]
      constructor <;> split <;> omega
  have hb : reachF E1 ⟨20, 0, 0⟩ [] = (20971520, 20971520) := by simp [reachF, d20]
  obtain ⟨hf, hc⟩ := sizes_x
  unfold gapsF
  rw [ha, hb, hf, hc]
  unfold gapV
  simp only
  rw [if_pos (by omega), if_neg (by omega)]
  simp only [Prod.mk.injEq]
  omega
theorem ex_step {m ra : Int} {l L : List P3} (hl : l = [] ∧ m = 0 ∨ l = [⟨m, 0, 0⟩]) (h0 : 0 ≤ m) (h1 : m ≤ 20) (hL : ∀ x ∈ L, long3 x = E1 ∨ long3 x = ⟨0, 0, 0⟩) :
    (apF ⟨0, 0, 0⟩ l ra ⟨20, 0, 0⟩ [] 2 (⟨1, 0, 0⟩ :: L)).1 = (E1, 20 - m - ra - 2) := by
  have g := ex_gaps m ra l hl h0 h1
  have hE : E1 ≠ ⟨0, 0, 0⟩ := by
    intro e
    have : E1.x = 0 := by rw [e]
    revert this
    decide +kernel
  have s1 : ∀ s : (P3 × Int) × Bool, (s.2 = true ∨ s = ((E1, 20 - m - ra - 2), false)) → ∀ x, long3 x = E1 → apStep ⟨0, 0, 0⟩ l ra ⟨20, 0, 0⟩ [] 2 s x = ((E1, 20 - m - ra - 2), false) := by
    intro s hs x hx
    unfold apStep
    rw [hx, if_neg hE, g]
    rcases hs with hs | rfl
    · simp only [hs, true_or, if_true]
      rw [if_neg (by omega)]
    · simp only [Bool.false_eq_true, false_or, Int.lt_irrefl, if_false]
      rw [if_neg (by omega)]
  have all : ∀ L : List P3, (∀ x ∈ L, long3 x = E1 ∨ long3 x = ⟨0, 0, 0⟩) → L.foldl (apStep ⟨0, 0, 0⟩ l ra ⟨20, 0, 0⟩ [] 2) ((E1, 20 - m - ra - 2), false) = ((E1, 20 - m - ra - 2), false) := by
    intro L
    induction L with
    | nil => intro _; rfl
    | cons x L ih =>
      intro h
      rw [List.foldl_cons]
      have : apStep ⟨0, 0, 0⟩ l ra ⟨20, 0, 0⟩ [] 2 ((E1, 20 - m - ra - 2), false) x = ((E1, 20 - m - ra - 2), false) := by
        rcases h x (by simp) with hx | hx
        · exact s1 _ (.inr rfl) x hx
        · unfold apStep; rw [hx, if_pos rfl]
      rw [this]
      exact ih fun y hy => h y (by simp [hy])
  unfold apF
  rw [List.foldl_cons, s1 _ (.inl rfl) _ long_1, all L hL]
theorem long_E (x : P3) (h : x = ⟨1, 0, 0⟩ ∨ x = ⟨0, 0, 0⟩) : long3 x = E1 ∨ long3 x = ⟨0, 0, 0⟩ := by
  rcases h with rfl | rfl
  · exact .inl long_1
  · exact .inr long_zero
theorem exB_may : exB.may = true := mayOne (by unfold in3; decide) (by decide) (by decide)
theorem ex_first (ra : Int) (h0 : 0 ≤ ra) (h1 : ra ≤ 2) : apS ⟨[⟨0, 0, 0⟩], [], [], ra⟩ exB = ((E1, 18 - ra), true) := by
  rw [apS_val (mayOne (by unfold in3; decide) h0 (by omega)) exB_may]
  have hr : rawC [⟨0, 0, 0⟩] [] [] [⟨20, 0, 0⟩] [] [] = [⟨1, 0, 0⟩] := by
    rw [rawC_balls, show minus3 ⟨20, 0, 0⟩ ⟨0, 0, 0⟩ = ⟨20, 0, 0⟩ from p3_of (by decide +kernel), short_x 20 (by decide) (by decide)]
  show (apartF [⟨0, 0, 0⟩] [] [] ra [⟨20, 0, 0⟩] [] [] 2, true) = _
  unfold apartF
  rw [hr]
  have := ex_step (m := 0) (ra := ra) (l := []) (L := []) (.inl ⟨rfl, rfl⟩) (by decide) (by decide) (fun x hx => by cases hx)
  rw [show [(⟨0, 0, 0⟩ : P3)].tail = [] from rfl, show [(⟨0, 0, 0⟩ : P3)].headD ⟨0, 0, 0⟩ = ⟨0, 0, 0⟩ from rfl, show [(⟨20, 0, 0⟩ : P3)].tail = [] from rfl, show [(⟨20, 0, 0⟩ : P3)].headD ⟨0, 0, 0⟩ = ⟨20, 0, 0⟩ from rfl, this]
  simp only [Prod.mk.injEq, and_true, true_and]
  omega
theorem ex_smay (s ra : Int) (h0 : 0 ≤ ra) (h1 : ra ≤ 2) (hs0 : 1 ≤ s) (hs1 : s ≤ 10) : smay ⟨[⟨0, 0, 0⟩], [], [], ra⟩ ⟨16 * s, 0, 0⟩ = true :=
  (smay_iff ..).2 ⟨mayOne (by unfold in3; decide) h0 (by omega), by simp, by unfold in3; simp only; omega⟩
theorem ex_part (s k : Int) : partP ⟨16 * s, 0, 0⟩ k = ⟨s * k, 0, 0⟩ := by
  unfold partP
  rw [Int.mul_assoc, Int.mul_tdiv_cancel_left _ (by decide)]
  simp
theorem ex_may (s ra : Int) (h0 : 0 ≤ ra) (h1 : ra ≤ 2) (hs0 : 1 ≤ s) (hs1 : s ≤ 10) (k : Int) (hk0 : 0 ≤ k) (hk1 : k ≤ 16) : (trailF ⟨[⟨0, 0, 0⟩], [], [], ra⟩ ⟨16 * s, 0, 0⟩ k).may = true := by
  refine trail_may (ex_smay s ra h0 h1 hs0 hs1) hk0 hk1 fun x hx => ?_
  have : x = ⟨0, 0, 0⟩ := by simpa using hx
  subst this
  have e1 := Int.mul_le_mul hs1 hk1 hk0 (by decide)
  have e0 := Int.mul_nonneg (show 0 ≤ s by omega) hk0
  rw [ex_part]
  unfold in3 plusI
  simp only
  omega
theorem ex_raw (m ra : Int) (h0 : 0 ≤ m) (h1 : m ≤ 20) : apartF [⟨0, 0, 0⟩, ⟨m, 0, 0⟩] [] [⟨1, 0, 0⟩] ra [⟨20, 0, 0⟩] [] [] 2 = (E1, 18 - m - ra) := by
  have hx : cross3 (short3 (cross3 ⟨1, 0, 0⟩ ⟨1, 0, 0⟩)) ⟨1, 0, 0⟩ = ⟨0, 0, 0⟩ := by
    rw [show cross3 ⟨1, 0, 0⟩ ⟨1, 0, 0⟩ = ⟨0, 0, 0⟩ from p3_of (by decide +kernel), short_zero]; exact p3_of (by decide +kernel)
  have hx0 : cross3 (short3 (cross3 ⟨1, 0, 0⟩ ⟨0, 0, 0⟩)) ⟨1, 0, 0⟩ = ⟨0, 0, 0⟩ := by
    rw [show cross3 ⟨1, 0, 0⟩ ⟨0, 0, 0⟩ = ⟨0, 0, 0⟩ from p3_of (by decide +kernel), short_zero]; exact p3_of (by decide +kernel)
  have e1 : short3 (minus3 ⟨20, 0, 0⟩ ⟨0, 0, 0⟩) = ⟨1, 0, 0⟩ := by rw [show minus3 ⟨20, 0, 0⟩ ⟨0, 0, 0⟩ = ⟨20, 0, 0⟩ from p3_of (by decide +kernel), short_x 20 (by decide) (by decide)]
  have e2 : short3 (minus3 ⟨20, 0, 0⟩ ⟨m, 0, 0⟩) = ⟨1, 0, 0⟩ ∨ short3 (minus3 ⟨20, 0, 0⟩ ⟨m, 0, 0⟩) = ⟨0, 0, 0⟩ := by
    rw [minus3_eq _ _ (by unfold in3; decide) (by unfold in3; simp only; omega)]
    by_cases h : m = 20
    · subst h; right; exact short_zero
    · left; exact short_x (20 - m) (by omega) (by omega)
  obtain ⟨u, hu⟩ : ∃ u, short3 (minus3 ⟨20, 0, 0⟩ ⟨m, 0, 0⟩) = u := ⟨_, rfl⟩
  rw [hu] at e2
  have hr : rawC [⟨0, 0, 0⟩, ⟨m, 0, 0⟩] [] [⟨1, 0, 0⟩] [⟨20, 0, 0⟩] [] [] = [⟨1, 0, 0⟩, ⟨0, 0, 0⟩, u, cross3 (short3 (cross3 ⟨1, 0, 0⟩ u)) ⟨1, 0, 0⟩] := by
    unfold rawC edgeW pointW roundW
    rw [if_neg (by simp [mn])]
    simp only [List.cons_append, List.nil_append, List.append_nil, List.flatMap_cons, List.flatMap_nil, List.map_cons, List.map_nil, e1, hx, hu]
  unfold apartF
  rw [hr]
  have := ex_step (m := m) (ra := ra) (l := [⟨m, 0, 0⟩]) (L := [⟨0, 0, 0⟩, u, cross3 (short3 (cross3 ⟨1, 0, 0⟩ u)) ⟨1, 0, 0⟩]) (.inr rfl) h0 h1 (fun x hx' => by
    simp only [List.mem_cons, List.not_mem_nil, or_false] at hx'
    rcases hx' with rfl | rfl | rfl
    · exact long_E _ (.inr rfl)
    · exact long_E _ e2
    · rcases e2 with e | e
      · rw [e, hx]; exact long_E _ (.inr rfl)
      · rw [e, hx0]; exact long_E _ (.inr rfl))
  simp only [List.headD_cons, List.tail_cons]
  rw [this]
  simp only [Prod.mk.injEq, true_and]
  omega
theorem ex_trail (s ra : Int) (h0 : 0 ≤ ra) (h1 : ra ≤ 2) (hs0 : 1 ≤ s) (hs1 : s ≤ 10) (y : P3) (hy : y = ⟨16 * s, 0, 0⟩) (hsh : short3 y = ⟨1, 0, 0⟩) (k : Int) (hk0 : 0 ≤ k) (hk1 : k ≤ 16) (hm : s * k ≤ 20) : apS (trailF ⟨[⟨0, 0, 0⟩], [], [], ra⟩ y k) exB = ((E1, 18 - s * k - ra), true) := by
  have hsm : smay ⟨[⟨0, 0, 0⟩], [], [], ra⟩ y = true := by rw [hy]; exact ex_smay s ra h0 h1 hs0 hs1
  have hmay : (trailF ⟨[⟨0, 0, 0⟩], [], [], ra⟩ y k).may = true := by rw [hy]; exact ex_may s ra h0 h1 hs0 hs1 k hk0 hk1
  have hpart : partP y k = ⟨s * k, 0, 0⟩ := by rw [hy]; exact ex_part s k
  rw [apS_val hmay exB_may, trailF_yes hsm hk0 hk1, hpart]
  have hm0 := Int.mul_nonneg (show 0 ≤ s by omega) hk0
  obtain ⟨m, hmm⟩ : ∃ m, s * k = m := ⟨_, rfl⟩
  rw [hmm] at hm hm0 ⊢
  have hw : withF [] [(⟨1, 0, 0⟩ : P3)] = [⟨1, 0, 0⟩] := by
    have : nz ⟨1, 0, 0⟩ = true := by decide +kernel
    unfold withF
    simp [this]
  have ha : withF [] (acrossF y []) = [] := rfl
  have hp : plusI ⟨m, 0, 0⟩ ⟨0, 0, 0⟩ = ⟨m, 0, 0⟩ := by unfold plusI; simp
  simp only [List.map_cons, List.map_nil, List.cons_append, List.nil_append, hsh, hw, ha, hp, exB]
  rw [ex_raw m ra hm0 hm]
theorem castL_go {c d : Cr} {y : P3} {n k : Nat} {x z : P3 × Int} (hx : 0 ≤ x.2) (hz : (apS (trailF c y ((k : Int) + 1)) d).1 = z) (h : 0 ≤ z.2) : castL c y d (n + 1) k x = castL c y d n (k + 1) z := by
  rw [castL, if_neg (by omega), hz, if_neg (by omega)]
theorem castL_stop {c d : Cr} {y : P3} {n k : Nat} {x z : P3 × Int} (hz : (apS (trailF c y ((k : Int) + 1)) d).1 = z) (h : z.2 < 0) : castL c y d (n + 1) k x = (k, x) := by
  rw [castL, hz, if_pos h]
  split <;> rfl
def exA : Cr := ⟨[⟨0, 0, 0⟩], [], [], 2⟩
theorem ex_castA : castF exA ⟨32, 0, 0⟩ exB = ((8, (E1, 0)), true) := by
  have hsh : short3 ⟨32, 0, 0⟩ = ⟨1, 0, 0⟩ := by
    exact short_b 32 (by decide) (by decide) (p3_of (by decide +kernel))
  have hok : castOk exA ⟨32, 0, 0⟩ exB = true := (castOk_iff ..).2 ⟨mayOne (by unfold in3; decide) (by decide) (by decide), exB_may, ex_smay 2 2 (by decide) (by decide) (by decide) (by decide), ex_may 2 2 (by decide) (by decide) (by decide) (by decide) 16 (by decide) (by decide)⟩
  have ht : ∀ k : Nat, k ≤ 8 → (apS (trailF exA ⟨32, 0, 0⟩ ((k : Int) + 1)) exB).1 = (E1, 14 - 2 * (k : Int)) := by
    intro k hk
    have := ex_trail 2 2 (by decide) (by decide) (by decide) (by decide) ⟨32, 0, 0⟩ rfl hsh ((k : Int) + 1) (by omega) (by omega) (by omega)
    show (apS (trailF ⟨[⟨0, 0, 0⟩], [], [], 2⟩ ⟨32, 0, 0⟩ ((k : Int) + 1)) exB).1 = _
    rw [this]
    simp only [Prod.mk.injEq, true_and]
    omega
  have gen : ∀ j k : Nat, j + k = 8 → castL exA ⟨32, 0, 0⟩ exB (j + 8) k (E1, 16 - 2 * (k : Int)) = (8, (E1, 0)) := by
    intro j
    induction j with
    | zero =>
      intro k hk
      have : k = 8 := by omega
      subst this
      exact (castL_stop (ht 8 (by decide)) (by decide)).trans rfl
    | succ j ih =>
      intro k hk
      rw [show j + 1 + 8 = (j + 8) + 1 by omega, castL_go (by simp only; omega) (ht k (by omega)) (by simp only; omega)]
      have := ih (k + 1) (by omega)
      rw [← this]
      congr 1
      simp only [Prod.mk.injEq, true_and]
      omega
  unfold castF
  rw [if_pos hok, show (apS exA exB).1 = (E1, 16) from by show (apS ⟨[⟨0, 0, 0⟩], [], [], 2⟩ exB).1 = _; rw [ex_first 2 (by decide) (by decide)]; rfl]
  have := gen 8 0 (by decide)
  rw [← this]
  rfl
def exP : Cr := ⟨[⟨0, 0, 0⟩], [], [], 0⟩
theorem ex_castP : castF exP ⟨160, 0, 0⟩ exB = ((1, (E1, 8)), true) := by
  have hsh : short3 ⟨160, 0, 0⟩ = ⟨1, 0, 0⟩ := by
    exact short_b 160 (by decide) (by decide) (p3_of (by decide +kernel))
  have hok : castOk exP ⟨160, 0, 0⟩ exB = true := (castOk_iff ..).2 ⟨mayOne (by unfold in3; decide) (by decide) (by decide), exB_may, ex_smay 10 0 (by decide) (by decide) (by decide) (by decide), ex_may 10 0 (by decide) (by decide) (by decide) (by decide) 16 (by decide) (by decide)⟩
  have ht : ∀ k : Nat, k ≤ 1 → (apS (trailF exP ⟨160, 0, 0⟩ ((k : Int) + 1)) exB).1 = (E1, 8 - 10 * (k : Int)) := by
    intro k hk
    have := ex_trail 10 0 (by decide) (by decide) (by decide) (by decide) ⟨160, 0, 0⟩ rfl hsh ((k : Int) + 1) (by omega) (by omega) (by omega)
    show (apS (trailF ⟨[⟨0, 0, 0⟩], [], [], 0⟩ ⟨160, 0, 0⟩ ((k : Int) + 1)) exB).1 = _
    rw [this]
    simp only [Prod.mk.injEq, true_and]
    omega
  unfold castF
  rw [if_pos hok, show (apS exP exB).1 = (E1, 18) from by show (apS ⟨[⟨0, 0, 0⟩], [], [], 0⟩ exB).1 = _; rw [ex_first 0 (by decide) (by decide)]; rfl]
  rw [show (16 : Nat) = 15 + 1 from rfl, castL_go (by decide) (ht 0 (by decide)) (by decide), show (15 : Nat) = 14 + 1 from rfl, castL_stop (ht 1 (by decide)) (by decide)]
  rfl
theorem ex_ray : rayF ⟨0, 0, 0⟩ ⟨160, 0, 0⟩ [exB] = ((0, 1), true) := by
  have h : rayAsk exP ⟨160, 0, 0⟩ exB = (1, true) := by unfold rayAsk; rw [ex_castP]; rfl
  have hl : rayL exP ⟨160, 0, 0⟩ [exB] = (0, 1) := by
    unfold rayL
    show leastF 0 _ _ 1 = _
    rw [leastF]
    have e : (match [exB][0]? with | some d => rayAsk exP ⟨160, 0, 0⟩ d | none => (0, false)) = (1, true) := h
    simp only [leastF, e, List.getElem?_cons_zero, h]
    simp
  unfold rayF
  rw [if_pos (show smay ⟨[⟨0, 0, 0⟩], [], [], 0⟩ ⟨160, 0, 0⟩ = true from ex_smay 10 0 (by decide) (by decide) (by decide) (by decide))]
  show (if (rayL exP ⟨160, 0, 0⟩ [exB]).1 < 0 then ((-1, 16), false) else (rayL exP ⟨160, 0, 0⟩ [exB], true)) = _
  rw [hl]; rfl
end Go.Proofs.Ytckdhahceelckaa.G
namespace Go.Proofs.Ytckdhahceelckaa.G
open Go.RowKit Go.Proofs.YtckdhahceelckaaW.PrintWords Go.Proofs.YtckdhahceelckaaW.PrintLast Go.Proofs.YtckdhahceelckaaW.PrintMore
attribute [local go_sem] max2_mx min2_mn max_two min_two max_three min_three max_four min_four
attribute [local go_sem high] eqA23 eqA40
set_option linter.unusedVariables false
set_option linter.unusedSimpArgs false
def CastPost (R : (Nat × (P3 × Int)) × Bool) (w : World) (en : Ending) (w' : World) : Prop := en = .returned (.tuple #[.int .i64 R.1.1, .agg #[.int .i64 R.1.2.1.x, .int .i64 R.1.2.1.y, .int .i64 R.1.2.1.z, .int .i64 R.1.2.2], .bool R.2]) ∧ Below w.heap.size w w'
theorem castL_neg {c d : Cr} {y : P3} {n k : Nat} {x : P3 × Int} (h : x.2 < 0) : castL c y d n k x = (k, x) := by
  cases n with
  | zero => rfl
  | succ n => rw [castL, if_pos h]
theorem CrV.form {w : World} {v : Value} {c : Cr} (h : CrV w v c) : ∃ A0 A1 A2 n0 n1 n2 c0 c1 c2, v = .agg #[.slice A0 n0 c0, .slice A1 n1 c1, .slice A2 n2 c2, .int .i64 c.r] := by
  obtain ⟨A0, A1, A2, c0, c1, c2, rfl, _⟩ := h.out
  exact ⟨_, _, _, _, _, _, _, _, _, rfl⟩
theorem four0 (w : World) (o1 o2 o3 o4 : Obj) : ((((w.alloc o1).alloc o2).alloc o3).alloc o4).heap[w.heap.size]? = some o1 := (Below.heap_alloc _ o4 _ (by simp; omega)).trans (three0 w o1 o2 o3)
theorem four1 (w : World) (o1 o2 o3 o4 : Obj) : ((((w.alloc o1).alloc o2).alloc o3).alloc o4).heap[w.heap.size + 1]? = some o2 := (Below.heap_alloc _ o4 _ (by simp)).trans (three1 w o1 o2 o3)
theorem four2 (w : World) (o1 o2 o3 o4 : Obj) : ((((w.alloc o1).alloc o2).alloc o3).alloc o4).heap[w.heap.size + 2]? = some o3 := (Below.heap_alloc _ o4 _ (by simp)).trans (three2 w o1 o2 o3)
theorem four3 (w : World) (o1 o2 o3 o4 : Obj) : ((((w.alloc o1).alloc o2).alloc o3).alloc o4).heap[w.heap.size + 3]? = some o4 := by
  have := heap_alloc_new (((w.alloc o1).alloc o2).alloc o3) o4
  simpa using this
theorem below_alloc4 (w : World) (o1 o2 o3 o4 : Obj) : Below w.heap.size w ((((w.alloc o1).alloc o2).alloc o3).alloc o4) := (Go.Joins.below_alloc3 w o1 o2 o3).alloc (by simp; omega) o4
set_option maxHeartbeats 16000000 in
set_option maxRecDepth 100000 in
theorem cast_calls {w : World} {va vb : Value} {a b : Cr} (ha : CrV w va a) (hb : CrV w vb b) (y : P3) (hl : a.p.length ≤ 140737488355328) : Calls Try.prog 34 #[va, aP y, vb] w (CastPost (castF a y b) w) := by
  have HNO := Lh (fun (h : castOk a y b = false) => show castF a y b = ((0, (⟨0, 0, 0⟩, 0)), false) from if_neg (by rw [h]; decide))
  have HYS := Lh (fun (h : castOk a y b = true) => show castF a y b = (castL a y b 16 0 (apS a b).1, true) from if_pos h)
  have HOK : Hid (castOk a y b = ((apS a b).2 && smay a y && (apS (trailF a y 16) b).2)) := Lh rfl
  have HA1 := Lh (fun (W : World) (h1 : CrV W va a) (h2 : CrV W vb b) => apart_all h1 h2 (apS a b) rfl)
  have HM := Lh (fun (W : World) (h1 : CrV W va a) => smay_calls h1 y hl)
  have HT := Lh (fun (W : World) (K : Int) (h1 : CrV W va a) => trail_calls h1 y K hl)
  have HA2 := Lh (fun (K : Int) (W : World) (u : Value) (h1 : CrV W u (trailF a y K)) (h2 : CrV W vb b) => apart_all h1 h2 (apS (trailF a y K) b) rfl)
  have HGO := Lh (fun n k x z h1 h2 h3 => castL_go (c := a) (d := b) (y := y) (n := n) (k := k) (x := x) (z := z) h1 h2 h3)
  have HSTOP := Lh (fun n k x z h1 h2 => castL_stop (c := a) (d := b) (y := y) (n := n) (k := k) (x := x) (z := z) h1 h2)
  have HNEG := Lh (fun n k x h1 => castL_neg (c := a) (d := b) (y := y) (n := n) (k := k) (x := x) h1)
  have HZ := Lh (fun k x => show castL a y b 0 k x = (k, x) from rfl)
  obtain ⟨CF, hCF⟩ : ∃ R, castF a y b = R := ⟨_, rfl⟩
  obtain ⟨CO, hCO⟩ : ∃ R, castOk a y b = R := ⟨_, rfl⟩
  obtain ⟨S, hS⟩ : ∃ R, smay a y = R := ⟨_, rfl⟩
  obtain ⟨CL, hCL⟩ : ∃ R, castL a y b = R := ⟨_, rfl⟩
  obtain ⟨TR, hTR⟩ : ∃ R, trailF a y = R := ⟨_, rfl⟩
  obtain ⟨X0, hX0⟩ : ∃ R, apS a b = R := ⟨_, rfl⟩
  obtain ⟨AP, hAP⟩ : ∃ R : Cr → (P3 × Int) × Bool, (fun c => apS c b) = R := ⟨_, rfl⟩
  have hAP2 : ∀ c, apS c b = AP c := fun c => by rw [← hAP]
  simp only [hAP2] at HOK HA2 HGO HSTOP HYS
  rw [hCF, hCO] at HNO
  rw [hCF, hCO, hCL, ← hAP2, hX0] at HYS
  rw [hCO, hS, hTR, ← hAP2 a, hX0] at HOK
  rw [hX0] at HA1
  rw [hS] at HM
  rw [hTR] at HT HA2
  simp only [hTR, hCL] at HGO HSTOP
  simp only [hCL] at HNEG HZ
  rw [hCF]
  clear hCF hCO hS hCL hTR hX0 hAP hAP2
  obtain ⟨⟨⟨Xx, Xy, Xz⟩, Xg⟩, Xo⟩ := X0
  obtain ⟨yx, yy, yz⟩ := y
  have HVA := Lh ha
  have HVB := Lh hb
  obtain ⟨A0, A1, A2, n0, n1, n2, c0, c1, c2, rfl⟩ := ha.form
  obtain ⟨B0, B1, B2, m0, m1, m2, d0, d1, d2, rfl⟩ := hb.form
  obtain ⟨ra, hra⟩ : ∃ r, a.r = r := ⟨_, rfl⟩
  obtain ⟨rb, hrb⟩ : ∃ r, b.r = r := ⟨_, rfl⟩
  rw [hra] at HVA HA1 HM HT
  rw [hrb] at HVB HA1 HA2
  rw [hra, hrb]
  simp only at HA1 HYS HOK
  clear ha hb hra hrb hl
  have z0 := four0 w (.cells #[.slice A0 n0 c0, .slice A1 n1 c1, .slice A2 n2 c2, .int .i64 ra] 36) (.cells #[.int .i64 yx, .int .i64 yy, .int .i64 yz] 23) (.cells #[.slice B0 m0 d0, .slice B1 m1 d1, .slice B2 m2 d2, .int .i64 rb] 36) (.cells #[.int .i64 0, .int .i64 0, .int .i64 0, .int .i64 0] 40)
  have z1 := four1 w (.cells #[.slice A0 n0 c0, .slice A1 n1 c1, .slice A2 n2 c2, .int .i64 ra] 36) (.cells #[.int .i64 yx, .int .i64 yy, .int .i64 yz] 23) (.cells #[.slice B0 m0 d0, .slice B1 m1 d1, .slice B2 m2 d2, .int .i64 rb] 36) (.cells #[.int .i64 0, .int .i64 0, .int .i64 0, .int .i64 0] 40)
  have z2 := four2 w (.cells #[.slice A0 n0 c0, .slice A1 n1 c1, .slice A2 n2 c2, .int .i64 ra] 36) (.cells #[.int .i64 yx, .int .i64 yy, .int .i64 yz] 23) (.cells #[.slice B0 m0 d0, .slice B1 m1 d1, .slice B2 m2 d2, .int .i64 rb] 36) (.cells #[.int .i64 0, .int .i64 0, .int .i64 0, .int .i64 0] 40)
  have z3 := four3 w (.cells #[.slice A0 n0 c0, .slice A1 n1 c1, .slice A2 n2 c2, .int .i64 ra] 36) (.cells #[.int .i64 yx, .int .i64 yy, .int .i64 yz] 23) (.cells #[.slice B0 m0 d0, .slice B1 m1 d1, .slice B2 m2 d2, .int .i64 rb] 36) (.cells #[.int .i64 0, .int .i64 0, .int .i64 0, .int .i64 0] 40)
  have zb := below_alloc4 w (.cells #[.slice A0 n0 c0, .slice A1 n1 c1, .slice A2 n2 c2, .int .i64 ra] 36) (.cells #[.int .i64 yx, .int .i64 yy, .int .i64 yz] 23) (.cells #[.slice B0 m0 d0, .slice B1 m1 d1, .slice B2 m2 d2, .int .i64 rb] 36) (.cells #[.int .i64 0, .int .i64 0, .int .i64 0, .int .i64 0] 40)
  go_enter Try.func34, Try.ntmps34
  go_wp2_with fail
  obtain ⟨w1, hw1⟩ : ∃ V, (((w.alloc (.cells #[.slice A0 n0 c0, .slice A1 n1 c1, .slice A2 n2 c2, .int .i64 ra] 36)).alloc (.cells #[.int .i64 yx, .int .i64 yy, .int .i64 yz] 23)).alloc (.cells #[.slice B0 m0 d0, .slice B1 m1 d1, .slice B2 m2 d2, .int .i64 rb] 36)).alloc (.cells #[.int .i64 0, .int .i64 0, .int .i64 0, .int .i64 0] 40) = V := ⟨_, rfl⟩
  rw [hw1] at z0 z1 z2 z3 zb ⊢
  clear hw1
  with_reducible refine (HA1.out w1 (HVA.out.below zb) (HVB.out.below zb)).mono ?_
  rintro en w2 ⟨rfl, hb⟩
  go_upto_region 2 with fail
  have Z0 := (hb.block _ (blk_lt z0)).trans z0
  have Z1 := (hb.block _ (blk_lt z1)).trans z1
  have Z2 := (hb.block _ (blk_lt z2)).trans z2
  have Z3 := (hb.block _ (blk_lt z3)).trans z3
  have ZB := bthen zb hb
  have hs2 : w.heap.size + 3 < w2.heap.size := blk_lt Z3
  clear zb z0 z1 z2 z3 hb HA1
  have ab := (Below.refl _ w2).alloc (Nat.le_refl _) (.cells #[.int .i64 Xx, .int .i64 Xy, .int .i64 Xz, .int .i64 Xg] 40)
  have HX := Lh (heap_alloc_new w2 (.cells #[.int .i64 Xx, .int .i64 Xy, .int .i64 Xz, .int .i64 Xg] 40))
  have Z0 := Lh ((ab.block _ (blk_lt Z0)).trans Z0)
  have Z1 := Lh ((ab.block _ (blk_lt Z1)).trans Z1)
  have Z2 := Lh ((ab.block _ (blk_lt Z2)).trans Z2)
  have Z3 := Lh ((ab.block _ (blk_lt Z3)).trans Z3)
  have ZB := Lh (bthen ZB ab)
  have HB3 := Lh ab
  obtain ⟨w3, hw3⟩ : ∃ V, w2.alloc (.cells #[.int .i64 Xx, .int .i64 Xy, .int .i64 Xz, .int .i64 Xg] 40) = V := ⟨_, rfl⟩
  obtain ⟨XB, hXB⟩ : ∃ n, w2.heap.size = n := ⟨_, rfl⟩
  rw [hw3] at HX Z0 Z1 Z2 Z3 ZB HB3 ⊢
  rw [hXB] at HX hs2 HB3 ⊢
  have hw3' := Lh hw3
  have hXB' := Lh hXB
  clear ab hw3 hXB
  cases Xo with
  | false =>
    have x0 : w3.cell? ⟨w.heap.size, 0, none⟩ = some (.slice A0 n0 c0) := (blk_cell Z0.out 0).trans rfl
    have x1 : w3.cell? ⟨w.heap.size, 1, none⟩ = some (.slice A1 n1 c1) := (blk_cell Z0.out 1).trans rfl
    have x2 : w3.cell? ⟨w.heap.size, 2, none⟩ = some (.slice A2 n2 c2) := (blk_cell Z0.out 2).trans rfl
    have x3 : w3.cell? ⟨w.heap.size, 3, none⟩ = some (.int .i64 ra) := (blk_cell Z0.out 3).trans rfl
    have xl : w.heap.size < w3.heap.size := blk_lt Z0.out
    have y0 : w3.cell? ⟨w.heap.size + 1, 0, none⟩ = some (.int .i64 yx) := (blk_cell Z1.out 0).trans rfl
    have y1 : w3.cell? ⟨w.heap.size + 1, 1, none⟩ = some (.int .i64 yy) := (blk_cell Z1.out 1).trans rfl
    have y2 : w3.cell? ⟨w.heap.size + 1, 2, none⟩ = some (.int .i64 yz) := (blk_cell Z1.out 2).trans rfl
    have yl : w.heap.size + 1 < w3.heap.size := blk_lt Z1.out
    have z0 : w3.cell? ⟨w.heap.size + 2, 0, none⟩ = some (.slice B0 m0 d0) := (blk_cell Z2.out 0).trans rfl
    have z1 : w3.cell? ⟨w.heap.size + 2, 1, none⟩ = some (.slice B1 m1 d1) := (blk_cell Z2.out 1).trans rfl
    have z2 : w3.cell? ⟨w.heap.size + 2, 2, none⟩ = some (.slice B2 m2 d2) := (blk_cell Z2.out 2).trans rfl
    have z3 : w3.cell? ⟨w.heap.size + 2, 3, none⟩ = some (.int .i64 rb) := (blk_cell Z2.out 3).trans rfl
    have zl : w.heap.size + 2 < w3.heap.size := blk_lt Z2.out
    have HR := Lh (HNO.out (HOK.out.trans rfl))
    clear HNO HYS HGO HSTOP HNEG HZ HA2 HT HM
    have r0 : w3.cell? ⟨w.heap.size + 3, 0, none⟩ = some (.int .i64 0) := (blk_cell Z3.out 0).trans rfl
    have f0 : w3.frozen? ⟨w.heap.size + 3, 0, none⟩ = false := blk_frozen Z3.out 0
    have r1 : w3.cell? ⟨w.heap.size + 3, 1, none⟩ = some (.int .i64 0) := (blk_cell Z3.out 1).trans rfl
    have f1 : w3.frozen? ⟨w.heap.size + 3, 1, none⟩ = false := blk_frozen Z3.out 1
    have r2 : w3.cell? ⟨w.heap.size + 3, 2, none⟩ = some (.int .i64 0) := (blk_cell Z3.out 2).trans rfl
    have f2 : w3.frozen? ⟨w.heap.size + 3, 2, none⟩ = false := blk_frozen Z3.out 2
    have r3 : w3.cell? ⟨w.heap.size + 3, 3, none⟩ = some (.int .i64 0) := (blk_cell Z3.out 3).trans rfl
    have f3 : w3.frozen? ⟨w.heap.size + 3, 3, none⟩ = false := blk_frozen Z3.out 3
    obtain ⟨V, hV⟩ : ∃ V, set4 w3 (w.heap.size + 1 + 1 + 1) (.int .i64 0) (.int .i64 0) (.int .i64 0) (.int .i64 0) = V := ⟨_, rfl⟩
    have HV : V.heap[w.heap.size + 3]? = some (.cells #[.int .i64 0, .int .i64 0, .int .i64 0, .int .i64 0] 40 (0, 0)) := by rw [← hV]; exact blk4_set Z3.out _ _ _ _
    have HBV : Below w.heap.size w V := by rw [← hV]; exact below_set4 ZB.out (by omega) _ _ _ _
    have t0 : V.cell? ⟨w.heap.size + 1 + 1 + 1, 0, none⟩ = some (.int .i64 0) := (blk_cell HV 0).trans rfl
    have t1 : V.cell? ⟨w.heap.size + 1 + 1 + 1, 1, none⟩ = some (.int .i64 0) := (blk_cell HV 1).trans rfl
    have t2 : V.cell? ⟨w.heap.size + 1 + 1 + 1, 2, none⟩ = some (.int .i64 0) := (blk_cell HV 2).trans rfl
    have t3 : V.cell? ⟨w.heap.size + 1 + 1 + 1, 3, none⟩ = some (.int .i64 0) := (blk_cell HV 3).trans rfl
    go_wp2
    (try rw [hV])
    exact bodyPost_ret (v := .tuple #[.int .i64 0, .agg #[.int .i64 0, .int .i64 0, .int .i64 0, .int .i64 0], .bool false]) (by simp [results, Try.results34, go_sem, t0, t1, t2, t3]) rfl ⟨by rw [HR.out]; rfl, HBV⟩
  | true =>
    have x0 : w3.cell? ⟨w.heap.size, 0, none⟩ = some (.slice A0 n0 c0) := (blk_cell Z0.out 0).trans rfl
    have x1 : w3.cell? ⟨w.heap.size, 1, none⟩ = some (.slice A1 n1 c1) := (blk_cell Z0.out 1).trans rfl
    have x2 : w3.cell? ⟨w.heap.size, 2, none⟩ = some (.slice A2 n2 c2) := (blk_cell Z0.out 2).trans rfl
    have x3 : w3.cell? ⟨w.heap.size, 3, none⟩ = some (.int .i64 ra) := (blk_cell Z0.out 3).trans rfl
    have xl : w.heap.size < w3.heap.size := blk_lt Z0.out
    have y0 : w3.cell? ⟨w.heap.size + 1, 0, none⟩ = some (.int .i64 yx) := (blk_cell Z1.out 0).trans rfl
    have y1 : w3.cell? ⟨w.heap.size + 1, 1, none⟩ = some (.int .i64 yy) := (blk_cell Z1.out 1).trans rfl
    have y2 : w3.cell? ⟨w.heap.size + 1, 2, none⟩ = some (.int .i64 yz) := (blk_cell Z1.out 2).trans rfl
    have yl : w.heap.size + 1 < w3.heap.size := blk_lt Z1.out
    have z0 : w3.cell? ⟨w.heap.size + 2, 0, none⟩ = some (.slice B0 m0 d0) := (blk_cell Z2.out 0).trans rfl
    have z1 : w3.cell? ⟨w.heap.size + 2, 1, none⟩ = some (.slice B1 m1 d1) := (blk_cell Z2.out 1).trans rfl
    have z2 : w3.cell? ⟨w.heap.size + 2, 2, none⟩ = some (.slice B2 m2 d2) := (blk_cell Z2.out 2).trans rfl
    have z3 : w3.cell? ⟨w.heap.size + 2, 3, none⟩ = some (.int .i64 rb) := (blk_cell Z2.out 3).trans rfl
    have zl : w.heap.size + 2 < w3.heap.size := blk_lt Z2.out
    go_wp2_with fail
    (try rw [hw3'.out])
    with_reducible refine (HM.out w3 (HVA.out.below ZB.out)).mono ?_
    rintro en w4 ⟨rfl, hb⟩
    (try rw [hXB'.out])
    have Z0 := Lh ((hb.block _ (blk_lt Z0.out)).trans Z0.out)
    have Z1 := Lh ((hb.block _ (blk_lt Z1.out)).trans Z1.out)
    have Z2 := Lh ((hb.block _ (blk_lt Z2.out)).trans Z2.out)
    have Z3 := Lh ((hb.block _ (blk_lt Z3.out)).trans Z3.out)
    have HX := Lh ((hb.block _ (blk_lt HX.out)).trans HX.out)
    have ZB := Lh (bthen ZB.out hb)
    clear hb x0 x1 x2 x3 xl y0 y1 y2 yl z0 z1 z2 z3 zl HB3
    cases S with
    | false =>
      have HR := Lh (HNO.out (HOK.out.trans rfl))
      clear HNO HYS HGO HSTOP HNEG HZ HA2 HT HM
      have r0 : w4.cell? ⟨w.heap.size + 3, 0, none⟩ = some (.int .i64 0) := (blk_cell Z3.out 0).trans rfl
      have f0 : w4.frozen? ⟨w.heap.size + 3, 0, none⟩ = false := blk_frozen Z3.out 0
      have r1 : w4.cell? ⟨w.heap.size + 3, 1, none⟩ = some (.int .i64 0) := (blk_cell Z3.out 1).trans rfl
      have f1 : w4.frozen? ⟨w.heap.size + 3, 1, none⟩ = false := blk_frozen Z3.out 1
      have r2 : w4.cell? ⟨w.heap.size + 3, 2, none⟩ = some (.int .i64 0) := (blk_cell Z3.out 2).trans rfl
      have f2 : w4.frozen? ⟨w.heap.size + 3, 2, none⟩ = false := blk_frozen Z3.out 2
      have r3 : w4.cell? ⟨w.heap.size + 3, 3, none⟩ = some (.int .i64 0) := (blk_cell Z3.out 3).trans rfl
      have f3 : w4.frozen? ⟨w.heap.size + 3, 3, none⟩ = false := blk_frozen Z3.out 3
      obtain ⟨V, hV⟩ : ∃ V, set4 w4 (w.heap.size + 1 + 1 + 1) (.int .i64 0) (.int .i64 0) (.int .i64 0) (.int .i64 0) = V := ⟨_, rfl⟩
      have HV : V.heap[w.heap.size + 3]? = some (.cells #[.int .i64 0, .int .i64 0, .int .i64 0, .int .i64 0] 40 (0, 0)) := by rw [← hV]; exact blk4_set Z3.out _ _ _ _
      have HBV : Below w.heap.size w V := by rw [← hV]; exact below_set4 ZB.out (by omega) _ _ _ _
      have t0 : V.cell? ⟨w.heap.size + 1 + 1 + 1, 0, none⟩ = some (.int .i64 0) := (blk_cell HV 0).trans rfl
      have t1 : V.cell? ⟨w.heap.size + 1 + 1 + 1, 1, none⟩ = some (.int .i64 0) := (blk_cell HV 1).trans rfl
      have t2 : V.cell? ⟨w.heap.size + 1 + 1 + 1, 2, none⟩ = some (.int .i64 0) := (blk_cell HV 2).trans rfl
      have t3 : V.cell? ⟨w.heap.size + 1 + 1 + 1, 3, none⟩ = some (.int .i64 0) := (blk_cell HV 3).trans rfl
      go_wp2
      (try rw [hV])
      exact bodyPost_ret (v := .tuple #[.int .i64 0, .agg #[.int .i64 0, .int .i64 0, .int .i64 0, .int .i64 0], .bool false]) (by simp [results, Try.results34, go_sem, t0, t1, t2, t3]) rfl ⟨by rw [HR.out]; rfl, HBV⟩
    | true =>
      have x0 : w4.cell? ⟨w.heap.size, 0, none⟩ = some (.slice A0 n0 c0) := (blk_cell Z0.out 0).trans rfl
      have x1 : w4.cell? ⟨w.heap.size, 1, none⟩ = some (.slice A1 n1 c1) := (blk_cell Z0.out 1).trans rfl
      have x2 : w4.cell? ⟨w.heap.size, 2, none⟩ = some (.slice A2 n2 c2) := (blk_cell Z0.out 2).trans rfl
      have x3 : w4.cell? ⟨w.heap.size, 3, none⟩ = some (.int .i64 ra) := (blk_cell Z0.out 3).trans rfl
      have xl : w.heap.size < w4.heap.size := blk_lt Z0.out
      have y0 : w4.cell? ⟨w.heap.size + 1, 0, none⟩ = some (.int .i64 yx) := (blk_cell Z1.out 0).trans rfl
      have y1 : w4.cell? ⟨w.heap.size + 1, 1, none⟩ = some (.int .i64 yy) := (blk_cell Z1.out 1).trans rfl
      have y2 : w4.cell? ⟨w.heap.size + 1, 2, none⟩ = some (.int .i64 yz) := (blk_cell Z1.out 2).trans rfl
      have yl : w.heap.size + 1 < w4.heap.size := blk_lt Z1.out
      have z0 : w4.cell? ⟨w.heap.size + 2, 0, none⟩ = some (.slice B0 m0 d0) := (blk_cell Z2.out 0).trans rfl
      have z1 : w4.cell? ⟨w.heap.size + 2, 1, none⟩ = some (.slice B1 m1 d1) := (blk_cell Z2.out 1).trans rfl
      have z2 : w4.cell? ⟨w.heap.size + 2, 2, none⟩ = some (.slice B2 m2 d2) := (blk_cell Z2.out 2).trans rfl
      have z3 : w4.cell? ⟨w.heap.size + 2, 3, none⟩ = some (.int .i64 rb) := (blk_cell Z2.out 3).trans rfl
      have zl : w.heap.size + 2 < w4.heap.size := blk_lt Z2.out
      go_wp2_with fail
      have HTT := Lh (fun W h => HT.out W 16 h)
      have HAP := Lh (HA2.out 16)
      have HOK2 := HOK
      obtain ⟨TT, hTT⟩ : ∃ t, TR 16 = t := ⟨_, rfl⟩
      rw [hTT] at HTT HAP HOK2
      obtain ⟨Y, hY⟩ : ∃ t, AP TT = t := ⟨_, rfl⟩
      rw [hY] at HAP HOK2
      obtain ⟨⟨⟨Yx, Yy, Yz⟩, Yg⟩, Yo⟩ := Y
      simp only at HAP HOK2
      clear hTT hY
      have HB := Lh ((Below.refl (w4.heap.size) w4).drew)
      have FF := Lh (show ∀ V, Hid (Below (w4.heap.size) w4 V) → V.cell? ⟨w.heap.size, 0, none⟩ = some (.slice A0 n0 c0) ∧ V.cell? ⟨w.heap.size, 1, none⟩ = some (.slice A1 n1 c1) ∧ V.cell? ⟨w.heap.size, 2, none⟩ = some (.slice A2 n2 c2) ∧ V.cell? ⟨w.heap.size, 3, none⟩ = some (.int .i64 ra) ∧ V.cell? ⟨w.heap.size + 1, 0, none⟩ = some (.int .i64 yx) ∧ V.cell? ⟨w.heap.size + 1, 1, none⟩ = some (.int .i64 yy) ∧ V.cell? ⟨w.heap.size + 1, 2, none⟩ = some (.int .i64 yz) ∧ V.cell? ⟨w.heap.size + 2, 0, none⟩ = some (.slice B0 m0 d0) ∧ V.cell? ⟨w.heap.size + 2, 1, none⟩ = some (.slice B1 m1 d1) ∧ V.cell? ⟨w.heap.size + 2, 2, none⟩ = some (.slice B2 m2 d2) ∧ V.cell? ⟨w.heap.size + 2, 3, none⟩ = some (.int .i64 rb) from fun V HB => ⟨(HB.out.cell (p := ⟨w.heap.size, 0, none⟩) (xl)).trans x0, (HB.out.cell (p := ⟨w.heap.size, 1, none⟩) (xl)).trans x1, (HB.out.cell (p := ⟨w.heap.size, 2, none⟩) (xl)).trans x2, (HB.out.cell (p := ⟨w.heap.size, 3, none⟩) (xl)).trans x3, (HB.out.cell (p := ⟨w.heap.size + 1, 0, none⟩) (yl)).trans y0, (HB.out.cell (p := ⟨w.heap.size + 1, 1, none⟩) (yl)).trans y1, (HB.out.cell (p := ⟨w.heap.size + 1, 2, none⟩) (yl)).trans y2, (HB.out.cell (p := ⟨w.heap.size + 2, 0, none⟩) (zl)).trans z0, (HB.out.cell (p := ⟨w.heap.size + 2, 1, none⟩) (zl)).trans z1, (HB.out.cell (p := ⟨w.heap.size + 2, 2, none⟩) (zl)).trans z2, (HB.out.cell (p := ⟨w.heap.size + 2, 3, none⟩) (zl)).trans z3⟩)
      refine start_ (n := 11) (S := fun w' => w'.cell? ⟨w.heap.size, 0, none⟩ = some (.slice A0 n0 c0) ∧ w'.cell? ⟨w.heap.size, 1, none⟩ = some (.slice A1 n1 c1) ∧ w'.cell? ⟨w.heap.size, 2, none⟩ = some (.slice A2 n2 c2) ∧ w'.cell? ⟨w.heap.size, 3, none⟩ = some (.int .i64 ra) ∧ w'.cell? ⟨w.heap.size + 1, 0, none⟩ = some (.int .i64 yx) ∧ w'.cell? ⟨w.heap.size + 1, 1, none⟩ = some (.int .i64 yy) ∧ w'.cell? ⟨w.heap.size + 1, 2, none⟩ = some (.int .i64 yz) ∧ w'.cell? ⟨w.heap.size + 2, 0, none⟩ = some (.slice B0 m0 d0) ∧ w'.cell? ⟨w.heap.size + 2, 1, none⟩ = some (.slice B1 m1 d1) ∧ w'.cell? ⟨w.heap.size + 2, 2, none⟩ = some (.slice B2 m2 d2) ∧ w'.cell? ⟨w.heap.size + 2, 3, none⟩ = some (.int .i64 rb)) (ds := []) (MT 0 11) (by kernel_rfl) rfl rfl (FF.out _ HB) (fun hHeld => ?_)
      obtain ⟨wd, hwd⟩ : ∃ x, w4.drew = x := ⟨_, rfl⟩
      rw [hwd] at HB hHeld ⊢
      clear hwd
      refine ta_ 0 32 hHeld (h := ?_)
      refine ta_ 1 33 hHeld (h := ?_)
      refine ta_ 3 35 hHeld (h := ?_)
      refine join_ (σ := Nat × Value) 2 (MT 9 2) (fun s => [(11, .pointer (some ⟨s.1, 0, none⟩)), (34, s.2), (36, .tuple #[.agg #[.int .i64 Yx, .int .i64 Yy, .int .i64 Yz, .int .i64 Yg], .bool Yo]), (31, .tuple #[.agg #[.int .i64 Yx, .int .i64 Yy, .int .i64 Yz, .int .i64 Yg], .bool Yo]), (37, .agg #[.int .i64 Yx, .int .i64 Yy, .int .i64 Yz, .int .i64 Yg]), (38, .bool Yo)]) (fun (s : Nat × Value) w' => match s with | (s1, s2) => w4.heap.size ≤ s1 ∧ w'.heap[s1]? = some (.cells #[.int .i64 0, .int .i64 0, .int .i64 0, .int .i64 0] 40 (0, 0)) ∧ Below (w4.heap.size) w4 w' ∧ CrV w' s2 TT) ?_ ?_
      rotate_left
      · intro hCont
        refine two_ (i := 2) (j := 8) (Ni := some 34) (Nj := some 11) (MT 4 7) #[true, true, false, true, false, false, false, false, true, false, false] rfl rfl rfl rfl (by kernel_rfl) (by decide) (by decide) (fun K hK => ?_) (fun K hK => ?_)
        · skip
          refine gs_ Try.func37 #[.agg #[.slice A0 n0 c0, .slice A1 n1 c1, .slice A2 n2 c2, .int .i64 ra], aP ⟨yx, yy, yz⟩, .int .i64 16] ?_
          with_reducible refine (HTT.out _ (HVA.out.below (bthen ZB.out HB.out))).mono ?_
          rintro en w7 ⟨u7, rfl, hv, hb⟩
          have HB := Lh (HB.out.trans (hb.mono HB.out.size))
          have HV := Lh hv
          clear hv
          clear hb
          refine ⟨_, rfl, ?_⟩
          refine hK.out _ _ (FF.out _ HB) (fun hHeld => ?_)
          clear hK K
          refine no_ (h := ?_)
          refine two_ (i := 4) (j := 8) (Ni := some 36) (Nj := some 11) (MT 5 6) #[true, true, true, true, false, false, false, false, true, false, false] rfl rfl rfl rfl (by kernel_rfl) (by decide) (by decide) (fun K hK => ?_) (fun K hK => ?_)
          · skip
            refine gs_ Try.func20 #[u7, .agg #[.slice B0 m0 d0, .slice B1 m1 d1, .slice B2 m2 d2, .int .i64 rb]] ?_
            with_reducible refine (HAP.out _ _ HV.out (HVB.out.below (bthen ZB.out HB.out))).mono ?_
            rintro en w7 ⟨rfl, hb⟩
            have HB := Lh (HB.out.trans (hb.mono HB.out.size))
            have HV := Lh (HV.out.below hb)
            clear hb
            refine ⟨_, rfl, ?_⟩
            refine hK.out _ _ (FF.out _ HB) (fun hHeld => ?_)
            clear hK K
            refine no_ (h := ?_)
            refine pu_ 5 31 (h := ?_)
            refine pu_ 6 37 (h := ?_)
            refine pu_ 7 38 (h := ?_)
            refine on_ 8 (some 11) (h := fun K hK => ?_)
            refine value_ (w1 := ?_) (v := ?_) (by rfl) rfl ?_ ?_
            rotate_left 2
            · go_simp
              constructor
              · rfl
              · rfl
            have HA := Lh (ha_new HB.out (.cells #[.int .i64 0, .int .i64 0, .int .i64 0, .int .i64 0] 40))
            have hge := HB.out.size
            have HB := Lh (HB.out.alloc (Nat.le_trans (Nat.le_refl _) HB.out.size) (.cells #[.int .i64 0, .int .i64 0, .int .i64 0, .int .i64 0] 40))
            have HV := Lh (HV.out.below ((Below.refl _ _).alloc (Nat.le_refl _) (.cells #[.int .i64 0, .int .i64 0, .int .i64 0, .int .i64 0] 40)))
            refine hK.out _ _ (FF.out _ HB) (fun hHeld => ?_)
            clear hK K
            refine no_ (h := ?_)
            exact norm_ (by simp only [putAll, Act.put, List.setIfInBounds_toArray, List.set_cons_zero, List.set_cons_succ]) (hCont (_, _) _ ⟨hge, HA.out, HB.out, HV.out⟩)
          · skip
            refine value_ (w1 := ?_) (v := ?_) (by rfl) rfl ?_ ?_
            rotate_left 2
            · go_simp
              constructor
              · rfl
              · rfl
            have HA := Lh (ha_new HB.out (.cells #[.int .i64 0, .int .i64 0, .int .i64 0, .int .i64 0] 40))
            have hge := HB.out.size
            have HB := Lh (HB.out.alloc (Nat.le_trans (Nat.le_refl _) HB.out.size) (.cells #[.int .i64 0, .int .i64 0, .int .i64 0, .int .i64 0] 40))
            have HV := Lh (HV.out.below ((Below.refl _ _).alloc (Nat.le_refl _) (.cells #[.int .i64 0, .int .i64 0, .int .i64 0, .int .i64 0] 40)))
            refine hK.out _ _ (FF.out _ HB) (fun hHeld => ?_)
            clear hK K
            refine no_ (h := ?_)
            refine on_ 4 (some 36) (h := fun K hK => ?_)
            refine gs_ Try.func20 #[u7, .agg #[.slice B0 m0 d0, .slice B1 m1 d1, .slice B2 m2 d2, .int .i64 rb]] ?_
            with_reducible refine (HAP.out _ _ HV.out (HVB.out.below (bthen ZB.out HB.out))).mono ?_
            rintro en w7 ⟨rfl, hb⟩
            have HB := Lh (HB.out.trans (hb.mono HB.out.size))
            have HA := Lh ((hb.block _ (blk_lt HA.out)).trans HA.out)
            have HV := Lh (HV.out.below hb)
            clear hb
            refine ⟨_, rfl, ?_⟩
            refine hK.out _ _ (FF.out _ HB) (fun hHeld => ?_)
            clear hK K
            refine no_ (h := ?_)
            refine pu_ 5 31 (h := ?_)
            refine pu_ 6 37 (h := ?_)
            refine pu_ 7 38 (h := ?_)
            exact norm_ (by simp only [putAll, Act.put, List.setIfInBounds_toArray, List.set_cons_zero, List.set_cons_succ]) (hCont (_, _) _ ⟨hge, HA.out, HB.out, HV.out⟩)
        · skip
          refine value_ (w1 := ?_) (v := ?_) (by rfl) rfl ?_ ?_
          rotate_left 2
          · go_simp
            constructor
            · rfl
            · rfl
          have HA := Lh (ha_new HB.out (.cells #[.int .i64 0, .int .i64 0, .int .i64 0, .int .i64 0] 40))
          have hge := HB.out.size
          have HB := Lh (HB.out.alloc (Nat.le_trans (Nat.le_refl _) HB.out.size) (.cells #[.int .i64 0, .int .i64 0, .int .i64 0, .int .i64 0] 40))
          refine hK.out _ _ (FF.out _ HB) (fun hHeld => ?_)
          clear hK K
          refine no_ (h := ?_)
          refine on_ 2 (some 34) (h := fun K hK => ?_)
          refine gs_ Try.func37 #[.agg #[.slice A0 n0 c0, .slice A1 n1 c1, .slice A2 n2 c2, .int .i64 ra], aP ⟨yx, yy, yz⟩, .int .i64 16] ?_
          with_reducible refine (HTT.out _ (HVA.out.below (bthen ZB.out HB.out))).mono ?_
          rintro en w7 ⟨u7, rfl, hv, hb⟩
          have HB := Lh (HB.out.trans (hb.mono HB.out.size))
          have HA := Lh ((hb.block _ (blk_lt HA.out)).trans HA.out)
          have HV := Lh hv
          clear hv
          clear hb
          refine ⟨_, rfl, ?_⟩
          refine hK.out _ _ (FF.out _ HB) (fun hHeld => ?_)
          clear hK K
          refine no_ (h := ?_)
          refine on_ 4 (some 36) (h := fun K hK => ?_)
          refine gs_ Try.func20 #[u7, .agg #[.slice B0 m0 d0, .slice B1 m1 d1, .slice B2 m2 d2, .int .i64 rb]] ?_
          with_reducible refine (HAP.out _ _ HV.out (HVB.out.below (bthen ZB.out HB.out))).mono ?_
          rintro en w7 ⟨rfl, hb⟩
          have HB := Lh (HB.out.trans (hb.mono HB.out.size))
          have HA := Lh ((hb.block _ (blk_lt HA.out)).trans HA.out)
          have HV := Lh (HV.out.below hb)
          clear hb
          refine ⟨_, rfl, ?_⟩
          refine hK.out _ _ (FF.out _ HB) (fun hHeld => ?_)
          clear hK K
          refine no_ (h := ?_)
          refine pu_ 5 31 (h := ?_)
          refine pu_ 6 37 (h := ?_)
          refine pu_ 7 38 (h := ?_)
          exact norm_ (by simp only [putAll, Act.put, List.setIfInBounds_toArray, List.set_cons_zero, List.set_cons_succ]) (hCont (_, _) _ ⟨hge, HA.out, HB.out, HV.out⟩)
      rintro ⟨AB, V⟩ wj ⟨hge, HA, HB, HV⟩
      have HA := Lh HA
      have HB := Lh HB
      (try simp only at hge HA HB HV)
      have HV := Lh HV
      have hHeld := FF.out _ HB
      refine no_ (h := ?_)
      refine on_ 9 (none) (h := fun K hK => ?_)
      have sc0 : World.cell? _ ⟨AB, 0, none⟩ = some (.int .i64 0) := (blk_cell HA.out 0).trans rfl
      have sf0 := blk_frozen HA.out 0
      have sc1 : World.cell? _ ⟨AB, 1, none⟩ = some (.int .i64 0) := (blk_cell HA.out 1).trans rfl
      have sf1 := blk_frozen HA.out 1
      have sc2 : World.cell? _ ⟨AB, 2, none⟩ = some (.int .i64 0) := (blk_cell HA.out 2).trans rfl
      have sf2 := blk_frozen HA.out 2
      have sc3 : World.cell? _ ⟨AB, 3, none⟩ = some (.int .i64 0) := (blk_cell HA.out 3).trans rfl
      have sf3 := blk_frozen HA.out 3
      refine skip_ (w1 := ?_) (by rfl) rfl ?_ ?_
      rotate_left
      · go_simp
        rfl
      have HA := Lh (bs4 HA.out (.int .i64 Yx) (.int .i64 Yy) (.int .i64 Yz) (.int .i64 Yg))
      have HB := Lh (bb4 HB.out (Nat.le_trans (Nat.le_refl _) hge) (.int .i64 Yx) (.int .i64 Yy) (.int .i64 Yz) (.int .i64 Yg))
      clear sc0 sf0 sc1 sf1 sc2 sf2 sc3 sf3
      refine hK.out _ _ (FF.out _ HB) (fun hHeld => ?_)
      clear hK K
      refine pu_ 10 12 (h := ?_)
      refine done_ (by kernel_rfl) ?_
      obtain ⟨w5, hwn⟩ : ∃ V, ((((wj.setCell ⟨AB, 0, none⟩ (.int .i64 Yx)).setCell ⟨AB, 1, none⟩ (.int .i64 Yy)).setCell ⟨AB, 2, none⟩ (.int .i64 Yz)).setCell ⟨AB, 3, none⟩ (.int .i64 Yg)) = V := ⟨_, rfl⟩
      rw [hwn] at HA HB ⊢
      clear hwn
      have Z0 := Lh ((HB.out.block _ (blk_lt Z0.out)).trans Z0.out)
      have Z1 := Lh ((HB.out.block _ (blk_lt Z1.out)).trans Z1.out)
      have Z2 := Lh ((HB.out.block _ (blk_lt Z2.out)).trans Z2.out)
      have Z3 := Lh ((HB.out.block _ (blk_lt Z3.out)).trans Z3.out)
      have HX := Lh ((HB.out.block _ (blk_lt HX.out)).trans HX.out)
      have ZB := Lh (bthen ZB.out HB.out)
      clear HA HB hge HV hHeld HTT HAP x0 x1 x2 x3 xl y0 y1 y2 yl z0 z1 z2 z3 zl
      cases Yo with
      | false =>
        have HR := Lh (HNO.out (HOK2.out.trans rfl))
        clear HNO HYS HGO HSTOP HNEG HZ HA2 HT HM
        have r0 : w5.cell? ⟨w.heap.size + 3, 0, none⟩ = some (.int .i64 0) := (blk_cell Z3.out 0).trans rfl
        have f0 : w5.frozen? ⟨w.heap.size + 3, 0, none⟩ = false := blk_frozen Z3.out 0
        have r1 : w5.cell? ⟨w.heap.size + 3, 1, none⟩ = some (.int .i64 0) := (blk_cell Z3.out 1).trans rfl
        have f1 : w5.frozen? ⟨w.heap.size + 3, 1, none⟩ = false := blk_frozen Z3.out 1
        have r2 : w5.cell? ⟨w.heap.size + 3, 2, none⟩ = some (.int .i64 0) := (blk_cell Z3.out 2).trans rfl
        have f2 : w5.frozen? ⟨w.heap.size + 3, 2, none⟩ = false := blk_frozen Z3.out 2
        have r3 : w5.cell? ⟨w.heap.size + 3, 3, none⟩ = some (.int .i64 0) := (blk_cell Z3.out 3).trans rfl
        have f3 : w5.frozen? ⟨w.heap.size + 3, 3, none⟩ = false := blk_frozen Z3.out 3
        obtain ⟨V, hV⟩ : ∃ V, set4 w5 (w.heap.size + 1 + 1 + 1) (.int .i64 0) (.int .i64 0) (.int .i64 0) (.int .i64 0) = V := ⟨_, rfl⟩
        have HV : V.heap[w.heap.size + 3]? = some (.cells #[.int .i64 0, .int .i64 0, .int .i64 0, .int .i64 0] 40 (0, 0)) := by rw [← hV]; exact blk4_set Z3.out _ _ _ _
        have HBV : Below w.heap.size w V := by rw [← hV]; exact below_set4 ZB.out (by omega) _ _ _ _
        have t0 : V.cell? ⟨w.heap.size + 1 + 1 + 1, 0, none⟩ = some (.int .i64 0) := (blk_cell HV 0).trans rfl
        have t1 : V.cell? ⟨w.heap.size + 1 + 1 + 1, 1, none⟩ = some (.int .i64 0) := (blk_cell HV 1).trans rfl
        have t2 : V.cell? ⟨w.heap.size + 1 + 1 + 1, 2, none⟩ = some (.int .i64 0) := (blk_cell HV 2).trans rfl
        have t3 : V.cell? ⟨w.heap.size + 1 + 1 + 1, 3, none⟩ = some (.int .i64 0) := (blk_cell HV 3).trans rfl
        go_wp2
        (try rw [hV])
        exact bodyPost_ret (v := .tuple #[.int .i64 0, .agg #[.int .i64 0, .int .i64 0, .int .i64 0, .int .i64 0], .bool false]) (by simp [results, Try.results34, go_sem, t0, t1, t2, t3]) rfl ⟨by rw [HR.out]; rfl, HBV⟩
      | true =>
        have HYS2 := Lh (HYS.out (HOK2.out.trans rfl))
        clear HNO HYS HOK HOK2 HM
        go_wp2_with fail
        go_loopw [13, 14, 15] (fun v13 v14 v15 wr => ∃ (k : Nat) (X : P3 × Int), k ≤ 16 ∧ v13 = .int .i64 k ∧ Hid (CL (16 - k) k X = CL 16 0 (⟨Xx, Xy, Xz⟩, Xg)) ∧ Hid (wr.heap[XB]? = some (.cells #[.int .i64 X.1.x, .int .i64 X.1.y, .int .i64 X.1.z, .int .i64 X.2] 40 (0, 0))) ∧ Hid (Below XB w5 wr)) (fun v13 _ _ _ => 16 - (intOf v13).toNat)
        case atStart => exact ⟨0, _, by omega, rfl, Lh rfl, HX, Lh (Below.refl _ _)⟩
        case round =>
          obtain ⟨k, X, hk, rfl, hC, hX, hB⟩ := hrel
          clear HX
          obtain ⟨wq, hwq⟩ : ∃ x : World, x = wr := ⟨_, rfl⟩
          subst hwq
          obtain ⟨⟨Px, Py, Pz⟩, Pg⟩ := X
          simp only at hX
          have hX := Lh hX.out
          have hs5 : w5.heap.size ≤ wq.heap.size := hB.out.size
          have Z0 := Lh ((hB.out.block _ (show w.heap.size < XB by omega)).trans Z0.out)
          have Z1 := Lh ((hB.out.block _ (show w.heap.size + 1 < XB by omega)).trans Z1.out)
          have Z2 := Lh ((hB.out.block _ (show w.heap.size + 2 < XB by omega)).trans Z2.out)
          have Z3 := Lh ((hB.out.block _ (show w.heap.size + 3 < XB by omega)).trans Z3.out)
          have ZB := Lh (ZB.out.trans (hB.out.mono (show w.heap.size ≤ XB by omega)))
          have p3 : wq.cell? ⟨XB, 3, none⟩ = some (.int .i64 Pg) := (blk_cell hX.out 3).trans rfl
          have pl : XB < wq.heap.size := blk_lt hX.out
          by_cases t1 : 0 ≤ Pg
          · have e1 : decide (0 ≤ Pg) = true := decide_eq_true t1
            by_cases t2 : (k : Int) < 16
            · have e2 : decide ((k : Int) < 16) = true := decide_eq_true t2
              have hwk : wrap64 ((k : Int) + 1) = (k : Int) + 1 := by unfold wrap64; omega
              have HK := Lh hwk
              have HTT := Lh (fun W h => HT.out W ((k : Int) + 1) h)
              rw [← hwk] at HTT
              have HAP := Lh (HA2.out ((k : Int) + 1))
              have HG := Lh (HGO.out (15 - k) k ((⟨Px, Py, Pz⟩, Pg) : P3 × Int))
              have HS := Lh (HSTOP.out (15 - k) k ((⟨Px, Py, Pz⟩, Pg) : P3 × Int))
              obtain ⟨TT, hTT⟩ : ∃ t, TR ((k : Int) + 1) = t := ⟨_, rfl⟩
              rw [hwk] at HTT
              rw [hTT] at HTT HAP HG HS
              obtain ⟨Y, hY⟩ : ∃ t, AP TT = t := ⟨_, rfl⟩
              rw [hY] at HAP HG HS
              obtain ⟨⟨⟨Yx, Yy, Yz⟩, Yg⟩, Yo⟩ := Y
              simp only at HAP HG HS
              have HTT := Lh (show ∀ W, CrV W (.agg #[.slice A0 n0 c0, .slice A1 n1 c1, .slice A2 n2 c2, .int .i64 ra]) a → Calls Try.prog 37 #[.agg #[.slice A0 n0 c0, .slice A1 n1 c1, .slice A2 n2 c2, .int .i64 ra], aP ⟨yx, yy, yz⟩, .int .i64 (wrap64 ((k : Int) + 1))] W (TrailPost TT W) from by rw [hwk]; exact HTT.out)
              have HE : Hid (16 - k = (15 - k) + 1 ∧ 15 - k = 16 - (k + 1)) := Lh (by omega)
              rw [HE.out.1] at hC
              have hk16 : k < 16 := by omega
              have hP0 : 0 ≤ Pg := t1
              clear hTT hY t1 t2 hwk
              have x0 : wq.cell? ⟨w.heap.size, 0, none⟩ = some (.slice A0 n0 c0) := (blk_cell Z0.out 0).trans rfl
              have x1 : wq.cell? ⟨w.heap.size, 1, none⟩ = some (.slice A1 n1 c1) := (blk_cell Z0.out 1).trans rfl
              have x2 : wq.cell? ⟨w.heap.size, 2, none⟩ = some (.slice A2 n2 c2) := (blk_cell Z0.out 2).trans rfl
              have x3 : wq.cell? ⟨w.heap.size, 3, none⟩ = some (.int .i64 ra) := (blk_cell Z0.out 3).trans rfl
              have xl : w.heap.size < wq.heap.size := blk_lt Z0.out
              have y0 : wq.cell? ⟨w.heap.size + 1, 0, none⟩ = some (.int .i64 yx) := (blk_cell Z1.out 0).trans rfl
              have y1 : wq.cell? ⟨w.heap.size + 1, 1, none⟩ = some (.int .i64 yy) := (blk_cell Z1.out 1).trans rfl
              have y2 : wq.cell? ⟨w.heap.size + 1, 2, none⟩ = some (.int .i64 yz) := (blk_cell Z1.out 2).trans rfl
              have yl : w.heap.size + 1 < wq.heap.size := blk_lt Z1.out
              have z0 : wq.cell? ⟨w.heap.size + 2, 0, none⟩ = some (.slice B0 m0 d0) := (blk_cell Z2.out 0).trans rfl
              have z1 : wq.cell? ⟨w.heap.size + 2, 1, none⟩ = some (.slice B1 m1 d1) := (blk_cell Z2.out 1).trans rfl
              have z2 : wq.cell? ⟨w.heap.size + 2, 2, none⟩ = some (.slice B2 m2 d2) := (blk_cell Z2.out 2).trans rfl
              have z3 : wq.cell? ⟨w.heap.size + 2, 3, none⟩ = some (.int .i64 rb) := (blk_cell Z2.out 3).trans rfl
              have zl : w.heap.size + 2 < wq.heap.size := blk_lt Z2.out
              go_wp2_with fail
              have HB := Lh ((Below.refl (wq.heap.size) wq).drew)
              have FF := Lh (show ∀ V, Hid (Below (wq.heap.size) wq V) → V.cell? ⟨w.heap.size, 0, none⟩ = some (.slice A0 n0 c0) ∧ V.cell? ⟨w.heap.size, 1, none⟩ = some (.slice A1 n1 c1) ∧ V.cell? ⟨w.heap.size, 2, none⟩ = some (.slice A2 n2 c2) ∧ V.cell? ⟨w.heap.size, 3, none⟩ = some (.int .i64 ra) ∧ V.cell? ⟨w.heap.size + 1, 0, none⟩ = some (.int .i64 yx) ∧ V.cell? ⟨w.heap.size + 1, 1, none⟩ = some (.int .i64 yy) ∧ V.cell? ⟨w.heap.size + 1, 2, none⟩ = some (.int .i64 yz) ∧ V.cell? ⟨w.heap.size + 2, 0, none⟩ = some (.slice B0 m0 d0) ∧ V.cell? ⟨w.heap.size + 2, 1, none⟩ = some (.slice B1 m1 d1) ∧ V.cell? ⟨w.heap.size + 2, 2, none⟩ = some (.slice B2 m2 d2) ∧ V.cell? ⟨w.heap.size + 2, 3, none⟩ = some (.int .i64 rb) from fun V HB => ⟨(HB.out.cell (p := ⟨w.heap.size, 0, none⟩) (xl)).trans x0, (HB.out.cell (p := ⟨w.heap.size, 1, none⟩) (xl)).trans x1, (HB.out.cell (p := ⟨w.heap.size, 2, none⟩) (xl)).trans x2, (HB.out.cell (p := ⟨w.heap.size, 3, none⟩) (xl)).trans x3, (HB.out.cell (p := ⟨w.heap.size + 1, 0, none⟩) (yl)).trans y0, (HB.out.cell (p := ⟨w.heap.size + 1, 1, none⟩) (yl)).trans y1, (HB.out.cell (p := ⟨w.heap.size + 1, 2, none⟩) (yl)).trans y2, (HB.out.cell (p := ⟨w.heap.size + 2, 0, none⟩) (zl)).trans z0, (HB.out.cell (p := ⟨w.heap.size + 2, 1, none⟩) (zl)).trans z1, (HB.out.cell (p := ⟨w.heap.size + 2, 2, none⟩) (zl)).trans z2, (HB.out.cell (p := ⟨w.heap.size + 2, 3, none⟩) (zl)).trans z3⟩)
              refine start_ (n := 13) (S := fun w' => w'.cell? ⟨w.heap.size, 0, none⟩ = some (.slice A0 n0 c0) ∧ w'.cell? ⟨w.heap.size, 1, none⟩ = some (.slice A1 n1 c1) ∧ w'.cell? ⟨w.heap.size, 2, none⟩ = some (.slice A2 n2 c2) ∧ w'.cell? ⟨w.heap.size, 3, none⟩ = some (.int .i64 ra) ∧ w'.cell? ⟨w.heap.size + 1, 0, none⟩ = some (.int .i64 yx) ∧ w'.cell? ⟨w.heap.size + 1, 1, none⟩ = some (.int .i64 yy) ∧ w'.cell? ⟨w.heap.size + 1, 2, none⟩ = some (.int .i64 yz) ∧ w'.cell? ⟨w.heap.size + 2, 0, none⟩ = some (.slice B0 m0 d0) ∧ w'.cell? ⟨w.heap.size + 2, 1, none⟩ = some (.slice B1 m1 d1) ∧ w'.cell? ⟨w.heap.size + 2, 2, none⟩ = some (.slice B2 m2 d2) ∧ w'.cell? ⟨w.heap.size + 2, 3, none⟩ = some (.int .i64 rb)) (ds := []) (MT 0 13) (by kernel_rfl) rfl rfl (FF.out _ HB) (fun hHeld => ?_)
              obtain ⟨wd, hwd⟩ : ∃ x, wq.drew = x := ⟨_, rfl⟩
              rw [hwd] at HB hHeld ⊢
              clear hwd
              refine pu_ 2 52 (h := ?_)
              refine pu_ 3 53 (h := ?_)
              refine ta_ 0 50 hHeld (h := ?_)
              refine ta_ 1 51 hHeld (h := ?_)
              refine ta_ 5 55 hHeld (h := ?_)
              refine join_ (σ := Nat × Value) 2 (MT 11 2) (fun s => [(14, .pointer (some ⟨s.1, 0, none⟩)), (54, s.2), (56, .tuple #[.agg #[.int .i64 Yx, .int .i64 Yy, .int .i64 Yz, .int .i64 Yg], .bool Yo]), (49, .tuple #[.agg #[.int .i64 Yx, .int .i64 Yy, .int .i64 Yz, .int .i64 Yg], .bool Yo]), (57, .agg #[.int .i64 Yx, .int .i64 Yy, .int .i64 Yz, .int .i64 Yg]), (58, .bool Yo)]) (fun (s : Nat × Value) w' => match s with | (s1, s2) => wq.heap.size ≤ s1 ∧ w'.heap[s1]? = some (.cells #[.int .i64 0, .int .i64 0, .int .i64 0, .int .i64 0] 40 (0, 0)) ∧ Below (wq.heap.size) wq w' ∧ CrV w' s2 TT) ?_ ?_
              rotate_left
              · intro hCont
                refine two_ (i := 4) (j := 10) (Ni := some 54) (Nj := some 14) (MT 6 7) #[true, true, true, true, false, true, false, false, false, false, true, false, false] rfl rfl rfl rfl (by kernel_rfl) (by decide) (by decide) (fun K hK => ?_) (fun K hK => ?_)
                · skip
                  refine gs_ Try.func37 #[.agg #[.slice A0 n0 c0, .slice A1 n1 c1, .slice A2 n2 c2, .int .i64 ra], aP ⟨yx, yy, yz⟩, .int .i64 (wrap64 ((k : Int) + 1))] ?_
                  with_reducible refine (HTT.out _ (HVA.out.below (bthen ZB.out HB.out))).mono ?_
                  rintro en w7 ⟨u7, rfl, hv, hb⟩
                  have HB := Lh (HB.out.trans (hb.mono HB.out.size))
                  have HV := Lh hv
                  clear hv
                  clear hb
                  refine ⟨_, rfl, ?_⟩
                  refine hK.out _ _ (FF.out _ HB) (fun hHeld => ?_)
                  clear hK K
                  refine no_ (h := ?_)
                  refine two_ (i := 6) (j := 10) (Ni := some 56) (Nj := some 14) (MT 7 6) #[true, true, true, true, true, true, false, false, false, false, true, false, false] rfl rfl rfl rfl (by kernel_rfl) (by decide) (by decide) (fun K hK => ?_) (fun K hK => ?_)
                  · skip
                    refine gs_ Try.func20 #[u7, .agg #[.slice B0 m0 d0, .slice B1 m1 d1, .slice B2 m2 d2, .int .i64 rb]] ?_
                    with_reducible refine (HAP.out _ _ HV.out (HVB.out.below (bthen ZB.out HB.out))).mono ?_
                    rintro en w7 ⟨rfl, hb⟩
                    have HB := Lh (HB.out.trans (hb.mono HB.out.size))
                    have HV := Lh (HV.out.below hb)
                    clear hb
                    refine ⟨_, rfl, ?_⟩
                    refine hK.out _ _ (FF.out _ HB) (fun hHeld => ?_)
                    clear hK K
                    refine no_ (h := ?_)
                    refine pu_ 7 49 (h := ?_)
                    refine pu_ 8 57 (h := ?_)
                    refine pu_ 9 58 (h := ?_)
                    refine on_ 10 (some 14) (h := fun K hK => ?_)
                    refine value_ (w1 := ?_) (v := ?_) (by rfl) rfl ?_ ?_
                    rotate_left 2
                    · go_simp
                      constructor
                      · rfl
                      · rfl
                    have HA := Lh (ha_new HB.out (.cells #[.int .i64 0, .int .i64 0, .int .i64 0, .int .i64 0] 40))
                    have hge := HB.out.size
                    have HB := Lh (HB.out.alloc (Nat.le_trans (Nat.le_refl _) HB.out.size) (.cells #[.int .i64 0, .int .i64 0, .int .i64 0, .int .i64 0] 40))
                    have HV := Lh (HV.out.below ((Below.refl _ _).alloc (Nat.le_refl _) (.cells #[.int .i64 0, .int .i64 0, .int .i64 0, .int .i64 0] 40)))
                    refine hK.out _ _ (FF.out _ HB) (fun hHeld => ?_)
                    clear hK K
                    refine no_ (h := ?_)
                    exact norm_ (by simp only [putAll, Act.put, List.setIfInBounds_toArray, List.set_cons_zero, List.set_cons_succ]) (hCont (_, _) _ ⟨hge, HA.out, HB.out, HV.out⟩)
                  · skip
                    refine value_ (w1 := ?_) (v := ?_) (by rfl) rfl ?_ ?_
                    rotate_left 2
                    · go_simp
                      constructor
                      · rfl
                      · rfl
                    have HA := Lh (ha_new HB.out (.cells #[.int .i64 0, .int .i64 0, .int .i64 0, .int .i64 0] 40))
                    have hge := HB.out.size
                    have HB := Lh (HB.out.alloc (Nat.le_trans (Nat.le_refl _) HB.out.size) (.cells #[.int .i64 0, .int .i64 0, .int .i64 0, .int .i64 0] 40))
                    have HV := Lh (HV.out.below ((Below.refl _ _).alloc (Nat.le_refl _) (.cells #[.int .i64 0, .int .i64 0, .int .i64 0, .int .i64 0] 40)))
                    refine hK.out _ _ (FF.out _ HB) (fun hHeld => ?_)
                    clear hK K
                    refine no_ (h := ?_)
                    refine on_ 6 (some 56) (h := fun K hK => ?_)
                    refine gs_ Try.func20 #[u7, .agg #[.slice B0 m0 d0, .slice B1 m1 d1, .slice B2 m2 d2, .int .i64 rb]] ?_
                    with_reducible refine (HAP.out _ _ HV.out (HVB.out.below (bthen ZB.out HB.out))).mono ?_
                    rintro en w7 ⟨rfl, hb⟩
                    have HB := Lh (HB.out.trans (hb.mono HB.out.size))
                    have HA := Lh ((hb.block _ (blk_lt HA.out)).trans HA.out)
                    have HV := Lh (HV.out.below hb)
                    clear hb
                    refine ⟨_, rfl, ?_⟩
                    refine hK.out _ _ (FF.out _ HB) (fun hHeld => ?_)
                    clear hK K
                    refine no_ (h := ?_)
                    refine pu_ 7 49 (h := ?_)
                    refine pu_ 8 57 (h := ?_)
                    refine pu_ 9 58 (h := ?_)
                    exact norm_ (by simp only [putAll, Act.put, List.setIfInBounds_toArray, List.set_cons_zero, List.set_cons_succ]) (hCont (_, _) _ ⟨hge, HA.out, HB.out, HV.out⟩)
                · skip
                  refine value_ (w1 := ?_) (v := ?_) (by rfl) rfl ?_ ?_
                  rotate_left 2
                  · go_simp
                    constructor
                    · rfl
                    · rfl
                  have HA := Lh (ha_new HB.out (.cells #[.int .i64 0, .int .i64 0, .int .i64 0, .int .i64 0] 40))
                  have hge := HB.out.size
                  have HB := Lh (HB.out.alloc (Nat.le_trans (Nat.le_refl _) HB.out.size) (.cells #[.int .i64 0, .int .i64 0, .int .i64 0, .int .i64 0] 40))
                  refine hK.out _ _ (FF.out _ HB) (fun hHeld => ?_)
                  clear hK K
                  refine no_ (h := ?_)
                  refine on_ 4 (some 54) (h := fun K hK => ?_)
                  refine gs_ Try.func37 #[.agg #[.slice A0 n0 c0, .slice A1 n1 c1, .slice A2 n2 c2, .int .i64 ra], aP ⟨yx, yy, yz⟩, .int .i64 (wrap64 ((k : Int) + 1))] ?_
                  with_reducible refine (HTT.out _ (HVA.out.below (bthen ZB.out HB.out))).mono ?_
                  rintro en w7 ⟨u7, rfl, hv, hb⟩
                  have HB := Lh (HB.out.trans (hb.mono HB.out.size))
                  have HA := Lh ((hb.block _ (blk_lt HA.out)).trans HA.out)
                  have HV := Lh hv
                  clear hv
                  clear hb
                  refine ⟨_, rfl, ?_⟩
                  refine hK.out _ _ (FF.out _ HB) (fun hHeld => ?_)
                  clear hK K
                  refine no_ (h := ?_)
                  refine on_ 6 (some 56) (h := fun K hK => ?_)
                  refine gs_ Try.func20 #[u7, .agg #[.slice B0 m0 d0, .slice B1 m1 d1, .slice B2 m2 d2, .int .i64 rb]] ?_
                  with_reducible refine (HAP.out _ _ HV.out (HVB.out.below (bthen ZB.out HB.out))).mono ?_
                  rintro en w7 ⟨rfl, hb⟩
                  have HB := Lh (HB.out.trans (hb.mono HB.out.size))
                  have HA := Lh ((hb.block _ (blk_lt HA.out)).trans HA.out)
                  have HV := Lh (HV.out.below hb)
                  clear hb
                  refine ⟨_, rfl, ?_⟩
                  refine hK.out _ _ (FF.out _ HB) (fun hHeld => ?_)
                  clear hK K
                  refine no_ (h := ?_)
                  refine pu_ 7 49 (h := ?_)
                  refine pu_ 8 57 (h := ?_)
                  refine pu_ 9 58 (h := ?_)
                  exact norm_ (by simp only [putAll, Act.put, List.setIfInBounds_toArray, List.set_cons_zero, List.set_cons_succ]) (hCont (_, _) _ ⟨hge, HA.out, HB.out, HV.out⟩)
              rintro ⟨AB, V⟩ wj ⟨hge, HA, HB, HV⟩
              have HA := Lh HA
              have HB := Lh HB
              (try simp only at hge HA HB HV)
              have HV := Lh HV
              have hHeld := FF.out _ HB
              refine no_ (h := ?_)
              refine on_ 11 (none) (h := fun K hK => ?_)
              have sc0 : World.cell? _ ⟨AB, 0, none⟩ = some (.int .i64 0) := (blk_cell HA.out 0).trans rfl
              have sf0 := blk_frozen HA.out 0
              have sc1 : World.cell? _ ⟨AB, 1, none⟩ = some (.int .i64 0) := (blk_cell HA.out 1).trans rfl
              have sf1 := blk_frozen HA.out 1
              have sc2 : World.cell? _ ⟨AB, 2, none⟩ = some (.int .i64 0) := (blk_cell HA.out 2).trans rfl
              have sf2 := blk_frozen HA.out 2
              have sc3 : World.cell? _ ⟨AB, 3, none⟩ = some (.int .i64 0) := (blk_cell HA.out 3).trans rfl
              have sf3 := blk_frozen HA.out 3
              refine skip_ (w1 := ?_) (by rfl) rfl ?_ ?_
              rotate_left
              · go_simp
                rfl
              have HA := Lh (bs4 HA.out (.int .i64 Yx) (.int .i64 Yy) (.int .i64 Yz) (.int .i64 Yg))
              have HB := Lh (bb4 HB.out (Nat.le_trans (Nat.le_refl _) hge) (.int .i64 Yx) (.int .i64 Yy) (.int .i64 Yz) (.int .i64 Yg))
              clear sc0 sf0 sc1 sf1 sc2 sf2 sc3 sf3
              refine hK.out _ _ (FF.out _ HB) (fun hHeld => ?_)
              clear hK K
              refine pu_ 12 15 (h := ?_)
              refine done_ (by kernel_rfl) ?_
              obtain ⟨w8, hwn⟩ : ∃ V, ((((wj.setCell ⟨AB, 0, none⟩ (.int .i64 Yx)).setCell ⟨AB, 1, none⟩ (.int .i64 Yy)).setCell ⟨AB, 2, none⟩ (.int .i64 Yz)).setCell ⟨AB, 3, none⟩ (.int .i64 Yg)) = V := ⟨_, rfl⟩
              rw [hwn] at HA HB ⊢
              clear hwn
              have Z3 := Lh ((HB.out.block _ (blk_lt Z3.out)).trans Z3.out)
              have hX := Lh ((HB.out.block _ (blk_lt hX.out)).trans hX.out)
              have ZB := Lh (bthen ZB.out HB.out)
              have hB := Lh (hB.out.trans (HB.out.mono (show XB ≤ wq.heap.size by omega)))
              have HY := HA
              have hYX : Hid (XB < AB) := Lh (Nat.lt_of_lt_of_le pl hge)
              clear HB hge HV hHeld HTT HAP x0 x1 x2 x3 xl y0 y1 y2 yl z0 z1 z2 z3 zl p3 pl HA e1 e2
              have q3 : w8.cell? ⟨AB, 3, none⟩ = some (.int .i64 Yg) := (blk_cell HY.out 3).trans rfl
              have ql : AB < w8.heap.size := blk_lt HY.out
              by_cases t3 : Yg < 0
              · have e3 : decide (Yg < 0) = true := decide_eq_true t3
                have HRES := Lh (show CF = (((k : Nat), ((⟨Px, Py, Pz⟩, Pg) : P3 × Int)), true) from by rw [HYS2.out, ← hC.out, HS.out _ rfl t3])
                clear HGO HSTOP HNEG HZ HA2 HT HYS2 hC
                go_wp2_with fail
                have HB := Lh ((Below.refl w8.heap.size w8).drew)
                have FF := Lh (show ∀ V, Hid (Below w8.heap.size w8 V) → V.cell? ⟨XB, 0, none⟩ = some (.int .i64 Px) ∧ V.cell? ⟨XB, 1, none⟩ = some (.int .i64 Py) ∧ V.cell? ⟨XB, 2, none⟩ = some (.int .i64 Pz) ∧ V.cell? ⟨XB, 3, none⟩ = some (.int .i64 Pg) from fun V HB => have e := (HB.out.block _ (blk_lt hX.out)).trans hX.out; ⟨(blk_cell e 0).trans rfl, (blk_cell e 1).trans rfl, (blk_cell e 2).trans rfl, (blk_cell e 3).trans rfl⟩)
                refine start_ (n := 5) (S := fun w' => w'.cell? ⟨XB, 0, none⟩ = some (.int .i64 Px) ∧ w'.cell? ⟨XB, 1, none⟩ = some (.int .i64 Py) ∧ w'.cell? ⟨XB, 2, none⟩ = some (.int .i64 Pz) ∧ w'.cell? ⟨XB, 3, none⟩ = some (.int .i64 Pg)) (ds := [3]) (MT 0 5) (by kernel_rfl) rfl rfl (FF.out _ HB) (fun hHeld => ?_)
                obtain ⟨wd, hwd⟩ : ∃ x, w8.drew = x := ⟨_, rfl⟩
                rw [hwd] at HB hHeld ⊢
                clear hwd
                refine pu_ 0 65 (h := ?_)
                refine pu_ 2 6 (h := ?_)
                refine ta_ 1 66 hHeld (h := ?_)
                refine last_ (i := 3) (N := none) (MT 4 1) rfl rfl (by kernel_rfl) (by decide) (fun K hK => ?_)
                have R4 := (HB.out.block _ (blk_lt Z3.out)).trans Z3.out
                have sc0 : World.cell? _ ⟨w.heap.size + 3, 0, none⟩ = some (.int .i64 0) := (blk_cell R4 0).trans rfl
                have sf0 : World.frozen? _ ⟨w.heap.size + 3, 0, none⟩ = false := blk_frozen R4 0
                have sc1 : World.cell? _ ⟨w.heap.size + 3, 1, none⟩ = some (.int .i64 0) := (blk_cell R4 1).trans rfl
                have sf1 : World.frozen? _ ⟨w.heap.size + 3, 1, none⟩ = false := blk_frozen R4 1
                have sc2 : World.cell? _ ⟨w.heap.size + 3, 2, none⟩ = some (.int .i64 0) := (blk_cell R4 2).trans rfl
                have sf2 : World.frozen? _ ⟨w.heap.size + 3, 2, none⟩ = false := blk_frozen R4 2
                have sc3 : World.cell? _ ⟨w.heap.size + 3, 3, none⟩ = some (.int .i64 0) := (blk_cell R4 3).trans rfl
                have sf3 : World.frozen? _ ⟨w.heap.size + 3, 3, none⟩ = false := blk_frozen R4 3
                refine skip_ (w1 := ?_) (by rfl) rfl ?_ ?_
                rotate_left
                · go_simp
                  rfl
                refine hK.out _ _ ?_
                clear hK K
                refine pu_ 4 8 (h := ?_)
                refine done_ (by kernel_rfl) ?_
                have HRV := bs4 R4 (.int .i64 Px) (.int .i64 Py) (.int .i64 Pz) (.int .i64 Pg)
                have HBV := bb4 (bthen ZB.out HB.out) (show w.heap.size ≤ w.heap.size + 3 by omega) (.int .i64 Px) (.int .i64 Py) (.int .i64 Pz) (.int .i64 Pg)
                obtain ⟨V, hV⟩ : ∃ V, ((((wd.setCell ⟨w.heap.size + 3, 0, none⟩ (.int .i64 Px)).setCell ⟨w.heap.size + 3, 1, none⟩ (.int .i64 Py)).setCell ⟨w.heap.size + 3, 2, none⟩ (.int .i64 Pz)).setCell ⟨w.heap.size + 3, 3, none⟩ (.int .i64 Pg)) = V := ⟨_, rfl⟩
                rw [hV] at HRV HBV
                (try rw [hV])
                have t0 : V.cell? ⟨w.heap.size + 1 + 1 + 1, 0, none⟩ = some (.int .i64 Px) := (blk_cell HRV 0).trans rfl
                have t1 : V.cell? ⟨w.heap.size + 1 + 1 + 1, 1, none⟩ = some (.int .i64 Py) := (blk_cell HRV 1).trans rfl
                have t2 : V.cell? ⟨w.heap.size + 1 + 1 + 1, 2, none⟩ = some (.int .i64 Pz) := (blk_cell HRV 2).trans rfl
                have t3 : V.cell? ⟨w.heap.size + 1 + 1 + 1, 3, none⟩ = some (.int .i64 Pg) := (blk_cell HRV 3).trans rfl
                clear sc0 sc1 sc2 sc3 sf0 sf1 sf2 sf3 R4 hHeld
                go_wp2
                (try rw [hV])
                exact bodyPost_ret (v := .tuple #[.int .i64 (k : Int), .agg #[.int .i64 Px, .int .i64 Py, .int .i64 Pz, .int .i64 Pg], .bool true]) (by simp [results, Try.results34, go_sem, t0, t1, t2, t3]) rfl ⟨by rw [HRES.out], HBV⟩
              · have e3 : decide (Yg < 0) = false := decide_eq_false t3
                have HG2 := Lh (HG.out _ (by omega) rfl (by omega))
                have q0 : w8.cell? ⟨AB, 0, none⟩ = some (.int .i64 Yx) := (blk_cell HY.out 0).trans rfl
                have q1 : w8.cell? ⟨AB, 1, none⟩ = some (.int .i64 Yy) := (blk_cell HY.out 1).trans rfl
                have q2 : w8.cell? ⟨AB, 2, none⟩ = some (.int .i64 Yz) := (blk_cell HY.out 2).trans rfl
                have p0 : w8.cell? ⟨XB, 0, none⟩ = some (.int .i64 Px) := (blk_cell hX.out 0).trans rfl
                have p1 : w8.cell? ⟨XB, 1, none⟩ = some (.int .i64 Py) := (blk_cell hX.out 1).trans rfl
                have p2 : w8.cell? ⟨XB, 2, none⟩ = some (.int .i64 Pz) := (blk_cell hX.out 2).trans rfl
                have p3 : w8.cell? ⟨XB, 3, none⟩ = some (.int .i64 Pg) := (blk_cell hX.out 3).trans rfl
                have f0 := blk_frozen hX.out 0
                have f1 := blk_frozen hX.out 1
                have f2 := blk_frozen hX.out 2
                have f3 := blk_frozen hX.out 3
                have hNE : AB ≠ XB := Nat.ne_of_gt hYX.out
                have hNX : XB ≠ AB := Nat.ne_of_lt hYX.out
                clear t3
                go_wp2
                go_roundw
                case rel => exact ⟨k + 1, (⟨Yx, Yy, Yz⟩, Yg), by omega, by go_num, Lh (by rw [← HE.out.2, ← HG2.out]; exact hC.out), Lh (bs4 hX.out (.int .i64 Yx) (.int .i64 Yy) (.int .i64 Yz) (.int .i64 Yg)), Lh (bb4 hB.out (Nat.le_refl _) (.int .i64 Yx) (.int .i64 Yy) (.int .i64 Yz) (.int .i64 Yg))⟩
                case measure => simp [intOf]; omega
            · have e2 : decide ((k : Int) < 16) = false := decide_eq_false t2
              obtain rfl : k = 16 := by omega
              clear t1 t2
              have HRES := Lh (show CF = (((16 : Nat), ((⟨Px, Py, Pz⟩, Pg) : P3 × Int)), true) from by rw [HYS2.out, ← hC.out]; exact congrArg (fun t => (t, true)) (HZ.out 16 _))
              clear HGO HSTOP HNEG HZ HA2 HT HYS2 hC
              go_wp2_with fail
              have HB := Lh ((Below.refl wq.heap.size wq).drew)
              have FF := Lh (show ∀ V, Hid (Below wq.heap.size wq V) → V.cell? ⟨XB, 0, none⟩ = some (.int .i64 Px) ∧ V.cell? ⟨XB, 1, none⟩ = some (.int .i64 Py) ∧ V.cell? ⟨XB, 2, none⟩ = some (.int .i64 Pz) ∧ V.cell? ⟨XB, 3, none⟩ = some (.int .i64 Pg) from fun V HB => have e := (HB.out.block _ (blk_lt hX.out)).trans hX.out; ⟨(blk_cell e 0).trans rfl, (blk_cell e 1).trans rfl, (blk_cell e 2).trans rfl, (blk_cell e 3).trans rfl⟩)
              refine start_ (n := 5) (S := fun w' => w'.cell? ⟨XB, 0, none⟩ = some (.int .i64 Px) ∧ w'.cell? ⟨XB, 1, none⟩ = some (.int .i64 Py) ∧ w'.cell? ⟨XB, 2, none⟩ = some (.int .i64 Pz) ∧ w'.cell? ⟨XB, 3, none⟩ = some (.int .i64 Pg)) (ds := [3]) (MT 0 5) (by kernel_rfl) rfl rfl (FF.out _ HB) (fun hHeld => ?_)
              obtain ⟨wd, hwd⟩ : ∃ x, wq.drew = x := ⟨_, rfl⟩
              rw [hwd] at HB hHeld ⊢
              clear hwd
              refine pu_ 0 65 (h := ?_)
              refine pu_ 2 6 (h := ?_)
              refine ta_ 1 66 hHeld (h := ?_)
              refine last_ (i := 3) (N := none) (MT 4 1) rfl rfl (by kernel_rfl) (by decide) (fun K hK => ?_)
              have R4 := (HB.out.block _ (blk_lt Z3.out)).trans Z3.out
              have sc0 : World.cell? _ ⟨w.heap.size + 3, 0, none⟩ = some (.int .i64 0) := (blk_cell R4 0).trans rfl
              have sf0 : World.frozen? _ ⟨w.heap.size + 3, 0, none⟩ = false := blk_frozen R4 0
              have sc1 : World.cell? _ ⟨w.heap.size + 3, 1, none⟩ = some (.int .i64 0) := (blk_cell R4 1).trans rfl
              have sf1 : World.frozen? _ ⟨w.heap.size + 3, 1, none⟩ = false := blk_frozen R4 1
              have sc2 : World.cell? _ ⟨w.heap.size + 3, 2, none⟩ = some (.int .i64 0) := (blk_cell R4 2).trans rfl
              have sf2 : World.frozen? _ ⟨w.heap.size + 3, 2, none⟩ = false := blk_frozen R4 2
              have sc3 : World.cell? _ ⟨w.heap.size + 3, 3, none⟩ = some (.int .i64 0) := (blk_cell R4 3).trans rfl
              have sf3 : World.frozen? _ ⟨w.heap.size + 3, 3, none⟩ = false := blk_frozen R4 3
              refine skip_ (w1 := ?_) (by rfl) rfl ?_ ?_
              rotate_left
              · go_simp
                rfl
              refine hK.out _ _ ?_
              clear hK K
              refine pu_ 4 8 (h := ?_)
              refine done_ (by kernel_rfl) ?_
              have HRV := bs4 R4 (.int .i64 Px) (.int .i64 Py) (.int .i64 Pz) (.int .i64 Pg)
              have HBV := bb4 (bthen ZB.out HB.out) (show w.heap.size ≤ w.heap.size + 3 by omega) (.int .i64 Px) (.int .i64 Py) (.int .i64 Pz) (.int .i64 Pg)
              obtain ⟨V, hV⟩ : ∃ V, ((((wd.setCell ⟨w.heap.size + 3, 0, none⟩ (.int .i64 Px)).setCell ⟨w.heap.size + 3, 1, none⟩ (.int .i64 Py)).setCell ⟨w.heap.size + 3, 2, none⟩ (.int .i64 Pz)).setCell ⟨w.heap.size + 3, 3, none⟩ (.int .i64 Pg)) = V := ⟨_, rfl⟩
              rw [hV] at HRV HBV
              (try rw [hV])
              have t0 : V.cell? ⟨w.heap.size + 1 + 1 + 1, 0, none⟩ = some (.int .i64 Px) := (blk_cell HRV 0).trans rfl
              have t1 : V.cell? ⟨w.heap.size + 1 + 1 + 1, 1, none⟩ = some (.int .i64 Py) := (blk_cell HRV 1).trans rfl
              have t2 : V.cell? ⟨w.heap.size + 1 + 1 + 1, 2, none⟩ = some (.int .i64 Pz) := (blk_cell HRV 2).trans rfl
              have t3 : V.cell? ⟨w.heap.size + 1 + 1 + 1, 3, none⟩ = some (.int .i64 Pg) := (blk_cell HRV 3).trans rfl
              clear sc0 sc1 sc2 sc3 sf0 sf1 sf2 sf3 R4 hHeld
              go_wp2
              (try rw [hV])
              exact bodyPost_ret (v := .tuple #[.int .i64 ((16 : Nat) : Int), .agg #[.int .i64 Px, .int .i64 Py, .int .i64 Pz, .int .i64 Pg], .bool true]) (by simp [results, Try.results34, go_sem, t0, t1, t2, t3]) rfl ⟨by rw [HRES.out], HBV⟩
          · have e1 : decide (0 ≤ Pg) = false := decide_eq_false t1
            have HRES := Lh (show CF = (((k : Nat), ((⟨Px, Py, Pz⟩, Pg) : P3 × Int)), true) from by rw [HYS2.out, ← hC.out, HNEG.out _ k _ (by omega)])
            clear HGO HSTOP HNEG HZ HA2 HT HYS2 hC
            go_wp2_with fail
            have HB := Lh ((Below.refl wq.heap.size wq).drew)
            have FF := Lh (show ∀ V, Hid (Below wq.heap.size wq V) → V.cell? ⟨XB, 0, none⟩ = some (.int .i64 Px) ∧ V.cell? ⟨XB, 1, none⟩ = some (.int .i64 Py) ∧ V.cell? ⟨XB, 2, none⟩ = some (.int .i64 Pz) ∧ V.cell? ⟨XB, 3, none⟩ = some (.int .i64 Pg) from fun V HB => have e := (HB.out.block _ (blk_lt hX.out)).trans hX.out; ⟨(blk_cell e 0).trans rfl, (blk_cell e 1).trans rfl, (blk_cell e 2).trans rfl, (blk_cell e 3).trans rfl⟩)
            refine start_ (n := 5) (S := fun w' => w'.cell? ⟨XB, 0, none⟩ = some (.int .i64 Px) ∧ w'.cell? ⟨XB, 1, none⟩ = some (.int .i64 Py) ∧ w'.cell? ⟨XB, 2, none⟩ = some (.int .i64 Pz) ∧ w'.cell? ⟨XB, 3, none⟩ = some (.int .i64 Pg)) (ds := [3]) (MT 0 5) (by kernel_rfl) rfl rfl (FF.out _ HB) (fun hHeld => ?_)
            obtain ⟨wd, hwd⟩ : ∃ x, wq.drew = x := ⟨_, rfl⟩
            rw [hwd] at HB hHeld ⊢
            clear hwd
            refine pu_ 0 65 (h := ?_)
            refine pu_ 2 6 (h := ?_)
            refine ta_ 1 66 hHeld (h := ?_)
            refine last_ (i := 3) (N := none) (MT 4 1) rfl rfl (by kernel_rfl) (by decide) (fun K hK => ?_)
            have R4 := (HB.out.block _ (blk_lt Z3.out)).trans Z3.out
            have sc0 : World.cell? _ ⟨w.heap.size + 3, 0, none⟩ = some (.int .i64 0) := (blk_cell R4 0).trans rfl
            have sf0 : World.frozen? _ ⟨w.heap.size + 3, 0, none⟩ = false := blk_frozen R4 0
            have sc1 : World.cell? _ ⟨w.heap.size + 3, 1, none⟩ = some (.int .i64 0) := (blk_cell R4 1).trans rfl
            have sf1 : World.frozen? _ ⟨w.heap.size + 3, 1, none⟩ = false := blk_frozen R4 1
            have sc2 : World.cell? _ ⟨w.heap.size + 3, 2, none⟩ = some (.int .i64 0) := (blk_cell R4 2).trans rfl
            have sf2 : World.frozen? _ ⟨w.heap.size + 3, 2, none⟩ = false := blk_frozen R4 2
            have sc3 : World.cell? _ ⟨w.heap.size + 3, 3, none⟩ = some (.int .i64 0) := (blk_cell R4 3).trans rfl
            have sf3 : World.frozen? _ ⟨w.heap.size + 3, 3, none⟩ = false := blk_frozen R4 3
            refine skip_ (w1 := ?_) (by rfl) rfl ?_ ?_
            rotate_left
            · go_simp
              rfl
            refine hK.out _ _ ?_
            clear hK K
            refine pu_ 4 8 (h := ?_)
            refine done_ (by kernel_rfl) ?_
            have HRV := bs4 R4 (.int .i64 Px) (.int .i64 Py) (.int .i64 Pz) (.int .i64 Pg)
            have HBV := bb4 (bthen ZB.out HB.out) (show w.heap.size ≤ w.heap.size + 3 by omega) (.int .i64 Px) (.int .i64 Py) (.int .i64 Pz) (.int .i64 Pg)
            obtain ⟨V, hV⟩ : ∃ V, ((((wd.setCell ⟨w.heap.size + 3, 0, none⟩ (.int .i64 Px)).setCell ⟨w.heap.size + 3, 1, none⟩ (.int .i64 Py)).setCell ⟨w.heap.size + 3, 2, none⟩ (.int .i64 Pz)).setCell ⟨w.heap.size + 3, 3, none⟩ (.int .i64 Pg)) = V := ⟨_, rfl⟩
            rw [hV] at HRV HBV
            (try rw [hV])
            have t0 : V.cell? ⟨w.heap.size + 1 + 1 + 1, 0, none⟩ = some (.int .i64 Px) := (blk_cell HRV 0).trans rfl
            have t1 : V.cell? ⟨w.heap.size + 1 + 1 + 1, 1, none⟩ = some (.int .i64 Py) := (blk_cell HRV 1).trans rfl
            have t2 : V.cell? ⟨w.heap.size + 1 + 1 + 1, 2, none⟩ = some (.int .i64 Pz) := (blk_cell HRV 2).trans rfl
            have t3 : V.cell? ⟨w.heap.size + 1 + 1 + 1, 3, none⟩ = some (.int .i64 Pg) := (blk_cell HRV 3).trans rfl
            clear sc0 sc1 sc2 sc3 sf0 sf1 sf2 sf3 R4 hHeld
            go_wp2
            (try rw [hV])
            exact bodyPost_ret (v := .tuple #[.int .i64 (k : Int), .agg #[.int .i64 Px, .int .i64 Py, .int .i64 Pz, .int .i64 Pg], .bool true]) (by simp [results, Try.results34, go_sem, t0, t1, t2, t3]) rfl ⟨by rw [HRES.out], HBV⟩
end Go.Proofs.Ytckdhahceelckaa.G
namespace Go.Proofs.Ytckdhahceelckaa.G
open Go.RowKit Go.Proofs.YtckdhahceelckaaW.PrintWords Go.Proofs.YtckdhahceelckaaW.PrintLast Go.Proofs.YtckdhahceelckaaW.PrintMore
attribute [local go_sem] max2_mx min2_mn max_two min_two max_three min_three max_four min_four
attribute [local go_sem high] eqA23 eqA40
set_option linter.unusedVariables false
set_option linter.unusedSimpArgs false
/-- a list of cores -/
def RdC (w : World) (A : Option Addr) (l : List Cr) : Prop := ∀ i c, l[i]? = some c → ∃ b o A0 A1 A2 n0 n1 n2 c0 c1 c2, A = some ⟨b, o, none⟩ ∧ b < w.heap.size ∧ w.cell? ⟨b, o + i * 4, none⟩ = some (.slice A0 n0 c0) ∧ w.cell? ⟨b, o + i * 4 + 1, none⟩ = some (.slice A1 n1 c1) ∧ w.cell? ⟨b, o + i * 4 + 2, none⟩ = some (.slice A2 n2 c2) ∧ w.cell? ⟨b, o + i * 4 + 3, none⟩ = some (.int .i64 c.r) ∧ CrV w (.agg #[.slice A0 n0 c0, .slice A1 n1 c1, .slice A2 n2 c2, .int .i64 c.r]) c
theorem RdC.below {w w1 : World} {A : Option Addr} {l : List Cr} (h : RdC w A l) (hb : Below w.heap.size w w1) : RdC w1 A l := fun i c hc => by
  obtain ⟨b, o, A0, A1, A2, n0, n1, n2, c0, c1, c2, e, hlt, h0, h1, h2, h3, h4⟩ := h i c hc
  exact ⟨b, o, A0, A1, A2, n0, n1, n2, c0, c1, c2, e, Nat.lt_of_lt_of_le hlt hb.size, (hb.cell (p := ⟨b, _, none⟩) hlt).trans h0, (hb.cell (p := ⟨b, _, none⟩) hlt).trans h1, (hb.cell (p := ⟨b, _, none⟩) hlt).trans h2, (hb.cell (p := ⟨b, _, none⟩) hlt).trans h3, h4.below hb⟩
theorem RdC.get {w : World} {A : Option Addr} {l : List Cr} (h : RdC w A l) (i : Nat) (hi : i < l.length) : ∃ b o A0 A1 A2 n0 n1 n2 c0 c1 c2, A = some ⟨b, o, none⟩ ∧ b < w.heap.size ∧ w.cell? ⟨b, o + i * 4, none⟩ = some (.slice A0 n0 c0) ∧ w.cell? ⟨b, o + i * 4 + 1, none⟩ = some (.slice A1 n1 c1) ∧ w.cell? ⟨b, o + i * 4 + 2, none⟩ = some (.slice A2 n2 c2) ∧ w.cell? ⟨b, o + i * 4 + 3, none⟩ = some (.int .i64 l[i].r) ∧ CrV w (.agg #[.slice A0 n0 c0, .slice A1 n1 c1, .slice A2 n2 c2, .int .i64 l[i].r]) l[i] := h i _ (List.getElem?_eq_getElem hi)
/-- what Ray asks of the i-th -/
def askR (a : Cr) (y : P3) (l : List Cr) (i : Nat) : Nat × Bool := match l[i]? with | some d => rayAsk a y d | none => (0, false)
theorem rayL_ask (a : Cr) (y : P3) (l : List Cr) : rayL a y l = leastF 0 (askR a y l) (fun a b => decide (a < b)) l.length := rfl
theorem askR_get (a : Cr) (y : P3) (l : List Cr) (i : Nat) (h : i < l.length) : askR a y l i = rayAsk a y l[i] := by unfold askR; rw [List.getElem?_eq_getElem h]
def RayPost (R : Nat × Bool) (w : World) (en : Ending) (w' : World) : Prop := en = .returned (.tuple #[.int .i64 R.1, .bool R.2]) ∧ Below w.heap.size w w'
set_option maxHeartbeats 8000000 in
set_option maxRecDepth 100000 in
theorem rask_calls {w : World} {a : Cr} (y : P3) (l : List Cr) (A : Option Addr) (n c ga gy gl i : Nat) (A0 A1 A2 : Option Addr) (n0 n1 n2 c0 c1 c2 : Nat) (ra : Int) (hga : w.heap[ga]? = some (.cells #[.slice A0 n0 c0, .slice A1 n1 c1, .slice A2 n2 c2, .int .i64 ra] 36 (0, 0))) (hgy : w.heap[gy]? = some (.cells #[.int .i64 y.x, .int .i64 y.y, .int .i64 y.z] 23 (0, 0))) (hgl : w.heap[gl]? = some (.cells #[.slice A n c] 57 (0, 0)))
    (ha : CrV w (.agg #[.slice A0 n0 c0, .slice A1 n1 c1, .slice A2 n2 c2, .int .i64 ra]) a) (hl : RdC w A l) (hn : l.length = n) (hi : i < n) (hal : a.p.length ≤ 140737488355328) (hnb : n ≤ 140737488355328) :
    Calls Try.prog 74 #[.int .i64 i, .pointer (some ⟨ga, 0, none⟩), .pointer (some ⟨gy, 0, none⟩), .pointer (some ⟨gl, 0, none⟩)] w (RayPost (askR a y l i) w) := by
  have hil : i < l.length := by omega
  obtain ⟨b, o, B0, B1, B2, m0, m1, m2, d0, d1, d2, rfl, lb, e0, e1, e2, e3, hd⟩ := hl.get i hil
  have HCA := Lh (fun (W : World) (h1 : CrV W (.agg #[.slice A0 n0 c0, .slice A1 n1 c1, .slice A2 n2 c2, .int .i64 ra]) a) (h2 : CrV W (.agg #[.slice B0 m0 d0, .slice B1 m1 d1, .slice B2 m2 d2, .int .i64 l[i].r]) l[i]) => cast_calls h1 h2 y hal)
  have HGE : Hid (askR a y l i = rayAsk a y l[i]) := Lh (askR_get a y l i hil)
  obtain ⟨RR, hRR⟩ : ∃ r : Nat × Bool, askR a y l i = r := ⟨_, rfl⟩
  rw [hRR] at HGE ⊢
  obtain ⟨d, hdd⟩ : ∃ d, l[i] = d := ⟨_, rfl⟩
  rw [hdd] at HCA HGE hd e3
  have HASK : Hid (RR = ((castF a y d).1.1, (castF a y d).2 && (decide ((castF a y d).1.1 < 16) || decide ((castF a y d).1.2.2 < 0)))) := Lh HGE.out
  obtain ⟨R, hR⟩ : ∃ R, castF a y d = R := ⟨_, rfl⟩
  rw [hR] at HASK HCA
  obtain ⟨⟨k, ⟨Xx, Xy, Xz⟩, Xg⟩, Xo⟩ := R
  obtain ⟨yx, yy, yz⟩ := y
  simp only at HASK HCA hgy
  have hkd : decide (k < 16) = decide ((k : Int) < 16) := by by_cases t : k < 16 <;> simp [t] <;> omega
  rw [hkd] at HASK
  obtain ⟨rd, hrd⟩ : ∃ r, d.r = r := ⟨_, rfl⟩
  rw [hrd] at HCA hd e3
  have HVA := Lh ha
  have HVD := Lh hd
  have ti : (i : Int) < (n : Int) := by omega
  have x0 : w.cell? ⟨ga, 0, none⟩ = some (.slice A0 n0 c0) := (blk_cell hga 0).trans rfl
  have x1 : w.cell? ⟨ga, 1, none⟩ = some (.slice A1 n1 c1) := (blk_cell hga 1).trans rfl
  have x2 : w.cell? ⟨ga, 2, none⟩ = some (.slice A2 n2 c2) := (blk_cell hga 2).trans rfl
  have x3 : w.cell? ⟨ga, 3, none⟩ = some (.int .i64 ra) := (blk_cell hga 3).trans rfl
  have la : ga < w.heap.size := blk_lt hga
  have y0 : w.cell? ⟨gy, 0, none⟩ = some (.int .i64 yx) := (blk_cell hgy 0).trans rfl
  have y1 : w.cell? ⟨gy, 1, none⟩ = some (.int .i64 yy) := (blk_cell hgy 1).trans rfl
  have y2 : w.cell? ⟨gy, 2, none⟩ = some (.int .i64 yz) := (blk_cell hgy 2).trans rfl
  have ly : gy < w.heap.size := blk_lt hgy
  have q0 : w.cell? ⟨gl, 0, none⟩ = some (.slice (some ⟨b, o, none⟩) n c) := (blk_cell hgl 0).trans rfl
  have ll : gl < w.heap.size := blk_lt hgl
  clear ha hd hl hn hR hdd hrd hRR hkd hga hgy hgl hil hal HGE
  go_enter Try.func74, Try.ntmps74
  go_wp2_with fail
  have HB := Lh ((Below.refl (w.heap.size) w).drew)
  have FF := Lh (show ∀ V, Hid (Below (w.heap.size) w V) → V.cell? ⟨ga, 0, none⟩ = some (.slice A0 n0 c0) ∧ V.cell? ⟨ga, 1, none⟩ = some (.slice A1 n1 c1) ∧ V.cell? ⟨ga, 2, none⟩ = some (.slice A2 n2 c2) ∧ V.cell? ⟨ga, 3, none⟩ = some (.int .i64 ra) ∧ V.cell? ⟨gy, 0, none⟩ = some (.int .i64 yx) ∧ V.cell? ⟨gy, 1, none⟩ = some (.int .i64 yy) ∧ V.cell? ⟨gy, 2, none⟩ = some (.int .i64 yz) ∧ V.cell? ⟨gl, 0, none⟩ = some (.slice (some ⟨b, o, none⟩) n c) ∧ V.cell? ⟨b, o + i * 4, none⟩ = some (.slice B0 m0 d0) ∧ V.cell? ⟨b, o + i * 4 + 1, none⟩ = some (.slice B1 m1 d1) ∧ V.cell? ⟨b, o + i * 4 + 2, none⟩ = some (.slice B2 m2 d2) ∧ V.cell? ⟨b, o + i * 4 + 3, none⟩ = some (.int .i64 rd) from fun V HB => ⟨(HB.out.cell (p := ⟨ga, 0, none⟩) (la)).trans x0, (HB.out.cell (p := ⟨ga, 1, none⟩) (la)).trans x1, (HB.out.cell (p := ⟨ga, 2, none⟩) (la)).trans x2, (HB.out.cell (p := ⟨ga, 3, none⟩) (la)).trans x3, (HB.out.cell (p := ⟨gy, 0, none⟩) (ly)).trans y0, (HB.out.cell (p := ⟨gy, 1, none⟩) (ly)).trans y1, (HB.out.cell (p := ⟨gy, 2, none⟩) (ly)).trans y2, (HB.out.cell (p := ⟨gl, 0, none⟩) (ll)).trans q0, (HB.out.cell (p := ⟨b, o + i * 4, none⟩) (lb)).trans e0, (HB.out.cell (p := ⟨b, o + i * 4 + 1, none⟩) (lb)).trans e1, (HB.out.cell (p := ⟨b, o + i * 4 + 2, none⟩) (lb)).trans e2, (HB.out.cell (p := ⟨b, o + i * 4 + 3, none⟩) (lb)).trans e3⟩)
  refine start_ (n := 15) (S := fun w' => w'.cell? ⟨ga, 0, none⟩ = some (.slice A0 n0 c0) ∧ w'.cell? ⟨ga, 1, none⟩ = some (.slice A1 n1 c1) ∧ w'.cell? ⟨ga, 2, none⟩ = some (.slice A2 n2 c2) ∧ w'.cell? ⟨ga, 3, none⟩ = some (.int .i64 ra) ∧ w'.cell? ⟨gy, 0, none⟩ = some (.int .i64 yx) ∧ w'.cell? ⟨gy, 1, none⟩ = some (.int .i64 yy) ∧ w'.cell? ⟨gy, 2, none⟩ = some (.int .i64 yz) ∧ w'.cell? ⟨gl, 0, none⟩ = some (.slice (some ⟨b, o, none⟩) n c) ∧ w'.cell? ⟨b, o + i * 4, none⟩ = some (.slice B0 m0 d0) ∧ w'.cell? ⟨b, o + i * 4 + 1, none⟩ = some (.slice B1 m1 d1) ∧ w'.cell? ⟨b, o + i * 4 + 2, none⟩ = some (.slice B2 m2 d2) ∧ w'.cell? ⟨b, o + i * 4 + 3, none⟩ = some (.int .i64 rd)) (ds := []) (MT 0 15) (by kernel_rfl) rfl rfl (FF.out _ HB) (fun hHeld => ?_)
  obtain ⟨wd, hwd⟩ : ∃ x, w.drew = x := ⟨_, rfl⟩
  rw [hwd] at HB hHeld ⊢
  clear hwd
  refine pu_ 3 14 (h := ?_)
  refine ta_ 0 11 hHeld (h := ?_)
  refine ta_ 1 12 hHeld (h := ?_)
  refine ta_ 2 13 hHeld (h := ?_)
  refine pu_ 4 15 (h := ?_)
  refine ta_ 5 16 hHeld (h := ?_)
  refine join_ (σ := Nat) 3 (MT 12 3) (fun s => [(8, .pointer (some ⟨s, 0, none⟩)), (17, .tuple #[.int .i64 (k : Int), .agg #[.int .i64 Xx, .int .i64 Xy, .int .i64 Xz, .int .i64 Xg], .bool Xo]), (10, .tuple #[.int .i64 (k : Int), .agg #[.int .i64 Xx, .int .i64 Xy, .int .i64 Xz, .int .i64 Xg], .bool Xo]), (18, .int .i64 (k : Int)), (19, .agg #[.int .i64 Xx, .int .i64 Xy, .int .i64 Xz, .int .i64 Xg]), (20, .bool Xo)]) (fun s w' => w.heap.size ≤ s ∧ w'.heap[s]? = some (.cells #[.int .i64 0, .int .i64 0, .int .i64 0, .int .i64 0] 40 (0, 0)) ∧ Below (w.heap.size) w w') ?_ ?_
  rotate_left
  · intro hCont
    refine two_ (i := 6) (j := 11) (Ni := some 17) (Nj := some 8) (MT 7 8) #[true, true, true, true, true, true, false, false, false, false, false, true, false, false, false] rfl rfl rfl rfl (by kernel_rfl) (by decide) (by decide) (fun K hK => ?_) (fun K hK => ?_)
    · skip
      refine gs_ Try.func34 #[.agg #[.slice A0 n0 c0, .slice A1 n1 c1, .slice A2 n2 c2, .int .i64 ra], aP ⟨yx, yy, yz⟩, .agg #[.slice B0 m0 d0, .slice B1 m1 d1, .slice B2 m2 d2, .int .i64 rd]] ?_
      with_reducible refine (HCA.out _ (HVA.out.below HB.out) (HVD.out.below HB.out)).mono ?_
      rintro en w3 ⟨rfl, hb⟩
      have HB := Lh (HB.out.trans (hb.mono HB.out.size))
      clear hb
      refine ⟨_, rfl, ?_⟩
      refine hK.out _ _ (FF.out _ HB) (fun hHeld => ?_)
      clear hK K
      refine no_ (h := ?_)
      refine pu_ 7 10 (h := ?_)
      refine pu_ 8 18 (h := ?_)
      refine pu_ 9 19 (h := ?_)
      refine pu_ 10 20 (h := ?_)
      refine on_ 11 (some 8) (h := fun K hK => ?_)
      refine value_ (w1 := ?_) (v := ?_) (by rfl) rfl ?_ ?_
      rotate_left 2
      · go_simp
        constructor
        · rfl
        · rfl
      have HA := Lh (ha_new HB.out (.cells #[.int .i64 0, .int .i64 0, .int .i64 0, .int .i64 0] 40))
      have hge := HB.out.size
      have HB := Lh (HB.out.alloc (Nat.le_trans (Nat.le_refl _) HB.out.size) (.cells #[.int .i64 0, .int .i64 0, .int .i64 0, .int .i64 0] 40))
      refine hK.out _ _ (FF.out _ HB) (fun hHeld => ?_)
      clear hK K
      refine no_ (h := ?_)
      exact norm_ (by simp only [putAll, Act.put, List.setIfInBounds_toArray, List.set_cons_zero, List.set_cons_succ]) (hCont _ _ ⟨hge, HA.out, HB.out⟩)
    · skip
      refine value_ (w1 := ?_) (v := ?_) (by rfl) rfl ?_ ?_
      rotate_left 2
      · go_simp
        constructor
        · rfl
        · rfl
      have HA := Lh (ha_new HB.out (.cells #[.int .i64 0, .int .i64 0, .int .i64 0, .int .i64 0] 40))
      have hge := HB.out.size
      have HB := Lh (HB.out.alloc (Nat.le_trans (Nat.le_refl _) HB.out.size) (.cells #[.int .i64 0, .int .i64 0, .int .i64 0, .int .i64 0] 40))
      refine hK.out _ _ (FF.out _ HB) (fun hHeld => ?_)
      clear hK K
      refine no_ (h := ?_)
      refine on_ 6 (some 17) (h := fun K hK => ?_)
      refine gs_ Try.func34 #[.agg #[.slice A0 n0 c0, .slice A1 n1 c1, .slice A2 n2 c2, .int .i64 ra], aP ⟨yx, yy, yz⟩, .agg #[.slice B0 m0 d0, .slice B1 m1 d1, .slice B2 m2 d2, .int .i64 rd]] ?_
      with_reducible refine (HCA.out _ (HVA.out.below HB.out) (HVD.out.below HB.out)).mono ?_
      rintro en w3 ⟨rfl, hb⟩
      have HB := Lh (HB.out.trans (hb.mono HB.out.size))
      have HA := Lh ((hb.block _ (blk_lt HA.out)).trans HA.out)
      clear hb
      refine ⟨_, rfl, ?_⟩
      refine hK.out _ _ (FF.out _ HB) (fun hHeld => ?_)
      clear hK K
      refine no_ (h := ?_)
      refine pu_ 7 10 (h := ?_)
      refine pu_ 8 18 (h := ?_)
      refine pu_ 9 19 (h := ?_)
      refine pu_ 10 20 (h := ?_)
      exact norm_ (by simp only [putAll, Act.put, List.setIfInBounds_toArray, List.set_cons_zero, List.set_cons_succ]) (hCont _ _ ⟨hge, HA.out, HB.out⟩)
  rintro AB wj ⟨hge, HA, HB⟩
  have HA := Lh HA
  have HB := Lh HB
  have hHeld := FF.out _ HB
  refine no_ (h := ?_)
  refine pu_ 12 7 (h := ?_)
  refine on_ 13 (none) (h := fun K hK => ?_)
  have sc0 : World.cell? _ ⟨AB, 0, none⟩ = some (.int .i64 0) := (blk_cell HA.out 0).trans rfl
  have sf0 := blk_frozen HA.out 0
  have sc1 : World.cell? _ ⟨AB, 1, none⟩ = some (.int .i64 0) := (blk_cell HA.out 1).trans rfl
  have sf1 := blk_frozen HA.out 1
  have sc2 : World.cell? _ ⟨AB, 2, none⟩ = some (.int .i64 0) := (blk_cell HA.out 2).trans rfl
  have sf2 := blk_frozen HA.out 2
  have sc3 : World.cell? _ ⟨AB, 3, none⟩ = some (.int .i64 0) := (blk_cell HA.out 3).trans rfl
  have sf3 := blk_frozen HA.out 3
  refine skip_ (w1 := ?_) (by rfl) rfl ?_ ?_
  rotate_left
  · go_simp
    rfl
  have HA := Lh (bs4 HA.out (.int .i64 Xx) (.int .i64 Xy) (.int .i64 Xz) (.int .i64 Xg))
  have HB := Lh (bb4 HB.out (Nat.le_trans (Nat.le_refl _) hge) (.int .i64 Xx) (.int .i64 Xy) (.int .i64 Xz) (.int .i64 Xg))
  clear sc0 sf0 sc1 sf1 sc2 sf2 sc3 sf3
  refine hK.out _ _ (FF.out _ HB) (fun hHeld => ?_)
  clear hK K
  refine pu_ 14 9 (h := ?_)
  refine done_ (by kernel_rfl) ?_
  obtain ⟨w4, hwn⟩ : ∃ V, ((((wj.setCell ⟨AB, 0, none⟩ (.int .i64 Xx)).setCell ⟨AB, 1, none⟩ (.int .i64 Xy)).setCell ⟨AB, 2, none⟩ (.int .i64 Xz)).setCell ⟨AB, 3, none⟩ (.int .i64 Xg)) = V := ⟨_, rfl⟩
  rw [hwn] at HA HB ⊢
  clear hwn
  have v3 : w4.cell? ⟨AB, 3, none⟩ = some (.int .i64 Xg) := (blk_cell HA.out 3).trans rfl
  have lA : AB < w4.heap.size := blk_lt HA.out
  clear hHeld HVA HVD x0 x1 x2 x3 la y0 y1 y2 ly q0 ll e0 e1 e2 e3 lb HCA hge
  cases Xo with
  | false =>
    go_wp2_with fail
    go_quiet (fail)
    go_wp2
    exact bodyPost_ret (v := .tuple #[.int .i64 (k : Int), .bool false]) (by simp [results, Try.results74, go_sem]) rfl ⟨by rw [HASK.out]; rfl, pw_below_drewN HB.out _⟩
  | true =>
    by_cases t1 : (k : Int) < 16
    · have u1 : decide ((k : Int) < 16) = true := decide_eq_true t1
      rw [u1] at HASK
      clear t1
      go_wp2_with fail
      go_quiet (fail)
      go_wp2
      exact bodyPost_ret (v := .tuple #[.int .i64 (k : Int), .bool true]) (by simp [results, Try.results74, go_sem]) rfl ⟨by rw [HASK.out]; rfl, pw_below_drewN HB.out _⟩
    · have u1 : decide ((k : Int) < 16) = false := decide_eq_false t1
      rw [u1] at HASK
      clear t1
      by_cases t2 : Xg < 0
      · have u2 : decide (Xg < 0) = true := decide_eq_true t2
        rw [u2] at HASK
        clear t2
        go_wp2_with fail
        go_quiet (fail)
        go_wp2
        exact bodyPost_ret (v := .tuple #[.int .i64 (k : Int), .bool true]) (by simp [results, Try.results74, go_sem]) rfl ⟨by rw [HASK.out]; rfl, pw_below_drewN HB.out _⟩
      · have u2 : decide (Xg < 0) = false := decide_eq_false t2
        rw [u2] at HASK
        clear t2
        go_wp2_with fail
        go_quiet (fail)
        go_wp2
        exact bodyPost_ret (v := .tuple #[.int .i64 (k : Int), .bool false]) (by simp [results, Try.results74, go_sem]) rfl ⟨by rw [HASK.out]; rfl, pw_below_drewN HB.out _⟩
theorem rless_calls (a b : Int) (w : World) : Calls Try.prog 75 #[.int .i64 a, .int .i64 b] w fun e w' => e = .returned (.bool (decide (a < b))) ∧ w' = w := by
  go_enter Try.func75, Try.ntmps75
  go_wp2
  go_ret
  exact ⟨rfl, rfl⟩
def LeastPost (R : Int × Nat) (w : World) (en : Ending) (w' : World) : Prop := en = .returned (.tuple #[.int .i64 R.1, .int .i64 R.2]) ∧ Below w.heap.size w w'
set_option maxHeartbeats 4000000 in
set_option maxRecDepth 100000 in
theorem rleast_calls (n : Nat) (ask : Nat → Nat × Bool) (ga gy gl : Nat) (w : World) (hn : n ≤ 140737488355328)
    (H : ∀ (W : World) (i : Nat), Below w.heap.size w W → i < n → Calls Try.prog 74 #[.int .i64 i, .pointer (some ⟨ga, 0, none⟩), .pointer (some ⟨gy, 0, none⟩), .pointer (some ⟨gl, 0, none⟩)] W (RayPost (ask i) W)) :
    Calls Try.prog 73 #[.int .i64 n, .func (.func 74) #[] #[.pointer (some ⟨ga, 0, none⟩), .pointer (some ⟨gy, 0, none⟩), .pointer (some ⟨gl, 0, none⟩)], .func (.func 75) #[] #[]] w (LeastPost (leastF 0 ask (fun a b => decide (a < b)) n) w) := by
  have HH := Lh H
  have HST := Lh (fun i => show leastF 0 ask (fun a b => decide (a < b)) (i + 1) = if (ask i).2 = true ∧ ((leastF 0 ask (fun a b => decide (a < b)) i).1 < 0 ∨ decide ((ask i).1 < (leastF 0 ask (fun a b => decide (a < b)) i).2) = true) then ((i : Int), (ask i).1) else leastF 0 ask (fun a b => decide (a < b)) i from rfl)
  have H0 : Hid (leastF 0 ask (fun a b => decide (a < b)) 0 = (-1, 0)) := Lh rfl
  obtain ⟨L, hL⟩ : ∃ L : Nat → Int × Nat, leastF 0 ask (fun a b => decide (a < b)) = L := ⟨_, rfl⟩
  rw [hL] at HST H0 ⊢
  clear H hL
  go_enter Try.func73, Try.ntmps73
  go_wp2_with fail
  go_loopw [8, 9, 14] (fun v8 v9 v14 wr => ∃ i : Nat, i ≤ n ∧ v14 = .int .i64 i ∧ v8 = .int .i64 (L i).1 ∧ v9 = .int .i64 (L i).2 ∧ Hid (Below w.heap.size w wr)) (fun _ _ i _ => n - (intOf i).toNat)
  case atStart => exact ⟨0, by omega, rfl, by rw [H0.out], by rw [H0.out]; rfl, Lh (Below.refl _ _)⟩
  case round =>
    obtain ⟨i, hi, rfl, rfl, rfl, hB⟩ := hrel
    obtain ⟨wq, hwq⟩ : ∃ x : World, x = wr := ⟨_, rfl⟩
    subst hwq
    by_cases hlt : i < n
    · have HI := Lh (HH.out wq i hB.out hlt)
      have HS1 := Lh (HST.out i)
      obtain ⟨R, hR⟩ : ∃ R, ask i = R := ⟨_, rfl⟩
      rw [hR] at HI HS1
      obtain ⟨m, hm⟩ : ∃ m, L i = m := ⟨_, rfl⟩
      rw [hm] at HS1 ⊢
      obtain ⟨at_, best⟩ := m
      obtain ⟨p, is⟩ := R
      simp only at HS1
      have ti : (i : Int) < (n : Int) := by omega
      clear hR hm
      go_wp2_with fail
      with_reducible refine HI.out.mono ?_
      rintro en w2 ⟨rfl, hb⟩
      have hB := Lh (bthen hB.out hb)
      clear hb HI
      cases is with
      | false =>
        have hS : Hid (L (i + 1) = (at_, best)) := Lh (by rw [HS1.out, if_neg (by simp)])
        clear HS1
        go_wp2
        go_roundw
        case rel => exact ⟨i + 1, by omega, by go_num, by rw [hS.out], by rw [hS.out], hB⟩
        case measure => simp [intOf]; omega
      | true =>
        by_cases ta : at_ < 0
        · have ea : decide (at_ < 0) = true := decide_eq_true ta
          have hS : Hid (L (i + 1) = ((i : Int), p)) := Lh (by rw [HS1.out, if_pos ⟨rfl, .inl ta⟩])
          clear HS1 ta
          go_wp2
          go_roundw
          case rel => exact ⟨i + 1, by omega, by go_num, by rw [hS.out], by rw [hS.out], hB⟩
          case measure => simp [intOf]; omega
        · have ea : decide (at_ < 0) = false := decide_eq_false ta
          by_cases tp : p < best
          · have ep : decide ((p : Int) < (best : Int)) = true := decide_eq_true (by omega)
            have hS : Hid (L (i + 1) = ((i : Int), p)) := Lh (by rw [HS1.out, if_pos ⟨rfl, .inr (decide_eq_true tp)⟩])
            clear HS1 ta tp
            go_wp2_with (go_at_call 75; refine (rless_calls _ _ _).mono ?_; rintro en w3 ⟨rfl, rfl⟩; rw [ep])
            go_roundw
            case rel => exact ⟨i + 1, by omega, by go_num, by rw [hS.out], by rw [hS.out], hB⟩
            case measure => simp [intOf]; omega
          · have ep : decide ((p : Int) < (best : Int)) = false := decide_eq_false (by omega)
            have hS : Hid (L (i + 1) = (at_, best)) := Lh (by
              rw [HS1.out, if_neg]
              rintro ⟨_, h | h⟩
              · exact ta h
              · exact tp (by simpa using h))
            clear HS1 ta tp
            go_wp2_with (go_at_call 75; refine (rless_calls _ _ _).mono ?_; rintro en w3 ⟨rfl, rfl⟩; rw [ep])
            go_roundw
            case rel => exact ⟨i + 1, by omega, by go_num, by rw [hS.out], by rw [hS.out], hB⟩
            case measure => simp [intOf]; omega
    · obtain rfl : n = i := by omega
      go_wp2
      exact bodyPost_ret (v := .tuple #[.int .i64 (L n).1, .int .i64 ((L n).2 : Int)]) (by simp [results, Try.results73, go_sem]) rfl ⟨rfl, hB.out⟩
end Go.Proofs.Ytckdhahceelckaa.G
namespace Go.Proofs.Ytckdhahceelckaa.G
open Go.RowKit Go.Proofs.YtckdhahceelckaaW.PrintWords Go.Proofs.YtckdhahceelckaaW.PrintLast Go.Proofs.YtckdhahceelckaaW.PrintMore
attribute [local go_sem] max2_mx min2_mn max_two min_two max_three min_three max_four min_four
attribute [local go_sem high] eqA23 eqA40
set_option linter.unusedVariables false
set_option linter.unusedSimpArgs false
def RayR (R : (Int × Nat) × Bool) (w : World) (en : Ending) (w' : World) : Prop := en = .returned (.tuple #[.int .i64 R.1.1, .int .i64 R.1.2, .bool R.2]) ∧ Below w.heap.size w w'
set_option maxHeartbeats 4000000 in
set_option maxRecDepth 100000 in
theorem ray_calls (x y : P3) (l : List Cr) (A : Option Addr) (n c : Nat) (w : World) (hl : RdC w A l) (hn : l.length = n) (hnb : n ≤ 140737488355328) :
    Calls Try.prog 33 #[aP x, aP y, .slice A n c] w (RayR (rayF x y l) w) := by
  have HNO := Lh (fun (h : smay ⟨[x], [], [], 0⟩ y = false) => show rayF x y l = ((-1, 0), false) from if_neg (by rw [h]; decide))
  have HYS := Lh (fun (h : smay ⟨[x], [], [], 0⟩ y = true) => show rayF x y l = (if (rayL ⟨[x], [], [], 0⟩ y l).1 < 0 then ((-1, 16), false) else (rayL ⟨[x], [], [], 0⟩ y l, true)) from if_pos h)
  have HM := Lh (fun (W : World) (v : Value) (h : CrV W v ⟨[x], [], [], 0⟩) => smay_calls h y (by simp))
  obtain ⟨S, hS⟩ : ∃ R, smay ⟨[x], [], [], 0⟩ y = R := ⟨_, rfl⟩
  rw [hS] at HNO HYS HM
  have HLE : Hid (rayL ⟨[x], [], [], 0⟩ y l = leastF 0 (askR ⟨[x], [], [], 0⟩ y l) (fun a b => decide (a < b)) n) := Lh (by rw [rayL_ask, hn])
  obtain ⟨RL, hRL⟩ : ∃ R, rayL ⟨[x], [], [], 0⟩ y l = R := ⟨_, rfl⟩
  rw [hRL] at HYS HLE
  obtain ⟨RF, hRF⟩ : ∃ R, rayF x y l = R := ⟨_, rfl⟩
  rw [hRF] at HNO HYS ⊢
  have HN := Lh hn
  have HL := Lh hl
  obtain ⟨xx, xy, xz⟩ := x
  obtain ⟨yx, yy, yz⟩ := y
  clear hS hRL hRF hn hl
  have b1 := (Below.refl _ w).alloc (Nat.le_refl _) (.cells #[.int .i64 xx, .int .i64 xy, .int .i64 xz] 23)
  have b2 := b1.alloc (by simp) (.cells #[.int .i64 yx, .int .i64 yy, .int .i64 yz] 23)
  have b3 := b2.alloc (by simp <;> omega) (.cells #[.slice A n c] 57)
  have b4 := b3.alloc (by simp <;> omega) (.cells #[.int .i64 xx, .int .i64 xy, .int .i64 xz] 23)
  have b5 := b4.alloc (by simp <;> omega) (.cells #[.slice (some ⟨w.heap.size + 1 + 1 + 1, 0, none⟩) 1 1, .slice none 0 0, .slice none 0 0, .int .i64 0] 36)
  have g1 := heap_alloc_new (w.alloc (.cells #[.int .i64 xx, .int .i64 xy, .int .i64 xz] 23)) (.cells #[.int .i64 yx, .int .i64 yy, .int .i64 yz] 23)
  have g2 := heap_alloc_new ((w.alloc (.cells #[.int .i64 xx, .int .i64 xy, .int .i64 xz] 23)).alloc (.cells #[.int .i64 yx, .int .i64 yy, .int .i64 yz] 23)) (.cells #[.slice A n c] 57)
  have g3 := heap_alloc_new (((w.alloc (.cells #[.int .i64 xx, .int .i64 xy, .int .i64 xz] 23)).alloc (.cells #[.int .i64 yx, .int .i64 yy, .int .i64 yz] 23)).alloc (.cells #[.slice A n c] 57)) (.cells #[.int .i64 xx, .int .i64 xy, .int .i64 xz] 23)
  have g4 := heap_alloc_new ((((w.alloc (.cells #[.int .i64 xx, .int .i64 xy, .int .i64 xz] 23)).alloc (.cells #[.int .i64 yx, .int .i64 yy, .int .i64 yz] 23)).alloc (.cells #[.slice A n c] 57)).alloc (.cells #[.int .i64 xx, .int .i64 xy, .int .i64 xz] 23)) (.cells #[.slice (some ⟨w.heap.size + 1 + 1 + 1, 0, none⟩) 1 1, .slice none 0 0, .slice none 0 0, .int .i64 0] 36)
  simp only [World.size_alloc] at g1 g2 g3 g4
  have g1 := (Below.heap_alloc _ (.cells #[.slice (some ⟨w.heap.size + 1 + 1 + 1, 0, none⟩) 1 1, .slice none 0 0, .slice none 0 0, .int .i64 0] 36) _ (by simp <;> omega)).trans ((Below.heap_alloc _ (.cells #[.int .i64 xx, .int .i64 xy, .int .i64 xz] 23) _ (by simp <;> omega)).trans ((Below.heap_alloc _ (.cells #[.slice A n c] 57) _ (by simp)).trans g1))
  have g2 := (Below.heap_alloc _ (.cells #[.slice (some ⟨w.heap.size + 1 + 1 + 1, 0, none⟩) 1 1, .slice none 0 0, .slice none 0 0, .int .i64 0] 36) _ (by simp <;> omega)).trans ((Below.heap_alloc _ (.cells #[.int .i64 xx, .int .i64 xy, .int .i64 xz] 23) _ (by simp)).trans g2)
  have g3 := (Below.heap_alloc _ (.cells #[.slice (some ⟨w.heap.size + 1 + 1 + 1, 0, none⟩) 1 1, .slice none 0 0, .slice none 0 0, .int .i64 0] 36) _ (by simp)).trans g3
  go_enter Try.func33, Try.ntmps33
  go_wp2_with fail
  obtain ⟨w1, hw1⟩ : ∃ V, ((((w.alloc (.cells #[.int .i64 xx, .int .i64 xy, .int .i64 xz] 23)).alloc (.cells #[.int .i64 yx, .int .i64 yy, .int .i64 yz] 23)).alloc (.cells #[.slice A n c] 57)).alloc (.cells #[.int .i64 xx, .int .i64 xy, .int .i64 xz] 23)).alloc (.cells #[.slice (some ⟨w.heap.size + 1 + 1 + 1, 0, none⟩) 1 1, .slice none 0 0, .slice none 0 0, .int .i64 0] 36) = V := ⟨_, rfl⟩
  rw [hw1] at g1 g2 g3 g4 b5 ⊢
  clear hw1 b1 b2 b3 b4
  have HV := Lh (show CrV w1 (.agg #[.slice (some ⟨w.heap.size + 1 + 1 + 1, 0, none⟩) 1 1, .slice none 0 0, .slice none 0 0, .int .i64 0]) ⟨[⟨xx, xy, xz⟩], [], [], 0⟩ from ball_core w1 _ xx xy xz 0 1 (Nat.le_refl _) g3)
  have HB := Lh b5
  with_reducible refine (HM.out w1 _ HV.out).mono ?_
  rintro en w2 ⟨rfl, hb⟩
  have G1 := Lh ((hb.block _ (blk_lt g1)).trans g1)
  have G2 := Lh ((hb.block _ (blk_lt g2)).trans g2)
  have G4 := Lh ((hb.block _ (blk_lt g4)).trans g4)
  have HV := Lh (HV.out.below hb)
  have HB := Lh (bthen HB.out hb)
  clear hb g1 g2 g3 g4 b5 HM
  cases S with
  | false =>
    have HR := Lh (HNO.out rfl)
    go_wp2
    exact bodyPost_ret (v := .tuple #[.int .i64 (-1), .int .i64 0, .bool false]) (by simp [results, Try.results33, go_sem]) rfl ⟨by rw [HR.out]; rfl, HB.out⟩
  | true =>
    have HR := Lh (HYS.out rfl)
    have q0 : w2.cell? ⟨w.heap.size + 1 + 1, 0, none⟩ = some (.slice A n c) := (blk_cell G2.out 0).trans rfl
    have ql : w.heap.size + 1 + 1 < w2.heap.size := blk_lt G2.out
    clear HNO HYS
    have HLS := Lh (rleast_calls n (askR ⟨[⟨xx, xy, xz⟩], [], [], 0⟩ ⟨yx, yy, yz⟩ l) (w.heap.size + 1 + 1 + 1 + 1) (w.heap.size + 1) (w.heap.size + 1 + 1) w2 hnb (fun W i hW hi => rask_calls ⟨yx, yy, yz⟩ l A n c _ _ _ i _ _ _ _ _ _ _ _ _ _ ((hW.block _ (blk_lt G4.out)).trans G4.out) ((hW.block _ (blk_lt G1.out)).trans G1.out) ((hW.block _ (blk_lt G2.out)).trans G2.out) (HV.out.below hW) (HL.out.below (bthen HB.out hW)) HN.out hi (by simp) hnb))
    rw [← HLE.out] at HLS
    go_wp2_with fail
    with_reducible refine HLS.out.mono ?_
    rintro en w3 ⟨rfl, hb⟩
    have HB := Lh (bthen HB.out hb)
    clear hb HLS HLE q0 ql
    obtain ⟨ra, rb⟩ := RL
    by_cases t : ra < 0
    · have e1 : decide (ra < 0) = true := decide_eq_true t
      have HR := Lh (HR.out.trans (if_pos t))
      clear t
      go_wp2
      exact bodyPost_ret (v := .tuple #[.int .i64 (-1), .int .i64 16, .bool false]) (by simp [results, Try.results33, go_sem]) rfl ⟨by rw [HR.out]; rfl, HB.out⟩
    · have e1 : decide (ra < 0) = false := decide_eq_false t
      have HR := Lh (HR.out.trans (if_neg t))
      clear t
      go_wp2
      exact bodyPost_ret (v := .tuple #[.int .i64 ra, .int .i64 (rb : Int), .bool true]) (by simp [results, Try.results33, go_sem]) rfl ⟨by rw [HR.out], HB.out⟩
end Go.Proofs.Ytckdhahceelckaa.G
namespace Go.Proofs.Ytckdhahceelckaa.G
open Go.RowKit Go.Proofs.YtckdhahceelckaaW.PrintWords Go.Proofs.YtckdhahceelckaaW.PrintLast Go.Proofs.YtckdhahceelckaaW.PrintMore
attribute [local go_sem] max2_mx min2_mn max_two min_two max_three min_three max_four min_four
attribute [local go_sem high] eqA23 eqA40
set_option linter.unusedVariables false
set_option linter.unusedSimpArgs false
/-- what Near asks of the i-th -/
def askN (a : Cr) (l : List Cr) (i : Nat) : (P3 × Int) × Bool := match l[i]? with | some d => apS a d | none => (nearZ, false)
theorem nearL_ask (a : Cr) (l : List Cr) : nearL a l = leastF nearZ (askN a l) (fun x y => decide (x.2 < y.2)) l.length := rfl
theorem askN_get (a : Cr) (l : List Cr) (i : Nat) (h : i < l.length) : askN a l i = apS a l[i] := by unfold askN; rw [List.getElem?_eq_getElem h]
def NearPost (R : (P3 × Int) × Bool) (w : World) (en : Ending) (w' : World) : Prop := en = .returned (.tuple #[.agg #[.int .i64 R.1.1.x, .int .i64 R.1.1.y, .int .i64 R.1.1.z, .int .i64 R.1.2], .bool R.2]) ∧ Below w.heap.size w w'
set_option maxHeartbeats 8000000 in
set_option maxRecDepth 100000 in
theorem nask_calls {w : World} {a : Cr} (l : List Cr) (A : Option Addr) (n c ga gl i : Nat) (A0 A1 A2 : Option Addr) (n0 n1 n2 c0 c1 c2 : Nat) (ra : Int) (hga : w.heap[ga]? = some (.cells #[.slice A0 n0 c0, .slice A1 n1 c1, .slice A2 n2 c2, .int .i64 ra] 36 (0, 0))) (hgl : w.heap[gl]? = some (.cells #[.slice A n c] 57 (0, 0)))
    (ha : CrV w (.agg #[.slice A0 n0 c0, .slice A1 n1 c1, .slice A2 n2 c2, .int .i64 ra]) a) (hl : RdC w A l) (hn : l.length = n) (hi : i < n) (hnb : n ≤ 140737488355328) :
    Calls Try.prog 86 #[.int .i64 i, .pointer (some ⟨ga, 0, none⟩), .pointer (some ⟨gl, 0, none⟩)] w (NearPost (askN a l i) w) := by
  have hil : i < l.length := by omega
  obtain ⟨b, o, B0, B1, B2, m0, m1, m2, d0, d1, d2, rfl, lb, e0, e1, e2, e3, hd⟩ := hl.get i hil
  have HCA := Lh (fun (W : World) (h1 : CrV W (.agg #[.slice A0 n0 c0, .slice A1 n1 c1, .slice A2 n2 c2, .int .i64 ra]) a) (h2 : CrV W (.agg #[.slice B0 m0 d0, .slice B1 m1 d1, .slice B2 m2 d2, .int .i64 l[i].r]) l[i]) => apart_all h1 h2 (apS a l[i]) rfl)
  have HGE : Hid (askN a l i = apS a l[i]) := Lh (askN_get a l i hil)
  obtain ⟨RR, hRR⟩ : ∃ r : (P3 × Int) × Bool, askN a l i = r := ⟨_, rfl⟩
  rw [hRR] at HGE ⊢
  obtain ⟨d, hdd⟩ : ∃ d, l[i] = d := ⟨_, rfl⟩
  rw [hdd] at HCA HGE hd e3
  obtain ⟨R, hR⟩ : ∃ R, apS a d = R := ⟨_, rfl⟩
  rw [hR] at HGE HCA
  obtain ⟨⟨⟨Xx, Xy, Xz⟩, Xg⟩, Xo⟩ := R
  (try simp only at HCA)
  obtain ⟨rd, hrd⟩ : ∃ r, d.r = r := ⟨_, rfl⟩
  rw [hrd] at HCA hd e3
  have HVA := Lh ha
  have HVD := Lh hd
  have ti : (i : Int) < (n : Int) := by omega
  have bz := (Below.refl _ w).alloc (Nat.le_refl _) (.cells #[.int .i64 0, .int .i64 0, .int .i64 0, .int .i64 0] 40)
  have Z := Lh (heap_alloc_new w (.cells #[.int .i64 0, .int .i64 0, .int .i64 0, .int .i64 0] 40))
  have hga := (bz.block _ (blk_lt hga)).trans hga
  have hgl := (bz.block _ (blk_lt hgl)).trans hgl
  have HVA := Lh (HVA.out.below bz)
  have HVD := Lh (HVD.out.below bz)
  have e0 := (bz.cell (p := ⟨b, _, none⟩) lb).trans e0
  have e1 := (bz.cell (p := ⟨b, _, none⟩) lb).trans e1
  have e2 := (bz.cell (p := ⟨b, _, none⟩) lb).trans e2
  have e3 := (bz.cell (p := ⟨b, _, none⟩) lb).trans e3
  have lb := Nat.lt_of_lt_of_le lb bz.size
  go_enter Try.func86, Try.ntmps86
  go_wp2_with fail
  obtain ⟨w1, hw1⟩ : ∃ V, w.alloc (.cells #[.int .i64 0, .int .i64 0, .int .i64 0, .int .i64 0] 40) = V := ⟨_, rfl⟩
  rw [hw1] at bz Z hga hgl HVA HVD e0 e1 e2 e3 lb ⊢
  have WB := Lh bz
  have lz : w.heap.size < w1.heap.size := blk_lt Z.out
  have x0 : w1.cell? ⟨ga, 0, none⟩ = some (.slice A0 n0 c0) := (blk_cell hga 0).trans rfl
  have x1 : w1.cell? ⟨ga, 1, none⟩ = some (.slice A1 n1 c1) := (blk_cell hga 1).trans rfl
  have x2 : w1.cell? ⟨ga, 2, none⟩ = some (.slice A2 n2 c2) := (blk_cell hga 2).trans rfl
  have x3 : w1.cell? ⟨ga, 3, none⟩ = some (.int .i64 ra) := (blk_cell hga 3).trans rfl
  have la : ga < w1.heap.size := blk_lt hga
  have q0 : w1.cell? ⟨gl, 0, none⟩ = some (.slice (some ⟨b, o, none⟩) n c) := (blk_cell hgl 0).trans rfl
  have ll : gl < w1.heap.size := blk_lt hgl
  clear ha hd hl hn hR hdd hrd hRR hga hgl hil bz hw1
  have HB := Lh ((Below.refl (w1.heap.size) w1).drew)
  have HA := Lh (show w1.drew.heap[(w.heap.size)]? = _ from Z.out)
  refine start_ (n := 10) (S := fun w' => w'.cell? ⟨ga, 0, none⟩ = some (.slice A0 n0 c0) ∧ w'.cell? ⟨ga, 1, none⟩ = some (.slice A1 n1 c1) ∧ w'.cell? ⟨ga, 2, none⟩ = some (.slice A2 n2 c2) ∧ w'.cell? ⟨ga, 3, none⟩ = some (.int .i64 ra) ∧ w'.cell? ⟨gl, 0, none⟩ = some (.slice (some ⟨b, o, none⟩) n c) ∧ w'.cell? ⟨b, o + i * 4, none⟩ = some (.slice B0 m0 d0) ∧ w'.cell? ⟨b, o + i * 4 + 1, none⟩ = some (.slice B1 m1 d1) ∧ w'.cell? ⟨b, o + i * 4 + 2, none⟩ = some (.slice B2 m2 d2) ∧ w'.cell? ⟨b, o + i * 4 + 3, none⟩ = some (.int .i64 rd)) (ds := [8]) (MT 0 10) (by kernel_rfl) rfl rfl ⟨(HB.out.cell (p := ⟨ga, 0, none⟩) (la)).trans x0, (HB.out.cell (p := ⟨ga, 1, none⟩) (la)).trans x1, (HB.out.cell (p := ⟨ga, 2, none⟩) (la)).trans x2, (HB.out.cell (p := ⟨ga, 3, none⟩) (la)).trans x3, (HB.out.cell (p := ⟨gl, 0, none⟩) (ll)).trans q0, (HB.out.cell (p := ⟨b, o + i * 4, none⟩) (lb)).trans e0, (HB.out.cell (p := ⟨b, o + i * 4 + 1, none⟩) (lb)).trans e1, (HB.out.cell (p := ⟨b, o + i * 4 + 2, none⟩) (lb)).trans e2, (HB.out.cell (p := ⟨b, o + i * 4 + 3, none⟩) (lb)).trans e3⟩ (fun hHeld => ?_)
  obtain ⟨wd, hwd⟩ : ∃ x, w1.drew = x := ⟨_, rfl⟩
  rw [hwd] at HB hHeld HA ⊢
  clear hwd
  refine pu_ 2 8 (h := ?_)
  refine ta_ 0 6 hHeld (h := ?_)
  refine ta_ 1 7 hHeld (h := ?_)
  refine pu_ 3 9 (h := ?_)
  refine ta_ 4 10 hHeld (h := ?_)
  refine on_ 5 (some 11) (h := fun K hK => ?_)
  refine gs_ Try.func20 #[.agg #[.slice A0 n0 c0, .slice A1 n1 c1, .slice A2 n2 c2, .int .i64 ra], .agg #[.slice B0 m0 d0, .slice B1 m1 d1, .slice B2 m2 d2, .int .i64 rd]] ?_
  with_reducible refine (HCA.out _ (HVA.out.below HB.out) (HVD.out.below HB.out)).mono ?_
  rintro en w3 ⟨rfl, hb⟩
  have HB := Lh (HB.out.trans (hb.mono HB.out.size))
  have HA := Lh ((hb.block _ (blk_lt HA.out)).trans HA.out)
  clear hb
  refine ⟨_, rfl, ?_⟩
  refine hK.out _ _ ⟨(HB.out.cell (p := ⟨ga, 0, none⟩) (la)).trans x0, (HB.out.cell (p := ⟨ga, 1, none⟩) (la)).trans x1, (HB.out.cell (p := ⟨ga, 2, none⟩) (la)).trans x2, (HB.out.cell (p := ⟨ga, 3, none⟩) (la)).trans x3, (HB.out.cell (p := ⟨gl, 0, none⟩) (ll)).trans q0, (HB.out.cell (p := ⟨b, o + i * 4, none⟩) (lb)).trans e0, (HB.out.cell (p := ⟨b, o + i * 4 + 1, none⟩) (lb)).trans e1, (HB.out.cell (p := ⟨b, o + i * 4 + 2, none⟩) (lb)).trans e2, (HB.out.cell (p := ⟨b, o + i * 4 + 3, none⟩) (lb)).trans e3⟩ (fun hHeld => ?_)
  clear hK K
  refine no_ (h := ?_)
  refine pu_ 6 12 (h := ?_)
  refine pu_ 7 13 (h := ?_)
  refine last_ (i := 8) (N := none) (MT 9 1) rfl rfl (by kernel_rfl) (by decide) (fun K hK => ?_)
  have sc0 : World.cell? _ ⟨(w.heap.size), 0, none⟩ = some (.int .i64 0) := (blk_cell HA.out 0).trans rfl
  have sf0 := blk_frozen HA.out 0
  have sc1 : World.cell? _ ⟨(w.heap.size), 1, none⟩ = some (.int .i64 0) := (blk_cell HA.out 1).trans rfl
  have sf1 := blk_frozen HA.out 1
  have sc2 : World.cell? _ ⟨(w.heap.size), 2, none⟩ = some (.int .i64 0) := (blk_cell HA.out 2).trans rfl
  have sf2 := blk_frozen HA.out 2
  have sc3 : World.cell? _ ⟨(w.heap.size), 3, none⟩ = some (.int .i64 0) := (blk_cell HA.out 3).trans rfl
  have sf3 := blk_frozen HA.out 3
  refine skip_ (w1 := ?_) (by rfl) rfl ?_ ?_
  rotate_left
  · go_simp
    rfl
  have HB := Lh (show Below (w.heap.size) _ _ from HB.out.mono (show w.heap.size ≤ w1.heap.size by omega))
  have HA := Lh (bs4 HA.out (.int .i64 Xx) (.int .i64 Xy) (.int .i64 Xz) (.int .i64 Xg))
  have HB := Lh (bb4 HB.out (Nat.le_refl _) (.int .i64 Xx) (.int .i64 Xy) (.int .i64 Xz) (.int .i64 Xg))
  clear sc0 sf0 sc1 sf1 sc2 sf2 sc3 sf3
  refine hK.out _ _ ?_
  clear hK K
  refine pu_ 9 5 (h := ?_)
  refine done_ (by kernel_rfl) ?_
  obtain ⟨w4, hwn⟩ : ∃ V, ((((w3.setCell ⟨(w.heap.size), 0, none⟩ (.int .i64 Xx)).setCell ⟨(w.heap.size), 1, none⟩ (.int .i64 Xy)).setCell ⟨(w.heap.size), 2, none⟩ (.int .i64 Xz)).setCell ⟨(w.heap.size), 3, none⟩ (.int .i64 Xg)) = V := ⟨_, rfl⟩
  rw [hwn] at HA HB ⊢
  clear hwn
  have WB := Lh (WB.out.trans HB.out)
  have t0 : w4.cell? ⟨w.heap.size, 0, none⟩ = some (.int .i64 Xx) := (blk_cell HA.out 0).trans rfl
  have t1 : w4.cell? ⟨w.heap.size, 1, none⟩ = some (.int .i64 Xy) := (blk_cell HA.out 1).trans rfl
  have t2 : w4.cell? ⟨w.heap.size, 2, none⟩ = some (.int .i64 Xz) := (blk_cell HA.out 2).trans rfl
  have t3 : w4.cell? ⟨w.heap.size, 3, none⟩ = some (.int .i64 Xg) := (blk_cell HA.out 3).trans rfl
  clear hHeld HA HB HVA HVD HCA
  go_wp2
  exact bodyPost_ret (v := .tuple #[.agg #[.int .i64 Xx, .int .i64 Xy, .int .i64 Xz, .int .i64 Xg], .bool Xo]) (by simp [results, Try.results86, go_sem, t0, t1, t2, t3]) rfl ⟨by rw [HGE.out], WB.out⟩
set_option maxHeartbeats 2000000 in
theorem nless_calls (Xx Xy Xz Xg Yx Yy Yz Yg : Int) (w : World) : Calls Try.prog 87 #[.agg #[.int .i64 Xx, .int .i64 Xy, .int .i64 Xz, .int .i64 Xg], .agg #[.int .i64 Yx, .int .i64 Yy, .int .i64 Yz, .int .i64 Yg]] w fun e w' => e = .returned (.bool (decide (Xg < Yg))) ∧ Below w.heap.size w w' := by
  have b2 := ((Below.refl _ w).alloc (Nat.le_refl _) (.cells #[.int .i64 Xx, .int .i64 Xy, .int .i64 Xz, .int .i64 Xg] 40)).alloc (by simp) (.cells #[.int .i64 Yx, .int .i64 Yy, .int .i64 Yz, .int .i64 Yg] 40)
  go_enter Try.func87, Try.ntmps87
  go_wp2
  go_ret
  exact ⟨rfl, b2⟩
def LeastN (R : Int × (P3 × Int)) (w : World) (en : Ending) (w' : World) : Prop := en = .returned (.tuple #[.int .i64 R.1, .agg #[.int .i64 R.2.1.x, .int .i64 R.2.1.y, .int .i64 R.2.1.z, .int .i64 R.2.2]]) ∧ Below w.heap.size w w'
set_option maxHeartbeats 8000000 in
set_option maxRecDepth 100000 in
theorem nleast_calls (n : Nat) (ask : Nat → (P3 × Int) × Bool) (ga gl : Nat) (w : World) (hn : n ≤ 140737488355328)
    (H : ∀ (W : World) (i : Nat), Below w.heap.size w W → i < n → Calls Try.prog 86 #[.int .i64 i, .pointer (some ⟨ga, 0, none⟩), .pointer (some ⟨gl, 0, none⟩)] W (NearPost (ask i) W)) :
    Calls Try.prog 85 #[.int .i64 n, .func (.func 86) #[] #[.pointer (some ⟨ga, 0, none⟩), .pointer (some ⟨gl, 0, none⟩)], .func (.func 87) #[] #[]] w (LeastN (leastF nearZ ask (fun x y => decide (x.2 < y.2)) n) w) := by
  have HH := Lh H
  have HST := Lh (fun i => show leastF nearZ ask (fun x y => decide (x.2 < y.2)) (i + 1) = if (ask i).2 = true ∧ ((leastF nearZ ask (fun x y => decide (x.2 < y.2)) i).1 < 0 ∨ decide ((ask i).1.2 < (leastF nearZ ask (fun x y => decide (x.2 < y.2)) i).2.2) = true) then ((i : Int), (ask i).1) else leastF nearZ ask (fun x y => decide (x.2 < y.2)) i from rfl)
  have H0 : Hid (leastF nearZ ask (fun x y => decide (x.2 < y.2)) 0 = (-1, nearZ)) := Lh rfl
  obtain ⟨L, hL⟩ : ∃ L : Nat → Int × (P3 × Int), leastF nearZ ask (fun x y => decide (x.2 < y.2)) = L := ⟨_, rfl⟩
  rw [hL] at HST H0 ⊢
  clear H hL
  have b2 := ((Below.refl _ w).alloc (Nat.le_refl _) (.cells #[.int .i64 0, .int .i64 0, .int .i64 0, .int .i64 0] 40)).alloc (by simp) (.cells #[.int .i64 0, .int .i64 0, .int .i64 0, .int .i64 0] 40)
  have g0 := (Below.heap_alloc _ (.cells #[.int .i64 0, .int .i64 0, .int .i64 0, .int .i64 0] 40) _ (by simp)).trans (heap_alloc_new w (.cells #[.int .i64 0, .int .i64 0, .int .i64 0, .int .i64 0] 40))
  have g1 := heap_alloc_new (w.alloc (.cells #[.int .i64 0, .int .i64 0, .int .i64 0, .int .i64 0] 40)) (.cells #[.int .i64 0, .int .i64 0, .int .i64 0, .int .i64 0] 40)
  simp only [World.size_alloc] at g1
  go_enter Try.func85, Try.ntmps85
  go_wp2_with fail
  obtain ⟨w1, hw1⟩ : ∃ V, (w.alloc (.cells #[.int .i64 0, .int .i64 0, .int .i64 0, .int .i64 0] 40)).alloc (.cells #[.int .i64 0, .int .i64 0, .int .i64 0, .int .i64 0] 40) = V := ⟨_, rfl⟩
  rw [hw1] at b2 g0 g1 ⊢
  have W := Lh b2
  have Z0 := Lh g0
  have Z1 := Lh g1
  clear b2 g0 g1 hw1
  go_loopw [8, 14] (fun v8 v14 wr => ∃ i : Nat, i ≤ n ∧ v14 = .int .i64 i ∧ v8 = .int .i64 (L i).1 ∧ Hid (wr.heap[w.heap.size]? = some (.cells #[.int .i64 0, .int .i64 0, .int .i64 0, .int .i64 0] 40 (0, 0))) ∧ Hid (wr.heap[w.heap.size + 1]? = some (.cells #[.int .i64 (L i).2.1.x, .int .i64 (L i).2.1.y, .int .i64 (L i).2.1.z, .int .i64 (L i).2.2] 40 (0, 0))) ∧ Hid (Below w.heap.size w wr)) (fun _ i _ => n - (intOf i).toNat)
  case atStart => exact ⟨0, by omega, rfl, by rw [H0.out], Z0, by rw [H0.out]; exact Z1, W⟩
  case round =>
    clear Z0 Z1 W
    obtain ⟨i, hi, rfl, rfl, Z0, Z1, W⟩ := hrel
    obtain ⟨wq, hwq⟩ : ∃ x : World, x = wr := ⟨_, rfl⟩
    subst hwq
    by_cases hlt : i < n
    · have HI := Lh (HH.out wq i W.out hlt)
      have HS1 := Lh (HST.out i)
      obtain ⟨R, hR⟩ : ∃ R, ask i = R := ⟨_, rfl⟩
      rw [hR] at HI HS1
      obtain ⟨m, hm⟩ : ∃ m, L i = m := ⟨_, rfl⟩
      rw [hm] at HS1 Z1 ⊢
      obtain ⟨at_, ⟨Bx, By, Bz⟩, Bg⟩ := m
      obtain ⟨⟨⟨Xx, Xy, Xz⟩, Xg⟩, is⟩ := R
      have Z1 := Lh (show wq.heap[w.heap.size + 1]? = some (.cells #[.int .i64 Bx, .int .i64 By, .int .i64 Bz, .int .i64 Bg] 40 (0, 0)) from Z1.out)
      have HS1 := Lh (show L (i + 1) = if is = true ∧ (at_ < 0 ∨ decide (Xg < Bg) = true) then ((i : Int), ((⟨Xx, Xy, Xz⟩, Xg) : P3 × Int)) else (at_, ((⟨Bx, By, Bz⟩, Bg) : P3 × Int)) from HS1.out)
      simp only
      have ti : (i : Int) < (n : Int) := by omega
      clear hR hm
      go_wp2_with fail
      with_reducible refine HI.out.mono ?_
      rintro en w2 ⟨rfl, hb⟩
      have W := Lh (bthen W.out hb)
      have Z0 := Lh ((hb.block _ (blk_lt Z0.out)).trans Z0.out)
      have Z1 := Lh ((hb.block _ (blk_lt Z1.out)).trans Z1.out)
      clear hb HI
      go_upto_region 7 with fail
      have bz := (Below.refl _ w2).alloc (Nat.le_refl _) (.cells #[.int .i64 Xx, .int .i64 Xy, .int .i64 Xz, .int .i64 Xg] 40)
      have YC := Lh (heap_alloc_new w2 (.cells #[.int .i64 Xx, .int .i64 Xy, .int .i64 Xz, .int .i64 Xg] 40))
      have W := Lh (bthen W.out bz)
      have Z0 := Lh ((bz.block _ (blk_lt Z0.out)).trans Z0.out)
      have ly := Lh (blk_lt Z1.out)
      have Z1 := Lh ((bz.block _ (blk_lt Z1.out)).trans Z1.out)
      obtain ⟨w3, hw3⟩ : ∃ V, w2.alloc (.cells #[.int .i64 Xx, .int .i64 Xy, .int .i64 Xz, .int .i64 Xg] 40) = V := ⟨_, rfl⟩
      obtain ⟨YB, hYB⟩ : ∃ n, w2.heap.size = n := ⟨_, rfl⟩
      (try simp only)
      rw [hw3] at YC W Z0 Z1 ⊢
      rw [hYB] at YC ly ⊢
      clear bz hw3 hYB
      have NE : Hid (YB ≠ w.heap.size + 1 ∧ w.heap.size ≠ w.heap.size + 1) := Lh (by have := ly.out; omega)
      cases is with
      | false =>
        have hS : Hid (L (i + 1) = (at_, ((⟨Bx, By, Bz⟩, Bg) : P3 × Int))) := Lh (by rw [HS1.out, if_neg (by simp)])
        clear HS1 YC
        go_wp2
        go_roundw
        case rel => exact ⟨i + 1, by omega, by go_num, by rw [hS.out], Z0, by rw [hS.out]; exact Z1, W⟩
        case measure => simp [intOf]; omega
      | true =>
        by_cases ta : at_ < 0
        · have ea : decide (at_ < 0) = true := decide_eq_true ta
          have hS : Hid (L (i + 1) = ((i : Int), ((⟨Xx, Xy, Xz⟩, Xg) : P3 × Int))) := Lh (by rw [HS1.out, if_pos (by simp [ta])])
          clear HS1 ta
          go_wp2_with fail
          have HB := Lh ((Below.refl w3.heap.size w3).drew)
          have FF := Lh (show ∀ V, Hid (Below w3.heap.size w3 V) → V.cell? ⟨YB, 0, none⟩ = some (.int .i64 Xx) ∧ V.cell? ⟨YB, 1, none⟩ = some (.int .i64 Xy) ∧ V.cell? ⟨YB, 2, none⟩ = some (.int .i64 Xz) ∧ V.cell? ⟨YB, 3, none⟩ = some (.int .i64 Xg) from fun V HB => have e := (HB.out.block _ (blk_lt YC.out)).trans YC.out; ⟨(blk_cell e 0).trans rfl, (blk_cell e 1).trans rfl, (blk_cell e 2).trans rfl, (blk_cell e 3).trans rfl⟩)
          refine start_ (n := 4) (S := fun w' => w'.cell? ⟨YB, 0, none⟩ = some (.int .i64 Xx) ∧ w'.cell? ⟨YB, 1, none⟩ = some (.int .i64 Xy) ∧ w'.cell? ⟨YB, 2, none⟩ = some (.int .i64 Xz) ∧ w'.cell? ⟨YB, 3, none⟩ = some (.int .i64 Xg)) (ds := [3]) (MT 0 4) (by kernel_rfl) rfl rfl (FF.out _ HB) (fun hHeld => ?_)
          obtain ⟨wd, hwd⟩ : ∃ x, w3.drew = x := ⟨_, rfl⟩
          rw [hwd] at HB hHeld ⊢
          clear hwd
          refine pu_ 0 34 (h := ?_)
          refine pu_ 2 8 (h := ?_)
          refine ta_ 1 35 hHeld (h := ?_)
          refine last_ (i := 3) (N := none) (MT 4 0) rfl rfl (by kernel_rfl) (by decide) (fun K hK => ?_)
          have R4 := (HB.out.block _ (blk_lt Z1.out)).trans Z1.out
          have sc0 : World.cell? _ ⟨w.heap.size + 1, 0, none⟩ = some (.int .i64 Bx) := (blk_cell R4 0).trans rfl
          have sf0 : World.frozen? _ ⟨w.heap.size + 1, 0, none⟩ = false := blk_frozen R4 0
          have sc1 : World.cell? _ ⟨w.heap.size + 1, 1, none⟩ = some (.int .i64 By) := (blk_cell R4 1).trans rfl
          have sf1 : World.frozen? _ ⟨w.heap.size + 1, 1, none⟩ = false := blk_frozen R4 1
          have sc2 : World.cell? _ ⟨w.heap.size + 1, 2, none⟩ = some (.int .i64 Bz) := (blk_cell R4 2).trans rfl
          have sf2 : World.frozen? _ ⟨w.heap.size + 1, 2, none⟩ = false := blk_frozen R4 2
          have sc3 : World.cell? _ ⟨w.heap.size + 1, 3, none⟩ = some (.int .i64 Bg) := (blk_cell R4 3).trans rfl
          have sf3 : World.frozen? _ ⟨w.heap.size + 1, 3, none⟩ = false := blk_frozen R4 3
          refine skip_ (w1 := ?_) (by rfl) rfl ?_ ?_
          rotate_left
          · go_simp
            rfl
          refine hK.out _ _ ?_
          clear hK K
          refine done_ (by kernel_rfl) ?_
          have DST := bs4 R4 (.int .i64 Xx) (.int .i64 Xy) (.int .i64 Xz) (.int .i64 Xg)
          have HBX := bb4 (HB.out.mono (show w.heap.size ≤ w3.heap.size from W.out.size)) (show w.heap.size ≤ w.heap.size + 1 by omega) (.int .i64 Xx) (.int .i64 Xy) (.int .i64 Xz) (.int .i64 Xg)
          have Z0_ := (bo4 (NE.out.2) (.int .i64 Xx) (.int .i64 Xy) (.int .i64 Xz) (.int .i64 Xg)).trans ((HB.out.block _ (blk_lt Z0.out)).trans Z0.out)
          obtain ⟨w9, hV⟩ : ∃ V, ((((wd.setCell ⟨w.heap.size + 1, 0, none⟩ (.int .i64 Xx)).setCell ⟨w.heap.size + 1, 1, none⟩ (.int .i64 Xy)).setCell ⟨w.heap.size + 1, 2, none⟩ (.int .i64 Xz)).setCell ⟨w.heap.size + 1, 3, none⟩ (.int .i64 Xg)) = V := ⟨_, rfl⟩
          rw [hV] at DST HBX Z0_
          (try rw [hV])
          have hVV := Lh hV
          have DST := Lh DST
          have HBX := Lh HBX
          have Z0 := Lh Z0_
          clear hV hHeld HB FF R4 sc0 sf0 sc1 sf1 sc2 sf2 sc3 sf3 Z0_
          have W := Lh (W.out.trans HBX.out)
          have Z1 := DST
          clear DST HBX YC
          go_wp2
          go_roundw
          case rel => exact ⟨i + 1, by omega, by go_num, by rw [hS.out], Z0, by rw [hS.out]; exact Z1, W⟩
          case measure => simp [intOf]; omega
        · have ea : decide (at_ < 0) = false := decide_eq_false ta
          have HLE := Lh (fun (W : World) => nless_calls Xx Xy Xz Xg Bx By Bz Bg W)
          have u0 : w3.cell? ⟨YB, 0, none⟩ = some (.int .i64 Xx) := (blk_cell YC.out 0).trans rfl
          have u1 : w3.cell? ⟨YB, 1, none⟩ = some (.int .i64 Xy) := (blk_cell YC.out 1).trans rfl
          have u2 : w3.cell? ⟨YB, 2, none⟩ = some (.int .i64 Xz) := (blk_cell YC.out 2).trans rfl
          have u3 : w3.cell? ⟨YB, 3, none⟩ = some (.int .i64 Xg) := (blk_cell YC.out 3).trans rfl
          have ul : YB < w3.heap.size := blk_lt YC.out
          have v0 : w3.cell? ⟨w.heap.size + 1, 0, none⟩ = some (.int .i64 Bx) := (blk_cell Z1.out 0).trans rfl
          have v1 : w3.cell? ⟨w.heap.size + 1, 1, none⟩ = some (.int .i64 By) := (blk_cell Z1.out 1).trans rfl
          have v2 : w3.cell? ⟨w.heap.size + 1, 2, none⟩ = some (.int .i64 Bz) := (blk_cell Z1.out 2).trans rfl
          have v3 : w3.cell? ⟨w.heap.size + 1, 3, none⟩ = some (.int .i64 Bg) := (blk_cell Z1.out 3).trans rfl
          have vl : w.heap.size + 1 < w3.heap.size := blk_lt Z1.out
          go_wp2_with fail
          with_reducible refine (HLE.out _).mono ?_
          rintro en w4 ⟨rfl, hb⟩
          have W := Lh (bthen W.out hb)
          have Z0 := Lh ((hb.block _ (blk_lt Z0.out)).trans Z0.out)
          have Z1 := Lh ((hb.block _ (blk_lt Z1.out)).trans Z1.out)
          have YC := Lh ((hb.block _ (blk_lt YC.out)).trans YC.out)
          clear hb HLE u0 u1 u2 u3 ul v0 v1 v2 v3 vl
          by_cases tp : Xg < Bg
          · have ep : decide (Xg < Bg) = true := decide_eq_true tp
            have hS : Hid (L (i + 1) = ((i : Int), ((⟨Xx, Xy, Xz⟩, Xg) : P3 × Int))) := Lh (by rw [HS1.out, if_pos (by simp [ep])])
            clear HS1 ta tp
            rw [ep]
            go_wp2_with fail
            have HB := Lh ((Below.refl w4.heap.size w4).drew)
            have FF := Lh (show ∀ V, Hid (Below w4.heap.size w4 V) → V.cell? ⟨YB, 0, none⟩ = some (.int .i64 Xx) ∧ V.cell? ⟨YB, 1, none⟩ = some (.int .i64 Xy) ∧ V.cell? ⟨YB, 2, none⟩ = some (.int .i64 Xz) ∧ V.cell? ⟨YB, 3, none⟩ = some (.int .i64 Xg) from fun V HB => have e := (HB.out.block _ (blk_lt YC.out)).trans YC.out; ⟨(blk_cell e 0).trans rfl, (blk_cell e 1).trans rfl, (blk_cell e 2).trans rfl, (blk_cell e 3).trans rfl⟩)
            refine start_ (n := 4) (S := fun w' => w'.cell? ⟨YB, 0, none⟩ = some (.int .i64 Xx) ∧ w'.cell? ⟨YB, 1, none⟩ = some (.int .i64 Xy) ∧ w'.cell? ⟨YB, 2, none⟩ = some (.int .i64 Xz) ∧ w'.cell? ⟨YB, 3, none⟩ = some (.int .i64 Xg)) (ds := [3]) (MT 0 4) (by kernel_rfl) rfl rfl (FF.out _ HB) (fun hHeld => ?_)
            obtain ⟨wd, hwd⟩ : ∃ x, w4.drew = x := ⟨_, rfl⟩
            rw [hwd] at HB hHeld ⊢
            clear hwd
            refine pu_ 0 34 (h := ?_)
            refine pu_ 2 8 (h := ?_)
            refine ta_ 1 35 hHeld (h := ?_)
            refine last_ (i := 3) (N := none) (MT 4 0) rfl rfl (by kernel_rfl) (by decide) (fun K hK => ?_)
            have R4 := (HB.out.block _ (blk_lt Z1.out)).trans Z1.out
            have sc0 : World.cell? _ ⟨w.heap.size + 1, 0, none⟩ = some (.int .i64 Bx) := (blk_cell R4 0).trans rfl
            have sf0 : World.frozen? _ ⟨w.heap.size + 1, 0, none⟩ = false := blk_frozen R4 0
            have sc1 : World.cell? _ ⟨w.heap.size + 1, 1, none⟩ = some (.int .i64 By) := (blk_cell R4 1).trans rfl
            have sf1 : World.frozen? _ ⟨w.heap.size + 1, 1, none⟩ = false := blk_frozen R4 1
            have sc2 : World.cell? _ ⟨w.heap.size + 1, 2, none⟩ = some (.int .i64 Bz) := (blk_cell R4 2).trans rfl
            have sf2 : World.frozen? _ ⟨w.heap.size + 1, 2, none⟩ = false := blk_frozen R4 2
            have sc3 : World.cell? _ ⟨w.heap.size + 1, 3, none⟩ = some (.int .i64 Bg) := (blk_cell R4 3).trans rfl
            have sf3 : World.frozen? _ ⟨w.heap.size + 1, 3, none⟩ = false := blk_frozen R4 3
            refine skip_ (w1 := ?_) (by rfl) rfl ?_ ?_
            rotate_left
            · go_simp
              rfl
            refine hK.out _ _ ?_
            clear hK K
            refine done_ (by kernel_rfl) ?_
            have DST := bs4 R4 (.int .i64 Xx) (.int .i64 Xy) (.int .i64 Xz) (.int .i64 Xg)
            have HBX := bb4 (HB.out.mono (show w.heap.size ≤ w4.heap.size from W.out.size)) (show w.heap.size ≤ w.heap.size + 1 by omega) (.int .i64 Xx) (.int .i64 Xy) (.int .i64 Xz) (.int .i64 Xg)
            have Z0_ := (bo4 (NE.out.2) (.int .i64 Xx) (.int .i64 Xy) (.int .i64 Xz) (.int .i64 Xg)).trans ((HB.out.block _ (blk_lt Z0.out)).trans Z0.out)
            obtain ⟨w9, hV⟩ : ∃ V, ((((wd.setCell ⟨w.heap.size + 1, 0, none⟩ (.int .i64 Xx)).setCell ⟨w.heap.size + 1, 1, none⟩ (.int .i64 Xy)).setCell ⟨w.heap.size + 1, 2, none⟩ (.int .i64 Xz)).setCell ⟨w.heap.size + 1, 3, none⟩ (.int .i64 Xg)) = V := ⟨_, rfl⟩
            rw [hV] at DST HBX Z0_
            (try rw [hV])
            have hVV := Lh hV
            have DST := Lh DST
            have HBX := Lh HBX
            have Z0 := Lh Z0_
            clear hV hHeld HB FF R4 sc0 sf0 sc1 sf1 sc2 sf2 sc3 sf3 Z0_
            have W := Lh (W.out.trans HBX.out)
            have Z1 := DST
            clear DST HBX YC
            go_wp2
            go_roundw
            case rel => exact ⟨i + 1, by omega, by go_num, by rw [hS.out], Z0, by rw [hS.out]; exact Z1, W⟩
            case measure => simp [intOf]; omega
          · have ep : decide (Xg < Bg) = false := decide_eq_false tp
            have hS : Hid (L (i + 1) = (at_, ((⟨Bx, By, Bz⟩, Bg) : P3 × Int))) := Lh (by
              rw [HS1.out, if_neg]
              rintro ⟨_, h | h⟩
              · omega
              · exact tp (by simpa using h))
            clear HS1 ta tp YC
            rw [ep]
            go_wp2
            go_roundw
            case rel => exact ⟨i + 1, by omega, by go_num, by rw [hS.out], Z0, by rw [hS.out]; exact Z1, W⟩
            case measure => simp [intOf]; omega
    · obtain rfl : n = i := by omega
      obtain ⟨m, hm⟩ : ∃ m, L n = m := ⟨_, rfl⟩
      rw [hm] at Z1 ⊢
      have HM := Lh hm
      obtain ⟨at_, ⟨Bx, By, Bz⟩, Bg⟩ := m
      have Z1 := Lh (show wq.heap[w.heap.size + 1]? = some (.cells #[.int .i64 Bx, .int .i64 By, .int .i64 Bz, .int .i64 Bg] 40 (0, 0)) from Z1.out)
      clear hm
      go_wp2_with fail
      have HB := Lh ((Below.refl wq.heap.size wq).drew)
      have FF := Lh (show ∀ V, Hid (Below wq.heap.size wq V) → V.cell? ⟨w.heap.size + 1, 0, none⟩ = some (.int .i64 Bx) ∧ V.cell? ⟨w.heap.size + 1, 1, none⟩ = some (.int .i64 By) ∧ V.cell? ⟨w.heap.size + 1, 2, none⟩ = some (.int .i64 Bz) ∧ V.cell? ⟨w.heap.size + 1, 3, none⟩ = some (.int .i64 Bg) from fun V HB => have e := (HB.out.block _ (blk_lt Z1.out)).trans Z1.out; ⟨(blk_cell e 0).trans rfl, (blk_cell e 1).trans rfl, (blk_cell e 2).trans rfl, (blk_cell e 3).trans rfl⟩)
      refine start_ (n := 4) (S := fun w' => w'.cell? ⟨w.heap.size + 1, 0, none⟩ = some (.int .i64 Bx) ∧ w'.cell? ⟨w.heap.size + 1, 1, none⟩ = some (.int .i64 By) ∧ w'.cell? ⟨w.heap.size + 1, 2, none⟩ = some (.int .i64 Bz) ∧ w'.cell? ⟨w.heap.size + 1, 3, none⟩ = some (.int .i64 Bg)) (ds := [3]) (MT 0 4) (by kernel_rfl) rfl rfl (FF.out _ HB) (fun hHeld => ?_)
      obtain ⟨wd, hwd⟩ : ∃ x, wq.drew = x := ⟨_, rfl⟩
      rw [hwd] at HB hHeld ⊢
      clear hwd
      refine pu_ 0 37 (h := ?_)
      refine pu_ 2 6 (h := ?_)
      refine ta_ 1 38 hHeld (h := ?_)
      refine last_ (i := 3) (N := none) (MT 4 0) rfl rfl (by kernel_rfl) (by decide) (fun K hK => ?_)
      have R4 := (HB.out.block _ (blk_lt Z0.out)).trans Z0.out
      have sc0 : World.cell? _ ⟨w.heap.size, 0, none⟩ = some (.int .i64 0) := (blk_cell R4 0).trans rfl
      have sf0 : World.frozen? _ ⟨w.heap.size, 0, none⟩ = false := blk_frozen R4 0
      have sc1 : World.cell? _ ⟨w.heap.size, 1, none⟩ = some (.int .i64 0) := (blk_cell R4 1).trans rfl
      have sf1 : World.frozen? _ ⟨w.heap.size, 1, none⟩ = false := blk_frozen R4 1
      have sc2 : World.cell? _ ⟨w.heap.size, 2, none⟩ = some (.int .i64 0) := (blk_cell R4 2).trans rfl
      have sf2 : World.frozen? _ ⟨w.heap.size, 2, none⟩ = false := blk_frozen R4 2
      have sc3 : World.cell? _ ⟨w.heap.size, 3, none⟩ = some (.int .i64 0) := (blk_cell R4 3).trans rfl
      have sf3 : World.frozen? _ ⟨w.heap.size, 3, none⟩ = false := blk_frozen R4 3
      refine skip_ (w1 := ?_) (by rfl) rfl ?_ ?_
      rotate_left
      · go_simp
        rfl
      refine hK.out _ _ ?_
      clear hK K
      refine done_ (by kernel_rfl) ?_
      have DST := bs4 R4 (.int .i64 Bx) (.int .i64 By) (.int .i64 Bz) (.int .i64 Bg)
      have HBX := bb4 (HB.out.mono (show w.heap.size ≤ wq.heap.size from W.out.size)) (Nat.le_refl _) (.int .i64 Bx) (.int .i64 By) (.int .i64 Bz) (.int .i64 Bg)
      obtain ⟨w9, hV⟩ : ∃ V, ((((wd.setCell ⟨w.heap.size, 0, none⟩ (.int .i64 Bx)).setCell ⟨w.heap.size, 1, none⟩ (.int .i64 By)).setCell ⟨w.heap.size, 2, none⟩ (.int .i64 Bz)).setCell ⟨w.heap.size, 3, none⟩ (.int .i64 Bg)) = V := ⟨_, rfl⟩
      rw [hV] at DST HBX 
      (try rw [hV])
      have hVV := Lh hV
      have DST := Lh DST
      have HBX := Lh HBX
      clear hV hHeld HB FF R4 sc0 sf0 sc1 sf1 sc2 sf2 sc3 sf3 
      have t0 : w9.cell? ⟨w.heap.size, 0, none⟩ = some (.int .i64 Bx) := (blk_cell DST.out 0).trans rfl
      have t1 : w9.cell? ⟨w.heap.size, 1, none⟩ = some (.int .i64 By) := (blk_cell DST.out 1).trans rfl
      have t2 : w9.cell? ⟨w.heap.size, 2, none⟩ = some (.int .i64 Bz) := (blk_cell DST.out 2).trans rfl
      have t3 : w9.cell? ⟨w.heap.size, 3, none⟩ = some (.int .i64 Bg) := (blk_cell DST.out 3).trans rfl
      have W := Lh (W.out.trans HBX.out)
      clear DST HBX Z0 Z1
      go_wp2
      exact bodyPost_ret (v := .tuple #[.int .i64 at_, .agg #[.int .i64 Bx, .int .i64 By, .int .i64 Bz, .int .i64 Bg]]) (by simp [results, Try.results85, go_sem, t0, t1, t2, t3]) rfl ⟨by rw [HM.out], W.out⟩
end Go.Proofs.Ytckdhahceelckaa.G
