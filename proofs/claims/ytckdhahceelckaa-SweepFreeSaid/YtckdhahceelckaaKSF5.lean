/- What the laws of this claim lean on: contracts of the functions that they reach, and plain lemmas; no condition of its own (part 5 of 6; the texts XR2, XG9, XR10, XV1, XV2, XV3, XM1, XG10, XG15, XM2, XV4, XV5, XR6, XR7, XR14, XR15, XV6, XM4, XM5, XG8, XG17, XV7, XG11, XG12, XG13, XG14, XG16, XV8, XV9, XV10, XV11). -/
import Derived.Test.YtckdhahceelckaaKSF4
import Derived.Laws.IdiomCopy
import Derived.Maps.AppendAt
namespace Go.Proofs.Ytckdhahceelckaa.G
open Go.RowKit Go.Proofs.YtckdhahceelckaaW.PrintWords Go.Proofs.YtckdhahceelckaaW.PrintLast Go.Proofs.YtckdhahceelckaaW.PrintMore
attribute [local go_sem] max2_mx min2_mn max_two min_two max_three min_three max_four min_four
attribute [local go_sem high] eqA23
set_option linter.unusedVariables false
set_option linter.unusedSimpArgs false
structure BsInv (s low high : Nat) : Prop where
  a : low * low ≤ s
  b : s < high * high
  c : low < high
  d : high ≤ 67108864
theorem BsInv.done {s low high : Nat} (h : BsInv s low high) (h1 : high ≤ low + 1) : isq s = low := by
  have e : high = low + 1 := by have := h.c; omega
  have := h.b
  rw [e] at this
  exact (isq_unique s low h.a this).symm
set_option maxHeartbeats 2000000 in
theorem rsizes_calls (p : P3) (w : World) :
    Calls Try.prog 27 #[aP p] w fun e w' => e = .returned (.tuple #[.int .i64 (sz3 p).1, .int .i64 (sz3 p).2]) ∧ Below w.heap.size w w' := by
  obtain ⟨x, y, z⟩ := p
  have hff := allIn_far 16777216 (by decide) (by decide) [⟨x, y, z⟩]
  cases hf : far3 16777216 ⟨x, y, z⟩ with
  | true =>
    have hs : sz3 ⟨x, y, z⟩ = (0, 0) := by unfold sz3; rw [hf]; rfl
    rw [hs]
    have hi : decide (in3 16777216 ⟨x, y, z⟩) = false := by
      apply decide_eq_false; intro h; rw [(far3_iff _ _ (by decide) (by decide)).2 h] at hf; cases hf
    have HI := Lh (fun W => rin_calls ⟨x, y, z⟩ 16777216 false hi (by decide) (by decide) W)
    clear hs hf hi hff
    go_enter Try.func27, Try.ntmps27
    go_wp2_with fail
    refine (HI.out _).mono ?_
    rintro e w1 ⟨rfl, hb⟩
    go_wp2
    go_ret2
    exact ⟨rfl, ((Below.refl _ w).alloc (Nat.le_refl _) _).trans (hb.mono (by simp))⟩
  | false =>
    have hin := (far3_iff _ _ (by decide) (by decide)).1 hf
    have hd := dot3_eq ⟨x, y, z⟩ ⟨x, y, z⟩ 16777216 16777216 hin hin (by decide)
    have hd1 := dotI_bd ⟨x, y, z⟩ ⟨x, y, z⟩ 16777216 16777216 hin hin
    have hd2 := dotI_self ⟨x, y, z⟩
    have hs : sz3 ⟨x, y, z⟩ = (fl3 ⟨x, y, z⟩, ce3 ⟨x, y, z⟩) := by unfold sz3; rw [hf]; rfl
    rw [hs]
    clear hs
    unfold ce3 fl3
    obtain ⟨s, hs⟩ : ∃ s : Nat, dotI ⟨x, y, z⟩ ⟨x, y, z⟩ = s := ⟨_, (Int.toNat_of_nonneg hd2).symm⟩
    rw [hs] at hd hd1 hd2 ⊢
    rw [Int.toNat_natCast]
    have hsb : s ≤ 844424930131968 := by omega
    have HD := Lh hd
    have HI := Lh (fun W => rin_calls ⟨x, y, z⟩ 16777216 true (decide_eq_true hin) (by decide) (by decide) W)
    clear hd hd1 hd2 hs hin hf hff
    obtain ⟨U, hU⟩ : ∃ U : Int, (if (isq s : Int) * (isq s : Int) < (s : Int) then (isq s : Int) + 1 else (isq s : Int)) = U := ⟨_, rfl⟩
    rw [hU]
    have HU := Lh hU
    clear hU
    go_enter Try.func27, Try.ntmps27
    go_wp2_with fail
    refine (HI.out _).mono ?_
    rintro e w1 ⟨rfl, hb⟩
    have z1 := (hb.block _ (show w.heap.size < (w.alloc (.cells #[.int .i64 x, .int .i64 y, .int .i64 z] 23)).heap.size by simp)).trans (heap_alloc_new w (.cells #[.int .i64 x, .int .i64 y, .int .i64 z] 23))
    have x0 : w1.cell? ⟨w.heap.size, 0, none⟩ = some (.int .i64 x) := (blk_cell z1 0).trans rfl
    have x1 : w1.cell? ⟨w.heap.size, 1, none⟩ = some (.int .i64 y) := (blk_cell z1 1).trans rfl
    have x2 : w1.cell? ⟨w.heap.size, 2, none⟩ = some (.int .i64 z) := (blk_cell z1 2).trans rfl
    have hB := Lh (((Below.refl _ w).alloc (Nat.le_refl _) _).trans (hb.mono (by simp)))
    clear hb z1
    go_wp2_with fail
    refine (rdot_calls _ _ _ _ _ _ _).mono ?_
    rintro e w2 ⟨rfl, hb⟩
    rw [HD.out]
    have hB := bthen hB.out hb
    clear hb x0 x1 x2 HD HI
    go_wp2
    go_loopw [6, 7, 8] (fun v6 v7 v8 wr => ∃ (low high : Nat), v6 = .int .i64 low ∧ v7 = .int .i64 high ∧ Hid (BsInv s low high) ∧ wr = w2) (fun a b _ _ => (intOf b).toNat - (intOf a).toNat)
    case atStart => exact ⟨0, 67108864, rfl, rfl, Lh ⟨by omega, by omega, by decide, by decide⟩, rfl⟩
    case round =>
      obtain ⟨low, high, rfl, rfl, hi, rfl⟩ := hrel
      have hc := hi.out.c
      have hd := hi.out.d
      by_cases hg : high ≤ low + 1
      · have hdone := Lh (hi.out.done hg)
        have ha := hi.out.a
        have hp : (low : Int) * low = (low * low : Nat) := by simp
        obtain ⟨m, hm⟩ : ∃ m : Nat, low * low = m := ⟨_, rfl⟩
        rw [hm] at hp ha
        have t0 : decide (1 < (high : Int) - (low : Int)) = false := decide_eq_false (by omega)
        rcases Nat.lt_or_ge m s with hlt | hge
        · have t1 : (((m : Nat) : Int) == ((s : Nat) : Int)) = false := by simp; omega
          clear hm hg ha
          go_wp2
          go_ret2
          refine ⟨ret_two (by rw [hdone.out]) ?_, hB⟩
          rw [← HU.out, hdone.out, hp, if_pos (by omega)]
        · have t1 : (((m : Nat) : Int) == ((s : Nat) : Int)) = true := by simp; omega
          clear hm hg
          go_wp2
          go_ret2
          refine ⟨ret_two (by rw [hdone.out]) ?_, hB⟩
          rw [← HU.out, hdone.out, hp, if_neg (by omega)]
      · have t0 : decide (1 < (high : Int) - (low : Int)) = true := decide_eq_true (by omega)
        obtain ⟨t, ht⟩ : ∃ t : Nat, (low + high) / 2 = t := ⟨_, rfl⟩
        have htb : t ≤ 67108864 := by omega
        have hq : ((low : Int) + (high : Int)).tdiv 2 = (t : Int) := by
          rw [Int.tdiv_eq_ediv_of_nonneg (by omega)]; omega
        have hq2 : ((low : Int) + (high : Int)) / 2 = (t : Int) := by omega
        have htt : t * t ≤ 67108864 * 67108864 := Nat.mul_le_mul htb htb
        obtain ⟨m, hm⟩ : ∃ m : Nat, t * t = m := ⟨_, rfl⟩
        have hp : (t : Int) * t = (m : Int) := by rw [← hm]; simp
        rw [hm] at htt
        have h3 : m ≤ s → BsInv s t high := fun h => ⟨by rw [hm]; exact h, hi.out.b, by omega, hd⟩
        have h4 : s < m → BsInv s low t := fun h => ⟨hi.out.a, by rw [hm]; exact h, by omega, htb⟩
        have H3 := Lh h3
        have H4 := Lh h4
        have htl : low < t := by omega
        have hth : t < high := by omega
        clear h3 h4 ht hm hg
        rcases Nat.lt_or_ge s m with hlt | hge
        · go_wp2
          go_roundw
          case rel => exact ⟨low, t, by go_num, by go_num, Lh (H4.out hlt), trivial⟩
          case measure => simp [intOf]; omega
        · go_wp2
          go_roundw
          case rel => exact ⟨t, high, by go_num, by go_num, Lh (H3.out hge), trivial⟩
          case measure => simp [intOf]; omega
end Go.Proofs.Ytckdhahceelckaa.G
namespace Go.Proofs.Ytckdhahceelckaa.G
open Go.RowKit Go.Proofs.YtckdhahceelckaaW.PrintWords
set_option linter.unusedVariables false
theorem apF_inv (a0 : P3) (ar : List P3) (ra : Int) (b0 : P3) (br : List P3) (rb : Int) (l : List P3) :
    ((apF a0 ar ra b0 br rb l).2 = true ∧ (apF a0 ar ra b0 br rb l).1 = (⟨0, 0, 1048576⟩, -ra - rb) ∧ ∀ x ∈ l, long3 x = ⟨0, 0, 0⟩) ∨
    ((apF a0 ar ra b0 br rb l).2 = false ∧ ∃ x ∈ l, long3 x ≠ ⟨0, 0, 0⟩ ∧ ((apF a0 ar ra b0 br rb l).1 = (long3 x, (gapsF (long3 x) a0 ar ra b0 br rb).1) ∨ (apF a0 ar ra b0 br rb l).1 = (minus3 ⟨0, 0, 0⟩ (long3 x), (gapsF (long3 x) a0 ar ra b0 br rb).2))) := by
  have gen : ∀ (k : Nat), k ≤ l.length → ((apF a0 ar ra b0 br rb (l.take k)).2 = true ∧ (apF a0 ar ra b0 br rb (l.take k)).1 = (⟨0, 0, 1048576⟩, -ra - rb) ∧ ∀ x ∈ l.take k, long3 x = ⟨0, 0, 0⟩) ∨
    ((apF a0 ar ra b0 br rb (l.take k)).2 = false ∧ ∃ x ∈ l.take k, long3 x ≠ ⟨0, 0, 0⟩ ∧ ((apF a0 ar ra b0 br rb (l.take k)).1 = (long3 x, (gapsF (long3 x) a0 ar ra b0 br rb).1) ∨ (apF a0 ar ra b0 br rb (l.take k)).1 = (minus3 ⟨0, 0, 0⟩ (long3 x), (gapsF (long3 x) a0 ar ra b0 br rb).2))) := by
    intro k
    induction k with
    | zero => intro _; left; exact ⟨rfl, rfl, by simp⟩
    | succ k ih =>
      intro hk
      have e : l.take (k + 1) = l.take k ++ [l[k]] := by rw [List.take_succ_eq_append_getElem (by omega)]
      rw [e, apF_snoc]
      have ih := ih (by omega)
      generalize apF a0 ar ra b0 br rb (l.take k) = s at ih
      unfold apStep
      by_cases h : long3 l[k] = ⟨0, 0, 0⟩
      · rw [if_pos h]
        rcases ih with ⟨h1, h2, h3⟩ | ⟨h1, x, hx, h2⟩
        · left
          refine ⟨h1, h2, fun x hx => ?_⟩
          rcases List.mem_append.1 hx with hx | hx
          · exact h3 x hx
          · simp at hx; rw [hx]; exact h
        · right; exact ⟨h1, x, List.mem_append_left _ hx, h2⟩
      · rw [if_neg h]
        right
        refine ⟨rfl, ?_⟩
        have hm : l[k] ∈ l.take k ++ [l[k]] := List.mem_append_right _ (List.mem_singleton.2 rfl)
        simp only
        by_cases g2 : (if s.2 = true ∨ s.1.2 < (gapsF (long3 l[k]) a0 ar ra b0 br rb).1 then (long3 l[k], (gapsF (long3 l[k]) a0 ar ra b0 br rb).1) else s.1).2 < (gapsF (long3 l[k]) a0 ar ra b0 br rb).2
        · rw [if_pos g2]; exact ⟨l[k], hm, h, .inr rfl⟩
        · rw [if_neg g2]
          by_cases g1 : s.2 = true ∨ s.1.2 < (gapsF (long3 l[k]) a0 ar ra b0 br rb).1
          · rw [if_pos g1]; exact ⟨l[k], hm, h, .inl rfl⟩
          · rw [if_neg g1]
            rcases ih with ⟨h1, _⟩ | ⟨h1, x, hx, h2⟩
            · exact absurd (.inl h1) g1
            · exact ⟨x, List.mem_append_left _ hx, h2⟩
  have := gen l.length (Nat.le_refl _)
  rwa [List.take_length] at this
theorem reach_bd {n p0 : P3} {r : List P3} (hn : in3 1048576 n) (h : ∀ p ∈ p0 :: r, in3 16777216 p) : -52776558133248 ≤ (reachF n p0 r).1 ∧ (reachF n p0 r).1 ≤ 52776558133248 ∧ -52776558133248 ≤ (reachF n p0 r).2 ∧ (reachF n p0 r).2 ≤ 52776558133248 := by
  have each : ∀ p, in3 16777216 p → -52776558133248 ≤ dot3 n p ∧ dot3 n p ≤ 52776558133248 := by
    intro p hp
    rw [dot3_eq n p 1048576 16777216 hn hp (by decide)]
    have := dotI_bd n p 1048576 16777216 hn hp
    omega
  exact reachF_bd n p0 r 52776558133248 (each p0 (h p0 (by simp))) fun p hp => each p (h p (by simp [hp]))
theorem far_in {n : Int} (h0 : 0 ≤ n) (h1 : n ≤ 9223372036854775807) {l : List P3} (h : l.any (far3 n) = false) : ∀ x ∈ l, in3 n x := by
  intro x hx
  rw [List.any_eq_false] at h
  have := h x hx
  exact (far3_iff n x h0 h1).1 (by simpa using this)
theorem MayP.pts {p a e : List P3} {r : Int} (m : MayP p a e r) : ∃ p0 pr, p = p0 :: pr ∧ ∀ x ∈ p0 :: pr, in3 16777216 x := by
  obtain ⟨p0, pr, rfl⟩ := List.exists_cons_of_ne_nil m.p0
  exact ⟨p0, pr, rfl, far_in (by decide) (by decide) m.pf⟩
end Go.Proofs.Ytckdhahceelckaa.G
namespace Go.Proofs.Ytckdhahceelckaa.G
open Go.RowKit Go.Proofs.YtckdhahceelckaaW.PrintWords Go.Proofs.YtckdhahceelckaaW.PrintLast Go.Proofs.YtckdhahceelckaaW.PrintMore
set_option linter.unusedVariables false
set_option linter.unusedSimpArgs false
section
variable {w : World} {ops : Array Oper} {rest : List Oper} {o : Oper} {a : Act} {Q : Exit → Act → World → Prop} {K : Act → World → Prop} {N : Option Tmp}
theorem run_append_pts (w : World) (base : Nat) (ty : TypeId) (v : Value) (l l2 : List P3) (A : Option Addr) (m c : Nat) (hown : OwnP w base v l) (hr : Rd w A l2) (hm : l2.length = m) (hsz : l.length + m ≤ 1000000) (hbase : base ≤ w.heap.size) :
    ∃ v' w', (Builtin.append_ #[24, 24] ty #[v, .slice A m c]).run Try.prog w = .ok v' w' ∧ OwnP w' base v' (l ++ l2) ∧ w.grownBy w' v.ownBlock ∧ (v'.ownBlock = v.ownBlock ∨ v'.ownBlock = some w.heap.size) := by
  obtain ⟨i0, hi, hz0, hz1, hz2⟩ := info_parts info23
  cases A with
  | none =>
    have h0 : l2 = [] := by
      cases l2 with
      | nil => rfl
      | cons p l2 => obtain ⟨b, o', e, _⟩ := hr 0 p rfl; cases e
    subst h0
    simp only [List.length_nil] at hm
    subst hm
    refine ⟨v, w, ?_, by rw [List.append_nil]; exact hown, World.grownBy.refl w _, .inl rfl⟩
    rcases hown.2 with ⟨rfl, hn⟩ | ⟨g, cap, cur, rfl, _, _, hnc, _⟩
    · simp [Builtin.append_, run_underlying Try.underlying24, sizeOf, typeInfo, hi, Builtin.lenOf, Builtin.firstCells]
    · simp [Builtin.append_, run_underlying Try.underlying24, sizeOf, typeInfo, hi, Builtin.lenOf, Builtin.firstCells, hnc, storeCells]
  | some ad =>
    have hnews : ∀ j u, (cells3 l2)[j]? = some u → w.cell? (ad.add j) = some u := by
      cases l2 with
      | nil => intro j u hj; simp [cells3] at hj
      | cons p l2 =>
        obtain ⟨b, o', e, _⟩ := hr 0 p rfl
        simp only [Option.some.injEq] at e
        subst e
        intro j u hj
        rw [add_at]
        exact hr.cells j u hj
    obtain ⟨v', w', h0, h1, h2, _, h4⟩ := Go.run_append_own_at (P := Try.prog) w base 24 ty 23 i0 _ 3 24 Try.underlying24 hi hz0 hz1 hz2 rfl (by omega) v l.length (cells3 l) hown ad m c (cells3 l2) (by rw [cells3_length, hm]) hnews (cells3_one l2) (by unfold maxLen; omega) (by omega) hbase
    refine ⟨v', w', h0, ?_, h2, h4⟩
    show w'.ownsRow base 23 3 v' (l ++ l2).length (cells3 (l ++ l2))
    rw [cells3_append, List.length_append, hm]
    exact h1
/-- append of points, where the new row lies told -/
theorem appL_ (base : Nat) (hgd : o.guard = none) (s x : Operand) (ho : o.op = .call { callee := .builtin .append, args := #[s, x], argTypes := #[24, 24] })
    (v : Value) (l l2 : List P3) (A : Option Addr) (m c : Nat) (hs : a.eval s = v) (hx : a.eval x = .slice A m c) (hown : OwnP w base v l) (hr : Rd w A l2) (hm : l2.length = m) (hsz : l.length + m ≤ 1000000) (hbase : base ≤ w.heap.size)
    (h : ∀ v' w', OwnP w' base v' (l ++ l2) → w.grownBy w' v.ownBlock → (v'.ownBlock = v.ownBlock ∨ v'.ownBlock = some w.heap.size) → wpList Try.prog ops Q rest (a.put o.dst v') w') : wpList Try.prog ops Q (o :: rest) a w := by
  obtain ⟨v', w', h0, h1, h2, h3⟩ := run_append_pts w base o.type v l l2 A m c hown hr hm hsz hbase
  exact Go.Lib.wpList_append_run w hgd s x 24 24 ho v (.slice A m c) hs hx v' w' h0 (h v' w' h1 h2 h3)
end
theorem OwnP.rdB2 {w : World} {base : Nat} {v : Value} {l : List P3} (h : OwnP w base v l) : ∃ A c, v = .slice A l.length c ∧ l.length ≤ c ∧ RdB w A l ∧ (∀ ad, A = some ad → base ≤ ad.block) := by
  obtain ⟨A, c, e, h1, h2, h3⟩ := OwnP.rd h
  refine ⟨A, c, e, h1, ⟨h2, fun ad ea => ?_⟩, h3⟩
  subst ea
  exact (World.ownsRow.lt h ad.block (by rw [e]; rfl)).2
/-- a list of the call's own grows; what lay there at its beginning, and what is kept, stays -/
structure CSt (w1 W : World) (v : Value) (l : List P3) (keep : List Nat) : Prop where
  own : OwnP W w1.heap.size v l
  below : Below w1.heap.size w1 W
  ne : ∀ k ∈ keep, v.ownBlock ≠ some k ∧ k < W.heap.size
theorem CSt.start (w1 : World) : CSt w1 w1 (.slice none 0 0) [] [] := ⟨OwnP.nil _ _, Below.refl _ _, by simp⟩
theorem CSt.grown {w1 W W' : World} {v : Value} {l : List P3} {keep : List Nat} (h : CSt w1 W v l keep) (hb : Below W.heap.size W W') : CSt w1 W' v l keep :=
  ⟨h.own.grown hb, bthen h.below hb, fun k hk => ⟨(h.ne k hk).1, Nat.lt_of_lt_of_le (h.ne k hk).2 hb.size⟩⟩
theorem CSt.app {w1 W W' : World} {v v' : Value} {l l' : List P3} {keep : List Nat} (h : CSt w1 W v l keep) (hv : OwnP W' w1.heap.size v' l') (hg : W.grownBy W' v.ownBlock) (hat : v'.ownBlock = v.ownBlock ∨ v'.ownBlock = some W.heap.size) : CSt w1 W' v' l' keep := by
  refine ⟨hv, h.below.grown hg h.below.size (fun k hk => h.own.base_ k hk), fun k hk => ?_⟩
  obtain ⟨h1, h2⟩ := h.ne k hk
  refine ⟨?_, Nat.lt_of_lt_of_le h2 hg.size⟩
  rcases hat with e | e
  · rw [e]; exact h1
  · rw [e]; intro e'; cases e'; omega
theorem CSt.blk {w1 W W' : World} {v : Value} {l : List P3} {keep : List Nat} (h : CSt w1 W v l keep) (hg : W.grownBy W' v.ownBlock) {k : Nat} (hk : k ∈ keep) {o : Obj} (ho : W.heap[k]? = some o) : W'.heap[k]? = some o :=
  (hg.block k (h.ne k hk).2 (fun e => (h.ne k hk).1 e.symm)).trans ho
theorem CSt.old {w1 W : World} {v : Value} {l : List P3} {keep : List Nat} (h : CSt w1 W v l keep) {k : Nat} {o : Obj} (ho : w1.heap[k]? = some o) : W.heap[k]? = some o := (h.below.block k (blk_lt ho)).trans ho
theorem CSt.len {w1 W : World} {v : Value} {l l' : List P3} {keep : List Nat} (h : CSt w1 W v l keep) (e : l = l') : CSt w1 W v l' keep := e ▸ h
theorem RdB.blk {w W : World} {A : Option Addr} {l : List P3} (h : RdB w A l) (hs : w.heap.size ≤ W.heap.size) (hk : ∀ ad, A = some ad → W.heap[ad.block]? = w.heap[ad.block]?) : RdB W A l := by
  refine ⟨fun i p hp => ?_, fun ad e => Nat.lt_of_lt_of_le (h.2 ad e) hs⟩
  obtain ⟨b, o, rfl, hlt, h1, h2, h3⟩ := h.1 i p hp
  have hb := hk _ rfl
  have q : ∀ k, W.cell? ⟨b, k, none⟩ = w.cell? ⟨b, k, none⟩ := fun k => World.cell?_of_block (a := ⟨b, k, none⟩) hb
  exact ⟨b, o, rfl, Nat.lt_of_lt_of_le hlt hs, (q _).trans h1, (q _).trans h2, (q _).trans h3⟩
/-- the block of a slice -/
def keepA (A : Option Addr) : List Nat := (A.map (·.block)).toList
theorem RdB.keep {w1 W W' : World} {v : Value} {l es : List P3} {keep : List Nat} {A : Option Addr} (h : RdB W A es) (S : CSt w1 W v l keep) (hs : ∀ k ∈ keepA A, k ∈ keep) (hg : W.grownBy W' v.ownBlock) : RdB W' A es :=
  h.blk hg.size fun ad e => by
    have hk := hs ad.block (by rw [e]; simp [keepA])
    exact hg.block ad.block (S.ne _ hk).2 (fun e' => (S.ne _ hk).1 e'.symm)
end Go.Proofs.Ytckdhahceelckaa.G
namespace Go.Proofs.Ytckdhahceelckaa.G
open Go.RowKit Go.Proofs.YtckdhahceelckaaW.PrintWords Go.Proofs.YtckdhahceelckaaW.PrintLast Go.Proofs.YtckdhahceelckaaW.PrintMore
attribute [local go_sem] max2_mx min2_mn max_two min_two max_three min_three max_four min_four
attribute [local go_sem high] eqA23
set_option linter.unusedVariables false
set_option linter.unusedSimpArgs false
/-- is it nought? -/
def isz (p : P3) : Bool := eqP p.x p.y p.z 0 0 0
set_option maxHeartbeats 1000000 in
theorem with1_calls (x y z : Int) (w : World) : Calls Try.prog 127 #[.agg #[.int .i64 x, .int .i64 y, .int .i64 z]] w fun e w' => e = .returned (.bool (isz ⟨x, y, z⟩)) ∧ Below w.heap.size w w' := by
  go_enter Try.func127, Try.ntmps127
  go_wp2
  go_ret
  exact ⟨rfl, (Below.refl _ w).alloc (Nat.le_refl _) _⟩
def idx0 (l : List P3) : Int := match l.findIdx? isz with | some k => k | none => -1
theorem idx0_some {l : List P3} {k : Nat} (h : l.findIdx? isz = some k) : idx0 l = k := by unfold idx0; rw [h]
theorem idx0_none {l : List P3} (h : l.findIdx? isz = none) : idx0 l = -1 := by unfold idx0; rw [h]
set_option maxHeartbeats 1000000 in
theorem index0_calls (l : List P3) (A : Option Addr) (c : Nat) (w : World) (hr : Rd w A l) (hc : l.length ≤ c) (hm : l.length < 9223372036854775807) :
    Calls Try.prog 122 #[.slice A l.length c, .func (.func 127) #[] #[]] w fun e w' => e = .returned (.int .i64 (idx0 l)) ∧ Below w.heap.size w w' := by
  have HR := Lh hr
  clear hr
  go_enter Try.func122, Try.ntmps122
  go_wp2
  go_loopw [5, 8] (fun v5 v8 wr => ∃ k : Nat, k ≤ l.length ∧ v8 = .int .i64 k ∧ Hid (∀ i, i < k → ∀ p, l[i]? = some p → isz p = false) ∧ Below w.heap.size w wr) (fun _ i _ => l.length - (intOf i).toNat)
  case atStart => exact ⟨0, Nat.zero_le _, rfl, fun i hi => absurd hi (by omega), Below.refl _ _⟩
  case round =>
    obtain ⟨k, hk, rfl, hno, hbr⟩ := hrel
    by_cases hlt : k < l.length
    · obtain ⟨b, o, rfl, hbl, h1, h2, h3⟩ := HR.out.get k hlt
      have e1 := (hbr.cell (p := ⟨b, o + k * 3, none⟩) hbl).trans h1
      have e2 := (hbr.cell (p := ⟨b, o + k * 3 + 1, none⟩) hbl).trans h2
      have e3 := (hbr.cell (p := ⟨b, o + k * 3 + 2, none⟩) hbl).trans h3
      clear h1 h2 h3
      obtain ⟨p, hp⟩ : ∃ p, l[k] = p := ⟨_, rfl⟩
      rw [hp] at e1 e2 e3
      have HP := Lh hp
      clear hp
      obtain ⟨px, py, pz⟩ := p
      dsimp only at e1 e2 e3
      cases hf : isz ⟨px, py, pz⟩ with
      | true =>
        go_wp2_with (go_at_call 127; refine (with1_calls _ _ _ _).mono ?_; rintro e w3 ⟨rfl, hb3⟩; rw [hf])
        go_ret
        refine ⟨ret_int ?_, bthen hbr hb3⟩
        have : l.findIdx? isz = some k := by
          rw [List.findIdx?_eq_some_iff_getElem]
          refine ⟨hlt, by rw [HP.out]; exact hf, fun j hj => ?_⟩
          rw [hno.out j hj _ (List.getElem?_eq_getElem (by omega))]; simp
        exact (idx0_some this).symm
      | false =>
        go_wp2_with (go_at_call 127; refine (with1_calls _ _ _ _).mono ?_; rintro e w3 ⟨rfl, hb3⟩; rw [hf])
        go_roundw
        case rel =>
          refine ⟨k + 1, by omega, by go_num, fun i hi p' hp' => ?_, bthen hbr hb3⟩
          by_cases e : i = k
          · subst e
            rw [List.getElem?_eq_getElem hlt, HP.out] at hp'
            cases hp'; exact hf
          · exact hno.out i (by omega) p' hp'
        case measure => simp [intOf]; omega
    · obtain rfl : k = l.length := by omega
      go_wp2
      go_ret
      refine ⟨ret_int ?_, hbr⟩
      have : l.findIdx? isz = none := by
        rw [List.findIdx?_eq_none_iff]
        intro p hp
        obtain ⟨i, hi, rfl⟩ := List.mem_iff_getElem.1 hp
        exact hno.out i hi _ (List.getElem?_eq_getElem hi)
      exact (idx0_none this).symm
end Go.Proofs.Ytckdhahceelckaa.G
namespace Go.Proofs.Ytckdhahceelckaa.G
open Go.RowKit Go.Proofs.YtckdhahceelckaaW.PrintWords Go.Proofs.YtckdhahceelckaaW.PrintLast Go.Proofs.YtckdhahceelckaaW.PrintMore
attribute [local go_sem] max2_mx min2_mn max_two min_two max_three min_three max_four min_four
attribute [local go_sem high] eqA23
set_option linter.unusedVariables false
set_option linter.unusedSimpArgs false
theorem scross_calls (x y z a b c : Int) (w : World) :
    Calls Try.prog 78 #[.agg #[.int .i64 x, .int .i64 y, .int .i64 z], .agg #[.int .i64 a, .int .i64 b, .int .i64 c]] w fun e w' => e = .returned (.agg #[.int .i64 (cross3 ⟨x, y, z⟩ ⟨a, b, c⟩).x, .int .i64 (cross3 ⟨x, y, z⟩ ⟨a, b, c⟩).y, .int .i64 (cross3 ⟨x, y, z⟩ ⟨a, b, c⟩).z]) ∧ Below w.heap.size w w' := by
  go_enter Try.func78, Try.ntmps78
  go_wp2
  exact bodyPost_ret (v := .agg #[.int .i64 (cross3 ⟨x, y, z⟩ ⟨a, b, c⟩).x, .int .i64 (cross3 ⟨x, y, z⟩ ⟨a, b, c⟩).y, .int .i64 (cross3 ⟨x, y, z⟩ ⟨a, b, c⟩).z]) (by simp [results, Try.results78, go_sem, cross3]) rfl ⟨rfl, (by repeat (first | exact Below.refl _ _ | refine Below.setCell ?_ (by simp <;> omega) _ | refine Below.alloc ?_ (by simp <;> omega) _ | refine Below.drew ?_))⟩
set_option maxHeartbeats 1000000 in
theorem clip_calls (A : Option Addr) (n c : Nat) (w : World) (hc : n ≤ c) (hm : n < 9223372036854775807) (ha : A = none → n = 0) : Calls Try.prog 128 #[.slice A n c] w fun e w' => e = .returned (.slice A n n) ∧ w' = w := by
  go_enter Try.func128, Try.ntmps128
  go_wp2
  go_ret
  exact ⟨rfl, rfl⟩
end Go.Proofs.Ytckdhahceelckaa.G
namespace Go.Proofs.Ytckdhahceelckaa.G
open Go.RowKit Go.Proofs.YtckdhahceelckaaW.PrintWords Go.Proofs.YtckdhahceelckaaW.PrintLast Go.Proofs.YtckdhahceelckaaW.PrintMore
set_option linter.unusedVariables false
set_option linter.unusedSimpArgs false
theorem cells3_cons (p : P3) (l : List P3) : cells3 (p :: l) = .int .i64 p.x :: .int .i64 p.y :: .int .i64 p.z :: cells3 l := by
  unfold cells3; simp
theorem cells3_set (l : List P3) (i : Nat) (h : i < l.length) (p : P3) : (((cells3 l).set (i * 3) (.int .i64 p.x)).set (i * 3 + 1) (.int .i64 p.y)).set (i * 3 + 2) (.int .i64 p.z) = cells3 (l.set i p) := by
  induction l generalizing i with
  | nil => simp at h
  | cons q l ih =>
    cases i with
    | zero => rw [List.set_cons_zero, cells3_cons, cells3_cons]; simp
    | succ i =>
      rw [List.set_cons_succ, cells3_cons, cells3_cons, ← ih i (by simpa using h)]
      have e0 : (i + 1) * 3 = i * 3 + 3 := by omega
      rw [e0]
      simp
theorem OwnP.setAt {w : World} {base g n c : Nat} {l : List P3} (h : OwnP w base (.slice (some ⟨g, 0, none⟩) n c) l) (i : Nat) (hi : i < l.length) (p : P3) :
    OwnP (((w.setCell ⟨g, i * 3, none⟩ (.int .i64 p.x)).setCell ⟨g, i * 3 + 1, none⟩ (.int .i64 p.y)).setCell ⟨g, i * 3 + 2, none⟩ (.int .i64 p.z)) base (.slice (some ⟨g, 0, none⟩) n c) (l.set i p) := by
  obtain ⟨hx, h2⟩ := h
  rcases h2 with ⟨e, _⟩ | ⟨g', cap, cur, e, hb, hg, hnc, hm, hsz, ht⟩
  · cases e
  · have e2 := e
    injection e2 with e3 e4 e5
    injection e3 with e3
    injection e3 with e3
    subst e3
    subst e5
    have b := blk_set (blk_set (blk_set hg (i * 3) (.int .i64 p.x)) (i * 3 + 1) (.int .i64 p.y)) (i * 3 + 2) (.int .i64 p.z)
    refine ⟨?_, .inr ⟨g, c, _, ?_, hb, b, ?_, hm, by simpa using hsz, ?_⟩⟩
    · show (cells3 (l.set i p)).length = _
      rw [cells3_length, List.length_set]
    · rw [e4, List.length_set]
    · rw [List.length_set]; exact hnc
    · rw [List.length_set]
      simp only [Array.toList_setIfInBounds, List.take_set]
      rw [ht]
      exact cells3_set l i hi p
theorem OwnP.cut {w : World} {base g n c : Nat} {l : List P3} (h : OwnP w base (.slice (some ⟨g, 0, none⟩) n c) l) (i : Nat) (hi : i ≤ l.length) : OwnP w base (.slice (some ⟨g, 0, none⟩) i c) (l.take i) := by
  obtain ⟨hx, h2⟩ := h
  rcases h2 with ⟨e, _⟩ | ⟨g', cap, cur, e, hb, hg, hnc, hm, hsz, ht⟩
  · cases e
  · have e2 := e
    injection e2 with e3 e4 e5
    injection e3 with e3
    injection e3 with e3
    subst e3
    subst e5
    have el : (l.take i).length = i := by rw [List.length_take]; omega
    refine ⟨?_, .inr ⟨g, c, cur, ?_, hb, hg, ?_, hm, hsz, ?_⟩⟩
    · show (cells3 (l.take i)).length = _
      rw [cells3_length]
    · rw [el]
    · rw [el]; omega
    · rw [el]
      have t := congrArg (List.take (i * 3)) ht
      rw [List.take_take, Nat.min_eq_left (by omega)] at t
      rw [t]
      have ca : cells3 l = cells3 (l.take i) ++ cells3 (l.drop i) := by rw [← cells3_append, List.take_append_drop]
      show List.take (i * 3) (cells3 l) = cells3 (l.take i)
      rw [ca, List.take_append_of_le_length (by rw [cells3_length, el]; exact Nat.le_refl _), List.take_of_length_le (by rw [cells3_length, el]; exact Nat.le_refl _)]
end Go.Proofs.Ytckdhahceelckaa.G
namespace Go.Proofs.Ytckdhahceelckaa.G
open Go.RowKit Go.Proofs.YtckdhahceelckaaW.PrintWords Go.Proofs.YtckdhahceelckaaW.PrintLast Go.Proofs.YtckdhahceelckaaW.PrintMore
attribute [local go_sem] max2_mx min2_mn max_two min_two max_three min_three max_four min_four
attribute [local go_sem high] eqA23
set_option linter.unusedVariables false
set_option linter.unusedSimpArgs false
theorem eqSn0 (d n c : Nat) (w : World) : (Op.equalIn (d + 1) 24 (.slice none n c) (.slice none 0 0)).run Try.prog w = .ok true w := by
  simp [Op.equalIn, run_underlying Try.underlying24]
theorem eqSs0 (d n c : Nat) (ad : Addr) (w : World) : (Op.equalIn (d + 1) 24 (.slice (some ad) n c) (.slice none 0 0)).run Try.prog w = .ok false w := by
  simp [Op.equalIn, run_underlying Try.underlying24]
theorem eqE (x y : Value) (w : World) (b : Bool) (hx : binOp .eql 24 x y = (do pure (.bool (← Op.equal 24 x y)))) (h : ∀ d, (Op.equalIn (d + 1) 24 x y).run Try.prog w = .ok b w) : Sem.run Try.prog (binOp .eql 24 x y) w = .ok (.bool b) w := by
  rw [hx, Sem.run_bind]
  unfold Op.equal Op.maxDepth
  rw [h 9999]
  rfl
theorem eqSn (n c : Nat) (w : World) : Sem.run Try.prog (binOp .eql 24 (.slice none n c) (.slice none 0 0)) w = .ok (.bool true) w := eqE _ _ w true rfl fun d => eqSn0 d n c w
theorem eqSs (n c : Nat) (ad : Addr) (w : World) : Sem.run Try.prog (binOp .eql 24 (.slice (some ad) n c) (.slice none 0 0)) w = .ok (.bool false) w := eqE _ _ w false rfl fun d => eqSs0 d n c ad w
/-- a list of points of its own -/
def PtsPostB (l : List P3) (w : World) (e : Ending) (w' : World) : Prop := ∃ A c, e = .returned (.slice A l.length c) ∧ l.length ≤ c ∧ RdB w' A l ∧ Below w.heap.size w w' ∧ (∀ ad, A = some ad → w.heap.size ≤ ad.block)
attribute [local go_sem high] eqSn eqSs
set_option maxHeartbeats 2000000 in
set_option maxRecDepth 100000 in
theorem clone_calls (l : List P3) (n : Nat) (A : Option Addr) (c : Nat) (w : World) (hn : l.length = n) (hr : Rd w A l) (hb : n ≤ 40000) :
    Calls Try.prog 71 #[.slice A n c] w (PtsPostB l w) := by
  have HR := Lh hr
  have HN := Lh hn
  cases A with
  | none =>
    have h0 : l = [] := by
      cases l with
      | nil => rfl
      | cons p l => obtain ⟨b, o', e, _⟩ := hr 0 p rfl; cases e
    subst h0
    clear hn hr
    go_enter Try.func71, Try.ntmps71
    go_wp2
    go_ret
    exact ⟨none, 0, rfl, Nat.le_refl _, RdB.nil _, Below.refl _ _, fun ad e => by cases e⟩
  | some ad =>
    clear hn hr
    go_enter Try.func71, Try.ntmps71
    have hown : OwnP (w.alloc (.cells #[] 23)) w.heap.size (.slice (some ⟨w.heap.size, 0, none⟩) 0 0) [] := ⟨rfl, .inr ⟨w.heap.size, 0, #[], rfl, Nat.le_refl _, heap_alloc_new w (.cells #[] 23), Nat.le_refl _, by decide, rfl, rfl⟩⟩
    have hB := (Below.refl w.heap.size w).alloc (Nat.le_refl _) (.cells #[] 23)
    have HOWN := Lh hown
    have HB := Lh hB
    clear hown hB
    go_wp2_with (at_builtin; refine appL_ w.heap.size rfl _ _ rfl _ [] l (some ad) _ _ rfl rfl HOWN.out (HR.out.below HB.out) HN.out (by simp; omega) HB.out.size ?_; intro v2 w3 hv hg hat)
    go_ret
    obtain ⟨A, c', rfl, hlc, hrd, hbs⟩ := hv.rdB2
    exact ⟨A, c', rfl, hlc, hrd, HB.out.grown hg HB.out.size (fun k hk => HOWN.out.base_ k hk), hbs⟩
end Go.Proofs.Ytckdhahceelckaa.G
namespace Go.Proofs.Ytckdhahceelckaa.G
open Go.RowKit Go.Proofs.YtckdhahceelckaaW.PrintWords
set_option linter.unusedVariables false
theorem dot3_negI (n p : P3) (hn : in3 1048576 n) (hp : in3 16777216 p) : dot3 (negI n) p = -dot3 n p := by
  have hn' : in3 1048576 (negI n) := by unfold in3 negI at *; simp only; omega
  rw [dot3_eq n p 1048576 16777216 hn hp (by decide), dot3_eq _ p 1048576 16777216 hn' hp (by decide)]
  unfold dotI negI
  simp only [Int.neg_mul]
  omega
theorem negI_in {n : P3} {m : Int} (h : in3 m n) : in3 m (negI n) := by unfold in3 negI at *; simp only; omega
theorem negI_ne {n : P3} (h : n ≠ ⟨0, 0, 0⟩) : negI n ≠ ⟨0, 0, 0⟩ := fun e => h (by
  unfold negI at e
  simp only [P3.mk.injEq] at e
  cases n
  simp only [P3.mk.injEq]
  simp only at e
  omega)
theorem sizes_negI (n : P3) : fl3 (negI n) = fl3 n ∧ ce3 (negI n) = ce3 n := by
  have e : dotI (negI n) (negI n) = dotI n n := by unfold dotI negI; simp only [Int.neg_mul_neg]
  unfold ce3 fl3
  rw [e]
  exact ⟨rfl, rfl⟩
theorem reach_negI {n p0 : P3} {r : List P3} (hn : in3 1048576 n) (hp : ∀ p ∈ p0 :: r, in3 16777216 p) : (reachF (negI n) p0 r).1 = -(reachF n p0 r).2 ∧ (reachF (negI n) p0 r).2 = -(reachF n p0 r).1 := by
  have gen : ∀ (l : List P3) (s t : Int × Int), (∀ p ∈ l, in3 16777216 p) → t.1 = -s.2 → t.2 = -s.1 → (l.foldl (rstep (negI n)) t).1 = -(l.foldl (rstep n) s).2 ∧ (l.foldl (rstep (negI n)) t).2 = -(l.foldl (rstep n) s).1 := by
    intro l
    induction l with
    | nil => intro s t _ h1 h2; exact ⟨h1, h2⟩
    | cons p l ih =>
      intro s t h h1 h2
      rw [List.foldl_cons, List.foldl_cons]
      refine ih _ _ (fun q hq => h q (by simp [hq])) ?_ ?_
      · unfold rstep mn mx
        simp only
        rw [dot3_negI n p hn (h p (by simp)), h1]
        split <;> split <;> omega
      · unfold rstep mn mx
        simp only
        rw [dot3_negI n p hn (h p (by simp)), h2]
        split <;> split <;> omega
  unfold reachF
  exact gen r _ _ (fun q hq => hp q (by simp [hq])) (dot3_negI n p0 hn (hp p0 (by simp))) (dot3_negI n p0 hn (hp p0 (by simp)))
theorem gaps_negI {n a0 b0 : P3} {ar br : List P3} (ra rb : Int) (hn : in3 1048576 n) (ha : ∀ p ∈ a0 :: ar, in3 16777216 p) (hb : ∀ p ∈ b0 :: br, in3 16777216 p) : (gapsF (negI n) a0 ar ra b0 br rb).1 = (gapsF n a0 ar ra b0 br rb).2 := by
  unfold gapsF
  simp only
  rw [(reach_negI hn ha).2, (reach_negI hn hb).1, (sizes_negI n).1, (sizes_negI n).2]
  congr 1
  omega
theorem minus_zeroI {n : P3} (h : in3 1048576 n) : minus3 ⟨0, 0, 0⟩ n = negI n := by
  rw [minus3_eq _ _ (by unfold in3; simp) (in3_le (by decide) h)]
  unfold negI
  simp
theorem reach_at (n p0 : P3) (r : List P3) : ∀ p ∈ p0 :: r, (reachF n p0 r).1 ≤ dot3 n p ∧ dot3 n p ≤ (reachF n p0 r).2 := by
  have gen : ∀ (l : List P3) (s : Int × Int), (l.foldl (rstep n) s).1 ≤ s.1 ∧ s.2 ≤ (l.foldl (rstep n) s).2 ∧ ∀ p ∈ l, (l.foldl (rstep n) s).1 ≤ dot3 n p ∧ dot3 n p ≤ (l.foldl (rstep n) s).2 := by
    intro l
    induction l with
    | nil => intro s; exact ⟨Int.le_refl _, Int.le_refl _, by simp⟩
    | cons p l ih =>
      intro s
      rw [List.foldl_cons]
      obtain ⟨h1, h2, h3⟩ := ih (rstep n s p)
      obtain ⟨m1, m2, _⟩ := mx_facts s.2 (dot3 n p)
      obtain ⟨k1, k2, _⟩ := mn_facts s.1 (dot3 n p)
      have e1 : (rstep n s p).1 = mn s.1 (dot3 n p) := rfl
      have e2 : (rstep n s p).2 = mx s.2 (dot3 n p) := rfl
      rw [e1] at h1
      rw [e2] at h2
      refine ⟨by omega, by omega, fun q hq => ?_⟩
      rcases List.mem_cons.1 hq with rfl | hq
      · omega
      · exact h3 q hq
  obtain ⟨h1, h2, h3⟩ := gen r (dot3 n p0, dot3 n p0)
  intro p hp
  rcases List.mem_cons.1 hp with rfl | hp
  · exact ⟨h1, h2⟩
  · exact h3 p hp
theorem dot3_minus {n P Q : P3} (hn : in3 1048576 n) (hP : in3 16777216 P) (hQ : in3 16777216 Q) : dot3 n (minus3 Q P) = dot3 n Q - dot3 n P := by
  rw [minus3_eq Q P (in3_le (by decide) hQ) (in3_le (by decide) hP)]
  have hd : in3 33554432 (⟨Q.x - P.x, Q.y - P.y, Q.z - P.z⟩ : P3) := by unfold in3 at *; simp only; omega
  rw [dot3_eq n _ 1048576 33554432 hn hd (by decide), dot3_eq n Q 1048576 16777216 hn hQ (by decide), dot3_eq n P 1048576 16777216 hn hP (by decide)]
  unfold dotI
  simp only
  grind
theorem sz3_in {n : P3} (hn : in3 1048576 n) : sz3 n = (fl3 n, ce3 n) := by
  unfold sz3
  rw [(far3_iff _ n (by decide) (by decide)).2 (in3_le (by decide) hn)]
  rfl
/-- a core has a way of its own, or two points at most -/
def Ways (p a : List P3) : Prop := p.length ≤ 2 ∨ ∃ x ∈ a, long3 x ≠ ⟨0, 0, 0⟩
end Go.Proofs.Ytckdhahceelckaa.G
namespace Go.Proofs.Ytckdhahceelckaa.G
open Go.RowKit Go.Proofs.YtckdhahceelckaaW.PrintWords
set_option linter.unusedVariables false
theorem in3_negI {n : Int} {p : P3} : in3 n (negI p) ↔ in3 n p := by unfold in3 negI; simp only; omega
theorem far3_negI (n : Int) (p : P3) (h0 : 0 ≤ n) (h1 : n ≤ 9223372036854775807) : far3 n (negI p) = far3 n p := by
  have a := far3_iff n p h0 h1
  have b := far3_iff n (negI p) h0 h1
  rw [in3_negI] at b
  cases h : far3 n p <;> cases h' : far3 n (negI p) <;> simp_all
/-- moved by grains -/
def plusI (y x : P3) : P3 := ⟨x.x + y.x, x.y + y.y, x.z + y.z⟩
theorem plusI_in {y x : P3} (hy : in3 1048576 y) (hx : in3 8388608 x) : in3 16777216 (plusI y x) := by unfold in3 plusI at *; simp only; omega
theorem MayP.moved {p a e : List P3} {r : Int} (m : MayP p a e r) {y : P3} (hy : in3 1048576 y) (hp : ∀ x ∈ p, in3 8388608 x) : MayP (p.map (plusI y)) a e r where
  p0 := by have := m.p0; simpa using this
  p1 := by rw [List.length_map]; exact m.p1
  a1 := m.a1
  e1 := m.e1
  r0 := m.r0
  r1 := m.r1
  pf := by
    rw [List.any_eq_false]
    intro x hx
    obtain ⟨z, hz, rfl⟩ := List.mem_map.1 hx
    rw [(far3_iff _ _ (by decide) (by decide)).2 (plusI_in hy (hp z hz))]
    decide
  af := m.af
  ef := m.ef
end Go.Proofs.Ytckdhahceelckaa.G
namespace Go.Proofs.Ytckdhahceelckaa.G
open Go.RowKit Go.Proofs.YtckdhahceelckaaW.PrintWords Go.Proofs.YtckdhahceelckaaW.PrintLast Go.Proofs.YtckdhahceelckaaW.PrintMore
attribute [local go_sem] max2_mx min2_mn max_two min_two max_three min_three max_four min_four
attribute [local go_sem high] eqA23
set_option linter.unusedVariables false
set_option linter.unusedSimpArgs false
theorem gb_below {w w1 w2 : World} {k : Option Nat} (h : w.grownBy w1 k) (b : Below w1.heap.size w1 w2) : w.grownBy w2 k :=
  ⟨b.os.trans h.os, b.tape.trans h.tape, b.output.trans h.output, Nat.le_trans h.size b.size, fun j hj hk => (b.block j (Nat.lt_of_lt_of_le hj h.size)).trans (h.block j hj hk)⟩
theorem gb_own {w w1 w2 : World} {g : Nat} {v : Value} (h : w.grownBy w1 (some g)) (k : w1.grownBy w2 v.ownBlock) (hv : ∀ j, v.ownBlock = some j → w.heap.size ≤ j) : w.grownBy w2 (some g) :=
  ⟨k.os.trans h.os, k.tape.trans h.tape, k.output.trans h.output, Nat.le_trans h.size k.size, fun j hj hk => (k.block j (Nat.lt_of_lt_of_le hj h.size) (fun e => by have := hv j e.symm; omega)).trans (h.block j hj hk)⟩
theorem gb_set {w w1 : World} {g : Nat} (h : w.grownBy w1 (some g)) (j : Nat) (u : Value) : w.grownBy (w1.setCell ⟨g, j, none⟩ u) (some g) :=
  ⟨h.os, h.tape, h.output, by simpa using h.size, fun i hi hk => (Below.heap_setCell w1 ⟨g, j, none⟩ u i (fun e => hk (by simp at e; rw [e]))).trans (h.block i hi hk)⟩
theorem gb_refl (w : World) (k : Option Nat) : w.grownBy w k := ⟨rfl, rfl, rfl, Nat.le_refl _, fun _ _ _ => rfl⟩
theorem RdB.gb {w w1 : World} {A : Option Addr} {l : List P3} {g : Nat} (h : RdB w A l) (k : w.grownBy w1 (some g)) (hne : ∀ ad, A = some ad → ad.block ≠ g) : RdB w1 A l :=
  h.blk k.size fun ad e => k.block ad.block (h.2 ad e) (fun e' => hne ad e (by cases e'; rfl))
theorem below_gb {w w1 w2 : World} {g b : Nat} (h : Below b w w1) (k : w1.grownBy w2 (some g)) (hg : b ≤ g) (hb : b ≤ w1.heap.size) : Below b w w2 :=
  ⟨k.os.trans h.os, k.tape.trans h.tape, k.output.trans h.output, Nat.le_trans h.size k.size, fun j hj => (k.block j (Nat.lt_of_lt_of_le hj hb) (fun e => by cases e; omega)).trans (h.block j hj)⟩
/-- a slice of its own for l beside block g -/
def CloneV (W : World) (v : Value) (l : List P3) (n g : Nat) : Prop := ∃ A c, v = .slice A n c ∧ n ≤ c ∧ RdB W A l ∧ ∀ ad, A = some ad → ad.block ≠ g
set_option maxHeartbeats 8000000 in
set_option maxRecDepth 100000 in
theorem moved_in (p a e : List P3) (r : Int) (A0 A1 A2 : Option Addr) (c0 c1 c2 : Nat) (y : P3) (w : World) (h0 : RdB w A0 p) (h1 : RdB w A1 a) (h2 : RdB w A2 e) (hp1 : p.length ≤ 1000) (ha1 : a.length ≤ 1000) (he1 : e.length ≤ 1000)
    (hy : in3 1048576 y) (hp : ∀ x ∈ p, in3 8388608 x) :
    Calls Try.prog 30 #[.agg #[.slice A0 p.length c0, .slice A1 a.length c1, .slice A2 e.length c2, .int .i64 r], aP y] w (fun en w' => ∃ v, en = .returned v ∧ CoreV w' v (p.map (plusI y)) a e r ∧ Below w.heap.size w w') := by
  have HP := Lh (fun k (hk : k < p.length) => hp p[k] (List.getElem_mem hk))
  have HY := Lh hy
  have HMAP := Lh (fun k (hk : k < p.length) => show (p.map (plusI y)).take (k + 1) = (p.map (plusI y)).take k ++ [plusI y p[k]] by rw [List.take_succ_eq_append_getElem (by rw [List.length_map]; exact hk), List.getElem_map])
  have HLM := Lh (show (p.map (plusI y)).length = p.length from List.length_map _)
  obtain ⟨LM, hLM⟩ : ∃ L, p.map (plusI y) = L := ⟨_, rfl⟩
  rw [hLM] at HMAP HLM ⊢
  have HCA := Lh (fun (W : World) (hW : RdB W A1 a) => clone_calls a _ A1 c1 W rfl hW.1 (by omega))
  have HCE := Lh (fun (W : World) (hW : RdB W A2 e) => clone_calls e _ A2 c2 W rfl hW.1 (by omega))
  obtain ⟨yx, yy, yz⟩ := y
  obtain ⟨NP, hNP⟩ : ∃ N, p.length = N := ⟨_, rfl⟩
  obtain ⟨NA, hNA⟩ : ∃ N, a.length = N := ⟨_, rfl⟩
  obtain ⟨NE, hNE⟩ : ∃ N, e.length = N := ⟨_, rfl⟩
  have HNP := Lh hNP
  have HNA := Lh hNA
  have HNE := Lh hNE
  rw [hNP] at hp1 ⊢
  rw [hNA] at ha1 HCA ⊢
  rw [hNE] at he1 HCE ⊢
  have H0 := Lh h0
  have H1 := Lh h1
  have H2 := Lh h2
  clear h0 h1 h2 hy hp hLM hNP hNA hNE
  have z0 := (Below.heap_alloc _ (.cells #[.slice none 0 0, .slice none 0 0, .slice none 0 0, .int .i64 0] 36) _ (by simp; omega)).trans ((Below.heap_alloc _ (.cells #[.int .i64 yx, .int .i64 yy, .int .i64 yz] 23) _ (by simp)).trans (heap_alloc_new w (.cells #[.slice A0 NP c0, .slice A1 NA c1, .slice A2 NE c2, .int .i64 r] 36)))
  have z1 := three1 w (.cells #[.slice A0 NP c0, .slice A1 NA c1, .slice A2 NE c2, .int .i64 r] 36) (.cells #[.int .i64 yx, .int .i64 yy, .int .i64 yz] 23) (.cells #[.slice none 0 0, .slice none 0 0, .slice none 0 0, .int .i64 0] 36)
  have z2 := three2 w (.cells #[.slice A0 NP c0, .slice A1 NA c1, .slice A2 NE c2, .int .i64 r] 36) (.cells #[.int .i64 yx, .int .i64 yy, .int .i64 yz] 23) (.cells #[.slice none 0 0, .slice none 0 0, .slice none 0 0, .int .i64 0] 36)
  have zb := (((Below.refl _ w).alloc (Nat.le_refl _) (.cells #[.slice A0 NP c0, .slice A1 NA c1, .slice A2 NE c2, .int .i64 r] 36)).alloc (by simp) (.cells #[.int .i64 yx, .int .i64 yy, .int .i64 yz] 23)).alloc (by simp; omega) (.cells #[.slice none 0 0, .slice none 0 0, .slice none 0 0, .int .i64 0] 36)
  have zs : (((w.alloc (.cells #[.slice A0 NP c0, .slice A1 NA c1, .slice A2 NE c2, .int .i64 r] 36)).alloc (.cells #[.int .i64 yx, .int .i64 yy, .int .i64 yz] 23)).alloc (.cells #[.slice none 0 0, .slice none 0 0, .slice none 0 0, .int .i64 0] 36)).heap.size = w.heap.size + 1 + 1 + 1 := by simp
  obtain ⟨w1, hw1⟩ : ∃ V, ((w.alloc (.cells #[.slice A0 NP c0, .slice A1 NA c1, .slice A2 NE c2, .int .i64 r] 36)).alloc (.cells #[.int .i64 yx, .int .i64 yy, .int .i64 yz] 23)).alloc (.cells #[.slice none 0 0, .slice none 0 0, .slice none 0 0, .int .i64 0] 36) = V := ⟨_, rfl⟩
  rw [hw1] at z0 z1 z2 zb zs
  have hw1' := Lh hw1
  have Z0 := Lh z0
  have Z1 := Lh z1
  have Z2 := Lh z2
  have ZB := Lh zb
  have ZS := Lh zs
  have H0 := Lh (H0.out.below zb)
  have H1 := Lh (H1.out.below zb)
  have H2 := Lh (H2.out.below zb)
  have x1 : w1.cell? ⟨w.heap.size, 1, none⟩ = some (.slice A1 NA c1) := (blk_cell z0 1).trans rfl
  have x2 : w1.cell? ⟨w.heap.size, 2, none⟩ = some (.slice A2 NE c2) := (blk_cell z0 2).trans rfl
  have x3 : w1.cell? ⟨w.heap.size, 3, none⟩ = some (.int .i64 r) := (blk_cell z0 3).trans rfl
  have l0 : w.heap.size < w1.heap.size := blk_lt z0
  clear z0 z1 z2 zb zs hw1
  go_enter Try.func30, Try.ntmps30
  go_wp2_with fail
  rw [hw1'.out]
  have HB := Lh ((Below.refl (w1.heap.size) w1).drew)
  have FF := Lh (show ∀ V, Hid (Below (w1.heap.size) w1 V) → V.cell? ⟨w.heap.size, 1, none⟩ = some (.slice A1 NA c1) ∧ V.cell? ⟨w.heap.size, 2, none⟩ = some (.slice A2 NE c2) ∧ V.cell? ⟨w.heap.size, 3, none⟩ = some (.int .i64 r) from fun V HB => ⟨(HB.out.cell (p := ⟨w.heap.size, 1, none⟩) (l0)).trans x1, (HB.out.cell (p := ⟨w.heap.size, 2, none⟩) (l0)).trans x2, (HB.out.cell (p := ⟨w.heap.size, 3, none⟩) (l0)).trans x3⟩)
  refine start_ (n := 11) (S := fun w' => w'.cell? ⟨w.heap.size, 1, none⟩ = some (.slice A1 NA c1) ∧ w'.cell? ⟨w.heap.size, 2, none⟩ = some (.slice A2 NE c2) ∧ w'.cell? ⟨w.heap.size, 3, none⟩ = some (.int .i64 r)) (ds := []) (MT 0 11) (by kernel_rfl) rfl rfl (FF.out _ HB) (fun hHeld => ?_)
  obtain ⟨wd, hwd⟩ : ∃ x, w1.drew = x := ⟨_, rfl⟩
  rw [hwd] at HB hHeld ⊢
  clear hwd
  refine pu_ 0 8 (h := ?_)
  refine pu_ 2 10 (h := ?_)
  refine pu_ 5 13 (h := ?_)
  refine ta_ 1 9 hHeld (h := ?_)
  refine ta_ 3 11 hHeld (h := ?_)
  refine ta_ 6 14 hHeld (h := ?_)
  refine join_ (σ := Nat × Value × Value) 1 (MT 10 1) (fun s => [(12, s.2.1), (15, s.2.2), (16, .agg #[.slice none 0 0, s.2.1, s.2.2, .int .i64 r]), (5, .pointer (some ⟨s.1, 0, none⟩))]) (fun (s : Nat × Value × Value) w' => match s with | (s1, s2, s3) => w1.heap.size ≤ s1 ∧ w'.heap[s1]? = some (.cells #[.slice none 0 0, .slice none 0 0, .slice none 0 0, .int .i64 0] 36 (0, 0)) ∧ Below (w1.heap.size) w1 w' ∧ CloneV w' s2 a NA s1 ∧ CloneV w' s3 e NE s1) ?_ ?_
  rotate_left
  · intro hCont
    refine two_ (i := 4) (j := 9) (Ni := some 12) (Nj := some 5) (MT 7 4) #[true, true, true, true, false, true, true, false, false, true, false] rfl rfl rfl rfl (by kernel_rfl) (by decide) (by decide) (fun K hK => ?_) (fun K hK => ?_)
    · skip
      refine gs_ Try.func71 #[.slice A1 NA c1] ?_
      with_reducible refine (HCA.out _ (H1.out.below HB.out)).mono ?_
      rintro en w2 ⟨B1, d1, rfl, hlc, hrd, hb, hbs⟩
      rw [HNA.out] at hlc ⊢
      have LA := Lh hlc
      have KA := Lh hrd
      have HB := Lh (HB.out.trans (hb.mono HB.out.size))
      clear hlc hrd hb hbs
      refine ⟨_, rfl, ?_⟩
      refine hK.out _ _ (FF.out _ HB) (fun hHeld => ?_)
      clear hK K
      refine no_ (h := ?_)
      refine two_ (i := 7) (j := 9) (Ni := some 15) (Nj := some 5) (MT 8 3) #[true, true, true, true, true, true, true, false, false, true, false] rfl rfl rfl rfl (by kernel_rfl) (by decide) (by decide) (fun K hK => ?_) (fun K hK => ?_)
      · skip
        refine gs_ Try.func71 #[.slice A2 NE c2] ?_
        with_reducible refine (HCE.out _ (H2.out.below HB.out)).mono ?_
        rintro en w2 ⟨B2, d2, rfl, hlc, hrd, hb, hbs⟩
        rw [HNE.out] at hlc ⊢
        have LE := Lh hlc
        have KA := Lh (KA.out.below hb)
        have KE := Lh hrd
        have HB := Lh (HB.out.trans (hb.mono HB.out.size))
        clear hlc hrd hb hbs
        refine ⟨_, rfl, ?_⟩
        refine hK.out _ _ (FF.out _ HB) (fun hHeld => ?_)
        clear hK K
        refine no_ (h := ?_)
        refine pu_ 8 16 (h := ?_)
        refine on_ 9 (some 5) (h := fun K hK => ?_)
        refine value_ (w1 := ?_) (v := ?_) (by rfl) rfl ?_ ?_
        rotate_left 2
        · go_simp
          constructor
          · rfl
          · rfl
        have HA := Lh (ha_new HB.out (.cells #[.slice none 0 0, .slice none 0 0, .slice none 0 0, .int .i64 0] 36))
        have hge := HB.out.size
        have QA := Lh (fun (ad : Addr) (ea : B1 = some ad) => Nat.ne_of_lt (KA.out.2 ad ea))
        have KA := Lh (KA.out.below ((Below.refl _ _).alloc (Nat.le_refl _) (.cells #[.slice none 0 0, .slice none 0 0, .slice none 0 0, .int .i64 0] 36)))
        have QE := Lh (fun (ad : Addr) (ea : B2 = some ad) => Nat.ne_of_lt (KE.out.2 ad ea))
        have KE := Lh (KE.out.below ((Below.refl _ _).alloc (Nat.le_refl _) (.cells #[.slice none 0 0, .slice none 0 0, .slice none 0 0, .int .i64 0] 36)))
        have HB := Lh (HB.out.alloc (Nat.le_trans (Nat.le_refl _) HB.out.size) (.cells #[.slice none 0 0, .slice none 0 0, .slice none 0 0, .int .i64 0] 36))
        refine hK.out _ _ (FF.out _ HB) (fun hHeld => ?_)
        clear hK K
        refine no_ (h := ?_)
        exact norm_ (by simp only [putAll, Act.put, List.setIfInBounds_toArray, List.set_cons_zero, List.set_cons_succ]) (hCont (_, _, _) _ ⟨hge, HA.out, HB.out, ⟨_, _, rfl, LA.out, KA.out, QA.out⟩, ⟨_, _, rfl, LE.out, KE.out, QE.out⟩⟩)
      · skip
        refine value_ (w1 := ?_) (v := ?_) (by rfl) rfl ?_ ?_
        rotate_left 2
        · go_simp
          constructor
          · rfl
          · rfl
        have HA := Lh (ha_new HB.out (.cells #[.slice none 0 0, .slice none 0 0, .slice none 0 0, .int .i64 0] 36))
        have hge := HB.out.size
        have QA := Lh (fun (ad : Addr) (ea : B1 = some ad) => Nat.ne_of_lt (KA.out.2 ad ea))
        have KA := Lh (KA.out.below ((Below.refl _ _).alloc (Nat.le_refl _) (.cells #[.slice none 0 0, .slice none 0 0, .slice none 0 0, .int .i64 0] 36)))
        have HB := Lh (HB.out.alloc (Nat.le_trans (Nat.le_refl _) HB.out.size) (.cells #[.slice none 0 0, .slice none 0 0, .slice none 0 0, .int .i64 0] 36))
        refine hK.out _ _ (FF.out _ HB) (fun hHeld => ?_)
        clear hK K
        refine no_ (h := ?_)
        refine on_ 7 (some 15) (h := fun K hK => ?_)
        refine gs_ Try.func71 #[.slice A2 NE c2] ?_
        with_reducible refine (HCE.out _ (H2.out.below HB.out)).mono ?_
        rintro en w2 ⟨B2, d2, rfl, hlc, hrd, hb, hbs⟩
        rw [HNE.out] at hlc ⊢
        have LE := Lh hlc
        have QE := Lh (fun (ad : Addr) (ea : B2 = some ad) => Nat.ne_of_gt (Nat.lt_of_lt_of_le (blk_lt HA.out) (hbs ad ea)))
        have HA := Lh ((hb.block _ (blk_lt HA.out)).trans HA.out)
        have KA := Lh (KA.out.below hb)
        have KE := Lh hrd
        have HB := Lh (HB.out.trans (hb.mono HB.out.size))
        clear hlc hrd hb hbs
        refine ⟨_, rfl, ?_⟩
        refine hK.out _ _ (FF.out _ HB) (fun hHeld => ?_)
        clear hK K
        refine no_ (h := ?_)
        refine pu_ 8 16 (h := ?_)
        exact norm_ (by simp only [putAll, Act.put, List.setIfInBounds_toArray, List.set_cons_zero, List.set_cons_succ]) (hCont (_, _, _) _ ⟨hge, HA.out, HB.out, ⟨_, _, rfl, LA.out, KA.out, QA.out⟩, ⟨_, _, rfl, LE.out, KE.out, QE.out⟩⟩)
    · skip
      refine value_ (w1 := ?_) (v := ?_) (by rfl) rfl ?_ ?_
      rotate_left 2
      · go_simp
        constructor
        · rfl
        · rfl
      have HA := Lh (ha_new HB.out (.cells #[.slice none 0 0, .slice none 0 0, .slice none 0 0, .int .i64 0] 36))
      have hge := HB.out.size
      have HB := Lh (HB.out.alloc (Nat.le_trans (Nat.le_refl _) HB.out.size) (.cells #[.slice none 0 0, .slice none 0 0, .slice none 0 0, .int .i64 0] 36))
      refine hK.out _ _ (FF.out _ HB) (fun hHeld => ?_)
      clear hK K
      refine no_ (h := ?_)
      refine on_ 4 (some 12) (h := fun K hK => ?_)
      refine gs_ Try.func71 #[.slice A1 NA c1] ?_
      with_reducible refine (HCA.out _ (H1.out.below HB.out)).mono ?_
      rintro en w2 ⟨B1, d1, rfl, hlc, hrd, hb, hbs⟩
      rw [HNA.out] at hlc ⊢
      have LA := Lh hlc
      have QA := Lh (fun (ad : Addr) (ea : B1 = some ad) => Nat.ne_of_gt (Nat.lt_of_lt_of_le (blk_lt HA.out) (hbs ad ea)))
      have HA := Lh ((hb.block _ (blk_lt HA.out)).trans HA.out)
      have KA := Lh hrd
      have HB := Lh (HB.out.trans (hb.mono HB.out.size))
      clear hlc hrd hb hbs
      refine ⟨_, rfl, ?_⟩
      refine hK.out _ _ (FF.out _ HB) (fun hHeld => ?_)
      clear hK K
      refine no_ (h := ?_)
      refine on_ 7 (some 15) (h := fun K hK => ?_)
      refine gs_ Try.func71 #[.slice A2 NE c2] ?_
      with_reducible refine (HCE.out _ (H2.out.below HB.out)).mono ?_
      rintro en w2 ⟨B2, d2, rfl, hlc, hrd, hb, hbs⟩
      rw [HNE.out] at hlc ⊢
      have LE := Lh hlc
      have QE := Lh (fun (ad : Addr) (ea : B2 = some ad) => Nat.ne_of_gt (Nat.lt_of_lt_of_le (blk_lt HA.out) (hbs ad ea)))
      have HA := Lh ((hb.block _ (blk_lt HA.out)).trans HA.out)
      have KA := Lh (KA.out.below hb)
      have KE := Lh hrd
      have HB := Lh (HB.out.trans (hb.mono HB.out.size))
      clear hlc hrd hb hbs
      refine ⟨_, rfl, ?_⟩
      refine hK.out _ _ (FF.out _ HB) (fun hHeld => ?_)
      clear hK K
      refine no_ (h := ?_)
      refine pu_ 8 16 (h := ?_)
      exact norm_ (by simp only [putAll, Act.put, List.setIfInBounds_toArray, List.set_cons_zero, List.set_cons_succ]) (hCont (_, _, _) _ ⟨hge, HA.out, HB.out, ⟨_, _, rfl, LA.out, KA.out, QA.out⟩, ⟨_, _, rfl, LE.out, KE.out, QE.out⟩⟩)
  rintro ⟨AB, VA, VE⟩ wj ⟨hge, HA, HB, KA, KE⟩
  (try simp only at hge HA HB KA KE)
  have HA := Lh HA
  have HB := Lh HB
  obtain ⟨B1, d1, rfl, LA, KA, NA_⟩ := KA
  obtain ⟨B2, d2, rfl, LE, KE, NE_⟩ := KE
  have LA := Lh LA
  have KA := Lh KA
  have NA_ := Lh NA_
  have LE := Lh LE
  have KE := Lh KE
  have NE_ := Lh NE_
  have hHeld := FF.out _ HB
  refine no_ (h := ?_)
  refine on_ 10 (none) (h := fun K hK => ?_)
  have sc0 : World.cell? _ ⟨AB, 0, none⟩ = some (.slice none 0 0) := (blk_cell HA.out 0).trans rfl
  have sf0 := blk_frozen HA.out 0
  have sc1 : World.cell? _ ⟨AB, 1, none⟩ = some (.slice none 0 0) := (blk_cell HA.out 1).trans rfl
  have sf1 := blk_frozen HA.out 1
  have sc2 : World.cell? _ ⟨AB, 2, none⟩ = some (.slice none 0 0) := (blk_cell HA.out 2).trans rfl
  have sf2 := blk_frozen HA.out 2
  have sc3 : World.cell? _ ⟨AB, 3, none⟩ = some (.int .i64 0) := (blk_cell HA.out 3).trans rfl
  have sf3 := blk_frozen HA.out 3
  refine skip_ (w1 := ?_) (by rfl) rfl ?_ ?_
  rotate_left
  · go_simp
    rfl
  have HA := Lh (bs4 HA.out (.slice none 0 0) (.slice B1 NA d1) (.slice B2 NE d2) (.int .i64 r))
  have HB := Lh (bb4 HB.out (Nat.le_trans (Nat.le_refl _) hge) (.slice none 0 0) (.slice B1 NA d1) (.slice B2 NE d2) (.int .i64 r))
  clear sc0 sf0 sc1 sf1 sc2 sf2 sc3 sf3
  refine hK.out _ _ (FF.out _ HB) (fun hHeld => ?_)
  clear hK K
  refine done_ (by kernel_rfl) ?_
  have KA3 := Lh ((((KA.out.setc NA_.out 0 (.slice none 0 0)).setc NA_.out 1 (.slice B1 NA d1)).setc NA_.out 2 (.slice B2 NE d2)).setc NA_.out 3 (.int .i64 r))
  have KE3 := Lh ((((KE.out.setc NE_.out 0 (.slice none 0 0)).setc NE_.out 1 (.slice B1 NA d1)).setc NE_.out 2 (.slice B2 NE d2)).setc NE_.out 3 (.int .i64 r))
  obtain ⟨w3, hwn⟩ : ∃ V, ((((wj.setCell ⟨AB, 0, none⟩ (.slice none 0 0)).setCell ⟨AB, 1, none⟩ (.slice B1 NA d1)).setCell ⟨AB, 2, none⟩ (.slice B2 NE d2)).setCell ⟨AB, 3, none⟩ (.int .i64 r)) = V := ⟨_, rfl⟩
  rw [hwn] at HA HB KA3 KE3 ⊢
  clear hwn
  have HA3 := HA
  have HB3 := HB
  have HG := Lh hge
  have C0 := Lh ((HB.out.block _ (show w.heap.size < w1.heap.size by have := ZS.out; omega)).trans Z0.out)
  have C1 := Lh ((HB.out.block _ (show w.heap.size + 1 < w1.heap.size by have := ZS.out; omega)).trans Z1.out)
  have C2 := Lh ((HB.out.block _ (show w.heap.size + 2 < w1.heap.size by have := ZS.out; omega)).trans Z2.out)
  have H3 := Lh (H0.out.below HB.out)
  clear HA HB hge x1 x2 x3 l0 KA KE H0 H1 H2 HCA HCE hw1' Z0 Z1 Z2
  have x0 : w3.cell? ⟨w.heap.size, 0, none⟩ = some (.slice A0 NP c0) := (blk_cell C0.out 0).trans rfl
  go_wp2_with fail
  go_loopw [20] (fun v20 wr => ∃ k : Nat, ∃ v : Value, k ≤ NP ∧ v20 = .int .i64 k ∧ Hid (OwnP wr w3.heap.size v (LM.take k)) ∧ Hid (w3.grownBy wr (some AB)) ∧ Hid (wr.heap[AB]? = some (.cells #[v, .slice B1 NA d1, .slice B2 NE d2, .int .i64 r] 36 (0, 0)))) (fun i _ => NP - (intOf i).toNat)
  case atStart => exact ⟨0, .slice none 0 0, by omega, rfl, Lh (OwnP.nil _ _), Lh (gb_refl _ _), HA3⟩
  case round =>
    obtain ⟨k, v, hk, rfl, hO, hG, hT⟩ := hrel
    clear x0
    by_cases hlt : k < NP
    · have hkl : k < p.length := by rw [HNP.out]; exact hlt
      have H4 := H3.out.gb hG.out (fun ad e => by have := H0.out.2 ad e; have := HG.out; have := ZS.out; omega)
      obtain ⟨b, o, rfl, lb, e0, e1, e2⟩ := H4.1.get k hkl
      have hin := HP.out k hkl
      have HM1 := Lh (HMAP.out k hkl)
      obtain ⟨x, hx⟩ : ∃ x, p[k] = x := ⟨_, rfl⟩
      rw [hx] at e0 e1 e2 hin HM1
      obtain ⟨xx, xy, xz⟩ := x
      have HX := Lh (show plusI ⟨yx, yy, yz⟩ ⟨xx, xy, xz⟩ = ⟨wrap64 (xx + yx), wrap64 (xy + yy), wrap64 (xz + yz)⟩ by
        have hy := HY.out
        unfold in3 at hin hy
        unfold plusI wrap64
        simp only [P3.mk.injEq] at hin hy ⊢
        omega)
      rw [HX.out] at HM1
      have C0r := Lh ((hG.out.block _ (blk_lt C0.out) (by have := HG.out; have := ZS.out; simp; omega)).trans C0.out)
      have C1r := Lh ((hG.out.block _ (blk_lt C1.out) (by have := HG.out; have := ZS.out; simp; omega)).trans C1.out)
      have q0 : wr.cell? ⟨w.heap.size + 1, 0, none⟩ = some (.int .i64 yx) := (blk_cell C1r.out 0).trans rfl
      have q1 : wr.cell? ⟨w.heap.size + 1, 1, none⟩ = some (.int .i64 yy) := (blk_cell C1r.out 1).trans rfl
      have q2 : wr.cell? ⟨w.heap.size + 1, 2, none⟩ = some (.int .i64 yz) := (blk_cell C1r.out 2).trans rfl
      have lq : w.heap.size + 1 < wr.heap.size := blk_lt C1r.out
      have t0 : wr.cell? ⟨AB, 0, none⟩ = some v := (blk_cell hT.out 0).trans rfl
      have lt : AB < wr.heap.size := blk_lt hT.out
      have tk : (k : Int) < (NP : Int) := by omega
      simp only at e0 e1 e2
      clear H4 hx hin hkl C0r C1r
      have hbA := ((Below.refl _ wr).alloc (Nat.le_refl _) (.cells #[.int .i64 xx, .int .i64 xy, .int .i64 xz] 23)).alloc (by simp) (.cells #[.int .i64 (wrap64 (xx + yx)), .int .i64 (wrap64 (xy + yy)), .int .i64 (wrap64 (xz + yz))] 23)
      have hO2 := Lh (hO.out.grown hbA)
      have hT2 := Lh ((hbA.block _ lt).trans hT.out)
      have hG2 := Lh (gb_below hG.out hbA)
      have hR2 := (Rd_one (heap_alloc_new (wr.alloc (.cells #[.int .i64 xx, .int .i64 xy, .int .i64 xz] 23)) (.cells #[.int .i64 (wrap64 (xx + yx)), .int .i64 (wrap64 (xy + yy)), .int .i64 (wrap64 (xz + yz))] 23))).1
      rw [World.size_alloc] at hR2
      have lA3 := blk_lt HA3.out
      clear hbA
      go_wp2_with (at_builtin; refine append_pts w3.heap.size rfl _ _ rfl _ (LM.take k) [⟨wrap64 (xx + yx), wrap64 (xy + yy), wrap64 (xz + yz)⟩] _ _ _ rfl rfl hO2.out hR2 rfl (by have := List.length_take_le k LM; simp; omega) hG2.out.size ?_; intro v2 w4 hv2 hg2; obtain ⟨Av, nv, cv, hvv⟩ : ∃ A n c, v2 = .slice A n c := (by obtain ⟨A, c, h, _⟩ := OwnP.rd hv2; exact ⟨A, _, c, h⟩); subst hvv; have hT4 := Lh ((hg2.block AB (blk_lt hT2.out) (fun e => by have := hO2.out.base_ _ e.symm; omega)).trans hT2.out); have hG4 := Lh (gb_own hG2.out hg2 (fun j hj => hO2.out.base_ j hj)); have hv4 := Lh hv2; have u0 : w4.cell? ⟨AB, 0, none⟩ = some v := (blk_cell hT4.out 0).trans rfl; have u1 : w4.frozen? ⟨AB, 0, none⟩ = false := blk_frozen hT4.out 0; have lA4 : AB < w4.heap.size := blk_lt hT4.out; clear hv2 hg2)
      go_roundw
      case rel => exact ⟨k + 1, .slice Av nv cv, by omega, by go_num, Lh (by rw [HM1.out]; exact own_setCell hv4.out (fun e => by have := hv4.out.base_ _ e.symm; simp at this; omega) _), Lh (gb_set hG4.out 0 _), Lh (blk40 hT4.out (.slice Av nv cv))⟩
      case measure => simp [intOf]; omega
    · obtain rfl : k = NP := by omega
      have hfull : LM.take k = LM := List.take_of_length_le (by rw [HLM.out, HNP.out]; exact Nat.le_refl _)
      rw [hfull] at hO
      obtain ⟨Ap, cp, hvp, hlp, hrp, hbp⟩ := hO.out.rdB2
      subst hvp
      obtain ⟨nP, hnP⟩ : ∃ n, LM.length = n := ⟨_, rfl⟩
      rw [hnP] at hT hlp
      have hnP := Lh hnP
      have R3 := Lh ((hG.out.block _ (blk_lt C2.out) (by have := HG.out; have := ZS.out; simp; omega)).trans C2.out)
      have kA := KA3.out.gb hG.out NA_.out
      have kE := KE3.out.gb hG.out NE_.out
      have WB := below_gb (bthen ZB.out HB3.out) hG.out (by have := HG.out; have := ZB.out.size; omega) (by have := ZB.out.size; have := HB3.out.size; omega)
      have d0_ : wr.cell? ⟨AB, 0, none⟩ = some (.slice Ap nP cp) := (blk_cell hT.out 0).trans rfl
      have d1_ : wr.cell? ⟨AB, 1, none⟩ = some (.slice B1 NA d1) := (blk_cell hT.out 1).trans rfl
      have d2_ : wr.cell? ⟨AB, 2, none⟩ = some (.slice B2 NE d2) := (blk_cell hT.out 2).trans rfl
      have d3_ : wr.cell? ⟨AB, 3, none⟩ = some (.int .i64 r) := (blk_cell hT.out 3).trans rfl
      have r0 : wr.cell? ⟨w.heap.size + 1 + 1, 0, none⟩ = some (.slice none 0 0) := (blk_cell R3.out 0).trans rfl
      have r1 : wr.cell? ⟨w.heap.size + 1 + 1, 1, none⟩ = some (.slice none 0 0) := (blk_cell R3.out 1).trans rfl
      have r2 : wr.cell? ⟨w.heap.size + 1 + 1, 2, none⟩ = some (.slice none 0 0) := (blk_cell R3.out 2).trans rfl
      have r3 : wr.cell? ⟨w.heap.size + 1 + 1, 3, none⟩ = some (.int .i64 0) := (blk_cell R3.out 3).trans rfl
      have f0 : wr.frozen? ⟨w.heap.size + 1 + 1, 0, none⟩ = false := blk_frozen R3.out 0
      have f1 : wr.frozen? ⟨w.heap.size + 1 + 1, 1, none⟩ = false := blk_frozen R3.out 1
      have f2 : wr.frozen? ⟨w.heap.size + 1 + 1, 2, none⟩ = false := blk_frozen R3.out 2
      have f3 : wr.frozen? ⟨w.heap.size + 1 + 1, 3, none⟩ = false := blk_frozen R3.out 3
      have T7 := bs4 R3.out (.slice Ap nP cp) (.slice B1 NA d1) (.slice B2 NE d2) (.int .i64 r)
      have B7 := bb4 WB (show w.heap.size ≤ w.heap.size + 1 + 1 by omega) (.slice Ap nP cp) (.slice B1 NA d1) (.slice B2 NE d2) (.int .i64 r)
      have p7 := hrp.setS R3.out (.slice Ap nP cp) (.slice B1 NA d1) (.slice B2 NE d2) (.int .i64 r)
      have a7 := kA.setS R3.out (.slice Ap nP cp) (.slice B1 NA d1) (.slice B2 NE d2) (.int .i64 r)
      have e7 := kE.setS R3.out (.slice Ap nP cp) (.slice B1 NA d1) (.slice B2 NE d2) (.int .i64 r)
      obtain ⟨w7, hw7⟩ : ∃ V, ((((wr.setCell ⟨w.heap.size + 1 + 1, 0, none⟩ (.slice Ap nP cp)).setCell ⟨w.heap.size + 1 + 1, 1, none⟩ (.slice B1 NA d1)).setCell ⟨w.heap.size + 1 + 1, 2, none⟩ (.slice B2 NE d2)).setCell ⟨w.heap.size + 1 + 1, 3, none⟩ (.int .i64 r)) = V := ⟨_, rfl⟩
      rw [hw7] at T7 B7 p7 a7 e7
      have hv7 := Lh hw7
      have T7 := Lh T7
      have B7 := Lh B7
      have HVF := Lh (show CoreV w7 (.agg #[.slice Ap nP cp, .slice B1 NA d1, .slice B2 NE d2, .int .i64 r]) LM a e r from ⟨Ap, B1, B2, cp, d1, d2, by rw [hnP.out, HNA.out, HNE.out], p7, a7, e7, by rw [hnP.out]; exact hlp, by rw [HNA.out]; exact LA.out, by rw [HNE.out]; exact LE.out⟩)
      clear hw7 p7 a7 e7 WB kA kE hrp hlp
      go_wp2
      (try rw [hv7.out])
      have y0 : w7.cell? ⟨w.heap.size + 1 + 1, 0, none⟩ = some (.slice Ap nP cp) := (blk_cell T7.out 0).trans rfl
      have y1 : w7.cell? ⟨w.heap.size + 1 + 1, 1, none⟩ = some (.slice B1 NA d1) := (blk_cell T7.out 1).trans rfl
      have y2 : w7.cell? ⟨w.heap.size + 1 + 1, 2, none⟩ = some (.slice B2 NE d2) := (blk_cell T7.out 2).trans rfl
      have y3 : w7.cell? ⟨w.heap.size + 1 + 1, 3, none⟩ = some (.int .i64 r) := (blk_cell T7.out 3).trans rfl
      exact bodyPost_ret (v := .agg #[.slice Ap nP cp, .slice B1 NA d1, .slice B2 NE d2, .int .i64 r]) (by simp [results, Try.results30, go_sem, y0, y1, y2, y3]) rfl ⟨_, rfl, HVF.out, B7.out⟩
theorem moved_calls {p a e : List P3} {r : Int} {v : Value} {w : World} (hv : CoreV w v p a e r) (m : MayP p a e r) (y : P3) (hy : in3 1048576 y) (hp : ∀ x ∈ p, in3 8388608 x) :
    Calls Try.prog 30 #[v, aP y] w (fun en w' => ∃ u, en = .returned u ∧ CoreV w' u (p.map (plusI y)) a e r ∧ Below w.heap.size w w') := by
  obtain ⟨A0, A1, A2, c0, c1, c2, rfl, h0, h1, h2, _⟩ := hv.out
  exact moved_in p a e r A0 A1 A2 c0 c1 c2 y w h0 h1 h2 (by have := m.p1; omega) (by have := m.a1; omega) (by have := m.e1; omega) hy hp
end Go.Proofs.Ytckdhahceelckaa.G
namespace Go.Proofs.Ytckdhahceelckaa.G
open Go.RowKit Go.Proofs.YtckdhahceelckaaW.PrintWords Go.Proofs.YtckdhahceelckaaW.PrintLast Go.Proofs.YtckdhahceelckaaW.PrintMore
set_option linter.unusedVariables false
set_option linter.unusedSimpArgs false
theorem OwnP.setAbove {w : World} {base g n c : Nat} {l : List P3} (h : OwnP w base (.slice (some ⟨g, 0, none⟩) n c) l) (o : Nat) (ho : l.length * 3 ≤ o) (u : Value) : OwnP (w.setCell ⟨g, o, none⟩ u) base (.slice (some ⟨g, 0, none⟩) n c) l := by
  obtain ⟨hx, h2⟩ := h
  rcases h2 with ⟨e, _⟩ | ⟨g', cap, cur, e, hb, hg, hnc, hm, hsz, ht⟩
  · cases e
  · have e2 := e
    injection e2 with e3 e4 e5
    injection e3 with e3
    injection e3 with e3
    subst e3
    refine ⟨hx, .inr ⟨g, cap, _, e, hb, blk_set hg o u, hnc, hm, by simpa using hsz, ?_⟩⟩
    simp only [Array.toList_setIfInBounds]
    rw [List.take_set_of_le ho]
    exact ht
theorem OwnP.setsAbove {base g n c : Nat} {l : List P3} (vs : List Value) : ∀ (w : World) (o : Nat), l.length * 3 ≤ o → OwnP w base (.slice (some ⟨g, 0, none⟩) n c) l → OwnP (w.setCells g o vs) base (.slice (some ⟨g, 0, none⟩) n c) l ∧ w.grownBy (w.setCells g o vs) (some g) := by
  induction vs with
  | nil => intro w o _ h; exact ⟨h, gb_refl _ _⟩
  | cons v r ih =>
    intro w o ho h
    obtain ⟨h1, h2⟩ := ih (w.setCell ⟨g, o, none⟩ v) (o + 1) (by omega) (h.setAbove o ho v)
    refine ⟨h1, ?_⟩
    have g1 := gb_set (gb_refl w (some g)) o v
    exact ⟨h2.os.trans g1.os, h2.tape.trans g1.tape, h2.output.trans g1.output, Nat.le_trans g1.size h2.size, fun j hj hk => (h2.block j (Nat.lt_of_lt_of_le hj g1.size) hk).trans (g1.block j hj hk)⟩
theorem zero23 (w : World) : (zeroValue 23).run Try.prog w = .ok (.agg #[.int .i64 0, .int .i64 0, .int .i64 0]) w := by
  go_simp
theorem run_clear_pts (w : World) (base g n c i cc : Nat) (ty : TypeId) (l : List P3) (h : OwnP w base (.slice (some ⟨g, 0, none⟩) n c) l) (hi : i < n) :
    ∃ w', (Builtin.clear_ #[24] ty #[.slice (some ⟨g, i * 3, none⟩) (n - i) cc]).run Try.prog w = .ok (.tuple #[]) w' ∧ OwnP w' base (.slice (some ⟨g, 0, none⟩) i c) (l.take i) ∧ w.grownBy w' (some g) := by
  have hc := h
  obtain ⟨hx, h2⟩ := h
  rcases h2 with ⟨e, _⟩ | ⟨g', cap, cur, e, hb, hg, hnc, hm, hsz, ht⟩
  · cases e
  · have e2 := e
    injection e2 with e3 e4 e5
    injection e3 with e3
    injection e3 with e3
    subst e3
    have hcut := hc.cut i (by omega)
    have el : (l.take i).length = i := by rw [List.length_take]; omega
    obtain ⟨zs, hzs⟩ : ∃ zs, (Builtin.zeroCells #[.int .i64 0, .int .i64 0, .int .i64 0] (n - i)).toList = zs := ⟨_, rfl⟩
    have zl : zs.length = (n - i) * 3 := by rw [← hzs]; simp [Builtin.zeroCells]
    have z1 : ∀ v ∈ zs, v.oneCell' = true := by
      intro v hv
      rw [← hzs] at hv
      simp only [Builtin.zeroCells, Array.toList_map, List.mem_map] at hv
      obtain ⟨k, _, rfl⟩ := hv
      have : k % 3 = 0 ∨ k % 3 = 1 ∨ k % 3 = 2 := by omega
      show (#[Value.int .i64 0, Value.int .i64 0, Value.int .i64 0][k % 3]!).oneCell' = true
      rcases this with h | h | h <;> rw [h] <;> rfl
    have hst := run_storeCells_cells (P := Try.prog) g (i * 3) zs 0 w (fun j hj => by
      rw [blk_cell hg]
      have : i * 3 + j < cur.size := by
        have := Nat.mul_le_mul_right 3 hnc
        rw [zl] at hj
        omega
      simp [this]) (fun j hj => blk_frozen hg _) z1
    simp only [Nat.add_zero] at hst
    obtain ⟨o1, o2⟩ := OwnP.setsAbove zs w (i * 3) (by rw [el]; exact Nat.le_refl _) hcut
    refine ⟨w.setCells g (i * 3) zs, ?_, o1, o2⟩
    obtain ⟨m, hm'⟩ : ∃ m, n - i = m + 1 := ⟨n - i - 1, by omega⟩
    rw [hm'] at hzs ⊢
    have hcz : (Value.agg #[.int .i64 0, .int .i64 0, .int .i64 0]).cells = #[.int .i64 0, .int .i64 0, .int .i64 0] := by simp [Value.cells]
    simp [Builtin.clear_, run_underlying Try.underlying24, zero23, hcz, hzs, hst]
end Go.Proofs.Ytckdhahceelckaa.G
namespace Go.Proofs.Ytckdhahceelckaa.G
open Go.RowKit Go.Proofs.YtckdhahceelckaaW.PrintWords Go.Proofs.YtckdhahceelckaaW.PrintLast Go.Proofs.YtckdhahceelckaaW.PrintMore
attribute [local go_sem] max2_mx min2_mn max_two min_two max_three min_three max_four min_four
attribute [local go_sem high] eqA23
set_option linter.unusedVariables false
set_option linter.unusedSimpArgs false
theorem gb_trans {w w1 w2 : World} {k : Option Nat} (h : w.grownBy w1 k) (h2 : w1.grownBy w2 k) : w.grownBy w2 k :=
  ⟨h2.os.trans h.os, h2.tape.trans h.tape, h2.output.trans h.output, Nat.le_trans h.size h2.size, fun j hj hk => (h2.block j (Nat.lt_of_lt_of_le hj h.size) hk).trans (h.block j hj hk)⟩
def nz (p : P3) : Bool := !isz p
theorem filter_keep (l lst : List P3) (i j : Nat) (hj : j < l.length) (hij : i < j) (hlen : lst.length = l.length) (ht : lst.take i = (l.take j).filter nz) (hd : lst.drop j = l.drop j) (h : isz l[j] = false) :
    (lst.set i l[j]).take (i + 1) = (l.take (j + 1)).filter nz ∧ (lst.set i l[j]).drop (j + 1) = l.drop (j + 1) := by
  constructor
  · rw [List.take_succ_eq_append_getElem hj, List.filter_append, ← ht, List.take_succ_eq_append_getElem (by rw [List.length_set]; omega), List.getElem_set_self, List.take_set_of_le (Nat.le_refl _)]
    simp [nz, h]
  · rw [List.drop_set_of_lt (by omega)]
    have := congrArg (List.drop 1) hd
    rwa [List.drop_drop, List.drop_drop] at this
theorem filter_drop (l lst : List P3) (i j : Nat) (hj : j < l.length) (ht : lst.take i = (l.take j).filter nz) (hd : lst.drop j = l.drop j) (h : isz l[j] = true) :
    lst.take i = (l.take (j + 1)).filter nz ∧ lst.drop (j + 1) = l.drop (j + 1) := by
  constructor
  · rw [List.take_succ_eq_append_getElem hj, List.filter_append, ← ht]; simp [nz, h]
  · have := congrArg (List.drop 1) hd
    rwa [List.drop_drop, List.drop_drop] at this
theorem OwnP.fz {w : World} {base g n c : Nat} {l : List P3} (h : OwnP w base (.slice (some ⟨g, 0, none⟩) n c) l) : (∀ o, w.frozen? ⟨g, o, none⟩ = false) ∧ g < w.heap.size ∧ base ≤ g ∧ n = l.length ∧ n ≤ c ∧ c ≤ maxLen := by
  obtain ⟨hx, h2⟩ := h
  rcases h2 with ⟨e, _⟩ | ⟨g', cap, cur, e, hb, hg, hnc, hm, hsz, ht⟩
  · cases e
  · have e2 := e
    injection e2 with e3 e4 e5
    injection e3 with e3
    injection e3 with e3
    subst e3
    exact ⟨fun o => blk_frozen hg o, blk_lt hg, hb, e4, by omega, by omega⟩
theorem OwnP.at3 {w : World} {base g n c : Nat} {l : List P3} (h : OwnP w base (.slice (some ⟨g, 0, none⟩) n c) l) (i : Nat) (hi : i < l.length) : w.cell? ⟨g, i * 3, none⟩ = some (.int .i64 l[i].x) ∧ w.cell? ⟨g, i * 3 + 1, none⟩ = some (.int .i64 l[i].y) ∧ w.cell? ⟨g, i * 3 + 2, none⟩ = some (.int .i64 l[i].z) := by
  obtain ⟨A', c', eA, _, hr, _⟩ := OwnP.rd h
  injection eA with eA1 eA2 eA3
  subst eA1
  obtain ⟨b, o, eb, hbl, h1, h2, h3⟩ := hr.get i hi
  simp only [Option.some.injEq, Addr.mk.injEq, and_true] at eb
  obtain ⟨rfl, rfl⟩ := eb
  simp only [Nat.zero_add] at h1 h2 h3
  exact ⟨h1, h2, h3⟩
def DelPost (g c base : Nat) (l : List P3) (w : World) (e : Ending) (w' : World) : Prop := ∃ m, e = .returned (.slice (some ⟨g, 0, none⟩) m c) ∧ OwnP w' base (.slice (some ⟨g, 0, none⟩) m c) (l.filter nz) ∧ w.grownBy w' (some g)
set_option maxHeartbeats 2000000 in
set_option maxRecDepth 100000 in
theorem delete_calls (l : List P3) (g n c base : Nat) (w : World) (h : OwnP w base (.slice (some ⟨g, 0, none⟩) n c) l) (hl : n ≤ 40000) :
    Calls Try.prog 126 #[.slice (some ⟨g, 0, none⟩) n c, .func (.func 127) #[] #[]] w (DelPost g c base l w) := by
  obtain ⟨_, hgl, hbg, hn, hnc, hcm⟩ := h.fz
  have HI := Lh (index0_calls l (some ⟨g, 0, none⟩) c w (by
    obtain ⟨A, c', e, _, hr, _⟩ := OwnP.rd h
    injection e with e1 _ _
    rw [e1]; exact hr) (by omega) (by omega))
  have HO := Lh h
  rw [← hn] at HI
  have HN := Lh hn
  clear h hn
  go_enter Try.func126, Try.ntmps126
  go_wp2_with fail
  with_reducible refine HI.out.mono ?_
  rintro e w1 ⟨rfl, hb⟩
  have hO1 := HO.out.grown hb
  have hG1 := gb_below (gb_refl w (some g)) hb
  cases hf : l.findIdx? isz with
  | none =>
    rw [idx0_none hf]
    have hfil : l.filter nz = l := by
      rw [List.filter_eq_self]
      intro p hp
      rw [List.findIdx?_eq_none_iff] at hf
      unfold nz; rw [hf p hp]; rfl
    clear HI hb
    go_wp2
    go_ret
    exact ⟨n, rfl, by rw [hfil]; exact hO1, hG1⟩
  | some k =>
    rw [idx0_some hf]
    rw [List.findIdx?_eq_some_iff_getElem] at hf
    obtain ⟨hk, hz, hno⟩ := hf
    have hst : l.take k = (l.take (k + 1)).filter nz := by
      rw [List.take_succ_eq_append_getElem hk, List.filter_append]
      have : (l.take k).filter nz = l.take k := by
        rw [List.filter_eq_self]
        intro p hp
        obtain ⟨i, hi, rfl⟩ := List.mem_iff_getElem.1 hp
        rw [List.length_take] at hi
        rw [List.getElem_take]
        have := hno i (by omega)
        unfold nz
        cases e : isz l[i]
        · rfl
        · rw [e] at this; simp at this
      rw [this]; simp [nz, hz]
    have hO1 := Lh hO1
    have hG1 := Lh hG1
    have hst := Lh hst
    have hkn : k < n := by have := HN.out; omega
    have e1 : ((k : Int) == -1) = false := by simp
    clear HI hb hz hno
    go_wp2_with fail
    go_loopw [5, 6] (fun v5 v6 wr => ∃ (i j : Nat) (lst : List P3), v5 = .int .i64 i ∧ v6 = .int .i64 j ∧ j ≤ n ∧ i < j ∧ lst.length = n ∧ Hid (lst.take i = (l.take j).filter nz) ∧ Hid (lst.drop j = l.drop j) ∧ Hid (OwnP wr base (.slice (some ⟨g, 0, none⟩) n c) lst) ∧ Hid (w.grownBy wr (some g))) (fun _ j _ => n - (intOf j).toNat)
    case atStart => exact ⟨k, k + 1, l, rfl, rfl, Nat.succ_le_of_lt hkn, Nat.lt_succ_self k, HN.out.symm, hst, Lh rfl, hO1, hG1⟩
    case round =>
      clear hO1 hG1 hst
      obtain ⟨i, j, lst, rfl, rfl, hj, hij, hlen, hT, hD, hO, hG⟩ := hrel
      by_cases hlt : j < n
      · have hjl : j < lst.length := by omega
        have hjl0 : j < l.length := by rw [← HN.out]; exact hlt
        have hel : lst[j] = l[j] := by
          have := congrArg (fun t => t[0]?) hD.out
          simpa [List.getElem?_drop, hjl, hjl0] using this
        obtain ⟨A', c', eA, _, hr, _⟩ := OwnP.rd hO.out
        injection eA with eA1 eA2 eA3
        subst eA1
        obtain ⟨b, o, eb, hbl, h1, h2, h3⟩ := hr.get j hjl
        simp only [Option.some.injEq, Addr.mk.injEq, and_true] at eb
        obtain ⟨rfl, rfl⟩ := eb
        rw [hel] at h1 h2 h3
        have HK := Lh (fun (h : isz l[j] = false) => filter_keep l lst i j hjl0 hij (by rw [hlen, HN.out]) hT.out hD.out h)
        have HDR := Lh (fun (h : isz l[j] = true) => filter_drop l lst i j hjl0 hT.out hD.out h)
        have HFZ := Lh hO.out.fz
        obtain ⟨p, hp⟩ : ∃ p, l[j] = p := ⟨_, rfl⟩
        rw [hp] at h1 h2 h3 HK HDR
        obtain ⟨px, py, pz⟩ := p
        simp only [Nat.zero_add] at h1 h2 h3
        clear hel eA2 eA3 hr hp
        cases hf : isz ⟨px, py, pz⟩ with
        | true =>
          obtain ⟨hT2, hD2⟩ := HDR.out hf
          have hT2 := Lh hT2
          have hD2 := Lh hD2
          clear HK HDR
          go_wp2_with (go_at_call 127; refine (with1_calls _ _ _ _).mono ?_; rintro e w3 ⟨rfl, hb3⟩; rw [hf])
          go_roundw
          case rel => exact ⟨i, j + 1, lst, rfl, by go_num, by omega, by omega, hlen, hT2, hD2, Lh (hO.out.grown (bthen ((Below.refl _ wr).alloc (Nat.le_refl _) _) hb3)), Lh (gb_below hG.out (bthen ((Below.refl _ wr).alloc (Nat.le_refl _) _) hb3))⟩
          case measure => simp [intOf]; omega
        | false =>
          obtain ⟨hT2, hD2⟩ := HK.out hf
          have hT2 := Lh hT2
          have hD2 := Lh hD2
          clear HK HDR
          have hli : i < lst.length := by omega
          go_wp2_with (go_at_call 127; refine (with1_calls _ _ _ _).mono ?_; rintro e w3 ⟨rfl, hb3⟩; rw [hf]; have hN3 := (hb3.block wr.heap.size (by simp)).trans (heap_alloc_new wr (.cells #[.int .i64 px, .int .i64 py, .int .i64 pz] 23)); have b0 : w3.cell? ⟨wr.heap.size, 0, none⟩ = some (.int .i64 px) := (blk_cell hN3 0).trans rfl; have b1 : w3.cell? ⟨wr.heap.size, 1, none⟩ = some (.int .i64 py) := (blk_cell hN3 1).trans rfl; have b2 : w3.cell? ⟨wr.heap.size, 2, none⟩ = some (.int .i64 pz) := (blk_cell hN3 2).trans rfl; have hW3 := Lh (bthen ((Below.refl _ wr).alloc (Nat.le_refl _) (.cells #[.int .i64 px, .int .i64 py, .int .i64 pz] 23)) hb3); have hO3 := Lh (hO.out.grown hW3.out); have ⟨g0, g1, g2⟩ := hO3.out.at3 i hli; have F0 := hO3.out.fz.1 (i * 3); have F1 := hO3.out.fz.1 (i * 3 + 1); have F2 := hO3.out.fz.1 (i * 3 + 2); clear hN3 hb3)
          go_roundw
          case rel => exact ⟨i + 1, j + 1, lst.set i ⟨px, py, pz⟩, by go_num, by go_num, by omega, by omega, by rw [List.length_set]; exact hlen, hT2, hD2, Lh (hO3.out.setAt i hli ⟨px, py, pz⟩), Lh (gb_set (gb_set (gb_set (gb_below hG.out hW3.out) _ _) _ _) _ _)⟩
          case measure => simp [intOf]; omega
      · obtain rfl : j = n := by omega
        have hi : (i : Int) ≤ (j : Int) := by omega
        have hTT : lst.take i = l.filter nz := by rw [hT.out, List.take_of_length_le (by rw [← HN.out]; exact Nat.le_refl _)]
        obtain ⟨w9, hrun, ho9, hg9⟩ := run_clear_pts wr base g j c i (c - i) 0 lst hO.out hij
        rw [hTT] at ho9
        go_wp2
        go_ret
        exact ⟨i, rfl, ho9, gb_trans hG.out hg9⟩
end Go.Proofs.Ytckdhahceelckaa.G
namespace Go.Proofs.Ytckdhahceelckaa.G
open Go.RowKit Go.Proofs.YtckdhahceelckaaW.PrintWords Go.Proofs.YtckdhahceelckaaW.PrintLast Go.Proofs.YtckdhahceelckaaW.PrintMore
attribute [local go_sem] max2_mx min2_mn max_two min_two max_three min_three max_four min_four
attribute [local go_sem high] eqA23
set_option linter.unusedVariables false
set_option linter.unusedSimpArgs false
set_option maxHeartbeats 4000000 in
set_option maxRecDepth 100000 in
theorem may_F (p a e : List P3) (r : Int) (A0 A1 A2 : Option Addr) (c0 c1 c2 : Nat) (w : World) (h0 : Rd w A0 p) (h1 : Rd w A1 a) (h2 : Rd w A2 e) (k0 : p.length ≤ c0) (k1 : a.length ≤ c1) (k2 : e.length ≤ c2)
    (hp1 : 0 < p.length) (hp2 : p.length ≤ 32) (ha : a.length ≤ 128) (he : e.length ≤ 128) (hr1 : 0 ≤ r) (hr2 : r ≤ 65536) (hF : p.any (far3 16777216) = true) :
    Calls Try.prog 57 #[.agg #[.slice A0 p.length c0, .slice A1 a.length c1, .slice A2 e.length c2, .int .i64 r]] w fun e w' => e = .returned (.bool false) ∧ Below w.heap.size w w' := by
  have H0 := Lh h0
  have H1 := Lh h1
  have H2 := Lh h2
  have HF := Lh hF
  clear h0 h1 h2 hF 
  obtain ⟨np, hnp⟩ : ∃ n, p.length = n := ⟨_, rfl⟩
  obtain ⟨na, hna⟩ : ∃ n, a.length = n := ⟨_, rfl⟩
  obtain ⟨ne, hne⟩ : ∃ n, e.length = n := ⟨_, rfl⟩
  rw [hnp] at hp1 hp2 k0 ⊢
  rw [hna] at ha k1 ⊢
  rw [hne] at he k2 ⊢
  have HNP := Lh hnp
  have HNA := Lh hna
  have HNE := Lh hne
  clear hnp hna hne
  have t1 : decide ((0 : Int) < (np : Int)) = true := by simp; omega
  have t2 : decide ((np : Int) ≤ 32) = true := by simp; omega
  have t3 : decide (mx (na : Int) (ne : Int) ≤ 128) = true := by simp [mx]; split <;> omega
  have t4 : decide (0 ≤ r) = true := by simp; omega
  have t5 : decide (r ≤ 65536) = true := by simp; omega
  have z := heap_alloc_new w (.cells #[.slice A0 np c0, .slice A1 na c1, .slice A2 ne c2, .int .i64 r] 36)
  have zb := (Below.refl _ w).alloc (Nat.le_refl _) (.cells #[.slice A0 np c0, .slice A1 na c1, .slice A2 ne c2, .int .i64 r] 36)
  obtain ⟨w1, hw1⟩ : ∃ V, w.alloc (.cells #[.slice A0 np c0, .slice A1 na c1, .slice A2 ne c2, .int .i64 r] 36) = V := ⟨_, rfl⟩
  rw [hw1] at z zb
  have hw1' := Lh hw1
  have ZB := Lh zb
  have lt0 : w.heap.size < w1.heap.size := blk_lt z
  clear hw1 zb
  go_enter Try.func57, Try.ntmps57
  go_wp2
  rw [hw1'.out]
  clear hw1'
  have x0 : w1.cell? ⟨w.heap.size, 0, none⟩ = some (.slice A0 np c0) := (blk_cell z 0).trans rfl
  have x1 : w1.cell? ⟨w.heap.size, 1, none⟩ = some (.slice A1 na c1) := (blk_cell z 1).trans rfl
  have x2 : w1.cell? ⟨w.heap.size, 2, none⟩ = some (.slice A2 ne c2) := (blk_cell z 2).trans rfl
  have x3 : w1.cell? ⟨w.heap.size, 3, none⟩ = some (.int .i64 r) := (blk_cell z 3).trans rfl
  have HB := Lh ((Below.refl (w1.heap.size) w1).drew)
  have FF := Lh (show ∀ V, Hid (Below (w1.heap.size) w1 V) → V.cell? ⟨w.heap.size, 0, none⟩ = some (.slice A0 np c0) ∧ V.cell? ⟨w.heap.size, 1, none⟩ = some (.slice A1 na c1) ∧ V.cell? ⟨w.heap.size, 2, none⟩ = some (.slice A2 ne c2) ∧ V.cell? ⟨w.heap.size, 3, none⟩ = some (.int .i64 r) from fun V HB => ⟨(HB.out.cell (p := ⟨w.heap.size, 0, none⟩) (lt0)).trans x0, (HB.out.cell (p := ⟨w.heap.size, 1, none⟩) (lt0)).trans x1, (HB.out.cell (p := ⟨w.heap.size, 2, none⟩) (lt0)).trans x2, (HB.out.cell (p := ⟨w.heap.size, 3, none⟩) (lt0)).trans x3⟩)
  refine start_ (n := 52) (S := fun w' => w'.cell? ⟨w.heap.size, 0, none⟩ = some (.slice A0 np c0) ∧ w'.cell? ⟨w.heap.size, 1, none⟩ = some (.slice A1 na c1) ∧ w'.cell? ⟨w.heap.size, 2, none⟩ = some (.slice A2 ne c2) ∧ w'.cell? ⟨w.heap.size, 3, none⟩ = some (.int .i64 r)) (ds := []) (MT 0 52) (by kernel_rfl) rfl rfl (FF.out _ HB) (fun hHeld => ?_)
  obtain ⟨wd, hwd⟩ : ∃ x, w1.drew = x := ⟨_, rfl⟩
  rw [hwd] at HB hHeld ⊢
  clear hwd
  refine pu_ 0 3 (h := ?_)
  refine ta_ 1 4 hHeld (h := ?_)
  refine pu_ 2 5 (h := ?_)
  refine pu_ 3 6 (h := ?_)
  refine pu_ 4 7 (h := ?_)
  refine pu_ 5 8 (h := ?_)
  refine ta_ 6 9 hHeld (h := ?_)
  refine pu_ 7 10 (h := ?_)
  refine pu_ 8 11 (h := ?_)
  refine pu_ 9 12 (h := ?_)
  refine pu_ 10 13 (h := ?_)
  refine pu_ 11 14 (h := ?_)
  refine pu_ 14 17 (h := ?_)
  refine ta_ 12 15 hHeld (h := ?_)
  refine pu_ 13 16 (h := ?_)
  refine ta_ 15 18 hHeld (h := ?_)
  refine pu_ 16 19 (h := ?_)
  refine pu_ 17 20 (h := ?_)
  refine pu_ 18 21 (h := ?_)
  refine pu_ 19 22 (h := ?_)
  refine pu_ 20 23 (h := ?_)
  refine pu_ 21 24 (h := ?_)
  refine ta_ 22 25 hHeld (h := ?_)
  refine pu_ 23 26 (h := ?_)
  refine pu_ 24 27 (h := ?_)
  refine pu_ 25 28 (h := ?_)
  refine pu_ 26 29 (h := ?_)
  refine ta_ 27 30 hHeld (h := ?_)
  refine pu_ 28 31 (h := ?_)
  refine pu_ 29 32 (h := ?_)
  refine pu_ 30 33 (h := ?_)
  refine pu_ 31 34 (h := ?_)
  refine ta_ 32 35 hHeld (h := ?_)
  refine on_ 33 (some 36) (h := fun K hK => ?_)
  refine gs_ Try.func65 #[.int .i64 16777216] ?_
  with_reducible refine (beyondE_calls _ _).mono ?_
  rintro e' w2 ⟨g, rfl, kg_, hb⟩
  have HB := Lh (HB.out.trans (hb.mono HB.out.size))
  have HGc := Lh kg_
  clear kg_
  clear hb
  refine ⟨_, rfl, ?_⟩
  refine hK.out _ _ (FF.out _ HB) (fun hHeld => ?_)
  clear hK K
  refine no_ (h := ?_)
  refine on_ 34 (some 37) (h := fun K hK => ?_)
  refine gs_ Try.func68 #[.slice A0 np c0, .func (.func 121) #[] #[.pointer (some ⟨g, 0, none⟩)]] ?_
  with_reducible refine (contains_calls' p _ _ _ 16777216 _ true _ HNP.out HF.out (H0.out.below (bthen ZB.out HB.out)) k0 (by omega) HGc.out (by decide) (by decide)).mono ?_
  rintro e' w2 ⟨rfl, hb⟩
  have HB := Lh (HB.out.trans (hb.mono HB.out.size))
  clear HGc
  clear hb
  refine ⟨_, rfl, ?_⟩
  refine hK.out _ _ (FF.out _ HB) (fun hHeld => ?_)
  clear hK K
  refine no_ (h := ?_)
  refine pu_ 35 38 (h := ?_)
  refine pu_ 36 39 (h := ?_)
  refine pu_ 37 40 (h := ?_)
  refine of_ 38 41 (h := ?_)
  refine of_ 39 42 (h := ?_)
  refine of_ 40 43 (h := ?_)
  refine of_ 41 44 (h := ?_)
  refine of_ 42 45 (h := ?_)
  refine pu_ 43 46 (h := ?_)
  refine pu_ 44 47 (h := ?_)
  refine of_ 45 48 (h := ?_)
  refine of_ 46 49 (h := ?_)
  refine of_ 47 50 (h := ?_)
  refine of_ 48 51 (h := ?_)
  refine of_ 49 52 (h := ?_)
  refine pu_ 50 53 (h := ?_)
  refine pu_ 51 2 (h := ?_)
  refine done_ (by kernel_rfl) ?_
  have ZF := Lh (bthen ZB.out HB.out)
  go_wp2
  go_ret
  exact ⟨rfl, ZF.out⟩
set_option maxHeartbeats 4000000 in
set_option maxRecDepth 100000 in
theorem may_G (p a e : List P3) (r : Int) (A0 A1 A2 : Option Addr) (c0 c1 c2 : Nat) (w : World) (h0 : Rd w A0 p) (h1 : Rd w A1 a) (h2 : Rd w A2 e) (k0 : p.length ≤ c0) (k1 : a.length ≤ c1) (k2 : e.length ≤ c2)
    (hp1 : 0 < p.length) (hp2 : p.length ≤ 32) (ha : a.length ≤ 128) (he : e.length ≤ 128) (hr1 : 0 ≤ r) (hr2 : r ≤ 65536) (hF : p.any (far3 16777216) = false) (hG : a.any (far3 1048576) = true) :
    Calls Try.prog 57 #[.agg #[.slice A0 p.length c0, .slice A1 a.length c1, .slice A2 e.length c2, .int .i64 r]] w fun e w' => e = .returned (.bool false) ∧ Below w.heap.size w w' := by
  have H0 := Lh h0
  have H1 := Lh h1
  have H2 := Lh h2
  have HF := Lh hF
  have HG := Lh hG
  clear h0 h1 h2 hF hG
  obtain ⟨np, hnp⟩ : ∃ n, p.length = n := ⟨_, rfl⟩
  obtain ⟨na, hna⟩ : ∃ n, a.length = n := ⟨_, rfl⟩
  obtain ⟨ne, hne⟩ : ∃ n, e.length = n := ⟨_, rfl⟩
  rw [hnp] at hp1 hp2 k0 ⊢
  rw [hna] at ha k1 ⊢
  rw [hne] at he k2 ⊢
  have HNP := Lh hnp
  have HNA := Lh hna
  have HNE := Lh hne
  clear hnp hna hne
  have t1 : decide ((0 : Int) < (np : Int)) = true := by simp; omega
  have t2 : decide ((np : Int) ≤ 32) = true := by simp; omega
  have t3 : decide (mx (na : Int) (ne : Int) ≤ 128) = true := by simp [mx]; split <;> omega
  have t4 : decide (0 ≤ r) = true := by simp; omega
  have t5 : decide (r ≤ 65536) = true := by simp; omega
  have z := heap_alloc_new w (.cells #[.slice A0 np c0, .slice A1 na c1, .slice A2 ne c2, .int .i64 r] 36)
  have zb := (Below.refl _ w).alloc (Nat.le_refl _) (.cells #[.slice A0 np c0, .slice A1 na c1, .slice A2 ne c2, .int .i64 r] 36)
  obtain ⟨w1, hw1⟩ : ∃ V, w.alloc (.cells #[.slice A0 np c0, .slice A1 na c1, .slice A2 ne c2, .int .i64 r] 36) = V := ⟨_, rfl⟩
  rw [hw1] at z zb
  have hw1' := Lh hw1
  have ZB := Lh zb
  have lt0 : w.heap.size < w1.heap.size := blk_lt z
  clear hw1 zb
  go_enter Try.func57, Try.ntmps57
  go_wp2
  rw [hw1'.out]
  clear hw1'
  have x0 : w1.cell? ⟨w.heap.size, 0, none⟩ = some (.slice A0 np c0) := (blk_cell z 0).trans rfl
  have x1 : w1.cell? ⟨w.heap.size, 1, none⟩ = some (.slice A1 na c1) := (blk_cell z 1).trans rfl
  have x2 : w1.cell? ⟨w.heap.size, 2, none⟩ = some (.slice A2 ne c2) := (blk_cell z 2).trans rfl
  have x3 : w1.cell? ⟨w.heap.size, 3, none⟩ = some (.int .i64 r) := (blk_cell z 3).trans rfl
  have HB := Lh ((Below.refl (w1.heap.size) w1).drew)
  have FF := Lh (show ∀ V, Hid (Below (w1.heap.size) w1 V) → V.cell? ⟨w.heap.size, 0, none⟩ = some (.slice A0 np c0) ∧ V.cell? ⟨w.heap.size, 1, none⟩ = some (.slice A1 na c1) ∧ V.cell? ⟨w.heap.size, 2, none⟩ = some (.slice A2 ne c2) ∧ V.cell? ⟨w.heap.size, 3, none⟩ = some (.int .i64 r) from fun V HB => ⟨(HB.out.cell (p := ⟨w.heap.size, 0, none⟩) (lt0)).trans x0, (HB.out.cell (p := ⟨w.heap.size, 1, none⟩) (lt0)).trans x1, (HB.out.cell (p := ⟨w.heap.size, 2, none⟩) (lt0)).trans x2, (HB.out.cell (p := ⟨w.heap.size, 3, none⟩) (lt0)).trans x3⟩)
  refine start_ (n := 52) (S := fun w' => w'.cell? ⟨w.heap.size, 0, none⟩ = some (.slice A0 np c0) ∧ w'.cell? ⟨w.heap.size, 1, none⟩ = some (.slice A1 na c1) ∧ w'.cell? ⟨w.heap.size, 2, none⟩ = some (.slice A2 ne c2) ∧ w'.cell? ⟨w.heap.size, 3, none⟩ = some (.int .i64 r)) (ds := []) (MT 0 52) (by kernel_rfl) rfl rfl (FF.out _ HB) (fun hHeld => ?_)
  obtain ⟨wd, hwd⟩ : ∃ x, w1.drew = x := ⟨_, rfl⟩
  rw [hwd] at HB hHeld ⊢
  clear hwd
  refine pu_ 0 3 (h := ?_)
  refine ta_ 1 4 hHeld (h := ?_)
  refine pu_ 2 5 (h := ?_)
  refine pu_ 3 6 (h := ?_)
  refine pu_ 4 7 (h := ?_)
  refine pu_ 5 8 (h := ?_)
  refine ta_ 6 9 hHeld (h := ?_)
  refine pu_ 7 10 (h := ?_)
  refine pu_ 8 11 (h := ?_)
  refine pu_ 9 12 (h := ?_)
  refine pu_ 10 13 (h := ?_)
  refine pu_ 11 14 (h := ?_)
  refine pu_ 14 17 (h := ?_)
  refine ta_ 12 15 hHeld (h := ?_)
  refine pu_ 13 16 (h := ?_)
  refine ta_ 15 18 hHeld (h := ?_)
  refine pu_ 16 19 (h := ?_)
  refine pu_ 17 20 (h := ?_)
  refine pu_ 18 21 (h := ?_)
  refine pu_ 19 22 (h := ?_)
  refine pu_ 20 23 (h := ?_)
  refine pu_ 21 24 (h := ?_)
  refine ta_ 22 25 hHeld (h := ?_)
  refine pu_ 23 26 (h := ?_)
  refine pu_ 24 27 (h := ?_)
  refine pu_ 25 28 (h := ?_)
  refine pu_ 26 29 (h := ?_)
  refine ta_ 27 30 hHeld (h := ?_)
  refine pu_ 28 31 (h := ?_)
  refine pu_ 29 32 (h := ?_)
  refine pu_ 30 33 (h := ?_)
  refine pu_ 31 34 (h := ?_)
  refine ta_ 32 35 hHeld (h := ?_)
  refine on_ 33 (some 36) (h := fun K hK => ?_)
  refine gs_ Try.func65 #[.int .i64 16777216] ?_
  with_reducible refine (beyondE_calls _ _).mono ?_
  rintro e' w2 ⟨g, rfl, kg_, hb⟩
  have HB := Lh (HB.out.trans (hb.mono HB.out.size))
  have HGc := Lh kg_
  clear kg_
  clear hb
  refine ⟨_, rfl, ?_⟩
  refine hK.out _ _ (FF.out _ HB) (fun hHeld => ?_)
  clear hK K
  refine no_ (h := ?_)
  refine on_ 34 (some 37) (h := fun K hK => ?_)
  refine gs_ Try.func68 #[.slice A0 np c0, .func (.func 121) #[] #[.pointer (some ⟨g, 0, none⟩)]] ?_
  with_reducible refine (contains_calls' p _ _ _ 16777216 _ false _ HNP.out HF.out (H0.out.below (bthen ZB.out HB.out)) k0 (by omega) HGc.out (by decide) (by decide)).mono ?_
  rintro e' w2 ⟨rfl, hb⟩
  have HB := Lh (HB.out.trans (hb.mono HB.out.size))
  clear HGc
  clear hb
  refine ⟨_, rfl, ?_⟩
  refine hK.out _ _ (FF.out _ HB) (fun hHeld => ?_)
  clear hK K
  refine no_ (h := ?_)
  refine pu_ 35 38 (h := ?_)
  refine pu_ 36 39 (h := ?_)
  refine pu_ 37 40 (h := ?_)
  refine pu_ 38 41 (h := ?_)
  refine ta_ 39 42 hHeld (h := ?_)
  refine on_ 40 (some 43) (h := fun K hK => ?_)
  refine gs_ Try.func65 #[.int .i64 1048576] ?_
  with_reducible refine (beyondE_calls _ _).mono ?_
  rintro e' w2 ⟨g2, rfl, kg_, hb⟩
  have HB := Lh (HB.out.trans (hb.mono HB.out.size))
  have HGc := Lh kg_
  clear kg_
  clear hb
  refine ⟨_, rfl, ?_⟩
  refine hK.out _ _ (FF.out _ HB) (fun hHeld => ?_)
  clear hK K
  refine no_ (h := ?_)
  refine on_ 41 (some 44) (h := fun K hK => ?_)
  refine gs_ Try.func68 #[.slice A1 na c1, .func (.func 121) #[] #[.pointer (some ⟨g2, 0, none⟩)]] ?_
  with_reducible refine (contains_calls' a _ _ _ 1048576 _ true _ HNA.out HG.out (H1.out.below (bthen ZB.out HB.out)) k1 (by omega) HGc.out (by decide) (by decide)).mono ?_
  rintro e' w2 ⟨rfl, hb⟩
  have HB := Lh (HB.out.trans (hb.mono HB.out.size))
  clear HGc
  clear hb
  refine ⟨_, rfl, ?_⟩
  refine hK.out _ _ (FF.out _ HB) (fun hHeld => ?_)
  clear hK K
  refine no_ (h := ?_)
  refine pu_ 42 45 (h := ?_)
  refine pu_ 43 46 (h := ?_)
  refine pu_ 44 47 (h := ?_)
  refine of_ 45 48 (h := ?_)
  refine of_ 46 49 (h := ?_)
  refine of_ 47 50 (h := ?_)
  refine of_ 48 51 (h := ?_)
  refine of_ 49 52 (h := ?_)
  refine pu_ 50 53 (h := ?_)
  refine pu_ 51 2 (h := ?_)
  refine done_ (by kernel_rfl) ?_
  have ZF := Lh (bthen ZB.out HB.out)
  go_wp2
  go_ret
  exact ⟨rfl, ZF.out⟩
end Go.Proofs.Ytckdhahceelckaa.G
namespace Go.Proofs.Ytckdhahceelckaa.G
open Go.RowKit Go.Proofs.YtckdhahceelckaaW.PrintWords Go.Proofs.YtckdhahceelckaaW.PrintLast Go.Proofs.YtckdhahceelckaaW.PrintMore
attribute [local go_sem] max2_mx min2_mn max_two min_two max_three min_three max_four min_four
attribute [local go_sem high] eqA23
set_option linter.unusedVariables false
set_option linter.unusedSimpArgs false
theorem mayF_iff (p a e : List P3) (r : Int) : mayF p a e r = true ↔ MayP p a e r := by
  unfold mayF
  simp only [Bool.and_eq_true, decide_eq_true_eq, Bool.not_eq_true']
  constructor
  · rintro ⟨⟨⟨⟨⟨⟨⟨⟨h1, h2⟩, h3⟩, h4⟩, h5⟩, h6⟩, h7⟩, h8⟩, h9⟩
    exact ⟨List.length_pos_iff.1 h1, h2, h3, h4, h5, h6, h7, h8, h9⟩
  · rintro ⟨h1, h2, h3, h4, h5, h6, h7, h8, h9⟩
    exact ⟨⟨⟨⟨⟨⟨⟨⟨List.length_pos_iff.2 h1, h2⟩, h3⟩, h4⟩, h5⟩, h6⟩, h7⟩, h8⟩, h9⟩
theorem may_all {w : World} {v : Value} {p a e : List P3} {r : Int} (h : CoreV w v p a e r) : MaySays w v (mayF p a e r) := fun w' hb => by
  obtain ⟨A0, A1, A2, c0, c1, c2, rfl, h0, h1, h2, h3, h4, h5⟩ := (h.below hb).out
  have no : ∀ (P : Prop), P → (MayP p a e r → ¬P) → mayF p a e r = false := fun P hP hn => by
    cases hm : mayF p a e r with
    | false => rfl
    | true => exact absurd hP (hn ((mayF_iff p a e r).1 hm))
  rcases Nat.eq_zero_or_pos p.length with e0 | p0
  · rw [no _ e0 (fun m => by have := List.length_pos_iff.2 m.p0; omega)]
    exact may_A p a e r A0 A1 A2 c0 c1 c2 w' h0.1 h1.1 h2.1 h3 h4 h5 false false false e0
  rcases Nat.lt_or_ge 32 p.length with e1 | p1
  · rw [no _ e1 (fun m => by have := m.p1; omega)]
    exact may_B p a e r A0 A1 A2 c0 c1 c2 w' h0.1 h1.1 h2.1 h3 h4 h5 false false false p0 e1
  by_cases e2 : 128 < a.length ∨ 128 < e.length
  · rw [no _ e2 (fun m => by have := m.a1; have := m.e1; omega)]
    exact may_C p a e r A0 A1 A2 c0 c1 c2 w' h0.1 h1.1 h2.1 h3 h4 h5 false false false p0 p1 e2
  have a1 : a.length ≤ 128 := by omega
  have e1 : e.length ≤ 128 := by omega
  rcases Int.lt_or_le r 0 with e3 | r0
  · rw [no _ e3 (fun m => by have := m.r0; omega)]
    exact may_D p a e r A0 A1 A2 c0 c1 c2 w' h0.1 h1.1 h2.1 h3 h4 h5 false false false p0 p1 a1 e1 e3
  rcases Int.lt_or_le 65536 r with e4 | r1
  · rw [no _ e4 (fun m => by have := m.r1; omega)]
    exact may_E p a e r A0 A1 A2 c0 c1 c2 w' h0.1 h1.1 h2.1 h3 h4 h5 false false false p0 p1 a1 e1 r0 e4
  cases hF : p.any (far3 16777216) with
  | true =>
    rw [no _ hF (fun m => by rw [m.pf]; decide)]
    exact may_F p a e r A0 A1 A2 c0 c1 c2 w' h0.1 h1.1 h2.1 h3 h4 h5 p0 p1 a1 e1 r0 r1 hF
  | false =>
    cases hG : a.any (far3 1048576) with
    | true =>
      rw [no _ hG (fun m => by rw [m.af]; decide)]
      exact may_G p a e r A0 A1 A2 c0 c1 c2 w' h0.1 h1.1 h2.1 h3 h4 h5 p0 p1 a1 e1 r0 r1 hF hG
    | false =>
      have hB : mayF p a e r = !(e.any (far3 1048576)) := by
        unfold mayF
        rw [hF, hG, decide_eq_true p0, decide_eq_true p1, decide_eq_true a1, decide_eq_true e1, decide_eq_true r0, decide_eq_true r1]
        rfl
      rw [hB]
      exact may_yes p a e r A0 A1 A2 c0 c1 c2 w' h0.1 h1.1 h2.1 h3 h4 h5 _ false false p0 p1 a1 e1 r0 r1 hF hG rfl
end Go.Proofs.Ytckdhahceelckaa.G
namespace Go.Proofs.Ytckdhahceelckaa.G
open Go.RowKit Go.Proofs.YtckdhahceelckaaW.PrintWords Go.Proofs.YtckdhahceelckaaW.PrintLast Go.Proofs.YtckdhahceelckaaW.PrintMore
attribute [local go_sem] max2_mx min2_mn max_two min_two max_three min_three max_four min_four
attribute [local go_sem high] eqA23
set_option linter.unusedVariables false
set_option linter.unusedSimpArgs false
theorem RdB.set4' {w : World} {A : Option Addr} {l : List P3} (h : RdB w A l) {g : Nat} (hne : ∀ ad, A = some ad → ad.block ≠ g) (x y z u : Value) : RdB (set4 w g x y z u) A l :=
  h.blk (by simp) fun ad e => heap_set4 w g ad.block (hne ad e) x y z u
/-- the state of Apart's loop: two cores, the answer's block, the best so far, the candidates -/
structure ASt (w W : World) (ca cb : Array Value) (OB : Nat) (o : P3 × Int) (A : Option Addr) (C : List P3) : Prop where
  below : Below w.heap.size w W
  z0 : W.heap[w.heap.size]? = some (.cells ca 36 (0, 0))
  z1 : W.heap[w.heap.size + 1]? = some (.cells cb 36 (0, 0))
  z2 : W.heap[w.heap.size + 2]? = some (.cells #[.int .i64 0, .int .i64 0, .int .i64 0, .int .i64 0] 40 (0, 0))
  ob : W.heap[OB]? = some (.cells #[.int .i64 o.1.x, .int .i64 o.1.y, .int .i64 o.1.z, .int .i64 o.2] 40 (0, 0))
  rd : RdB W A C
  lo : w.heap.size + 2 < OB
  ne : ∀ ad, A = some ad → ad.block ≠ OB
theorem ASt.then {w W V : World} {ca cb : Array Value} {OB : Nat} {o : P3 × Int} {A : Option Addr} {C : List P3} (h : ASt w W ca cb OB o A C) (hb : Below W.heap.size W V) : ASt w V ca cb OB o A C :=
  ⟨bthen h.below hb, (hb.block _ (blk_lt h.z0)).trans h.z0, (hb.block _ (blk_lt h.z1)).trans h.z1, (hb.block _ (blk_lt h.z2)).trans h.z2, (hb.block _ (blk_lt h.ob)).trans h.ob, h.rd.below hb, h.lo, h.ne⟩
theorem ASt.put {w W : World} {ca cb : Array Value} {OB : Nat} {o : P3 × Int} {A : Option Addr} {C : List P3} (h : ASt w W ca cb OB o A C) (x y z g : Int) : ASt w (set4 W OB (.int .i64 x) (.int .i64 y) (.int .i64 z) (.int .i64 g)) ca cb OB (⟨x, y, z⟩, g) A C := by
  have lo := h.lo
  exact ⟨below_set4 h.below (by omega) _ _ _ _, (heap_set4 W OB _ (by omega) _ _ _ _).trans h.z0, (heap_set4 W OB _ (by omega) _ _ _ _).trans h.z1, (heap_set4 W OB _ (by omega) _ _ _ _).trans h.z2, blk4_set h.ob _ _ _ _, h.rd.set4' h.ne _ _ _ _, h.lo, h.ne⟩
end Go.Proofs.Ytckdhahceelckaa.G
namespace Go.Proofs.Ytckdhahceelckaa.G
open Go.RowKit Go.Proofs.YtckdhahceelckaaW.PrintWords Go.Proofs.YtckdhahceelckaaW.PrintLast Go.Proofs.YtckdhahceelckaaW.PrintMore
attribute [local go_sem] max2_mx min2_mn max_two min_two max_three min_three max_four min_four
attribute [local go_sem high] eqA23
set_option linter.unusedVariables false
set_option linter.unusedSimpArgs false
set_option maxHeartbeats 2000000 in
theorem apart_noa (v0 v1 v2 v3 u0 u1 u2 u3 : Value) (w : World) (ha : MaySays w (.agg #[v0, v1, v2, v3]) false) :
    Calls Try.prog 20 #[.agg #[v0, v1, v2, v3], .agg #[u0, u1, u2, u3]] w fun e w' => e = .returned (.tuple #[.agg #[.int .i64 0, .int .i64 0, .int .i64 0, .int .i64 0], .bool false]) ∧ Below w.heap.size w w' := by
  have HA := Lh ha
  clear ha
  have Hb0 := three1 w (.cells #[v0, v1, v2, v3] 36) (.cells #[u0, u1, u2, u3] 36) (.cells #[.int .i64 0, .int .i64 0, .int .i64 0, .int .i64 0] 40)
  have Hr0 := three2 w (.cells #[v0, v1, v2, v3] 36) (.cells #[u0, u1, u2, u3] 36) (.cells #[.int .i64 0, .int .i64 0, .int .i64 0, .int .i64 0] 40)
  have HW3 : Below w.heap.size w (((w.alloc (.cells #[v0, v1, v2, v3] 36)).alloc (.cells #[u0, u1, u2, u3] 36)).alloc (.cells #[.int .i64 0, .int .i64 0, .int .i64 0, .int .i64 0] 40)) := (((Below.refl _ w).alloc (Nat.le_refl _) _).alloc (by simp) _).alloc (by simp; omega) _
  have HB0 := Lh Hb0
  have HR0 := Lh Hr0
  clear Hb0 Hr0
  go_enter Try.func20, Try.ntmps20
  go_wp2_with fail
  obtain ⟨w3, hw3⟩ : ∃ w3, ((w.alloc (.cells #[v0, v1, v2, v3] 36)).alloc (.cells #[u0, u1, u2, u3] 36)).alloc (.cells #[.int .i64 0, .int .i64 0, .int .i64 0, .int .i64 0] 40) = w3 := ⟨_, rfl⟩
  rw [hw3] at HB0 HR0 HW3 ⊢
  clear hw3
  refine (HA.out _ HW3).mono ?_
  rintro e w4 ⟨rfl, hb4⟩
  have Hr4 := (hb4.block _ (blk_lt HR0.out)).trans HR0.out
  have HW4 := bthen HW3 hb4
  clear HB0 HR0 HW3 hb4
  have v0 : w4.cell? ⟨w.heap.size + 1 + 1, 0, none⟩ = some (.int .i64 0) := (blk_cell Hr4 0).trans rfl
  have v1 : w4.cell? ⟨w.heap.size + 1 + 1, 1, none⟩ = some (.int .i64 0) := (blk_cell Hr4 1).trans rfl
  have v2 : w4.cell? ⟨w.heap.size + 1 + 1, 2, none⟩ = some (.int .i64 0) := (blk_cell Hr4 2).trans rfl
  have v3 : w4.cell? ⟨w.heap.size + 1 + 1, 3, none⟩ = some (.int .i64 0) := (blk_cell Hr4 3).trans rfl
  have f0 : w4.frozen? ⟨w.heap.size + 1 + 1, 0, none⟩ = false := blk_frozen Hr4 0
  have f1 : w4.frozen? ⟨w.heap.size + 1 + 1, 1, none⟩ = false := blk_frozen Hr4 1
  have f2 : w4.frozen? ⟨w.heap.size + 1 + 1, 2, none⟩ = false := blk_frozen Hr4 2
  have f3 : w4.frozen? ⟨w.heap.size + 1 + 1, 3, none⟩ = false := blk_frozen Hr4 3
  obtain ⟨V, hV⟩ : ∃ V, set4 w4 (w.heap.size + 1 + 1) (.int .i64 0) (.int .i64 0) (.int .i64 0) (.int .i64 0) = V := ⟨_, rfl⟩
  have HV : V.heap[w.heap.size + 1 + 1]? = some (.cells #[.int .i64 0, .int .i64 0, .int .i64 0, .int .i64 0] 40 (0, 0)) := by rw [← hV]; exact blk4_set Hr4 _ _ _ _
  have HBV : Below w.heap.size w V := by rw [← hV]; exact below_set4 HW4 (by omega) _ _ _ _
  have t0 : V.cell? ⟨w.heap.size + 1 + 1, 0, none⟩ = some (.int .i64 0) := (blk_cell HV 0).trans rfl
  have t1 : V.cell? ⟨w.heap.size + 1 + 1, 1, none⟩ = some (.int .i64 0) := (blk_cell HV 1).trans rfl
  have t2 : V.cell? ⟨w.heap.size + 1 + 1, 2, none⟩ = some (.int .i64 0) := (blk_cell HV 2).trans rfl
  have t3 : V.cell? ⟨w.heap.size + 1 + 1, 3, none⟩ = some (.int .i64 0) := (blk_cell HV 3).trans rfl
  go_wp2
  (try rw [hV])
  exact bodyPost_ret (v := .tuple #[.agg #[.int .i64 0, .int .i64 0, .int .i64 0, .int .i64 0], .bool false]) (by simp [results, Try.results20, go_sem, t0, t1, t2, t3]) rfl ⟨rfl, HBV⟩
/-- Apart's whole answer -/
def apartS (p a e : List P3) (r : Int) (q b f : List P3) (s : Int) : (P3 × Int) × Bool := if (mayF p a e r && mayF q b f s) = true then (apartF p a e r q b f s, true) else ((⟨0, 0, 0⟩, 0), false)
theorem apart_all {w : World} {v u : Value} {p a e : List P3} {r : Int} {q b f : List P3} {s : Int} (hv : CoreV w v p a e r) (hu : CoreV w u q b f s) (R : (P3 × Int) × Bool) (hR : apartS p a e r q b f s = R) :
    Calls Try.prog 20 #[v, u] w fun en w' => en = .returned (.tuple #[.agg #[.int .i64 R.1.1.x, .int .i64 R.1.1.y, .int .i64 R.1.1.z, .int .i64 R.1.2], .bool R.2]) ∧ Below w.heap.size w w' := by
  subst hR
  have ha := may_all hv
  have hb := may_all hu
  obtain ⟨A0, A1, A2, c0, c1, c2, hve, _⟩ := hv.out
  obtain ⟨B0, B1, B2, d0, d1, d2, hue, _⟩ := hu.out
  unfold apartS
  cases h1 : mayF p a e r with
  | false =>
    rw [h1] at ha
    subst hve hue
    exact apart_noa _ _ _ _ _ _ _ _ w ha
  | true =>
    cases h2 : mayF q b f s with
    | false =>
      rw [h1] at ha
      rw [h2] at hb
      subst hve hue
      exact apart_nob _ _ _ _ _ _ _ _ w ha hb
    | true => exact apart_calls p a e r q b f s v u w hv hu ((mayF_iff p a e r).1 h1) ((mayF_iff q b f s).1 h2) _ rfl
end Go.Proofs.Ytckdhahceelckaa.G
namespace Go.Proofs.Ytckdhahceelckaa.G
open Go.RowKit Go.Proofs.YtckdhahceelckaaW.PrintWords Go.Proofs.YtckdhahceelckaaW.PrintLast Go.Proofs.YtckdhahceelckaaW.PrintMore
set_option linter.unusedVariables false
set_option linter.unusedSimpArgs false
/-- a core: points, axes, edges, radius -/
structure Cr where
  p : List P3
  a : List P3
  e : List P3
  r : Int
/-- a value speaks of a core -/
def CrV (w : World) (v : Value) (c : Cr) : Prop := CoreV w v c.p c.a c.e c.r
theorem CrV.below {w w1 : World} {v : Value} {c : Cr} (h : CrV w v c) (hb : Below w.heap.size w w1) : CrV w1 v c := CoreV.below h hb
def Cr.may (c : Cr) : Bool := mayF c.p c.a c.e c.r
abbrev Cr0 : Cr := ⟨[], [], [], 0⟩
/-- narrow.Apart of any two -/
def apS (c d : Cr) : (P3 × Int) × Bool := apartS c.p c.a c.e c.r d.p d.a d.e d.r
theorem apS_may (c d : Cr) : (apS c d).2 = (c.may && d.may) := by
  unfold apS apartS Cr.may
  split
  · rename_i h; exact h.symm
  · rename_i h; simpa using h
theorem apS_val {c d : Cr} (hc : c.may = true) (hd : d.may = true) : apS c d = (apartF c.p c.a c.e c.r d.p d.a d.e d.r, true) := by
  unfold apS apartS Cr.may at *
  rw [hc, hd]; rfl
theorem Cr.mayP {c : Cr} (h : c.may = true) : MayP c.p c.a c.e c.r := (mayF_iff ..).1 h
theorem mayOne {x : P3} (h : in3 16777216 x) {r : Int} (h0 : 0 ≤ r) (h1 : r ≤ 65536) : (⟨[x], [], [], r⟩ : Cr).may = true :=
  (mayF_iff ..).2 ⟨by simp, by simp, by simp, by simp, h0, h1, by simpa using (far3_iff _ _ (by decide) (by decide)).2 h, rfl, rfl⟩
/-- may a way be? -/
def wayOk (y : P3) : Bool := decide (mx (mx y.x y.y) y.z ≤ 4194304) && decide (mn (mn y.x y.y) y.z ≥ -4194304)
theorem wayOk_iff (y : P3) : wayOk y = true ↔ in3 4194304 y := by
  have a := mx_facts y.x y.y
  have b := mx_facts (mx y.x y.y) y.z
  have c := mn_facts y.x y.y
  have d := mn_facts (mn y.x y.y) y.z
  unfold wayOk in3
  simp only [Bool.and_eq_true, decide_eq_true_eq]
  omega
def smay (c : Cr) (y : P3) : Bool := c.may && decide (c.p.length ≤ 16) && wayOk y
theorem smay_iff (c : Cr) (y : P3) : smay c y = true ↔ c.may = true ∧ c.p.length ≤ 16 ∧ in3 4194304 y := by
  unfold smay
  rw [Bool.and_eq_true, Bool.and_eq_true, decide_eq_true_eq, wayOk_iff, and_assoc]
/-- a part of the way -/
def partP (y : P3) (k : Int) : P3 := ⟨(y.x * k).tdiv 16, (y.y * k).tdiv 16, (y.z * k).tdiv 16⟩
def withF (l m : List P3) : List P3 := ((l ++ m).filter nz).take 128
def acrossF (y : P3) (l : List P3) : List P3 := l.map fun e => short3 (cross3 e (short3 y))
def trailF (c : Cr) (y : P3) (k : Int) : Cr :=
  if smay c y = true ∧ 0 ≤ k ∧ k ≤ 16 then ⟨c.p ++ c.p.map (plusI (partP y k)), withF c.a (acrossF y c.e), withF c.e [short3 y], c.r⟩ else Cr0
theorem trailF_yes {c : Cr} {y : P3} {k : Int} (h : smay c y = true) (h0 : 0 ≤ k) (h1 : k ≤ 16) :
    trailF c y k = ⟨c.p ++ c.p.map (plusI (partP y k)), withF c.a (acrossF y c.e), withF c.e [short3 y], c.r⟩ := if_pos ⟨h, h0, h1⟩
theorem tdiv16 (x k : Int) (h0 : 0 ≤ k) (h1 : k ≤ 16) : (0 ≤ x → 0 ≤ (x * k).tdiv 16 ∧ (x * k).tdiv 16 ≤ x) ∧ (x ≤ 0 → x ≤ (x * k).tdiv 16 ∧ (x * k).tdiv 16 ≤ 0) := by
  constructor
  · intro hx
    have e0 := Int.mul_nonneg hx h0
    have e1 := Int.mul_le_mul_of_nonneg_left h1 hx
    rw [Int.tdiv_eq_ediv_of_nonneg e0]
    omega
  · intro hx
    have e0 := Int.mul_nonneg (show 0 ≤ -x by omega) h0
    have e1 := Int.mul_le_mul_of_nonneg_left h1 (show 0 ≤ -x by omega)
    rw [Int.neg_mul] at e0 e1
    rw [← Int.neg_neg (x * k), Int.neg_tdiv, Int.tdiv_eq_ediv_of_nonneg e0]
    omega
theorem partP_bd (y : P3) (k : Int) (h0 : 0 ≤ k) (h1 : k ≤ 16) (B : Int) (hy : in3 B y) (hB : 0 ≤ B) : in3 B (partP y k) := by
  have a := tdiv16 y.x k h0 h1
  have b := tdiv16 y.y k h0 h1
  have c := tdiv16 y.z k h0 h1
  unfold in3 partP at *
  simp only
  omega
theorem partP_16 (y : P3) : partP y 16 = y := by
  unfold partP
  simp
theorem partP_0 (y : P3) : partP y 0 = ⟨0, 0, 0⟩ := by
  unfold partP
  simp
theorem withF_len (l m : List P3) : (withF l m).length ≤ 128 := by
  unfold withF; rw [List.length_take]; exact Nat.min_le_left _ _
theorem withF_in {l m : List P3} {B : Int} (hl : ∀ x ∈ l, in3 B x) (hm : ∀ x ∈ m, in3 B x) : ∀ x ∈ withF l m, in3 B x := by
  intro x hx
  have h := List.mem_of_mem_take hx
  rcases List.mem_append.1 (List.mem_filter.1 h).1 with h | h
  · exact hl x h
  · exact hm x h
theorem acrossF_in (y : P3) (l : List P3) : ∀ x ∈ acrossF y l, in3 1048576 x := by
  intro x hx
  obtain ⟨e, _, rfl⟩ := List.mem_map.1 hx
  exact short3_in _
theorem any_far_of {l : List P3} {n : Int} (h0 : 0 ≤ n) (h1 : n ≤ 9223372036854775807) (h : ∀ x ∈ l, in3 n x) : l.any (far3 n) = false := by
  rw [List.any_eq_false]
  intro x hx
  rw [(far3_iff _ _ h0 h1).2 (h x hx)]; simp
/-- what a core takes up on its way may be, where its last place may -/
theorem trail_may {c : Cr} {y : P3} (h : smay c y = true) {k : Int} (h0 : 0 ≤ k) (h1 : k ≤ 16) (hp : ∀ x ∈ c.p, in3 16777216 (plusI (partP y k) x)) : (trailF c y k).may = true := by
  rw [trailF_yes h h0 h1]
  obtain ⟨hm, hl, hy⟩ := (smay_iff ..).1 h
  have m := Cr.mayP hm
  refine (mayF_iff ..).2 ⟨?_, ?_, withF_len _ _, withF_len _ _, m.r0, m.r1, ?_, ?_, ?_⟩
  · have := m.p0
    simp [this]
  · simp only [List.length_append, List.length_map]; omega
  · refine any_far_of (by decide) (by decide) ?_
    intro x hx
    rcases List.mem_append.1 hx with hx | hx
    · exact far_in (by decide) (by decide) m.pf x hx
    · obtain ⟨z, hz, rfl⟩ := List.mem_map.1 hx
      exact hp z hz
  · exact any_far_of (by decide) (by decide) (withF_in (far_in (by decide) (by decide) m.af) (acrossF_in _ _))
  · refine any_far_of (by decide) (by decide) (withF_in (far_in (by decide) (by decide) m.ef) ?_)
    intro x hx
    rw [List.mem_singleton] at hx
    subst hx
    exact short3_in _
theorem trail_pts {c : Cr} {y : P3} (h : smay c y = true) {k : Int} (h0 : 0 ≤ k) (h1 : k ≤ 16) (ht : (trailF c y k).may = true) : ∀ x ∈ c.p, in3 16777216 (plusI (partP y k) x) := by
  rw [trailF_yes h h0 h1] at ht
  intro x hx
  exact far_in (by decide) (by decide) (Cr.mayP ht).pf _ (List.mem_append_right _ (List.mem_map_of_mem hx))
/-- the last one has the furthest points -/
theorem trail_last {c : Cr} {y : P3} (h : smay c y = true) (ht : (trailF c y 16).may = true) {k : Int} (h0 : 0 ≤ k) (h1 : k ≤ 16) : (trailF c y k).may = true := by
  refine trail_may h h0 h1 fun x hx => ?_
  have e := trail_pts h (by decide) (by decide) ht x hx
  rw [partP_16] at e
  have f := far_in (by decide) (by decide) (Cr.mayP ((smay_iff ..).1 h).1).pf x hx
  have a := tdiv16 y.x k h0 h1
  have b := tdiv16 y.y k h0 h1
  have c := tdiv16 y.z k h0 h1
  unfold in3 plusI partP at *
  simp only at *
  omega
/-- the search for the last free part -/
def castL (c : Cr) (y : P3) (d : Cr) : Nat → Nat → P3 × Int → Nat × (P3 × Int)
  | 0, k, x => (k, x)
  | n + 1, k, x => if x.2 < 0 then (k, x) else if (apS (trailF c y ((k : Int) + 1)) d).1.2 < 0 then (k, x) else castL c y d n (k + 1) (apS (trailF c y ((k : Int) + 1)) d).1
def castOk (c : Cr) (y : P3) (d : Cr) : Bool := (apS c d).2 && smay c y && (apS (trailF c y 16) d).2
def castF (c : Cr) (y : P3) (d : Cr) : (Nat × (P3 × Int)) × Bool :=
  if castOk c y d = true then (castL c y d 16 0 (apS c d).1, true) else ((0, (⟨0, 0, 0⟩, 0)), false)
theorem castOk_iff (c : Cr) (y : P3) (d : Cr) : castOk c y d = true ↔ c.may = true ∧ d.may = true ∧ smay c y = true ∧ (trailF c y 16).may = true := by
  unfold castOk
  rw [apS_may, apS_may]
  simp only [Bool.and_eq_true]
  constructor
  · rintro ⟨⟨⟨a, b⟩, c⟩, d, e⟩; exact ⟨a, b, c, d⟩
  · rintro ⟨a, b, c, d⟩; exact ⟨⟨⟨a, b⟩, c⟩, d, b⟩
theorem castL_le (c : Cr) (y : P3) (d : Cr) (n : Nat) : ∀ (k : Nat) (x : P3 × Int), k ≤ (castL c y d n k x).1 ∧ (castL c y d n k x).1 ≤ k + n := by
  induction n with
  | zero => intro k x; exact ⟨Nat.le_refl _, Nat.le_refl _⟩
  | succ n ih =>
    intro k x
    rw [castL]
    split
    · exact ⟨Nat.le_refl _, Nat.le_add_right _ _⟩
    · split
      · exact ⟨Nat.le_refl _, Nat.le_add_right _ _⟩
      · have := ih (k + 1) (apS (trailF c y ((k : Int) + 1)) d).1
        omega
theorem castF_le (c : Cr) (y : P3) (d : Cr) : (castF c y d).1.1 ≤ 16 := by
  unfold castF
  split
  · have := castL_le c y d 16 0 (apS c d).1
    show (castL c y d 16 0 (apS c d).1).1 ≤ 16
    omega
  · exact Nat.zero_le _
/-- what the last free part is: its answer is that of the trail up to there -/
theorem castL_spec (c : Cr) (y : P3) (d : Cr) (n : Nat) : ∀ (k : Nat) (x : P3 × Int), 
    (castL c y d n k x = (k, x)) ∨ (0 ≤ (castL c y d n k x).2.2 ∧ k < (castL c y d n k x).1 ∧ (castL c y d n k x).2 = (apS (trailF c y ((castL c y d n k x).1 : Int)) d).1) := by
  induction n with
  | zero => intro k x; exact .inl rfl
  | succ n ih =>
    intro k x
    rw [castL]
    split
    · exact .inl rfl
    · split
      · exact .inl rfl
      · rename_i h1 h2
        right
        rcases ih (k + 1) (apS (trailF c y ((k : Int) + 1)) d).1 with h | ⟨h3, h4, h5⟩
        · rw [h]
          refine ⟨by simpa using h2, Nat.lt_succ_self k, ?_⟩
          simp
        · exact ⟨h3, by omega, h5⟩
/-- the place of the least one of those that are, the first one of equals -/
def leastF {α : Type} (z : α) (ask : Nat → α × Bool) (lt : α → α → Bool) : Nat → Int × α
  | 0 => (-1, z)
  | i + 1 => if (ask i).2 = true ∧ ((leastF z ask lt i).1 < 0 ∨ lt (ask i).1 (leastF z ask lt i).2 = true) then ((i : Int), (ask i).1) else leastF z ask lt i
/-- what Ray asks of one -/
def rayAsk (c : Cr) (y : P3) (d : Cr) : Nat × Bool := ((castF c y d).1.1, (castF c y d).2 && (decide ((castF c y d).1.1 < 16) || decide ((castF c y d).1.2.2 < 0)))
def rayL (c : Cr) (y : P3) (l : List Cr) : Int × Nat := leastF 0 (fun i => match l[i]? with | some d => rayAsk c y d | none => (0, false)) (fun a b => decide (a < b)) l.length
def rayF (x y : P3) (l : List Cr) : (Int × Nat) × Bool :=
  if smay ⟨[x], [], [], 0⟩ y = true then (if (rayL ⟨[x], [], [], 0⟩ y l).1 < 0 then ((-1, 16), false) else (rayL ⟨[x], [], [], 0⟩ y l, true)) else ((-1, 0), false)
end Go.Proofs.Ytckdhahceelckaa.G
namespace Go.Proofs.Ytckdhahceelckaa.G
open Go.RowKit Go.Proofs.YtckdhahceelckaaW.PrintWords Go.Proofs.YtckdhahceelckaaW.PrintLast Go.Proofs.YtckdhahceelckaaW.PrintMore
attribute [local go_sem] max2_mx min2_mn max_two min_two max_three min_three max_four min_four
attribute [local go_sem high] eqA23
set_option linter.unusedVariables false
set_option linter.unusedSimpArgs false
/-- half sizes of NarrowBricks -/
def hb_ (h : P3) : Prop := 1 ≤ h.x ∧ h.x ≤ 1000 ∧ 1 ≤ h.y ∧ h.y ≤ 1000 ∧ 1 ≤ h.z ∧ h.z ≤ 1000
end Go.Proofs.Ytckdhahceelckaa.G
namespace Go.Proofs.Ytckdhahceelckaa.G
open Go.RowKit Go.Proofs.YtckdhahceelckaaW.PrintWords Go.Proofs.YtckdhahceelckaaW.PrintLast Go.Proofs.YtckdhahceelckaaW.PrintMore
attribute [local go_sem] max2_mx min2_mn max_two min_two max_three min_three max_four min_four
attribute [local go_sem high] eqA23
set_option linter.unusedVariables false
set_option linter.unusedSimpArgs false
theorem CSt.set {w1 W : World} {v : Value} {l : List P3} {keep : List Nat} (h : CSt w1 W v l keep) {g : Nat} (hm : g ∈ keep) (hg : w1.heap.size ≤ g) (j : Nat) (u : Value) : CSt w1 (W.setCell ⟨g, j, none⟩ u) v l keep :=
  ⟨own_setCell h.own (fun e => (h.ne g hm).1 e.symm) u, h.below.setCell (p := ⟨g, j, none⟩) hg u, fun k hk => ⟨(h.ne k hk).1, by simpa using (h.ne k hk).2⟩⟩
end Go.Proofs.Ytckdhahceelckaa.G
namespace Go.Proofs.Ytckdhahceelckaa.G
open Go.RowKit Go.Proofs.YtckdhahceelckaaW.PrintWords Go.Proofs.YtckdhahceelckaaW.PrintLast Go.Proofs.YtckdhahceelckaaW.PrintMore
set_option linter.unusedVariables false
set_option linter.unusedSimpArgs false
theorem any_far {n : Int} (h0 : 0 ≤ n) (h1 : n ≤ 9223372036854775807) {l : List P3} (h : ∀ x ∈ l, in3 n x) : l.any (far3 n) = false := by
  rw [List.any_eq_false]
  intro x hx
  rw [(far3_iff n x h0 h1).2 (h x hx)]
  decide
theorem place_in3 {m : M3} {at_ x : P3} (hm : mOk m) (ha : atOk at_) (hx : in3 65536 x) : in3 8388608 (placePt m at_ x) := by
  obtain ⟨_, _, _, h⟩ := turn_ok2 hm (times_in2 hx)
  obtain ⟨_, _, _, h2⟩ := add_in h ha
  exact down_in h2
theorem waysF_in (m : M3) (l : List P3) : ∀ x ∈ waysF m l, in3 1048576 x := by
  intro x hx
  unfold waysF at hx
  obtain ⟨h1, _⟩ := List.mem_filter.1 hx
  obtain ⟨y, _, rfl⟩ := List.mem_map.1 h1
  exact short3_in _
theorem CoreIs.may {s : Shp} (hs : ShpOk s) {p a e : List P3} (h : CoreIs s p a e) {q : P7} (hm : mOk (rowsF q.turn)) (ha : atOk q.at_) :
    MayP (p.map (placePt (rowsF q.turn) q.at_)) (waysF (rowsF q.turn) a) (waysF (rowsF q.turn) e) s.radius := by
  have hB := h.bounds hs
  refine ⟨fun e' => ?_, ?_, ?_, ?_, ?_, ?_, any_far (by decide) (by decide) fun x hx => ?_, any_far (by decide) (by decide) (waysF_in _ _), any_far (by decide) (by decide) (waysF_in _ _)⟩
  · have := hB.p0
    rw [List.map_eq_nil_iff] at e'
    rw [e'] at this
    simp at this
  · rw [List.length_map]; have := hB.p1; omega
  · have := hB.a1; have := waysF_len (rowsF q.turn) a; omega
  · have := hB.e1; have := waysF_len (rowsF q.turn) e; omega
  · have := hs.r0; omega
  · have := hs.r1; omega
  · obtain ⟨y, hy, rfl⟩ := List.mem_map.1 hx
    exact in3_le (by decide) (place_in3 hm ha (hB.pin y hy))
/-- both of Cores' answers may be -/
theorem rightPose_ok (p : P7) : mOk (rowsF (rightPose p).turn) ∧ atOk (rightPose p).at_ := by
  simp only [rightPose]
  exact ⟨rows_mOk (wholeF_q32 (partQ p.turn)), partV_at p.at_⟩
theorem nearF_ok (near : Int) (way : P3) (p : P7) : atOk (nearF near way (rightPose p).at_) := by
  have a := partF_bd p.at_.x 4398046511104 (by decide)
  have b := partF_bd p.at_.y 4398046511104 (by decide)
  have c := partF_bd p.at_.z 4398046511104 (by decide)
  have n := pickF_bd near 131072 (by decide)
  have x := pickF_bd way.x (2 * (1 + pickF near 131072)) (by omega)
  have y := pickF_bd way.y (2 * (1 + pickF near 131072)) (by omega)
  have z := pickF_bd way.z (2 * (1 + pickF near 131072)) (by omega)
  simp only [rightPose, partV, nearF, atOk, in3]
  omega
/-- what a value of Cores is for Apart -/
theorem CoreAt.may {s : Shp} (hs : ShpOk s) {q : P7} (hm : mOk (rowsF q.turn)) (ha : atOk q.at_) {w : World} {v : Value} (h : CoreAt s q w v) : ∃ p a e, CoreV w v p a e s.radius ∧ MayP p a e s.radius := by
  obtain ⟨p, a, e, h1, h2⟩ := h
  exact ⟨_, _, _, h2, h1.may hs hm ha⟩
end Go.Proofs.Ytckdhahceelckaa.G
namespace Go.Proofs.Ytckdhahceelckaa.G
open Go.RowKit Go.Proofs.YtckdhahceelckaaW.PrintWords
set_option linter.unusedVariables false
set_option linter.unusedSimpArgs false
theorem dblS {p : P3} (h : in3 524288 p) (h0 : p ≠ ⟨0, 0, 0⟩) : dbl3 p = dbl3 (two3 p) := by
  rw [dbl3, dif_neg]
  rintro (h1 | h1)
  · rw [(far3_iff _ _ (by omega) (by omega)).2 h] at h1; cases h1
  · exact h0 h1
theorem dbl_end {p : P3} (h : ¬ in3 524288 p) : dbl3 p = p := by
  rw [dbl3, dif_pos]
  left
  cases hf : far3 524288 p
  · exact absurd ((far3_iff _ _ (by omega) (by omega)).1 hf) h
  · rfl
abbrev E1 : P3 := ⟨1048576, 0, 0⟩
abbrev E2 : P3 := ⟨0, 1048576, 0⟩
abbrev E3 : P3 := ⟨0, 0, 1048576⟩
theorem long_1 : long3 ⟨1, 0, 0⟩ = E1 := by
  have e : short3 ⟨1, 0, 0⟩ = ⟨1, 0, 0⟩ := by
    have b : bare3 ⟨1, 0, 0⟩ = ⟨1, 0, 0⟩ := by unfold bare3 div3 gcd3; simp
    rw [short3_eq _ (by unfold in3; simp) (by simp), b, halve3_id _ (by unfold in3; simp), b]
  have s : ∀ x : Int, 1 ≤ x → x ≤ 524288 → dbl3 ⟨x, 0, 0⟩ = dbl3 ⟨2 * x, 0, 0⟩ := fun x h1 h2 => by
    have := dblS (p := ⟨x, 0, 0⟩) (by unfold in3; simp only; omega) (by simp; omega)
    rw [this]; unfold two3; simp
  unfold long3
  rw [e]
  refine (s 1 (by omega) (by omega)).trans ?_
  refine (s 2 (by omega) (by omega)).trans ?_
  refine (s 4 (by omega) (by omega)).trans ?_
  refine (s 8 (by omega) (by omega)).trans ?_
  refine (s 16 (by omega) (by omega)).trans ?_
  refine (s 32 (by omega) (by omega)).trans ?_
  refine (s 64 (by omega) (by omega)).trans ?_
  refine (s 128 (by omega) (by omega)).trans ?_
  refine (s 256 (by omega) (by omega)).trans ?_
  refine (s 512 (by omega) (by omega)).trans ?_
  refine (s 1024 (by omega) (by omega)).trans ?_
  refine (s 2048 (by omega) (by omega)).trans ?_
  refine (s 4096 (by omega) (by omega)).trans ?_
  refine (s 8192 (by omega) (by omega)).trans ?_
  refine (s 16384 (by omega) (by omega)).trans ?_
  refine (s 32768 (by omega) (by omega)).trans ?_
  refine (s 65536 (by omega) (by omega)).trans ?_
  refine (s 131072 (by omega) (by omega)).trans ?_
  refine (s 262144 (by omega) (by omega)).trans ?_
  refine (s 524288 (by omega) (by omega)).trans ?_
  exact dbl_end (by unfold in3; simp)
theorem sizes_x : fl3 E1 = 1048576 ∧ ce3 E1 = 1048576 := by
  have e : dotI E1 E1 = 1099511627776 := by unfold dotI; simp
  have a : fl3 E1 = 1048576 := by
    unfold fl3
    rw [e]
    have := isq_unique (1099511627776 : Int).toNat 1048576 (by decide) (by decide)
    rw [← this]; rfl
  refine ⟨a, ?_⟩
  unfold ce3
  rw [a, e]
  simp
theorem long_zero : long3 ⟨0, 0, 0⟩ = ⟨0, 0, 0⟩ := by
  unfold long3
  rw [short3_zero, dbl3, dif_pos (.inr rfl)]
end Go.Proofs.Ytckdhahceelckaa.G
namespace Go.Proofs.Ytckdhahceelckaa.G
open Go.RowKit Go.Proofs.YtckdhahceelckaaW.PrintWords Go.Proofs.YtckdhahceelckaaW.PrintLast Go.Proofs.YtckdhahceelckaaW.PrintMore
set_option linter.unusedVariables false
set_option linter.unusedSimpArgs false
theorem p3_of {p : P3} {a b c : Int} (h : p.x = a ∧ p.y = b ∧ p.z = c) : p = ⟨a, b, c⟩ := by
  cases p
  simp_all
theorem short_b (n : Int) (h0 : 1 ≤ n) (h1 : n ≤ 1000) (hbn : bare3 ⟨n, 0, 0⟩ = ⟨1, 0, 0⟩) : short3 ⟨n, 0, 0⟩ = ⟨1, 0, 0⟩ := by
  have h3 : halve3 ⟨1, 0, 0⟩ = ⟨1, 0, 0⟩ := by rw [halve3, dif_neg (by decide +kernel)]
  have b2 : bare3 ⟨1, 0, 0⟩ = ⟨1, 0, 0⟩ := p3_of (by decide +kernel)
  have hf : far3 4398046511104 ⟨n, 0, 0⟩ = false := (far3_iff _ _ (by decide) (by decide)).2 (by unfold in3; simp only; omega)
  unfold short3
  rw [if_neg (by
    rw [hf]
    rintro (h | h)
    · cases h
    · injection h with h _ _; omega), hbn, h3, b2]
theorem short_x (n : Int) (h0 : 1 ≤ n) (h1 : n ≤ 20) : short3 ⟨n, 0, 0⟩ = ⟨1, 0, 0⟩ := by
  have hb : ∀ m ∈ List.range 20, (bare3 ⟨((m + 1 : Nat) : Int), 0, 0⟩).x = 1 ∧ (bare3 ⟨((m + 1 : Nat) : Int), 0, 0⟩).y = 0 ∧ (bare3 ⟨((m + 1 : Nat) : Int), 0, 0⟩).z = 0 := by decide +kernel
  have hbn : bare3 ⟨n, 0, 0⟩ = ⟨1, 0, 0⟩ := by
    have := p3_of (hb (n.toNat - 1) (List.mem_range.2 (by omega)))
    have e : ((n.toNat - 1 + 1 : Nat) : Int) = n := by omega
    rwa [e] at this
  exact short_b n h0 (by omega) hbn
theorem short_zero : short3 ⟨0, 0, 0⟩ = ⟨0, 0, 0⟩ := by unfold short3; rw [if_pos (.inr rfl)]
def exB : Cr := ⟨[⟨20, 0, 0⟩], [], [], 2⟩
theorem ex_gaps (m ra : Int) (l : List P3) (hl : l = [] ∧ m = 0 ∨ l = [⟨m, 0, 0⟩]) (h0 : 0 ≤ m) (h1 : m ≤ 20) : gapsF E1 ⟨0, 0, 0⟩ l ra ⟨20, 0, 0⟩ [] 2 = (20 - m - ra - 2, -20 - ra - 2) := by
  have d0 : dot3 E1 ⟨0, 0, 0⟩ = 0 := by decide +kernel
  have dm : dot3 E1 ⟨m, 0, 0⟩ = 1048576 * m := by
    rw [dot3_eq E1 ⟨m, 0, 0⟩ 1048576 1048576 (by unfold in3 E1; decide) (by unfold in3; simp only; omega) (by decide)]
    unfold dotI E1
    simp only
    omega
  have d20 : dot3 E1 ⟨20, 0, 0⟩ = 20971520 := by decide +kernel
  have ha : reachF E1 ⟨0, 0, 0⟩ l = (0, 1048576 * m) := by
    rcases hl with ⟨rfl, rfl⟩ | rfl
    · simp [reachF, d0]
    · simp only [reachF, List.foldl_cons, List.foldl_nil, rstep, d0, dm, mn, mx, Prod.mk.injEq]
      constructor <;> split <;> omega
  have hb : reachF E1 ⟨20, 0, 0⟩ [] = (20971520, 20971520) := by simp [reachF, d20]
  obtain ⟨hf, hc⟩ := sizes_x
  unfold gapsF
  rw [ha, hb, hf, hc]
  unfold gapV
  simp only
  rw [if_pos (by omega), if_neg (by omega)]
  simp only [Prod.mk.injEq]
  omega
theorem ex_step {m ra : Int} {l L : List P3} (hl : l = [] ∧ m = 0 ∨ l = [⟨m, 0, 0⟩]) (h0 : 0 ≤ m) (h1 : m ≤ 20) (hL : ∀ x ∈ L, long3 x = E1 ∨ long3 x = ⟨0, 0, 0⟩) :
    (apF ⟨0, 0, 0⟩ l ra ⟨20, 0, 0⟩ [] 2 (⟨1, 0, 0⟩ :: L)).1 = (E1, 20 - m - ra - 2) := by
  have g := ex_gaps m ra l hl h0 h1
  have hE : E1 ≠ ⟨0, 0, 0⟩ := by
    intro e
    have : E1.x = 0 := by rw [e]
    revert this
    decide +kernel
  have s1 : ∀ s : (P3 × Int) × Bool, (s.2 = true ∨ s = ((E1, 20 - m - ra - 2), false)) → ∀ x, long3 x = E1 → apStep ⟨0, 0, 0⟩ l ra ⟨20, 0, 0⟩ [] 2 s x = ((E1, 20 - m - ra - 2), false) := by
    intro s hs x hx
    unfold apStep
    rw [hx, if_neg hE, g]
    rcases hs with hs | rfl
    · simp only [hs, true_or, if_true]
      rw [if_neg (by omega)]
    · simp only [Bool.false_eq_true, false_or, Int.lt_irrefl, if_false]
      rw [if_neg (by omega)]
  have all : ∀ L : List P3, (∀ x ∈ L, long3 x = E1 ∨ long3 x = ⟨0, 0, 0⟩) → L.foldl (apStep ⟨0, 0, 0⟩ l ra ⟨20, 0, 0⟩ [] 2) ((E1, 20 - m - ra - 2), false) = ((E1, 20 - m - ra - 2), false) := by
    intro L
    induction L with
    | nil => intro _; rfl
    | cons x L ih =>
      intro h
      rw [List.foldl_cons]
      have : apStep ⟨0, 0, 0⟩ l ra ⟨20, 0, 0⟩ [] 2 ((E1, 20 - m - ra - 2), false) x = ((E1, 20 - m - ra - 2), false) := by
        rcases h x (by simp) with hx | hx
        · exact s1 _ (.inr rfl) x hx
        · unfold apStep; rw [hx, if_pos rfl]
      rw [this]
      exact ih fun y hy => h y (by simp [hy])
  unfold apF
  rw [List.foldl_cons, s1 _ (.inl rfl) _ long_1, all L hL]
theorem long_E (x : P3) (h : x = ⟨1, 0, 0⟩ ∨ x = ⟨0, 0, 0⟩) : long3 x = E1 ∨ long3 x = ⟨0, 0, 0⟩ := by
  rcases h with rfl | rfl
  · exact .inl long_1
  · exact .inr long_zero
theorem exB_may : exB.may = true := mayOne (by unfold in3; decide) (by decide) (by decide)
theorem ex_first (ra : Int) (h0 : 0 ≤ ra) (h1 : ra ≤ 2) : apS ⟨[⟨0, 0, 0⟩], [], [], ra⟩ exB = ((E1, 18 - ra), true) := by
  rw [apS_val (mayOne (by unfold in3; decide) h0 (by omega)) exB_may]
  have hr : rawC [⟨0, 0, 0⟩] [] [] [⟨20, 0, 0⟩] [] [] = [⟨1, 0, 0⟩] := by
    rw [rawC_balls, show minus3 ⟨20, 0, 0⟩ ⟨0, 0, 0⟩ = ⟨20, 0, 0⟩ from p3_of (by decide +kernel), short_x 20 (by decide) (by decide)]
  show (apartF [⟨0, 0, 0⟩] [] [] ra [⟨20, 0, 0⟩] [] [] 2, true) = _
  unfold apartF
  rw [hr]
  have := ex_step (m := 0) (ra := ra) (l := []) (L := []) (.inl ⟨rfl, rfl⟩) (by decide) (by decide) (fun x hx => by cases hx)
  rw [show [(⟨0, 0, 0⟩ : P3)].tail = [] from rfl, show [(⟨0, 0, 0⟩ : P3)].headD ⟨0, 0, 0⟩ = ⟨0, 0, 0⟩ from rfl, show [(⟨20, 0, 0⟩ : P3)].tail = [] from rfl, show [(⟨20, 0, 0⟩ : P3)].headD ⟨0, 0, 0⟩ = ⟨20, 0, 0⟩ from rfl, this]
  simp only [Prod.mk.injEq, and_true, true_and]
  omega
theorem ex_smay (s ra : Int) (h0 : 0 ≤ ra) (h1 : ra ≤ 2) (hs0 : 1 ≤ s) (hs1 : s ≤ 10) : smay ⟨[⟨0, 0, 0⟩], [], [], ra⟩ ⟨16 * s, 0, 0⟩ = true :=
  (smay_iff ..).2 ⟨mayOne (by unfold in3; decide) h0 (by omega), by simp, by unfold in3; simp only; omega⟩
theorem ex_part (s k : Int) : partP ⟨16 * s, 0, 0⟩ k = ⟨s * k, 0, 0⟩ := by
  unfold partP
  rw [Int.mul_assoc, Int.mul_tdiv_cancel_left _ (by decide)]
  simp
theorem ex_may (s ra : Int) (h0 : 0 ≤ ra) (h1 : ra ≤ 2) (hs0 : 1 ≤ s) (hs1 : s ≤ 10) (k : Int) (hk0 : 0 ≤ k) (hk1 : k ≤ 16) : (trailF ⟨[⟨0, 0, 0⟩], [], [], ra⟩ ⟨16 * s, 0, 0⟩ k).may = true := by
  refine trail_may (ex_smay s ra h0 h1 hs0 hs1) hk0 hk1 fun x hx => ?_
  have : x = ⟨0, 0, 0⟩ := by simpa using hx
  subst this
  have e1 := Int.mul_le_mul hs1 hk1 hk0 (by decide)
  have e0 := Int.mul_nonneg (show 0 ≤ s by omega) hk0
  rw [ex_part]
  unfold in3 plusI
  simp only
  omega
theorem ex_raw (m ra : Int) (h0 : 0 ≤ m) (h1 : m ≤ 20) : apartF [⟨0, 0, 0⟩, ⟨m, 0, 0⟩] [] [⟨1, 0, 0⟩] ra [⟨20, 0, 0⟩] [] [] 2 = (E1, 18 - m - ra) := by
  have hx : cross3 (short3 (cross3 ⟨1, 0, 0⟩ ⟨1, 0, 0⟩)) ⟨1, 0, 0⟩ = ⟨0, 0, 0⟩ := by
    rw [show cross3 ⟨1, 0, 0⟩ ⟨1, 0, 0⟩ = ⟨0, 0, 0⟩ from p3_of (by decide +kernel), short_zero]; exact p3_of (by decide +kernel)
  have hx0 : cross3 (short3 (cross3 ⟨1, 0, 0⟩ ⟨0, 0, 0⟩)) ⟨1, 0, 0⟩ = ⟨0, 0, 0⟩ := by
    rw [show cross3 ⟨1, 0, 0⟩ ⟨0, 0, 0⟩ = ⟨0, 0, 0⟩ from p3_of (by decide +kernel), short_zero]; exact p3_of (by decide +kernel)
  have e1 : short3 (minus3 ⟨20, 0, 0⟩ ⟨0, 0, 0⟩) = ⟨1, 0, 0⟩ := by rw [show minus3 ⟨20, 0, 0⟩ ⟨0, 0, 0⟩ = ⟨20, 0, 0⟩ from p3_of (by decide +kernel), short_x 20 (by decide) (by decide)]
  have e2 : short3 (minus3 ⟨20, 0, 0⟩ ⟨m, 0, 0⟩) = ⟨1, 0, 0⟩ ∨ short3 (minus3 ⟨20, 0, 0⟩ ⟨m, 0, 0⟩) = ⟨0, 0, 0⟩ := by
    rw [minus3_eq _ _ (by unfold in3; decide) (by unfold in3; simp only; omega)]
    by_cases h : m = 20
    · subst h; right; exact short_zero
    · left; exact short_x (20 - m) (by omega) (by omega)
  obtain ⟨u, hu⟩ : ∃ u, short3 (minus3 ⟨20, 0, 0⟩ ⟨m, 0, 0⟩) = u := ⟨_, rfl⟩
  rw [hu] at e2
  have hr : rawC [⟨0, 0, 0⟩, ⟨m, 0, 0⟩] [] [⟨1, 0, 0⟩] [⟨20, 0, 0⟩] [] [] = [⟨1, 0, 0⟩, ⟨0, 0, 0⟩, u, cross3 (short3 (cross3 ⟨1, 0, 0⟩ u)) ⟨1, 0, 0⟩] := by
    unfold rawC edgeW pointW roundW
    rw [if_neg (by simp [mn])]
    simp only [List.cons_append, List.nil_append, List.append_nil, List.flatMap_cons, List.flatMap_nil, List.map_cons, List.map_nil, e1, hx, hu]
  unfold apartF
  rw [hr]
  have := ex_step (m := m) (ra := ra) (l := [⟨m, 0, 0⟩]) (L := [⟨0, 0, 0⟩, u, cross3 (short3 (cross3 ⟨1, 0, 0⟩ u)) ⟨1, 0, 0⟩]) (.inr rfl) h0 h1 (fun x hx' => by
    simp only [List.mem_cons, List.not_mem_nil, or_false] at hx'
    rcases hx' with rfl | rfl | rfl
    · exact long_E _ (.inr rfl)
    · exact long_E _ e2
    · rcases e2 with e | e
      · rw [e, hx]; exact long_E _ (.inr rfl)
      · rw [e, hx0]; exact long_E _ (.inr rfl))
  simp only [List.headD_cons, List.tail_cons]
  rw [this]
  simp only [Prod.mk.injEq, true_and]
  omega
theorem ex_trail (s ra : Int) (h0 : 0 ≤ ra) (h1 : ra ≤ 2) (hs0 : 1 ≤ s) (hs1 : s ≤ 10) (y : P3) (hy : y = ⟨16 * s, 0, 0⟩) (hsh : short3 y = ⟨1, 0, 0⟩) (k : Int) (hk0 : 0 ≤ k) (hk1 : k ≤ 16) (hm : s * k ≤ 20) : apS (trailF ⟨[⟨0, 0, 0⟩], [], [], ra⟩ y k) exB = ((E1, 18 - s * k - ra), true) := by
  have hsm : smay ⟨[⟨0, 0, 0⟩], [], [], ra⟩ y = true := by rw [hy]; exact ex_smay s ra h0 h1 hs0 hs1
  have hmay : (trailF ⟨[⟨0, 0, 0⟩], [], [], ra⟩ y k).may = true := by rw [hy]; exact ex_may s ra h0 h1 hs0 hs1 k hk0 hk1
  have hpart : partP y k = ⟨s * k, 0, 0⟩ := by rw [hy]; exact ex_part s k
  rw [apS_val hmay exB_may, trailF_yes hsm hk0 hk1, hpart]
  have hm0 := Int.mul_nonneg (show 0 ≤ s by omega) hk0
  obtain ⟨m, hmm⟩ : ∃ m, s * k = m := ⟨_, rfl⟩
  rw [hmm] at hm hm0 ⊢
  have hw : withF [] [(⟨1, 0, 0⟩ : P3)] = [⟨1, 0, 0⟩] := by
    have : nz ⟨1, 0, 0⟩ = true := by decide +kernel
    unfold withF
    simp [this]
  have ha : withF [] (acrossF y []) = [] := rfl
  have hp : plusI ⟨m, 0, 0⟩ ⟨0, 0, 0⟩ = ⟨m, 0, 0⟩ := by unfold plusI; simp
  simp only [List.map_cons, List.map_nil, List.cons_append, List.nil_append, hsh, hw, ha, hp, exB]
  rw [ex_raw m ra hm0 hm]
theorem castL_go {c d : Cr} {y : P3} {n k : Nat} {x z : P3 × Int} (hx : 0 ≤ x.2) (hz : (apS (trailF c y ((k : Int) + 1)) d).1 = z) (h : 0 ≤ z.2) : castL c y d (n + 1) k x = castL c y d n (k + 1) z := by
  rw [castL, if_neg (by omega), hz, if_neg (by omega)]
theorem castL_stop {c d : Cr} {y : P3} {n k : Nat} {x z : P3 × Int} (hz : (apS (trailF c y ((k : Int) + 1)) d).1 = z) (h : z.2 < 0) : castL c y d (n + 1) k x = (k, x) := by
  rw [castL, hz, if_pos h]
  split <;> rfl
def exA : Cr := ⟨[⟨0, 0, 0⟩], [], [], 2⟩
theorem ex_castA : castF exA ⟨32, 0, 0⟩ exB = ((8, (E1, 0)), true) := by
  have hsh : short3 ⟨32, 0, 0⟩ = ⟨1, 0, 0⟩ := by
    exact short_b 32 (by decide) (by decide) (p3_of (by decide +kernel))
  have hok : castOk exA ⟨32, 0, 0⟩ exB = true := (castOk_iff ..).2 ⟨mayOne (by unfold in3; decide) (by decide) (by decide), exB_may, ex_smay 2 2 (by decide) (by decide) (by decide) (by decide), ex_may 2 2 (by decide) (by decide) (by decide) (by decide) 16 (by decide) (by decide)⟩
  have ht : ∀ k : Nat, k ≤ 8 → (apS (trailF exA ⟨32, 0, 0⟩ ((k : Int) + 1)) exB).1 = (E1, 14 - 2 * (k : Int)) := by
    intro k hk
    have := ex_trail 2 2 (by decide) (by decide) (by decide) (by decide) ⟨32, 0, 0⟩ rfl hsh ((k : Int) + 1) (by omega) (by omega) (by omega)
    show (apS (trailF ⟨[⟨0, 0, 0⟩], [], [], 2⟩ ⟨32, 0, 0⟩ ((k : Int) + 1)) exB).1 = _
    rw [this]
    simp only [Prod.mk.injEq, true_and]
    omega
  have gen : ∀ j k : Nat, j + k = 8 → castL exA ⟨32, 0, 0⟩ exB (j + 8) k (E1, 16 - 2 * (k : Int)) = (8, (E1, 0)) := by
    intro j
    induction j with
    | zero =>
      intro k hk
      have : k = 8 := by omega
      subst this
      exact (castL_stop (ht 8 (by decide)) (by decide)).trans rfl
    | succ j ih =>
      intro k hk
      rw [show j + 1 + 8 = (j + 8) + 1 by omega, castL_go (by simp only; omega) (ht k (by omega)) (by simp only; omega)]
      have := ih (k + 1) (by omega)
      rw [← this]
      congr 1
      simp only [Prod.mk.injEq, true_and]
      omega
  unfold castF
  rw [if_pos hok, show (apS exA exB).1 = (E1, 16) from by show (apS ⟨[⟨0, 0, 0⟩], [], [], 2⟩ exB).1 = _; rw [ex_first 2 (by decide) (by decide)]; rfl]
  have := gen 8 0 (by decide)
  rw [← this]
  rfl
def exP : Cr := ⟨[⟨0, 0, 0⟩], [], [], 0⟩
theorem ex_castP : castF exP ⟨160, 0, 0⟩ exB = ((1, (E1, 8)), true) := by
  have hsh : short3 ⟨160, 0, 0⟩ = ⟨1, 0, 0⟩ := by
    exact short_b 160 (by decide) (by decide) (p3_of (by decide +kernel))
  have hok : castOk exP ⟨160, 0, 0⟩ exB = true := (castOk_iff ..).2 ⟨mayOne (by unfold in3; decide) (by decide) (by decide), exB_may, ex_smay 10 0 (by decide) (by decide) (by decide) (by decide), ex_may 10 0 (by decide) (by decide) (by decide) (by decide) 16 (by decide) (by decide)⟩
  have ht : ∀ k : Nat, k ≤ 1 → (apS (trailF exP ⟨160, 0, 0⟩ ((k : Int) + 1)) exB).1 = (E1, 8 - 10 * (k : Int)) := by
    intro k hk
    have := ex_trail 10 0 (by decide) (by decide) (by decide) (by decide) ⟨160, 0, 0⟩ rfl hsh ((k : Int) + 1) (by omega) (by omega) (by omega)
    show (apS (trailF ⟨[⟨0, 0, 0⟩], [], [], 0⟩ ⟨160, 0, 0⟩ ((k : Int) + 1)) exB).1 = _
    rw [this]
    simp only [Prod.mk.injEq, true_and]
    omega
  unfold castF
  rw [if_pos hok, show (apS exP exB).1 = (E1, 18) from by show (apS ⟨[⟨0, 0, 0⟩], [], [], 0⟩ exB).1 = _; rw [ex_first 0 (by decide) (by decide)]; rfl]
  rw [show (16 : Nat) = 15 + 1 from rfl, castL_go (by decide) (ht 0 (by decide)) (by decide), show (15 : Nat) = 14 + 1 from rfl, castL_stop (ht 1 (by decide)) (by decide)]
  rfl
theorem ex_ray : rayF ⟨0, 0, 0⟩ ⟨160, 0, 0⟩ [exB] = ((0, 1), true) := by
  have h : rayAsk exP ⟨160, 0, 0⟩ exB = (1, true) := by unfold rayAsk; rw [ex_castP]; rfl
  have hl : rayL exP ⟨160, 0, 0⟩ [exB] = (0, 1) := by
    unfold rayL
    show leastF 0 _ _ 1 = _
    rw [leastF]
    have e : (match [exB][0]? with | some d => rayAsk exP ⟨160, 0, 0⟩ d | none => (0, false)) = (1, true) := h
    simp only [leastF, e, List.getElem?_cons_zero, h]
    simp
  unfold rayF
  rw [if_pos (show smay ⟨[⟨0, 0, 0⟩], [], [], 0⟩ ⟨160, 0, 0⟩ = true from ex_smay 10 0 (by decide) (by decide) (by decide) (by decide))]
  show (if (rayL exP ⟨160, 0, 0⟩ [exB]).1 < 0 then ((-1, 16), false) else (rayL exP ⟨160, 0, 0⟩ [exB], true)) = _
  rw [hl]; rfl
end Go.Proofs.Ytckdhahceelckaa.G
namespace Go.Proofs.Ytckdhahceelckaa.G
open Go.RowKit Go.Proofs.YtckdhahceelckaaW.PrintWords
set_option linter.unusedVariables false
theorem min_ratio (f g : P3 → Int) : ∀ (l : List P3), (∀ p ∈ l, 0 ≤ f p) → (∃ p ∈ l, g p < 0) → ∃ p ∈ l, g p < 0 ∧ ∀ o ∈ l, g o < 0 → f p * (-(g o)) ≤ f o * (-(g p))
  | [], _, h => by obtain ⟨p, hp, _⟩ := h; simp at hp
  | x :: l, hf, h => by
    have hf' : ∀ p ∈ l, 0 ≤ f p := fun p hp => hf p (List.mem_cons_of_mem _ hp)
    by_cases hl : ∃ p ∈ l, g p < 0
    · obtain ⟨p, hp, gp, hmin⟩ := min_ratio f g l hf' hl
      by_cases hx : g x < 0 ∧ f x * (-(g p)) ≤ f p * (-(g x))
      · refine ⟨x, List.mem_cons_self, hx.1, fun o ho go => ?_⟩
        rcases List.mem_cons.1 ho with rfl | ho
        · exact Int.le_refl _
        · have h1 := Int.mul_le_mul_of_nonneg_right hx.2 (show 0 ≤ -(g o) by omega)
          have h2 := Int.mul_le_mul_of_nonneg_right (hmin o ho go) (show 0 ≤ -(g x) by omega)
          refine Int.le_of_mul_le_mul_right (a := -(g p)) ?_ (by omega)
          have e1 : f x * -(g o) * -(g p) = f x * -(g p) * -(g o) := by grind
          have e2 : f p * -(g x) * -(g o) = f p * -(g o) * -(g x) := by grind
          have e3 : f o * -(g x) * -(g p) = f o * -(g p) * -(g x) := by grind
          omega
      · refine ⟨p, List.mem_cons_of_mem _ hp, gp, fun o ho go => ?_⟩
        rcases List.mem_cons.1 ho with rfl | ho
        · have : ¬ (f o * (-(g p)) ≤ f p * (-(g o))) := fun h' => hx ⟨go, h'⟩
          omega
        · exact hmin o ho go
    · obtain ⟨p, hp, gp⟩ := h
      rcases List.mem_cons.1 hp with rfl | hp
      · refine ⟨p, List.mem_cons_self, gp, fun o ho go => ?_⟩
        rcases List.mem_cons.1 ho with rfl | ho
        · exact Int.le_refl _
        · exact absurd ⟨o, ho, go⟩ hl
      · exact absurd ⟨p, hp, gp⟩ hl
def combI (α β : Int) (n m : P3) : P3 := ⟨α * n.x + β * m.x, α * n.y + β * m.y, α * n.z + β * m.z⟩
theorem dot_comb (α β : Int) (n m v : P3) : dotI (combI α β n m) v = α * dotI n v + β * dotI m v := by unfold dotI combI; grind
theorem rotate_ (l : List P3) (a n m : P3) (hn : ∀ p ∈ l, 0 ≤ dotI n (subI p a)) (hz : ∀ p ∈ l, dotI n (subI p a) = 0 → dotI m (subI p a) = 0) (hex : ∃ p ∈ l, dotI m (subI p a) ≠ 0) :
    ∃ α β p, 0 < α ∧ p ∈ l ∧ dotI m (subI p a) ≠ 0 ∧ (∀ o ∈ l, 0 ≤ dotI (combI α β n m) (subI o a)) ∧ dotI (combI α β n m) (subI p a) = 0 := by
  obtain ⟨t, ht, hneg⟩ : ∃ t : Int, (t = 1 ∨ t = -1) ∧ ∃ p ∈ l, t * dotI m (subI p a) < 0 := by
    obtain ⟨p, hp, h⟩ := hex
    rcases Int.lt_or_gt_of_ne h with h | h
    · exact ⟨1, .inl rfl, p, hp, by omega⟩
    · exact ⟨-1, .inr rfl, p, hp, by omega⟩
  obtain ⟨p, hp, gp, hmin⟩ := min_ratio (fun o => dotI n (subI o a)) (fun o => t * dotI m (subI o a)) l hn hneg
  (try simp only at gp hmin)
  refine ⟨-(t * dotI m (subI p a)), t * dotI n (subI p a), p, by omega, hp, ?_, ?_, ?_⟩
  · intro e
    rw [e, Int.mul_zero] at gp
    omega
  · intro o ho
    rw [dot_comb]
    have hfo := hn o ho
    have hfp := hn p hp
    by_cases hg : t * dotI m (subI o a) < 0
    · have := hmin o ho hg
      have e1 : -(t * dotI m (subI p a)) * dotI n (subI o a) = dotI n (subI o a) * -(t * dotI m (subI p a)) := by grind
      have e2 : t * dotI n (subI p a) * dotI m (subI o a) = -(dotI n (subI p a) * -(t * dotI m (subI o a))) := by grind
      rw [e1, e2]
      omega
    · have h1 := Int.mul_nonneg (show 0 ≤ -(t * dotI m (subI p a)) by omega) hfo
      have h2 := Int.mul_nonneg hfp (show 0 ≤ t * dotI m (subI o a) by omega)
      have e2 : t * dotI n (subI p a) * dotI m (subI o a) = dotI n (subI p a) * (t * dotI m (subI o a)) := by grind
      rw [e2]
      omega
  · rw [dot_comb]
    grind
theorem min_at (f : P3 → Int) : ∀ (l : List P3), l ≠ [] → ∃ p ∈ l, ∀ o ∈ l, f p ≤ f o
  | [], h => absurd rfl h
  | [x], _ => ⟨x, by simp, fun o ho => by simp at ho; rw [ho]; exact Int.le_refl _⟩
  | x :: y :: l, _ => by
    obtain ⟨p, hp, h⟩ := min_at f (y :: l) (by simp)
    by_cases hx : f x ≤ f p
    · refine ⟨x, List.mem_cons_self, fun o ho => ?_⟩
      rcases List.mem_cons.1 ho with rfl | ho
      · exact Int.le_refl _
      · exact Int.le_trans hx (h o ho)
    · refine ⟨p, List.mem_cons_of_mem _ hp, fun o ho => ?_⟩
      rcases List.mem_cons.1 ho with rfl | ho
      · omega
      · exact h o ho
theorem sub_ne {a b : P3} (h : b ≠ a) : subI b a ≠ ⟨0, 0, 0⟩ := fun e => h (by
  unfold subI at e
  simp only [P3.mk.injEq] at e
  cases a; cases b
  simp only [P3.mk.injEq]
  simp only at e
  omega)
/-- a plane that all points lie on one side of, and three points in it -/
theorem support {l : List P3} (hin : ∀ p ∈ l, in3 65536 p) (hf : ¬ FlatP l) : ∃ a b c n, a ∈ l ∧ b ∈ l ∧ c ∈ l ∧ n ≠ ⟨0, 0, 0⟩ ∧ (∀ p ∈ l, 0 ≤ dotI n (subI p a)) ∧ dotI n (subI b a) = 0 ∧ dotI n (subI c a) = 0 ∧ crossI (subI b a) (subI c a) ≠ ⟨0, 0, 0⟩ := by
  have hne : l ≠ [] := by
    rintro rfl
    exact hf (flat_of (l := []) (n := ⟨1, 0, 0⟩) (a := ⟨0, 0, 0⟩) (by simp) (by simp) (by simp))
  obtain ⟨a, ha, hmin⟩ := min_at (fun p => p.x) l hne
  (try simp only at hmin)
  -- an edge
  obtain ⟨n1, b, hn1, hb, hba, hs1, hz1⟩ : ∃ n1 b, n1 ≠ (⟨0, 0, 0⟩ : P3) ∧ b ∈ l ∧ b ≠ a ∧ (∀ p ∈ l, 0 ≤ dotI n1 (subI p a)) ∧ dotI n1 (subI b a) = 0 := by
    have d0 : ∀ p : P3, dotI ⟨1, 0, 0⟩ (subI p a) = p.x - a.x := fun p => by unfold dotI subI; simp only; omega
    have d1 : ∀ p : P3, dotI ⟨0, 1, 0⟩ (subI p a) = p.y - a.y := fun p => by unfold dotI subI; simp only; omega
    by_cases h : ∃ b ∈ l, b ≠ a ∧ dotI ⟨1, 0, 0⟩ (subI b a) = 0
    · obtain ⟨b, hb, hba, hz⟩ := h
      exact ⟨⟨1, 0, 0⟩, b, by simp, hb, hba, fun p hp => by rw [d0]; have := hmin p hp; omega, hz⟩
    · obtain ⟨α, β, b, hα, hb, hm, hs, hz⟩ := rotate_ l a ⟨1, 0, 0⟩ ⟨0, 1, 0⟩ (fun p hp => by rw [d0]; have := hmin p hp; omega)
        (fun p hp h0 => by
          by_cases e : p = a
          · rw [e, d1]; omega
          · exact absurd ⟨p, hp, e, h0⟩ h)
        (by
          by_cases hx : ∃ p ∈ l, dotI ⟨0, 1, 0⟩ (subI p a) ≠ 0
          · exact hx
          · refine absurd (flat_of hin (n := ⟨0, 1, 0⟩) (a := a) (by simp) fun o ho => ?_) hf
            by_cases e : dotI ⟨0, 1, 0⟩ (subI o a) = 0
            · exact e
            · exact absurd ⟨o, ho, e⟩ hx)
      refine ⟨combI α β ⟨1, 0, 0⟩ ⟨0, 1, 0⟩, b, ?_, hb, ?_, hs, hz⟩
      · intro e
        unfold combI at e
        simp only [P3.mk.injEq] at e
        omega
      · rintro rfl
        rw [d1] at hm
        omega
  -- a face
  have hU := sub_ne hba
  by_cases h : ∃ c ∈ l, dotI n1 (subI c a) = 0 ∧ crossI (subI b a) (subI c a) ≠ ⟨0, 0, 0⟩
  · obtain ⟨c, hc, hz, hx⟩ := h
    exact ⟨a, b, c, n1, ha, hb, hc, hn1, hs1, hz1, hz, hx⟩
  · have hm : ∀ v, dotI (crossI n1 (subI b a)) v = dotI n1 (crossI (subI b a) v) := fun v => by unfold dotI crossI; grind
    have z0 : ∀ n : P3, dotI n ⟨0, 0, 0⟩ = 0 := fun n => by unfold dotI; simp
    have hmn : crossI n1 (subI b a) ≠ ⟨0, 0, 0⟩ := by
      intro e
      have h1 := lagI n1 (subI b a)
      rw [crI_cross, e, z0, hz1] at h1
      have h2 := Int.mul_pos (dotI_pos _ hn1) (dotI_pos _ hU)
      omega
    obtain ⟨α, β, c, hα, hc, hmc, hs, hz⟩ := rotate_ l a n1 (crossI n1 (subI b a)) hs1
      (fun p hp h0 => by
        rw [hm]
        by_cases e : crossI (subI b a) (subI p a) = ⟨0, 0, 0⟩
        · rw [e, z0]
        · exact absurd ⟨p, hp, h0, e⟩ h)
      (by
        by_cases hx : ∃ p ∈ l, dotI (crossI n1 (subI b a)) (subI p a) ≠ 0
        · exact hx
        · refine absurd (flat_of hin (a := a) hmn fun o ho => ?_) hf
          by_cases e : dotI (crossI n1 (subI b a)) (subI o a) = 0
          · exact e
          · exact absurd ⟨o, ho, e⟩ hx)
    refine ⟨a, b, c, combI α β n1 (crossI n1 (subI b a)), ha, hb, hc, ?_, hs, ?_, hz, ?_⟩
    · intro e
      have h1 := dot_comb α β n1 (crossI n1 (subI b a)) n1
      have h2 : dotI (crossI n1 (subI b a)) n1 = 0 := by unfold dotI crossI; grind
      rw [e, h2, Int.mul_zero, Int.add_zero] at h1
      have h3 : dotI (⟨0, 0, 0⟩ : P3) n1 = 0 := by unfold dotI; simp
      have h4 := Int.mul_pos hα (dotI_pos _ hn1)
      omega
    · rw [dot_comb, hz1]
      have h2 : dotI (crossI n1 (subI b a)) (subI b a) = 0 := by unfold dotI crossI; grind
      rw [h2]
      simp
    · intro e
      rw [hm, e, z0] at hmc
      exact hmc rfl
theorem fold_side (n a : P3) : ∀ (l : List P3) (s : Int × Int), ((∀ o ∈ l, 0 ≤ dot3 n (minus3 o a)) → 0 ≤ s.1 → 0 ≤ (l.foldl (sdStep n a) s).1) ∧ ((∀ o ∈ l, dot3 n (minus3 o a) ≤ 0) → s.2 ≤ 0 → (l.foldl (sdStep n a) s).2 ≤ 0)
  | [], s => ⟨fun _ h => h, fun _ h => h⟩
  | x :: l, s => by
    obtain ⟨h1, h2⟩ := fold_side n a l (sdStep n a s x)
    rw [List.foldl_cons]
    refine ⟨fun h hs => h1 (fun o ho => h o (List.mem_cons_of_mem _ ho)) ?_, fun h hs => h2 (fun o ho => h o (List.mem_cons_of_mem _ ho)) ?_⟩
    · have := h x List.mem_cons_self
      unfold sdStep mn
      simp only
      split <;> omega
    · have := h x List.mem_cons_self
      unfold sdStep mx
      simp only
      split <;> omega
theorem side_of {l : List P3} (hin : ∀ p ∈ l, in3 65536 p) {a n x y z : P3} (hn : n ≠ ⟨0, 0, 0⟩) (hs : ∀ p ∈ l, 0 ≤ dotI n (subI p a)) (mx_ : x ∈ l) (my_ : y ∈ l) (mz_ : z ∈ l) (hx : dotI n (subI x a) = 0) (hy : dotI n (subI y a) = 0) (hz : dotI n (subI z a) = 0) : sideF l (nrm3 x y z) x ≠ 0 := by
  obtain ⟨e, i1⟩ := nrm_at (hin _ mx_) (hin _ my_) (hin _ mz_)
  rw [e]
  have hv : ∀ o, dotI n (subI o x) = dotI n (subI o a) := fun o => by unfold dotI subI at *; grind
  have key : ∀ v, dotI n n * dotI (crossI (subI y x) (subI z x)) v = dotI n (crossI (subI y x) (subI z x)) * dotI n v := fun v => by
    have h1 := hv y
    have h2 := hv z
    rw [hy] at h1
    rw [hz] at h2
    generalize subI y x = Y at h1 h2
    generalize subI z x = Z at h1 h2
    unfold dotI crossI at *
    grind
  have hpos := dotI_pos n hn
  have hd : ∀ o ∈ l, dot3 (crossI (subI y x) (subI z x)) (minus3 o x) = dotI (crossI (subI y x) (subI z x)) (subI o x) := fun o ho => dot_in i1 (hin _ ho) (hin _ mx_)
  generalize crossI (subI y x) (subI z x) = N at key hd
  have h0 : ∀ o ∈ l, 0 ≤ dotI n (subI o x) := fun o ho => by rw [hv]; exact hs o ho
  unfold sideF sdF sideV
  obtain ⟨f1, f2⟩ := fold_side N x l (0, 0)
  rcases Int.le_total 0 (dotI n N) with hN | hN
  · have := f1 (fun o ho => by
      rw [hd o ho]
      have k := key (subI o x)
      have p := Int.mul_nonneg hN (h0 o ho)
      rw [← k] at p
      rcases Int.lt_or_le (dotI N (subI o x)) 0 with q | q
      · have := Int.mul_neg_of_pos_of_neg hpos q
        omega
      · exact q) (Int.le_refl _)
    split
    · decide
    · (try rw [if_pos this]); decide
  · have := f2 (fun o ho => by
      rw [hd o ho]
      have k := key (subI o x)
      have p := Int.mul_nonpos_of_nonpos_of_nonneg hN (h0 o ho)
      rw [← k] at p
      rcases Int.lt_or_le 0 (dotI N (subI o x)) with q | q
      · have := Int.mul_pos hpos q
        omega
      · exact q) (Int.le_refl _)
    rw [if_pos this]; decide
end Go.Proofs.Ytckdhahceelckaa.G
namespace Go.Proofs.Ytckdhahceelckaa.G
open Go.RowKit Go.Proofs.YtckdhahceelckaaW.PrintWords
set_option linter.unusedVariables false
theorem sort3 {l : List P3} {Q : P3 → P3 → P3 → Prop} (s12 : ∀ x y z, Q x y z → Q y x z) (s23 : ∀ x y z, Q x y z → Q x z y) (hne : ∀ x y z, Q x y z → x ≠ y) {a b c : P3} {i j k : Nat} (ha : l[i]? = some a) (hb : l[j]? = some b) (hc : l[k]? = some c) (h : Q a b c) :
    ∃ (i j k : Nat) (x y z : P3), i < j ∧ j < k ∧ l[i]? = some x ∧ l[j]? = some y ∧ l[k]? = some z ∧ Q x y z := by
  have hij : i ≠ j := fun e => by rw [e, hb] at ha; cases ha; exact hne _ _ _ h rfl
  have hik : i ≠ k := fun e => by rw [e, hc] at ha; cases ha; exact hne _ _ _ (s23 _ _ _ h) rfl
  have hjk : j ≠ k := fun e => by rw [e, hc] at hb; cases hb; exact hne _ _ _ (s23 _ _ _ (s12 _ _ _ h)) rfl
  rcases Nat.lt_or_gt_of_ne hij with h1 | h1 <;> rcases Nat.lt_or_gt_of_ne hik with h2 | h2 <;> rcases Nat.lt_or_gt_of_ne hjk with h3 | h3
  · exact ⟨i, j, k, a, b, c, h1, h3, ha, hb, hc, h⟩
  · exact ⟨i, k, j, a, c, b, h2, h3, ha, hc, hb, s23 _ _ _ h⟩
  · omega
  · exact ⟨k, i, j, c, a, b, h2, h1, hc, ha, hb, s12 _ _ _ (s23 _ _ _ h)⟩
  · exact ⟨j, i, k, b, a, c, h1, h2, hb, ha, hc, s12 _ _ _ h⟩
  · omega
  · exact ⟨j, k, i, b, c, a, h3, h2, hb, hc, ha, s23 _ _ _ (s12 _ _ _ h)⟩
  · exact ⟨k, j, i, c, b, a, h3, h1, hc, hb, ha, s23 _ _ _ (s12 _ _ _ (s23 _ _ _ h))⟩
theorem cross12 {x y z : P3} (h : crossI (subI y x) (subI z x) ≠ ⟨0, 0, 0⟩) : crossI (subI x y) (subI z y) ≠ ⟨0, 0, 0⟩ := fun e => h (by
  unfold crossI subI at *
  simp only [P3.mk.injEq] at *
  refine ⟨?_, ?_, ?_⟩ <;> grind)
theorem cross23 {x y z : P3} (h : crossI (subI y x) (subI z x) ≠ ⟨0, 0, 0⟩) : crossI (subI z x) (subI y x) ≠ ⟨0, 0, 0⟩ := fun e => h (by
  unfold crossI subI at *
  simp only [P3.mk.injEq] at *
  refine ⟨?_, ?_, ?_⟩ <;> grind)
theorem hull_axis {l axes edges : List P3} (hin : ∀ p ∈ l, in3 65536 p) (hf : ¬ FlatP l) (h : HullOk l axes edges) : ∃ x ∈ axes, x ≠ ⟨0, 0, 0⟩ ∧ in3 1048576 x := by
  obtain ⟨a, b, c, n, ha, hb, hc, hn, hs, hzb, hzc, hx⟩ := support hin hf
  have hza : dotI n (subI a a) = 0 := by unfold dotI subI; simp
  obtain ⟨ia, hia⟩ := List.getElem?_of_mem ha
  obtain ⟨ib, hib⟩ := List.getElem?_of_mem hb
  obtain ⟨ic, hic⟩ := List.getElem?_of_mem hc
  obtain ⟨i, j, k, x, y, z, hij, hjk, hxi, hyj, hzk, ⟨zx, zy, zz⟩, hcr⟩ := sort3 (l := l) (Q := fun x y z => (dotI n (subI x a) = 0 ∧ dotI n (subI y a) = 0 ∧ dotI n (subI z a) = 0) ∧ crossI (subI y x) (subI z x) ≠ ⟨0, 0, 0⟩)
    (fun x y z h => ⟨⟨h.1.2.1, h.1.1, h.1.2.2⟩, cross12 h.2⟩) (fun x y z h => ⟨⟨h.1.1, h.1.2.2, h.1.2.1⟩, cross23 h.2⟩)
    (fun x y z h e => h.2 (by subst e; unfold crossI subI; simp)) hia hib hic ⟨⟨hza, hzb, hzc⟩, hx⟩
  have mx_ := List.mem_of_getElem? hxi
  have my_ := List.mem_of_getElem? hyj
  have mz_ := List.mem_of_getElem? hzk
  have hsd := side_of hin hn hs mx_ my_ mz_ zx zy zz
  obtain ⟨e, i1⟩ := nrm_at (hin _ mx_) (hin _ my_) (hin _ mz_)
  have hnn : nrm3 x y z ≠ ⟨0, 0, 0⟩ := by rw [e]; exact hcr
  have hil : i < l.length := (List.getElem?_eq_some_iff.1 hxi).1
  have hmem := h.done i j k _ hij hjk (.inl hil) ⟨x, y, z, hxi, hyj, hzk, hnn, hsd, rfl⟩
  obtain ⟨hs1, _⟩ := side_spec hsd
  refine ⟨_, hmem, ?_, ?_⟩
  · unfold axisF
    refine short3_ne _ ?_ (sgn_ne hs1 hnn)
    rw [e]
    exact sgn_in (by rw [← e]; exact hs1) i1
  · unfold axisF
    exact short3_in _
end Go.Proofs.Ytckdhahceelckaa.G
namespace Go.Proofs.Ytckdhahceelckaa.G
open Go.RowKit Go.Proofs.YtckdhahceelckaaW.PrintWords
set_option linter.unusedVariables false
theorem abs_mul {a b A B : Int} (ha : -A ≤ a ∧ a ≤ A) (hb : -B ≤ b ∧ b ≤ B) : -(A * B) ≤ a * b ∧ a * b ≤ A * B := by
  have h : (a * b).natAbs ≤ A.natAbs * B.natAbs := by rw [Int.natAbs_mul]; exact Nat.mul_le_mul (by omega) (by omega)
  have e : ((A.natAbs * B.natAbs : Nat) : Int) = A * B := by rw [Int.natCast_mul, Int.natAbs_of_nonneg (by omega), Int.natAbs_of_nonneg (by omega)]
  omega
/-- one row of the rounded turn and of the turn itself -/
theorem row_bd {a1 a2 a3 c1 c2 c3 X Y Z : Int} (h1 : -4294967296 ≤ 4294967296 * a1 - c1 ∧ 4294967296 * a1 - c1 ≤ 4294967296) (h2 : -4294967296 ≤ 4294967296 * a2 - c2 ∧ 4294967296 * a2 - c2 ≤ 4294967296) (h3 : -4294967296 ≤ 4294967296 * a3 - c3 ∧ 4294967296 * a3 - c3 ≤ 4294967296)
    (hX : -4294967296 ≤ X ∧ X ≤ 4294967296) (hY : -4294967296 ≤ Y ∧ Y ≤ 4294967296) (hZ : -4294967296 ≤ Z ∧ Z ≤ 4294967296) (hv : -4096 < (a1 * X + a2 * Y + a3 * Z) / 4294967296 ∧ (a1 * X + a2 * Y + a3 * Z) / 4294967296 < 4096) :
    -75613203958135452073984 ≤ c1 * X + c2 * Y + c3 * Z ∧ c1 * X + c2 * Y + c3 * Z ≤ 75613203958135452073984 := by
  have k1 := abs_mul h1 hX
  have k2 := abs_mul h2 hY
  have k3 := abs_mul h3 hZ
  have e : c1 * X + c2 * Y + c3 * Z = 4294967296 * (a1 * X + a2 * Y + a3 * Z) - ((4294967296 * a1 - c1) * X + (4294967296 * a2 - c2) * Y + (4294967296 * a3 - c3) * Z) := by grind
  rw [e]
  generalize (4294967296 * a1 - c1) * X = e1 at k1
  generalize (4294967296 * a2 - c2) * Y = e2 at k2
  generalize (4294967296 * a3 - c3) * Z = e3 at k3
  generalize a1 * X + a2 * Y + a3 * Z = r at hv
  omega
theorem rot_norm (w x y z X Y Z T : Int) :
    ((T - ((y + y) * y + (z + z) * z)) * X + ((x + x) * y + (w + w) * -z) * Y + ((x + x) * z + (w + w) * y) * Z - (T - (w * w + x * x + y * y + z * z)) * X) * ((T - ((y + y) * y + (z + z) * z)) * X + ((x + x) * y + (w + w) * -z) * Y + ((x + x) * z + (w + w) * y) * Z - (T - (w * w + x * x + y * y + z * z)) * X) +
    (((x + x) * y + (w + w) * z) * X + (T - ((x + x) * x + (z + z) * z)) * Y + ((y + y) * z + (w + w) * -x) * Z - (T - (w * w + x * x + y * y + z * z)) * Y) * (((x + x) * y + (w + w) * z) * X + (T - ((x + x) * x + (z + z) * z)) * Y + ((y + y) * z + (w + w) * -x) * Z - (T - (w * w + x * x + y * y + z * z)) * Y) +
    (((x + x) * z + (w + w) * -y) * X + ((y + y) * z + (w + w) * x) * Y + (T - ((x + x) * x + (y + y) * y)) * Z - (T - (w * w + x * x + y * y + z * z)) * Z) * (((x + x) * z + (w + w) * -y) * X + ((y + y) * z + (w + w) * x) * Y + (T - ((x + x) * x + (y + y) * y)) * Z - (T - (w * w + x * x + y * y + z * z)) * Z) =
    (w * w + x * x + y * y + z * z) * (w * w + x * x + y * y + z * z) * (X * X + Y * Y + Z * Z) := by grind
theorem rot_alg (S T m1 m2 m3 X Y Z : Int) (h : (m1 - (T - S) * X) * (m1 - (T - S) * X) + (m2 - (T - S) * Y) * (m2 - (T - S) * Y) + (m3 - (T - S) * Z) * (m3 - (T - S) * Z) = S * S * (X * X + Y * Y + Z * Z)) :
    T * (2 * S - T) * (X * X + Y * Y + Z * Z) = m1 * m1 + m2 * m2 + m3 * m3 - 2 * ((T - S) * (m1 * X + m2 * Y + m3 * Z)) := by grind
theorem d2_near (a b c d : Int) : -4294967296 ≤ 4294967296 * D2 a b c d - (a * c + b * d) ∧ 4294967296 * D2 a b c d - (a * c + b * d) ≤ 4294967296 := by
  unfold D2
  generalize a * c + b * d = n
  omega
theorem d2_near' (a b c d : Int) : -4294967296 ≤ 4294967296 * (4294967296 - D2 a b c d) - (18446744073709551616 - (a * c + b * d)) ∧ 4294967296 * (4294967296 - D2 a b c d) - (18446744073709551616 - (a * c + b * d)) ≤ 4294967296 := by
  unfold D2
  generalize a * c + b * d = n
  omega
/-- a unit quaternion turns a long vector into one that is not short -/
theorem turn_long {q : Q4} (hq : q32 q) (hS : 18446744039349813248 ≤ q.w * q.w + q.x * q.x + q.y * q.y + q.z * q.z) {V : P3} (hV : in3 4294967296 V) (hN : 4611686018427387904 ≤ dotI V V)
    (h1 : -4096 < vdotF (rowsF q).a V ∧ vdotF (rowsF q).a V < 4096) (h2 : -4096 < vdotF (rowsF q).b V ∧ vdotF (rowsF q).b V < 4096) (h3 : -4096 < vdotF (rowsF q).c V ∧ vdotF (rowsF q).c V < 4096) : False := by
  obtain ⟨w, x, y, z⟩ := q
  obtain ⟨X, Y, Z⟩ := V
  obtain ⟨v1, v2, v3, v4, v5, v6⟩ := hV
  obtain ⟨bw, bx, by_, bz⟩ := hq
  simp only at hS v1 v2 v3 v4 v5 v6 bw bx by_ bz
  unfold vdotF dotI rowsF at h1 h2 h3
  unfold dotI at hN
  simp only at h1 h2 h3 hN
  have r1 := row_bd (d2_near' (y + y) (z + z) y z) (d2_near (x + x) (w + w) y (-z)) (d2_near (x + x) (w + w) z y) ⟨v1, v2⟩ ⟨v3, v4⟩ ⟨v5, v6⟩ h1
  have r2 := row_bd (d2_near (x + x) (w + w) y z) (d2_near' (x + x) (z + z) x z) (d2_near (y + y) (w + w) z (-x)) ⟨v1, v2⟩ ⟨v3, v4⟩ ⟨v5, v6⟩ h2
  have r3 := row_bd (d2_near (x + x) (w + w) z (-y)) (d2_near (y + y) (w + w) z x) (d2_near' (x + x) (y + y) x y) ⟨v1, v2⟩ ⟨v3, v4⟩ ⟨v5, v6⟩ h3
  have hn := rot_norm w x y z X Y Z 18446744073709551616
  have sw := abs_mul bw bw
  have sx := abs_mul bx bx
  have sy := abs_mul by_ by_
  have sz := abs_mul bz bz
  have hSu : w * w + x * x + y * y + z * z ≤ 73786976294838206464 := by omega
  clear sw sx sy sz
  generalize w * w + x * x + y * y + z * z = S at hS hSu hn
  generalize (18446744073709551616 - ((y + y) * y + (z + z) * z)) * X + ((x + x) * y + (w + w) * -z) * Y + ((x + x) * z + (w + w) * y) * Z = m1 at r1 hn
  generalize ((x + x) * y + (w + w) * z) * X + (18446744073709551616 - ((x + x) * x + (z + z) * z)) * Y + ((y + y) * z + (w + w) * -x) * Z = m2 at r2 hn
  generalize ((x + x) * z + (w + w) * -y) * X + ((y + y) * z + (w + w) * x) * Y + (18446744073709551616 - ((x + x) * x + (y + y) * y)) * Z = m3 at r3 hn
  have alg := rot_alg S 18446744073709551616 m1 m2 m3 X Y Z hn
  generalize X * X + Y * Y + Z * Z = N at hN alg
  have k1 := Int.mul_le_mul_of_nonneg_right (show (170141183460469231731687303715884105728 : Int) ≤ 18446744073709551616 * (2 * S - 18446744073709551616) by omega) (show 0 ≤ N by omega)
  have q1 := abs_mul r1 r1
  have q2 := abs_mul r2 r2
  have q3 := abs_mul r3 r3
  have p1 := abs_mul r1 (⟨v1, v2⟩ : -4294967296 ≤ X ∧ X ≤ 4294967296)
  have p2 := abs_mul r2 (⟨v3, v4⟩ : -4294967296 ≤ Y ∧ Y ≤ 4294967296)
  have p3 := abs_mul r3 (⟨v5, v6⟩ : -4294967296 ≤ Z ∧ Z ≤ 4294967296)
  have p4 : -(3 * (75613203958135452073984 * 4294967296)) ≤ m1 * X + m2 * Y + m3 * Z ∧ m1 * X + m2 * Y + m3 * Z ≤ 3 * (75613203958135452073984 * 4294967296) := by omega
  have p5 := abs_mul (⟨by omega, by omega⟩ : -(55340232221128654848 : Int) ≤ 18446744073709551616 - S ∧ 18446744073709551616 - S ≤ 55340232221128654848) p4
  generalize (18446744073709551616 - S) * (m1 * X + m2 * Y + m3 * Z) = D at alg p5
  generalize 18446744073709551616 * (2 * S - 18446744073709551616) * N = E at alg k1
  generalize m1 * m1 = M1 at alg q1
  generalize m2 * m2 = M2 at alg q2
  generalize m3 * m3 = M3 at alg q3
  clear p1 p2 p3 p4 r1 r2 r3 hn h1 h2 h3 bw bx by_ bz
  omega
theorem unit_norm (q : Q4) (h : 0 < lenF q) : 18446744039349813248 ≤ (unitF q).w * (unitF q).w + (unitF q).x * (unitF q).x + (unitF q).y * (unitF q).y + (unitF q).z * (unitF q).z := by
  obtain ⟨w, x, y, z⟩ := q
  have hw := sq_nonneg w
  have hx := sq_nonneg x
  have hy := sq_nonneg y
  have hz := sq_nonneg z
  obtain ⟨h0, h2, h1⟩ := rtI_spec (v := w * w + x * x + y * y + z * z) (by omega)
  have e : lenF ⟨w, x, y, z⟩ = rtI (w * w + x * x + y * y + z * z) := rfl
  rw [← e] at h0 h1 h2
  have bw := sq_le_bd (a := w) h0 (by omega)
  have bx := sq_le_bd (a := x) h0 (by omega)
  have by_ := sq_le_bd (a := y) h0 (by omega)
  have bz := sq_le_bd (a := z) h0 (by omega)
  unfold unitF
  simp only
  generalize lenF ⟨w, x, y, z⟩ = L at h h0 h1 h2 bw bx by_ bz
  have one : ∀ a : Int, -L ≤ a → a ≤ L → 18446744073709551616 * (a * a) - 8589934592 * (L * L) ≤ L * L * ((a * 4294967296 / L) * (a * 4294967296 / L)) := by
    intro a ha1 ha2
    have d1 := Int.emod_add_mul_ediv (a * 4294967296) L
    have d2 := Int.emod_nonneg (a * 4294967296) (show L ≠ 0 by omega)
    have d3 := Int.emod_lt_of_pos (a * 4294967296) h
    generalize a * 4294967296 / L = c at d1
    generalize a * 4294967296 % L = r at d1 d2 d3
    have e1 : L * c = 4294967296 * a - r := by omega
    have e2 : L * L * (c * c) = (4294967296 * a - r) * (4294967296 * a - r) := by rw [← e1]; grind
    have e3 : (4294967296 * a - r) * (4294967296 * a - r) = 18446744073709551616 * (a * a) - 8589934592 * (a * r) + r * r := by grind
    have k1 := abs_mul (⟨ha1, ha2⟩ : -L ≤ a ∧ a ≤ L) (⟨by omega, by omega⟩ : -L ≤ r ∧ r ≤ L)
    have k2 := sq_nonneg r
    rw [e2, e3]
    omega
  have o1 := one w bw.1 bw.2
  have o2 := one x bx.1 bx.2
  have o3 := one y by_.1 by_.2
  have o4 := one z bz.1 bz.2
  generalize w * 4294967296 / L = c1 at o1
  generalize x * 4294967296 / L = c2 at o2
  generalize y * 4294967296 / L = c3 at o3
  generalize z * 4294967296 / L = c4 at o4
  refine Int.le_of_mul_le_mul_left (a := L * L) ?_ (Int.mul_pos h h)
  have e1 : L * L * (c1 * c1 + c2 * c2 + c3 * c3 + c4 * c4) = L * L * (c1 * c1) + L * L * (c2 * c2) + L * L * (c3 * c3) + L * L * (c4 * c4) := by grind
  have e2 : L * L * 18446744039349813248 = 18446744039349813248 * (L * L) := Int.mul_comm _ _
  rw [e1, e2]
  omega
theorem whole_norm (q : Q4) : 18446744039349813248 ≤ (wholeF q).w * (wholeF q).w + (wholeF q).x * (wholeF q).x + (wholeF q).y * (wholeF q).y + (wholeF q).z * (wholeF q).z := by
  unfold wholeF
  split
  · simp
  · exact unit_norm q (by omega)
/-- a right pose turns no way into nought -/
theorem way_turned (p : P7) (x : P3) (hx : in3 1048576 x) (h0 : x ≠ ⟨0, 0, 0⟩) : wayF (rowsF (rightPose p).turn) x ≠ ⟨0, 0, 0⟩ := by
  have hq := wholeF_q32 (partQ p.turn)
  have hS := whole_norm (partQ p.turn)
  have hm := rows_mOk hq
  have hD := dbl3_in x hx
  have hf := dbl3_far x h0
  simp only [rightPose]
  generalize wholeF (partQ p.turn) = q at hq hS hm
  unfold wayF
  generalize dbl3 x = D at hD hf
  have hV := times_in hD
  obtain ⟨_, _, _, ht⟩ := turn_ok hm hV
  have hfar : ¬ in3 524288 D := fun h => by rw [(far3_iff _ _ (by decide) (by decide)).2 h] at hf; cases hf
  have hd := dotI_far D 524288 (by decide) (by unfold in3 at hfar; omega)
  have hN : 4611686018427387904 ≤ dotI (timesF D 4096) (timesF D 4096) := by
    have e : dotI (timesF D 4096) (timesF D 4096) = 16777216 * dotI D D := by unfold dotI timesF; grind
    rw [e]
    omega
  refine short3_ne _ (tdv_in ht) fun e => ?_
  unfold tdv3 at e
  simp only [P3.mk.injEq] at e
  obtain ⟨e1, e2, e3⟩ := e
  have zero : ∀ a : Int, a.tdiv 4096 = 0 → -4096 < a ∧ a < 4096 := fun a ha => by
    rcases Int.le_total 0 a with h | h
    · rw [Int.tdiv_eq_ediv_of_nonneg h] at ha; omega
    · have : a.tdiv 4096 = -((-a).tdiv 4096) := by rw [Int.neg_tdiv, Int.neg_neg]
      rw [this, Int.tdiv_eq_ediv_of_nonneg (by omega)] at ha
      omega
  exact turn_long hq hS hV hN (zero _ e1) (zero _ e2) (zero _ e3)
end Go.Proofs.Ytckdhahceelckaa.G
namespace Go.Proofs.Ytckdhahceelckaa.G
open Go.RowKit Go.Proofs.YtckdhahceelckaaW.PrintWords
set_option linter.unusedVariables false
theorem ways_turned (p : P7) {l : List P3} {x : P3} (hx : x ∈ l) (hi : in3 1048576 x) (h0 : x ≠ ⟨0, 0, 0⟩) : ∃ y ∈ waysF (rowsF (rightPose p).turn) l, long3 y ≠ ⟨0, 0, 0⟩ := by
  have h1 := way_turned p x hi h0
  refine ⟨wayF (rowsF (rightPose p).turn) x, ?_, ?_⟩
  · unfold waysF
    exact List.mem_filter.2 ⟨List.mem_map_of_mem hx, by simpa using h1⟩
  · exact (long3_short _ (by unfold wayF; exact short3_in _) h1).2.1
/-- what a value of Cores is for Sound -/
theorem CoreAt.way {s : Shp} (hs : ShpOk s) (A : P3) (p7 : P7) (ha : atOk A) {w : World} {v : Value} (h : CoreAt s ⟨A, (rightPose p7).turn⟩ w v) : ∃ p a e, CoreV w v p a e s.radius ∧ MayP p a e s.radius ∧ Ways p a := by
  have hm := (rightPose_ok p7).1
  have hw : ∀ (l : List P3) (x : P3), x ∈ l → in3 1048576 x → x ≠ ⟨0, 0, 0⟩ → ∃ y ∈ waysF (rowsF (rightPose p7).turn) l, long3 y ≠ ⟨0, 0, 0⟩ := fun l x hx hi h0 => ways_turned p7 hx hi h0
  obtain ⟨t, ht⟩ : ∃ t, (rightPose p7).turn = t := ⟨_, rfl⟩
  rw [ht] at h hm hw
  obtain ⟨p, a, e, h1, h2⟩ := h
  refine ⟨p.map (placePt (rowsF t) A), waysF (rowsF t) a, waysF (rowsF t) e, h2, CoreIs.may (q := ⟨A, t⟩) hs h1 hm ha, ?_⟩
  unfold Ways
  rcases h1 with ⟨_, rfl, rfl, rfl⟩ | ⟨_, rfl, rfl, rfl⟩ | ⟨_, rfl, rfl, rfl⟩ | ⟨hk, rfl, hh⟩
  · left; simp
  · left; simp
  · right
    exact hw _ ⟨1, 0, 0⟩ (by simp) (by unfold in3; simp) (by simp)
  · right
    obtain ⟨x, hx, h0, hi⟩ := hull_axis hs.pts (hs.hull hk).2 hh
    exact hw _ x hx hi h0
end Go.Proofs.Ytckdhahceelckaa.G
namespace Go.Proofs.Ytckdhahceelckaa.G
open Go.RowKit Go.Proofs.YtckdhahceelckaaW.PrintWords
set_option linter.unusedVariables false
theorem CoreIs.in8 {s : Shp} (hs : ShpOk s) {p a e : List P3} (h : CoreIs s p a e) {q : P7} (hm : mOk (rowsF q.turn)) (ha : atOk q.at_) : ∀ x ∈ p.map (placePt (rowsF q.turn) q.at_), in3 8388608 x := by
  intro x hx
  obtain ⟨y, hy, rfl⟩ := List.mem_map.1 hx
  exact place_in3 hm ha ((h.bounds hs).pin y hy)
theorem CoreAt.nearW {s : Shp} (hs : ShpOk s) (q : P7) (hm : mOk (rowsF q.turn)) (ha : atOk q.at_) (hw : ∀ (l : List P3) (x : P3), x ∈ l → in3 1048576 x → x ≠ ⟨0, 0, 0⟩ → ∃ y ∈ waysF (rowsF q.turn) l, long3 y ≠ ⟨0, 0, 0⟩)
    {w : World} {v : Value} (h : CoreAt s q w v) : ∃ p a e, CoreV w v p a e s.radius ∧ MayP p a e s.radius ∧ Ways p a ∧ ∀ x ∈ p, in3 8388608 x := by
  obtain ⟨p, a, e, h1, h2⟩ := h
  refine ⟨_, _, _, h2, h1.may hs hm ha, ?_, h1.in8 hs hm ha⟩
  unfold Ways
  rcases h1 with ⟨_, rfl, rfl, rfl⟩ | ⟨_, rfl, rfl, rfl⟩ | ⟨_, rfl, rfl, rfl⟩ | ⟨hk, rfl, hh⟩
  · left; simp
  · left; simp
  · right
    exact hw _ ⟨1, 0, 0⟩ (by simp) (by unfold in3; simp) (by simp)
  · right
    obtain ⟨x, hx, h0, hi⟩ := hull_axis hs.pts (hs.hull hk).2 hh
    exact hw _ x hx hi h0
theorem CoreAt.near {s : Shp} (hs : ShpOk s) (A : P3) (p7 : P7) (ha : atOk A) {w : World} {v : Value} (h : CoreAt s ⟨A, (rightPose p7).turn⟩ w v) : ∃ p a e, CoreV w v p a e s.radius ∧ MayP p a e s.radius ∧ Ways p a ∧ ∀ x ∈ p, in3 8388608 x := by
  have hm := (rightPose_ok p7).1
  have hw : ∀ (l : List P3) (x : P3), x ∈ l → in3 1048576 x → x ≠ ⟨0, 0, 0⟩ → ∃ y ∈ waysF (rowsF (rightPose p7).turn) l, long3 y ≠ ⟨0, 0, 0⟩ := fun l x hx hi h0 => ways_turned p7 hx hi h0
  obtain ⟨t, ht⟩ : ∃ t, (rightPose p7).turn = t := ⟨_, rfl⟩
  rw [ht] at h hm hw
  exact CoreAt.nearW hs ⟨A, t⟩ hm ha hw h
theorem CoreV.setLow {w : World} {v : Value} {p a e : List P3} {r : Int} (h : CoreV w v p a e r) {b g : Nat} (hf : Fresh b v) (hg : g < b) (j : Nat) (u : Value) : CoreV (w.setCell ⟨g, j, none⟩ u) v p a e r := by
  obtain ⟨A0, A1, A2, c0, c1, c2, e1, h0, h1, h2, k⟩ := h.out
  obtain ⟨B0, B1, B2, m0, m1, m2, d0, d1, d2, x, e2, f0, f1, f2⟩ := hf
  subst e1
  simp at e2
  obtain ⟨⟨rfl, _, _⟩, ⟨rfl, _, _⟩, ⟨rfl, _, _⟩, _⟩ := e2
  exact ⟨A0, A1, A2, c0, c1, c2, rfl, h0.setc (fun ad ea => by have := f0 ad ea; omega) j u, h1.setc (fun ad ea => by have := f1 ad ea; omega) j u, h2.setc (fun ad ea => by have := f2 ad ea; omega) j u, k⟩
end Go.Proofs.Ytckdhahceelckaa.G
namespace Go.Proofs.Ytckdhahceelckaa.G
open Go.RowKit Go.Proofs.YtckdhahceelckaaW.PrintWords Go.Proofs.YtckdhahceelckaaW.PrintLast Go.Proofs.YtckdhahceelckaaW.PrintMore
set_option linter.unusedVariables false
set_option linter.unusedSimpArgs false
/-- whose gap is told: none's, or a direction's that is told -/
theorem told_inv {c d : Cr} (hc : c.may = true) (hd : d.may = true) : (apS c d).1.2 = -c.r - d.r ∨ 
    ∃ p0 pr q0 qr x, c.p = p0 :: pr ∧ d.p = q0 :: qr ∧ (∀ p ∈ p0 :: pr, in3 16777216 p) ∧ (∀ p ∈ q0 :: qr, in3 16777216 p) ∧ long3 x ≠ ⟨0, 0, 0⟩ ∧
      ((apS c d).1 = (long3 x, (gapsF (long3 x) p0 pr c.r q0 qr d.r).1) ∨ (apS c d).1 = (negI (long3 x), (gapsF (negI (long3 x)) p0 pr c.r q0 qr d.r).1)) := by
  rw [apS_val hc hd]
  obtain ⟨p, a, e, r⟩ := c
  obtain ⟨q, b, f, s⟩ := d
  obtain ⟨p0, pr, rfl, hp⟩ := (Cr.mayP hc).pts
  obtain ⟨q0, qr, rfl, hq⟩ := (Cr.mayP hd).pts
  simp only
  unfold apartF
  simp only [List.headD_cons, List.tail_cons]
  rcases apF_inv p0 pr r q0 qr s (rawC (p0 :: pr) a e (q0 :: qr) b f) with ⟨_, h, hno⟩ | ⟨_, x, _, h0, h | h⟩
  · left; rw [h]
  · right; exact ⟨p0, pr, q0, qr, x, rfl, rfl, hp, hq, h0, .inl h⟩
  · right
    refine ⟨p0, pr, q0, qr, x, rfl, rfl, hp, hq, h0, .inr ?_⟩
    have hn : in3 1048576 (long3 x) := long3_in x
    rw [h, minus_zeroI hn, gaps_negI r s hn hp hq]
theorem isq_mono {n k : Nat} (h : k * k ≤ n) : k ≤ isq n := by
  have := (isq_spec n).2
  rcases Nat.lt_or_ge (isq n) k with h1 | h1
  · have := Nat.mul_le_mul (show isq n + 1 ≤ k by omega) (show isq n + 1 ≤ k by omega)
    omega
  · exact h1
theorem fl3_long {n : P3} (h : far3 524288 n = true) : 524288 ≤ fl3 n := by
  have hn : ¬ in3 524288 n := fun hi => by rw [(far3_iff _ _ (by decide) (by decide)).2 hi] at h; cases h
  have hd : 524288 * 524288 ≤ dotI n n := by
    unfold in3 at hn
    unfold dotI
    have hx : 0 ≤ n.x * n.x := by rw [← Int.natAbs_mul_self' n.x]; exact Int.mul_nonneg (by omega) (by omega)
    have hy : 0 ≤ n.y * n.y := by rw [← Int.natAbs_mul_self' n.y]; exact Int.mul_nonneg (by omega) (by omega)
    have hz : 0 ≤ n.z * n.z := by rw [← Int.natAbs_mul_self' n.z]; exact Int.mul_nonneg (by omega) (by omega)
    have big : ∀ t : Int, t < -524288 ∨ 524288 < t → 524288 * 524288 ≤ t * t := by
      intro t ht
      rcases ht with ht | ht
      · have := Int.mul_le_mul (show 524288 ≤ -t by omega) (show 524288 ≤ -t by omega) (by decide) (by omega)
        rwa [Int.neg_mul_neg] at this
      · exact Int.mul_le_mul (show 524288 ≤ t by omega) (show 524288 ≤ t by omega) (by decide) (by omega)
    rcases (show (n.x < -524288 ∨ 524288 < n.x) ∨ (n.y < -524288 ∨ 524288 < n.y) ∨ (n.z < -524288 ∨ 524288 < n.z) by omega) with h | h | h
    · have := big _ h; omega
    · have := big _ h; omega
    · have := big _ h; omega
  unfold fl3
  have := isq_mono (n := (dotI n n).toNat) (k := 524288) (by omega)
  omega
/-- a gap is never far below -/
theorem apS_low {c d : Cr} (hc : c.may = true) (hd : d.may = true) : -1099511627776 ≤ (apS c d).1.2 := by
  have mr := (Cr.mayP hc)
  have ms := (Cr.mayP hd)
  rcases told_inv hc hd with h | ⟨p0, pr, q0, qr, x, _, _, hp, hq, h0, h⟩
  · have := mr.r1
    have := ms.r1
    omega
  · have gen : ∀ n : P3, in3 1048576 n → far3 524288 n = true → -1099511627776 ≤ (gapsF n p0 pr c.r q0 qr d.r).1 := by
      intro n hn hf
      have h1 := reach_bd hn hp
      have h2 := reach_bd hn hq
      have hfl := fl3_long hf
      have hc := ce3_bd n
      have m0 := mr.r0
      have m1 := mr.r1
      have s0 := ms.r0
      have s1 := ms.r1
      unfold gapsF gapV
      simp only
      obtain ⟨t, ht⟩ : ∃ t, (reachF n q0 qr).1 - (reachF n p0 pr).2 = t := ⟨_, rfl⟩
      rw [ht]
      split
      · have := Int.ediv_nonneg (show 0 ≤ t by omega) (show 0 ≤ ce3 n by omega)
        omega
      · have h3 : (-t + fl3 n - 1) / fl3 n ≤ 536870912 := by
          apply Int.le_of_lt_add_one
          apply Int.ediv_lt_of_lt_mul (by omega)
          have := Int.mul_le_mul_of_nonneg_left hfl (show (0 : Int) ≤ 536870912 by decide)
          omega
        omega
    have hn : in3 1048576 (long3 x) := long3_in x
    have hs : short3 x ≠ ⟨0, 0, 0⟩ := fun e => h0 (by unfold long3; rw [e, dbl3, dif_pos (.inr rfl)])
    have hf : far3 524288 (long3 x) = true := dbl3_far _ hs
    rcases h with h | h
    · rw [h]; exact gen _ hn hf
    · rw [h]; exact gen _ (negI_in hn) (by rw [far3_negI _ _ (by decide) (by decide)]; exact hf)
/-- what a told gap that is not below nought proves -/
structure Told (c d : Cr) (R : P3 × Int) : Prop where
  hn : in3 1048576 R.1
  h0 : R.1 ≠ ⟨0, 0, 0⟩
  g0 : 0 ≤ R.2 + c.r + d.r
  all : ∀ P ∈ c.p, ∀ Q ∈ d.p, (R.2 + c.r + d.r) * fl3 R.1 ≤ dot3 R.1 (minus3 Q P)
theorem told_far {c d : Cr} (hc : c.may = true) (hd : d.may = true) (hr : 1 ≤ c.r + d.r) (hx : 0 ≤ (apS c d).1.2) : Told c d (apS c d).1 := by
  have mr := (Cr.mayP hc)
  have ms := (Cr.mayP hd)
  rcases told_inv hc hd with h | ⟨p0, pr, q0, qr, x, ep, eq, hp, hq, h0, h⟩
  · omega
  · have gen : ∀ n : P3, in3 1048576 n → n ≠ ⟨0, 0, 0⟩ → (apS c d).1 = (n, (gapsF n p0 pr c.r q0 qr d.r).1) → Told c d (apS c d).1 := by
      intro n hn hn0 e
      rw [e] at hx ⊢
      have h1 := reach_bd hn hp
      have h2 := reach_bd hn hq
      have hfl := fl3_pos n hn0
      have hce := ce3_bd n
      have m0 := mr.r0
      have s0 := ms.r0
      have hg : ∃ t, (reachF n q0 qr).1 - (reachF n p0 pr).2 = t ∧ 0 ≤ t ∧ (gapsF n p0 pr c.r q0 qr d.r).1 + c.r + d.r = t / ce3 n := by
        refine ⟨_, rfl, ?_⟩
        unfold gapsF gapV at hx ⊢
        simp only at hx ⊢
        obtain ⟨t, ht⟩ : ∃ t, (reachF n q0 qr).1 - (reachF n p0 pr).2 = t := ⟨_, rfl⟩
        rw [ht] at hx ⊢
        by_cases h0 : 0 ≤ t
        · rw [if_pos h0]
          exact ⟨h0, by omega⟩
        · rw [if_neg h0] at hx
          have := Int.ediv_nonneg (show 0 ≤ -t + fl3 n - 1 by omega) (show 0 ≤ fl3 n by omega)
          omega
      obtain ⟨t, ht, ht0, hgt⟩ := hg
      have q1 : 0 ≤ t / ce3 n := Int.ediv_nonneg ht0 (by omega)
      have q3 : t / ce3 n * ce3 n ≤ t := Int.ediv_mul_le t (by omega)
      have q4 := Int.mul_le_mul_of_nonneg_left hce.1 q1
      refine ⟨hn, hn0, by simp only; omega, fun P hP Q hQ => ?_⟩
      rw [ep] at hP
      rw [eq] at hQ
      simp only
      rw [hgt, dot3_minus hn (hp P hP) (hq Q hQ)]
      have := (reach_at n p0 pr P hP).2
      have := (reach_at n q0 qr Q hQ).1
      omega
    have hn : in3 1048576 (long3 x) := long3_in x
    rcases h with h | h
    · exact gen _ hn h0 h
    · exact gen _ (negI_in hn) (negI_ne h0) h
/-- what SweepFree asks of a cast -/
structure FreeP (a b : Cr) (y : P3) (k : Nat) (x : P3 × Int) : Prop where
  hn : in3 1048576 x.1
  h0 : x.1 ≠ ⟨0, 0, 0⟩
  g0 : 0 ≤ x.2 + a.r + b.r
  g1 : (x.2 + a.r + b.r) * fl3 x.1 ≤ 1125899906842624
  all : ∀ P ∈ a.p, ∀ Q ∈ b.p, ∀ m : Int, 0 ≤ m → m ≤ 1024 → 1024 * ((x.2 + a.r + b.r) * fl3 x.1) ≤ 1024 * dot3 x.1 (minus3 Q P) - m * dot3 x.1 (partP y k)
theorem dot_way {n y P Q : P3} (hn : in3 1048576 n) (hy : in3 4194304 y) (hP : in3 16777216 P) (hPy : in3 16777216 (plusI y P)) (hQ : in3 16777216 Q) : dot3 n (minus3 Q (plusI y P)) = dot3 n (minus3 Q P) - dot3 n y := by
  rw [dot3_minus hn hPy hQ, dot3_minus hn hP hQ, dot3_eq n (plusI y P) 1048576 16777216 hn hPy (by decide), dot3_eq n P 1048576 16777216 hn hP (by decide), dot3_eq n y 1048576 4194304 hn hy (by decide)]
  unfold dotI plusI
  simp only
  grind
theorem free_plain {a b : Cr} {y : P3} {k : Nat} {x : P3 × Int} (hok : castOk a y b = true) (hr : 1 ≤ a.r + b.r) (hc : (castF a y b).1 = (k, x)) (hx : 0 ≤ x.2) : FreeP a b y k x := by
  obtain ⟨ha, hb, hs, ht⟩ := (castOk_iff ..).1 hok
  unfold castF at hc
  rw [if_pos hok] at hc
  have hk := castL_le a y b 16 0 (apS a b).1
  have hcs := castL_spec a y b 16 0 (apS a b).1
  simp only at hc
  rw [hc] at hk hcs
  have hm := Cr.mayP ha
  have hpa := far_in (by decide) (by decide) hm.pf
  have hpb := far_in (by decide) (by decide) (Cr.mayP hb).pf
  have hy := ((smay_iff ..).1 hs).2.2
  have hby : in3 4194304 (partP y k) := partP_bd y k (by omega) (by simp only at hk; omega) _ hy (by decide)
  have key : ∀ (T : Told a b x ∨ (Told (trailF a y k) b x)), (Told (trailF a y k) b x ∨ partP y k = ⟨0, 0, 0⟩) → FreeP a b y k x := by
    intro T T2
    have hn : in3 1048576 x.1 := T.elim (·.hn) (·.hn)
    have h0 : x.1 ≠ ⟨0, 0, 0⟩ := T.elim (·.h0) (·.h0)
    have hrt : (trailF a y k).r = a.r := by rw [trailF_yes hs (by omega) (by simp only at hk; omega)]
    have hpt : (trailF a y k).p = a.p ++ a.p.map (plusI (partP y k)) := by rw [trailF_yes hs (by omega) (by simp only at hk; omega)]
    have g0 : 0 ≤ x.2 + a.r + b.r := by
      rcases T with T | T
      · exact T.g0
      · have := T.g0; rwa [hrt] at this
    have first : ∀ P ∈ a.p, ∀ Q ∈ b.p, (x.2 + a.r + b.r) * fl3 x.1 ≤ dot3 x.1 (minus3 Q P) := by
      intro P hP Q hQ
      rcases T with T | T
      · exact T.all P hP Q hQ
      · have := T.all P (by rw [hpt]; exact List.mem_append_left _ hP) Q hQ
        rwa [hrt] at this
    have second : ∀ P ∈ a.p, ∀ Q ∈ b.p, (x.2 + a.r + b.r) * fl3 x.1 ≤ dot3 x.1 (minus3 Q P) - dot3 x.1 (partP y k) := by
      intro P hP Q hQ
      rcases T2 with T | e
      · have hin := trail_pts (k := (k : Int)) hs (by omega) (by simp only at hk; omega) (trail_last hs ht (by omega) (by simp only at hk; omega)) P hP
        have := T.all (plusI (partP y k) P) (by rw [hpt]; exact List.mem_append_right _ (List.mem_map_of_mem hP)) Q hQ
        rwa [hrt, dot_way hn hby (hpa P hP) hin (hpb Q hQ)] at this
      · rw [e]
        have : dot3 x.1 ⟨0, 0, 0⟩ = 0 := by unfold dot3 wrap64; simp
        rw [this]
        have := first P hP Q hQ
        omega
    obtain ⟨P0, pr, hP0⟩ := List.exists_cons_of_ne_nil hm.p0
    obtain ⟨Q0, qr, hQ0⟩ := List.exists_cons_of_ne_nil (Cr.mayP hb).p0
    have hb0 : in3 16777216 Q0 := hpb Q0 (by rw [hQ0]; simp)
    have ha0 : in3 16777216 P0 := hpa P0 (by rw [hP0]; simp)
    refine ⟨hn, h0, g0, ?_, fun P hP Q hQ m h0 h1 => ?_⟩
    · have h1 := first P0 (by rw [hP0]; simp) Q0 (by rw [hQ0]; simp)
      rw [dot3_minus hn ha0 hb0, dot3_eq x.1 Q0 1048576 16777216 hn hb0 (by decide), dot3_eq x.1 P0 1048576 16777216 hn ha0 (by decide)] at h1
      have := dotI_bd x.1 Q0 1048576 16777216 hn hb0
      have := dotI_bd x.1 P0 1048576 16777216 hn ha0
      omega
    · have f := first P hP Q hQ
      have s := second P hP Q hQ
      generalize (x.2 + a.r + b.r) * fl3 x.1 = G at f s ⊢
      generalize dot3 x.1 (minus3 Q P) = D at f s ⊢
      generalize dot3 x.1 (partP y k) = E at s ⊢
      have e1 := Int.mul_nonneg (show 0 ≤ 1024 - m by omega) (show 0 ≤ D - G by omega)
      have e2 := Int.mul_nonneg h0 (show 0 ≤ D - E - G by omega)
      have : 1024 * D - m * E - 1024 * G = (1024 - m) * (D - G) + m * (D - E - G) := by grind
      omega
  rcases hcs with h | ⟨_, h4, h5⟩
  · simp only [Prod.mk.injEq] at h
    obtain ⟨rfl, rfl⟩ := h
    exact key (.inl (told_far ha hb hr hx)) (.inr (partP_0 y))
  · simp only at h4 h5
    have htk := trail_last hs ht (k := k) (by omega) (by simp only at hk; omega)
    have hrt : (trailF a y k).r = a.r := by rw [trailF_yes hs (by omega) (by simp only at hk; omega)]
    have T : Told (trailF a y k) b x := by
      rw [h5]
      rw [h5] at hx
      exact told_far htk hb (by rw [hrt]; exact hr) hx
    exact key (.inr T) (.inl T)
/-- where a cast tells a gap below nought it is the first one -/
theorem cast_neg {a b : Cr} {y : P3} {k : Nat} {x : P3 × Int} (hok : castOk a y b = true) (hc : (castF a y b).1 = (k, x)) (hx : x.2 < 0) : k = 0 ∧ x = (apS a b).1 := by
  unfold castF at hc
  rw [if_pos hok] at hc
  have hcs := castL_spec a y b 16 0 (apS a b).1
  simp only at hc
  rw [hc] at hcs
  rcases hcs with h | ⟨h3, _, _⟩
  · simpa using h
  · simp only at h3; omega
theorem castOk_near {a b : Cr} {y : P3} (ha : a.may = true) (hb : b.may = true) (hl : a.p.length ≤ 16) (hp : ∀ P ∈ a.p, in3 8388608 P) (hy : in3 4194304 y) : castOk a y b = true := by
  have hs : smay a y = true := (smay_iff ..).2 ⟨ha, hl, hy⟩
  refine (castOk_iff ..).2 ⟨ha, hb, hs, trail_may hs (by decide) (by decide) fun z hz => ?_⟩
  have := hp z hz
  rw [partP_16]
  unfold in3 plusI at *
  simp only
  omega
theorem castF_ok {a b : Cr} {y : P3} (h : castOk a y b = true) : (castF a y b).2 = true := by unfold castF; rw [if_pos h]
end Go.Proofs.Ytckdhahceelckaa.G
namespace Go.Proofs.Ytckdhahceelckaa.G
open Go.RowKit Go.Proofs.YtckdhahceelckaaW.PrintWords Go.Proofs.YtckdhahceelckaaW.PrintLast Go.Proofs.YtckdhahceelckaaW.PrintMore
attribute [local go_sem] max2_mx min2_mn max_two min_two max_three min_three max_four min_four
attribute [local go_sem high] eqA23
set_option linter.unusedVariables false
set_option linter.unusedSimpArgs false
/-- a list of its own -/
def OwnPost (l : List P3) (w : World) (e : Ending) (w' : World) : Prop := ∃ v, e = .returned v ∧ OwnP w' w.heap.size v l ∧ Below w.heap.size w w'
set_option maxHeartbeats 2000000 in
set_option maxRecDepth 100000 in
theorem concat_own (l0 l1 : List P3) (n0 n1 : Nat) (A0 A1 : Option Addr) (c0 c1 g : Nat) (w : World) (hn0 : l0.length = n0) (hn1 : l1.length = n1) (hg0 : w.cell? ⟨g, 0, none⟩ = some (.slice A0 n0 c0)) (hg1 : w.cell? ⟨g, 1, none⟩ = some (.slice A1 n1 c1)) (h0 : Rd w A0 l0) (h1 : Rd w A1 l1) (hb0 : n0 ≤ 40000) (hb1 : n1 ≤ 40000) :
    Calls Try.prog 116 #[.slice (some ⟨g, 0, none⟩) 2 2] w (OwnPost (l0 ++ l1) w) := by
  have H0 := Lh h0
  have H1 := Lh h1
  have N0 := Lh hn0
  have N1 := Lh hn1
  have hgl := World.block_lt_of_cell? w _ hg0
  have HG0 := Lh hg0
  have HG1 := Lh hg1
  clear h0 h1 hn0 hn1 hg0 hg1
  go_enter Try.func116, Try.ntmps116
  go_wp2
  go_loopw [3, 5, 11] (fun v3 v5 v11 wr => ∃ k : Nat, k ≤ 2 ∧ v11 = .int .i64 k ∧ v3 = .int .i64 (csz n0 n1 k) ∧ Below w.heap.size w wr) (fun _ _ i _ => 2 - (intOf i).toNat)
  case atStart => exact ⟨0, by omega, rfl, rfl, Below.refl _ _⟩
  case round =>
    obtain ⟨k, hk, rfl, rfl, hbr⟩ := hrel
    have e0 := (hbr.cell (p := ⟨g, 0, none⟩) hgl).trans HG0.out
    have e1 := (hbr.cell (p := ⟨g, 1, none⟩) hgl).trans HG1.out
    have hc : k = 0 ∨ k = 1 ∨ k = 2 := by omega
    rcases hc with rfl | rfl | rfl
    · simp only [csz, if_true]
      go_wp2
      go_roundw
      case rel => exact ⟨1, by omega, rfl, by simp [csz], hbr⟩
      case measure => simp [intOf]
    · simp only [csz, if_true, if_neg (show ¬ (1 : Nat) = 0 by omega)]
      go_wp2
      go_roundw
      case rel => exact ⟨2, by omega, rfl, by simp [csz], hbr⟩
      case measure => simp [intOf]
    · simp only [csz, if_neg (show ¬ (2 : Nat) = 0 by omega), if_neg (show ¬ (2 : Nat) = 1 by omega)]
      clear e0 e1
      go_wp2_with fail
      have hgr := grow_calls (n0 + n1) wr (by omega)
      rw [Int.natCast_add] at hgr
      refine hgr.mono ?_
      rintro e w2 ⟨v, rfl, hv, hb2⟩
      have hB2 : Below w.heap.size w w2 := bthen hbr hb2
      have hv0 : OwnP w2 w.heap.size v [] := own_weaken hv hbr.size
      clear hgr hv hb2
      go_wp2
      clear hbr
      go_loopw [6, 8, 27] (fun v6 v8 v27 wr => ∃ k : Nat, k ≤ 2 ∧ v27 = .int .i64 k ∧ Hid (OwnP wr w.heap.size v6 (cpt l0 l1 k)) ∧ Hid (Below w.heap.size w wr)) (fun _ _ i _ => 2 - (intOf i).toNat)
      case atStart => exact ⟨0, by omega, rfl, hv0, hB2⟩
      case round =>
        clear hv0 hB2
        obtain ⟨k, hk, rfl, hv, hbr⟩ := hrel
        have hbr2 := hbr.out
        have e0 := (hbr2.cell (p := ⟨g, 0, none⟩) hgl).trans HG0.out
        have e1 := (hbr2.cell (p := ⟨g, 1, none⟩) hgl).trans HG1.out
        have hc : k = 0 ∨ k = 1 ∨ k = 2 := by omega
        rcases hc with rfl | rfl | rfl
        · go_wp2_with (at_builtin; refine append_pts w.heap.size rfl _ _ rfl _ [] l0 A0 _ _ rfl rfl hv.out (H0.out.below hbr2) N0.out (by simp; omega) hbr2.size ?_; intro v2 w3 hv2 hg2)
          go_roundw
          case rel => exact ⟨1, by omega, rfl, hv2, hbr2.grown hg2 hbr2.size (fun k hk => hv.out.base_ k hk)⟩
          case measure => simp [intOf]
        · go_wp2_with (at_builtin; refine append_pts w.heap.size rfl _ _ rfl _ l0 l1 A1 _ _ rfl rfl hv.out (H1.out.below hbr2) N1.out (by rw [N0.out]; omega) hbr2.size ?_; intro v2 w3 hv2 hg2)
          go_roundw
          case rel => exact ⟨2, by omega, rfl, hv2, hbr2.grown hg2 hbr2.size (fun k hk => hv.out.base_ k hk)⟩
          case measure => simp [intOf]
        · clear e0 e1
          go_wp2
          go_ret
          exact ⟨_, rfl, hv.out, hbr2⟩
set_option maxHeartbeats 2000000 in
/-- slices.DeleteFunc of a slice that is none -/
theorem delete_none (w : World) : Calls Try.prog 126 #[.slice none 0 0, .func (.func 127) #[] #[]] w fun e w' => e = .returned (.slice none 0 0) ∧ Below w.heap.size w w' := by
  have HI := Lh (index0_calls [] none 0 w (Rd.nil _ _) (Nat.le_refl _) (by decide))
  have hx : idx0 [] = -1 := rfl
  rw [hx, List.length_nil] at HI
  go_enter Try.func126, Try.ntmps126
  go_wp2_with fail
  with_reducible refine HI.out.mono ?_
  rintro e w1 ⟨rfl, hb⟩
  go_wp2
  go_ret
  exact ⟨rfl, hb⟩
theorem OwnP.lenB {w : World} {base : Nat} {v : Value} {l : List P3} (h : OwnP w base v l) : (v = .slice none 0 0 ∧ l = []) ∨ ∃ g c, v = .slice (some ⟨g, 0, none⟩) l.length c ∧ l.length ≤ c := by
  obtain ⟨hx, h2⟩ := h
  rcases h2 with ⟨e, hn⟩ | ⟨g', cap, cur, e, hb, hg, hnc, hm, hsz, ht⟩
  · exact .inl ⟨e, List.eq_nil_of_length_eq_zero hn⟩
  · exact .inr ⟨g', cap, e, hnc⟩
theorem delete_own (l : List P3) (base : Nat) (v : Value) (w : World) (h : OwnP w base v l) (hl : l.length ≤ 40000) (hb : base ≤ w.heap.size) :
    Calls Try.prog 126 #[v, .func (.func 127) #[] #[]] w fun e w' => ∃ u, e = .returned u ∧ OwnP w' base u (l.filter nz) ∧ Below base w w' := by
  rcases h.lenB with ⟨rfl, rfl⟩ | ⟨g, c, rfl, hc⟩
  · refine (delete_none w).mono ?_
    rintro e w' ⟨rfl, hb2⟩
    exact ⟨_, rfl, OwnP.nil _ _, hb2.mono hb⟩
  · have hz := h.fz
    refine (delete_calls l g _ c base w h hl).mono ?_
    rintro e w' ⟨m, rfl, ho, hg⟩
    exact ⟨_, rfl, ho, below_gb (Below.refl _ _) hg hz.2.2.1 hb⟩
theorem filter_len (l : List P3) : (l.filter nz).length ≤ l.length := List.length_filter_le _ _
set_option maxHeartbeats 4000000 in
set_option maxRecDepth 100000 in
theorem with_calls (l m : List P3) (n k : Nat) (A B : Option Addr) (c d : Nat) (w : World) (hn : l.length = n) (hk : m.length = k) (hA : Rd w A l) (hB : Rd w B m) (hn1 : n ≤ 10000) (hk1 : k ≤ 10000) :
    Calls Try.prog 79 #[.slice A n c, .slice B k d] w (PtsPostB (withF l m) w) := by
  have HC := Lh (concat_own l m n k A B c d w.heap.size (w.alloc (.cells #[.slice A n c, .slice B k d] 24)) hn hk (by simp) (by simp) (hA.alloc _) (hB.alloc _) (by omega) (by omega))
  have HL : Hid ((l ++ m).length ≤ 20000) := Lh (by rw [List.length_append]; omega)
  have HW : Hid (withF l m = ((l ++ m).filter nz).take 128) := Lh rfl
  obtain ⟨L, hL⟩ : ∃ L, l ++ m = L := ⟨_, rfl⟩
  rw [hL] at HC HL HW
  clear hn hk hL hA hB
  go_enter Try.func79, Try.ntmps79
  go_wp2_with fail
  with_reducible refine HC.out.mono ?_
  rintro e w1 ⟨v, rfl, ho, hb⟩
  have hsz : w.heap.size ≤ w1.heap.size := by have := hb.size; simp at this; omega
  have HB := Lh (((Below.refl _ w).alloc (Nat.le_refl _) (.cells #[.slice A n c, .slice B k d] 24)).trans (hb.mono (by simp)))
  have HO : Hid (OwnP w1 w.heap.size v L) := Lh (own_weaken ho (by simp))
  clear hb ho HC
  go_wp2_with fail
  with_reducible refine (delete_own L w.heap.size v w1 HO.out (by have := HL.out; omega) hsz).mono ?_
  rintro e w2 ⟨u, rfl, ho, hb⟩
  have HB := Lh (HB.out.trans hb)
  have HF := Lh (filter_len L)
  obtain ⟨F, hF⟩ : ∃ F, L.filter nz = F := ⟨_, rfl⟩
  rw [hF] at ho HW HF
  have hsz2 : w.heap.size ≤ w2.heap.size := HB.out.size
  have HO := Lh ho
  clear ho hb hF hsz
  rcases HO.out.lenB with ⟨rfl, rfl⟩ | ⟨g, cc, rfl, hcc⟩
  · have hr : withF l m = [] := by rw [HW.out]; rfl
    have HRR := Lh hr
    clear hr
    go_wp2_with (go_at_call 128; refine (clip_calls none 0 0 _ (Nat.le_refl _) (by decide) (fun _ => rfl)).mono ?_; rintro e w3 ⟨rfl, rfl⟩)
    go_ret
    rw [HRR.out]
    exact ⟨none, 0, rfl, Nat.le_refl _, RdB.nil _, HB.out, fun ad e => by cases e⟩
  · obtain ⟨q, hq⟩ : ∃ q, F.length = q := ⟨_, rfl⟩
    have hq2 : q ≤ 20000 := by have := HF.out; have := HL.out; omega
    rw [hq] at HO hcc ⊢
    by_cases t : q ≤ 128
    · have hm : mn (q : Int) 128 = (q : Int) := by unfold mn; split <;> omega
      have hr : withF l m = F := by rw [HW.out, List.take_of_length_le (by omega)]
      have HRR := Lh hr
      have HQ := Lh hq
      clear hq hr
      go_wp2_with (go_at_call 128; refine (clip_calls (some ⟨g, 0, none⟩) q cc _ hcc (by omega) (fun e => by cases e)).mono ?_; rintro e w3 ⟨rfl, rfl⟩)
      go_ret
      obtain ⟨A', c', e, h1, h2, h3⟩ := HO.out.rdB2
      injection e with e1 e2 e3
      subst e1
      rw [HRR.out]
      exact ⟨some ⟨g, 0, none⟩, q, by rw [HQ.out]; rfl, by rw [HQ.out]; exact Nat.le_refl _, h2, HB.out, fun ad e => by cases e; exact HO.out.fz.2.2.1⟩
    · have hm : mn (q : Int) 128 = ((128 : Nat) : Int) := by unfold mn; split <;> omega
      have hr : (withF l m).length = 128 := by rw [HW.out, List.length_take]; omega
      have ho := HO.out.cut 128 (by rw [hq]; omega)
      rw [← HW.out] at ho
      have HR := Lh hr
      have HOC := Lh ho
      clear hq hr ho
      go_wp2_with (go_at_call 128; refine (clip_calls (some ⟨g, 0, none⟩) 128 cc _ (by omega) (by omega) (fun e => by cases e)).mono ?_; rintro e w3 ⟨rfl, rfl⟩)
      go_ret
      obtain ⟨A', c', e, h1, h2, h3⟩ := HOC.out.rdB2
      injection e with e1 e2 e3
      subst e1
      exact ⟨some ⟨g, 0, none⟩, 128, by rw [HR.out]; rfl, by rw [HR.out]; exact Nat.le_refl _, h2, HB.out, fun ad e => by cases e; exact HOC.out.fz.2.2.1⟩
end Go.Proofs.Ytckdhahceelckaa.G
namespace Go.Proofs.Ytckdhahceelckaa.G
open Go.RowKit Go.Proofs.YtckdhahceelckaaW.PrintWords Go.Proofs.YtckdhahceelckaaW.PrintLast Go.Proofs.YtckdhahceelckaaW.PrintMore
attribute [local go_sem] max2_mx min2_mn max_two min_two max_three min_three max_four min_four
attribute [local go_sem high] eqA23 eqA40
set_option linter.unusedVariables false
set_option linter.unusedSimpArgs false
set_option maxHeartbeats 4000000 in
set_option maxRecDepth 100000 in
theorem smay_calls {w : World} {v : Value} {c : Cr} (h : CrV w v c) (y : P3) (hl : c.p.length ≤ 140737488355328) : Calls Try.prog 72 #[v, aP y] w fun e w' => e = .returned (.bool (smay c y)) ∧ Below w.heap.size w w' := by
  obtain ⟨p, a, e, r⟩ := c
  obtain ⟨yx, yy, yz⟩ := y
  obtain ⟨A0, A1, A2, c0, c1, c2, rfl, h0, h1, h2, k0, k1, k2⟩ := id h.out
  have hm : (apartS p a e r [⟨0, 0, 0⟩] [] [] 0).2 = mayF p a e r := by
    have := apS_may ⟨p, a, e, r⟩ ⟨[⟨0, 0, 0⟩], [], [], 0⟩
    rw [mayOne (x := ⟨0, 0, 0⟩) (by unfold in3; decide) (by decide) (by decide), Bool.and_true] at this
    exact this
  obtain ⟨R, hR⟩ : ∃ R, apartS p a e r [⟨0, 0, 0⟩] [] [] 0 = R := ⟨_, rfl⟩
  have HA := Lh (fun (W : World) (u v : Value) (h1 : CoreV W v p a e r) (h2 : CoreV W u [⟨0, 0, 0⟩] [] [] 0) => apart_all h1 h2 R hR)
  rw [hR] at hm
  obtain ⟨⟨⟨Rx, Ry, Rz⟩, Rg⟩, Ro⟩ := R
  simp only at HA hm
  obtain ⟨NP, hNP⟩ : ∃ n, p.length = n := ⟨_, rfl⟩
  obtain ⟨NA, hNA⟩ : ∃ n, a.length = n := ⟨_, rfl⟩
  obtain ⟨NE, hNE⟩ : ∃ n, e.length = n := ⟨_, rfl⟩
  have HS : Hid (smay ⟨p, a, e, r⟩ ⟨yx, yy, yz⟩ = (Ro && decide ((NP : Int) ≤ 16) && (decide (mx (mx yx yy) yz ≤ 4194304) && decide (-4194304 ≤ mn (mn yx yy) yz)))) := Lh (by
    unfold smay Cr.may wayOk
    rw [hm]
    simp only
    rw [hNP]
    have : decide (NP ≤ 16) = decide ((NP : Int) ≤ 16) := by by_cases t : NP ≤ 16 <;> simp [t] <;> omega
    rw [this])
  have HV := Lh (show CoreV w (.agg #[.slice A0 p.length c0, .slice A1 a.length c1, .slice A2 e.length c2, .int .i64 r]) p a e r from h)
  simp only at hl
  rw [hNP, hNA, hNE] at HV ⊢
  rw [hNP] at hl
  clear hNP hNA hNE hm hR h h0 h1 h2 k0 k1 k2
  have Z0 := Lh (three0 w (.cells #[.slice A0 NP c0, .slice A1 NA c1, .slice A2 NE c2, .int .i64 r] 36) (.cells #[.int .i64 yx, .int .i64 yy, .int .i64 yz] 23) (.cells #[.int .i64 0, .int .i64 0, .int .i64 0] 23))
  have Z1 := Lh (three1 w (.cells #[.slice A0 NP c0, .slice A1 NA c1, .slice A2 NE c2, .int .i64 r] 36) (.cells #[.int .i64 yx, .int .i64 yy, .int .i64 yz] 23) (.cells #[.int .i64 0, .int .i64 0, .int .i64 0] 23))
  have Z2 := Lh (three2 w (.cells #[.slice A0 NP c0, .slice A1 NA c1, .slice A2 NE c2, .int .i64 r] 36) (.cells #[.int .i64 yx, .int .i64 yy, .int .i64 yz] 23) (.cells #[.int .i64 0, .int .i64 0, .int .i64 0] 23))
  have ZB := Lh (Go.Joins.below_alloc3 w (.cells #[.slice A0 NP c0, .slice A1 NA c1, .slice A2 NE c2, .int .i64 r] 36) (.cells #[.int .i64 yx, .int .i64 yy, .int .i64 yz] 23) (.cells #[.int .i64 0, .int .i64 0, .int .i64 0] 23))
  go_enter Try.func72, Try.ntmps72
  go_wp2_with fail
  obtain ⟨w1, hw1⟩ : ∃ V, ((w.alloc (.cells #[.slice A0 NP c0, .slice A1 NA c1, .slice A2 NE c2, .int .i64 r] 36)).alloc (.cells #[.int .i64 yx, .int .i64 yy, .int .i64 yz] 23)).alloc (.cells #[.int .i64 0, .int .i64 0, .int .i64 0] 23) = V := ⟨_, rfl⟩
  rw [hw1] at Z0 Z1 Z2 ZB ⊢
  clear hw1
  with_reducible refine (HA.out w1 _ _ (HV.out.below ZB.out) (ball_core w1 _ 0 0 0 0 1 (Nat.le_refl _) Z2.out)).mono ?_
  rintro e w2 ⟨rfl, hb⟩
  have Z0 := Lh ((hb.block _ (blk_lt Z0.out)).trans Z0.out)
  have Z1 := Lh ((hb.block _ (blk_lt Z1.out)).trans Z1.out)
  have ZB := Lh (bthen ZB.out hb)
  have x0 : w2.cell? ⟨w.heap.size, 0, none⟩ = some (.slice A0 NP c0) := (blk_cell Z0.out 0).trans rfl
  have y0 : w2.cell? ⟨w.heap.size + 1, 0, none⟩ = some (.int .i64 yx) := (blk_cell Z1.out 0).trans rfl
  have y1 : w2.cell? ⟨w.heap.size + 1, 1, none⟩ = some (.int .i64 yy) := (blk_cell Z1.out 1).trans rfl
  have y2 : w2.cell? ⟨w.heap.size + 1, 2, none⟩ = some (.int .i64 yz) := (blk_cell Z1.out 2).trans rfl
  have l0 : w.heap.size < w2.heap.size := blk_lt Z0.out
  have l1 : w.heap.size + 1 < w2.heap.size := blk_lt Z1.out
  have ZB2 := Lh (bthen ZB.out ((Below.refl _ w2).alloc (Nat.le_refl _) (.cells #[.int .i64 Rx, .int .i64 Ry, .int .i64 Rz, .int .i64 Rg] 40)))
  clear hb HA HV Z2
  cases Ro with
  | false =>
    have HS2 := Lh (HS.out.trans (by simp : _ = false))
    clear HS
    go_wp2
    go_ret
    exact ⟨by rw [HS2.out]; rfl, ZB2.out⟩
  | true =>
    by_cases t1 : (NP : Int) ≤ 16
    · have e1 : decide ((NP : Int) ≤ 16) = true := decide_eq_true t1
      by_cases t2 : mx (mx yx yy) yz ≤ 4194304
      · have e2 : decide (mx (mx yx yy) yz ≤ 4194304) = true := decide_eq_true t2
        by_cases t3 : -4194304 ≤ mn (mn yx yy) yz
        · have e3 : decide (-4194304 ≤ mn (mn yx yy) yz) = true := decide_eq_true t3
          have HS2 := Lh (HS.out.trans (by rw [e1, e2, e3]; rfl : _ = true))
          clear HS t1 t2 t3
          go_wp2
          go_ret
          exact ⟨by rw [HS2.out]; rfl, ZB2.out⟩
        · have e3 : decide (-4194304 ≤ mn (mn yx yy) yz) = false := decide_eq_false t3
          have HS2 := Lh (HS.out.trans (by rw [e1, e2, e3]; rfl : _ = false))
          clear HS t1 t2 t3
          go_wp2
          go_ret
          exact ⟨by rw [HS2.out]; rfl, ZB2.out⟩
      · have e2 : decide (mx (mx yx yy) yz ≤ 4194304) = false := decide_eq_false t2
        have HS2 := Lh (HS.out.trans (by rw [e1, e2]; rfl : _ = false))
        clear HS t1 t2
        go_wp2
        go_ret
        exact ⟨by rw [HS2.out]; rfl, ZB2.out⟩
    · have e1 : decide ((NP : Int) ≤ 16) = false := decide_eq_false t1
      have HS2 := Lh (HS.out.trans (by rw [e1]; rfl : _ = false))
      clear HS t1
      go_wp2
      go_ret
      exact ⟨by rw [HS2.out]; rfl, ZB2.out⟩
end Go.Proofs.Ytckdhahceelckaa.G
namespace Go.Proofs.Ytckdhahceelckaa.G
open Go.RowKit Go.Proofs.YtckdhahceelckaaW.PrintWords Go.Proofs.YtckdhahceelckaaW.PrintLast Go.Proofs.YtckdhahceelckaaW.PrintMore
attribute [local go_sem] max2_mx min2_mn max_two min_two max_three min_three max_four min_four
attribute [local go_sem high] eqA23 eqA40
set_option linter.unusedVariables false
set_option linter.unusedSimpArgs false
attribute [local go_sem high] eqSn eqSs
set_option maxHeartbeats 2000000 in
set_option maxRecDepth 100000 in
theorem clone_own (l : List P3) (n : Nat) (A : Option Addr) (c : Nat) (w : World) (hn : l.length = n) (hr : Rd w A l) (hb : n ≤ 40000) :
    Calls Try.prog 71 #[.slice A n c] w (OwnPost l w) := by
  have HR := Lh hr
  have HN := Lh hn
  cases A with
  | none =>
    have h0 : l = [] := by
      cases l with
      | nil => rfl
      | cons p l => obtain ⟨b, o', e, _⟩ := hr 0 p rfl; cases e
    subst h0
    clear hn hr
    go_enter Try.func71, Try.ntmps71
    go_wp2
    go_ret
    exact ⟨_, rfl, OwnP.nil _ _, Below.refl _ _⟩
  | some ad =>
    clear hn hr
    go_enter Try.func71, Try.ntmps71
    have hown : OwnP (w.alloc (.cells #[] 23)) w.heap.size (.slice (some ⟨w.heap.size, 0, none⟩) 0 0) [] := ⟨rfl, .inr ⟨w.heap.size, 0, #[], rfl, Nat.le_refl _, heap_alloc_new w (.cells #[] 23), Nat.le_refl _, by decide, rfl, rfl⟩⟩
    have hB := (Below.refl w.heap.size w).alloc (Nat.le_refl _) (.cells #[] 23)
    have HOWN := Lh hown
    have HB := Lh hB
    clear hown hB
    go_wp2_with (at_builtin; refine appL_ w.heap.size rfl _ _ rfl _ [] l (some ad) _ _ rfl rfl HOWN.out (HR.out.below HB.out) HN.out (by simp; omega) HB.out.size ?_; intro v2 w3 hv hg hat)
    go_ret
    exact ⟨_, rfl, by simpa using hv, HB.out.grown hg HB.out.size (fun k hk => HOWN.out.base_ k hk)⟩
theorem CSt.setKeep {w1 W : World} {v : Value} {l : List P3} {keep : List Nat} (h : CSt w1 W v l keep) {k : Nat} (hk : k ∈ keep) (hw : w1.heap.size ≤ k) (j : Nat) (u : Value) : CSt w1 (W.setCell ⟨k, j, none⟩ u) v l keep :=
  ⟨own_setCell h.own (fun e => (h.ne k hk).1 e.symm) u, h.below.setCell (p := ⟨k, j, none⟩) hw u, fun i hi => ⟨(h.ne i hi).1, by simpa using (h.ne i hi).2⟩⟩
theorem blk_s1 {w : World} {g : Nat} {a b c d : Value} {t : TypeId} (h : w.heap[g]? = some (.cells #[a, b, c, d] t (0, 0))) (u : Value) : (w.setCell ⟨g, 1, none⟩ u).heap[g]? = some (.cells #[a, u, c, d] t (0, 0)) := by
  simp [World.setCell, Array.getElem?_modify, h]
theorem blk_s2 {w : World} {g : Nat} {a b c d : Value} {t : TypeId} (h : w.heap[g]? = some (.cells #[a, b, c, d] t (0, 0))) (u : Value) : (w.setCell ⟨g, 2, none⟩ u).heap[g]? = some (.cells #[a, b, u, d] t (0, 0)) := by
  simp [World.setCell, Array.getElem?_modify, h]
/-- a list of its own from a world on -/
def RdV (W : World) (b : Nat) (v : Value) (l : List P3) : Prop := ∃ A c, v = .slice A l.length c ∧ l.length ≤ c ∧ RdB W A l ∧ ∀ ad, A = some ad → b ≤ ad.block
theorem RdV.below {W W1 : World} {b : Nat} {v : Value} {l : List P3} (h : RdV W b v l) (hb : Below W.heap.size W W1) : RdV W1 b v l := by
  obtain ⟨A, c, e, h1, h2, h3⟩ := h
  exact ⟨A, c, e, h1, h2.below hb, h3⟩
theorem wmul16 (x k : Int) (hx : -4194304 ≤ x ∧ x ≤ 4194304) (h0 : 0 ≤ k) (h1 : k ≤ 16) : wrap64 (x * k) = x * k ∧ wrap64 ((x * k).tdiv 16) = (x * k).tdiv 16 := by
  have a := tdiv16 x k h0 h1
  have hb : -67108864 ≤ x * k ∧ x * k ≤ 67108864 := by
    have e1 := Int.mul_nonneg (show 0 ≤ x + 4194304 by omega) h0
    have e2 := Int.mul_nonneg (show 0 ≤ 4194304 - x by omega) h0
    rw [Int.add_mul] at e1
    rw [Int.sub_mul] at e2
    omega
  unfold wrap64
  omega
def TrailPost (t : Cr) (w : World) (en : Ending) (w' : World) : Prop := ∃ v, en = .returned v ∧ CrV w' v t ∧ Below w.heap.size w w'
set_option maxHeartbeats 16000000 in
set_option maxRecDepth 100000 in
theorem trail_in (p a e : List P3) (r : Int) (A0 A1 A2 : Option Addr) (c0 c1 c2 : Nat) (y : P3) (K : Int) (w : World) (hv : CoreV w (.agg #[.slice A0 p.length c0, .slice A1 a.length c1, .slice A2 e.length c2, .int .i64 r]) p a e r) (h0 : RdB w A0 p) (h1 : RdB w A1 a) (h2 : RdB w A2 e) (hl : p.length ≤ 140737488355328) :
    Calls Try.prog 37 #[.agg #[.slice A0 p.length c0, .slice A1 a.length c1, .slice A2 e.length c2, .int .i64 r], aP y, .int .i64 K] w (TrailPost (trailF ⟨p, a, e, r⟩ y K) w) := by
  have HM := Lh (fun (W : World) (hW : CoreV W (.agg #[.slice A0 p.length c0, .slice A1 a.length c1, .slice A2 e.length c2, .int .i64 r]) p a e r) => smay_calls (c := ⟨p, a, e, r⟩) hW y hl)
  have HYES := Lh (fun (h : smay ⟨p, a, e, r⟩ y = true) => (smay_iff ⟨p, a, e, r⟩ y).1 h)
  have HT1 := Lh (fun (h : smay ⟨p, a, e, r⟩ y = true) (g0 : 0 ≤ K) (g1 : K ≤ 16) => trailF_yes (c := ⟨p, a, e, r⟩) h g0 g1)
  have HT0 := Lh (fun (h : smay ⟨p, a, e, r⟩ y = false ∨ K < 0 ∨ 16 < K) => show trailF ⟨p, a, e, r⟩ y K = Cr0 from if_neg (by
    rintro ⟨q0, q1, q2⟩
    rcases h with h | h | h
    · rw [h] at q0; cases q0
    · omega
    · omega))
  obtain ⟨S, hS⟩ : ∃ S, smay ⟨p, a, e, r⟩ y = S := ⟨_, rfl⟩
  rw [hS] at HM HYES HT0 HT1
  obtain ⟨T, hT⟩ : ∃ T, trailF ⟨p, a, e, r⟩ y K = T := ⟨_, rfl⟩
  rw [hT] at HT0 HT1 ⊢
  obtain ⟨yx, yy, yz⟩ := y
  obtain ⟨NP, hNP⟩ : ∃ N, p.length = N := ⟨_, rfl⟩
  obtain ⟨NA, hNA⟩ : ∃ N, a.length = N := ⟨_, rfl⟩
  obtain ⟨NE, hNE⟩ : ∃ N, e.length = N := ⟨_, rfl⟩
  have HNP := Lh hNP
  have HNA := Lh hNA
  have HNE := Lh hNE
  rw [hNP, hNA, hNE] at hv HM ⊢
  rw [hNP] at hl
  have HV := Lh hv
  have H0 := Lh h0
  have H1 := Lh h1
  have H2 := Lh h2
  clear h0 h1 h2 hv hS hT hNP hNA hNE hl
  have z0 := three0 w (.cells #[.slice A0 NP c0, .slice A1 NA c1, .slice A2 NE c2, .int .i64 r] 36) (.cells #[.int .i64 yx, .int .i64 yy, .int .i64 yz] 23) (.cells #[.slice none 0 0, .slice none 0 0, .slice none 0 0, .int .i64 0] 36)
  have z1 := three1 w (.cells #[.slice A0 NP c0, .slice A1 NA c1, .slice A2 NE c2, .int .i64 r] 36) (.cells #[.int .i64 yx, .int .i64 yy, .int .i64 yz] 23) (.cells #[.slice none 0 0, .slice none 0 0, .slice none 0 0, .int .i64 0] 36)
  have z2 := three2 w (.cells #[.slice A0 NP c0, .slice A1 NA c1, .slice A2 NE c2, .int .i64 r] 36) (.cells #[.int .i64 yx, .int .i64 yy, .int .i64 yz] 23) (.cells #[.slice none 0 0, .slice none 0 0, .slice none 0 0, .int .i64 0] 36)
  have zb := Go.Joins.below_alloc3 w (.cells #[.slice A0 NP c0, .slice A1 NA c1, .slice A2 NE c2, .int .i64 r] 36) (.cells #[.int .i64 yx, .int .i64 yy, .int .i64 yz] 23) (.cells #[.slice none 0 0, .slice none 0 0, .slice none 0 0, .int .i64 0] 36)
  go_enter Try.func37, Try.ntmps37
  go_wp2_with fail
  obtain ⟨w1, hw1⟩ : ∃ V, ((w.alloc (.cells #[.slice A0 NP c0, .slice A1 NA c1, .slice A2 NE c2, .int .i64 r] 36)).alloc (.cells #[.int .i64 yx, .int .i64 yy, .int .i64 yz] 23)).alloc (.cells #[.slice none 0 0, .slice none 0 0, .slice none 0 0, .int .i64 0] 36) = V := ⟨_, rfl⟩
  rw [hw1] at z0 z1 z2 zb ⊢
  clear hw1
  with_reducible refine (HM.out w1 (HV.out.below zb)).mono ?_
  rintro en w2 ⟨rfl, hb⟩
  have Z0 := Lh ((hb.block _ (blk_lt z0)).trans z0)
  have Z1 := Lh ((hb.block _ (blk_lt z1)).trans z1)
  have Z2 := Lh ((hb.block _ (blk_lt z2)).trans z2)
  have ZB := Lh (bthen zb hb)
  have H0 := Lh (H0.out.below ZB.out)
  have H1 := Lh (H1.out.below ZB.out)
  have H2 := Lh (H2.out.below ZB.out)
  clear zb z0 z1 z2 hb HM HV
  cases S with
  | false =>
    have HT := Lh (HT0.out (.inl rfl))
    clear HT0 HT1 HYES
    have f0 : w2.frozen? ⟨w.heap.size + 2, 0, none⟩ = false := blk_frozen Z2.out 0
    have f1 : w2.frozen? ⟨w.heap.size + 2, 1, none⟩ = false := blk_frozen Z2.out 1
    have f2 : w2.frozen? ⟨w.heap.size + 2, 2, none⟩ = false := blk_frozen Z2.out 2
    have f3 : w2.frozen? ⟨w.heap.size + 2, 3, none⟩ = false := blk_frozen Z2.out 3
    have r0 : w2.cell? ⟨w.heap.size + 2, 0, none⟩ = some (.slice none 0 0) := (blk_cell Z2.out 0).trans rfl
    have r1 : w2.cell? ⟨w.heap.size + 2, 1, none⟩ = some (.slice none 0 0) := (blk_cell Z2.out 1).trans rfl
    have r2 : w2.cell? ⟨w.heap.size + 2, 2, none⟩ = some (.slice none 0 0) := (blk_cell Z2.out 2).trans rfl
    have r3 : w2.cell? ⟨w.heap.size + 2, 3, none⟩ = some (.int .i64 0) := (blk_cell Z2.out 3).trans rfl
    obtain ⟨V, hV⟩ : ∃ V, set4 w2 (w.heap.size + 1 + 1) (.slice none 0 0) (.slice none 0 0) (.slice none 0 0) (.int .i64 0) = V := ⟨_, rfl⟩
    have HV : V.heap[w.heap.size + 2]? = some (.cells #[.slice none 0 0, .slice none 0 0, .slice none 0 0, .int .i64 0] 36 (0, 0)) := by rw [← hV]; exact blk4_set Z2.out _ _ _ _
    have HBV : Below w.heap.size w V := by rw [← hV]; exact below_set4 ZB.out (by omega) _ _ _ _
    have t0 : V.cell? ⟨w.heap.size + 1 + 1, 0, none⟩ = some (.slice none 0 0) := (blk_cell HV 0).trans rfl
    have t1 : V.cell? ⟨w.heap.size + 1 + 1, 1, none⟩ = some (.slice none 0 0) := (blk_cell HV 1).trans rfl
    have t2 : V.cell? ⟨w.heap.size + 1 + 1, 2, none⟩ = some (.slice none 0 0) := (blk_cell HV 2).trans rfl
    have t3 : V.cell? ⟨w.heap.size + 1 + 1, 3, none⟩ = some (.int .i64 0) := (blk_cell HV 3).trans rfl
    go_wp2
    (try rw [hV])
    exact bodyPost_ret (v := .agg #[.slice none 0 0, .slice none 0 0, .slice none 0 0, .int .i64 0]) (by simp [results, Try.results37, go_sem, t0, t1, t2, t3]) rfl ⟨_, rfl, by rw [HT.out]; exact ⟨none, none, none, 0, 0, 0, rfl, RdB.nil _, RdB.nil _, RdB.nil _, Nat.le_refl _, Nat.le_refl _, Nat.le_refl _⟩, HBV⟩
  | true =>
    by_cases tk0 : K < 0
    · have ek0 : decide (K < 0) = true := decide_eq_true tk0
      have HT := Lh (HT0.out (.inr (.inl tk0)))
      clear HT0 HT1 HYES
      have f0 : w2.frozen? ⟨w.heap.size + 2, 0, none⟩ = false := blk_frozen Z2.out 0
      have f1 : w2.frozen? ⟨w.heap.size + 2, 1, none⟩ = false := blk_frozen Z2.out 1
      have f2 : w2.frozen? ⟨w.heap.size + 2, 2, none⟩ = false := blk_frozen Z2.out 2
      have f3 : w2.frozen? ⟨w.heap.size + 2, 3, none⟩ = false := blk_frozen Z2.out 3
      have r0 : w2.cell? ⟨w.heap.size + 2, 0, none⟩ = some (.slice none 0 0) := (blk_cell Z2.out 0).trans rfl
      have r1 : w2.cell? ⟨w.heap.size + 2, 1, none⟩ = some (.slice none 0 0) := (blk_cell Z2.out 1).trans rfl
      have r2 : w2.cell? ⟨w.heap.size + 2, 2, none⟩ = some (.slice none 0 0) := (blk_cell Z2.out 2).trans rfl
      have r3 : w2.cell? ⟨w.heap.size + 2, 3, none⟩ = some (.int .i64 0) := (blk_cell Z2.out 3).trans rfl
      obtain ⟨V, hV⟩ : ∃ V, set4 w2 (w.heap.size + 1 + 1) (.slice none 0 0) (.slice none 0 0) (.slice none 0 0) (.int .i64 0) = V := ⟨_, rfl⟩
      have HV : V.heap[w.heap.size + 2]? = some (.cells #[.slice none 0 0, .slice none 0 0, .slice none 0 0, .int .i64 0] 36 (0, 0)) := by rw [← hV]; exact blk4_set Z2.out _ _ _ _
      have HBV : Below w.heap.size w V := by rw [← hV]; exact below_set4 ZB.out (by omega) _ _ _ _
      have t0 : V.cell? ⟨w.heap.size + 1 + 1, 0, none⟩ = some (.slice none 0 0) := (blk_cell HV 0).trans rfl
      have t1 : V.cell? ⟨w.heap.size + 1 + 1, 1, none⟩ = some (.slice none 0 0) := (blk_cell HV 1).trans rfl
      have t2 : V.cell? ⟨w.heap.size + 1 + 1, 2, none⟩ = some (.slice none 0 0) := (blk_cell HV 2).trans rfl
      have t3 : V.cell? ⟨w.heap.size + 1 + 1, 3, none⟩ = some (.int .i64 0) := (blk_cell HV 3).trans rfl
      go_wp2
      (try rw [hV])
      exact bodyPost_ret (v := .agg #[.slice none 0 0, .slice none 0 0, .slice none 0 0, .int .i64 0]) (by simp [results, Try.results37, go_sem, t0, t1, t2, t3]) rfl ⟨_, rfl, by rw [HT.out]; exact ⟨none, none, none, 0, 0, 0, rfl, RdB.nil _, RdB.nil _, RdB.nil _, Nat.le_refl _, Nat.le_refl _, Nat.le_refl _⟩, HBV⟩
    have ek0 : decide (K < 0) = false := decide_eq_false tk0
    by_cases tk1 : 16 < K
    · have ek1 : decide (16 < K) = true := decide_eq_true tk1
      have HT := Lh (HT0.out (.inr (.inr tk1)))
      clear HT0 HT1 HYES
      have f0 : w2.frozen? ⟨w.heap.size + 2, 0, none⟩ = false := blk_frozen Z2.out 0
      have f1 : w2.frozen? ⟨w.heap.size + 2, 1, none⟩ = false := blk_frozen Z2.out 1
      have f2 : w2.frozen? ⟨w.heap.size + 2, 2, none⟩ = false := blk_frozen Z2.out 2
      have f3 : w2.frozen? ⟨w.heap.size + 2, 3, none⟩ = false := blk_frozen Z2.out 3
      have r0 : w2.cell? ⟨w.heap.size + 2, 0, none⟩ = some (.slice none 0 0) := (blk_cell Z2.out 0).trans rfl
      have r1 : w2.cell? ⟨w.heap.size + 2, 1, none⟩ = some (.slice none 0 0) := (blk_cell Z2.out 1).trans rfl
      have r2 : w2.cell? ⟨w.heap.size + 2, 2, none⟩ = some (.slice none 0 0) := (blk_cell Z2.out 2).trans rfl
      have r3 : w2.cell? ⟨w.heap.size + 2, 3, none⟩ = some (.int .i64 0) := (blk_cell Z2.out 3).trans rfl
      obtain ⟨V, hV⟩ : ∃ V, set4 w2 (w.heap.size + 1 + 1) (.slice none 0 0) (.slice none 0 0) (.slice none 0 0) (.int .i64 0) = V := ⟨_, rfl⟩
      have HV : V.heap[w.heap.size + 2]? = some (.cells #[.slice none 0 0, .slice none 0 0, .slice none 0 0, .int .i64 0] 36 (0, 0)) := by rw [← hV]; exact blk4_set Z2.out _ _ _ _
      have HBV : Below w.heap.size w V := by rw [← hV]; exact below_set4 ZB.out (by omega) _ _ _ _
      have t0 : V.cell? ⟨w.heap.size + 1 + 1, 0, none⟩ = some (.slice none 0 0) := (blk_cell HV 0).trans rfl
      have t1 : V.cell? ⟨w.heap.size + 1 + 1, 1, none⟩ = some (.slice none 0 0) := (blk_cell HV 1).trans rfl
      have t2 : V.cell? ⟨w.heap.size + 1 + 1, 2, none⟩ = some (.slice none 0 0) := (blk_cell HV 2).trans rfl
      have t3 : V.cell? ⟨w.heap.size + 1 + 1, 3, none⟩ = some (.int .i64 0) := (blk_cell HV 3).trans rfl
      go_wp2
      (try rw [hV])
      exact bodyPost_ret (v := .agg #[.slice none 0 0, .slice none 0 0, .slice none 0 0, .int .i64 0]) (by simp [results, Try.results37, go_sem, t0, t1, t2, t3]) rfl ⟨_, rfl, by rw [HT.out]; exact ⟨none, none, none, 0, 0, 0, rfl, RdB.nil _, RdB.nil _, RdB.nil _, Nat.le_refl _, Nat.le_refl _, Nat.le_refl _⟩, HBV⟩
    have ek1 : decide (16 < K) = false := decide_eq_false tk1
    obtain ⟨hm, hl16, hy⟩ := HYES.out rfl
    have m := Cr.mayP hm
    have g0 : 0 ≤ K := by omega
    have g1 : K ≤ 16 := by omega
    have hl1 : NP ≤ 16 := by rw [← HNP.out]; exact hl16
    have hl2 : NA ≤ 128 := by rw [← HNA.out]; exact m.a1
    have hl3 : NE ≤ 128 := by rw [← HNE.out]; exact m.e1
    have HT := Lh (HT1.out rfl g0 g1)
    have HEI := Lh (far_in (by decide) (by decide) m.ef)
    have hpi := far_in (by decide) (by decide) m.pf
    have hBB := partP_bd ⟨yx, yy, yz⟩ K g0 g1 4194304 hy (by decide)
    have ⟨mx1, mx2⟩ := wmul16 yx K ⟨hy.1, hy.2.1⟩ g0 g1
    have ⟨my1, my2⟩ := wmul16 yy K ⟨hy.2.2.1, hy.2.2.2.1⟩ g0 g1
    have ⟨mz1, mz2⟩ := wmul16 yz K ⟨hy.2.2.2.2.1, hy.2.2.2.2.2⟩ g0 g1
    have HPX := Lh (fun k (hk : k < p.length) => show plusI (partP ⟨yx, yy, yz⟩ K) p[k] = ⟨wrap64 (p[k].x + wrap64 ((wrap64 (yx * K)).tdiv 16)), wrap64 (p[k].y + wrap64 ((wrap64 (yy * K)).tdiv 16)), wrap64 (p[k].z + wrap64 ((wrap64 (yz * K)).tdiv 16))⟩ by
      have := hpi p[k] (List.getElem_mem hk)
      rw [mx1, my1, mz1, mx2, my2, mz2]
      unfold in3 partP at hBB
      unfold in3 at this
      unfold plusI partP wrap64
      simp only [P3.mk.injEq] at this hBB ⊢
      omega)
    have HLM := Lh (fun k (hk : k < p.length) => show (p ++ p.map (plusI (partP ⟨yx, yy, yz⟩ K))).take (NP + (k + 1)) = (p ++ p.map (plusI (partP ⟨yx, yy, yz⟩ K))).take (NP + k) ++ [plusI (partP ⟨yx, yy, yz⟩ K) p[k]] by
      have h9 := HNP.out
      rw [show NP + (k + 1) = NP + k + 1 from rfl, List.take_succ_eq_append_getElem (by rw [List.length_append, List.length_map, HNP.out]; omega), List.getElem_append_right (by rw [HNP.out]; omega)]
      simp [HNP.out])
    have HLM0 : Hid ((p ++ p.map (plusI (partP ⟨yx, yy, yz⟩ K))).take (NP + 0) = p) := Lh (by rw [Nat.add_zero, ← HNP.out, List.take_left])
    have HLM1 : Hid ((p ++ p.map (plusI (partP ⟨yx, yy, yz⟩ K))).take (NP + NP) = p ++ p.map (plusI (partP ⟨yx, yy, yz⟩ K))) := Lh (List.take_of_length_le (by rw [List.length_append, List.length_map, HNP.out]; exact Nat.le_refl _))
    have HLL : Hid ((p ++ p.map (plusI (partP ⟨yx, yy, yz⟩ K))).length ≤ 32) := Lh (by rw [List.length_append, List.length_map, HNP.out]; omega)
    obtain ⟨LM, hLM⟩ : ∃ L, p ++ p.map (plusI (partP ⟨yx, yy, yz⟩ K)) = L := ⟨_, rfl⟩
    rw [hLM] at HLM HLM0 HLM1 HLL HT
    have HSH := Lh (fun W => short_calls yx yy yz W)
    obtain ⟨s, hs⟩ : ∃ s, short3 ⟨yx, yy, yz⟩ = s := ⟨_, rfl⟩
    rw [hs] at HSH HT
    have HLA := Lh (fun k (hk : k < e.length) => show (acrossF ⟨yx, yy, yz⟩ e).take (k + 1) = (acrossF ⟨yx, yy, yz⟩ e).take k ++ [short3 (cross3 e[k] s)] by
      unfold acrossF
      rw [List.take_succ_eq_append_getElem (by rw [List.length_map]; exact hk), List.getElem_map, hs])
    have HLAL : Hid ((acrossF ⟨yx, yy, yz⟩ e).length = NE) := Lh (by unfold acrossF; rw [List.length_map]; exact HNE.out)
    obtain ⟨LA, hLA⟩ : ∃ L, acrossF ⟨yx, yy, yz⟩ e = L := ⟨_, rfl⟩
    rw [hLA] at HLA HLAL HT
    obtain ⟨sx, sy, sz⟩ := s
    simp only at HSH
    have HCL := Lh (fun (W : World) (hW : RdB W A0 p) => clone_own p NP A0 c0 W HNP.out hW.1 (by omega))
    have HW1 := Lh (fun (W : World) (va : Option Addr) (ca : Nat) (hA : RdB W A1 a) (hB : RdB W va LA) => with_calls a LA NA NE A1 va c1 ca W HNA.out HLAL.out hA.1 hB.1 (by omega) (by omega))
    have HW2 := Lh (fun (W : World) (vb : Option Addr) (hA : RdB W A2 e) (hB : RdB W vb [⟨sx, sy, sz⟩]) => with_calls e [⟨sx, sy, sz⟩] NE 1 A2 vb c2 1 W HNE.out rfl hA.1 hB.1 (by omega) (by omega))
    clear HT0 HT1 HYES hm hl16 m hpi hBB hLM hs hLA tk0 tk1 hy g0 g1 mx1 mx2 my1 my2 mz1 mz2
    have x0 : w2.cell? ⟨w.heap.size, 0, none⟩ = some (.slice A0 NP c0) := (blk_cell Z0.out 0).trans rfl
    have x3 : w2.cell? ⟨w.heap.size, 3, none⟩ = some (.int .i64 r) := (blk_cell Z0.out 3).trans rfl
    have l0 : w.heap.size < w2.heap.size := blk_lt Z0.out
    go_wp2_with fail
    have HB := Lh ((Below.refl w2.heap.size w2).drew)
    have FF := Lh (show ∀ V, Hid (Below (w2.heap.size) w2 V) → V.cell? ⟨w.heap.size, 0, none⟩ = some (.slice A0 NP c0) ∧ V.cell? ⟨w.heap.size, 3, none⟩ = some (.int .i64 r) from fun V HB => ⟨(HB.out.cell (p := ⟨w.heap.size, 0, none⟩) (l0)).trans x0, (HB.out.cell (p := ⟨w.heap.size, 3, none⟩) (l0)).trans x3⟩)
    refine start_ (n := 8) (S := fun w' => w'.cell? ⟨w.heap.size, 0, none⟩ = some (.slice A0 NP c0) ∧ w'.cell? ⟨w.heap.size, 3, none⟩ = some (.int .i64 r)) (ds := []) (MT 0 8) (by kernel_rfl) rfl rfl (FF.out _ HB) (fun hHeld => ?_)
    obtain ⟨wd, hwd⟩ : ∃ x, w2.drew = x := ⟨_, rfl⟩
    rw [hwd] at HB hHeld ⊢
    clear hwd
    refine pu_ 0 27 (h := ?_)
    refine pu_ 2 29 (h := ?_)
    refine ta_ 1 28 hHeld (h := ?_)
    refine ta_ 3 30 hHeld (h := ?_)
    refine join_ (σ := Nat × Value) 1 (MT 7 1) (fun s => [(31, s.2), (32, .agg #[s.2, .slice none 0 0, .slice none 0 0, .int .i64 r]), (7, .pointer (some ⟨s.1, 0, none⟩))]) (fun (s : Nat × Value) w' => match s with | (s1, s2) => w2.heap.size ≤ s1 ∧ w'.heap[s1]? = some (.cells #[.slice none 0 0, .slice none 0 0, .slice none 0 0, .int .i64 0] 36 (0, 0)) ∧ Below (w2.heap.size) w2 w' ∧ OwnP w' w2.heap.size s2 p ∧ s2.ownBlock ≠ some s1) ?_ ?_
    rotate_left
    · intro hCont
      refine two_ (i := 4) (j := 6) (Ni := some 31) (Nj := some 7) (MT 5 3) #[true, true, true, true, false, false, true, false] rfl rfl rfl rfl (by kernel_rfl) (by decide) (by decide) (fun K hK => ?_) (fun K hK => ?_)
      · skip
        refine gs_ Try.func71 #[.slice A0 NP c0] ?_
        with_reducible refine (HCL.out _ (H0.out.below HB.out)).mono ?_
        rintro en w3 ⟨vc, rfl, ho, hb⟩
        obtain ⟨Av, nv, cv, hvv⟩ : ∃ A n c, vc = .slice A n c := (by obtain ⟨A, c, h, _⟩ := OwnP.rd ho; exact ⟨A, _, c, h⟩)
        subst hvv
        have HO : Hid (OwnP _ w2.heap.size (.slice Av nv cv) p) := Lh (own_weaken ho HB.out.size)
        have HB := Lh (HB.out.trans (hb.mono HB.out.size))
        clear hb ho
        refine ⟨_, rfl, ?_⟩
        refine hK.out _ _ (FF.out _ HB) (fun hHeld => ?_)
        clear hK K
        refine no_ (h := ?_)
        refine pu_ 5 32 (h := ?_)
        refine on_ 6 (some 7) (h := fun K hK => ?_)
        refine value_ (w1 := ?_) (v := ?_) (by rfl) rfl ?_ ?_
        rotate_left 2
        · go_simp
          constructor
          · rfl
          · rfl
        have HA := Lh (ha_new HB.out (.cells #[.slice none 0 0, .slice none 0 0, .slice none 0 0, .int .i64 0] 36))
        have hge := HB.out.size
        have NE_ := Lh (fun (e0 : _ = some _) => Nat.lt_irrefl _ (World.ownsRow.lt HO.out _ e0).2)
        have HO := Lh (HO.out.grown ((Below.refl _ _).alloc (Nat.le_refl _) (.cells #[.slice none 0 0, .slice none 0 0, .slice none 0 0, .int .i64 0] 36)))
        have HB := Lh (HB.out.alloc (Nat.le_trans (Nat.le_refl _) HB.out.size) (.cells #[.slice none 0 0, .slice none 0 0, .slice none 0 0, .int .i64 0] 36))
        refine hK.out _ _ (FF.out _ HB) (fun hHeld => ?_)
        clear hK K
        refine no_ (h := ?_)
        exact norm_ (by simp only [putAll, Act.put, List.setIfInBounds_toArray, List.set_cons_zero, List.set_cons_succ]) (hCont (_, _) _ ⟨hge, HA.out, HB.out, HO.out, NE_.out⟩)
      · skip
        refine value_ (w1 := ?_) (v := ?_) (by rfl) rfl ?_ ?_
        rotate_left 2
        · go_simp
          constructor
          · rfl
          · rfl
        have HA := Lh (ha_new HB.out (.cells #[.slice none 0 0, .slice none 0 0, .slice none 0 0, .int .i64 0] 36))
        have hge := HB.out.size
        have HB := Lh (HB.out.alloc (Nat.le_trans (Nat.le_refl _) HB.out.size) (.cells #[.slice none 0 0, .slice none 0 0, .slice none 0 0, .int .i64 0] 36))
        refine hK.out _ _ (FF.out _ HB) (fun hHeld => ?_)
        clear hK K
        refine no_ (h := ?_)
        refine on_ 4 (some 31) (h := fun K hK => ?_)
        refine gs_ Try.func71 #[.slice A0 NP c0] ?_
        with_reducible refine (HCL.out _ (H0.out.below HB.out)).mono ?_
        rintro en w3 ⟨vc, rfl, ho, hb⟩
        obtain ⟨Av, nv, cv, hvv⟩ : ∃ A n c, vc = .slice A n c := (by obtain ⟨A, c, h, _⟩ := OwnP.rd ho; exact ⟨A, _, c, h⟩)
        subst hvv
        have NE_ := Lh (fun (e0 : (Value.slice Av nv cv).ownBlock = some _) => Nat.lt_irrefl _ (Nat.lt_of_lt_of_le (blk_lt HA.out) (ho.base_ _ e0)))
        have HA := Lh ((hb.block _ (blk_lt HA.out)).trans HA.out)
        have HO : Hid (OwnP _ w2.heap.size (.slice Av nv cv) p) := Lh (own_weaken ho HB.out.size)
        have HB := Lh (HB.out.trans (hb.mono HB.out.size))
        clear hb ho
        refine ⟨_, rfl, ?_⟩
        refine hK.out _ _ (FF.out _ HB) (fun hHeld => ?_)
        clear hK K
        refine no_ (h := ?_)
        refine pu_ 5 32 (h := ?_)
        exact norm_ (by simp only [putAll, Act.put, List.setIfInBounds_toArray, List.set_cons_zero, List.set_cons_succ]) (hCont (_, _) _ ⟨hge, HA.out, HB.out, HO.out, NE_.out⟩)
    rintro ⟨AB, vc⟩ wj ⟨hge, HA, HB, HO, NE_⟩
    (try simp only at hge HA HB HO NE_)
    have HA := Lh HA
    have HB := Lh HB
    have NE_ := Lh NE_
    obtain ⟨Av, nv, cv, hvv⟩ : ∃ A n c, vc = .slice A n c := (by obtain ⟨A, c, h, _⟩ := OwnP.rd HO; exact ⟨A, _, c, h⟩)
    subst hvv
    have HO := Lh HO
    have hHeld := FF.out _ HB
    refine no_ (h := ?_)
    refine on_ 7 (none) (h := fun K hK => ?_)
    have sc0 : World.cell? _ ⟨AB, 0, none⟩ = some (.slice none 0 0) := (blk_cell HA.out 0).trans rfl
    have sf0 := blk_frozen HA.out 0
    have sc1 : World.cell? _ ⟨AB, 1, none⟩ = some (.slice none 0 0) := (blk_cell HA.out 1).trans rfl
    have sf1 := blk_frozen HA.out 1
    have sc2 : World.cell? _ ⟨AB, 2, none⟩ = some (.slice none 0 0) := (blk_cell HA.out 2).trans rfl
    have sf2 := blk_frozen HA.out 2
    have sc3 : World.cell? _ ⟨AB, 3, none⟩ = some (.int .i64 0) := (blk_cell HA.out 3).trans rfl
    have sf3 := blk_frozen HA.out 3
    refine skip_ (w1 := ?_) (by rfl) rfl ?_ ?_
    rotate_left
    · go_simp
      rfl
    have HO := Lh (own_setCell (own_setCell (own_setCell (own_setCell HO.out (p := ⟨AB, 0, none⟩) (fun e0 => NE_.out e0.symm) (.slice Av nv cv)) (p := ⟨AB, 1, none⟩) (fun e0 => NE_.out e0.symm) (.slice none 0 0)) (p := ⟨AB, 2, none⟩) (fun e0 => NE_.out e0.symm) (.slice none 0 0)) (p := ⟨AB, 3, none⟩) (fun e0 => NE_.out e0.symm) (.int .i64 r))
    have HA := Lh (bs4 HA.out (.slice Av nv cv) (.slice none 0 0) (.slice none 0 0) (.int .i64 r))
    have HB := Lh (bb4 HB.out (Nat.le_trans (Nat.le_refl _) hge) (.slice Av nv cv) (.slice none 0 0) (.slice none 0 0) (.int .i64 r))
    clear sc0 sf0 sc1 sf1 sc2 sf2 sc3 sf3
    refine hK.out _ _ (FF.out _ HB) (fun hHeld => ?_)
    clear hK K
    refine done_ (by kernel_rfl) ?_
    obtain ⟨w3, hwn⟩ : ∃ V, ((((wj.setCell ⟨AB, 0, none⟩ (.slice Av nv cv)).setCell ⟨AB, 1, none⟩ (.slice none 0 0)).setCell ⟨AB, 2, none⟩ (.slice none 0 0)).setCell ⟨AB, 3, none⟩ (.int .i64 r)) = V := ⟨_, rfl⟩
    rw [hwn] at HA HB HO ⊢
    clear hwn
    have HC3 : Hid (CSt w2 w3 (.slice Av nv cv) p [AB]) := Lh ⟨HO.out, HB.out, fun k hk => by
      rw [List.mem_singleton] at hk
      subst hk
      exact ⟨NE_.out, blk_lt HA.out⟩⟩
    have HC3 := Lh (HC3.out.len HLM0.out.symm)
    have HG := Lh hge
    have C0 := Lh ((HB.out.block _ (blk_lt Z0.out)).trans Z0.out)
    have HA3 := HA
    clear HA HB HO hge x0 x3 l0 HCL HLM0 NE_ FF
    have x0 : w3.cell? ⟨w.heap.size, 0, none⟩ = some (.slice A0 NP c0) := (blk_cell C0.out 0).trans rfl
    go_wp2_with fail
    go_loopw [36] (fun v36 wr => ∃ k : Nat, ∃ v : Value, k ≤ NP ∧ v36 = .int .i64 k ∧ Hid (CSt w2 wr v (LM.take (NP + k)) [AB]) ∧ Hid (wr.heap[AB]? = some (.cells #[v, .slice none 0 0, .slice none 0 0, .int .i64 r] 36 (0, 0)))) (fun i _ => NP - (intOf i).toNat)
    case atStart => exact ⟨0, _, by omega, rfl, HC3, HA3⟩
    case round =>
      obtain ⟨k, v, hk, rfl, hS, hT⟩ := hrel
      clear x0 HC3 HA3
      by_cases hlt : k < NP
      · have hkl : k < p.length := by rw [HNP.out]; exact hlt
        obtain ⟨b, o, rfl, lb, e0, e1, e2⟩ := (H0.out.below hS.out.below).1.get k hkl
        have HX := Lh (HPX.out k hkl)
        have HM1 := Lh (HLM.out k hkl)
        obtain ⟨x, hx⟩ : ∃ x, p[k] = x := ⟨_, rfl⟩
        rw [hx] at e0 e1 e2 HX HM1
        obtain ⟨xx, xy, xz⟩ := x
        simp only at HX e0 e1 e2
        rw [HX.out] at HM1
        have C1r := Lh (hS.out.old Z1.out)
        have q0 : wr.cell? ⟨w.heap.size + 1, 0, none⟩ = some (.int .i64 yx) := (blk_cell C1r.out 0).trans rfl
        have q1 : wr.cell? ⟨w.heap.size + 1, 1, none⟩ = some (.int .i64 yy) := (blk_cell C1r.out 1).trans rfl
        have q2 : wr.cell? ⟨w.heap.size + 1, 2, none⟩ = some (.int .i64 yz) := (blk_cell C1r.out 2).trans rfl
        have lq : w.heap.size + 1 < wr.heap.size := blk_lt C1r.out
        have t0 : wr.cell? ⟨AB, 0, none⟩ = some v := (blk_cell hT.out 0).trans rfl
        have lt : AB < wr.heap.size := blk_lt hT.out
        have tk : (k : Int) < (NP : Int) := by omega
        clear hx hkl C1r
        have hbA := ((Below.refl _ wr).alloc (Nat.le_refl _) (.cells #[.int .i64 xx, .int .i64 xy, .int .i64 xz] 23)).alloc (by simp) (.cells #[.int .i64 (wrap64 (xx + wrap64 ((wrap64 (yx * K)).tdiv 16))), .int .i64 (wrap64 (xy + wrap64 ((wrap64 (yy * K)).tdiv 16))), .int .i64 (wrap64 (xz + wrap64 ((wrap64 (yz * K)).tdiv 16)))] 23)
        have hS2 := Lh (hS.out.grown hbA)
        have hT2 := Lh ((hbA.block _ lt).trans hT.out)
        have hR2 := (Rd_one (heap_alloc_new (wr.alloc (.cells #[.int .i64 xx, .int .i64 xy, .int .i64 xz] 23)) (.cells #[.int .i64 (wrap64 (xx + wrap64 ((wrap64 (yx * K)).tdiv 16))), .int .i64 (wrap64 (xy + wrap64 ((wrap64 (yy * K)).tdiv 16))), .int .i64 (wrap64 (xz + wrap64 ((wrap64 (yz * K)).tdiv 16)))] 23))).1
        rw [World.size_alloc] at hR2
        clear hbA
        go_wp2_with (at_builtin; refine appL_ w2.heap.size rfl _ _ rfl _ (LM.take (NP + k)) [⟨wrap64 (xx + wrap64 ((wrap64 (yx * K)).tdiv 16)), wrap64 (xy + wrap64 ((wrap64 (yy * K)).tdiv 16)), wrap64 (xz + wrap64 ((wrap64 (yz * K)).tdiv 16))⟩] _ _ _ rfl rfl hS2.out.own hR2 rfl (by have := List.length_take_le (NP + k) LM; simp; omega) hS2.out.below.size ?_; intro v2 w4 hv2 hg2 hat; obtain ⟨Av2, nv2, cv2, hvv⟩ : ∃ A n c, v2 = .slice A n c := (by obtain ⟨A, c, h, _⟩ := OwnP.rd hv2; exact ⟨A, _, c, h⟩); subst hvv; have hT4 := Lh (hS2.out.blk hg2 (List.mem_singleton.2 rfl) hT2.out); have hS4 := Lh ((hS2.out.app hv2 hg2 hat).len HM1.out.symm); have u0 : w4.cell? ⟨AB, 0, none⟩ = some v := (blk_cell hT4.out 0).trans rfl; have u1 : w4.frozen? ⟨AB, 0, none⟩ = false := blk_frozen hT4.out 0; have lA4 : AB < w4.heap.size := blk_lt hT4.out; clear hv2 hg2 hat)
        go_roundw
        case rel => exact ⟨k + 1, .slice Av2 nv2 cv2, by omega, by go_num, Lh (hS4.out.setKeep (List.mem_singleton.2 rfl) HG.out 0 _), Lh (blk40 hT4.out (.slice Av2 nv2 cv2))⟩
        case measure => simp [intOf]; omega
      · obtain rfl : NP = k := by omega
        have hS := Lh (hS.out.len HLM1.out)
        clear HLM HLM1 HPX
        obtain ⟨nP, hnP⟩ : ∃ n, LM.length = n := ⟨_, rfl⟩
        obtain ⟨Ap, cp, hvp, hlp, hrp, hbp⟩ := hS.out.own.rdB2
        subst hvp
        rw [hnP] at hT hlp
        have HNM := Lh hnP
        have HLP := Lh hlp
        have HRP := Lh hrp
        have HBP := Lh (fun (ad : Addr) (ea : Ap = some ad) => show ad.block ≠ AB from fun e0 => (hS.out.ne AB (List.mem_singleton.2 rfl)).1 (by rw [ea]; show some ad.block = some AB; rw [e0]))
        have HBW := Lh hS.out.below
        have C0 := Lh (hS.out.old Z0.out)
        have C1 := Lh (hS.out.old Z1.out)
        have C2 := Lh (hS.out.old Z2.out)
        have H1 := Lh (H1.out.below HBW.out)
        have H2 := Lh (H2.out.below HBW.out)
        have ZB := Lh (bthen ZB.out HBW.out)
        have HGW := HG
        have q0 : wr.cell? ⟨w.heap.size + 1, 0, none⟩ = some (.int .i64 yx) := (blk_cell C1.out 0).trans rfl
        have q1 : wr.cell? ⟨w.heap.size + 1, 1, none⟩ = some (.int .i64 yy) := (blk_cell C1.out 1).trans rfl
        have q2 : wr.cell? ⟨w.heap.size + 1, 2, none⟩ = some (.int .i64 yz) := (blk_cell C1.out 2).trans rfl
        have lq : w.heap.size + 1 < wr.heap.size := blk_lt C1.out
        clear hnP hlp hrp hbp hS C1 H0 HNP
        go_wp2_with fail
        with_reducible refine (HSH.out _).mono ?_
        rintro en w5 ⟨rfl, hb⟩
        have HTA := Lh ((hb.block _ (blk_lt hT.out)).trans hT.out)
        have C0 := Lh ((hb.block _ (blk_lt C0.out)).trans C0.out)
        have C2 := Lh ((hb.block _ (blk_lt C2.out)).trans C2.out)
        have HRP := Lh (HRP.out.below hb)
        have H1 := Lh (H1.out.below hb)
        have H2 := Lh (H2.out.below hb)
        have ZB := Lh (bthen ZB.out hb)
        clear hb hT q0 q1 q2 lq HBW
        have x2 : w5.cell? ⟨w.heap.size, 2, none⟩ = some (.slice A2 NE c2) := (blk_cell C0.out 2).trans rfl
        have l0 : w.heap.size < w5.heap.size := blk_lt C0.out
        have zb6 := (Below.refl _ w5).alloc (Nat.le_refl _) (.cells #[.int .i64 sx, .int .i64 sy, .int .i64 sz] 23)
        have C5 := Lh (heap_alloc_new w5 (.cells #[.int .i64 sx, .int .i64 sy, .int .i64 sz] 23))
        have HTA := Lh ((zb6.block _ (blk_lt HTA.out)).trans HTA.out)
        have C0 := Lh ((zb6.block _ (blk_lt C0.out)).trans C0.out)
        have C2 := Lh ((zb6.block _ (blk_lt C2.out)).trans C2.out)
        have HRP := Lh (HRP.out.below zb6)
        have H1 := Lh (H1.out.below zb6)
        have H2 := Lh (H2.out.below zb6)
        have ZB := Lh (bthen ZB.out zb6)
        obtain ⟨w6, hw6⟩ : ∃ V, w5.alloc (.cells #[.int .i64 sx, .int .i64 sy, .int .i64 sz] 23) = V := ⟨_, rfl⟩
        rw [hw6] at HTA C0 C2 C5 HRP H1 H2 ZB zb6
        have hw6' := Lh hw6
        obtain ⟨SB, hSB⟩ : ∃ n, w5.heap.size = n := ⟨_, rfl⟩
        rw [hSB] at C5
        have HSB := Lh hSB
        have hls : SB < w6.heap.size := blk_lt C5.out
        clear hw6 zb6 hSB
        go_wp2_with fail
        (try rw [hw6'.out])
        (try rw [HSB.out])
        go_loopw [76, 11] (fun v76 v11 wr => ∃ k : Nat, k ≤ NE ∧ v76 = .int .i64 k ∧ Hid (CSt w6 wr v11 (LA.take k) [])) (fun i _ _ => NE - (intOf i).toNat)
        case atStart => exact ⟨0, by omega, rfl, Lh (CSt.start w6)⟩
        case round =>
          obtain ⟨k, hk, rfl, hS⟩ := hrel
          clear x2 l0
          obtain ⟨wq, hwq⟩ : ∃ x : World, x = wr := ⟨_, rfl⟩
          subst hwq
          by_cases hlt : k < NE
          · have hkl : k < e.length := by rw [HNE.out]; exact hlt
            obtain ⟨b, o, rfl, lb, e0, e1, e2⟩ := (H2.out.below hS.out.below).1.get k hkl
            have HM1 := Lh (HLA.out k hkl)
            obtain ⟨x, hx⟩ : ∃ x, e[k] = x := ⟨_, rfl⟩
            rw [hx] at e0 e1 e2 HM1
            obtain ⟨xx, xy, xz⟩ := x
            simp only at e0 e1 e2
            have HX1 := Lh (fun W => scross_calls xx xy xz sx sy sz W)
            obtain ⟨u, hu⟩ : ∃ u, cross3 ⟨xx, xy, xz⟩ ⟨sx, sy, sz⟩ = u := ⟨_, rfl⟩
            rw [hu] at HX1 HM1
            obtain ⟨ux, uy, uz⟩ := u
            simp only at HX1
            have HX2 := Lh (fun W => short_calls ux uy uz W)
            obtain ⟨d, hd⟩ : ∃ u, short3 ⟨ux, uy, uz⟩ = u := ⟨_, rfl⟩
            rw [hd] at HX2 HM1
            obtain ⟨dx, dy, dz⟩ := d
            simp only at HX2
            have C5q := Lh (hS.out.old C5.out)
            have s0 : wq.cell? ⟨SB, 0, none⟩ = some (.int .i64 sx) := (blk_cell C5q.out 0).trans rfl
            have s1 : wq.cell? ⟨SB, 1, none⟩ = some (.int .i64 sy) := (blk_cell C5q.out 1).trans rfl
            have s2 : wq.cell? ⟨SB, 2, none⟩ = some (.int .i64 sz) := (blk_cell C5q.out 2).trans rfl
            have ls : SB < wq.heap.size := blk_lt C5q.out
            have tk : (k : Int) < (NE : Int) := by omega
            clear hx hu hd hkl
            go_wp2_with fail
            with_reducible refine (HX1.out _).mono ?_
            rintro en w7 ⟨rfl, hb7⟩
            have hB7 := Lh (((Below.refl _ wq).alloc (Nat.le_refl _) (.cells #[.int .i64 xx, .int .i64 xy, .int .i64 xz] 23)).trans (hb7.mono (by simp)))
            clear hb7 e0 e1 e2 s0 s1 s2
            go_wp2_with fail
            with_reducible refine (HX2.out _).mono ?_
            rintro en w8 ⟨rfl, hb8⟩
            have hB8 := Lh (bthen hB7.out hb8)
            have hB9 := Lh (hB8.out.alloc hB8.out.size (.cells #[.int .i64 dx, .int .i64 dy, .int .i64 dz] 23))
            have hS9 := Lh (hS.out.grown hB9.out)
            have hR9 := (Rd_one (heap_alloc_new w8 (.cells #[.int .i64 dx, .int .i64 dy, .int .i64 dz] 23))).1
            clear hb8 hB7 hB8 hS
            go_wp2_with (at_builtin; refine appL_ w6.heap.size rfl _ _ rfl _ (LA.take k) [⟨dx, dy, dz⟩] _ _ _ rfl rfl hS9.out.own hR9 rfl (by have := List.length_take_le k LA; simp; omega) hS9.out.below.size ?_; intro v2 w4 hv2 hg2 hat; have hS4 := Lh ((hS9.out.app hv2 hg2 hat).len HM1.out.symm); clear hv2 hg2 hat)
            go_roundw
            case rel => exact ⟨k + 1, by omega, by go_num, hS4⟩
            case measure => simp [intOf]; omega
          · obtain rfl : NE = k := by omega
            have hS := Lh (hS.out.len (List.take_of_length_le (Nat.le_of_eq HLAL.out)))
            obtain ⟨Aa, ca, hva, hla, hra, hba⟩ := hS.out.own.rdB2
            subst hva
            rw [HLAL.out]
            have HRA := Lh hra
            have HB6 := Lh hS.out.below
            have HTA := Lh (hS.out.old HTA.out)
            have C0 := Lh (hS.out.old C0.out)
            have C2 := Lh (hS.out.old C2.out)
            have C5 := Lh (hS.out.old C5.out)
            have HRP := Lh (HRP.out.below HB6.out)
            have H1 := Lh (H1.out.below HB6.out)
            have H2 := Lh (H2.out.below HB6.out)
            have ZB := Lh (bthen ZB.out HB6.out)
            have x1 : wq.cell? ⟨w.heap.size, 1, none⟩ = some (.slice A1 NA c1) := (blk_cell C0.out 1).trans rfl
            have x2 : wq.cell? ⟨w.heap.size, 2, none⟩ = some (.slice A2 NE c2) := (blk_cell C0.out 2).trans rfl
            have s0 : wq.cell? ⟨SB, 0, none⟩ = some (.int .i64 sx) := (blk_cell C5.out 0).trans rfl
            have s1 : wq.cell? ⟨SB, 1, none⟩ = some (.int .i64 sy) := (blk_cell C5.out 1).trans rfl
            have s2 : wq.cell? ⟨SB, 2, none⟩ = some (.int .i64 sz) := (blk_cell C5.out 2).trans rfl
            have l0 : w.heap.size < wq.heap.size := blk_lt C0.out
            have ls : SB < wq.heap.size := blk_lt C5.out
            have lA : AB < wq.heap.size := blk_lt HTA.out
            clear hS hla hra hba hw6' HLA HSH
            go_wp2_with fail
            have HB := Lh ((Below.refl wq.heap.size wq).drew)
            have FF := Lh (show ∀ V, Hid (Below (wq.heap.size) wq V) → V.cell? ⟨w.heap.size, 1, none⟩ = some (.slice A1 NA c1) ∧ V.cell? ⟨w.heap.size, 2, none⟩ = some (.slice A2 NE c2) ∧ V.cell? ⟨SB, 0, none⟩ = some (.int .i64 sx) ∧ V.cell? ⟨SB, 1, none⟩ = some (.int .i64 sy) ∧ V.cell? ⟨SB, 2, none⟩ = some (.int .i64 sz) from fun V HB => ⟨(HB.out.cell (p := ⟨w.heap.size, 1, none⟩) (l0)).trans x1, (HB.out.cell (p := ⟨w.heap.size, 2, none⟩) (l0)).trans x2, (HB.out.cell (p := ⟨SB, 0, none⟩) (ls)).trans s0, (HB.out.cell (p := ⟨SB, 1, none⟩) (ls)).trans s1, (HB.out.cell (p := ⟨SB, 2, none⟩) (ls)).trans s2⟩)
            refine start_ (n := 13) (S := fun w' => w'.cell? ⟨w.heap.size, 1, none⟩ = some (.slice A1 NA c1) ∧ w'.cell? ⟨w.heap.size, 2, none⟩ = some (.slice A2 NE c2) ∧ w'.cell? ⟨SB, 0, none⟩ = some (.int .i64 sx) ∧ w'.cell? ⟨SB, 1, none⟩ = some (.int .i64 sy) ∧ w'.cell? ⟨SB, 2, none⟩ = some (.int .i64 sz)) (ds := [10, 12]) (MT 0 13) (by kernel_rfl) rfl rfl (FF.out _ HB) (fun hHeld => ?_)
            obtain ⟨wd, hwd⟩ : ∃ x, wq.drew = x := ⟨_, rfl⟩
            rw [hwd] at HB hHeld ⊢
            clear hwd
            refine pu_ 0 88 (h := ?_)
            refine pu_ 2 90 (h := ?_)
            refine pu_ 4 92 (h := ?_)
            refine ta_ 1 89 hHeld (h := ?_)
            refine ta_ 5 93 hHeld (h := ?_)
            refine ta_ 6 94 hHeld (h := ?_)
            refine join_ (σ := Nat × Value) 4 #[true, true, true, true, true, true, true, true, false, true, false, false, false] (fun s => [(91, s.2), (95, .slice (some ⟨s.1, 0, none⟩) 1 1), (97, .pointer (some ⟨AB, 1, none⟩))]) (fun (s : Nat × Value) w' => match s with | (s1, s2) => w'.heap[s1]? = some (.cells #[.int .i64 sx, .int .i64 sy, .int .i64 sz] 23 (0, 0)) ∧ Below (wq.heap.size) wq w' ∧ RdV w' wq.heap.size s2 (withF a LA)) ?_ ?_
            rotate_left
            · intro hCont
              refine two_ (i := 3) (j := 7) (Ni := some 91) (Nj := some 95) (MT 7 6) #[true, true, true, false, true, true, true, true, false, false, false, false, false] rfl rfl rfl rfl (by kernel_rfl) (by decide) (by decide) (fun K hK => ?_) (fun K hK => ?_)
              · skip
                refine gs_ Try.func79 #[.slice A1 NA c1, .slice Aa NE ca] ?_
                with_reducible refine (HW1.out _ _ _ (H1.out.below HB.out) (HRA.out.below HB.out)).mono ?_
                rintro en w7 ⟨A7, c7, rfl, hlc, hrd, hb, hbs⟩
                have HR1 : Hid (RdV _ wq.heap.size (.slice A7 (withF a LA).length c7) (withF a LA)) := Lh ⟨A7, c7, rfl, hlc, hrd, fun ad ea => Nat.le_trans HB.out.size (hbs ad ea)⟩
                have HB := Lh (HB.out.trans (hb.mono HB.out.size))
                clear hlc hrd hb hbs
                refine ⟨_, rfl, ?_⟩
                refine hK.out _ _ (FF.out _ HB) (fun hHeld => ?_)
                clear hK K
                refine no_ (h := ?_)
                refine pu_ 9 97 (h := ?_)
                refine on_ 7 (some 95) (h := fun K hK => ?_)
                refine value_ (w1 := ?_) (v := ?_) (by rfl) rfl ?_ ?_
                rotate_left 2
                · go_simp
                  constructor
                  · rfl
                  · rfl
                have HA := Lh (ha_new HB.out (.cells #[.int .i64 sx, .int .i64 sy, .int .i64 sz] 23))
                have HR1 := Lh (HR1.out.below ((Below.refl _ _).alloc (Nat.le_refl _) (.cells #[.int .i64 sx, .int .i64 sy, .int .i64 sz] 23)))
                have HB := Lh (HB.out.alloc (Nat.le_trans (Nat.le_refl _) HB.out.size) (.cells #[.int .i64 sx, .int .i64 sy, .int .i64 sz] 23))
                refine hK.out _ _ (FF.out _ HB) (fun hHeld => ?_)
                clear hK K
                refine no_ (h := ?_)
                exact norm_ (by simp only [putAll, Act.put, List.setIfInBounds_toArray, List.set_cons_zero, List.set_cons_succ]) (hCont (_, _) _ ⟨HA.out, HB.out, HR1.out⟩)
              · skip
                refine value_ (w1 := ?_) (v := ?_) (by rfl) rfl ?_ ?_
                rotate_left 2
                · go_simp
                  constructor
                  · rfl
                  · rfl
                have HA := Lh (ha_new HB.out (.cells #[.int .i64 sx, .int .i64 sy, .int .i64 sz] 23))
                have HB := Lh (HB.out.alloc (Nat.le_trans (Nat.le_refl _) HB.out.size) (.cells #[.int .i64 sx, .int .i64 sy, .int .i64 sz] 23))
                refine hK.out _ _ (FF.out _ HB) (fun hHeld => ?_)
                clear hK K
                refine no_ (h := ?_)
                refine on_ 3 (some 91) (h := fun K hK => ?_)
                refine gs_ Try.func79 #[.slice A1 NA c1, .slice Aa NE ca] ?_
                with_reducible refine (HW1.out _ _ _ (H1.out.below HB.out) (HRA.out.below HB.out)).mono ?_
                rintro en w7 ⟨A7, c7, rfl, hlc, hrd, hb, hbs⟩
                have HA := Lh ((hb.block _ (blk_lt HA.out)).trans HA.out)
                have HR1 : Hid (RdV _ wq.heap.size (.slice A7 (withF a LA).length c7) (withF a LA)) := Lh ⟨A7, c7, rfl, hlc, hrd, fun ad ea => Nat.le_trans HB.out.size (hbs ad ea)⟩
                have HB := Lh (HB.out.trans (hb.mono HB.out.size))
                clear hlc hrd hb hbs
                refine ⟨_, rfl, ?_⟩
                refine hK.out _ _ (FF.out _ HB) (fun hHeld => ?_)
                clear hK K
                refine no_ (h := ?_)
                refine pu_ 9 97 (h := ?_)
                exact norm_ (by simp only [putAll, Act.put, List.setIfInBounds_toArray, List.set_cons_zero, List.set_cons_succ]) (hCont (_, _) _ ⟨HA.out, HB.out, HR1.out⟩)
            rintro ⟨sb, va⟩ wj ⟨HA, HB, HR1⟩
            (try simp only at HA HB HR1)
            have HA := Lh HA
            have HB := Lh HB
            obtain ⟨A7, c7, rfl, hl7, hr7, hb7⟩ := HR1
            have HR7 := Lh hr7
            have HL7 := Lh hl7
            have HB7 := Lh hb7
            obtain ⟨n7, hn7⟩ : ∃ n, (withF a LA).length = n := ⟨_, rfl⟩
            rw [hn7] at HL7 ⊢
            have HN7 := Lh hn7
            clear hl7 hr7 hb7 hn7
            have hHeld := FF.out _ HB
            refine no_ (h := ?_)
            refine on_ 8 (some 96) (h := fun K hK => ?_)
            refine gs_ Try.func79 #[.slice A2 NE c2, .slice (some ⟨sb, 0, none⟩) 1 1] ?_
            with_reducible refine (HW2.out _ _ (H2.out.below HB.out) (Rd_one HA.out)).mono ?_
            rintro en w8 ⟨A8, c8, rfl, hlc, hrd, hb, hbs⟩
            have HR7 := Lh (HR7.out.below hb)
            have HB8 := Lh (fun (ad : Addr) (ea : A8 = some ad) => Nat.le_trans HB.out.size (hbs ad ea))
            have HB := Lh (HB.out.trans (hb.mono HB.out.size))
            have HR8 := Lh hrd
            have HL8 := Lh hlc
            obtain ⟨n8, hn8⟩ : ∃ n, (withF e [⟨sx, sy, sz⟩]).length = n := ⟨_, rfl⟩
            rw [hn8] at HL8 ⊢
            have HN8 := Lh hn8
            clear hlc hrd hb hbs hn8 HA
            refine ⟨_, rfl, ?_⟩
            refine hK.out _ _ (FF.out _ HB) (fun hHeld => ?_)
            clear hK K
            refine no_ (h := ?_)
            refine last_ (i := 10) (N := none) (MT 11 2) rfl rfl (by kernel_rfl) (by decide) (fun K hK => ?_)
            have HTB := Lh ((HB.out.block _ lA).trans HTA.out)
            have u1 : w8.cell? ⟨AB, 1, none⟩ = some (.slice none 0 0) := (blk_cell HTB.out 1).trans rfl
            have f1 : w8.frozen? ⟨AB, 1, none⟩ = false := blk_frozen HTB.out 1
            refine skip_ (w1 := ?_) (by rfl) rfl ?_ ?_
            rotate_left
            · go_simp
              rfl
            clear u1 f1
            refine hK.out _ _ ?_
            clear hK K
            refine pu_ 11 98 (h := ?_)
            refine last_ (i := 12) (N := none) (MT 13 0) rfl rfl (by kernel_rfl) (by decide) (fun K hK => ?_)
            have HTC := Lh (blk_s1 HTB.out (.slice A7 n7 c7))
            obtain ⟨w9, hw9⟩ : ∃ V, w8.setCell ⟨AB, 1, none⟩ (.slice A7 n7 c7) = V := ⟨_, rfl⟩
            rw [hw9] at HTC
            have hw9' := Lh hw9
            (try rw [hw9])
            clear hw9
            have u2 : w9.cell? ⟨AB, 2, none⟩ = some (.slice none 0 0) := (blk_cell HTC.out 2).trans rfl
            have f2 : w9.frozen? ⟨AB, 2, none⟩ = false := blk_frozen HTC.out 2
            refine skip_ (w1 := ?_) (by rfl) rfl ?_ ?_
            rotate_left
            · go_simp
              rfl
            clear u2 f2
            refine hK.out _ _ ?_
            clear hK K
            refine done_ (by kernel_rfl) ?_
            have HTD := Lh (blk_s2 HTC.out (.slice A8 n8 c8))
            have NP7 := Lh (fun (ad : Addr) (ea : A7 = some ad) => show ad.block ≠ AB from fun e0 => by have := HB7.out ad ea; omega)
            have NP8 := Lh (fun (ad : Addr) (ea : A8 = some ad) => show ad.block ≠ AB from fun e0 => by have := HB8.out ad ea; omega)
            have hge : w2.heap.size ≤ AB := HGW.out
            have hzz : w.heap.size + 2 < w2.heap.size := blk_lt Z2.out
            have hAw : w.heap.size ≤ AB := by omega
            have hA2 : w.heap.size + 2 ≠ AB := by omega
            have p9 := ((HRP.out.below HB.out).setc HBP.out 1 (.slice A7 n7 c7)).setc HBP.out 2 (.slice A8 n8 c8)
            have a9 := (HR7.out.setc NP7.out 1 (.slice A7 n7 c7)).setc NP7.out 2 (.slice A8 n8 c8)
            have e9 := (HR8.out.setc NP8.out 1 (.slice A7 n7 c7)).setc NP8.out 2 (.slice A8 n8 c8)
            have R9 := (Below.heap_setCell (w8.setCell ⟨AB, 1, none⟩ (.slice A7 n7 c7)) ⟨AB, 2, none⟩ (.slice A8 n8 c8) (w.heap.size + 2) hA2).trans ((Below.heap_setCell w8 ⟨AB, 1, none⟩ (.slice A7 n7 c7) (w.heap.size + 2) hA2).trans ((HB.out.block _ (blk_lt C2.out)).trans C2.out))
            have B9 := ((bthen ZB.out HB.out).setCell (p := ⟨AB, 1, none⟩) hAw (.slice A7 n7 c7)).setCell (p := ⟨AB, 2, none⟩) hAw (.slice A8 n8 c8)
            rw [hw9'.out] at p9 a9 e9 R9 B9
            obtain ⟨w10, hw10⟩ : ∃ V, w9.setCell ⟨AB, 2, none⟩ (.slice A8 n8 c8) = V := ⟨_, rfl⟩
            rw [hw10] at p9 a9 e9 R9 B9 HTD ⊢
            have d0_ : w10.cell? ⟨AB, 0, none⟩ = some (.slice Ap nP cp) := (blk_cell HTD.out 0).trans rfl
            have d1_ : w10.cell? ⟨AB, 1, none⟩ = some (.slice A7 n7 c7) := (blk_cell HTD.out 1).trans rfl
            have d2_ : w10.cell? ⟨AB, 2, none⟩ = some (.slice A8 n8 c8) := (blk_cell HTD.out 2).trans rfl
            have d3_ : w10.cell? ⟨AB, 3, none⟩ = some (.int .i64 r) := (blk_cell HTD.out 3).trans rfl
            have lA10 : AB < w10.heap.size := blk_lt HTD.out
            have r0 : w10.cell? ⟨w.heap.size + 1 + 1, 0, none⟩ = some (.slice none 0 0) := (blk_cell R9 0).trans rfl
            have r1 : w10.cell? ⟨w.heap.size + 1 + 1, 1, none⟩ = some (.slice none 0 0) := (blk_cell R9 1).trans rfl
            have r2 : w10.cell? ⟨w.heap.size + 1 + 1, 2, none⟩ = some (.slice none 0 0) := (blk_cell R9 2).trans rfl
            have r3 : w10.cell? ⟨w.heap.size + 1 + 1, 3, none⟩ = some (.int .i64 0) := (blk_cell R9 3).trans rfl
            have f0 : w10.frozen? ⟨w.heap.size + 1 + 1, 0, none⟩ = false := blk_frozen R9 0
            have f1 : w10.frozen? ⟨w.heap.size + 1 + 1, 1, none⟩ = false := blk_frozen R9 1
            have f2 : w10.frozen? ⟨w.heap.size + 1 + 1, 2, none⟩ = false := blk_frozen R9 2
            have f3 : w10.frozen? ⟨w.heap.size + 1 + 1, 3, none⟩ = false := blk_frozen R9 3
            have T7 := bs4 R9 (.slice Ap nP cp) (.slice A7 n7 c7) (.slice A8 n8 c8) (.int .i64 r)
            have B7 := bb4 B9 (show w.heap.size ≤ w.heap.size + 2 by omega) (.slice Ap nP cp) (.slice A7 n7 c7) (.slice A8 n8 c8) (.int .i64 r)
            have p7 := p9.setS R9 (.slice Ap nP cp) (.slice A7 n7 c7) (.slice A8 n8 c8) (.int .i64 r)
            have a7 := a9.setS R9 (.slice Ap nP cp) (.slice A7 n7 c7) (.slice A8 n8 c8) (.int .i64 r)
            have e7 := e9.setS R9 (.slice Ap nP cp) (.slice A7 n7 c7) (.slice A8 n8 c8) (.int .i64 r)
            obtain ⟨w11, hw11⟩ : ∃ V, ((((w10.setCell ⟨w.heap.size + 1 + 1, 0, none⟩ (.slice Ap nP cp)).setCell ⟨w.heap.size + 1 + 1, 1, none⟩ (.slice A7 n7 c7)).setCell ⟨w.heap.size + 1 + 1, 2, none⟩ (.slice A8 n8 c8)).setCell ⟨w.heap.size + 1 + 1, 3, none⟩ (.int .i64 r)) = V := ⟨_, rfl⟩
            have hw11b : ((((w10.setCell ⟨w.heap.size + 2, 0, none⟩ (.slice Ap nP cp)).setCell ⟨w.heap.size + 2, 1, none⟩ (.slice A7 n7 c7)).setCell ⟨w.heap.size + 2, 2, none⟩ (.slice A8 n8 c8)).setCell ⟨w.heap.size + 2, 3, none⟩ (.int .i64 r)) = w11 := hw11
            rw [hw11b] at T7 B7 p7 a7 e7
            have hv11 := Lh hw11
            have T7 := Lh T7
            have B7 := Lh B7
            have HVF : Hid (CrV w11 (.agg #[.slice Ap nP cp, .slice A7 n7 c7, .slice A8 n8 c8, .int .i64 r]) T) := Lh (by
              rw [HT.out]
              exact ⟨Ap, A7, A8, cp, c7, c8, by rw [HNM.out, HN7.out, HN8.out], p7, a7, e7, by rw [HNM.out]; exact HLP.out, by rw [HN7.out]; exact HL7.out, by rw [HN8.out]; exact HL8.out⟩)
            clear hw11 hw11b p7 a7 e7 p9 a9 e9 R9 B9 hw10 hHeld x1 x2 s0 s1 s2 l0 ls lA HTD HTC HTB HB HR7 HR8 hw9'
            go_wp2
            (try rw [hv11.out])
            have y0 : w11.cell? ⟨w.heap.size + 1 + 1, 0, none⟩ = some (.slice Ap nP cp) := (blk_cell T7.out 0).trans rfl
            have y1 : w11.cell? ⟨w.heap.size + 1 + 1, 1, none⟩ = some (.slice A7 n7 c7) := (blk_cell T7.out 1).trans rfl
            have y2 : w11.cell? ⟨w.heap.size + 1 + 1, 2, none⟩ = some (.slice A8 n8 c8) := (blk_cell T7.out 2).trans rfl
            have y3 : w11.cell? ⟨w.heap.size + 1 + 1, 3, none⟩ = some (.int .i64 r) := (blk_cell T7.out 3).trans rfl
            exact bodyPost_ret (v := .agg #[.slice Ap nP cp, .slice A7 n7 c7, .slice A8 n8 c8, .int .i64 r]) (by simp [results, Try.results37, go_sem, y0, y1, y2, y3]) rfl ⟨_, rfl, HVF.out, B7.out⟩
theorem trail_calls {w : World} {v : Value} {c : Cr} (h : CrV w v c) (y : P3) (K : Int) (hl : c.p.length ≤ 140737488355328) : Calls Try.prog 37 #[v, aP y, .int .i64 K] w (TrailPost (trailF c y K) w) := by
  obtain ⟨p, a, e, r⟩ := c
  obtain ⟨A0, A1, A2, c0, c1, c2, rfl, h0, h1, h2, _⟩ := id h.out
  exact trail_in p a e r A0 A1 A2 c0 c1 c2 y K w h h0 h1 h2 hl
end Go.Proofs.Ytckdhahceelckaa.G
