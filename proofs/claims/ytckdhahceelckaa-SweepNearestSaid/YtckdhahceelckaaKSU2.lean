/- What the laws of this claim lean on: contracts of the functions that they reach, and plain lemmas; no condition of its own (part 2 of 6; the texts XN14, XN6, XN7, XN8, XN9, XN15, XN16, XW14, XW15, XN10, XN17, XW17, XW16, XW18). -/
import Derived.Test.YtckdhahceelckaaKSU1
import Derived.LoopIn
import Derived.LoopNIn
import Derived.Maps.AppendAt
import Derived.Outline
import Derived.OwnWalkIn
import Derived.RangeFuncBound
import Derived.RangeFuncBox
import Derived.RangeFuncCalls
import Derived.RangeFuncLeaves
import Derived.RangeFuncNested
import Derived.Shelf.Abstract
import Derived.Shelf.RegionOpen
import Derived.TacticsInMore
import Derived.WalkMore
namespace Go.Proofs.Ytckdhahceelckaa.G
open Go.RowKit Go.Proofs.YtckdhahceelckaaW.PrintWords Go.Proofs.YtckdhahceelckaaW.PrintLast Go.Proofs.YtckdhahceelckaaW.PrintMore
attribute [local go_sem] max2_mx min2_mn max_two min_two max_three min_three max_four min_four
attribute [local go_sem high] eqA23
set_option linter.unusedVariables false
set_option linter.unusedSimpArgs false
open Go.Shelf
attribute [local go_sem] Oper.semAt_some
/-- all ways that may tell two apart, as they are -/
def edgeW (ea eb : List P3) : List P3 := ea.flatMap fun e => eb.map fun f => cross3 e f
def roundW (es : List P3) (p q : P3) : List P3 := short3 (minus3 q p) :: es.map fun e => cross3 (short3 (cross3 e (short3 (minus3 q p)))) e
def pointW (pa pb es : List P3) : List P3 := pa.flatMap fun p => pb.flatMap fun q => roundW es p q
def rawC (pa aa ea pb ab eb : List P3) : List P3 := (aa ++ ab) ++ (edgeW ea eb ++ (if mn pa.length pb.length > 2 then [] else pointW pa pb (ea ++ eb)))
theorem pre_mid {α : Type} {pre R l : List α} {x : α} (h : l = pre ++ x :: R) : pre ++ [x] <+: l := ⟨R, by rw [h]; simp⟩
theorem take_mid {α : Type} (l : List α) (k : Nat) (h : k < l.length) : l = l.take k ++ l[k] :: l.drop (k + 1) := by
  rw [← List.drop_eq_getElem_cons h, List.take_append_drop]
theorem edgeW_snoc (ea eb : List P3) (i : Nat) (h : i < ea.length) : edgeW (ea.take (i + 1)) eb = edgeW (ea.take i) eb ++ eb.map (fun f => cross3 ea[i] f) := by
  unfold edgeW
  rw [List.take_succ_eq_append_getElem h, List.flatMap_append]; simp
theorem edgeW_mid (ea eb : List P3) (i : Nat) (h : i < ea.length) (j : Nat) (h' : j < eb.length) : edgeW ea eb = edgeW (ea.take i) eb ++ (eb.take j).map (fun f => cross3 ea[i] f) ++ cross3 ea[i] eb[j] :: ((eb.drop (j + 1)).map (fun f => cross3 ea[i] f) ++ edgeW (ea.drop (i + 1)) eb) := by
  have e1 : edgeW ea eb = edgeW (ea.take i) eb ++ (eb.map (fun f => cross3 ea[i] f) ++ edgeW (ea.drop (i + 1)) eb) := by
    have := take_mid ea i h
    conv => lhs; rw [this]
    unfold edgeW
    rw [List.flatMap_append, List.flatMap_cons]
  have e2 : eb.map (fun f => cross3 ea[i] f) = (eb.take j).map (fun f => cross3 ea[i] f) ++ cross3 ea[i] eb[j] :: (eb.drop (j + 1)).map (fun f => cross3 ea[i] f) := by
    conv => lhs; rw [take_mid eb j h']
    rw [List.map_append, List.map_cons]
  rw [e1, e2]
  simp
theorem roundW_eq (es : List P3) (p q d : P3) (h : short3 (minus3 q p) = d) : roundW es p q = d :: es.map fun e => cross3 (short3 (cross3 e d)) e := by unfold roundW; rw [h]
theorem pointW_snoc (pa pb es : List P3) (i : Nat) (h : i < pa.length) : pointW (pa.take (i + 1)) pb es = pointW (pa.take i) pb es ++ pb.flatMap (fun q => roundW es pa[i] q) := by
  unfold pointW
  rw [List.take_succ_eq_append_getElem h, List.flatMap_append]; simp
theorem flat_snoc (pb es : List P3) (p : P3) (j : Nat) (h : j < pb.length) : (pb.take (j + 1)).flatMap (fun q => roundW es p q) = (pb.take j).flatMap (fun q => roundW es p q) ++ roundW es p pb[j] := by
  rw [List.take_succ_eq_append_getElem h, List.flatMap_append]; simp
theorem pointW_mid (pa pb es : List P3) (i : Nat) (h : i < pa.length) (j : Nat) (h' : j < pb.length) : ∃ R, pointW pa pb es = pointW (pa.take i) pb es ++ (pb.take j).flatMap (fun q => roundW es pa[i] q) ++ roundW es pa[i] pb[j] ++ R := by
  refine ⟨(pb.drop (j + 1)).flatMap (fun q => roundW es pa[i] q) ++ pointW (pa.drop (i + 1)) pb es, ?_⟩
  have e1 : pointW pa pb es = pointW (pa.take i) pb es ++ (pb.flatMap (fun q => roundW es pa[i] q) ++ pointW (pa.drop (i + 1)) pb es) := by
    have := take_mid pa i h
    conv => lhs; rw [this]
    unfold pointW
    rw [List.flatMap_append, List.flatMap_cons]
  have e2 : pb.flatMap (fun q => roundW es pa[i] q) = (pb.take j).flatMap (fun q => roundW es pa[i] q) ++ (roundW es pa[i] pb[j] ++ (pb.drop (j + 1)).flatMap (fun q => roundW es pa[i] q)) := by
    conv => lhs; rw [take_mid pb j h']
    rw [List.flatMap_append, List.flatMap_cons]
  rw [e1, e2]
  simp only [List.append_assoc]
/-- every block of cells but two lies as it lay -/
def KpX (bo bf : Nat) (W W' : World) : Prop := W.heap.size ≤ W'.heap.size ∧ ∀ k c t f, W.heap[k]? = some (.cells c t f) → k ≠ bo → k ≠ bf → W'.heap[k]? = W.heap[k]?
theorem KpX.refl (bo bf : Nat) (W : World) : KpX bo bf W W := ⟨Nat.le_refl _, fun _ _ _ _ _ _ _ => rfl⟩
theorem KpX.trans {bo bf : Nat} {A B C : World} (h : KpX bo bf A B) (k : KpX bo bf B C) : KpX bo bf A C :=
  ⟨Nat.le_trans h.1 k.1, fun i c t f hc h1 h2 => (k.2 i c t f ((h.2 i c t f hc h1 h2).trans hc) h1 h2).trans (h.2 i c t f hc h1 h2)⟩
theorem KpX.of_below {bo bf : Nat} {A B : World} (h : Below A.heap.size A B) : KpX bo bf A B :=
  ⟨h.size, fun i c t f hc _ _ => h.block i (Array.getElem?_eq_some_iff.1 hc).1⟩
theorem KpX.putObj {bo bf : Nat} {W : World} {l : Nat} {o o' : Obj} (hl : W.heap[l]? = some o) (ho : o.isCells = false) : KpX bo bf W (W.putObj l o') :=
  ⟨by simp, fun i c t f hc _ _ => World.putObj_heap_other (fun e => by subst e; rw [hl] at hc; cases hc; cases ho)⟩
theorem cells_of_cell {W : World} {b o : Nat} {v : Value} (h : W.cell? ⟨b, o, none⟩ = some v) : ∃ c t f, W.heap[b]? = some (.cells c t f) := by
  unfold World.cell? at h
  split at h
  · rename_i c t f hb; exact ⟨c, t, f, hb⟩
  · cases h
theorem KpX.cell {bo bf : Nat} {A B : World} (h : KpX bo bf A B) {b o : Nat} {v : Value} (hc : A.cell? ⟨b, o, none⟩ = some v) (h1 : b ≠ bo) (h2 : b ≠ bf) : B.cell? ⟨b, o, none⟩ = some v := by
  obtain ⟨c, t, f, hb⟩ := cells_of_cell hc
  exact (World.cell?_of_block (a := ⟨b, o, none⟩) (h.2 b c t f hb h1 h2)).trans hc
/-- a slice that is read, apart from two blocks -/
def RdX (bo bf : Nat) (w : World) (A : Option Addr) (l : List P3) : Prop := Rd w A l ∧ ∀ ad, A = some ad → ad.block ≠ bo ∧ ad.block ≠ bf
theorem RdX.keep {bo bf : Nat} {w w' : World} {A l} (h : RdX bo bf w A l) (hk : KpX bo bf w w') : RdX bo bf w' A l :=
  ⟨fun i p hp => by
    obtain ⟨b, o, hA, hlt, h1, h2, h3⟩ := h.1 i p hp
    obtain ⟨n1, n2⟩ := h.2 _ hA
    exact ⟨b, o, hA, Nat.lt_of_lt_of_le hlt hk.1, hk.cell h1 n1 n2, hk.cell h2 n1 n2, hk.cell h3 n1 n2⟩, h.2⟩
theorem abides_below {J : List P3 → World → Prop} {B : Nat} (h : AbidesFrom B J) {s : List P3} {W W' : World} (hs : J s W) (hb : Below W.heap.size W W') : J s W' :=
  h s W W' none hs ⟨hb.os, hb.tape, hb.output, hb.size, fun k hk _ => hb.block k hk⟩ (fun r e => by cases e)
theorem heap_keep {bo bf : Nat} {W W' : World} {g : Nat} {c : Array Value} {t : TypeId} {f : Nat × Nat} (h : W.heap[g]? = some (.cells c t f)) (hk : KpX bo bf W W') (h1 : g ≠ bo) (h2 : g ≠ bf) : W'.heap[g]? = some (.cells c t f) := (hk.2 g c t f h h1 h2).trans h
theorem C3.keep {bo bf : Nat} {W W' : World} {g : Nat} {a b c : Value} (h : C3 W g a b c) (hk : KpX bo bf W W') (h1 : g ≠ bo) (h2 : g ≠ bf) : C3 W' g a b c := by
  obtain ⟨cs, t, f, hb⟩ := cells_of_cell h.c0
  have e : W'.heap[g]? = W.heap[g]? := hk.2 g cs t f hb h1 h2
  exact ⟨(World.cell?_of_block (a := ⟨g, 0, none⟩) e).trans h.c0, (World.cell?_of_block (a := ⟨g, 1, none⟩) e).trans h.c1, (World.cell?_of_block (a := ⟨g, 2, none⟩) e).trans h.c2, (World.frozen?_of_block (a := ⟨g, 0, none⟩) e).trans h.f0, (World.frozen?_of_block (a := ⟨g, 1, none⟩) e).trans h.f1, (World.frozen?_of_block (a := ⟨g, 2, none⟩) e).trans h.f2⟩
structure Cut0 (T : Prop) : Prop where
  out : T
theorem cut_ {T G : Prop} (h : Cut0 T → G) (t : T) : G := h ⟨t⟩
set_option maxHeartbeats 4000000 in
set_option maxRecDepth 100000 in
theorem ways1_in (n : Nat) (hn : 3 ≤ n) (l bo bf ga gb : Nat) (pa aa ea pb ab eb : List P3) (A0 A1 A2 B0 B1 B2 : Option Addr) (c0 c1 c2 d0 d1 d2 : Nat) (ra rb : Int) (J Jx : List P3 → World → Prop)
    (W : World) (hJ : AbidesFrom W.heap.size J) (hJx : AbidesFrom W.heap.size Jx)
    (hY : ∀ pre x W1, J pre W1 → pre.length < (rawC pa aa ea pb ab eb).length → YieldAt Fence.wide (n - 1) Try.prog l #[.agg #[.int .i64 x.x, .int .i64 x.y, .int .i64 x.z]] W1 fun e W' =>
      (e = .returned (.bool true) ∧ J (pre ++ [x]) W' ∧ KpX bo bf W1 W') ∨ (e = .returned (.bool false) ∧ Jx (pre ++ [x]) W'))
    (hga : W.heap[ga]? = some (.cells #[.slice A0 pa.length c0, .slice A1 aa.length c1, .slice A2 ea.length c2, .int .i64 ra] 36 (0, 0)))
    (hgb : W.heap[gb]? = some (.cells #[.slice B0 pb.length d0, .slice B1 ab.length d1, .slice B2 eb.length d2, .int .i64 rb] 36 (0, 0)))
    (R0 : Hid (RdX bo bf W A0 pa)) (R1 : Hid (RdX bo bf W A1 aa)) (R2 : Hid (RdX bo bf W A2 ea)) (S0 : Hid (RdX bo bf W B0 pb)) (S1 : Hid (RdX bo bf W B1 ab)) (S2 : Hid (RdX bo bf W B2 eb)) (hl1 : aa.length ≤ 40000) (hl2 : ab.length ≤ 40000) (hl3 : ea.length ≤ 40000) (hl4 : eb.length ≤ 40000) (hl5 : pa.length ≤ 40000) (hl6 : pb.length ≤ 40000)
    (hga1 : ga ≠ bo) (hga2 : ga ≠ bf) (hgb1 : gb ≠ bo) (hgb2 : gb ≠ bf) (hbo : bo < W.heap.size) (hbf : bf < W.heap.size)
    (h0 : J [] W) :
    CallsIn Fence.wide n Try.prog 115 #[.func (.yield l) #[] #[], .pointer (some ⟨ga, 0, none⟩), .pointer (some ⟨gb, 0, none⟩)] W fun e W' => (∃ v, e = .returned v) ∧
      ((∃ ys, ys = rawC pa aa ea pb ab eb ∧ J ys W') ∨ (∃ pre, pre <+: rawC pa aa ea pb ab eb ∧ Jx pre W')) := by
  refine callsIn_of_wp Try.func115 rfl trivial ?_ rfl
  simp only [Try.ntmps115, List.size_toArray, List.length_cons, List.length_nil, Nat.reduceAdd, Nat.reduceSub, Array.replicate_succ, Array.replicate_zero, List.push_toArray, List.append_toArray, List.nil_append, List.cons_append]
  gi_wp2
  have HJ := Lh hJ
  have HJx := Lh hJx
  have hY' : ∀ pre x R W1, J pre W1 → rawC pa aa ea pb ab eb = pre ++ x :: R → YieldAt Fence.wide (n - 1) Try.prog l #[.agg #[.int .i64 x.x, .int .i64 x.y, .int .i64 x.z]] W1 fun e W' =>
      (e = .returned (.bool true) ∧ J (pre ++ [x]) W' ∧ KpX bo bf W1 W') ∨ (e = .returned (.bool false) ∧ Jx (pre ++ [x]) W') :=
    fun pre x R W1 h1 h2 => hY pre x W1 h1 (by rw [h2]; simp)
  have HY := Lh hY'
  clear hY'
  have HA := Lh hga
  have HB := Lh hgb
  clear hJ hJx hY hga hgb
  refine (wpIn_wide (n := n)).2 (wp_scope_straight ((wpIn_wide (n := n)).1 ?_))
  apply wpIn_seq_k
  intro K hK
  apply wpIn_label
  refine hK _ _ ?_
  clear hK K
  apply wpIn_block
  apply wpIn_loop_once
  have a1 : W.cell? ⟨ga, 1, none⟩ = some (.slice A1 aa.length c1) := (blk_cell HA.out 1).trans rfl
  have a2 : W.cell? ⟨gb, 1, none⟩ = some (.slice B1 ab.length d1) := (blk_cell HB.out 1).trans rfl
  gi_wp2_with fail
  refine ⟨trivial, fun h => (by cases h), ?_⟩
  refine ((callsIn_wide (n := n - 1)).2 (concat_calls aa ab _ _ A1 B1 c1 d1 _ _ rfl rfl ?_ ?_ (R1.out.1.alloc _) (S1.out.1.alloc _) hl1 hl2)).mono ?_
  · simp
  · simp
  rintro e W1 ⟨A, c, rfl, hc, hrd, hb1, hbs⟩
  have hB1 : Below W.heap.size W W1 := ((Below.refl _ W).alloc (Nat.le_refl _) _).trans (hb1.mono (by simp))
  have K1 : Hid (KpX bo bf W W1) := KpX.of_below hB1
  have RL : Hid (RdX bo bf W1 A (aa ++ ab)) := ⟨hrd, fun ad e => by have := hbs ad e; simp at this; omega⟩
  have h1 : J [] W1 := abides_below HJ.out h0 hB1
  clear a1 a2 hb1 hbs h0
  obtain ⟨L1, hL1⟩ : ∃ L, aa ++ ab = L := ⟨_, rfl⟩
  rw [hL1] at hc hrd RL ⊢
  obtain ⟨T1, hT1⟩ : ∃ T, edgeW ea eb ++ (if mn pa.length pb.length > 2 then [] else pointW pa pb (ea ++ eb)) = T := ⟨_, rfl⟩
  have HRAW : Hid (rawC pa aa ea pb ab eb = L1 ++ T1) := by show rawC .. = _; unfold rawC; rw [hL1, hT1]
  have HT1 := Lh hT1
  clear hT1
  have hl7 : L1.length ≤ 80000 := by rw [← hL1]; simp; omega
  clear hL1 hrd
  gi_wp2
  gi_loopw [25] (fun v25 wr => ∃ k : Nat, k ≤ L1.length ∧ v25 = .int .i64 k ∧ J (L1.take k) wr ∧ Hid (KpX bo bf W1 wr)) (fun i _ => L1.length - (intOf i).toNat)
  case atStart => exact ⟨0, Nat.zero_le _, rfl, h1, KpX.refl _ _ _⟩
  case round =>
    clear h1
    obtain ⟨k, hk, rfl, hj, hkp⟩ := hrel
    by_cases hlt : k < L1.length
    · obtain ⟨b, o, rfl, hbl, e1, e2, e3⟩ := (RL.out.keep hkp.out).1.get k hlt
      obtain ⟨p, hp⟩ : ∃ p, L1[k] = p := ⟨_, rfl⟩
      rw [hp] at e1 e2 e3
      have HP := Lh hp
      clear hp
      obtain ⟨px, py, pz⟩ := p
      dsimp only at e1 e2 e3
      have HR1 : rawC pa aa ea pb ab eb = L1.take k ++ ⟨px, py, pz⟩ :: (L1.drop (k + 1) ++ T1) := by rw [HRAW.out, ← HP.out, ← List.cons_append, ← List.append_assoc, ← take_mid L1 k hlt]
      have hbw : Below wr.heap.size wr (wr.alloc (.cells #[.int .i64 px, .int .i64 py, .int .i64 pz] 23)) := (Below.refl _ _).alloc (Nat.le_refl _) _
      have hsz : W.heap.size ≤ wr.heap.size := Nat.le_trans K1.out.1 hkp.out.1
      have hj' := abides_below HJ.out hj hbw
      obtain ⟨fn, tmps, assign, body, hy, hR⟩ := HY.out _ ⟨px, py, pz⟩ (L1.drop (k + 1) ++ T1) _ hj' HR1
      dsimp only at hy
      gi_wp2
      refine ⟨fun h => (by cases h), hR.mono ?_⟩
      rintro e W' (⟨rfl, hJ', hk'⟩ | ⟨rfl, hJx'⟩)
      · gi_wp2
        go_roundw
        case rel => exact ⟨k + 1, by omega, by go_num, by rw [List.take_succ_eq_append_getElem hlt, HP.out]; exact hJ', hkp.out.trans ((KpX.of_below hbw).trans hk')⟩
        case measure => simp [intOf]; omega
      · have HR2 := Lh HR1
        clear HR1
        gi_wp2
        rw [Exit.noGoto_normal]
        go_end0
        exact ⟨⟨_, rfl⟩, .inr ⟨_, pre_mid HR2.out, hJx'⟩⟩
    · obtain rfl : k = L1.length := by omega
      rw [List.take_length] at hj
      have KW : Hid (KpX bo bf W wr) := K1.out.trans hkp.out
      have hga := heap_keep HA.out KW.out hga1 hga2
      have hgb := heap_keep HB.out KW.out hgb1 hgb2
      have a1 : wr.cell? ⟨ga, 2, none⟩ = some (.slice A2 ea.length c2) := (blk_cell hga 2).trans rfl
      clear hga hgb RL K1 hkp
      gi_wp2
      gi_loopw [37] (fun v37 w2 => ∃ i : Nat, i ≤ ea.length ∧ v37 = .int .i64 i ∧ J (L1 ++ edgeW (ea.take i) eb) w2 ∧ Hid (KpX bo bf W w2)) (fun i _ => ea.length - (intOf i).toNat)
      case atStart => exact ⟨0, Nat.zero_le _, rfl, by simpa [edgeW] using hj, KW⟩
      case round =>
        clear hj KW a1
        obtain ⟨w2, rfl⟩ : ∃ w2 : World, w2 = wr := ⟨_, rfl⟩
        obtain ⟨i, hi, rfl, hj, KW⟩ := hrel
        by_cases hlt2 : i < ea.length
        · obtain ⟨b, o, rfl, hbl, e1, e2, e3⟩ := (R2.out.keep KW.out).1.get i hlt2
          obtain ⟨p, hp⟩ : ∃ p, ea[i] = p := ⟨_, rfl⟩
          rw [hp] at e1 e2 e3
          have HP := Lh hp
          clear hp
          obtain ⟨px, py, pz⟩ := p
          dsimp only at e1 e2 e3
          have hgb' := heap_keep HB.out KW.out hgb1 hgb2
          have a2 : w2.cell? ⟨gb, 2, none⟩ = some (.slice B2 eb.length d2) := (blk_cell hgb' 2).trans rfl
          have hgl := blk_lt hgb'
          have a3 : (w2.alloc (.cells #[.int .i64 px, .int .i64 py, .int .i64 pz] 23)).cell? ⟨gb, 2, none⟩ = some (.slice B2 eb.length d2) := (World.cell?_alloc_lt _ _ _ hgl).trans a2
          have hbw : Below w2.heap.size w2 (w2.alloc (.cells #[.int .i64 px, .int .i64 py, .int .i64 pz] 23)) := (Below.refl _ _).alloc (Nat.le_refl _) _
          have hj1 := abides_below HJ.out hj hbw
          have KW1 : Hid (KpX bo bf W (w2.alloc (.cells #[.int .i64 px, .int .i64 py, .int .i64 pz] 23))) := KW.out.trans (KpX.of_below hbw)
          have C1 : Hid (C3 (w2.alloc (.cells #[.int .i64 px, .int .i64 py, .int .i64 pz] 23)) w2.heap.size (.int .i64 px) (.int .i64 py) (.int .i64 pz)) := C3.new w2 _ _ _ 23
          have hsz : W.heap.size ≤ w2.heap.size := KW.out.1
          clear hbw hgb' hj KW a2
          gi_wp2
          gi_loopw [44] (fun v44 w3 => ∃ j : Nat, j ≤ eb.length ∧ v44 = .int .i64 j ∧ J (L1 ++ (edgeW (ea.take i) eb ++ (eb.take j).map (fun f => cross3 ⟨px, py, pz⟩ f))) w3 ∧ Hid (KpX bo bf W w3) ∧ Hid (C3 w3 w2.heap.size (.int .i64 px) (.int .i64 py) (.int .i64 pz))) (fun j _ => eb.length - (intOf j).toNat)
          case atStart => exact ⟨0, Nat.zero_le _, rfl, by simpa using hj1, KW1, C1⟩
          case round =>
            clear hj1 KW1 C1 a3 e1 e2 e3
            obtain ⟨w3, rfl⟩ : ∃ w3 : World, w3 = wr := ⟨_, rfl⟩
            obtain ⟨j, hjl, rfl, hj, KW, C1⟩ := hrel
            by_cases hlt3 : j < eb.length
            · obtain ⟨b2, o2, rfl, hbl2, e1, e2, e3⟩ := (S2.out.keep KW.out).1.get j hlt3
              obtain ⟨q, hq⟩ : ∃ q, eb[j] = q := ⟨_, rfl⟩
              rw [hq] at e1 e2 e3
              have HQ := Lh hq
              clear hq
              obtain ⟨qx, qy, qz⟩ := q
              dsimp only at e1 e2 e3
              obtain ⟨c10, c11, c12, _, _, _⟩ := (C1.out.alloc (.cells #[.int .i64 qx, .int .i64 qy, .int .i64 qz] 23))
              have HR1 : rawC pa aa ea pb ab eb = (L1 ++ (edgeW (ea.take i) eb ++ (eb.take j).map (fun f => cross3 ⟨px, py, pz⟩ f))) ++ cross3 ⟨px, py, pz⟩ ⟨qx, qy, qz⟩ :: (((eb.drop (j + 1)).map (fun f => cross3 ⟨px, py, pz⟩ f) ++ edgeW (ea.drop (i + 1)) eb) ++ (if mn pa.length pb.length > 2 then [] else pointW pa pb (ea ++ eb))) := by
                rw [HRAW.out, ← HT1.out, edgeW_mid ea eb i hlt2 j hlt3, HP.out, HQ.out]
                simp only [List.append_assoc, List.cons_append]
              have HR2 := Lh HR1
              clear HR1
              have hbw : Below w3.heap.size w3 (w3.alloc (.cells #[.int .i64 qx, .int .i64 qy, .int .i64 qz] 23)) := (Below.refl _ _).alloc (Nat.le_refl _) _
              gi_wp2_with fail
              refine ⟨trivial, fun h => (by cases h), ?_⟩
              refine ((callsIn_wide (n := n - 1)).2 (cross_calls _ _ _ _ _ _ _)).mono ?_
              rintro e w4 ⟨rfl, hb4⟩
              have hb5 : Below w3.heap.size w3 w4 := hbw.trans (hb4.mono hbw.size)
              have hj4 := abides_below HJ.out hj hb5
              obtain ⟨fn, tmps, assign, body, hy, hR⟩ := HY.out _ _ _ _ hj4 HR2.out
              clear hb4 hbw c10 c11 c12 hj e1 e2 e3
              gi_wp2
              refine ⟨fun h => (by cases h), hR.mono ?_⟩
              rintro e W' (⟨rfl, hJ', hk'⟩ | ⟨rfl, hJx'⟩)
              · gi_wp2
                go_roundw
                case rel =>
                  refine ⟨j + 1, by omega, by go_num, ?_, KW.out.trans ((KpX.of_below hb5).trans hk'), (C1.out.below hb5).keep hk' (by omega) (by omega)⟩
                  rw [List.take_succ_eq_append_getElem hlt3, List.map_append, HQ.out]
                  simpa [List.append_assoc] using hJ'
                case measure => simp [intOf]; omega
              · gi_wp2
                rw [Exit.noGoto_normal]
                go_end0
                exact ⟨⟨_, rfl⟩, .inr ⟨_, pre_mid HR2.out, hJx'⟩⟩
            · obtain rfl : j = eb.length := by omega
              rw [List.take_length] at hj
              gi_wp2
              go_roundw
              case rel => exact ⟨i + 1, by omega, by go_num, by rw [edgeW_snoc ea eb i hlt2, HP.out]; exact hj, KW⟩
              case measure => simp [intOf]; omega
        · obtain rfl : i = ea.length := by omega
          rw [List.take_length] at hj
          have hga' := heap_keep HA.out KW.out hga1 hga2
          have hgb' := heap_keep HB.out KW.out hgb1 hgb2
          have a0 : w2.cell? ⟨ga, 0, none⟩ = some (.slice A0 pa.length c0) := (blk_cell hga' 0).trans rfl
          have b0 : w2.cell? ⟨gb, 0, none⟩ = some (.slice B0 pb.length d0) := (blk_cell hgb' 0).trans rfl
          have a2 : w2.cell? ⟨ga, 2, none⟩ = some (.slice A2 ea.length c2) := (blk_cell hga' 2).trans rfl
          have b2 : w2.cell? ⟨gb, 2, none⟩ = some (.slice B2 eb.length d2) := (blk_cell hgb' 2).trans rfl
          have za := blk_lt hga'
          have zb := blk_lt hgb'
          clear hga' hgb'
          obtain ⟨M, hM⟩ : ∃ M, mn (pa.length : Int) (pb.length : Int) = M := ⟨_, rfl⟩
          have HM := Lh hM
          by_cases hm : 2 < M
          · have ht : decide (2 < M) = true := by simpa using hm
            have hraw : Hid (rawC pa aa ea pb ab eb = L1 ++ edgeW ea eb) := by show rawC .. = _; rw [HRAW.out, ← HT1.out, HM.out, if_pos hm]; simp
            gi_wp2
            rw [Exit.noGoto_normal]
            go_end0
            exact ⟨⟨_, rfl⟩, .inl ⟨_, hraw.out.symm, hj⟩⟩
          · have ht : decide (2 < M) = false := by simpa using hm
            have ht' : M ≤ 2 := by omega
            have hraw : Hid (rawC pa aa ea pb ab eb = (L1 ++ edgeW ea eb) ++ pointW pa pb (ea ++ eb)) := by show rawC .. = _; rw [HRAW.out, ← HT1.out, HM.out, if_neg hm]; simp
            clear HRAW HT1
            gi_wp2_with fail
            refine ⟨trivial, fun h => (by cases h), ?_⟩
            refine ((callsIn_wide (n := n - 1)).2 (concat_calls ea eb _ _ A2 B2 c2 d2 _ _ rfl rfl ?_ ?_ ((R2.out.keep KW.out).1.alloc _) ((S2.out.keep KW.out).1.alloc _) hl3 hl4)).mono ?_
            · simp
            · simp
            rintro e w3 ⟨E, ce, rfl, hce, hrd, hb3, hbs⟩
            have hB3 : Below w2.heap.size w2 w3 := ((Below.refl _ w2).alloc (Nat.le_refl _) _).trans (hb3.mono (by simp))
            have hsz : W.heap.size ≤ w2.heap.size := KW.out.1
            have KW3 : Hid (KpX bo bf W w3) := KW.out.trans (KpX.of_below hB3)
            have RE : Hid (RdX bo bf w3 E (ea ++ eb)) := ⟨hrd, fun ad e => by have := hbs ad e; simp at this; omega⟩
            have hj3 : J (L1 ++ edgeW ea eb) w3 := abides_below HJ.out hj hB3
            have a3 : w3.cell? ⟨ga, 0, none⟩ = some (.slice A0 pa.length c0) := (hB3.cell (p := ⟨ga, 0, none⟩) za).trans a0
            obtain ⟨es, hes⟩ : ∃ L, ea ++ eb = L := ⟨_, rfl⟩
            rw [hes] at hce hrd RE ⊢
            have hl8 : es.length ≤ 80000 := by rw [← hes]; simp; omega
            have HRAW : Hid (rawC pa aa ea pb ab eb = (L1 ++ edgeW ea eb) ++ pointW pa pb es) := by rw [← hes]; exact hraw.out
            obtain ⟨L2, hL2⟩ : ∃ L, L1 ++ edgeW ea eb = L := ⟨_, rfl⟩
            rw [hL2] at hj3 HRAW
            clear hB3 hb3 hbs hrd a0 b0 a2 b2 za zb hj KW hraw hes hL2 hM HM
            gi_wp2
            gi_loopw [73] (fun v73 w4 => ∃ i : Nat, i ≤ pa.length ∧ v73 = .int .i64 i ∧ J (L2 ++ pointW (pa.take i) pb es) w4 ∧ Hid (KpX bo bf W w4) ∧ Hid (RdX bo bf w4 E es)) (fun i _ => pa.length - (intOf i).toNat)
            case atStart => exact ⟨0, Nat.zero_le _, rfl, by simpa [pointW] using hj3, KW3, RE⟩
            case round =>
              obtain ⟨w4, rfl⟩ : ∃ w4 : World, w4 = wr := ⟨_, rfl⟩
              clear hj3 KW3 RE a3 hsz
              obtain ⟨i, hi, rfl, hj, KW, RE⟩ := hrel
              by_cases hlt4 : i < pa.length
              · obtain ⟨b, o, rfl, hbl, e1, e2, e3⟩ := (R0.out.keep KW.out).1.get i hlt4
                obtain ⟨p, hp⟩ : ∃ p, pa[i] = p := ⟨_, rfl⟩
                rw [hp] at e1 e2 e3
                have HP := Lh hp
                clear hp
                obtain ⟨px, py, pz⟩ := p
                dsimp only at e1 e2 e3
                have hgb' := heap_keep HB.out KW.out hgb1 hgb2
                have b2 : w4.cell? ⟨gb, 0, none⟩ = some (.slice B0 pb.length d0) := (blk_cell hgb' 0).trans rfl
                have hgl := blk_lt hgb'
                have b3 : (w4.alloc (.cells #[.int .i64 px, .int .i64 py, .int .i64 pz] 23)).cell? ⟨gb, 0, none⟩ = some (.slice B0 pb.length d0) := (World.cell?_alloc_lt _ _ _ hgl).trans b2
                have hbw : Below w4.heap.size w4 (w4.alloc (.cells #[.int .i64 px, .int .i64 py, .int .i64 pz] 23)) := (Below.refl _ _).alloc (Nat.le_refl _) _
                have hj1 := abides_below HJ.out hj hbw
                have KW1 : Hid (KpX bo bf W (w4.alloc (.cells #[.int .i64 px, .int .i64 py, .int .i64 pz] 23))) := KW.out.trans (KpX.of_below hbw)
                have RE1 : Hid (RdX bo bf (w4.alloc (.cells #[.int .i64 px, .int .i64 py, .int .i64 pz] 23)) E es) := RE.out.keep (KpX.of_below hbw)
                have C1 : Hid (C3 (w4.alloc (.cells #[.int .i64 px, .int .i64 py, .int .i64 pz] 23)) w4.heap.size (.int .i64 px) (.int .i64 py) (.int .i64 pz)) := C3.new w4 _ _ _ 23
                have hsz : W.heap.size ≤ w4.heap.size := KW.out.1
                clear hbw hgb' hj KW b2 RE
                gi_wp2
                gi_loopw [80] (fun v80 w5 => ∃ j : Nat, j ≤ pb.length ∧ v80 = .int .i64 j ∧ J (L2 ++ (pointW (pa.take i) pb es ++ (pb.take j).flatMap (fun q => roundW es ⟨px, py, pz⟩ q))) w5 ∧ Hid (KpX bo bf W w5) ∧ Hid (RdX bo bf w5 E es) ∧ Hid (C3 w5 w4.heap.size (.int .i64 px) (.int .i64 py) (.int .i64 pz))) (fun j _ => pb.length - (intOf j).toNat)
                case atStart => exact ⟨0, Nat.zero_le _, rfl, by simpa using hj1, KW1, RE1, C1⟩
                case round =>
                  clear hj1 KW1 C1 RE1 b3 e1 e2 e3
                  obtain ⟨w5, rfl⟩ : ∃ w5 : World, w5 = wr := ⟨_, rfl⟩
                  obtain ⟨j, hjl, rfl, hj, KW, RE, C1⟩ := hrel
                  by_cases hlt5 : j < pb.length
                  · obtain ⟨b2, o2, rfl, hbl2, e1, e2, e3⟩ := (S0.out.keep KW.out).1.get j hlt5
                    obtain ⟨q, hq⟩ : ∃ q, pb[j] = q := ⟨_, rfl⟩
                    rw [hq] at e1 e2 e3
                    have HQ := Lh hq
                    clear hq
                    obtain ⟨qx, qy, qz⟩ := q
                    dsimp only at e1 e2 e3
                    have hsz5 : W.heap.size ≤ w5.heap.size := KW.out.1
                    obtain ⟨RR, hRR⟩ := pointW_mid pa pb es i hlt4 j hlt5
                    rw [HP.out, HQ.out] at hRR
                    obtain ⟨P5, hP5⟩ : ∃ L, L2 ++ (pointW (pa.take i) pb es ++ (pb.take j).flatMap (fun q => roundW es ⟨px, py, pz⟩ q)) = L := ⟨_, rfl⟩
                    have HRAW5 : Hid (rawC pa aa ea pb ab eb = P5 ++ (roundW es ⟨px, py, pz⟩ ⟨qx, qy, qz⟩ ++ RR)) := by
                      show rawC .. = _
                      rw [HRAW.out, hRR, ← hP5]; simp only [List.append_assoc]
                    rw [hP5] at hj
                    have HP5 := Lh hP5
                    clear hRR hP5
                    have hbw : Below w5.heap.size w5 (w5.alloc (.cells #[.int .i64 qx, .int .i64 qy, .int .i64 qz] 23)) := (Below.refl _ _).alloc (Nat.le_refl _) _
                    obtain ⟨c10, c11, c12, _, _, _⟩ := (C1.out.alloc (.cells #[.int .i64 qx, .int .i64 qy, .int .i64 qz] 23))
                    gi_wp2_with fail
                    refine ⟨trivial, fun h => (by cases h), ?_⟩
                    refine ((callsIn_wide (n := n - 1)).2 (minus_calls _ _ _ _ _ _ _)).mono ?_
                    rintro e w6 ⟨rfl, hb6⟩
                    clear c10 c11 c12 e1 e2 e3
                    gi_wp2_with fail
                    refine ⟨trivial, fun h => (by cases h), ?_⟩
                    refine ((callsIn_wide (n := n - 1)).2 (short_calls _ _ _ _)).mono ?_
                    rintro e w7 ⟨rfl, hb7⟩
                    have hb57 : Below w5.heap.size w5 w7 := hbw.trans ((hb6.mono hbw.size).trans (hb7.mono (Nat.le_trans hbw.size hb6.size)))
                    obtain ⟨d, hd⟩ : ∃ d, short3 (minus3 ⟨qx, qy, qz⟩ ⟨px, py, pz⟩) = d := ⟨_, rfl⟩
                    have hd' : short3 ⟨(minus3 ⟨qx, qy, qz⟩ ⟨px, py, pz⟩).x, (minus3 ⟨qx, qy, qz⟩ ⟨px, py, pz⟩).y, (minus3 ⟨qx, qy, qz⟩ ⟨px, py, pz⟩).z⟩ = d := hd
                    rw [hd']
                    have HDD := Lh hd
                    clear hd hd' hbw hb6 hb7
                    obtain ⟨dx, dy, dz⟩ := d
                    dsimp only
                    have hbw2 : Below w7.heap.size w7 (w7.alloc (.cells #[.int .i64 dx, .int .i64 dy, .int .i64 dz] 23)) := (Below.refl _ _).alloc (Nat.le_refl _) _
                    have hb58 : Below w5.heap.size w5 (w7.alloc (.cells #[.int .i64 dx, .int .i64 dy, .int .i64 dz] 23)) := bthen hb57 hbw2
                    have hj8 := abides_below HJ.out hj hb58
                    have HR1 : Hid (rawC pa aa ea pb ab eb = P5 ++ ⟨dx, dy, dz⟩ :: (es.map (fun e => cross3 (short3 (cross3 e ⟨dx, dy, dz⟩)) e) ++ RR)) := by
                      show rawC .. = _
                      rw [HRAW5.out]; unfold roundW; rw [HDD.out]; rfl
                    obtain ⟨fn, tmps, assign, body, hy, hR⟩ := HY.out _ ⟨dx, dy, dz⟩ _ _ hj8 HR1.out
                    dsimp only at hy
                    have D8 : Hid (C3 (w7.alloc (.cells #[.int .i64 dx, .int .i64 dy, .int .i64 dz] 23)) w7.heap.size (.int .i64 dx) (.int .i64 dy) (.int .i64 dz)) := C3.new w7 _ _ _ 23
                    have hsz7 : W.heap.size ≤ w7.heap.size := Nat.le_trans hsz5 hb57.size
                    gi_wp2
                    refine ⟨fun h => (by cases h), hR.mono ?_⟩
                    rintro e W' (⟨rfl, hJ', hk'⟩ | ⟨rfl, hJx'⟩)
                    · have KX : Hid (KpX bo bf w5 W') := (KpX.of_below hb58).trans hk'
                      have KW9 : Hid (KpX bo bf W W') := KW.out.trans KX.out
                      have RE9 : Hid (RdX bo bf W' E es) := RE.out.keep KX.out
                      have C9 : Hid (C3 W' w4.heap.size (.int .i64 px) (.int .i64 py) (.int .i64 pz)) := C1.out.keep KX.out (by omega) (by omega)
                      have D9 : Hid (C3 W' w7.heap.size (.int .i64 dx) (.int .i64 dy) (.int .i64 dz)) := D8.out.keep hk' (by omega) (by omega)
                      clear hj hj8 KX D8 C1 RE KW hb57 hbw2 hb58 hk' hy hR
                      gi_wp2
                      gi_loopw [94] (fun v94 w9 => ∃ m : Nat, m ≤ es.length ∧ v94 = .int .i64 m ∧ J (P5 ++ ⟨dx, dy, dz⟩ :: (es.take m).map (fun e => cross3 (short3 (cross3 e ⟨dx, dy, dz⟩)) e)) w9 ∧ Hid (KpX bo bf W w9) ∧ Hid (RdX bo bf w9 E es) ∧ Hid (C3 w9 w4.heap.size (.int .i64 px) (.int .i64 py) (.int .i64 pz)) ∧ Hid (C3 w9 w7.heap.size (.int .i64 dx) (.int .i64 dy) (.int .i64 dz))) (fun m _ => es.length - (intOf m).toNat)
                      case atStart => exact ⟨0, Nat.zero_le _, rfl, by simpa using hJ', KW9, RE9, C9, D9⟩
                      case round =>
                        clear hJ' KW9 RE9 C9 D9
                        obtain ⟨w9, rfl⟩ : ∃ w9 : World, w9 = wr := ⟨_, rfl⟩
                        obtain ⟨m, hml, rfl, hj, KW, RE, C1, D1⟩ := hrel
                        by_cases hlt6 : m < es.length
                        · obtain ⟨b3, o3, rfl, hbl3, e1, e2, e3⟩ := RE.out.1.get m hlt6
                          obtain ⟨s, hs⟩ : ∃ s, es[m] = s := ⟨_, rfl⟩
                          rw [hs] at e1 e2 e3
                          have HSS := Lh hs
                          clear hs
                          obtain ⟨sx, sy, sz⟩ := s
                          dsimp only at e1 e2 e3
                          have HR1 : Hid (rawC pa aa ea pb ab eb = (P5 ++ ⟨dx, dy, dz⟩ :: (es.take m).map (fun e => cross3 (short3 (cross3 e ⟨dx, dy, dz⟩)) e)) ++ cross3 (short3 (cross3 ⟨sx, sy, sz⟩ ⟨dx, dy, dz⟩)) ⟨sx, sy, sz⟩ :: ((es.drop (m + 1)).map (fun e => cross3 (short3 (cross3 e ⟨dx, dy, dz⟩)) e) ++ RR)) := by
                            show rawC .. = _
                            rw [HRAW5.out, roundW_eq es _ _ _ HDD.out]
                            have e2 : es.map (fun e => cross3 (short3 (cross3 e ⟨dx, dy, dz⟩)) e) = (es.take m).map (fun e => cross3 (short3 (cross3 e ⟨dx, dy, dz⟩)) e) ++ cross3 (short3 (cross3 ⟨sx, sy, sz⟩ ⟨dx, dy, dz⟩)) ⟨sx, sy, sz⟩ :: (es.drop (m + 1)).map (fun e => cross3 (short3 (cross3 e ⟨dx, dy, dz⟩)) e) := by
                              conv => lhs; rw [take_mid es m hlt6]
                              rw [List.map_append, List.map_cons, HSS.out]
                            rw [e2]
                            simp only [List.append_assoc, List.cons_append]
                          have hbw : Below w9.heap.size w9 (w9.alloc (.cells #[.int .i64 sx, .int .i64 sy, .int .i64 sz] 23)) := (Below.refl _ _).alloc (Nat.le_refl _) _
                          have G1 : Hid (C3 (w9.alloc (.cells #[.int .i64 sx, .int .i64 sy, .int .i64 sz] 23)) w7.heap.size (.int .i64 dx) (.int .i64 dy) (.int .i64 dz)) := D1.out.below hbw
                          have G2 : Hid (C3 (w9.alloc (.cells #[.int .i64 sx, .int .i64 sy, .int .i64 sz] 23)) w9.heap.size (.int .i64 sx) (.int .i64 sy) (.int .i64 sz)) := C3.new w9 _ _ _ 23
                          have hj9 := abides_below HJ.out hj hbw
                          obtain ⟨w10, hw10⟩ : ∃ w, w9.alloc (.cells #[.int .i64 sx, .int .i64 sy, .int .i64 sz] 23) = w := ⟨_, rfl⟩
                          have hsz10 : w10.heap.size = w9.heap.size + 1 := by rw [← hw10]; simp
                          gi_wp2
                          rw [hw10] at hbw G1 G2 hj9
                          (try simp only [hw10])
                          have KX10 : Hid (KpX bo bf w9 w10) := KpX.of_below hbw
                          have KW10 : Hid (KpX bo bf W w10) := KW.out.trans KX10.out
                          have RE10 : Hid (RdX bo bf w10 (some ⟨b3, o3, none⟩) es) := RE.out.keep KX10.out
                          have C10 : Hid (C3 w10 w4.heap.size (.int .i64 px) (.int .i64 py) (.int .i64 pz)) := C1.out.keep KX10.out (by have := C1.out.lt; omega) (by have := C1.out.lt; omega)
                          have D10 : Hid (C3 w10 w7.heap.size (.int .i64 dx) (.int .i64 dy) (.int .i64 dz)) := G1
                          have hsz9 : W.heap.size ≤ w9.heap.size := KW.out.1
                          clear hj KW RE C1 D1 e1 e2 e3 hbw KX10 hw10
                          have HJ9 := Lh hj9
                          clear hj9
                          have G1' := G1.out.drew
                          have G2' := G2.out.drew
                          clear G1 G2
                          have HB : Below w10.drew.heap.size w10.drew w10.drew := Below.refl _ _
                          obtain ⟨g10, g11, g12, _, _, _⟩ := G1'.below HB
                          obtain ⟨g20, g21, g22, _, _, _⟩ := G2'.below HB
                          have hmix : Try.prog.follows .mixedOrders = true := by kernel_rfl
                          obtain ⟨c, hcc⟩ : ∃ c, cross3 ⟨sx, sy, sz⟩ ⟨dx, dy, dz⟩ = c := ⟨_, rfl⟩
                          obtain ⟨h, hhh⟩ : ∃ h, short3 c = h := ⟨_, rfl⟩
                          obtain ⟨x, hxx⟩ : ∃ x, cross3 h ⟨sx, sy, sz⟩ = x := ⟨_, rfl⟩
                          rw [hcc, hhh, hxx] at HR1
                          have hC1 : Hid (∀ w, CallsIn Fence.wide (n - 1) Try.prog 117 #[.agg #[.int .i64 sx, .int .i64 sy, .int .i64 sz], .agg #[.int .i64 dx, .int .i64 dy, .int .i64 dz]] w fun e w' => e = .returned (.agg #[.int .i64 c.x, .int .i64 c.y, .int .i64 c.z]) ∧ Below w.heap.size w w') := by
                            rw [← hcc]; exact fun w => (callsIn_wide (n := n - 1)).2 (cross_calls _ _ _ _ _ _ w)
                          have hC2 : Hid (∀ w, CallsIn Fence.wide (n - 1) Try.prog 77 #[.agg #[.int .i64 c.x, .int .i64 c.y, .int .i64 c.z]] w fun e w' => e = .returned (.agg #[.int .i64 h.x, .int .i64 h.y, .int .i64 h.z]) ∧ Below w.heap.size w w') := by
                            rw [← hhh]; exact fun w => (callsIn_wide (n := n - 1)).2 (short_calls _ _ _ w)
                          have hC3 : Hid (∀ w, CallsIn Fence.wide (n - 1) Try.prog 117 #[.agg #[.int .i64 h.x, .int .i64 h.y, .int .i64 h.z], .agg #[.int .i64 sx, .int .i64 sy, .int .i64 sz]] w fun e w' => e = .returned (.agg #[.int .i64 x.x, .int .i64 x.y, .int .i64 x.z]) ∧ Below w.heap.size w w') := by
                            rw [← hxx]; exact fun w => (callsIn_wide (n := n - 1)).2 (cross_calls _ _ _ _ _ _ w)
                          have HRN : Hid (∀ w, J ((P5 ++ ⟨dx, dy, dz⟩ :: (es.take m).map (fun e => cross3 (short3 (cross3 e ⟨dx, dy, dz⟩)) e)) ++ [x]) w → J (P5 ++ ⟨dx, dy, dz⟩ :: (es.take (m + 1)).map (fun e => cross3 (short3 (cross3 e ⟨dx, dy, dz⟩)) e)) w) := by
                            intro w hw
                            rw [List.take_succ_eq_append_getElem hlt6, List.map_append, HSS.out, List.map_cons, List.map_nil, hcc, hhh, hxx]
                            simpa [List.append_assoc] using hw
                          clear hcc hhh hxx HSS
                          obtain ⟨c_x, c_y, c_z⟩ := c
                          obtain ⟨h_x, h_y, h_z⟩ := h
                          obtain ⟨xx, xy, xz⟩ := x
                          dsimp only at hC1 hC2 hC3
                          apply cut_
                          · intro END
                            gi_region_with_o (first
                              | (refine ⟨trivial, fun h => (by cases h), ?_⟩
                                 with_reducible refine CallsIn.mono (hC1.out _) ?_
                                 rintro e wa ⟨rfl, hb⟩
                                 have HB := bthen HB hb
                                 obtain ⟨g10, g11, g12, _, _, _⟩ := G1'.below HB
                                 obtain ⟨g20, g21, g22, _, _, _⟩ := G2'.below HB)
                              | (refine ⟨trivial, fun h => (by cases h), ?_⟩
                                 with_reducible refine CallsIn.mono (hC2.out _) ?_
                                 rintro e wa ⟨rfl, hb⟩
                                 have HB := bthen HB hb
                                 obtain ⟨g10, g11, g12, _, _, _⟩ := G1'.below HB
                                 obtain ⟨g20, g21, g22, _, _, _⟩ := G2'.below HB)
                              | (refine ⟨trivial, fun h => (by cases h), ?_⟩
                                 with_reducible refine CallsIn.mono (hC3.out _) ?_
                                 rintro e wa ⟨rfl, hb⟩
                                 have HB := bthen HB hb
                                 have hb10 : Below w10.heap.size w10 wa := bthen ((Below.refl _ w10).drew) HB
                                 have hjA := abides_below HJ.out HJ9.out hb10
                                 obtain ⟨fn, tmps, assign, body, hy, hR⟩ := HY.out _ ⟨xx, xy, xz⟩ _ _ hjA HR1.out
                                 have hR2 := Lh hR
                                 clear hR
                                 dsimp only at hy)
                              | (refine ⟨fun h => (by cases h), hR2.out.mono ?_⟩
                                 intro e wz hez0
                                 obtain ⟨b, rfl, hez⟩ : ∃ b, e = .returned (.bool b) ∧ Hid (if b = true then J ((P5 ++ ⟨dx, dy, dz⟩ :: (es.take m).map (fun e => cross3 (short3 (cross3 e ⟨dx, dy, dz⟩)) e)) ++ [⟨xx, xy, xz⟩]) wz ∧ KpX bo bf wa wz else Jx ((P5 ++ ⟨dx, dy, dz⟩ :: (es.take m).map (fun e => cross3 (short3 (cross3 e ⟨dx, dy, dz⟩)) e)) ++ [⟨xx, xy, xz⟩]) wz) := by
                                   rcases hez0 with ⟨rfl, h1⟩ | ⟨rfl, h1⟩
                                   · exact ⟨true, rfl, h1⟩
                                   · exact ⟨false, rfl, h1⟩
                                 clear hez0))
                            all_goals (
                              clear hy hR2 HB hb g10 g11 g12 g20 g21 g22
                              clear hjA
                              revert hez
                              revert b
                              revert wz
                              revert hb10
                              revert wa
                              exact END.out)
                          · clear hC1 hC2 hC3 G1' G2' g10 g11 g12 g20 g21 g22 HB
                            intro wa hb10 wz b hez
                            cases b
                            · have hez := hez.out
                              rw [if_neg (by decide)] at hez
                              have hJx' := Lh hez
                              clear hez
                              gi_wp2
                              rw [Exit.noGoto_normal]
                              go_end0
                              exact ⟨⟨_, rfl⟩, .inr ⟨_, pre_mid HR1.out, hJx'.out⟩⟩
                            · have hez := hez.out
                              rw [if_pos rfl] at hez
                              have KA : Hid (KpX bo bf w10 wz) := (KpX.of_below hb10).trans hez.2
                              have KW12 : Hid (KpX bo bf W wz) := KW10.out.trans KA.out
                              have RE12 : Hid (RdX bo bf wz (some ⟨b3, o3, none⟩) es) := RE10.out.keep KA.out
                              have C12 : Hid (C3 wz w4.heap.size (.int .i64 px) (.int .i64 py) (.int .i64 pz)) := C10.out.keep KA.out (by have := C10.out.lt; omega) (by have := C10.out.lt; omega)
                              have D12 : Hid (C3 wz w7.heap.size (.int .i64 dx) (.int .i64 dy) (.int .i64 dz)) := D10.out.keep KA.out (by omega) (by omega)
                              have hJ' := Lh hez.1
                              clear hez
                              gi_wp2
                              go_roundw
                              case rel => exact ⟨m + 1, by omega, by go_num, HRN.out _ hJ'.out, KW12, RE12, C12, D12⟩
                              case measure => simp [intOf]; omega
                        · obtain rfl : m = es.length := by omega
                          rw [List.take_length] at hj
                          gi_wp2
                          go_roundw
                          case rel =>
                            refine ⟨j + 1, by omega, by go_num, ?_, KW, RE, C1⟩
                            rw [flat_snoc pb es _ j hlt5, HQ.out, roundW_eq es _ _ _ HDD.out]
                            simpa [← HP5.out, List.append_assoc] using hj
                          case measure => simp [intOf]; omega
                    · gi_wp2
                      rw [Exit.noGoto_normal]
                      go_end0
                      exact ⟨⟨_, rfl⟩, .inr ⟨_, pre_mid HR1.out, hJx'⟩⟩
                  · obtain rfl : j = pb.length := by omega
                    rw [List.take_length] at hj
                    gi_wp2
                    go_roundw
                    case rel => exact ⟨i + 1, by omega, by go_num, by rw [pointW_snoc pa pb es i hlt4, HP.out]; exact hj, KW, RE⟩
                    case measure => simp [intOf]; omega
              · obtain rfl : i = pa.length := by omega
                rw [List.take_length] at hj
                gi_wp2
                rw [Exit.noGoto_normal]
                go_end0
                exact ⟨⟨_, rfl⟩, .inl ⟨_, HRAW.out.symm, hj⟩⟩
end Go.Proofs.Ytckdhahceelckaa.G
namespace Go.Proofs.Ytckdhahceelckaa.G
open Go.RowKit Go.Proofs.YtckdhahceelckaaW.PrintWords Go.Proofs.YtckdhahceelckaaW.PrintLast Go.Proofs.YtckdhahceelckaaW.PrintMore
attribute [local go_sem] max2_mx min2_mn max_two min_two max_three min_three max_four min_four
attribute [local go_sem high] eqA23
set_option linter.unusedVariables false
set_option linter.unusedSimpArgs false
def two3 (p : P3) : P3 := ⟨2 * p.x, 2 * p.y, 2 * p.z⟩
theorem two3_lt (p : P3) (h : ¬ (far3 524288 p = true ∨ p = ⟨0, 0, 0⟩)) : 2000000 - size3 (two3 p) < 2000000 - size3 p := by
  have h1 : far3 524288 p = false := by simpa using fun e => h (.inl e)
  have hi := (far3_iff _ _ (by decide) (by decide)).1 h1
  have h2 : p ≠ ⟨0, 0, 0⟩ := fun e => h (.inr e)
  have h3 : p.x ≠ 0 ∨ p.y ≠ 0 ∨ p.z ≠ 0 := by
    cases p; simp at h2 ⊢; omega
  unfold in3 at hi
  unfold size3 two3
  simp only
  omega
/-- doubled, as long as no part's size is above 2^19 -/
def dbl3 (p : P3) : P3 := if h : far3 524288 p = true ∨ p = ⟨0, 0, 0⟩ then p else dbl3 (two3 p)
termination_by 2000000 - size3 p
decreasing_by exact two3_lt p h
/-- made long; noughts: it is none -/
def long3 (p : P3) : P3 := dbl3 (short3 p)
theorem two3_ne (p : P3) (h : p ≠ ⟨0, 0, 0⟩) : two3 p ≠ ⟨0, 0, 0⟩ := by
  cases p; simp [two3] at h ⊢; omega
theorem halve3_in (p : P3) : in3 1048576 (halve3 p) := by
  induction p using halve3.induct with
  | case1 p h ih => rw [halve3, dif_pos h]; exact ih
  | case2 p h =>
    rw [halve3, dif_neg h]
    exact (far3_iff _ _ (by decide) (by decide)).1 (by simpa using h)
theorem short3_in (p : P3) : in3 1048576 (short3 p) := by
  unfold short3
  split
  · unfold in3; simp
  · exact div3_in _ _ _ (halve3_in _)
theorem halve3_ne (p : P3) (h : p ≠ ⟨0, 0, 0⟩) : halve3 p ≠ ⟨0, 0, 0⟩ := by
  induction p using halve3.induct with
  | case1 p h' ih => rw [halve3, dif_pos h']; exact ih (div2_ne p h')
  | case2 p h' => rw [halve3, dif_neg h']; exact h
theorem dbl3_ne (p : P3) (h : p ≠ ⟨0, 0, 0⟩) : dbl3 p ≠ ⟨0, 0, 0⟩ := by
  induction p using dbl3.induct with
  | case1 p h' => rw [dbl3, dif_pos h']; exact h
  | case2 p h' ih => rw [dbl3, dif_neg h']; exact ih (two3_ne p h)
set_option maxHeartbeats 2000000 in
theorem lengthen_calls (x y z : Int) (b : Bool) (w : World) (hb0 : decide (long3 ⟨x, y, z⟩ ≠ ⟨0, 0, 0⟩) = b) :
    Calls Try.prog 59 #[.agg #[.int .i64 x, .int .i64 y, .int .i64 z]] w fun e w' => e = .returned (.tuple #[.agg #[.int .i64 (long3 ⟨x, y, z⟩).x, .int .i64 (long3 ⟨x, y, z⟩).y, .int .i64 (long3 ⟨x, y, z⟩).z], .bool b]) ∧ Below w.heap.size w w' := by
  have B1 := ((C3.new w (.int .i64 x) (.int .i64 y) (.int .i64 z) 23).alloc (.cells #[.int .i64 0, .int .i64 0, .int .i64 0] 23))
  have B2 := (C3.new (w.alloc (.cells #[.int .i64 x, .int .i64 y, .int .i64 z] 23)) (.int .i64 0) (.int .i64 0) (.int .i64 0) 23)
  simp only [World.size_alloc] at B2
  have B1 := Lh B1
  have B2 := Lh B2
  obtain ⟨p, hp⟩ : ∃ p, short3 ⟨x, y, z⟩ = p := ⟨_, rfl⟩
  have hin : in3 1048576 p := by rw [← hp]; exact short3_in _
  unfold long3 at hb0 ⊢
  rw [hp] at hb0 ⊢
  have HP := Lh hp
  clear hp
  obtain ⟨px, py, pz⟩ := p
  by_cases hz : (⟨px, py, pz⟩ : P3) = ⟨0, 0, 0⟩
  · have h1 : dbl3 ⟨px, py, pz⟩ = ⟨0, 0, 0⟩ := by rw [dbl3, dif_pos (.inr hz)]; exact hz
    rw [h1] at hb0 ⊢
    obtain rfl : false = b := by simpa using hb0
    clear hb0 h1
    have he := eqP_yes hz
    simp only [P3.mk.injEq] at hz
    obtain ⟨rfl, rfl, rfl⟩ := hz
    go_enter Try.func59, Try.ntmps59
    go_wp2_with (go_at_call 77; refine (short_calls _ _ _ _).mono ?_; rintro e w1 ⟨rfl, hb1⟩; rw [HP.out]; obtain ⟨c10, c11, c12, f10, f11, f12⟩ := B1.out.below hb1; have D2 := Lh (B2.out.below hb1); obtain ⟨c20, c21, c22, f20, f21, f22⟩ := D2.out)
    have hB : Below w.heap.size w w1 := (((Below.refl _ w).alloc (Nat.le_refl _) _).alloc (by simp) _).trans (hb1.mono (by simp; omega))
    exact bodyPost_ret (v := .tuple #[.agg #[.int .i64 0, .int .i64 0, .int .i64 0], .bool false]) (by simp [results, Try.results59, go_sem, c20, c21, c22]) rfl ⟨rfl, below_set3 (below_set3 hB (Nat.le_refl _) _ _ _) (by omega) _ _ _⟩
  · obtain ⟨D, hD⟩ : ∃ D, dbl3 ⟨px, py, pz⟩ = D := ⟨_, rfl⟩
    have hDn : D ≠ ⟨0, 0, 0⟩ := by
      rw [← hD]
      exact dbl3_ne _ hz
    rw [hD] at hb0 ⊢
    obtain rfl : true = b := by rw [← hb0]; simpa using hDn
    have HD := Lh hD
    have HZ := Lh hz
    have HI := Lh hin
    have he := eqP_no hz
    clear hb0 hD hz hDn hin
    go_enter Try.func59, Try.ntmps59
    go_wp2_with (go_at_call 77; refine (short_calls _ _ _ _).mono ?_; rintro e w1 ⟨rfl, hb1⟩; rw [HP.out]; have D1 := Lh (B1.out.below hb1); obtain ⟨c10, c11, c12, f10, f11, f12⟩ := D1.out; have D2 := Lh (B2.out.below hb1))
    have hB : Below w.heap.size w w1 := (((Below.refl _ w).alloc (Nat.le_refl _) _).alloc (by simp) _).trans (hb1.mono (by simp; omega))
    have hB := below_set3 hB (Nat.le_refl w.heap.size) (.int .i64 px) (.int .i64 py) (.int .i64 pz)
    have B2 := D2.out.other (g' := w.heap.size) (by omega) (.int .i64 px) (.int .i64 py) (.int .i64 pz)
    have B1 := D1.out.set (.int .i64 px) (.int .i64 py) (.int .i64 pz)
    unfold set3 at B1 B2 hB
    generalize ((w1.setCell { block := w.heap.size, off := 0 } (Value.int IntKind.i64 px)).setCell { block := w.heap.size, off := 1 } (Value.int IntKind.i64 py)).setCell { block := w.heap.size, off := 2 } (Value.int IntKind.i64 pz) = w3 at B1 B2 hB ⊢
    clear he hb1 c10 c11 c12 f10 f11 f12 D1 D2
    go_loopg [] (2000000 - size3 ⟨px, py, pz⟩) (fun kq wr => ∃ r : P3, Hid (kq = 2000000 - size3 r) ∧ Hid (dbl3 r = D) ∧ Hid (in3 1048576 r) ∧ Hid (r ≠ ⟨0, 0, 0⟩) ∧ Hid (C3 wr w.heap.size (.int .i64 r.x) (.int .i64 r.y) (.int .i64 r.z)) ∧ Hid (C3 wr (w.heap.size + 1) (.int .i64 0) (.int .i64 0) (.int .i64 0)) ∧ Hid (Below w.heap.size w wr))
    case atStart => exact ⟨⟨px, py, pz⟩, rfl, HD.out, HI.out, HZ.out, B1, B2, hB⟩
    case round =>
      obtain ⟨r, h1, h2, h3, h4, h5, h6, h7⟩ := hrel
      obtain ⟨hx1, hx2, hy1, hy2, hz1, hz2⟩ := h3.out
      obtain ⟨rx, ry, rz⟩ := r
      dsimp only at h5 hx1 hx2 hy1 hy2 hz1 hz2
      obtain ⟨c10, c11, c12, f10, f11, f12⟩ := id h5.out
      cases hf : far3 524288 ⟨rx, ry, rz⟩ with
      | false =>
        have hne : ¬ (far3 524288 ⟨rx, ry, rz⟩ = true ∨ (⟨rx, ry, rz⟩ : P3) = ⟨0, 0, 0⟩) := by rw [hf]; simpa using h4.out
        have e1 : dbl3 ⟨rx, ry, rz⟩ = dbl3 (two3 ⟨rx, ry, rz⟩) := by rw [dbl3, dif_neg hne]
        have e2 : Hid (2000000 - size3 (two3 ⟨rx, ry, rz⟩) < gk) := by rw [h1.out]; exact two3_lt _ hne
        have e4 := Lh (two3_ne _ h4.out)
        have hi5 := (far3_iff _ _ (by decide) (by decide)).1 hf
        have e3 : Hid (in3 1048576 (two3 ⟨rx, ry, rz⟩)) := by unfold in3 two3 at *; simp only at *; show _ ∧ _; omega
        have E1 : Hid (dbl3 (two3 ⟨rx, ry, rz⟩) = D) := e1.symm.trans h2.out
        clear e1 hne hi5
        go_wp2
        go_region_held3 (fun w' => w'.cell? ⟨w.heap.size, 0, none⟩ = some (.int .i64 rx) ∧ w'.cell? ⟨w.heap.size, 1, none⟩ = some (.int .i64 ry) ∧ w'.cell? ⟨w.heap.size, 2, none⟩ = some (.int .i64 rz))
          (first | exact ⟨d10, d11, d12⟩ | (go_keep; done) | exact ⟨c10, c11, c12⟩)
          (first
            | (go_at_call 65; refine (beyondF_calls _ _).mono ?_; rintro e w4 ⟨rfl, rfl⟩; have C1 := Lh ((h5.out.drew).alloc (.cells #[.int .i64 524288] 3)); have C2 := Lh ((h6.out.drew).alloc (.cells #[.int .i64 524288] 3)); obtain ⟨d10, d11, d12, g10, g11, g12⟩ := id C1.out)
            | (go_at_call 121; refine (beyond1_calls _ _ _ 524288 _ _ (by simp) (by decide) (by decide)).mono ?_; rintro e w5 ⟨rfl, hb5⟩; rw [hf]; have D1 := Lh (C1.out.below hb5); have D2 := Lh (C2.out.below hb5); obtain ⟨d10, d11, d12, g10, g11, g12⟩ := id D1.out))
        go_wp2
        go_roundg (2000000 - size3 (two3 ⟨rx, ry, rz⟩))
        case measure => exact e2.out
        case rel => exact ⟨two3 ⟨rx, ry, rz⟩, rfl, E1, e3, e4, D1.out.set _ _ _, D2.out.other (by omega) _ _ _, below_set3 (((h7.out.drew).alloc h7.out.size _).trans (hb5.mono (by have := h7.out.size; simp; omega))) (Nat.le_refl _) _ _ _⟩
      | true =>
        have e1 : dbl3 ⟨rx, ry, rz⟩ = ⟨rx, ry, rz⟩ := by rw [dbl3, dif_pos (.inl hf)]
        obtain rfl : D = ⟨rx, ry, rz⟩ := h2.out.symm.trans e1
        clear e1
        go_wp2
        go_region_held3 (fun w' => w'.cell? ⟨w.heap.size, 0, none⟩ = some (.int .i64 rx) ∧ w'.cell? ⟨w.heap.size, 1, none⟩ = some (.int .i64 ry) ∧ w'.cell? ⟨w.heap.size, 2, none⟩ = some (.int .i64 rz))
          (first | exact ⟨d10, d11, d12⟩ | (go_keep; done) | exact ⟨c10, c11, c12⟩)
          (first
            | (go_at_call 65; refine (beyondF_calls _ _).mono ?_; rintro e w4 ⟨rfl, rfl⟩; have C1 := Lh ((h5.out.drew).alloc (.cells #[.int .i64 524288] 3)); have C2 := Lh ((h6.out.drew).alloc (.cells #[.int .i64 524288] 3)); obtain ⟨d10, d11, d12, g10, g11, g12⟩ := id C1.out)
            | (go_at_call 121; refine (beyond1_calls _ _ _ 524288 _ _ (by simp) (by decide) (by decide)).mono ?_; rintro e w5 ⟨rfl, hb5⟩; rw [hf]; have D1 := Lh (C1.out.below hb5); have D2 := Lh (C2.out.below hb5); obtain ⟨d10, d11, d12, g10, g11, g12⟩ := id D1.out))
        obtain ⟨d20, d21, d22, g20, g21, g22⟩ := id D2.out
        go_wp2
        exact bodyPost_ret (v := .tuple #[.agg #[.int .i64 rx, .int .i64 ry, .int .i64 rz], .bool true]) (by simp [results, Try.results59, go_sem, d20, d21, d22]) rfl ⟨rfl, below_set3 (((h7.out.drew).alloc h7.out.size _).trans (hb5.mono (by have := h7.out.size; simp; omega))) (by omega) _ _ _⟩
end Go.Proofs.Ytckdhahceelckaa.G
namespace Go.Proofs.Ytckdhahceelckaa.G
open Go.RowKit Go.Proofs.YtckdhahceelckaaW.PrintWords Go.Proofs.YtckdhahceelckaaW.PrintLast Go.Proofs.YtckdhahceelckaaW.PrintMore
attribute [local go_sem] max2_mx min2_mn max_two min_two max_three min_three max_four min_four
attribute [local go_sem high] eqA23
set_option linter.unusedVariables false
set_option linter.unusedSimpArgs false
/-- a gap of s along a direction of those sizes -/
def gapV (s up down ra rb : Int) : Int := if 0 ≤ s then s / up - ra - rb else -((-s + down - 1) / down) - ra - rb
set_option maxHeartbeats 1000000 in
theorem gap1_calls (s up down ra rb : Int) (bu ba bb bd : Nat) (w : World) (h1 : w.cell? ⟨bu, 0, none⟩ = some (.int .i64 up)) (h2 : w.cell? ⟨ba, 3, none⟩ = some (.int .i64 ra)) (h3 : w.cell? ⟨bb, 3, none⟩ = some (.int .i64 rb)) (h4 : w.cell? ⟨bd, 0, none⟩ = some (.int .i64 down))
    (hs1 : -1125899906842624 ≤ s) (hs2 : s ≤ 1125899906842624) (hu1 : 1 ≤ up) (hu2 : up ≤ 1073741824) (hd1 : 1 ≤ down) (hd2 : down ≤ 1073741824) (ha1 : 0 ≤ ra) (ha2 : ra ≤ 131072) (hb1 : 0 ≤ rb) (hb2 : rb ≤ 131072) :
    Calls Try.prog 118 #[.int .i64 s, .pointer (some ⟨bu, 0, none⟩), .pointer (some ⟨ba, 0, none⟩), .pointer (some ⟨bb, 0, none⟩), .pointer (some ⟨bd, 0, none⟩)] w fun e w' => e = .returned (.int .i64 (gapV s up down ra rb)) ∧ Below w.heap.size w w' := by
  have e1 : (up == 0) = false := by simp; omega
  have e2 : (down == 0) = false := by simp; omega
  by_cases hs : 0 ≤ s
  · have hv : gapV s up down ra rb = s / up - ra - rb := if_pos hs
    rw [hv]
    clear hv
    have q1 : 0 ≤ s / up := Int.ediv_nonneg hs (by omega)
    have q2 : s / up ≤ s := Int.ediv_le_self _ hs
    have t1 : IntKind.i64.wrap (s.tdiv up) = s / up := by rw [Int.tdiv_eq_ediv_of_nonneg hs]; exact iw_id _ (by omega) (by omega)
    have t2 : IntKind.i64.wrap (s / up - ra) = s / up - ra := iw_id _ (by omega) (by omega)
    have t3 : IntKind.i64.wrap (s / up - ra - rb) = s / up - ra - rb := iw_id _ (by omega) (by omega)
    go_enter Try.func118, Try.ntmps118
    go_wp2
    go_quiet (fail)
    go_wp2
    go_ret
    exact ⟨rfl, pw_below_drewN (Below.refl _ w) _⟩
  · have hv : gapV s up down ra rb = -((-s + down - 1) / down) - ra - rb := if_neg hs
    rw [hv]
    clear hv
    have q0 : 0 ≤ -s + down - 1 := by omega
    have q1 : 0 ≤ (-s + down - 1) / down := Int.ediv_nonneg q0 (by omega)
    have q2 : (-s + down - 1) / down ≤ -s + down - 1 := Int.ediv_le_self _ q0
    have t0 : IntKind.i64.wrap (-s) = -s := iw_id _ (by omega) (by omega)
    have t0' : IntKind.i64.wrap (-s + down) = -s + down := iw_id _ (by omega) (by omega)
    have t0'' : IntKind.i64.wrap (-s + down - 1) = -s + down - 1 := iw_id _ (by omega) (by omega)
    have t1 : IntKind.i64.wrap ((-s + down - 1).tdiv down) = (-s + down - 1) / down := by rw [Int.tdiv_eq_ediv_of_nonneg q0]; exact iw_id _ (by omega) (by omega)
    have t1' : IntKind.i64.wrap (-((-s + down - 1) / down)) = -((-s + down - 1) / down) := iw_id _ (by omega) (by omega)
    have t2 : IntKind.i64.wrap (-((-s + down - 1) / down) - ra) = -((-s + down - 1) / down) - ra := iw_id _ (by omega) (by omega)
    have t3 : IntKind.i64.wrap (-((-s + down - 1) / down) - ra - rb) = -((-s + down - 1) / down) - ra - rb := iw_id _ (by omega) (by omega)
    have hs' : decide (0 ≤ s) = false := by simpa using hs
    have hs3 : s < 0 := by omega
    clear hs
    go_enter Try.func118, Try.ntmps118
    go_wp2
    go_quiet (fail)
    go_wp2
    go_ret
    exact ⟨rfl, pw_below_drewN (Below.refl _ w) _⟩
end Go.Proofs.Ytckdhahceelckaa.G
namespace Go.Proofs.Ytckdhahceelckaa.G
open Go.RowKit Go.Proofs.YtckdhahceelckaaW.PrintWords Go.Proofs.YtckdhahceelckaaW.PrintLast Go.Proofs.YtckdhahceelckaaW.PrintMore
attribute [local go_sem] max2_mx min2_mn max_two min_two max_three min_three max_four min_four
attribute [local go_sem high] eqA23
set_option linter.unusedVariables false
set_option linter.unusedSimpArgs false
theorem reachF_bd (n p0 : P3) (r : List P3) (M : Int) (h0 : -M ≤ dot3 n p0 ∧ dot3 n p0 ≤ M) (h : ∀ p ∈ r, -M ≤ dot3 n p ∧ dot3 n p ≤ M) : -M ≤ (reachF n p0 r).1 ∧ (reachF n p0 r).1 ≤ M ∧ -M ≤ (reachF n p0 r).2 ∧ (reachF n p0 r).2 ≤ M := by
  have gen : ∀ (l : List P3) (s : Int × Int), (∀ p ∈ l, -M ≤ dot3 n p ∧ dot3 n p ≤ M) → -M ≤ s.1 → s.1 ≤ M → -M ≤ s.2 → s.2 ≤ M → -M ≤ (l.foldl (rstep n) s).1 ∧ (l.foldl (rstep n) s).1 ≤ M ∧ -M ≤ (l.foldl (rstep n) s).2 ∧ (l.foldl (rstep n) s).2 ≤ M := by
    intro l
    induction l with
    | nil => intro s _ a b c d; exact ⟨a, b, c, d⟩
    | cons p l ih =>
      intro s hp a b c d
      have hp0 := hp p (by simp)
      obtain ⟨m1, m2, m3⟩ := mx_facts s.2 (dot3 n p)
      obtain ⟨k1, k2, k3⟩ := mn_facts s.1 (dot3 n p)
      rw [List.foldl_cons]
      exact ih _ (fun q hq => hp q (by simp [hq])) (by unfold rstep; simp only; omega) (by unfold rstep; simp only; omega) (by unfold rstep; simp only; omega) (by unfold rstep; simp only; omega)
  exact gen r _ h h0.1 h0.2 h0.1 h0.2
theorem fl3_pos (p : P3) (h : p ≠ ⟨0, 0, 0⟩) : 1 ≤ fl3 p := by
  have h1 : 1 ≤ dotI p p := by
    have a := sq_nonneg p.x
    have b := sq_nonneg p.y
    have c := sq_nonneg p.z
    have pos : ∀ x : Int, x ≠ 0 → 1 ≤ x * x := fun x hx => by
      rcases Int.lt_or_gt_of_ne hx with h | h
      · have := Int.mul_le_mul (show 1 ≤ -x by omega) (show 1 ≤ -x by omega) (by omega) (by omega); rw [Int.neg_mul_neg] at this; omega
      · have := Int.mul_le_mul (show 1 ≤ x by omega) (show 1 ≤ x by omega) (by omega) (by omega); omega
    unfold dotI
    by_cases hx : p.x = 0
    · by_cases hy : p.y = 0
      · have hz : p.z ≠ 0 := fun hz => h (by cases p; simp_all)
        have := pos _ hz; omega
      · have := pos _ hy; omega
    · have := pos _ hx; omega
  unfold fl3
  obtain ⟨_, h2⟩ := isq_spec (dotI p p).toNat
  rcases Nat.eq_zero_or_pos (isq (dotI p p).toNat) with h0 | h0
  · rw [h0] at h2; omega
  · omega
theorem fl3_le (p : P3) (h : in3 1048576 p) : fl3 p ≤ 16777216 := by
  have := dotI_bd p p 1048576 1048576 h h
  have h0 := dotI_self p
  obtain ⟨h1, _⟩ := isq_spec (dotI p p).toNat
  unfold fl3
  rcases Nat.lt_or_ge 16777216 (isq (dotI p p).toNat) with h3 | h3
  · have := Nat.mul_le_mul (show 16777216 ≤ isq (dotI p p).toNat by omega) (show 16777216 ≤ isq (dotI p p).toNat by omega); omega
  · omega
theorem ce3_bd (p : P3) : fl3 p ≤ ce3 p ∧ ce3 p ≤ fl3 p + 1 := by unfold ce3; split <;> omega
/-- the gaps of n and of the other way round -/
def gapsF (n a0 : P3) (ar : List P3) (ra : Int) (b0 : P3) (br : List P3) (rb : Int) : Int × Int :=
  (gapV ((reachF n b0 br).1 - (reachF n a0 ar).2) (ce3 n) (fl3 n) ra rb, gapV ((reachF n a0 ar).1 - (reachF n b0 br).2) (ce3 n) (fl3 n) ra rb)
set_option maxHeartbeats 2000000 in
set_option maxRecDepth 100000 in
theorem gaps_calls (a0 : P3) (ar : List P3) (b0 : P3) (br : List P3) (A0 A1 A2 B0 B1 B2 : Option Addr) (c0 n1 c1 n2 c2 d0 m1 d1 m2 d2 : Nat) (ra rb x y z : Int) (w : World)
    (hA : Rd w A0 (a0 :: ar)) (hB : Rd w B0 (b0 :: br)) (hc0 : ar.length + 1 ≤ c0) (hd0 : br.length + 1 ≤ d0) (hla : ar.length < 1000) (hlb : br.length < 1000)
    (hn : in3 1048576 ⟨x, y, z⟩) (hn0 : (⟨x, y, z⟩ : P3) ≠ ⟨0, 0, 0⟩) (hpa : ∀ p ∈ a0 :: ar, in3 16777216 p) (hpb : ∀ p ∈ b0 :: br, in3 16777216 p) (ha1 : 0 ≤ ra) (ha2 : ra ≤ 131072) (hb1 : 0 ≤ rb) (hb2 : rb ≤ 131072) :
    Calls Try.prog 60 #[.agg #[.slice A0 (ar.length + 1) c0, .slice A1 n1 c1, .slice A2 n2 c2, .int .i64 ra], .agg #[.slice B0 (br.length + 1) d0, .slice B1 m1 d1, .slice B2 m2 d2, .int .i64 rb], .agg #[.int .i64 x, .int .i64 y, .int .i64 z]] w
      fun e w' => e = .returned (.tuple #[.int .i64 (gapsF ⟨x, y, z⟩ a0 ar ra b0 br rb).1, .int .i64 (gapsF ⟨x, y, z⟩ a0 ar ra b0 br rb).2]) ∧ Below w.heap.size w w' := by
  have hdot : ∀ p, in3 16777216 p → -70368744177664 ≤ dot3 ⟨x, y, z⟩ p ∧ dot3 ⟨x, y, z⟩ p ≤ 70368744177664 := fun p hp => by
    have h1 := dot3_eq ⟨x, y, z⟩ p 1048576 16777216 hn hp (by decide)
    have h2 := dotI_bd ⟨x, y, z⟩ p 1048576 16777216 hn hp
    omega
  obtain ⟨u1, u2, u3, u4⟩ := reachF_bd ⟨x, y, z⟩ a0 ar 70368744177664 (hdot _ (hpa _ (by simp))) (fun p hp => hdot p (hpa p (by simp [hp])))
  obtain ⟨v1, v2, v3, v4⟩ := reachF_bd ⟨x, y, z⟩ b0 br 70368744177664 (hdot _ (hpb _ (by simp))) (fun p hp => hdot p (hpb p (by simp [hp])))
  have hs : sz3 ⟨x, y, z⟩ = (fl3 ⟨x, y, z⟩, ce3 ⟨x, y, z⟩) := by
    unfold sz3
    rw [(far3_iff 16777216 ⟨x, y, z⟩ (by decide) (by decide)).2 (by unfold in3 at *; simp only at *; omega)]; rfl
  have k1 := fl3_pos _ hn0
  have k2 := fl3_le _ hn
  obtain ⟨k3, k4⟩ := ce3_bd ⟨x, y, z⟩
  unfold gapsF
  obtain ⟨RA, hRA⟩ : ∃ R, reachF ⟨x, y, z⟩ a0 ar = R := ⟨_, rfl⟩
  obtain ⟨RB, hRB⟩ : ∃ R, reachF ⟨x, y, z⟩ b0 br = R := ⟨_, rfl⟩
  obtain ⟨fl, hfl⟩ : ∃ R, fl3 ⟨x, y, z⟩ = R := ⟨_, rfl⟩
  obtain ⟨ce, hce⟩ : ∃ R, ce3 ⟨x, y, z⟩ = R := ⟨_, rfl⟩
  rw [hRA] at u1 u2 u3 u4 ⊢
  rw [hRB] at v1 v2 v3 v4 ⊢
  rw [hfl] at k1 k2 k3 k4 hs ⊢
  rw [hce] at k3 k4 hs ⊢
  obtain ⟨la, ha⟩ := RA
  obtain ⟨lb, hb⟩ := RB
  dsimp only at u1 u2 u3 u4 v1 v2 v3 v4 ⊢
  have HRA := Lh hRA
  have HRB := Lh hRB
  have HS := Lh hs
  have RA := Lh hA
  have RB := Lh hB
  clear hRA hRB hfl hce hs hA hB hdot hpa hpb hn hn0
  obtain ⟨ca, hca⟩ : ∃ ca : Array Value, #[.slice A0 (ar.length + 1) c0, .slice A1 n1 c1, .slice A2 n2 c2, .int .i64 ra] = ca := ⟨_, rfl⟩
  obtain ⟨cb, hcb⟩ : ∃ cb : Array Value, #[.slice B0 (br.length + 1) d0, .slice B1 m1 d1, .slice B2 m2 d2, .int .i64 rb] = cb := ⟨_, rfl⟩
  have G0 : Hid ((((w.alloc (.cells ca 36)).alloc (.cells cb 36)).alloc (.cells #[.int .i64 x, .int .i64 y, .int .i64 z] 23)).heap[w.heap.size]? = some (.cells ca 36 (0, 0))) := blk_alloc (blk_alloc (heap_alloc_new w _) _) _
  have G1 : Hid ((((w.alloc (.cells ca 36)).alloc (.cells cb 36)).alloc (.cells #[.int .i64 x, .int .i64 y, .int .i64 z] 23)).heap[w.heap.size + 1]? = some (.cells cb 36 (0, 0))) := blk_alloc (by simpa using heap_alloc_new (w.alloc (.cells ca 36)) (.cells cb 36)) _
  have G2 : Hid (C3 (((w.alloc (.cells ca 36)).alloc (.cells cb 36)).alloc (.cells #[.int .i64 x, .int .i64 y, .int .i64 z] 23)) (w.heap.size + 2) (.int .i64 x) (.int .i64 y) (.int .i64 z)) := by
    have := C3.new ((w.alloc (.cells ca 36)).alloc (.cells cb 36)) (.int .i64 x) (.int .i64 y) (.int .i64 z) 23
    simp only [World.size_alloc] at this
    exact this
  rw [← hca, ← hcb] at G0 G1 G2
  clear hca hcb ca cb
  go_enter Try.func60, Try.ntmps60
  go_wp2_with fail
  refine (reach_calls a0 ar _ _ _ _ _ _ (((RA.out.alloc _).alloc _).alloc _) hc0 (by omega)).mono ?_
  rintro e w1 ⟨rfl, hb1⟩
  rw [HRA.out]
  have g0 := Lh (blk_below G0.out hb1)
  have g1 := Lh (blk_below G1.out hb1)
  have g2 := Lh (G2.out.below hb1)
  have a1 : w1.cell? ⟨w.heap.size + 1, 0, none⟩ = some (.slice B0 (br.length + 1) d0) := (blk_cell g1.out 0).trans rfl
  obtain ⟨c0, c1, c2, _, _, _⟩ := id g2.out
  have hB1 : Hid (Below w.heap.size w w1) := ((((Below.refl _ w).alloc (Nat.le_refl _) _).alloc (by simp) _).alloc (by simp; omega) _).trans (hb1.mono (by simp; omega))
  clear G0 G1 G2 hb1
  go_wp2_with fail
  refine (reach_calls b0 br _ _ _ _ _ _ (RB.out.below hB1.out) hd0 (by omega)).mono ?_
  rintro e w2 ⟨rfl, hb2⟩
  rw [HRB.out]
  have G0 := Lh (blk_below g0.out hb2)
  have G1 := Lh (blk_below g1.out hb2)
  have G2 := Lh (g2.out.below hb2)
  have hB2 : Hid (Below w.heap.size w w2) := bthen hB1.out hb2
  clear c0 c1 c2 a1 g0 g1 g2 hb2 hB1
  obtain ⟨c0, c1, c2, _, _, _⟩ := id G2.out
  go_wp2_with fail
  refine (sizes_calls _ _ _ _).mono ?_
  rintro e w3 ⟨rfl, hb3⟩
  rw [HS.out]
  have g0 := blk_below G0.out hb3
  have g1 := blk_below G1.out hb3
  have a2 : w3.cell? ⟨w.heap.size, 3, none⟩ = some (.int .i64 ra) := (blk_cell g0 3).trans rfl
  have a3 : w3.cell? ⟨w.heap.size + 1, 3, none⟩ = some (.int .i64 rb) := (blk_cell g1 3).trans rfl
  have z1 := blk_lt g0
  have z2 := blk_lt g1
  have hB3 : Hid (Below w.heap.size w w3) := bthen hB2.out hb3
  clear c0 c1 c2 g0 g1 G0 G1 G2 hb3 hB2
  have z3 : w.heap.size ≠ w3.heap.size := by omega
  have z4 : w.heap.size + 1 ≠ w3.heap.size := by omega
  have z5 : w.heap.size ≠ w3.heap.size + 1 := by omega
  have z6 : w.heap.size + 1 ≠ w3.heap.size + 1 := by omega
  go_wp2_with fail
  have b1 : ((w3.alloc (.cells #[.int .i64 fl] 3)).alloc (.cells #[.int .i64 ce] 3)).cell? ⟨w3.heap.size + 1, 0, none⟩ = some (.int .i64 ce) := by simp
  have b2 : ((w3.alloc (.cells #[.int .i64 fl] 3)).alloc (.cells #[.int .i64 ce] 3)).cell? ⟨w.heap.size, 3, none⟩ = some (.int .i64 ra) := by
    rw [World.cell?_alloc_lt _ _ _ (by simp; omega), World.cell?_alloc_lt _ _ _ (by omega)]; exact a2
  have b3 : ((w3.alloc (.cells #[.int .i64 fl] 3)).alloc (.cells #[.int .i64 ce] 3)).cell? ⟨w.heap.size + 1, 3, none⟩ = some (.int .i64 rb) := by
    rw [World.cell?_alloc_lt _ _ _ (by simp; omega), World.cell?_alloc_lt _ _ _ (by omega)]; exact a3
  have b4 : ((w3.alloc (.cells #[.int .i64 fl] 3)).alloc (.cells #[.int .i64 ce] 3)).cell? ⟨w3.heap.size, 0, none⟩ = some (.int .i64 fl) := by
    rw [World.cell?_alloc_lt _ _ _ (by simp)]; simp
  have hB4 : Hid (Below w.heap.size w ((w3.alloc (.cells #[.int .i64 fl] 3)).alloc (.cells #[.int .i64 ce] 3))) := (hB3.out.alloc hB3.out.size _).alloc (by have := hB3.out.size; simp; omega) _
  clear a2 a3 z1 z2 z3 z4 z5 z6 hB3
  generalize (w3.alloc (.cells #[.int .i64 fl] 3)).alloc (.cells #[.int .i64 ce] 3) = w4 at b1 b2 b3 b4 hB4 ⊢
  refine (gap1_calls _ ce fl ra rb _ _ _ _ _ b1 b2 b3 b4 (by omega) (by omega) (by omega) (by omega) (by omega) (by omega) ha1 ha2 hb1 hb2).mono ?_
  rintro e w5 ⟨rfl, hb5⟩
  obtain ⟨hc5, _⟩ := bcell hb5
  have d1 := (hc5 _ _ (World.block_lt_of_cell? w4 _ b1)).trans b1
  have d2 := (hc5 _ _ (World.block_lt_of_cell? w4 _ b2)).trans b2
  have d3 := (hc5 _ _ (World.block_lt_of_cell? w4 _ b3)).trans b3
  have d4 := (hc5 _ _ (World.block_lt_of_cell? w4 _ b4)).trans b4
  have hB5 : Hid (Below w.heap.size w w5) := bthen hB4.out hb5
  clear hc5 b1 b2 b3 b4 hb5 hB4
  go_wp2_with fail
  refine (gap1_calls _ ce fl ra rb _ _ _ _ _ d1 d2 d3 d4 (by omega) (by omega) (by omega) (by omega) (by omega) (by omega) ha1 ha2 hb1 hb2).mono ?_
  rintro e w6 ⟨rfl, hb6⟩
  have hB6 : Hid (Below w.heap.size w w6) := bthen hB5.out hb6
  go_wp2
  go_ret2
  exact ⟨rfl, hB6.out⟩
end Go.Proofs.Ytckdhahceelckaa.G
namespace Go.Proofs.Ytckdhahceelckaa.G
open Go.RowKit Go.Proofs.YtckdhahceelckaaW.PrintWords Go.Proofs.YtckdhahceelckaaW.PrintLast Go.Proofs.YtckdhahceelckaaW.PrintMore
attribute [local go_sem] max2_mx min2_mn max_two min_two max_three min_three max_four min_four
attribute [local go_sem high] eqA23
set_option linter.unusedVariables false
set_option linter.unusedSimpArgs false
def mayF (p a e : List P3) (r : Int) : Bool := decide (0 < p.length) && decide (p.length ≤ 32) && decide (a.length ≤ 128) && decide (e.length ≤ 128) && decide (0 ≤ r) && decide (r ≤ 65536) && !p.any (far3 16777216) && !a.any (far3 1048576) && !e.any (far3 1048576)
theorem beyondE_calls (n : Int) (w : World) :
    Calls Try.prog 65 #[.int .i64 n] w fun e w' => ∃ g : Nat, e = .returned (.func (.func 121) #[] #[.pointer (some ⟨g, 0, none⟩)]) ∧ w'.cell? ⟨g, 0, none⟩ = some (.int .i64 n) ∧ Below w.heap.size w w' :=
  (beyondF_calls n w).mono fun e w' ⟨he, hw⟩ => ⟨w.heap.size, he, by rw [← hw]; simp, by rw [← hw]; exact (Below.refl _ w).alloc (Nat.le_refl _) _⟩
theorem contains_calls' (l : List P3) (m : Nat) (A : Option Addr) (c : Nat) (n : Int) (B : Nat) (v : Bool) (w : World) (hl : l.length = m) (hv : l.any (far3 n) = v) (hr : Rd w A l) (hc : m ≤ c) (hm : m < 9223372036854775807) (hB : w.cell? ⟨B, 0, none⟩ = some (.int .i64 n)) (hn1 : 0 ≤ n) (hn2 : n ≤ 9223372036854775807) :
    Calls Try.prog 68 #[.slice A m c, .func (.func 121) #[] #[.pointer (some ⟨B, 0, none⟩)]] w fun e w' => e = .returned (.bool v) ∧ Below w.heap.size w w' := by
  subst hl; subst hv; exact contains_calls l A c n B w hr hc hm hB hn1 hn2
set_option maxHeartbeats 2000000 in
set_option maxRecDepth 100000 in
theorem may_yes (p a e : List P3) (r : Int) (A0 A1 A2 : Option Addr) (c0 c1 c2 : Nat) (w : World) (h0 : Rd w A0 p) (h1 : Rd w A1 a) (h2 : Rd w A2 e) (k0 : p.length ≤ c0) (k1 : a.length ≤ c1) (k2 : e.length ≤ c2) (B : Bool) (F : Bool) (G : Bool)
    (hp1 : 0 < p.length) (hp2 : p.length ≤ 32) (ha : a.length ≤ 128) (he : e.length ≤ 128) (hr1 : 0 ≤ r) (hr2 : r ≤ 65536) (hF : p.any (far3 16777216) = false) (hG : a.any (far3 1048576) = false) (hB : e.any (far3 1048576) = B) :
    Calls Try.prog 57 #[.agg #[.slice A0 p.length c0, .slice A1 a.length c1, .slice A2 e.length c2, .int .i64 r]] w fun e w' => e = .returned (.bool !B) ∧ Below w.heap.size w w' := by
  have H0 := Lh h0
  have H1 := Lh h1
  have H2 := Lh h2
  have HF := Lh hF
  have HG := Lh hG
  have HB := Lh hB
  clear h0 h1 h2 hF hG hB
  obtain ⟨np, hnp⟩ : ∃ n, p.length = n := ⟨_, rfl⟩
  obtain ⟨na, hna⟩ : ∃ n, a.length = n := ⟨_, rfl⟩
  obtain ⟨ne, hne⟩ : ∃ n, e.length = n := ⟨_, rfl⟩
  rw [hnp] at hp1 hp2 k0 ⊢
  rw [hna] at ha k1 ⊢
  rw [hne] at he k2 ⊢
  have HNP := Lh hnp
  have HNA := Lh hna
  have HNE := Lh hne
  clear hnp hna hne
  have t1 : decide ((0 : Int) < (np : Int)) = true := by simp; omega
  have t2 : decide ((np : Int) ≤ 32) = true := by simp; omega
  have t3 : decide (mx (na : Int) (ne : Int) ≤ 128) = true := by simp [mx]; split <;> omega
  have t4 : decide (0 ≤ r) = true := by simp; omega
  have t5 : decide (r ≤ 65536) = true := by simp; omega
  go_enter Try.func57, Try.ntmps57
  go_wp2
  obtain ⟨ca, hca⟩ : ∃ ca : Array Value, #[.slice A0 np c0, .slice A1 na c1, .slice A2 ne c2, .int .i64 r] = ca := ⟨_, rfl⟩
  have G0 : Hid ((w.alloc (.cells ca 36)).drew.heap[w.heap.size]? = some (.cells ca 36 (0, 0))) := heap_alloc_new w _
  have R0 : Hid (Below w.heap.size w (w.alloc (.cells ca 36)).drew) := ((Below.refl _ w).alloc (Nat.le_refl _) _).drew
  rw [← hca] at G0 R0
  clear hca ca
  go_region_held3 (fun w' => w'.cell? ⟨w.heap.size, 0, none⟩ = some (.slice A0 np c0) ∧ w'.cell? ⟨w.heap.size, 1, none⟩ = some (.slice A1 na c1) ∧ w'.cell? ⟨w.heap.size, 2, none⟩ = some (.slice A2 ne c2) ∧ w'.cell? ⟨w.heap.size, 3, none⟩ = some (.int .i64 r))
    (first | exact ⟨(blk_cell g0.out 0).trans rfl, (blk_cell g0.out 1).trans rfl, (blk_cell g0.out 2).trans rfl, (blk_cell g0.out 3).trans rfl⟩ | (go_keep; done))
    (first
      | (go_at_call 65; (try clear g0); (try clear hg); refine (beyondE_calls _ _).mono ?_; rintro e w1 ⟨g, rfl, hg, hb1⟩; have g0 := Lh (blk_below G0.out hb1); have r0 := Lh (bthen R0.out hb1); clear G0 R0 hb1; have G0 := g0; have R0 := r0; clear r0)
      | (go_at_call_of 68 A0; (try clear g0); refine (contains_calls' p _ _ _ 16777216 _ false _ HNP.out HF.out (H0.out.below R0.out) k0 (by omega) hg (by decide) (by decide)).mono ?_; rintro e w1 ⟨rfl, hb1⟩; have g0 := Lh (blk_below G0.out hb1); have r0 := Lh (bthen R0.out hb1); clear G0 R0 hb1; have G0 := g0; have R0 := r0; clear r0)
      | (go_at_call_of 68 A1; (try clear g0); refine (contains_calls' a _ _ _ 1048576 _ false _ HNA.out HG.out (H1.out.below R0.out) k1 (by omega) hg (by decide) (by decide)).mono ?_; rintro e w1 ⟨rfl, hb1⟩; have g0 := Lh (blk_below G0.out hb1); have r0 := Lh (bthen R0.out hb1); clear G0 R0 hb1; have G0 := g0; have R0 := r0; clear r0)
      | (go_at_call_of 68 A2; (try clear g0); refine (contains_calls' e _ _ _ 1048576 _ B _ HNE.out HB.out (H2.out.below R0.out) k2 (by omega) hg (by decide) (by decide)).mono ?_; rintro e w1 ⟨rfl, hb1⟩; have g0 := Lh (blk_below G0.out hb1); have r0 := Lh (bthen R0.out hb1); clear G0 R0 hb1; have G0 := g0; have R0 := r0; clear r0))
  go_wp2
  go_ret
  exact ⟨rfl, R0.out⟩
end Go.Proofs.Ytckdhahceelckaa.G
namespace Go.Proofs.Ytckdhahceelckaa.G
open Go.RowKit Go.Proofs.YtckdhahceelckaaW.PrintWords Go.Proofs.YtckdhahceelckaaW.PrintLast Go.Proofs.YtckdhahceelckaaW.PrintMore
attribute [local go_sem] max2_mx min2_mn max_two min_two max_three min_three max_four min_four
attribute [local go_sem high] eqA23
set_option linter.unusedVariables false
set_option linter.unusedSimpArgs false
open Go.Shelf
attribute [local go_sem] Oper.semAt_some
/-- one round of the search for the best way; the whole -/
def apStep (a0 : P3) (ar : List P3) (ra : Int) (b0 : P3) (br : List P3) (rb : Int) (s : (P3 × Int) × Bool) (n : P3) : (P3 × Int) × Bool :=
  if long3 n = ⟨0, 0, 0⟩ then s else
    let g := gapsF (long3 n) a0 ar ra b0 br rb
    let o := if s.2 = true ∨ s.1.2 < g.1 then (long3 n, g.1) else s.1
    (if o.2 < g.2 then (minus3 ⟨0, 0, 0⟩ (long3 n), g.2) else o, false)
def apF (a0 : P3) (ar : List P3) (ra : Int) (b0 : P3) (br : List P3) (rb : Int) (l : List P3) : (P3 × Int) × Bool :=
  l.foldl (apStep a0 ar ra b0 br rb) ((⟨0, 0, 1048576⟩, -ra - rb), true)
theorem apF_snoc (a0 : P3) (ar : List P3) (ra : Int) (b0 : P3) (br : List P3) (rb : Int) (l : List P3) (x : P3) : apF a0 ar ra b0 br rb (l ++ [x]) = apStep a0 ar ra b0 br rb (apF a0 ar ra b0 br rb l) x := by simp [apF]
def enc3 (p : P3) : Array Value := #[.agg #[.int .i64 p.x, .int .i64 p.y, .int .i64 p.z]]
/-- ways' function value stops -/
theorem ways_stops (n : Nat) (hn : 3 ≤ n) (bo bf ga gb : Nat) (pa aa ea pb ab eb : List P3) (A0 A1 A2 B0 B1 B2 : Option Addr) (c0 c1 c2 d0 d1 d2 : Nat) (ra rb : Int) (W : World)
    (hga : W.heap[ga]? = some (.cells #[.slice A0 pa.length c0, .slice A1 aa.length c1, .slice A2 ea.length c2, .int .i64 ra] 36 (0, 0)))
    (hgb : W.heap[gb]? = some (.cells #[.slice B0 pb.length d0, .slice B1 ab.length d1, .slice B2 eb.length d2, .int .i64 rb] 36 (0, 0)))
    (R0 : Hid (RdX bo bf W A0 pa)) (R1 : Hid (RdX bo bf W A1 aa)) (R2 : Hid (RdX bo bf W A2 ea)) (S0 : Hid (RdX bo bf W B0 pb)) (S1 : Hid (RdX bo bf W B1 ab)) (S2 : Hid (RdX bo bf W B2 eb)) (hl1 : aa.length ≤ 40000) (hl2 : ab.length ≤ 40000) (hl3 : ea.length ≤ 40000) (hl4 : eb.length ≤ 40000) (hl5 : pa.length ≤ 40000) (hl6 : pb.length ≤ 40000)
    (hga1 : ga ≠ bo) (hga2 : ga ≠ bf) (hgb1 : gb ≠ bo) (hgb2 : gb ≠ bf) (hbo : bo < W.heap.size) (hbf : bf < W.heap.size) :
    SeqStopsK Fence.wide n Try.prog 115 #[.pointer (some ⟨ga, 0, none⟩), .pointer (some ⟨gb, 0, none⟩)] enc3 (KpX bo bf) (fun ys => ys = rawC pa aa ea pb ab eb) (fun pre => pre <+: rawC pa aa ea pb ab eb) (rawC pa aa ea pb ab eb).length W := by
  intro l J Jx W1 hW hJ hJx hY h0
  have KW : KpX bo bf W W1 := KpX.of_below hW
  have hs := hW.size
  exact ways1_in n hn l bo bf ga gb pa aa ea pb ab eb A0 A1 A2 B0 B1 B2 c0 c1 c2 d0 d1 d2 ra rb J Jx W1 hJ hJx hY (heap_keep hga KW hga1 hga2) (heap_keep hgb KW hgb1 hgb2) (R0.out.keep KW) (R1.out.keep KW) (R2.out.keep KW) (S0.out.keep KW) (S1.out.keep KW) (S2.out.keep KW) hl1 hl2 hl3 hl4 hl5 hl6 hga1 hga2 hgb1 hgb2 (by omega) (by omega) h0
set_option maxHeartbeats 1000000 in
theorem ways_calls (x0 x1 x2 x3 y0 y1 y2 y3 : Value) (w : World) :
    Calls Try.prog 58 #[.agg #[x0, x1, x2, x3], .agg #[y0, y1, y2, y3]] w fun e w' => e = .returned (.func (.func 115) #[] #[.pointer (some ⟨w.heap.size, 0, none⟩), .pointer (some ⟨w.heap.size + 1, 0, none⟩)]) ∧
      w' = (w.alloc (.cells #[x0, x1, x2, x3] 36)).alloc (.cells #[y0, y1, y2, y3] 36) := by
  go_enter Try.func58, Try.ntmps58
  go_wp2
  go_ret
  exact ⟨rfl, rfl⟩
/-- a block of four cells -/
theorem blk4_set {W : World} {g : Nat} {a b c d : Value} {t : TypeId} (h : W.heap[g]? = some (.cells #[a, b, c, d] t (0, 0))) (x y z u : Value) :
    ((((W.setCell ⟨g, 0, none⟩ x).setCell ⟨g, 1, none⟩ y).setCell ⟨g, 2, none⟩ z).setCell ⟨g, 3, none⟩ u).heap[g]? = some (.cells #[x, y, z, u] t (0, 0)) := by
  obtain ⟨hlt, hk⟩ := Array.getElem?_eq_some_iff.1 h
  simp [World.setCell, Array.getElem?_modify, h]
theorem blk4_own {β : Type} (g : Nat) (cs : β → Array Value) (t : TypeId) : Own (fun s W => W.heap[g]? = some (.cells (cs s) t (0, 0))) := fun s X Y row hs hg hrow =>
  (hg.block g (Array.getElem?_eq_some_iff.1 hs).1 (fun e' => by obtain ⟨o, ho, hc⟩ := hrow g e'.symm; rw [show X.heap[g]? = _ from hs] at ho; cases ho; cases hc)).trans hs
end Go.Proofs.Ytckdhahceelckaa.G
namespace Go.Proofs.Ytckdhahceelckaa.G
open Go.RowKit Go.Proofs.YtckdhahceelckaaW.PrintWords Go.Proofs.YtckdhahceelckaaW.PrintLast Go.Proofs.YtckdhahceelckaaW.PrintMore
attribute [local go_sem] max2_mx min2_mn max_two min_two max_three min_three max_four min_four
attribute [local go_sem high] eqA23
set_option linter.unusedVariables false
set_option linter.unusedSimpArgs false
open Go.Shelf
attribute [local go_sem] Oper.semAt_some
/-- a slice of points that lies in this world -/
def RdB (w : World) (A : Option Addr) (l : List P3) : Prop := Rd w A l ∧ ∀ ad, A = some ad → ad.block < w.heap.size
theorem dbl3_in (p : P3) (h : in3 1048576 p) : in3 1048576 (dbl3 p) := by
  induction p using dbl3.induct with
  | case1 p h' => rw [dbl3, dif_pos h']; exact h
  | case2 p h' ih =>
    rw [dbl3, dif_neg h']
    apply ih
    have h1 : far3 524288 p = false := by simpa using fun e => h' (.inl e)
    have hi := (far3_iff _ _ (by decide) (by decide)).1 h1
    unfold in3 two3 at *
    simp only
    omega
theorem long3_in (p : P3) : in3 1048576 (long3 p) := dbl3_in _ (short3_in p)
theorem KpX.seto {bo bf : Nat} (W : World) (i : Nat) (v : Value) : KpX bo bf W (W.setCell ⟨bo, i, none⟩ v) :=
  ⟨by simp, fun k c t f _ h1 _ => Below.heap_setCell _ _ _ k h1⟩
theorem KpX.setf {bo bf : Nat} (W : World) (i : Nat) (v : Value) : KpX bo bf W (W.setCell ⟨bf, i, none⟩ v) :=
  ⟨by simp, fun k c t f _ _ h1 => Below.heap_setCell _ _ _ k h1⟩
abbrev set4 (w : World) (g : Nat) (x y z u : Value) : World := (((w.setCell ⟨g, 0, none⟩ x).setCell ⟨g, 1, none⟩ y).setCell ⟨g, 2, none⟩ z).setCell ⟨g, 3, none⟩ u
theorem KpX.set4 {bo bf : Nat} (W : World) (x y z u : Value) : KpX bo bf W (set4 W bo x y z u) := (((KpX.seto W 0 x).trans (KpX.seto _ 1 y)).trans (KpX.seto _ 2 z)).trans (KpX.seto _ 3 u)
theorem keeps_set4 (W : World) (g : Nat) (x y z u : Value) : KeepsOthers W (set4 W g x y z u) := (((KeepsOthers.setCell W _ x).trans (KeepsOthers.setCell _ _ y)).trans (KeepsOthers.setCell _ _ z)).trans (KeepsOthers.setCell _ _ u)
theorem heap_set4 (W : World) (g k : Nat) (h : k ≠ g) (x y z u : Value) : (set4 W g x y z u).heap[k]? = W.heap[k]? :=
  (Below.heap_setCell _ _ _ k h).trans ((Below.heap_setCell _ _ _ k h).trans ((Below.heap_setCell _ _ _ k h).trans (Below.heap_setCell _ _ _ k h)))
theorem below_set4 {B : Nat} {a w : World} (h : Below B a w) {g : Nat} (hg : B ≤ g) (x y z u : Value) : Below B a (set4 w g x y z u) := (((h.setCell (p := ⟨g, 0, none⟩) hg x).setCell (p := ⟨g, 1, none⟩) hg y).setCell (p := ⟨g, 2, none⟩) hg z).setCell (p := ⟨g, 3, none⟩) hg u
theorem three0 (w : World) (o1 o2 o3 : Obj) : (((w.alloc o1).alloc o2).alloc o3).heap[w.heap.size]? = some o1 :=
  (Below.heap_alloc _ _ _ (by simp; omega)).trans ((Below.heap_alloc _ _ _ (by simp)).trans (World.alloc_heap_new w o1))
theorem three1 (w : World) (o1 o2 o3 : Obj) : (((w.alloc o1).alloc o2).alloc o3).heap[w.heap.size + 1]? = some o2 :=
  (Below.heap_alloc _ _ _ (by simp)).trans (by have := World.alloc_heap_new (w.alloc o1) o2; rwa [World.size_alloc] at this)
theorem three2 (w : World) (o1 o2 o3 : Obj) : (((w.alloc o1).alloc o2).alloc o3).heap[w.heap.size + 2]? = some o3 := by
  have := World.alloc_heap_new ((w.alloc o1).alloc o2) o3; rwa [World.size_alloc, World.size_alloc] at this
set_option maxHeartbeats 4000000 in
set_option maxRecDepth 100000 in
theorem apart_in (n : Nat) (hn : 6 ≤ n) (a0 : P3) (ar aa ea : List P3) (ra : Int) (b0 : P3) (br ab eb : List P3) (rb : Int) (A0 A1 A2 B0 B1 B2 : Option Addr) (c0 c1 c2 d0 d1 d2 : Nat) (w : World)
    (hA0 : Hid (RdB w A0 (a0 :: ar))) (hA1 : Hid (RdB w A1 aa)) (hA2 : Hid (RdB w A2 ea)) (hB0 : Hid (RdB w B0 (b0 :: br))) (hB1 : Hid (RdB w B1 ab)) (hB2 : Hid (RdB w B2 eb))
    (k0 : ar.length + 1 ≤ c0) (k1 : aa.length ≤ c1) (k2 : ea.length ≤ c2) (m0 : br.length + 1 ≤ d0) (m1 : ab.length ≤ d1) (m2 : eb.length ≤ d2)
    (ap : ar.length + 1 ≤ 32) (aal : aa.length ≤ 128) (eal : ea.length ≤ 128) (bp : br.length + 1 ≤ 32) (abl : ab.length ≤ 128) (ebl : eb.length ≤ 128)
    (ra1 : 0 ≤ ra) (ra2 : ra ≤ 65536) (rb1 : 0 ≤ rb) (rb2 : rb ≤ 65536)
    (pA : (a0 :: ar).any (far3 16777216) = false) (pB : (b0 :: br).any (far3 16777216) = false) (xA : aa.any (far3 1048576) = false) (xB : ab.any (far3 1048576) = false) (eA : ea.any (far3 1048576) = false) (eB : eb.any (far3 1048576) = false)
    (R : (P3 × Int) × Bool) (hR : apF a0 ar ra b0 br rb (rawC (a0 :: ar) aa ea (b0 :: br) ab eb) = R) :
    CallsIn Fence.wide n Try.prog 20 #[.agg #[.slice A0 (ar.length + 1) c0, .slice A1 aa.length c1, .slice A2 ea.length c2, .int .i64 ra], .agg #[.slice B0 (br.length + 1) d0, .slice B1 ab.length d1, .slice B2 eb.length d2, .int .i64 rb]] w
      fun e w' => e = .returned (.tuple #[.agg #[.int .i64 R.1.1.x, .int .i64 R.1.1.y, .int .i64 R.1.1.z, .int .i64 R.1.2], .bool true]) ∧ Below w.heap.size w w' := by
  have h1 : 1 ≤ n := by omega
  refine callsIn_of_wp_marks Try.func20 rfl trivial ?_ rfl
  simp only [Try.ntmps20, List.size_toArray, List.length_cons, List.length_nil, Nat.reduceAdd, Nat.reduceSub, Array.replicate_succ, Array.replicate_zero, List.push_toArray, List.append_toArray, List.nil_append, List.cons_append]
  have Ha0 : (((w.alloc (.cells #[.slice A0 (ar.length + 1) c0, .slice A1 aa.length c1, .slice A2 ea.length c2, .int .i64 ra] 36)).alloc (.cells #[.slice B0 (br.length + 1) d0, .slice B1 ab.length d1, .slice B2 eb.length d2, .int .i64 rb] 36)).alloc (.cells #[.int .i64 0, .int .i64 0, .int .i64 0, .int .i64 0] 40)).heap[w.heap.size]? = some (.cells #[.slice A0 (ar.length + 1) c0, .slice A1 aa.length c1, .slice A2 ea.length c2, .int .i64 ra] 36 (0, 0)) := three0 _ _ _ _
  have Hb0 : (((w.alloc (.cells #[.slice A0 (ar.length + 1) c0, .slice A1 aa.length c1, .slice A2 ea.length c2, .int .i64 ra] 36)).alloc (.cells #[.slice B0 (br.length + 1) d0, .slice B1 ab.length d1, .slice B2 eb.length d2, .int .i64 rb] 36)).alloc (.cells #[.int .i64 0, .int .i64 0, .int .i64 0, .int .i64 0] 40)).heap[w.heap.size + 1]? = some (.cells #[.slice B0 (br.length + 1) d0, .slice B1 ab.length d1, .slice B2 eb.length d2, .int .i64 rb] 36 (0, 0)) := three1 _ _ _ _
  have Hr0 : (((w.alloc (.cells #[.slice A0 (ar.length + 1) c0, .slice A1 aa.length c1, .slice A2 ea.length c2, .int .i64 ra] 36)).alloc (.cells #[.slice B0 (br.length + 1) d0, .slice B1 ab.length d1, .slice B2 eb.length d2, .int .i64 rb] 36)).alloc (.cells #[.int .i64 0, .int .i64 0, .int .i64 0, .int .i64 0] 40)).heap[w.heap.size + 2]? = some (.cells #[.int .i64 0, .int .i64 0, .int .i64 0, .int .i64 0] 40 (0, 0)) := three2 _ _ _ _
  have HW3 : Below w.heap.size w (((w.alloc (.cells #[.slice A0 (ar.length + 1) c0, .slice A1 aa.length c1, .slice A2 ea.length c2, .int .i64 ra] 36)).alloc (.cells #[.slice B0 (br.length + 1) d0, .slice B1 ab.length d1, .slice B2 eb.length d2, .int .i64 rb] 36)).alloc (.cells #[.int .i64 0, .int .i64 0, .int .i64 0, .int .i64 0] 40)) := (((Below.refl _ w).alloc (Nat.le_refl _) _).alloc (by simp) _).alloc (by simp; omega) _
  gi_wp2_with fail
  obtain ⟨w3, hw3⟩ : ∃ w3, ((w.alloc (.cells #[.slice A0 (ar.length + 1) c0, .slice A1 aa.length c1, .slice A2 ea.length c2, .int .i64 ra] 36)).alloc (.cells #[.slice B0 (br.length + 1) d0, .slice B1 ab.length d1, .slice B2 eb.length d2, .int .i64 rb] 36)).alloc (.cells #[.int .i64 0, .int .i64 0, .int .i64 0, .int .i64 0] 40) = w3 := ⟨_, rfl⟩
  rw [hw3] at Ha0 Hb0 Hr0 HW3 ⊢
  clear hw3
  refine ⟨trivial, ?_⟩
  refine ((callsIn_wide (n := n - 1)).2 (may_yes (a0 :: ar) aa ea ra A0 A1 A2 c0 c1 c2 w3 (hA0.out.1.below HW3) (hA1.out.1.below HW3) (hA2.out.1.below HW3) k0 k1 k2 false false false (by simp) ap aal eal ra1 ra2 pA xA eA)).mono ?_
  rintro e w4 ⟨rfl, hb4⟩
  have Ha4 := (hb4.block _ (blk_lt Ha0)).trans Ha0
  have Hb4 := (hb4.block _ (blk_lt Hb0)).trans Hb0
  have Hr4 := (hb4.block _ (blk_lt Hr0)).trans Hr0
  have HW4 := bthen HW3 hb4
  clear Ha0 Hb0 Hr0 HW3 hb4
  have x0 : w4.cell? ⟨w.heap.size + 1, 0, none⟩ = some (.slice B0 (br.length + 1) d0) := (blk_cell Hb4 0).trans rfl
  have x1 : w4.cell? ⟨w.heap.size + 1, 1, none⟩ = some (.slice B1 ab.length d1) := (blk_cell Hb4 1).trans rfl
  have x2 : w4.cell? ⟨w.heap.size + 1, 2, none⟩ = some (.slice B2 eb.length d2) := (blk_cell Hb4 2).trans rfl
  have x3 : w4.cell? ⟨w.heap.size + 1, 3, none⟩ = some (.int .i64 rb) := (blk_cell Hb4 3).trans rfl
  gi_wp2_with fail
  refine ⟨trivial, ?_⟩
  refine ((callsIn_wide (n := n - 1)).2 (may_yes (b0 :: br) ab eb rb B0 B1 B2 d0 d1 d2 w4 (hB0.out.1.below HW4) (hB1.out.1.below HW4) (hB2.out.1.below HW4) m0 m1 m2 false false false (by simp) bp abl ebl rb1 rb2 pB xB eB)).mono ?_
  rintro e w5 ⟨rfl, hb5⟩
  have Ha5 := (hb5.block _ (blk_lt Ha4)).trans Ha4
  have Hb5 := (hb5.block _ (blk_lt Hb4)).trans Hb4
  have Hr5 := (hb5.block _ (blk_lt Hr4)).trans Hr4
  have HW5 := bthen HW4 hb5
  clear Ha4 Hb4 Hr4 HW4 hb5 x0 x1 x2 x3
  have x0 : w5.cell? ⟨w.heap.size, 0, none⟩ = some (.slice A0 (ar.length + 1) c0) := (blk_cell Ha5 0).trans rfl
  have x1 : w5.cell? ⟨w.heap.size, 1, none⟩ = some (.slice A1 aa.length c1) := (blk_cell Ha5 1).trans rfl
  have x2 : w5.cell? ⟨w.heap.size, 2, none⟩ = some (.slice A2 ea.length c2) := (blk_cell Ha5 2).trans rfl
  have x3 : w5.cell? ⟨w.heap.size, 3, none⟩ = some (.int .i64 ra) := (blk_cell Ha5 3).trans rfl
  have y0 : w5.cell? ⟨w.heap.size + 1, 0, none⟩ = some (.slice B0 (br.length + 1) d0) := (blk_cell Hb5 0).trans rfl
  have y1 : w5.cell? ⟨w.heap.size + 1, 1, none⟩ = some (.slice B1 ab.length d1) := (blk_cell Hb5 1).trans rfl
  have y2 : w5.cell? ⟨w.heap.size + 1, 2, none⟩ = some (.slice B2 eb.length d2) := (blk_cell Hb5 2).trans rfl
  have y3 : w5.cell? ⟨w.heap.size + 1, 3, none⟩ = some (.int .i64 rb) := (blk_cell Hb5 3).trans rfl
  have e1 : IntKind.i64.wrap (-ra) = -ra := iw_id _ (by omega) (by omega)
  have e2 : IntKind.i64.wrap (-ra - rb) = -ra - rb := iw_id _ (by omega) (by omega)
  have za := blk_lt Ha5
  have zb := blk_lt Hb5
  have za' : w.heap.size < w5.heap.size + 1 := by omega
  have zb' : w.heap.size + 1 < w5.heap.size + 1 := by omega
  gi_wp2_with fail
  refine ⟨trivial, ?_⟩
  refine ((callsIn_wide (n := n - 1)).2 (ways_calls _ _ _ _ _ _ _ _ _)).mono ?_
  rintro e w6 ⟨rfl, hw6⟩
  have Ho6 : w6.heap[w5.heap.size]? = some (.cells #[.int .i64 0, .int .i64 0, .int .i64 1048576, .int .i64 (-ra - rb)] 40 (0, 0)) := by
    rw [hw6]; exact (Below.heap_alloc _ _ _ (by simp; omega)).trans (three0 _ _ _ _)
  have Hf6 : Boxed w6 (w5.heap.size + 1) 4 (.bool true) := by
    show w6.heap[_]? = _
    rw [hw6]; exact (Below.heap_alloc _ _ _ (by simp)).trans (three1 _ _ _ _)
  have Hc6 : w6.heap[w5.heap.size + 2]? = some (.cells #[.slice A0 (ar.length + 1) c0, .slice A1 aa.length c1, .slice A2 ea.length c2, .int .i64 ra] 36 (0, 0)) := by
    rw [hw6]; exact (Below.heap_alloc _ _ _ (by simp)).trans (three2 _ _ _ _)
  have Hd6 : w6.heap[w5.heap.size + 3]? = some (.cells #[.slice B0 (br.length + 1) d0, .slice B1 ab.length d1, .slice B2 eb.length d2, .int .i64 rb] 36 (0, 0)) := by
    rw [hw6]; have := three2 (w5.alloc (.cells #[.int .i64 0, .int .i64 0, .int .i64 1048576, .int .i64 (-ra - rb)] 40)) (.cells #[.bool true] 4) (.cells #[.slice A0 (ar.length + 1) c0, .slice A1 aa.length c1, .slice A2 ea.length c2, .int .i64 ra] 36) (.cells #[.slice B0 (br.length + 1) d0, .slice B1 ab.length d1, .slice B2 eb.length d2, .int .i64 rb] 36); rw [World.size_alloc] at this; exact this
  have hs6 : w6.heap.size = w5.heap.size + 4 := by rw [hw6]; simp
  have hb6 : Below w5.heap.size w5 w6 := by
    rw [hw6]; exact ((((Below.refl _ w5).alloc (Nat.le_refl _) _).alloc (by simp) _).alloc (by simp; omega) _).alloc (by simp; omega) _
  have Ha6 := (hb6.block _ (blk_lt Ha5)).trans Ha5
  have Hb6 := (hb6.block _ (blk_lt Hb5)).trans Hb5
  have Hr6 := (hb6.block _ (blk_lt Hr5)).trans Hr5
  have HW6 := bthen HW5 hb6
  have hws : w.heap.size + 2 < w5.heap.size := blk_lt Hr5
  have X0 : Hid (RdX w5.heap.size (w5.heap.size + 1) w6 A0 (a0 :: ar)) := ⟨hA0.out.1.below HW6, fun ad e => by have := hA0.out.2 ad e; omega⟩
  have X1 : Hid (RdX w5.heap.size (w5.heap.size + 1) w6 A1 aa) := ⟨hA1.out.1.below HW6, fun ad e => by have := hA1.out.2 ad e; omega⟩
  have X2 : Hid (RdX w5.heap.size (w5.heap.size + 1) w6 A2 ea) := ⟨hA2.out.1.below HW6, fun ad e => by have := hA2.out.2 ad e; omega⟩
  have Y0 : Hid (RdX w5.heap.size (w5.heap.size + 1) w6 B0 (b0 :: br)) := ⟨hB0.out.1.below HW6, fun ad e => by have := hB0.out.2 ad e; omega⟩
  have Y1 : Hid (RdX w5.heap.size (w5.heap.size + 1) w6 B1 ab) := ⟨hB1.out.1.below HW6, fun ad e => by have := hB1.out.2 ad e; omega⟩
  have Y2 : Hid (RdX w5.heap.size (w5.heap.size + 1) w6 B2 eb) := ⟨hB2.out.1.below HW6, fun ad e => by have := hB2.out.2 ad e; omega⟩
  have X0 : Hid (RdX w5.heap.size (w5.heap.size + 1) w6 A0 (a0 :: ar)) := ⟨hA0.out.1.below HW6, fun ad e => by have := hA0.out.2 ad e; omega⟩
  have X1 : Hid (RdX w5.heap.size (w5.heap.size + 1) w6 A1 aa) := ⟨hA1.out.1.below HW6, fun ad e => by have := hA1.out.2 ad e; omega⟩
  have X2 : Hid (RdX w5.heap.size (w5.heap.size + 1) w6 A2 ea) := ⟨hA2.out.1.below HW6, fun ad e => by have := hA2.out.2 ad e; omega⟩
  have Y0 : Hid (RdX w5.heap.size (w5.heap.size + 1) w6 B0 (b0 :: br)) := ⟨hB0.out.1.below HW6, fun ad e => by have := hB0.out.2 ad e; omega⟩
  have Y1 : Hid (RdX w5.heap.size (w5.heap.size + 1) w6 B1 ab) := ⟨hB1.out.1.below HW6, fun ad e => by have := hB1.out.2 ad e; omega⟩
  have Y2 : Hid (RdX w5.heap.size (w5.heap.size + 1) w6 B2 eb) := ⟨hB2.out.1.below HW6, fun ad e => by have := hB2.out.2 ad e; omega⟩
  clear hw6 hb6 Ha5 Hb5 Hr5 HW5 x0 x1 x2 x3 y0 y1 y2 y3 e1 e2
  gi_wp2_with fail
  refine wpIn_rangeFunc_ownH (Kp := KpX w5.heap.size (w5.heap.size + 1)) rfl h1 (gf := 115) (lb := #[.pointer (some ⟨w5.heap.size + 1 + 1, 0, none⟩), .pointer (some ⟨w5.heap.size + 1 + 1 + 1, 0, none⟩)]) rfl trivial (enters_of Try.func115 (by kernel_rfl) rfl)
    (ways_stops (n - 1) (by omega) w5.heap.size (w5.heap.size + 1) (w5.heap.size + 2) (w5.heap.size + 3) (a0 :: ar) aa ea (b0 :: br) ab eb A0 A1 A2 B0 B1 B2 c0 c1 c2 d0 d1 d2 ra rb w6 Hc6 Hd6 X0 X1 X2 Y0 Y1 Y2 (by omega) (by omega) (by omega) (by omega) (by simp; omega) (by simp; omega) (by omega) (by omega) (by omega) (by omega) (by omega) (by omega))
    KpX.trans (fun W l o o' _ hl ho _ => KpX.putObj hl ho) (Below.refl _ _) (fun _ => rfl)
    (fun pre W => ((W.heap[w5.heap.size]? = some (.cells #[.int .i64 (apF a0 ar ra b0 br rb pre).1.1.x, .int .i64 (apF a0 ar ra b0 br rb pre).1.1.y, .int .i64 (apF a0 ar ra b0 br rb pre).1.1.z, .int .i64 (apF a0 ar ra b0 br rb pre).1.2] 40 (0, 0)) ∧ Boxed W (w5.heap.size + 1) 4 (.bool (apF a0 ar ra b0 br rb pre).2)) ∧
      (W.heap[w.heap.size]? = some (.cells #[.slice A0 (ar.length + 1) c0, .slice A1 aa.length c1, .slice A2 ea.length c2, .int .i64 ra] 36 (0, 0)) ∧ W.heap[w.heap.size + 1]? = some (.cells #[.slice B0 (br.length + 1) d0, .slice B1 ab.length d1, .slice B2 eb.length d2, .int .i64 rb] 36 (0, 0)))) ∧
      (W.heap[w.heap.size + 2]? = some (.cells #[.int .i64 0, .int .i64 0, .int .i64 0, .int .i64 0] 40 (0, 0)) ∧ Below w.heap.size w W))
    (fun _ _ _ => False)
    (OwnFrom.and (OwnFrom.and (OwnFrom.and ((blk4_own _ (fun pre => #[.int .i64 (apF a0 ar ra b0 br rb pre).1.1.x, .int .i64 (apF a0 ar ra b0 br rb pre).1.1.y, .int .i64 (apF a0 ar ra b0 br rb pre).1.1.z, .int .i64 (apF a0 ar ra b0 br rb pre).1.2]) _).from _) ((boxed_own _ _ (fun pre => .bool (apF a0 ar ra b0 br rb pre).2)).from _)) (OwnFrom.and ((blk4_own _ _ _).from _) ((blk4_own _ _ _).from _))) (OwnFrom.and ((blk4_own _ _ _).from _) (ownFrom_below (Nat.le_refl _) (by omega))))
    (fun _ _ _ _ _ hs _ _ => hs)
    ⟨⟨⟨Ho6, Hf6⟩, Ha6, Hb6⟩, Hr6, HW6⟩
    (fun x a' W => ∃ Bx, w5.heap.size + 1 < Bx ∧ W.heap[Bx]? = some (.cells #[.int .i64 x.x, .int .i64 x.y, .int .i64 x.z] 23 (0, 0)) ∧ a' = { tmps := #[.agg #[.slice A0 (ar.length + 1) c0, .slice A1 aa.length c1, .slice A2 ea.length c2, .int .i64 ra], .agg #[.slice B0 (br.length + 1) d0, .slice B1 ab.length d1, .slice B2 eb.length d2, .int .i64 rb], .pointer (some ⟨w.heap.size, 0, none⟩), .pointer (some ⟨w.heap.size + 1, 0, none⟩), .pointer (some ⟨w.heap.size + 1 + 1, 0, none⟩), .bool false, .pointer (some ⟨w5.heap.size, 0, none⟩), .pointer (some ⟨w5.heap.size + 1, 0, none⟩), .pointer (some ⟨Bx, 0, none⟩), undef, undef, undef, undef, .agg #[.slice A0 (ar.length + 1) c0, .slice A1 aa.length c1, .slice A2 ea.length c2, .int .i64 ra], .bool true, .bool false, .bool false, .agg #[.slice B0 (br.length + 1) d0, .slice B1 ab.length d1, .slice B2 eb.length d2, .int .i64 rb], .bool true, .bool false, .bool false, undef, .agg #[.int .i64 0, .int .i64 0, .int .i64 1048576], .pointer (some ⟨w.heap.size, 3, none⟩), .int .i64 ra, .int .i64 (-ra), .pointer (some ⟨w.heap.size + 1, 3, none⟩), .int .i64 rb, .int .i64 (-ra - rb), .agg #[.int .i64 0, .int .i64 0, .int .i64 1048576, .int .i64 (-ra - rb)], .agg #[.slice A0 (ar.length + 1) c0, .slice A1 aa.length c1, .slice A2 ea.length c2, .int .i64 ra], .agg #[.slice B0 (br.length + 1) d0, .slice B1 ab.length d1, .slice B2 eb.length d2, .int .i64 rb], .func (.func 115) #[] #[.pointer (some ⟨w5.heap.size + 1 + 1, 0, none⟩), .pointer (some ⟨w5.heap.size + 1 + 1 + 1, 0, none⟩)], .agg #[.int .i64 x.x, .int .i64 x.y, .int .i64 x.z], undef, undef, undef, undef, undef, undef, undef, undef, undef, undef, undef, undef, undef, undef, undef, undef, undef, undef, undef, undef, undef, undef, undef, undef, undef, undef, undef, undef, undef, undef, undef, undef, undef, undef], defers := [] })
    (fun x a' _ X Y row hs hg hr => by obtain ⟨Bx, h1, h2, h3⟩ := hs; exact ⟨Bx, h1, blk4_own Bx (fun (_ : Unit) => #[.int .i64 x.x, .int .i64 x.y, .int .i64 x.z]) 23 () X Y row h2 hg (fun r e => (hr r e).2), h3⟩)
    ?assign ?body ?done ?stop
  case assign =>
    rintro l pre ⟨xx, xy, xz⟩ W K ⟨⟨⟨I1, I2⟩, I3, I4⟩, I5, I6⟩ hK
    have i1 : w5.heap.size + 1 < W.heap.size := blk_lt I2
    simp only [enc3]
    gi_wp2
    exact hK _ _ ((KeepsOthers.alloc _ _).from _) (KpX.of_below ((Below.refl _ W).alloc (Nat.le_refl _) _)) ⟨⟨⟨(Below.heap_alloc _ _ _ (by omega)).trans I1, I2.alloc _⟩, (Below.heap_alloc _ _ _ (by omega)).trans I3, (Below.heap_alloc _ _ _ (by omega)).trans I4⟩, (Below.heap_alloc _ _ _ (by omega)).trans I5, I6.alloc I6.size _⟩ ⟨W.heap.size, i1, World.alloc_heap_new W _, rfl⟩
  case body =>
    rintro l pre ⟨xx, xy, xz⟩ a' W hl ⟨r, hr⟩ ⟨⟨⟨I1, I2⟩, I3, I4⟩, I5, I6⟩ ⟨Bx, hBx, I7, rfl⟩ hlt
    dsimp only at I7
    have u0 : W.cell? ⟨Bx, 0, none⟩ = some (.int .i64 xx) := (blk_cell I7 0).trans rfl
    have u1 : W.cell? ⟨Bx, 1, none⟩ = some (.int .i64 xy) := (blk_cell I7 1).trans rfl
    have u2 : W.cell? ⟨Bx, 2, none⟩ = some (.int .i64 xz) := (blk_cell I7 2).trans rfl
    have HS := Lh (apF_snoc a0 ar ra b0 br rb pre ⟨xx, xy, xz⟩)
    obtain ⟨S, hS⟩ : ∃ S, apF a0 ar ra b0 br rb pre = S := ⟨_, rfl⟩
    rw [hS] at I1 I2 HS
    obtain ⟨S', hS'⟩ : ∃ S', apF a0 ar ra b0 br rb (pre ++ [⟨xx, xy, xz⟩]) = S' := ⟨_, rfl⟩
    rw [hS'] at HS
    have hSS := Lh hS'
    clear hS hS'
    obtain ⟨⟨⟨ox, oy, oz⟩, og⟩, first⟩ := S
    dsimp only at I1 I2
    gi_wp2_with fail
    refine ⟨trivial, fun h => (by cases h), ?_⟩
    refine (CallsIn.inRound l ((callsIn_wide (n := n - 1 - 1 - 1)).2 (lengthen_calls xx xy xz (decide (long3 ⟨xx, xy, xz⟩ ≠ ⟨0, 0, 0⟩)) W rfl))).mono ?_
    rintro e Wa ⟨rfl, hba⟩
    have i0 := blk_lt I5
    have J1 := (hba.block _ (blk_lt I1)).trans I1
    have J2 : Boxed Wa (w5.heap.size + 1) 4 (.bool first) := (hba.block _ (blk_lt I2)).trans I2
    have J3 := (hba.block _ (blk_lt I3)).trans I3
    have J4 := (hba.block _ (blk_lt I4)).trans I4
    have J5 := (hba.block _ (blk_lt I5)).trans I5
    have J6 := bthen I6 hba
    have KF : KeepsFrom w6.heap.size W Wa := ⟨hba.size, fun k o _ hk _ => (hba.block k (blk_lt hk)).trans hk⟩
    have KX : KpX w5.heap.size (w5.heap.size + 1) W Wa := KpX.of_below hba
    clear I1 I2 I3 I4 I5 I6 I7 u0 u1 u2 hba
    obtain ⟨nv, hnv⟩ : ∃ v, long3 ⟨xx, xy, xz⟩ = v := ⟨_, rfl⟩
    have hin : in3 1048576 nv := by rw [← hnv]; exact long3_in _
    have HS2 : Hid (S' = if nv = ⟨0, 0, 0⟩ then ((⟨ox, oy, oz⟩, og), first) else
        (if (if first = true ∨ og < (gapsF nv a0 ar ra b0 br rb).1 then (nv, (gapsF nv a0 ar ra b0 br rb).1) else (⟨ox, oy, oz⟩, og)).2 < (gapsF nv a0 ar ra b0 br rb).2 then (minus3 ⟨0, 0, 0⟩ nv, (gapsF nv a0 ar ra b0 br rb).2) else (if first = true ∨ og < (gapsF nv a0 ar ra b0 br rb).1 then (nv, (gapsF nv a0 ar ra b0 br rb).1) else (⟨ox, oy, oz⟩, og)), false)) := by
      show S' = _
      rw [HS.out]; unfold apStep; rw [hnv]
    rw [hnv]
    clear HS hnv
    have FIN : Hid (∀ (Wz : World) (px py pz g : Int) (f : Bool), S' = ((⟨px, py, pz⟩, g), f) → KeepsFrom w6.heap.size W Wz → KpX w5.heap.size (w5.heap.size + 1) W Wz →
        Wz.heap[w5.heap.size]? = some (.cells #[.int .i64 px, .int .i64 py, .int .i64 pz, .int .i64 g] 40 (0, 0)) → Boxed Wz (w5.heap.size + 1) 4 (.bool f) →
        Wz.heap[w.heap.size]? = some (.cells #[.slice A0 (ar.length + 1) c0, .slice A1 aa.length c1, .slice A2 ea.length c2, .int .i64 ra] 36 (0, 0)) → Wz.heap[w.heap.size + 1]? = some (.cells #[.slice B0 (br.length + 1) d0, .slice B1 ab.length d1, .slice B2 eb.length d2, .int .i64 rb] 36 (0, 0)) →
        Wz.heap[w.heap.size + 2]? = some (.cells #[.int .i64 0, .int .i64 0, .int .i64 0, .int .i64 0] 40 (0, 0)) → Below w.heap.size w Wz →
        KeepsFrom w6.heap.size W Wz ∧ KpX w5.heap.size (w5.heap.size + 1) W Wz ∧ (((Wz.heap[w5.heap.size]? = some (.cells #[.int .i64 (apF a0 ar ra b0 br rb (pre ++ [⟨xx, xy, xz⟩])).1.1.x, .int .i64 (apF a0 ar ra b0 br rb (pre ++ [⟨xx, xy, xz⟩])).1.1.y, .int .i64 (apF a0 ar ra b0 br rb (pre ++ [⟨xx, xy, xz⟩])).1.1.z, .int .i64 (apF a0 ar ra b0 br rb (pre ++ [⟨xx, xy, xz⟩])).1.2] 40 (0, 0)) ∧ Boxed Wz (w5.heap.size + 1) 4 (.bool (apF a0 ar ra b0 br rb (pre ++ [⟨xx, xy, xz⟩])).2)) ∧
      (Wz.heap[w.heap.size]? = some (.cells #[.slice A0 (ar.length + 1) c0, .slice A1 aa.length c1, .slice A2 ea.length c2, .int .i64 ra] 36 (0, 0)) ∧ Wz.heap[w.heap.size + 1]? = some (.cells #[.slice B0 (br.length + 1) d0, .slice B1 ab.length d1, .slice B2 eb.length d2, .int .i64 rb] 36 (0, 0)))) ∧
      (Wz.heap[w.heap.size + 2]? = some (.cells #[.int .i64 0, .int .i64 0, .int .i64 0, .int .i64 0] 40 (0, 0)) ∧ Below w.heap.size w Wz))) := by
      intro Wz px py pz g f hs a1 a2 a3 a4 a5 a6 a7 a8
      rw [hSS.out, hs]
      exact ⟨a1, a2, ⟨⟨a3, a4⟩, a5, a6⟩, a7, a8⟩
    clear hSS
    by_cases hz : nv = ⟨0, 0, 0⟩
    · have hS' : S' = ((⟨ox, oy, oz⟩, og), first) := by rw [HS2.out, if_pos hz]
      have hd : decide (nv ≠ ⟨0, 0, 0⟩) = false := by simpa using hz
      rw [hd]
      have HS' := Lh hS'
      clear hd HS2 hz hin hS'
      obtain ⟨nx, ny, nz⟩ := nv
      dsimp only
      gi_wp2
      refine FIN.out _ _ _ _ _ _ HS'.out (KF.trans ((KeepsOthers.alloc _ _).from _)) (KX.trans (KpX.of_below ((Below.refl _ _).alloc (Nat.le_refl _) _))) ?_ (J2.alloc _) ?_ ?_ ?_ (J6.alloc J6.size _)
      · exact (Below.heap_alloc _ _ _ (blk_lt J1)).trans J1
      · exact (Below.heap_alloc _ _ _ (blk_lt J3)).trans J3
      · exact (Below.heap_alloc _ _ _ (blk_lt J4)).trans J4
      · exact (Below.heap_alloc _ _ _ (blk_lt J5)).trans J5
    · have hd : decide (nv ≠ ⟨0, 0, 0⟩) = true := by simpa using hz
      rw [hd]
      obtain ⟨⟨g1, g2⟩, hg⟩ : ∃ g, gapsF nv a0 ar ra b0 br rb = g := ⟨_, rfl⟩
      have HS3 : Hid (S' = (if (if first = true ∨ og < g1 then (nv, g1) else (⟨ox, oy, oz⟩, og)).2 < g2 then (minus3 ⟨0, 0, 0⟩ nv, g2) else (if first = true ∨ og < g1 then (nv, g1) else (⟨ox, oy, oz⟩, og)), false)) := by
        show S' = _
        rw [HS2.out, if_neg hz, hg]
      clear hd HS2
      have p0 : Wa.cell? ⟨w.heap.size, 0, none⟩ = some (.slice A0 (ar.length + 1) c0) := (blk_cell J3 0).trans rfl
      have p1 : Wa.cell? ⟨w.heap.size, 1, none⟩ = some (.slice A1 aa.length c1) := (blk_cell J3 1).trans rfl
      have p2 : Wa.cell? ⟨w.heap.size, 2, none⟩ = some (.slice A2 ea.length c2) := (blk_cell J3 2).trans rfl
      have p3 : Wa.cell? ⟨w.heap.size, 3, none⟩ = some (.int .i64 ra) := (blk_cell J3 3).trans rfl
      have q0 : Wa.cell? ⟨w.heap.size + 1, 0, none⟩ = some (.slice B0 (br.length + 1) d0) := (blk_cell J4 0).trans rfl
      have q1 : Wa.cell? ⟨w.heap.size + 1, 1, none⟩ = some (.slice B1 ab.length d1) := (blk_cell J4 1).trans rfl
      have q2 : Wa.cell? ⟨w.heap.size + 1, 2, none⟩ = some (.slice B2 eb.length d2) := (blk_cell J4 2).trans rfl
      have q3 : Wa.cell? ⟨w.heap.size + 1, 3, none⟩ = some (.int .i64 rb) := (blk_cell J4 3).trans rfl
      have l3 := blk_lt J3
      have l4 := blk_lt J4
      obtain ⟨nx, ny, nz⟩ := nv
      dsimp only
      gi_wp2_with fail
      obtain ⟨Wb, hWb⟩ : ∃ Wb, Wa.alloc (.cells #[.int .i64 nx, .int .i64 ny, .int .i64 nz] 23) = Wb := ⟨_, rfl⟩
      have hbb : Below Wa.heap.size Wa Wb := by rw [← hWb]; exact (Below.refl _ _).alloc (Nat.le_refl _) _
      have hnb : Wb.heap[Wa.heap.size]? = some (.cells #[.int .i64 nx, .int .i64 ny, .int .i64 nz] 23 (0, 0)) := by rw [← hWb]; exact World.alloc_heap_new _ _
      rw [hWb]
      have HWb := bthen J6 hbb
      have allin : ∀ (l : List P3), l.any (far3 16777216) = false → ∀ p ∈ l, in3 16777216 p := fun l h p hp => by
        refine (far3_iff _ _ (by decide) (by decide)).1 ?_
        simp only [List.any_eq_false] at h
        simpa using h p hp
      refine ⟨trivial, fun h => (by cases h), ?_⟩
      refine (CallsIn.inRound l ((callsIn_wide (n := n - 1 - 1 - 1)).2 (gaps_calls a0 ar b0 br A0 A1 A2 B0 B1 B2 c0 _ c1 _ c2 d0 _ d1 _ d2 ra rb nx ny nz Wb (hA0.out.1.below HWb) (hB0.out.1.below HWb) k0 m0 (by omega) (by omega) hin hz (allin _ pA) (allin _ pB) ra1 (by omega) rb1 (by omega)))).mono ?_
      rw [hg]
      rintro e Wc ⟨rfl, hbc⟩
      have hac := bthen hbb hbc
      have K1 := (hac.block _ (blk_lt J1)).trans J1
      have K2 : Boxed Wc (w5.heap.size + 1) 4 (.bool first) := (hac.block _ (blk_lt J2)).trans J2
      have K3 := (hac.block _ (blk_lt J3)).trans J3
      have K4 := (hac.block _ (blk_lt J4)).trans J4
      have K5 := (hac.block _ (blk_lt J5)).trans J5
      have K6 := bthen J6 hac
      have Kn := (hbc.block _ (blk_lt hnb)).trans hnb
      have KFc : KeepsFrom w6.heap.size W Wc := KF.trans ⟨hac.size, fun k o _ hk _ => (hac.block k (blk_lt hk)).trans hk⟩
      have KXc : KpX w5.heap.size (w5.heap.size + 1) W Wc := KX.trans (KpX.of_below hac)
      have hbo := blk_lt K1
      have hsw := K6.size
      have i5 := blk_lt K5
      have nn0 : w5.heap.size ≠ Wa.heap.size := by have := blk_lt J1; omega
      have nn1 : w5.heap.size + 1 ≠ Wa.heap.size := by have := blk_lt J2; omega
      clear J1 J2 J3 J4 J5 J6 KF KX hbb hbc hnb hWb HWb hac p0 p1 p2 p3 q0 q1 q2 q3 l3 l4 allin hin hz hg
      have n0 : Wc.cell? ⟨Wa.heap.size, 0, none⟩ = some (.int .i64 nx) := (blk_cell Kn 0).trans rfl
      have n1 : Wc.cell? ⟨Wa.heap.size, 1, none⟩ = some (.int .i64 ny) := (blk_cell Kn 1).trans rfl
      have n2 : Wc.cell? ⟨Wa.heap.size, 2, none⟩ = some (.int .i64 nz) := (blk_cell Kn 2).trans rfl
      have bx0 : Wc.cell? ⟨w5.heap.size + 1, 0, none⟩ = some (.bool first) := K2.cell
      have bx1 : Wc.frozen? ⟨w5.heap.size + 1, 0, none⟩ = false := K2.frozen
      have o0 : Wc.cell? ⟨w5.heap.size, 0, none⟩ = some (.int .i64 ox) := (blk_cell K1 0).trans rfl
      have o1 : Wc.cell? ⟨w5.heap.size, 1, none⟩ = some (.int .i64 oy) := (blk_cell K1 1).trans rfl
      have o2 : Wc.cell? ⟨w5.heap.size, 2, none⟩ = some (.int .i64 oz) := (blk_cell K1 2).trans rfl
      have o3 : Wc.cell? ⟨w5.heap.size, 3, none⟩ = some (.int .i64 og) := (blk_cell K1 3).trans rfl
      have f0 : Wc.frozen? ⟨w5.heap.size, 0, none⟩ = false := blk_frozen K1 0
      have f1 : Wc.frozen? ⟨w5.heap.size, 1, none⟩ = false := blk_frozen K1 1
      have f2 : Wc.frozen? ⟨w5.heap.size, 2, none⟩ = false := blk_frozen K1 2
      have f3 : Wc.frozen? ⟨w5.heap.size, 3, none⟩ = false := blk_frozen K1 3
      by_cases hf : first = true ∨ og < g1
      · -- the way is better (or the first)
        rw [if_pos hf] at HS3
        dsimp only at HS3
        obtain ⟨V, hV⟩ : ∃ V, set4 Wc w5.heap.size (.int .i64 nx) (.int .i64 ny) (.int .i64 nz) (.int .i64 g1) = V := ⟨_, rfl⟩
        have L1 : V.heap[w5.heap.size]? = some (.cells #[.int .i64 nx, .int .i64 ny, .int .i64 nz, .int .i64 g1] 40 (0, 0)) := by rw [← hV]; exact blk4_set K1 _ _ _ _
        have L2 : Boxed V (w5.heap.size + 1) 4 (.bool first) := by show V.heap[_]? = _; rw [← hV]; exact (heap_set4 _ _ _ (by omega) _ _ _ _).trans K2
        have L3 := (show V.heap[w.heap.size]? = _ by rw [← hV]; exact heap_set4 _ _ _ (by omega) _ _ _ _).trans K3
        have L4 := (show V.heap[w.heap.size + 1]? = _ by rw [← hV]; exact heap_set4 _ _ _ (by omega) _ _ _ _).trans K4
        have L5 := (show V.heap[w.heap.size + 2]? = _ by rw [← hV]; exact heap_set4 _ _ _ (by omega) _ _ _ _).trans K5
        have L6 : Below w.heap.size w V := by rw [← hV]; exact below_set4 K6 (by omega) _ _ _ _
        have Ln := (show V.heap[Wa.heap.size]? = _ by rw [← hV]; exact heap_set4 _ _ _ (by omega) _ _ _ _).trans Kn
        have LKF : KeepsFrom w6.heap.size W V := by rw [← hV]; exact KFc.trans ((keeps_set4 _ _ _ _ _ _).from _)
        have LKX : KpX w5.heap.size (w5.heap.size + 1) W V := by rw [← hV]; exact KXc.trans (KpX.set4 _ _ _ _ _)
        have b2 : V.cell? ⟨w5.heap.size + 1, 0, none⟩ = some (.bool first) := L2.cell
        have b3 : V.frozen? ⟨w5.heap.size + 1, 0, none⟩ = false := L2.frozen
        clear K1 K2 K3 K4 K5 K6 Kn KFc KXc
        obtain ⟨V2, hV2⟩ : ∃ V2, V.setCell ⟨w5.heap.size + 1, 0, none⟩ (.bool false) = V2 := ⟨_, rfl⟩
        have M1 : V2.heap[w5.heap.size]? = some (.cells #[.int .i64 nx, .int .i64 ny, .int .i64 nz, .int .i64 g1] 40 (0, 0)) := by rw [← hV2]; exact (Below.heap_setCell _ _ _ _ (by simp)).trans L1
        have M2 : Boxed V2 (w5.heap.size + 1) 4 (.bool false) := by rw [← hV2]; exact L2.set _
        have M3 := (show V2.heap[w.heap.size]? = _ by rw [← hV2]; exact (Below.heap_setCell _ _ _ _ (by simp; omega))).trans L3
        have M4 := (show V2.heap[w.heap.size + 1]? = _ by rw [← hV2]; exact (Below.heap_setCell _ _ _ _ (by simp; omega))).trans L4
        have M5 := (show V2.heap[w.heap.size + 2]? = _ by rw [← hV2]; exact (Below.heap_setCell _ _ _ _ (by simp; omega))).trans L5
        have M6 : Below w.heap.size w V2 := by rw [← hV2]; exact L6.setCell (p := ⟨w5.heap.size + 1, 0, none⟩) (by simp; omega) _
        have Mn := (show V2.heap[Wa.heap.size]? = _ by rw [← hV2]; exact (Below.heap_setCell _ _ _ _ (by simp; omega))).trans Ln
        have MKF : KeepsFrom w6.heap.size W V2 := by rw [← hV2]; exact LKF.trans ((KeepsOthers.setCell _ _ _).from _)
        have MKX : KpX w5.heap.size (w5.heap.size + 1) W V2 := by rw [← hV2]; exact LKX.trans (KpX.setf _ _ _)
        have r0 : V2.cell? ⟨Wa.heap.size, 0, none⟩ = some (.int .i64 nx) := (blk_cell Mn 0).trans rfl
        have r1 : V2.cell? ⟨Wa.heap.size, 1, none⟩ = some (.int .i64 ny) := (blk_cell Mn 1).trans rfl
        have r2 : V2.cell? ⟨Wa.heap.size, 2, none⟩ = some (.int .i64 nz) := (blk_cell Mn 2).trans rfl
        have r3 : V2.cell? ⟨w5.heap.size, 3, none⟩ = some (.int .i64 g1) := (blk_cell M1 3).trans rfl
        clear L1 L2 L3 L4 L5 L6 Ln LKF LKX
        cases first with
        | true =>
          by_cases h2 : g1 < g2
          · have hd2 : decide (g1 < g2) = true := by simpa using h2
            rw [if_pos h2] at HS3
            have HS4 := Lh HS3
            clear HS3
            gi_wp2_with fail
            refine ⟨trivial, fun h => (by cases h), ?_⟩
            refine (CallsIn.inRound l ((callsIn_wide (n := n - 1 - 1 - 1)).2 (minus_calls 0 0 0 nx ny nz _))).mono ?_
            rintro e Vd ⟨rfl, hbd⟩
            obtain ⟨⟨tx, ty, tz⟩, hmn⟩ : ∃ t, minus3 ⟨0, 0, 0⟩ ⟨nx, ny, nz⟩ = t := ⟨_, rfl⟩
            rw [hmn]
            have HS5 : Hid (S' = ((⟨tx, ty, tz⟩, g2), false)) := by show S' = _; rw [HS4.out, hmn]
            clear HS4 hmn
            have N1 := (hbd.block _ (blk_lt M1)).trans M1
            have N2 : Boxed Vd (w5.heap.size + 1) 4 (.bool false) := (hbd.block _ (blk_lt M2)).trans M2
            have N3 := (hbd.block _ (blk_lt M3)).trans M3
            have N4 := (hbd.block _ (blk_lt M4)).trans M4
            have N5 := (hbd.block _ (blk_lt M5)).trans M5
            have N6 := bthen M6 hbd
            have NKF : KeepsFrom w6.heap.size W Vd := MKF.trans ⟨hbd.size, fun k o _ hk _ => (hbd.block k (blk_lt hk)).trans hk⟩
            have NKX : KpX w5.heap.size (w5.heap.size + 1) W Vd := MKX.trans (KpX.of_below hbd)
            clear r0 r1 r2 r3 M1 M2 M3 M4 M5 M6 Mn MKF MKX hbd hV2
            have s0 : Vd.cell? ⟨w5.heap.size, 0, none⟩ = some (.int .i64 nx) := (blk_cell N1 0).trans rfl
            have s1 : Vd.cell? ⟨w5.heap.size, 1, none⟩ = some (.int .i64 ny) := (blk_cell N1 1).trans rfl
            have s2 : Vd.cell? ⟨w5.heap.size, 2, none⟩ = some (.int .i64 nz) := (blk_cell N1 2).trans rfl
            have s3 : Vd.cell? ⟨w5.heap.size, 3, none⟩ = some (.int .i64 g1) := (blk_cell N1 3).trans rfl
            have q0 : Vd.frozen? ⟨w5.heap.size, 0, none⟩ = false := blk_frozen N1 0
            have q1 : Vd.frozen? ⟨w5.heap.size, 1, none⟩ = false := blk_frozen N1 1
            have q2 : Vd.frozen? ⟨w5.heap.size, 2, none⟩ = false := blk_frozen N1 2
            have q3 : Vd.frozen? ⟨w5.heap.size, 3, none⟩ = false := blk_frozen N1 3
            obtain ⟨V4, hV4⟩ : ∃ V4, set4 Vd w5.heap.size (.int .i64 tx) (.int .i64 ty) (.int .i64 tz) (.int .i64 g2) = V4 := ⟨_, rfl⟩
            gi_wp2
            (try rw [hV4])
            have P3 := (show V4.heap[w.heap.size]? = _ by rw [← hV4]; exact heap_set4 _ _ _ (by omega) _ _ _ _).trans N3
            have P4 := (show V4.heap[w.heap.size + 1]? = _ by rw [← hV4]; exact heap_set4 _ _ _ (by omega) _ _ _ _).trans N4
            have P5 := (show V4.heap[w.heap.size + 2]? = _ by rw [← hV4]; exact heap_set4 _ _ _ (by omega) _ _ _ _).trans N5
            exact FIN.out V4 _ _ _ _ _ HS5.out (by rw [← hV4]; exact NKF.trans ((keeps_set4 _ _ _ _ _ _).from _)) (by rw [← hV4]; exact NKX.trans (KpX.set4 _ _ _ _ _)) (by rw [← hV4]; exact blk4_set N1 _ _ _ _) (by show V4.heap[_]? = _; rw [← hV4]; exact (heap_set4 _ _ _ (by omega) _ _ _ _).trans N2) P3 P4 P5 (by rw [← hV4]; exact below_set4 N6 (by omega) _ _ _ _)
          · have hd2 : decide (g1 < g2) = false := by simpa using h2
            rw [if_neg h2] at HS3
            have HS4 := Lh HS3
            clear HS3
            gi_wp2
            exact FIN.out V2 _ _ _ _ _ HS4.out MKF MKX M1 M2 M3 M4 M5 M6
        | false =>
          have hd1 : decide (og < g1) = true := by simpa using hf
          by_cases h2 : g1 < g2
          · have hd2 : decide (g1 < g2) = true := by simpa using h2
            rw [if_pos h2] at HS3
            have HS4 := Lh HS3
            clear HS3
            gi_wp2_with fail
            refine ⟨trivial, fun h => (by cases h), ?_⟩
            refine (CallsIn.inRound l ((callsIn_wide (n := n - 1 - 1 - 1)).2 (minus_calls 0 0 0 nx ny nz _))).mono ?_
            rintro e Vd ⟨rfl, hbd⟩
            obtain ⟨⟨tx, ty, tz⟩, hmn⟩ : ∃ t, minus3 ⟨0, 0, 0⟩ ⟨nx, ny, nz⟩ = t := ⟨_, rfl⟩
            rw [hmn]
            have HS5 : Hid (S' = ((⟨tx, ty, tz⟩, g2), false)) := by show S' = _; rw [HS4.out, hmn]
            clear HS4 hmn
            have N1 := (hbd.block _ (blk_lt M1)).trans M1
            have N2 : Boxed Vd (w5.heap.size + 1) 4 (.bool false) := (hbd.block _ (blk_lt M2)).trans M2
            have N3 := (hbd.block _ (blk_lt M3)).trans M3
            have N4 := (hbd.block _ (blk_lt M4)).trans M4
            have N5 := (hbd.block _ (blk_lt M5)).trans M5
            have N6 := bthen M6 hbd
            have NKF : KeepsFrom w6.heap.size W Vd := MKF.trans ⟨hbd.size, fun k o _ hk _ => (hbd.block k (blk_lt hk)).trans hk⟩
            have NKX : KpX w5.heap.size (w5.heap.size + 1) W Vd := MKX.trans (KpX.of_below hbd)
            clear r0 r1 r2 r3 M1 M2 M3 M4 M5 M6 Mn MKF MKX hbd hV2
            have s0 : Vd.cell? ⟨w5.heap.size, 0, none⟩ = some (.int .i64 nx) := (blk_cell N1 0).trans rfl
            have s1 : Vd.cell? ⟨w5.heap.size, 1, none⟩ = some (.int .i64 ny) := (blk_cell N1 1).trans rfl
            have s2 : Vd.cell? ⟨w5.heap.size, 2, none⟩ = some (.int .i64 nz) := (blk_cell N1 2).trans rfl
            have s3 : Vd.cell? ⟨w5.heap.size, 3, none⟩ = some (.int .i64 g1) := (blk_cell N1 3).trans rfl
            have q0 : Vd.frozen? ⟨w5.heap.size, 0, none⟩ = false := blk_frozen N1 0
            have q1 : Vd.frozen? ⟨w5.heap.size, 1, none⟩ = false := blk_frozen N1 1
            have q2 : Vd.frozen? ⟨w5.heap.size, 2, none⟩ = false := blk_frozen N1 2
            have q3 : Vd.frozen? ⟨w5.heap.size, 3, none⟩ = false := blk_frozen N1 3
            obtain ⟨V4, hV4⟩ : ∃ V4, set4 Vd w5.heap.size (.int .i64 tx) (.int .i64 ty) (.int .i64 tz) (.int .i64 g2) = V4 := ⟨_, rfl⟩
            gi_wp2
            (try rw [hV4])
            have P3 := (show V4.heap[w.heap.size]? = _ by rw [← hV4]; exact heap_set4 _ _ _ (by omega) _ _ _ _).trans N3
            have P4 := (show V4.heap[w.heap.size + 1]? = _ by rw [← hV4]; exact heap_set4 _ _ _ (by omega) _ _ _ _).trans N4
            have P5 := (show V4.heap[w.heap.size + 2]? = _ by rw [← hV4]; exact heap_set4 _ _ _ (by omega) _ _ _ _).trans N5
            exact FIN.out V4 _ _ _ _ _ HS5.out (by rw [← hV4]; exact NKF.trans ((keeps_set4 _ _ _ _ _ _).from _)) (by rw [← hV4]; exact NKX.trans (KpX.set4 _ _ _ _ _)) (by rw [← hV4]; exact blk4_set N1 _ _ _ _) (by show V4.heap[_]? = _; rw [← hV4]; exact (heap_set4 _ _ _ (by omega) _ _ _ _).trans N2) P3 P4 P5 (by rw [← hV4]; exact below_set4 N6 (by omega) _ _ _ _)
          · have hd2 : decide (g1 < g2) = false := by simpa using h2
            rw [if_neg h2] at HS3
            have HS4 := Lh HS3
            clear HS3
            gi_wp2
            exact FIN.out V2 _ _ _ _ _ HS4.out MKF MKX M1 M2 M3 M4 M5 M6
      · obtain rfl : first = false := by simpa using fun e => hf (.inl e)
        have hd1 : decide (og < g1) = false := by simpa using fun e => hf (.inr e)
        rw [if_neg hf] at HS3
        dsimp only at HS3
        obtain ⟨V2, hV2⟩ : ∃ V2, Wc.setCell ⟨w5.heap.size + 1, 0, none⟩ (.bool false) = V2 := ⟨_, rfl⟩
        have M1 : V2.heap[w5.heap.size]? = some (.cells #[.int .i64 ox, .int .i64 oy, .int .i64 oz, .int .i64 og] 40 (0, 0)) := by rw [← hV2]; exact (Below.heap_setCell _ _ _ _ (by simp)).trans K1
        have M2 : Boxed V2 (w5.heap.size + 1) 4 (.bool false) := by rw [← hV2]; exact K2.set _
        have M3 := (show V2.heap[w.heap.size]? = _ by rw [← hV2]; exact (Below.heap_setCell _ _ _ _ (by simp; omega))).trans K3
        have M4 := (show V2.heap[w.heap.size + 1]? = _ by rw [← hV2]; exact (Below.heap_setCell _ _ _ _ (by simp; omega))).trans K4
        have M5 := (show V2.heap[w.heap.size + 2]? = _ by rw [← hV2]; exact (Below.heap_setCell _ _ _ _ (by simp; omega))).trans K5
        have M6 : Below w.heap.size w V2 := by rw [← hV2]; exact K6.setCell (p := ⟨w5.heap.size + 1, 0, none⟩) (by simp; omega) _
        have Mn := (show V2.heap[Wa.heap.size]? = _ by rw [← hV2]; exact (Below.heap_setCell _ _ _ _ (by simp; omega))).trans Kn
        have MKF : KeepsFrom w6.heap.size W V2 := by rw [← hV2]; exact KFc.trans ((KeepsOthers.setCell _ _ _).from _)
        have MKX : KpX w5.heap.size (w5.heap.size + 1) W V2 := by rw [← hV2]; exact KXc.trans (KpX.setf _ _ _)
        have r0 : V2.cell? ⟨Wa.heap.size, 0, none⟩ = some (.int .i64 nx) := (blk_cell Mn 0).trans rfl
        have r1 : V2.cell? ⟨Wa.heap.size, 1, none⟩ = some (.int .i64 ny) := (blk_cell Mn 1).trans rfl
        have r2 : V2.cell? ⟨Wa.heap.size, 2, none⟩ = some (.int .i64 nz) := (blk_cell Mn 2).trans rfl
        have r3 : V2.cell? ⟨w5.heap.size, 3, none⟩ = some (.int .i64 og) := (blk_cell M1 3).trans rfl
        clear K1 K2 K3 K4 K5 K6 Kn KFc KXc
        by_cases h2 : og < g2
        · have hd2 : decide (og < g2) = true := by simpa using h2
          rw [if_pos h2] at HS3
          have HS4 := Lh HS3
          clear HS3
          gi_wp2_with fail
          refine ⟨trivial, fun h => (by cases h), ?_⟩
          refine (CallsIn.inRound l ((callsIn_wide (n := n - 1 - 1 - 1)).2 (minus_calls 0 0 0 nx ny nz _))).mono ?_
          rintro e Vd ⟨rfl, hbd⟩
          obtain ⟨⟨tx, ty, tz⟩, hmn⟩ : ∃ t, minus3 ⟨0, 0, 0⟩ ⟨nx, ny, nz⟩ = t := ⟨_, rfl⟩
          rw [hmn]
          have HS5 : Hid (S' = ((⟨tx, ty, tz⟩, g2), false)) := by show S' = _; rw [HS4.out, hmn]
          clear HS4 hmn
          have N1 := (hbd.block _ (blk_lt M1)).trans M1
          have N2 : Boxed Vd (w5.heap.size + 1) 4 (.bool false) := (hbd.block _ (blk_lt M2)).trans M2
          have N3 := (hbd.block _ (blk_lt M3)).trans M3
          have N4 := (hbd.block _ (blk_lt M4)).trans M4
          have N5 := (hbd.block _ (blk_lt M5)).trans M5
          have N6 := bthen M6 hbd
          have NKF : KeepsFrom w6.heap.size W Vd := MKF.trans ⟨hbd.size, fun k o _ hk _ => (hbd.block k (blk_lt hk)).trans hk⟩
          have NKX : KpX w5.heap.size (w5.heap.size + 1) W Vd := MKX.trans (KpX.of_below hbd)
          clear r0 r1 r2 r3 M1 M2 M3 M4 M5 M6 Mn MKF MKX hbd hV2
          have s0 : Vd.cell? ⟨w5.heap.size, 0, none⟩ = some (.int .i64 ox) := (blk_cell N1 0).trans rfl
          have s1 : Vd.cell? ⟨w5.heap.size, 1, none⟩ = some (.int .i64 oy) := (blk_cell N1 1).trans rfl
          have s2 : Vd.cell? ⟨w5.heap.size, 2, none⟩ = some (.int .i64 oz) := (blk_cell N1 2).trans rfl
          have s3 : Vd.cell? ⟨w5.heap.size, 3, none⟩ = some (.int .i64 og) := (blk_cell N1 3).trans rfl
          have q0 : Vd.frozen? ⟨w5.heap.size, 0, none⟩ = false := blk_frozen N1 0
          have q1 : Vd.frozen? ⟨w5.heap.size, 1, none⟩ = false := blk_frozen N1 1
          have q2 : Vd.frozen? ⟨w5.heap.size, 2, none⟩ = false := blk_frozen N1 2
          have q3 : Vd.frozen? ⟨w5.heap.size, 3, none⟩ = false := blk_frozen N1 3
          obtain ⟨V4, hV4⟩ : ∃ V4, set4 Vd w5.heap.size (.int .i64 tx) (.int .i64 ty) (.int .i64 tz) (.int .i64 g2) = V4 := ⟨_, rfl⟩
          gi_wp2
          (try rw [hV4])
          have P3 := (show V4.heap[w.heap.size]? = _ by rw [← hV4]; exact heap_set4 _ _ _ (by omega) _ _ _ _).trans N3
          have P4 := (show V4.heap[w.heap.size + 1]? = _ by rw [← hV4]; exact heap_set4 _ _ _ (by omega) _ _ _ _).trans N4
          have P5 := (show V4.heap[w.heap.size + 2]? = _ by rw [← hV4]; exact heap_set4 _ _ _ (by omega) _ _ _ _).trans N5
          exact FIN.out V4 _ _ _ _ _ HS5.out (by rw [← hV4]; exact NKF.trans ((keeps_set4 _ _ _ _ _ _).from _)) (by rw [← hV4]; exact NKX.trans (KpX.set4 _ _ _ _ _)) (by rw [← hV4]; exact blk4_set N1 _ _ _ _) (by show V4.heap[_]? = _; rw [← hV4]; exact (heap_set4 _ _ _ (by omega) _ _ _ _).trans N2) P3 P4 P5 (by rw [← hV4]; exact below_set4 N6 (by omega) _ _ _ _)
        · have hd2 : decide (og < g2) = false := by simpa using h2
          rw [if_neg h2] at HS3
          have HS4 := Lh HS3
          clear HS3
          gi_wp2
          exact FIN.out V2 _ _ _ _ _ HS4.out MKF MKX M1 M2 M3 M4 M5 M6
  case done =>
    rintro D zs W hD rfl ⟨⟨⟨I1, I2⟩, I3, I4⟩, I5, I6⟩ hK
    rw [hR] at I1
    have u0 : W.cell? ⟨w5.heap.size, 0, none⟩ = some (.int .i64 R.1.1.x) := (blk_cell I1 0).trans rfl
    have u1 : W.cell? ⟨w5.heap.size, 1, none⟩ = some (.int .i64 R.1.1.y) := (blk_cell I1 1).trans rfl
    have u2 : W.cell? ⟨w5.heap.size, 2, none⟩ = some (.int .i64 R.1.1.z) := (blk_cell I1 2).trans rfl
    have u3 : W.cell? ⟨w5.heap.size, 3, none⟩ = some (.int .i64 R.1.2) := (blk_cell I1 3).trans rfl
    have v0 : W.cell? ⟨w.heap.size + 1 + 1, 0, none⟩ = some (.int .i64 0) := (blk_cell I5 0).trans rfl
    have v1 : W.cell? ⟨w.heap.size + 1 + 1, 1, none⟩ = some (.int .i64 0) := (blk_cell I5 1).trans rfl
    have v2 : W.cell? ⟨w.heap.size + 1 + 1, 2, none⟩ = some (.int .i64 0) := (blk_cell I5 2).trans rfl
    have v3 : W.cell? ⟨w.heap.size + 1 + 1, 3, none⟩ = some (.int .i64 0) := (blk_cell I5 3).trans rfl
    have f0 : W.frozen? ⟨w.heap.size + 1 + 1, 0, none⟩ = false := blk_frozen I5 0
    have f1 : W.frozen? ⟨w.heap.size + 1 + 1, 1, none⟩ = false := blk_frozen I5 1
    have f2 : W.frozen? ⟨w.heap.size + 1 + 1, 2, none⟩ = false := blk_frozen I5 2
    have f3 : W.frozen? ⟨w.heap.size + 1 + 1, 3, none⟩ = false := blk_frozen I5 3
    obtain ⟨W2, hW2⟩ : ∃ W2, (((W.setCell ⟨w.heap.size + 1 + 1, 0, none⟩ (.int .i64 R.1.1.x)).setCell ⟨w.heap.size + 1 + 1, 1, none⟩ (.int .i64 R.1.1.y)).setCell ⟨w.heap.size + 1 + 1, 2, none⟩ (.int .i64 R.1.1.z)).setCell ⟨w.heap.size + 1 + 1, 3, none⟩ (.int .i64 R.1.2) = W2 := ⟨_, rfl⟩
    have H2 : W2.heap[w.heap.size + 1 + 1]? = some (.cells #[.int .i64 R.1.1.x, .int .i64 R.1.1.y, .int .i64 R.1.1.z, .int .i64 R.1.2] 40 (0, 0)) := by rw [← hW2]; exact blk4_set I5 _ _ _ _
    have HD : W2.heap[D]? = some (.deferred (some [])) := by
      rw [← hW2, Below.heap_setCell _ _ _ _ (by simp; omega), Below.heap_setCell _ _ _ _ (by simp; omega), Below.heap_setCell _ _ _ _ (by simp; omega), Below.heap_setCell _ _ _ _ (by simp; omega)]; exact hK
    have HB : Below w.heap.size w W2 := by
      rw [← hW2]; exact (((I6.setCell (p := ⟨_, _, _⟩) (by simp; omega) _).setCell (p := ⟨_, _, _⟩) (by simp; omega) _).setCell (p := ⟨_, _, _⟩) (by simp; omega) _).setCell (p := ⟨_, _, _⟩) (by simp; omega) _
    gi_wp2
    (try rw [hW2])
    have hne : w.heap.size + 1 + 1 ≠ D := by omega
    obtain ⟨W3, hW3⟩ : ∃ W3, W2.putObj D (.deferred none) = W3 := ⟨_, rfl⟩
    have H3 : W3.heap[w.heap.size + 1 + 1]? = some (.cells #[.int .i64 R.1.1.x, .int .i64 R.1.1.y, .int .i64 R.1.1.z, .int .i64 R.1.2] 40 (0, 0)) := by rw [← hW3]; exact (World.putObj_heap_other hne).trans H2
    have HB3 : Below w.heap.size w W3 := by rw [← hW3]; exact HB.trans (belowK_b (w := w) (Nat.le_refl _) W2 D _ _ (by omega) HD rfl rfl)
    have t0 : W3.cell? ⟨w.heap.size + 1 + 1, 0, none⟩ = some (.int .i64 R.1.1.x) := (blk_cell H3 0).trans rfl
    have t1 : W3.cell? ⟨w.heap.size + 1 + 1, 1, none⟩ = some (.int .i64 R.1.1.y) := (blk_cell H3 1).trans rfl
    have t2 : W3.cell? ⟨w.heap.size + 1 + 1, 2, none⟩ = some (.int .i64 R.1.1.z) := (blk_cell H3 2).trans rfl
    have t3 : W3.cell? ⟨w.heap.size + 1 + 1, 3, none⟩ = some (.int .i64 R.1.2) := (blk_cell H3 3).trans rfl
    refine ⟨by simp, .inl ⟨_, _, rfl, run_takeDeferred HD, ?_⟩⟩
    rw [hW3]
    refine ⟨.tuple #[.agg #[.int .i64 R.1.1.x, .int .i64 R.1.1.y, .int .i64 R.1.1.z, .int .i64 R.1.2], .bool true], ?_, rfl, HB3⟩
    simp [results, Try.results20, go_sem, t0, t1, t2, t3]
  case stop =>
    rintro D c pre W _ _ h _
    exact h.elim
end Go.Proofs.Ytckdhahceelckaa.G
namespace Go.Proofs.Ytckdhahceelckaa.G
open Go.RowKit Go.Proofs.YtckdhahceelckaaW.PrintWords Go.Proofs.YtckdhahceelckaaW.PrintLast Go.Proofs.YtckdhahceelckaaW.PrintMore
attribute [local go_sem] max2_mx min2_mn max_two min_two max_three min_three max_four min_four
set_option linter.unusedVariables false
set_option linter.unusedSimpArgs false
/-- a work that is not Bad -/
def Wk (w : World) (g : Nat) : Prop := w.heap[g]? = some (.cells #[.bool false] 85 (0, 0))
theorem Wk.below {w w1 : World} {g : Nat} (h : Wk w g) (hb : Below w.heap.size w w1) : Wk w1 g := (hb.block _ (blk_lt h)).trans h
theorem Wk.cell {w : World} {g : Nat} (h : Wk w g) : w.cell? ⟨g, 0, none⟩ = some (.bool false) := (blk_cell h 0).trans rfl
theorem Wk.fz {w : World} {g : Nat} (h : Wk w g) : w.frozen? ⟨g, 0, none⟩ = false := blk_frozen h 0
theorem Wk.alloc {w : World} {g : Nat} (h : Wk w g) (o : Obj) : Wk (w.alloc o) g := h.below ((Below.refl _ w).alloc (Nat.le_refl _) o)
theorem Wk.new (w : World) : Wk (w.alloc (.cells #[.bool false] 85)) w.heap.size := heap_alloc_new w _
/-- the wide product of two vectors, in FX -/
def vdotF (a b : P3) : Int := dotI a b / 4294967296
def fits3 (a : P3) : Prop := fits a.x ∧ fits a.y ∧ fits a.z
theorem dotL3 (a b : P3) : dotL [a.x, a.y, a.z] [b.x, b.y, b.z] = dotI a b := by simp [dotL, dotI]; omega
abbrev aP (p : P3) : Value := .agg #[.int .i64 p.x, .int .i64 p.y, .int .i64 p.z]
set_option maxHeartbeats 2000000 in
theorem vdot_calls (g : Nat) (a b : P3) (w : World) (hg : Wk w g) (ha : fits3 a) (hb : fits3 b) (hs : (dotI a b).natAbs ≤ 4611686018427387902 * 4294967296) :
    Calls Try.prog 164 #[.pointer (some ⟨g, 0, none⟩), aP a, aP b] w fun e w' => e = .returned (.int .i64 (vdotF a b)) ∧ Below w.heap.size w w' := by
  obtain ⟨ax, ay, az⟩ := a
  obtain ⟨bx, cy, bz⟩ := b
  have HG := Lh hg
  have HF : Hid (∀ x ∈ [ax, ay, az], fits x) := Lh (by intro x hx; simp at hx; rcases hx with rfl | rfl | rfl; exact ha.1; exact ha.2.1; exact ha.2.2)
  have HF2 : Hid (∀ x ∈ [bx, cy, bz], fits x) := Lh (by intro x hx; simp at hx; rcases hx with rfl | rfl | rfl; exact hb.1; exact hb.2.1; exact hb.2.2)
  have e := dotL3 ⟨ax, ay, az⟩ ⟨bx, cy, bz⟩
  rw [← e] at hs
  have HS := Lh hs
  have HE : Hid (vdotF ⟨ax, ay, az⟩ ⟨bx, cy, bz⟩ = dotL [ax, ay, az] [bx, cy, bz] / 4294967296) := Lh (by unfold vdotF; rw [← e])
  clear hg ha hb hs e
  go_enter Try.func164, Try.ntmps164
  go_wp2_with fail
  refine (bare_w_calls _).mono ?_
  rintro e w1 ⟨rfl, hw1⟩
  have k0 : w1.cell? ⟨w.heap.size, 0, none⟩ = some (.int .i64 ax) ∧ w1.cell? ⟨w.heap.size, 1, none⟩ = some (.int .i64 ay) ∧ w1.cell? ⟨w.heap.size, 2, none⟩ = some (.int .i64 az) := by
    have h : w1.heap[w.heap.size]? = some (.cells #[.int .i64 ax, .int .i64 ay, .int .i64 az] 27 (0, 0)) := by rw [hw1]; exact three0 _ _ _ _
    exact ⟨(blk_cell h 0).trans rfl, (blk_cell h 1).trans rfl, (blk_cell h 2).trans rfl⟩
  have k1 : w1.cell? ⟨w.heap.size + 1, 0, none⟩ = some (.int .i64 bx) ∧ w1.cell? ⟨w.heap.size + 1, 1, none⟩ = some (.int .i64 cy) ∧ w1.cell? ⟨w.heap.size + 1, 2, none⟩ = some (.int .i64 bz) := by
    have h : w1.heap[w.heap.size + 1]? = some (.cells #[.int .i64 bx, .int .i64 cy, .int .i64 bz] 27 (0, 0)) := by rw [hw1]; exact three1 _ _ _ _
    exact ⟨(blk_cell h 0).trans rfl, (blk_cell h 1).trans rfl, (blk_cell h 2).trans rfl⟩
  have HW1 := Lh (show Below w.heap.size w w1 by rw [hw1]; exact (((Below.refl _ w).alloc (Nat.le_refl _) _).alloc (by simp) _).alloc (by simp; omega) _)
  have HO1 : Hid (Wk w1 (w.heap.size + 1 + 1)) := Lh (by rw [hw1]; have h := Wk.new ((w.alloc (.cells #[.int .i64 ax, .int .i64 ay, .int .i64 az] 27)).alloc (.cells #[.int .i64 bx, .int .i64 cy, .int .i64 bz] 27)); simp only [World.size_alloc] at h; exact h)
  have HG1 := Lh (HG.out.below HW1.out)
  have hz1 : w1.heap.size = w.heap.size + 1 + 1 + 1 := by rw [hw1]; simp
  obtain ⟨x0, x1, x2⟩ := k0
  obtain ⟨y0, y1, y2⟩ := k1
  have lt0 : w.heap.size < w1.heap.size := by omega
  have lt1 : w.heap.size + 1 < w1.heap.size := by omega
  have HZ1 := Lh hz1
  clear hw1 HG hz1
  simp only [World.size_alloc]
  go_wp2_with fail
  have hh : w1.heap.size < (w1.alloc (.cells #[.int .i64 ax, .int .i64 ay, .int .i64 az] 3)).heap.size := by simp
  refine (wdot_calls _ [ax, ay, az] [bx, cy, bz] _ _ 3 3 _ ((RdI.of3 (heap_alloc_new w1 _)).below ((Below.refl _ _).alloc (Nat.le_refl _) _)) ?_ rfl (by simp) (by simp) (by simp) HF.out HF2.out HS.out).mono ?_
  · have := RdI.of3 (heap_alloc_new (w1.alloc (.cells #[.int .i64 ax, .int .i64 ay, .int .i64 az] 3)) (.cells #[.int .i64 bx, .int .i64 cy, .int .i64 bz] 3))
    rw [World.size_alloc] at this
    exact this
  rintro e w2 ⟨rfl, hb2⟩
  have hz2 := HZ1.out
  have HW2 := Lh (bthen ((HW1.out.alloc (by omega) (.cells #[.int .i64 ax, .int .i64 ay, .int .i64 az] 3)).alloc (by simp; omega) (.cells #[.int .i64 bx, .int .i64 cy, .int .i64 bz] 3)) hb2)
  have HO2 := Lh (((HO1.out.alloc (.cells #[.int .i64 ax, .int .i64 ay, .int .i64 az] 3)).alloc (.cells #[.int .i64 bx, .int .i64 cy, .int .i64 bz] 3)).below hb2)
  have HG2 := Lh (((HG1.out.alloc (.cells #[.int .i64 ax, .int .i64 ay, .int .i64 az] 3)).alloc (.cells #[.int .i64 bx, .int .i64 cy, .int .i64 bz] 3)).below hb2)
  clear hh hb2 hz2 x0 x1 x2 y0 y1 y2
  go_wp2_with fail
  refine (done_calls g (w.heap.size + 1 + 1) w2 HG2.out.cell HG2.out.fz HO2.out.cell).mono ?_
  rintro e w3 ⟨rfl, rfl⟩
  go_wp2
  go_ret
  exact ⟨by rw [HE.out]; rfl, HW2.out⟩
end Go.Proofs.Ytckdhahceelckaa.G
namespace Go.Proofs.Ytckdhahceelckaa.G
open Go.RowKit Go.Proofs.YtckdhahceelckaaW.PrintWords Go.Proofs.YtckdhahceelckaaW.PrintLast Go.Proofs.YtckdhahceelckaaW.PrintMore
attribute [local go_sem] max2_mx min2_mn max_two min_two max_three min_three max_four min_four
set_option linter.unusedVariables false
set_option linter.unusedSimpArgs false
def addI (a b : P3) : P3 := ⟨a.x + b.x, a.y + b.y, a.z + b.z⟩
set_option maxHeartbeats 4000000 in
theorem vadd_calls (g : Nat) (a b : P3) (w : World) (hg : Wk w g) (ha : fits3 a) (hb : fits3 b) (hs : fits3 (addI a b)) :
    Calls Try.prog 110 #[.pointer (some ⟨g, 0, none⟩), aP a, aP b] w fun e w' => e = .returned (aP (addI a b)) ∧ Below w.heap.size w w' := by
  obtain ⟨ax, ay, az⟩ := a
  obtain ⟨bx, cy, bz⟩ := b
  have HG := Lh hg
  have HA := Lh ha
  have HB := Lh hb
  have HS := Lh hs
  clear hg ha hb hs
  go_enter Try.func110, Try.ntmps110
  go_wp2_with fail
  refine (bare_w_calls _).mono ?_
  rintro e w1 ⟨rfl, hw1⟩
  have P1 : Hid (C3 w1 w.heap.size (.int .i64 ax) (.int .i64 ay) (.int .i64 az)) := Lh (by rw [hw1]; exact (C3.of (three0 w _ _ _)).alloc _)
  have Q1 : Hid (C3 w1 (w.heap.size + 1) (.int .i64 bx) (.int .i64 cy) (.int .i64 bz)) := Lh (by rw [hw1]; exact (C3.of (three1 w _ _ _)).alloc _)
  have R1 : Hid (C3 w1 (w.heap.size + 1 + 1) (.int .i64 0) (.int .i64 0) (.int .i64 0)) := Lh (by rw [hw1]; exact (C3.of (three2 w _ _ _)).alloc _)
  have HW1 := Lh (show Below w.heap.size w w1 by rw [hw1]; exact ((((Below.refl _ w).alloc (Nat.le_refl _) _).alloc (by simp) _).alloc (by simp; omega) _).alloc (by simp; omega) _)
  have HO1 : Hid (Wk w1 (w.heap.size + 1 + 1 + 1)) := Lh (by rw [hw1]; have h := Wk.new (((w.alloc (.cells #[.int .i64 ax, .int .i64 ay, .int .i64 az] 27)).alloc (.cells #[.int .i64 bx, .int .i64 cy, .int .i64 bz] 27)).alloc (.cells #[.int .i64 0, .int .i64 0, .int .i64 0] 27)); simp only [World.size_alloc] at h; exact h)
  have HG1 := Lh (HG.out.below HW1.out)
  clear hw1 HG
  simp only [World.size_alloc]
  obtain ⟨x0, x1, x2, _, _, _⟩ := P1.out
  obtain ⟨y0, y1, y2, _, _, _⟩ := Q1.out
  go_wp2_with fail
  refine (wadd_calls _ ax bx HA.out.1 HB.out.1 HS.out.1 _).mono ?_
  rintro e w2 ⟨rfl, hb2⟩
  have P2 := Lh (P1.out.below hb2)
  have Q2 := Lh (Q1.out.below hb2)
  have R2 := Lh (R1.out.below hb2)
  have HW2 := Lh (bthen HW1.out hb2)
  have HO2 := Lh (HO1.out.below hb2)
  have HG2 := Lh (HG1.out.below hb2)
  clear x0 x1 x2 y0 y1 y2 P1 Q1 R1 HW1 HO1 HG1 hb2
  obtain ⟨x0, x1, x2, _, _, _⟩ := P2.out
  obtain ⟨y0, y1, y2, _, _, _⟩ := Q2.out
  go_wp2_with fail
  refine (wadd_calls _ ay cy HA.out.2.1 HB.out.2.1 HS.out.2.1 _).mono ?_
  rintro e w3 ⟨rfl, hb2⟩
  have P3 := Lh (P2.out.below hb2)
  have Q3 := Lh (Q2.out.below hb2)
  have R3 := Lh (R2.out.below hb2)
  have HW3 := Lh (bthen HW2.out hb2)
  have HO3 := Lh (HO2.out.below hb2)
  have HG3 := Lh (HG2.out.below hb2)
  clear x0 x1 x2 y0 y1 y2 P2 Q2 R2 HW2 HO2 HG2 hb2
  obtain ⟨x0, x1, x2, _, _, _⟩ := P3.out
  obtain ⟨y0, y1, y2, _, _, _⟩ := Q3.out
  go_wp2_with fail
  refine (wadd_calls _ az bz HA.out.2.2 HB.out.2.2 HS.out.2.2 _).mono ?_
  rintro e w4 ⟨rfl, hb2⟩
  have R4 := Lh (R3.out.below hb2)
  have HW4 := Lh (bthen HW3.out hb2)
  have HO4 := Lh (HO3.out.below hb2)
  have HG4 := Lh (HG3.out.below hb2)
  clear x0 x1 x2 y0 y1 y2 P3 Q3 R3 HW3 HO3 HG3 hb2
  go_wp2_with fail
  refine (done_calls g (w.heap.size + 1 + 1 + 1) w4 HG4.out.cell HG4.out.fz HO4.out.cell).mono ?_
  rintro e w5 ⟨rfl, rfl⟩
  obtain ⟨c0, c1, c2, f0, f1, f2⟩ := R4.out
  go_wp2
  exact bodyPost_ret (v := aP (addI ⟨ax, ay, az⟩ ⟨bx, cy, bz⟩)) (by simp [results, Try.results110, go_sem, c0, c1, c2, addI]) rfl ⟨rfl, below_set3 HW4.out (by omega) _ _ _⟩
/-- the rows of a turn -/
structure M3 where
  a : P3
  b : P3
  c : P3
abbrev aM (m : M3) : Value := .agg #[.int .i64 m.a.x, .int .i64 m.a.y, .int .i64 m.a.z, .int .i64 m.b.x, .int .i64 m.b.y, .int .i64 m.b.z, .int .i64 m.c.x, .int .i64 m.c.y, .int .i64 m.c.z]
def turnF (m : M3) (v : P3) : P3 := ⟨vdotF m.a v, vdotF m.b v, vdotF m.c v⟩
def dotOk (a b : P3) : Prop := fits3 a ∧ fits3 b ∧ (dotI a b).natAbs ≤ 4611686018427387902 * 4294967296
/-- block g holds the rows -/
def Mk (w : World) (g : Nat) (m : M3) : Prop := w.heap[g]? = some (.cells #[.int .i64 m.a.x, .int .i64 m.a.y, .int .i64 m.a.z, .int .i64 m.b.x, .int .i64 m.b.y, .int .i64 m.b.z, .int .i64 m.c.x, .int .i64 m.c.y, .int .i64 m.c.z] 138 (0, 0))
theorem Mk.below {w w1 : World} {g : Nat} {m : M3} (h : Mk w g m) (hb : Below w.heap.size w w1) : Mk w1 g m := (hb.block _ (blk_lt h)).trans h
theorem Mk.all {w g m} (h : Mk w g m) : w.cell? ⟨g, 0, none⟩ = some (.int .i64 m.a.x) ∧ w.cell? ⟨g, 1, none⟩ = some (.int .i64 m.a.y) ∧ w.cell? ⟨g, 2, none⟩ = some (.int .i64 m.a.z) ∧ w.cell? ⟨g, 3, none⟩ = some (.int .i64 m.b.x) ∧ w.cell? ⟨g, 4, none⟩ = some (.int .i64 m.b.y) ∧ w.cell? ⟨g, 5, none⟩ = some (.int .i64 m.b.z) ∧ w.cell? ⟨g, 6, none⟩ = some (.int .i64 m.c.x) ∧ w.cell? ⟨g, 7, none⟩ = some (.int .i64 m.c.y) ∧ w.cell? ⟨g, 8, none⟩ = some (.int .i64 m.c.z) :=
  ⟨(blk_cell h 0).trans rfl, (blk_cell h 1).trans rfl, (blk_cell h 2).trans rfl, (blk_cell h 3).trans rfl, (blk_cell h 4).trans rfl, (blk_cell h 5).trans rfl, (blk_cell h 6).trans rfl, (blk_cell h 7).trans rfl, (blk_cell h 8).trans rfl⟩
set_option maxHeartbeats 4000000 in
theorem turn_calls (g : Nat) (m : M3) (v : P3) (w : World) (hg : Wk w g) (h1 : dotOk m.a v) (h2 : dotOk m.b v) (h3 : dotOk m.c v) :
    Calls Try.prog 111 #[.pointer (some ⟨g, 0, none⟩), aM m, aP v] w fun e w' => e = .returned (aP (turnF m v)) ∧ Below w.heap.size w w' := by
  have HG := Lh hg
  have H1 := Lh h1
  have H2 := Lh h2
  have H3 := Lh h3
  clear hg h1 h2 h3
  go_enter Try.func111, Try.ntmps111
  go_wp2_with fail
  refine (bare_w_calls _).mono ?_
  rintro e w1 ⟨rfl, hw1⟩
  have P1 : Hid (Mk w1 w.heap.size m) := Lh (by rw [hw1]; exact (Below.heap_alloc _ _ _ (by simp; omega)).trans (three0 w _ _ _))
  have Q1 : Hid (C3 w1 (w.heap.size + 1) (.int .i64 v.x) (.int .i64 v.y) (.int .i64 v.z)) := Lh (by rw [hw1]; exact (C3.of (three1 w _ _ _)).alloc _)
  have R1 : Hid (C3 w1 (w.heap.size + 1 + 1) (.int .i64 0) (.int .i64 0) (.int .i64 0)) := Lh (by rw [hw1]; exact (C3.of (three2 w _ _ _)).alloc _)
  have HW1 := Lh (show Below w.heap.size w w1 by rw [hw1]; exact ((((Below.refl _ w).alloc (Nat.le_refl _) _).alloc (by simp) _).alloc (by simp; omega) _).alloc (by simp; omega) _)
  have HO1 : Hid (Wk w1 (w.heap.size + 1 + 1 + 1)) := Lh (by rw [hw1]; have h := Wk.new (((w.alloc (.cells #[.int .i64 m.a.x, .int .i64 m.a.y, .int .i64 m.a.z, .int .i64 m.b.x, .int .i64 m.b.y, .int .i64 m.b.z, .int .i64 m.c.x, .int .i64 m.c.y, .int .i64 m.c.z] 138)).alloc (.cells #[.int .i64 v.x, .int .i64 v.y, .int .i64 v.z] 27)).alloc (.cells #[.int .i64 0, .int .i64 0, .int .i64 0] 27)); simp only [World.size_alloc] at h; exact h)
  have HG1 := Lh (HG.out.below HW1.out)
  clear hw1 HG
  simp only [World.size_alloc]
  obtain ⟨x0, x1, x2, x3, x4, x5, x6, x7, x8⟩ := P1.out.all
  obtain ⟨y0, y1, y2, _, _, _⟩ := Q1.out
  go_wp2_with fail
  refine (vdot_calls _ m.a v _ HO1.out H1.out.1 H1.out.2.1 H1.out.2.2).mono ?_
  rintro e w2 ⟨rfl, hb2⟩
  have P2 := Lh (P1.out.below hb2)
  have Q2 := Lh (Q1.out.below hb2)
  have R2 := Lh (R1.out.below hb2)
  have HW2 := Lh (bthen HW1.out hb2)
  have HO2 := Lh (HO1.out.below hb2)
  have HG2 := Lh (HG1.out.below hb2)
  clear x0 x1 x2 x3 x4 x5 x6 x7 x8 y0 y1 y2 P1 Q1 R1 HW1 HO1 HG1 hb2
  obtain ⟨x0, x1, x2, x3, x4, x5, x6, x7, x8⟩ := P2.out.all
  obtain ⟨y0, y1, y2, _, _, _⟩ := Q2.out
  go_wp2_with fail
  refine (vdot_calls _ m.b v _ HO2.out H2.out.1 H2.out.2.1 H2.out.2.2).mono ?_
  rintro e w3 ⟨rfl, hb2⟩
  have P3 := Lh (P2.out.below hb2)
  have Q3 := Lh (Q2.out.below hb2)
  have R3 := Lh (R2.out.below hb2)
  have HW3 := Lh (bthen HW2.out hb2)
  have HO3 := Lh (HO2.out.below hb2)
  have HG3 := Lh (HG2.out.below hb2)
  clear x0 x1 x2 x3 x4 x5 x6 x7 x8 y0 y1 y2 P2 Q2 R2 HW2 HO2 HG2 hb2
  obtain ⟨x0, x1, x2, x3, x4, x5, x6, x7, x8⟩ := P3.out.all
  obtain ⟨y0, y1, y2, _, _, _⟩ := Q3.out
  go_wp2_with fail
  refine (vdot_calls _ m.c v _ HO3.out H3.out.1 H3.out.2.1 H3.out.2.2).mono ?_
  rintro e w4 ⟨rfl, hb2⟩
  have R4 := Lh (R3.out.below hb2)
  have HW4 := Lh (bthen HW3.out hb2)
  have HO4 := Lh (HO3.out.below hb2)
  have HG4 := Lh (HG3.out.below hb2)
  clear x0 x1 x2 x3 x4 x5 x6 x7 x8 y0 y1 y2 P3 Q3 R3 HW3 HO3 HG3 hb2
  go_wp2_with fail
  refine (done_calls g (w.heap.size + 1 + 1 + 1) w4 HG4.out.cell HG4.out.fz HO4.out.cell).mono ?_
  rintro e w5 ⟨rfl, rfl⟩
  obtain ⟨c0, c1, c2, f0, f1, f2⟩ := R4.out
  go_wp2
  exact bodyPost_ret (v := aP (turnF m v)) (by simp [results, Try.results111, go_sem, c0, c1, c2, turnF]) rfl ⟨rfl, below_set3 HW4.out (by omega) _ _ _⟩
end Go.Proofs.Ytckdhahceelckaa.G
namespace Go.Proofs.Ytckdhahceelckaa.G
open Go.RowKit Go.Proofs.YtckdhahceelckaaW.PrintWords Go.Proofs.YtckdhahceelckaaW.PrintLast Go.Proofs.YtckdhahceelckaaW.PrintMore
attribute [local go_sem] max2_mx min2_mn max_two min_two max_three min_three max_four min_four
attribute [local go_sem high] eqA23
set_option linter.unusedVariables false
set_option linter.unusedSimpArgs false
set_option maxHeartbeats 2000000 in
set_option maxRecDepth 100000 in
theorem may_A (p a e : List P3) (r : Int) (A0 A1 A2 : Option Addr) (c0 c1 c2 : Nat) (w : World) (h0 : Rd w A0 p) (h1 : Rd w A1 a) (h2 : Rd w A2 e) (k0 : p.length ≤ c0) (k1 : a.length ≤ c1) (k2 : e.length ≤ c2) (B : Bool) (F : Bool) (G : Bool)
    (hp1 : p.length = 0) :
    Calls Try.prog 57 #[.agg #[.slice A0 p.length c0, .slice A1 a.length c1, .slice A2 e.length c2, .int .i64 r]] w fun e w' => e = .returned (.bool false) ∧ Below w.heap.size w w' := by
  have H0 := Lh h0
  have H1 := Lh h1
  have H2 := Lh h2
  clear h0 h1 h2
  obtain ⟨np, hnp⟩ : ∃ n, p.length = n := ⟨_, rfl⟩
  obtain ⟨na, hna⟩ : ∃ n, a.length = n := ⟨_, rfl⟩
  obtain ⟨ne, hne⟩ : ∃ n, e.length = n := ⟨_, rfl⟩
  rw [hnp] at hp1 k0 ⊢
  rw [hna] at  k1 ⊢
  rw [hne] at  k2 ⊢
  have HNP := Lh hnp
  have HNA := Lh hna
  have HNE := Lh hne
  clear hnp hna hne
  have t1 : decide ((0 : Int) < (np : Int)) = false := by simp; omega
  go_enter Try.func57, Try.ntmps57
  go_wp2
  obtain ⟨ca, hca⟩ : ∃ ca : Array Value, #[.slice A0 np c0, .slice A1 na c1, .slice A2 ne c2, .int .i64 r] = ca := ⟨_, rfl⟩
  have G0 : Hid ((w.alloc (.cells ca 36)).drew.heap[w.heap.size]? = some (.cells ca 36 (0, 0))) := heap_alloc_new w _
  have R0 : Hid (Below w.heap.size w (w.alloc (.cells ca 36)).drew) := ((Below.refl _ w).alloc (Nat.le_refl _) _).drew
  rw [← hca] at G0 R0
  clear hca ca
  have g0 : (w.alloc (.cells #[.slice A0 np c0, .slice A1 na c1, .slice A2 ne c2, .int .i64 r] 36)).cell? ⟨w.heap.size, 0, none⟩ = some (.slice A0 np c0) := (blk_cell (heap_alloc_new w _) 0).trans rfl
  have g1 : (w.alloc (.cells #[.slice A0 np c0, .slice A1 na c1, .slice A2 ne c2, .int .i64 r] 36)).cell? ⟨w.heap.size, 1, none⟩ = some (.slice A1 na c1) := (blk_cell (heap_alloc_new w _) 1).trans rfl
  have g2 : (w.alloc (.cells #[.slice A0 np c0, .slice A1 na c1, .slice A2 ne c2, .int .i64 r] 36)).cell? ⟨w.heap.size, 2, none⟩ = some (.slice A2 ne c2) := (blk_cell (heap_alloc_new w _) 2).trans rfl
  have g3 : (w.alloc (.cells #[.slice A0 np c0, .slice A1 na c1, .slice A2 ne c2, .int .i64 r] 36)).cell? ⟨w.heap.size, 3, none⟩ = some (.int .i64 r) := (blk_cell (heap_alloc_new w _) 3).trans rfl
  go_quiet (fail)
  go_wp2
  go_ret
  exact ⟨rfl, pw_below_drewN ((Below.refl _ w).alloc (Nat.le_refl _) _) _⟩
set_option maxHeartbeats 2000000 in
set_option maxRecDepth 100000 in
theorem may_B (p a e : List P3) (r : Int) (A0 A1 A2 : Option Addr) (c0 c1 c2 : Nat) (w : World) (h0 : Rd w A0 p) (h1 : Rd w A1 a) (h2 : Rd w A2 e) (k0 : p.length ≤ c0) (k1 : a.length ≤ c1) (k2 : e.length ≤ c2) (B : Bool) (F : Bool) (G : Bool)
    (hp1 : 0 < p.length) (hp2 : 32 < p.length) :
    Calls Try.prog 57 #[.agg #[.slice A0 p.length c0, .slice A1 a.length c1, .slice A2 e.length c2, .int .i64 r]] w fun e w' => e = .returned (.bool false) ∧ Below w.heap.size w w' := by
  have H0 := Lh h0
  have H1 := Lh h1
  have H2 := Lh h2
  clear h0 h1 h2
  obtain ⟨np, hnp⟩ : ∃ n, p.length = n := ⟨_, rfl⟩
  obtain ⟨na, hna⟩ : ∃ n, a.length = n := ⟨_, rfl⟩
  obtain ⟨ne, hne⟩ : ∃ n, e.length = n := ⟨_, rfl⟩
  rw [hnp] at hp1 hp2 k0 ⊢
  rw [hna] at  k1 ⊢
  rw [hne] at  k2 ⊢
  have HNP := Lh hnp
  have HNA := Lh hna
  have HNE := Lh hne
  clear hnp hna hne
  have t1 : decide ((0 : Int) < (np : Int)) = true := by simp; omega
  have t2 : decide ((np : Int) ≤ 32) = false := by simp; omega
  go_enter Try.func57, Try.ntmps57
  go_wp2
  obtain ⟨ca, hca⟩ : ∃ ca : Array Value, #[.slice A0 np c0, .slice A1 na c1, .slice A2 ne c2, .int .i64 r] = ca := ⟨_, rfl⟩
  have G0 : Hid ((w.alloc (.cells ca 36)).drew.heap[w.heap.size]? = some (.cells ca 36 (0, 0))) := heap_alloc_new w _
  have R0 : Hid (Below w.heap.size w (w.alloc (.cells ca 36)).drew) := ((Below.refl _ w).alloc (Nat.le_refl _) _).drew
  rw [← hca] at G0 R0
  clear hca ca
  have g0 : (w.alloc (.cells #[.slice A0 np c0, .slice A1 na c1, .slice A2 ne c2, .int .i64 r] 36)).cell? ⟨w.heap.size, 0, none⟩ = some (.slice A0 np c0) := (blk_cell (heap_alloc_new w _) 0).trans rfl
  have g1 : (w.alloc (.cells #[.slice A0 np c0, .slice A1 na c1, .slice A2 ne c2, .int .i64 r] 36)).cell? ⟨w.heap.size, 1, none⟩ = some (.slice A1 na c1) := (blk_cell (heap_alloc_new w _) 1).trans rfl
  have g2 : (w.alloc (.cells #[.slice A0 np c0, .slice A1 na c1, .slice A2 ne c2, .int .i64 r] 36)).cell? ⟨w.heap.size, 2, none⟩ = some (.slice A2 ne c2) := (blk_cell (heap_alloc_new w _) 2).trans rfl
  have g3 : (w.alloc (.cells #[.slice A0 np c0, .slice A1 na c1, .slice A2 ne c2, .int .i64 r] 36)).cell? ⟨w.heap.size, 3, none⟩ = some (.int .i64 r) := (blk_cell (heap_alloc_new w _) 3).trans rfl
  go_quiet (fail)
  go_wp2
  go_ret
  exact ⟨rfl, pw_below_drewN ((Below.refl _ w).alloc (Nat.le_refl _) _) _⟩
set_option maxHeartbeats 2000000 in
set_option maxRecDepth 100000 in
theorem may_C (p a e : List P3) (r : Int) (A0 A1 A2 : Option Addr) (c0 c1 c2 : Nat) (w : World) (h0 : Rd w A0 p) (h1 : Rd w A1 a) (h2 : Rd w A2 e) (k0 : p.length ≤ c0) (k1 : a.length ≤ c1) (k2 : e.length ≤ c2) (B : Bool) (F : Bool) (G : Bool)
    (hp1 : 0 < p.length) (hp2 : p.length ≤ 32) (ha : 128 < a.length ∨ 128 < e.length) :
    Calls Try.prog 57 #[.agg #[.slice A0 p.length c0, .slice A1 a.length c1, .slice A2 e.length c2, .int .i64 r]] w fun e w' => e = .returned (.bool false) ∧ Below w.heap.size w w' := by
  have H0 := Lh h0
  have H1 := Lh h1
  have H2 := Lh h2
  clear h0 h1 h2
  obtain ⟨np, hnp⟩ : ∃ n, p.length = n := ⟨_, rfl⟩
  obtain ⟨na, hna⟩ : ∃ n, a.length = n := ⟨_, rfl⟩
  obtain ⟨ne, hne⟩ : ∃ n, e.length = n := ⟨_, rfl⟩
  rw [hnp] at hp1 hp2 k0 ⊢
  rw [hna] at ha k1 ⊢
  rw [hne] at ha k2 ⊢
  have HNP := Lh hnp
  have HNA := Lh hna
  have HNE := Lh hne
  clear hnp hna hne
  have t1 : decide ((0 : Int) < (np : Int)) = true := by simp; omega
  have t2 : decide ((np : Int) ≤ 32) = true := by simp; omega
  have t3 : decide (mx (na : Int) (ne : Int) ≤ 128) = false := by obtain ⟨m1, m2, m3⟩ := mx_facts (na : Int) (ne : Int); simp; omega
  go_enter Try.func57, Try.ntmps57
  go_wp2
  obtain ⟨ca, hca⟩ : ∃ ca : Array Value, #[.slice A0 np c0, .slice A1 na c1, .slice A2 ne c2, .int .i64 r] = ca := ⟨_, rfl⟩
  have G0 : Hid ((w.alloc (.cells ca 36)).drew.heap[w.heap.size]? = some (.cells ca 36 (0, 0))) := heap_alloc_new w _
  have R0 : Hid (Below w.heap.size w (w.alloc (.cells ca 36)).drew) := ((Below.refl _ w).alloc (Nat.le_refl _) _).drew
  rw [← hca] at G0 R0
  clear hca ca
  have g0 : (w.alloc (.cells #[.slice A0 np c0, .slice A1 na c1, .slice A2 ne c2, .int .i64 r] 36)).cell? ⟨w.heap.size, 0, none⟩ = some (.slice A0 np c0) := (blk_cell (heap_alloc_new w _) 0).trans rfl
  have g1 : (w.alloc (.cells #[.slice A0 np c0, .slice A1 na c1, .slice A2 ne c2, .int .i64 r] 36)).cell? ⟨w.heap.size, 1, none⟩ = some (.slice A1 na c1) := (blk_cell (heap_alloc_new w _) 1).trans rfl
  have g2 : (w.alloc (.cells #[.slice A0 np c0, .slice A1 na c1, .slice A2 ne c2, .int .i64 r] 36)).cell? ⟨w.heap.size, 2, none⟩ = some (.slice A2 ne c2) := (blk_cell (heap_alloc_new w _) 2).trans rfl
  have g3 : (w.alloc (.cells #[.slice A0 np c0, .slice A1 na c1, .slice A2 ne c2, .int .i64 r] 36)).cell? ⟨w.heap.size, 3, none⟩ = some (.int .i64 r) := (blk_cell (heap_alloc_new w _) 3).trans rfl
  go_quiet (fail)
  go_wp2
  go_ret
  exact ⟨rfl, pw_below_drewN ((Below.refl _ w).alloc (Nat.le_refl _) _) _⟩
set_option maxHeartbeats 2000000 in
set_option maxRecDepth 100000 in
theorem may_D (p a e : List P3) (r : Int) (A0 A1 A2 : Option Addr) (c0 c1 c2 : Nat) (w : World) (h0 : Rd w A0 p) (h1 : Rd w A1 a) (h2 : Rd w A2 e) (k0 : p.length ≤ c0) (k1 : a.length ≤ c1) (k2 : e.length ≤ c2) (B : Bool) (F : Bool) (G : Bool)
    (hp1 : 0 < p.length) (hp2 : p.length ≤ 32) (ha : a.length ≤ 128) (he : e.length ≤ 128) (hr1 : r < 0) :
    Calls Try.prog 57 #[.agg #[.slice A0 p.length c0, .slice A1 a.length c1, .slice A2 e.length c2, .int .i64 r]] w fun e w' => e = .returned (.bool false) ∧ Below w.heap.size w w' := by
  have H0 := Lh h0
  have H1 := Lh h1
  have H2 := Lh h2
  clear h0 h1 h2
  obtain ⟨np, hnp⟩ : ∃ n, p.length = n := ⟨_, rfl⟩
  obtain ⟨na, hna⟩ : ∃ n, a.length = n := ⟨_, rfl⟩
  obtain ⟨ne, hne⟩ : ∃ n, e.length = n := ⟨_, rfl⟩
  rw [hnp] at hp1 hp2 k0 ⊢
  rw [hna] at ha k1 ⊢
  rw [hne] at he k2 ⊢
  have HNP := Lh hnp
  have HNA := Lh hna
  have HNE := Lh hne
  clear hnp hna hne
  have t1 : decide ((0 : Int) < (np : Int)) = true := by simp; omega
  have t2 : decide ((np : Int) ≤ 32) = true := by simp; omega
  have t3 : decide (mx (na : Int) (ne : Int) ≤ 128) = true := by obtain ⟨m1, m2, m3⟩ := mx_facts (na : Int) (ne : Int); simp; omega
  have t4 : decide (0 ≤ r) = false := by simp; omega
  go_enter Try.func57, Try.ntmps57
  go_wp2
  obtain ⟨ca, hca⟩ : ∃ ca : Array Value, #[.slice A0 np c0, .slice A1 na c1, .slice A2 ne c2, .int .i64 r] = ca := ⟨_, rfl⟩
  have G0 : Hid ((w.alloc (.cells ca 36)).drew.heap[w.heap.size]? = some (.cells ca 36 (0, 0))) := heap_alloc_new w _
  have R0 : Hid (Below w.heap.size w (w.alloc (.cells ca 36)).drew) := ((Below.refl _ w).alloc (Nat.le_refl _) _).drew
  rw [← hca] at G0 R0
  clear hca ca
  have g0 : (w.alloc (.cells #[.slice A0 np c0, .slice A1 na c1, .slice A2 ne c2, .int .i64 r] 36)).cell? ⟨w.heap.size, 0, none⟩ = some (.slice A0 np c0) := (blk_cell (heap_alloc_new w _) 0).trans rfl
  have g1 : (w.alloc (.cells #[.slice A0 np c0, .slice A1 na c1, .slice A2 ne c2, .int .i64 r] 36)).cell? ⟨w.heap.size, 1, none⟩ = some (.slice A1 na c1) := (blk_cell (heap_alloc_new w _) 1).trans rfl
  have g2 : (w.alloc (.cells #[.slice A0 np c0, .slice A1 na c1, .slice A2 ne c2, .int .i64 r] 36)).cell? ⟨w.heap.size, 2, none⟩ = some (.slice A2 ne c2) := (blk_cell (heap_alloc_new w _) 2).trans rfl
  have g3 : (w.alloc (.cells #[.slice A0 np c0, .slice A1 na c1, .slice A2 ne c2, .int .i64 r] 36)).cell? ⟨w.heap.size, 3, none⟩ = some (.int .i64 r) := (blk_cell (heap_alloc_new w _) 3).trans rfl
  go_quiet (fail)
  go_wp2
  go_ret
  exact ⟨rfl, pw_below_drewN ((Below.refl _ w).alloc (Nat.le_refl _) _) _⟩
set_option maxHeartbeats 2000000 in
set_option maxRecDepth 100000 in
theorem may_E (p a e : List P3) (r : Int) (A0 A1 A2 : Option Addr) (c0 c1 c2 : Nat) (w : World) (h0 : Rd w A0 p) (h1 : Rd w A1 a) (h2 : Rd w A2 e) (k0 : p.length ≤ c0) (k1 : a.length ≤ c1) (k2 : e.length ≤ c2) (B : Bool) (F : Bool) (G : Bool)
    (hp1 : 0 < p.length) (hp2 : p.length ≤ 32) (ha : a.length ≤ 128) (he : e.length ≤ 128) (hr1 : 0 ≤ r) (hr2 : 65536 < r) :
    Calls Try.prog 57 #[.agg #[.slice A0 p.length c0, .slice A1 a.length c1, .slice A2 e.length c2, .int .i64 r]] w fun e w' => e = .returned (.bool false) ∧ Below w.heap.size w w' := by
  have H0 := Lh h0
  have H1 := Lh h1
  have H2 := Lh h2
  clear h0 h1 h2
  obtain ⟨np, hnp⟩ : ∃ n, p.length = n := ⟨_, rfl⟩
  obtain ⟨na, hna⟩ : ∃ n, a.length = n := ⟨_, rfl⟩
  obtain ⟨ne, hne⟩ : ∃ n, e.length = n := ⟨_, rfl⟩
  rw [hnp] at hp1 hp2 k0 ⊢
  rw [hna] at ha k1 ⊢
  rw [hne] at he k2 ⊢
  have HNP := Lh hnp
  have HNA := Lh hna
  have HNE := Lh hne
  clear hnp hna hne
  have t1 : decide ((0 : Int) < (np : Int)) = true := by simp; omega
  have t2 : decide ((np : Int) ≤ 32) = true := by simp; omega
  have t3 : decide (mx (na : Int) (ne : Int) ≤ 128) = true := by obtain ⟨m1, m2, m3⟩ := mx_facts (na : Int) (ne : Int); simp; omega
  have t4 : decide (0 ≤ r) = true := by simp; omega
  have t5 : decide (r ≤ 65536) = false := by simp; omega
  go_enter Try.func57, Try.ntmps57
  go_wp2
  obtain ⟨ca, hca⟩ : ∃ ca : Array Value, #[.slice A0 np c0, .slice A1 na c1, .slice A2 ne c2, .int .i64 r] = ca := ⟨_, rfl⟩
  have G0 : Hid ((w.alloc (.cells ca 36)).drew.heap[w.heap.size]? = some (.cells ca 36 (0, 0))) := heap_alloc_new w _
  have R0 : Hid (Below w.heap.size w (w.alloc (.cells ca 36)).drew) := ((Below.refl _ w).alloc (Nat.le_refl _) _).drew
  rw [← hca] at G0 R0
  clear hca ca
  have g0 : (w.alloc (.cells #[.slice A0 np c0, .slice A1 na c1, .slice A2 ne c2, .int .i64 r] 36)).cell? ⟨w.heap.size, 0, none⟩ = some (.slice A0 np c0) := (blk_cell (heap_alloc_new w _) 0).trans rfl
  have g1 : (w.alloc (.cells #[.slice A0 np c0, .slice A1 na c1, .slice A2 ne c2, .int .i64 r] 36)).cell? ⟨w.heap.size, 1, none⟩ = some (.slice A1 na c1) := (blk_cell (heap_alloc_new w _) 1).trans rfl
  have g2 : (w.alloc (.cells #[.slice A0 np c0, .slice A1 na c1, .slice A2 ne c2, .int .i64 r] 36)).cell? ⟨w.heap.size, 2, none⟩ = some (.slice A2 ne c2) := (blk_cell (heap_alloc_new w _) 2).trans rfl
  have g3 : (w.alloc (.cells #[.slice A0 np c0, .slice A1 na c1, .slice A2 ne c2, .int .i64 r] 36)).cell? ⟨w.heap.size, 3, none⟩ = some (.int .i64 r) := (blk_cell (heap_alloc_new w _) 3).trans rfl
  go_quiet (fail)
  go_wp2
  go_ret
  exact ⟨rfl, pw_below_drewN ((Below.refl _ w).alloc (Nat.le_refl _) _) _⟩
end Go.Proofs.Ytckdhahceelckaa.G
namespace Go.Proofs.Ytckdhahceelckaa.G
open Go.RowKit Go.Proofs.YtckdhahceelckaaW.PrintWords Go.Proofs.YtckdhahceelckaaW.PrintLast Go.Proofs.YtckdhahceelckaaW.PrintMore
attribute [local go_sem] max2_mx min2_mn max_two min_two max_three min_three max_four min_four
attribute [local go_sem high] eqA23
set_option linter.unusedVariables false
set_option linter.unusedSimpArgs false
/-- which of n things a raw number speaks of -/
def pickF (c n : Int) : Int := (if c < 0 then -(c + 1) else c).tmod n
theorem pickF_bd (c n : Int) (hn : 0 < n) : 0 ≤ pickF c n ∧ pickF c n < n := by
  unfold pickF
  have h0 : 0 ≤ (if c < 0 then -(c + 1) else c) := by split <;> omega
  generalize (if c < 0 then -(c + 1) else c) = d at h0
  rw [Int.tmod_eq_emod_of_nonneg h0]
  exact ⟨Int.emod_nonneg _ (by omega), Int.emod_lt_of_pos _ hn⟩
set_option maxHeartbeats 1000000 in
theorem pick_calls (c n : Int) (hc1 : -9223372036854775808 ≤ c) (hc2 : c ≤ 9223372036854775807) (hn : 0 < n) (hn2 : n ≤ 4294967296) (w : World) :
    Calls Try.prog 22 #[.int .i64 c, .int .i64 n] w fun e w' => e = .returned (.int .i64 (pickF c n)) ∧ w' = w := by
  have hb := pickF_bd c n hn
  have hn0 : n ≠ 0 := by omega
  have hn1 : n ≠ -1 := by omega
  by_cases h : c < 0
  · have hd : decide (c < 0) = true := by simpa using h
    have e1 : IntKind.i64.wrap (c + 1) = c + 1 := iw_id _ (by omega) (by omega)
    have e2 : IntKind.i64.wrap (-(c + 1)) = -(c + 1) := iw_id _ (by omega) (by omega)
    have e3 : pickF c n = (-(c + 1)).tmod n := by unfold pickF; rw [if_pos h]
    have e4 : IntKind.i64.wrap ((-(c + 1)).tmod n) = (-(c + 1)).tmod n := iw_id _ (by rw [← e3]; omega) (by rw [← e3]; omega)
    rw [e3]
    go_enter Try.func22, Try.ntmps22
    go_wp2
    go_ret
    exact ⟨by show Ending.returned (Value.int .i64 (-(c + 1).tmod n)) = _; rw [Int.neg_tmod], rfl⟩
  · have hd : decide (c < 0) = false := by simpa using h
    have e3 : pickF c n = c.tmod n := by unfold pickF; rw [if_neg h]
    have e4 : IntKind.i64.wrap (c.tmod n) = c.tmod n := iw_id _ (by rw [← e3]; omega) (by rw [← e3]; omega)
    rw [e3]
    go_enter Try.func22, Try.ntmps22
    go_wp2
    go_ret
    exact ⟨by show Ending.returned (Value.int .i64 (c % n)) = _; rw [Int.tmod_eq_emod_of_nonneg (by omega)], rfl⟩
set_option maxHeartbeats 1000000 in
theorem rminus_calls (x y z a b c : Int) (w : World) :
    Calls Try.prog 23 #[.agg #[.int .i64 x, .int .i64 y, .int .i64 z], .agg #[.int .i64 a, .int .i64 b, .int .i64 c]] w fun e w' => e = .returned (.agg #[.int .i64 (minus3 ⟨x, y, z⟩ ⟨a, b, c⟩).x, .int .i64 (minus3 ⟨x, y, z⟩ ⟨a, b, c⟩).y, .int .i64 (minus3 ⟨x, y, z⟩ ⟨a, b, c⟩).z]) ∧ Below w.heap.size w w' := by
  go_enter Try.func23, Try.ntmps23
  go_wp2
  exact bodyPost_ret (v := .agg #[.int .i64 (minus3 ⟨x, y, z⟩ ⟨a, b, c⟩).x, .int .i64 (minus3 ⟨x, y, z⟩ ⟨a, b, c⟩).y, .int .i64 (minus3 ⟨x, y, z⟩ ⟨a, b, c⟩).z]) (by simp [results, Try.results23, go_sem, minus3]) rfl ⟨rfl, (by repeat (first | exact Below.refl _ _ | refine Below.setCell ?_ (by simp <;> omega) _ | refine Below.alloc ?_ (by simp <;> omega) _ | refine Below.drew ?_))⟩
set_option maxHeartbeats 1000000 in
theorem rdot_calls (x y z a b c : Int) (w : World) :
    Calls Try.prog 24 #[.agg #[.int .i64 x, .int .i64 y, .int .i64 z], .agg #[.int .i64 a, .int .i64 b, .int .i64 c]] w fun e w' => e = .returned (.int .i64 (dot3 ⟨x, y, z⟩ ⟨a, b, c⟩)) ∧ Below w.heap.size w w' := by
  go_enter Try.func24, Try.ntmps24
  go_wp2
  go_ret
  exact ⟨by simp [dot3, wrap64, go_sem], (by repeat (first | exact Below.refl _ _ | refine Below.setCell ?_ (by simp <;> omega) _ | refine Below.alloc ?_ (by simp <;> omega) _ | refine Below.drew ?_))⟩
/-- a core: what a value speaks of in this world -/
structure CoreV (w : World) (v : Value) (p a e : List P3) (r : Int) : Prop where
  out : ∃ A0 A1 A2 c0 c1 c2, v = .agg #[.slice A0 p.length c0, .slice A1 a.length c1, .slice A2 e.length c2, .int .i64 r] ∧ RdB w A0 p ∧ RdB w A1 a ∧ RdB w A2 e ∧ p.length ≤ c0 ∧ a.length ≤ c1 ∧ e.length ≤ c2
theorem RdB.below {w w1 : World} {A l} (h : RdB w A l) (hb : Below w.heap.size w w1) : RdB w1 A l := ⟨h.1.below hb, fun ad e => Nat.lt_of_lt_of_le (h.2 ad e) hb.size⟩
theorem RdB.nil (w : World) : RdB w none [] := ⟨Rd.nil _ _, fun _ e => by cases e⟩
theorem CoreV.below {w w1 : World} {v p a e r} (h : CoreV w v p a e r) (hb : Below w.heap.size w w1) : CoreV w1 v p a e r := by
  obtain ⟨A0, A1, A2, c0, c1, c2, e1, h0, h1, h2, h3⟩ := h.out
  exact ⟨A0, A1, A2, c0, c1, c2, e1, h0.below hb, h1.below hb, h2.below hb, h3⟩
/-- may this be one? -/
structure MayP (p a e : List P3) (r : Int) : Prop where
  p0 : p ≠ []
  p1 : p.length ≤ 32
  a1 : a.length ≤ 128
  e1 : e.length ≤ 128
  r0 : 0 ≤ r
  r1 : r ≤ 65536
  pf : p.any (far3 16777216) = false
  af : a.any (far3 1048576) = false
  ef : e.any (far3 1048576) = false
/-- the answer for two that may be -/
def apartF (p a e : List P3) (r : Int) (q b f : List P3) (s : Int) : P3 × Int :=
  (apF (p.headD ⟨0, 0, 0⟩) p.tail r (q.headD ⟨0, 0, 0⟩) q.tail s (rawC p a e q b f)).1
theorem apart_calls (p a e : List P3) (r : Int) (q b f : List P3) (s : Int) (v u : Value) (w : World) (hv : CoreV w v p a e r) (hu : CoreV w u q b f s) (m : MayP p a e r) (k : MayP q b f s) (R : P3 × Int) (hR : apartF p a e r q b f s = R) :
    Calls Try.prog 20 #[v, u] w fun e w' => e = .returned (.tuple #[.agg #[.int .i64 R.1.x, .int .i64 R.1.y, .int .i64 R.1.z, .int .i64 R.2], .bool true]) ∧ Below w.heap.size w w' := by
  obtain ⟨A0, A1, A2, c0, c1, c2, rfl, h0, h1, h2, h3, h4, h5⟩ := hv.out
  obtain ⟨B0, B1, B2, d0, d1, d2, rfl, g0, g1, g2, g3, g4, g5⟩ := hu.out
  obtain ⟨p0, pr, rfl⟩ := List.exists_cons_of_ne_nil m.p0
  obtain ⟨q0, qr, rfl⟩ := List.exists_cons_of_ne_nil k.p0
  subst hR
  exact (callsIn_wide (n := 20)).1 (apart_in 20 (by decide) p0 pr a e r q0 qr b f s A0 A1 A2 B0 B1 B2 c0 c1 c2 d0 d1 d2 w h0 h1 h2 g0 g1 g2 (by simpa using h3) h4 h5 (by simpa using g3) g4 g5 (by simpa using m.p1) m.a1 m.e1 (by simpa using k.p1) k.a1 k.e1 m.r0 m.r1 k.r0 k.r1 m.pf k.pf m.af k.af m.ef k.ef _ rfl)
theorem Rd_one {w : World} {g : Nat} {x y z : Int} {t : TypeId} (h : w.heap[g]? = some (.cells #[.int .i64 x, .int .i64 y, .int .i64 z] t (0, 0))) : RdB w (some ⟨g, 0, none⟩) [⟨x, y, z⟩] :=
  ⟨fun i p hp => by
    match i with
    | 0 =>
      simp at hp
      subst hp
      exact ⟨g, 0, rfl, blk_lt h, (blk_cell h 0).trans rfl, (blk_cell h 1).trans rfl, (blk_cell h 2).trans rfl⟩
    | i + 1 => simp at hp, fun ad e => by cases e; exact blk_lt h⟩
end Go.Proofs.Ytckdhahceelckaa.G
namespace Go.Proofs.Ytckdhahceelckaa.G
open Go.RowKit Go.Proofs.YtckdhahceelckaaW.PrintWords Go.Proofs.YtckdhahceelckaaW.PrintLast Go.Proofs.YtckdhahceelckaaW.PrintMore
attribute [local go_sem] max2_mx min2_mn max_two min_two max_three min_three max_four min_four
set_option linter.unusedVariables false
set_option linter.unusedSimpArgs false
structure Q4 where
  w : Int
  x : Int
  y : Int
  z : Int
abbrev aQ (q : Q4) : Value := .agg #[.int .i64 q.w, .int .i64 q.x, .int .i64 q.y, .int .i64 q.z]
/-- block g holds a turn -/
def Qk (w : World) (g : Nat) (q : Q4) : Prop := w.heap[g]? = some (.cells #[.int .i64 q.w, .int .i64 q.x, .int .i64 q.y, .int .i64 q.z] 29 (0, 0))
theorem Qk.below {w w1 : World} {g : Nat} {m : Q4} (h : Qk w g m) (hb : Below w.heap.size w w1) : Qk w1 g m := (hb.block _ (blk_lt h)).trans h
theorem Qk.all {w g q} (h : Qk w g q) : w.cell? ⟨g, 0, none⟩ = some (.int .i64 q.w) ∧ w.cell? ⟨g, 1, none⟩ = some (.int .i64 q.x) ∧ w.cell? ⟨g, 2, none⟩ = some (.int .i64 q.y) ∧ w.cell? ⟨g, 3, none⟩ = some (.int .i64 q.z) :=
  ⟨(blk_cell h 0).trans rfl, (blk_cell h 1).trans rfl, (blk_cell h 2).trans rfl, (blk_cell h 3).trans rfl⟩
theorem Qk.fzs {w g q} (h : Qk w g q) : w.frozen? ⟨g, 0, none⟩ = false ∧ w.frozen? ⟨g, 1, none⟩ = false ∧ w.frozen? ⟨g, 2, none⟩ = false ∧ w.frozen? ⟨g, 3, none⟩ = false :=
  ⟨blk_frozen h 0, blk_frozen h 1, blk_frozen h 2, blk_frozen h 3⟩
/-- the size of a raw turn -/
def lenF (q : Q4) : Int := rtI (q.w * q.w + q.x * q.x + q.y * q.y + q.z * q.z)
def unitF (q : Q4) : Q4 := ⟨q.w * 4294967296 / lenF q, q.x * 4294967296 / lenF q, q.y * 4294967296 / lenF q, q.z * 4294967296 / lenF q⟩
def raw40 (x : Int) : Prop := -1099511627776 ≤ x ∧ x ≤ 1099511627776
theorem raw40.fits {x : Int} (h : raw40 x) : fits x := by unfold raw40 at h; unfold G.fits; omega
theorem raw40.sq {x : Int} (h : raw40 x) : 0 ≤ x * x ∧ x * x ≤ 1208925819614629174706176 := by
  refine ⟨sq_nonneg x, ?_⟩
  have : (x * x).natAbs ≤ 1099511627776 * 1099511627776 := by rw [Int.natAbs_mul]; unfold raw40 at h; exact Nat.mul_le_mul (by omega) (by omega)
  omega
theorem dotL4 (a b c d : Int) : dotL [a, b, c, d] [a, b, c, d] = a * a + b * b + c * c + d * d := by simp [dotL]; omega
theorem lenF_fits {q : Q4} (h1 : raw40 q.w) (h2 : raw40 q.x) (h3 : raw40 q.y) (h4 : raw40 q.z) : fits (lenF q) := by
  have a := h1.sq; have b := h2.sq; have c := h3.sq; have d := h4.sq
  exact rtI_fits (by omega) (by omega)
theorem unit_q {x n : Int} (h : raw40 x) (hn : 2147483648 ≤ n) : (x * 4294967296).natAbs ≤ 4611686018427387902 * n := by unfold raw40 at h; omega
set_option maxHeartbeats 4000000 in
theorem whole_good (g : Nat) (q : Q4) (w : World) (hg : Wk w g) (h1 : raw40 q.w) (h2 : raw40 q.x) (h3 : raw40 q.y) (h4 : raw40 q.z) (hn : 2147483648 ≤ lenF q) :
    Calls Try.prog 106 #[.pointer (some ⟨g, 0, none⟩), aQ q] w fun e w' => e = .returned (aQ (unitF q)) ∧ Below w.heap.size w w' := by
  have HF := Lh (lenF_fits h1 h2 h3 h4)
  obtain ⟨qw, qx, qy, qz⟩ := q
  have HG := Lh hg
  have HA : Hid (raw40 qw ∧ raw40 qx ∧ raw40 qy ∧ raw40 qz) := Lh ⟨h1, h2, h3, h4⟩
  have HL : Hid (∀ x ∈ [qw, qx, qy, qz], fits x) := Lh (by intro x hx; simp at hx; rcases hx with rfl | rfl | rfl | rfl; exact h1.fits; exact h2.fits; exact h3.fits; exact h4.fits)
  have HS : Hid (dotL [qw, qx, qy, qz] [qw, qx, qy, qz] < 21267647932558653966460912964485513216) := Lh (by
    rw [dotL4]; have a := h1.sq; have b := h2.sq; have c := h3.sq; have d := h4.sq; simp only at a b c d; omega)
  have HN : Hid (rtI (dotL [qw, qx, qy, qz] [qw, qx, qy, qz]) = lenF ⟨qw, qx, qy, qz⟩) := Lh (by rw [dotL4]; rfl)
  have HU : Hid (unitF ⟨qw, qx, qy, qz⟩ = ⟨qw * 4294967296 / lenF ⟨qw, qx, qy, qz⟩, qx * 4294967296 / lenF ⟨qw, qx, qy, qz⟩, qy * 4294967296 / lenF ⟨qw, qx, qy, qz⟩, qz * 4294967296 / lenF ⟨qw, qx, qy, qz⟩⟩) := Lh rfl
  clear hg h1 h2 h3 h4
  obtain ⟨N, hN⟩ : ∃ N, lenF ⟨qw, qx, qy, qz⟩ = N := ⟨_, rfl⟩
  rw [hN] at HN HU hn HF
  clear hN
  have hd : decide (N < 2147483648) = false := by simp; omega
  go_enter Try.func106, Try.ntmps106
  go_wp2_with fail
  refine (bare_w_calls _).mono ?_
  rintro e w1 ⟨rfl, hw1⟩
  have Q1 : Hid (Qk w1 w.heap.size ⟨qw, qx, qy, qz⟩) := Lh (by rw [hw1]; exact (Below.heap_alloc _ _ _ (by simp; omega)).trans ((Below.heap_alloc _ _ _ (by simp)).trans (heap_alloc_new w _)))
  have R1 : Hid (Qk w1 (w.heap.size + 1) ⟨0, 0, 0, 0⟩) := Lh (by
    rw [hw1]
    have h := heap_alloc_new (w.alloc (.cells #[.int .i64 qw, .int .i64 qx, .int .i64 qy, .int .i64 qz] 29)) (.cells #[.int .i64 0, .int .i64 0, .int .i64 0, .int .i64 0] 29)
    rw [World.size_alloc] at h
    exact (Below.heap_alloc _ _ _ (by simp)).trans h)
  have W1 := Lh (show Below w.heap.size w w1 by rw [hw1]; exact (((Below.refl _ w).alloc (Nat.le_refl _) _).alloc (by simp) _).alloc (by simp; omega) _)
  have O1 : Hid (Wk w1 (w.heap.size + 1 + 1)) := Lh (by
    rw [hw1]
    have h := Wk.new ((w.alloc (.cells #[.int .i64 qw, .int .i64 qx, .int .i64 qy, .int .i64 qz] 29)).alloc (.cells #[.int .i64 0, .int .i64 0, .int .i64 0, .int .i64 0] 29))
    simp only [World.size_alloc] at h
    exact h)
  have G1 := Lh (HG.out.below W1.out)
  have lt1 : w.heap.size + 1 + 1 < w1.heap.size := by rw [hw1]; simp
  have lq1 : w.heap.size < w1.heap.size := by omega
  clear hw1 HG
  simp only [World.size_alloc]
  obtain ⟨x0, x1, x2, x3⟩ := Q1.out.all
  go_wp2_with fail
  refine (norm_calls _ [qw, qx, qy, qz] _ 4 _ (RdI.of4 (heap_alloc_new w1 _)) (by simp) (by simp) HL.out HS.out).mono ?_
  rintro e w2 ⟨rfl, hb⟩
  rw [HN.out]
  have Q2 := Lh ((Q1.out.below ((Below.refl _ _).alloc (Nat.le_refl _) (.cells #[.int .i64 qw, .int .i64 qx, .int .i64 qy, .int .i64 qz] 3))).below hb)
  have R2 := Lh ((R1.out.below ((Below.refl _ _).alloc (Nat.le_refl _) (.cells #[.int .i64 qw, .int .i64 qx, .int .i64 qy, .int .i64 qz] 3))).below hb)
  have O2 := Lh ((O1.out.alloc (.cells #[.int .i64 qw, .int .i64 qx, .int .i64 qy, .int .i64 qz] 3)).below hb)
  have G2 := Lh ((G1.out.alloc (.cells #[.int .i64 qw, .int .i64 qx, .int .i64 qy, .int .i64 qz] 3)).below hb)
  have W2 := Lh (bthen (W1.out.alloc W1.out.size (.cells #[.int .i64 qw, .int .i64 qx, .int .i64 qy, .int .i64 qz] 3)) hb)
  clear hb Q1 R1 O1 G1 W1 lt1 lq1 x0 x1 x2 x3
  obtain ⟨x0, x1, x2, x3⟩ := Q2.out.all
  go_wp2_with fail
  refine (wdiv_calls _ qw N HA.out.1.fits HF.out (by omega) (unit_q HA.out.1 hn) _).mono ?_
  rintro e w3 ⟨rfl, hb⟩
  have Q3 := Lh (Q2.out.below hb)
  have R3 := Lh (R2.out.below hb)
  have O3 := Lh (O2.out.below hb)
  have G3 := Lh (G2.out.below hb)
  have W3 := Lh (bthen W2.out hb)
  clear hb Q2 R2 O2 G2 W2 x0 x1 x2 x3
  obtain ⟨x0, x1, x2, x3⟩ := Q3.out.all
  go_wp2_with fail
  refine (wdiv_calls _ qx N HA.out.2.1.fits HF.out (by omega) (unit_q HA.out.2.1 hn) _).mono ?_
  rintro e w4 ⟨rfl, hb⟩
  have Q4 := Lh (Q3.out.below hb)
  have R4 := Lh (R3.out.below hb)
  have O4 := Lh (O3.out.below hb)
  have G4 := Lh (G3.out.below hb)
  have W4 := Lh (bthen W3.out hb)
  clear hb Q3 R3 O3 G3 W3 x0 x1 x2 x3
  obtain ⟨x0, x1, x2, x3⟩ := Q4.out.all
  go_wp2_with fail
  refine (wdiv_calls _ qy N HA.out.2.2.1.fits HF.out (by omega) (unit_q HA.out.2.2.1 hn) _).mono ?_
  rintro e w5 ⟨rfl, hb⟩
  have Q5 := Lh (Q4.out.below hb)
  have R5 := Lh (R4.out.below hb)
  have O5 := Lh (O4.out.below hb)
  have G5 := Lh (G4.out.below hb)
  have W5 := Lh (bthen W4.out hb)
  clear hb Q4 R4 O4 G4 W4 x0 x1 x2 x3
  obtain ⟨x0, x1, x2, x3⟩ := Q5.out.all
  go_wp2_with fail
  refine (wdiv_calls _ qz N HA.out.2.2.2.fits HF.out (by omega) (unit_q HA.out.2.2.2 hn) _).mono ?_
  rintro e w6 ⟨rfl, hb⟩
  have R6 := Lh (R5.out.below hb)
  have O6 := Lh (O5.out.below hb)
  have G6 := Lh (G5.out.below hb)
  have W6 := Lh (bthen W5.out hb)
  clear hb Q5 R5 O5 G5 W5 x0 x1 x2 x3
  go_wp2_with fail
  refine (done_calls g (w.heap.size + 1 + 1) w6 G6.out.cell G6.out.fz O6.out.cell).mono ?_
  rintro e w7 ⟨rfl, rfl⟩
  obtain ⟨c0, c1, c2, c3⟩ := R6.out.all
  obtain ⟨f0, f1, f2, f3⟩ := R6.out.fzs
  go_wp2
  rw [HU.out]
  exact bodyPost_ret (v := aQ ⟨qw * 4294967296 / N, qx * 4294967296 / N, qy * 4294967296 / N, qz * 4294967296 / N⟩) (by simp [results, Try.results106, go_sem, c0, c1, c2, c3]) rfl ⟨rfl, below_set4 W6.out (by omega) _ _ _ _⟩
end Go.Proofs.Ytckdhahceelckaa.G
namespace Go.Proofs.Ytckdhahceelckaa.G
open Go.RowKit Go.Proofs.YtckdhahceelckaaW.PrintWords Go.Proofs.YtckdhahceelckaaW.PrintLast Go.Proofs.YtckdhahceelckaaW.PrintMore
attribute [local go_sem] max2_mx min2_mn max_two min_two max_three min_three max_four min_four
set_option linter.unusedVariables false
set_option linter.unusedSimpArgs false
def D2 (a b c d : Int) : Int := (a * c + b * d) / 4294967296
theorem dotL2 (a b c d : Int) : dotL [a, b] [c, d] = a * c + b * d := by simp [dotL]
def small (x : Int) : Prop := -17179869184 ≤ x ∧ x ≤ 17179869184
theorem small.fits {x : Int} (h : small x) : fits x := by unfold small at h; unfold G.fits; omega
theorem small_mul {a b : Int} (ha : small a) (hb : small b) : -295147905179352825856 ≤ a * b ∧ a * b ≤ 295147905179352825856 := by
  have h : (a * b).natAbs ≤ 17179869184 * 17179869184 := by
    rw [Int.natAbs_mul]; unfold small at ha hb; exact Nat.mul_le_mul (by omega) (by omega)
  omega
theorem D2_bd {a b c d : Int} (ha : small a) (hb : small b) (hc : small c) (hd : small d) : -137438953472 ≤ D2 a b c d ∧ D2 a b c d ≤ 137438953472 := by
  have := small_mul ha hc
  have := small_mul hb hd
  unfold D2; omega
theorem D2_fits {a b c d : Int} (ha : small a) (hb : small b) (hc : small c) (hd : small d) : fits (D2 a b c d) ∧ fits (4294967296 - D2 a b c d) := by
  have := D2_bd ha hb hc hd
  unfold G.fits; omega
set_option maxHeartbeats 1000000 in
theorem wdot2_calls (v : Value) (a b c d : Int) (W : World) (ha : small a) (hb : small b) (hc : small c) (hd : small d) :
    Calls Try.prog 163 #[v, .slice (some ⟨W.heap.size, 0, none⟩) 2 2, .slice (some ⟨W.heap.size + 1, 0, none⟩) 2 2] ((W.alloc (.cells #[.int .i64 a, .int .i64 b] 3)).alloc (.cells #[.int .i64 c, .int .i64 d] 3)) fun e w' => e = .returned (.int .i64 (D2 a b c d)) ∧ Below W.heap.size W w' := by
  have h1 := (RdI.of2 (heap_alloc_new W (.cells #[.int .i64 a, .int .i64 b] 3))).below ((Below.refl _ _).alloc (Nat.le_refl _) (.cells #[.int .i64 c, .int .i64 d] 3))
  have h2 := RdI.of2 (heap_alloc_new (W.alloc (.cells #[.int .i64 a, .int .i64 b] 3)) (.cells #[.int .i64 c, .int .i64 d] 3))
  rw [World.size_alloc] at h2
  have := wdot_calls v [a, b] [c, d] _ _ 2 2 _ h1 h2 rfl (by simp) (by simp) (by simp) (by intro x hx; simp at hx; rcases hx with rfl | rfl; exact ha.fits; exact hb.fits) (by intro x hx; simp at hx; rcases hx with rfl | rfl; exact hc.fits; exact hd.fits) (by rw [dotL2]; have := small_mul ha hc; have := small_mul hb hd; omega)
  rw [dotL2] at this
  refine this.mono ?_
  rintro e w' ⟨rfl, hb⟩
  exact ⟨rfl, bthen (((Below.refl _ W).alloc (Nat.le_refl _) _).alloc (by simp) _) hb⟩
def rowsF (q : Q4) : M3 :=
  ⟨⟨4294967296 - D2 (q.y + q.y) (q.z + q.z) q.y q.z, D2 (q.x + q.x) (q.w + q.w) q.y (-q.z), D2 (q.x + q.x) (q.w + q.w) q.z q.y⟩,
   ⟨D2 (q.x + q.x) (q.w + q.w) q.y q.z, 4294967296 - D2 (q.x + q.x) (q.z + q.z) q.x q.z, D2 (q.y + q.y) (q.w + q.w) q.z (-q.x)⟩,
   ⟨D2 (q.x + q.x) (q.w + q.w) q.z (-q.y), D2 (q.y + q.y) (q.w + q.w) q.z q.x, 4294967296 - D2 (q.x + q.x) (q.y + q.y) q.x q.y⟩⟩
def quat (q : Q4) : Prop := -8589934592 ≤ q.w ∧ q.w ≤ 8589934592 ∧ -8589934592 ≤ q.x ∧ q.x ≤ 8589934592 ∧ -8589934592 ≤ q.y ∧ q.y ≤ 8589934592 ∧ -8589934592 ≤ q.z ∧ q.z ≤ 8589934592
/-- nine cells of a block -/
def Nk (w : World) (g : Nat) (a0 a1 a2 a3 a4 a5 a6 a7 a8 : Int) : Prop := w.heap[g]? = some (.cells #[.int .i64 a0, .int .i64 a1, .int .i64 a2, .int .i64 a3, .int .i64 a4, .int .i64 a5, .int .i64 a6, .int .i64 a7, .int .i64 a8] 138 (0, 0))
theorem Nk.below {w w1 : World} {g : Nat} {a0 a1 a2 a3 a4 a5 a6 a7 a8} (h : Nk w g a0 a1 a2 a3 a4 a5 a6 a7 a8) (hb : Below w.heap.size w w1) : Nk w1 g a0 a1 a2 a3 a4 a5 a6 a7 a8 := (hb.block _ (blk_lt h)).trans h
theorem Nk.set0 {w : World} {g : Nat} {a0 a1 a2 a3 a4 a5 a6 a7 a8} (h : Nk w g a0 a1 a2 a3 a4 a5 a6 a7 a8) (x : Int) : Nk (w.setCell ⟨g, 0, none⟩ (.int .i64 x)) g x a1 a2 a3 a4 a5 a6 a7 a8 := by
  have h8 := blk_set h 0 (.int .i64 x)
  simp only [List.setIfInBounds_toArray, List.set_cons_zero, List.set_cons_succ] at h8
  exact h8
theorem Nk.set1 {w : World} {g : Nat} {a0 a1 a2 a3 a4 a5 a6 a7 a8} (h : Nk w g a0 a1 a2 a3 a4 a5 a6 a7 a8) (x : Int) : Nk (w.setCell ⟨g, 1, none⟩ (.int .i64 x)) g a0 x a2 a3 a4 a5 a6 a7 a8 := by
  have h8 := blk_set h 1 (.int .i64 x)
  simp only [List.setIfInBounds_toArray, List.set_cons_zero, List.set_cons_succ] at h8
  exact h8
theorem Nk.set2 {w : World} {g : Nat} {a0 a1 a2 a3 a4 a5 a6 a7 a8} (h : Nk w g a0 a1 a2 a3 a4 a5 a6 a7 a8) (x : Int) : Nk (w.setCell ⟨g, 2, none⟩ (.int .i64 x)) g a0 a1 x a3 a4 a5 a6 a7 a8 := by
  have h8 := blk_set h 2 (.int .i64 x)
  simp only [List.setIfInBounds_toArray, List.set_cons_zero, List.set_cons_succ] at h8
  exact h8
theorem Nk.set3 {w : World} {g : Nat} {a0 a1 a2 a3 a4 a5 a6 a7 a8} (h : Nk w g a0 a1 a2 a3 a4 a5 a6 a7 a8) (x : Int) : Nk (w.setCell ⟨g, 3, none⟩ (.int .i64 x)) g a0 a1 a2 x a4 a5 a6 a7 a8 := by
  have h8 := blk_set h 3 (.int .i64 x)
  simp only [List.setIfInBounds_toArray, List.set_cons_zero, List.set_cons_succ] at h8
  exact h8
theorem Nk.set4 {w : World} {g : Nat} {a0 a1 a2 a3 a4 a5 a6 a7 a8} (h : Nk w g a0 a1 a2 a3 a4 a5 a6 a7 a8) (x : Int) : Nk (w.setCell ⟨g, 4, none⟩ (.int .i64 x)) g a0 a1 a2 a3 x a5 a6 a7 a8 := by
  have h8 := blk_set h 4 (.int .i64 x)
  simp only [List.setIfInBounds_toArray, List.set_cons_zero, List.set_cons_succ] at h8
  exact h8
theorem Nk.set5 {w : World} {g : Nat} {a0 a1 a2 a3 a4 a5 a6 a7 a8} (h : Nk w g a0 a1 a2 a3 a4 a5 a6 a7 a8) (x : Int) : Nk (w.setCell ⟨g, 5, none⟩ (.int .i64 x)) g a0 a1 a2 a3 a4 x a6 a7 a8 := by
  have h8 := blk_set h 5 (.int .i64 x)
  simp only [List.setIfInBounds_toArray, List.set_cons_zero, List.set_cons_succ] at h8
  exact h8
theorem Nk.set6 {w : World} {g : Nat} {a0 a1 a2 a3 a4 a5 a6 a7 a8} (h : Nk w g a0 a1 a2 a3 a4 a5 a6 a7 a8) (x : Int) : Nk (w.setCell ⟨g, 6, none⟩ (.int .i64 x)) g a0 a1 a2 a3 a4 a5 x a7 a8 := by
  have h8 := blk_set h 6 (.int .i64 x)
  simp only [List.setIfInBounds_toArray, List.set_cons_zero, List.set_cons_succ] at h8
  exact h8
theorem Nk.set7 {w : World} {g : Nat} {a0 a1 a2 a3 a4 a5 a6 a7 a8} (h : Nk w g a0 a1 a2 a3 a4 a5 a6 a7 a8) (x : Int) : Nk (w.setCell ⟨g, 7, none⟩ (.int .i64 x)) g a0 a1 a2 a3 a4 a5 a6 x a8 := by
  have h8 := blk_set h 7 (.int .i64 x)
  simp only [List.setIfInBounds_toArray, List.set_cons_zero, List.set_cons_succ] at h8
  exact h8
theorem Nk.set8 {w : World} {g : Nat} {a0 a1 a2 a3 a4 a5 a6 a7 a8} (h : Nk w g a0 a1 a2 a3 a4 a5 a6 a7 a8) (x : Int) : Nk (w.setCell ⟨g, 8, none⟩ (.int .i64 x)) g a0 a1 a2 a3 a4 a5 a6 a7 x := by
  have h8 := blk_set h 8 (.int .i64 x)
  simp only [List.setIfInBounds_toArray, List.set_cons_zero, List.set_cons_succ] at h8
  exact h8
set_option maxHeartbeats 8000000 in
set_option maxRecDepth 100000 in
theorem rows_calls (g : Nat) (q : Q4) (w : World) (hg : Wk w g) (hq : quat q) :
    Calls Try.prog 108 #[.pointer (some ⟨g, 0, none⟩), aQ q] w fun e w' => e = .returned (aM (rowsF q)) ∧ Below w.heap.size w w' := by
  obtain ⟨qw, qx, qy, qz⟩ := q
  obtain ⟨l1, u1, l2, u2, l3, u3, l4, u4⟩ := hq
  simp only at l1 u1 l2 u2 l3 u3 l4 u4
  have SW : Hid (small qw ∧ small qx ∧ small qy ∧ small qz) := Lh (by unfold small; omega)
  have SD : Hid (small (qw + qw) ∧ small (qx + qx) ∧ small (qy + qy) ∧ small (qz + qz)) := Lh (by unfold small; omega)
  have SN : Hid (small (-qx) ∧ small (-qy) ∧ small (-qz)) := Lh (by unfold small; omega)
  have F1 : Hid (fits 4294967296 ∧ fits 0) := Lh (by unfold G.fits; decide)
  have HG := Lh hg
  have hgl : g < w.heap.size := blk_lt hg
  clear hg
  go_enter Try.func108, Try.ntmps108
  go_wp2_with fail
  refine (bare_w_calls _).mono ?_
  rintro e w0 ⟨rfl, hw1⟩
  have Q0 : Hid (Qk w0 w.heap.size ⟨qw, qx, qy, qz⟩) := Lh (by rw [hw1]; exact (Below.heap_alloc _ _ _ (by simp; omega)).trans ((Below.heap_alloc _ _ _ (by simp)).trans (heap_alloc_new w _)))
  have R0 : Hid (Nk w0 (w.heap.size + 1) 0 0 0 0 0 0 0 0 0) := Lh (by
    rw [hw1]
    have h := heap_alloc_new (w.alloc (.cells #[.int .i64 qw, .int .i64 qx, .int .i64 qy, .int .i64 qz] 29)) (.cells #[.int .i64 0, .int .i64 0, .int .i64 0, .int .i64 0, .int .i64 0, .int .i64 0, .int .i64 0, .int .i64 0, .int .i64 0] 138)
    rw [World.size_alloc] at h
    exact (Below.heap_alloc _ _ _ (by simp)).trans h)
  have W0 := Lh (show Below w.heap.size w w0 by rw [hw1]; exact (((Below.refl _ w).alloc (Nat.le_refl _) _).alloc (by simp) _).alloc (by simp; omega) _)
  have O0 : Hid (Wk w0 (w.heap.size + 1 + 1)) := Lh (by
    rw [hw1]
    have h := Wk.new ((w.alloc (.cells #[.int .i64 qw, .int .i64 qx, .int .i64 qy, .int .i64 qz] 29)).alloc (.cells #[.int .i64 0, .int .i64 0, .int .i64 0, .int .i64 0, .int .i64 0, .int .i64 0, .int .i64 0, .int .i64 0, .int .i64 0] 138))
    simp only [World.size_alloc] at h
    exact h)
  have G0 := Lh (HG.out.below W0.out)
  have lt0 : w.heap.size + 1 + 1 < w0.heap.size := by rw [hw1]; simp
  have lq0 : w.heap.size < w0.heap.size := by omega
  clear hw1 HG
  simp only [World.size_alloc]
  obtain ⟨x0, x1, x2, x3⟩ := Q0.out.all
  go_wp2_with fail
  refine (wadd_calls _ qw qw SW.out.1.fits SW.out.1.fits (small.fits SD.out.1) _).mono ?_
  rintro e w1 ⟨rfl, hb⟩
  have Q1 := Lh (Q0.out.below hb)
  have R1 := Lh (R0.out.below hb)
  have W1 := Lh (bthen W0.out hb)
  have O1 := Lh (O0.out.below hb)
  have G1 := Lh (G0.out.below hb)
  have lt1 : w.heap.size + 1 + 1 < w1.heap.size := by have := hb.size; omega
  have lq1 : w.heap.size < w1.heap.size := by omega
  clear hb Q0 R0 W0 O0 G0 lt0 lq0 x0 x1 x2 x3
  obtain ⟨x0, x1, x2, x3⟩ := Q1.out.all
  go_wp2_with fail
  refine (wadd_calls _ qx qx SW.out.2.1.fits SW.out.2.1.fits (small.fits SD.out.2.1) _).mono ?_
  rintro e w2 ⟨rfl, hb⟩
  have Q2 := Lh (Q1.out.below hb)
  have R2 := Lh (R1.out.below hb)
  have W2 := Lh (bthen W1.out hb)
  have O2 := Lh (O1.out.below hb)
  have G2 := Lh (G1.out.below hb)
  have lt2 : w.heap.size + 1 + 1 < w2.heap.size := by have := hb.size; omega
  have lq2 : w.heap.size < w2.heap.size := by omega
  clear hb Q1 R1 W1 O1 G1 lt1 lq1 x0 x1 x2 x3
  obtain ⟨x0, x1, x2, x3⟩ := Q2.out.all
  go_wp2_with fail
  refine (wadd_calls _ qy qy SW.out.2.2.1.fits SW.out.2.2.1.fits (small.fits SD.out.2.2.1) _).mono ?_
  rintro e w3 ⟨rfl, hb⟩
  have Q3 := Lh (Q2.out.below hb)
  have R3 := Lh (R2.out.below hb)
  have W3 := Lh (bthen W2.out hb)
  have O3 := Lh (O2.out.below hb)
  have G3 := Lh (G2.out.below hb)
  have lt3 : w.heap.size + 1 + 1 < w3.heap.size := by have := hb.size; omega
  have lq3 : w.heap.size < w3.heap.size := by omega
  clear hb Q2 R2 W2 O2 G2 lt2 lq2 x0 x1 x2 x3
  obtain ⟨x0, x1, x2, x3⟩ := Q3.out.all
  go_wp2_with fail
  refine (wadd_calls _ qz qz SW.out.2.2.2.fits SW.out.2.2.2.fits (small.fits SD.out.2.2.2) _).mono ?_
  rintro e w4 ⟨rfl, hb⟩
  have Q4 := Lh (Q3.out.below hb)
  have R4 := Lh (R3.out.below hb)
  have W4 := Lh (bthen W3.out hb)
  have O4 := Lh (O3.out.below hb)
  have G4 := Lh (G3.out.below hb)
  have lt4 : w.heap.size + 1 + 1 < w4.heap.size := by have := hb.size; omega
  have lq4 : w.heap.size < w4.heap.size := by omega
  clear hb Q3 R3 W3 O3 G3 lt3 lq3 x0 x1 x2 x3
  obtain ⟨x0, x1, x2, x3⟩ := Q4.out.all
  go_wp2_with fail
  refine (wsub_calls _ 0 qx F1.out.2 SW.out.2.1.fits (by have := small.fits SN.out.1; rwa [Int.zero_sub]) _).mono ?_
  rintro e w5 ⟨rfl, hb⟩
  have Q5 := Lh (Q4.out.below hb)
  have R5 := Lh (R4.out.below hb)
  have W5 := Lh (bthen W4.out hb)
  have O5 := Lh (O4.out.below hb)
  have G5 := Lh (G4.out.below hb)
  have lt5 : w.heap.size + 1 + 1 < w5.heap.size := by have := hb.size; omega
  have lq5 : w.heap.size < w5.heap.size := by omega
  clear hb Q4 R4 W4 O4 G4 lt4 lq4 x0 x1 x2 x3
  obtain ⟨x0, x1, x2, x3⟩ := Q5.out.all
  go_wp2_with fail
  refine (wsub_calls _ 0 qy F1.out.2 SW.out.2.2.1.fits (by have := small.fits SN.out.2.1; rwa [Int.zero_sub]) _).mono ?_
  rintro e w6 ⟨rfl, hb⟩
  have Q6 := Lh (Q5.out.below hb)
  have R6 := Lh (R5.out.below hb)
  have W6 := Lh (bthen W5.out hb)
  have O6 := Lh (O5.out.below hb)
  have G6 := Lh (G5.out.below hb)
  have lt6 : w.heap.size + 1 + 1 < w6.heap.size := by have := hb.size; omega
  have lq6 : w.heap.size < w6.heap.size := by omega
  clear hb Q5 R5 W5 O5 G5 lt5 lq5 x0 x1 x2 x3
  obtain ⟨x0, x1, x2, x3⟩ := Q6.out.all
  go_wp2_with fail
  refine (wsub_calls _ 0 qz F1.out.2 SW.out.2.2.2.fits (by have := small.fits SN.out.2.2; rwa [Int.zero_sub]) _).mono ?_
  rintro e w7 ⟨rfl, hb⟩
  have Q7 := Lh (Q6.out.below hb)
  have R7 := Lh (R6.out.below hb)
  have W7 := Lh (bthen W6.out hb)
  have O7 := Lh (O6.out.below hb)
  have G7 := Lh (G6.out.below hb)
  have lt7 : w.heap.size + 1 + 1 < w7.heap.size := by have := hb.size; omega
  have lq7 : w.heap.size < w7.heap.size := by omega
  clear hb Q6 R6 W6 O6 G6 lt6 lq6 x0 x1 x2 x3
  obtain ⟨x0, x1, x2, x3⟩ := Q7.out.all
  have Mn := Lh (show Nk (w7.alloc (.cells #[.int .i64 0, .int .i64 0, .int .i64 0, .int .i64 0, .int .i64 0, .int .i64 0, .int .i64 0, .int .i64 0, .int .i64 0] 138)) w7.heap.size 0 0 0 0 0 0 0 0 0 from heap_alloc_new w7 _)
  have hb : Below w7.heap.size w7 (w7.alloc (.cells #[.int .i64 0, .int .i64 0, .int .i64 0, .int .i64 0, .int .i64 0, .int .i64 0, .int .i64 0, .int .i64 0, .int .i64 0] 138)) := (Below.refl _ _).alloc (Nat.le_refl _) _
  go_wp2_with fail
  obtain ⟨w8, hw⟩ : ∃ w', w7.alloc (.cells #[.int .i64 0, .int .i64 0, .int .i64 0, .int .i64 0, .int .i64 0, .int .i64 0, .int .i64 0, .int .i64 0, .int .i64 0] 138) = w' := ⟨_, rfl⟩
  have ltm8 : w7.heap.size < w8.heap.size := by rw [← hw]; simp
  have hsz : w7.heap.size + 1 = w8.heap.size := by rw [← hw]; simp
  rw [hw] at hb Mn ⊢
  simp only [World.size_alloc, hsz]
  obtain ⟨MB, hMB⟩ : ∃ MB, w7.heap.size = MB := ⟨_, rfl⟩
  have hMB2 : w.heap.size + 1 + 1 < MB := by omega
  have Q8 := Lh (Q7.out.below hb)
  have R8 := Lh (R7.out.below hb)
  have W8 := Lh (bthen W7.out hb)
  have O8 := Lh (O7.out.below hb)
  have G8 := Lh (G7.out.below hb)
  have lt8 : w.heap.size + 1 + 1 < w8.heap.size := by have := hb.size; omega
  have lq8 : w.heap.size < w8.heap.size := by omega
  rw [hMB] at Mn ltm8 ⊢
  have M8 := Mn
  clear hb hw hsz hMB Mn Q7 R7 W7 O7 G7 lt7 lq7 x0 x1 x2 x3
  obtain ⟨x0, x1, x2, x3⟩ := Q8.out.all
  refine (wdot2_calls _ (qy + qy) (qz + qz) qy qz w8 SD.out.2.2.1 SD.out.2.2.2 SW.out.2.2.1 SW.out.2.2.2).mono ?_
  rintro e w9 ⟨rfl, hb⟩
  have Q9 := Lh (Q8.out.below hb)
  have R9 := Lh (R8.out.below hb)
  have W9 := Lh (bthen W8.out hb)
  have O9 := Lh (O8.out.below hb)
  have G9 := Lh (G8.out.below hb)
  have M9 := Lh (M8.out.below hb)
  have ltm9 : MB < w9.heap.size := by have := hb.size; omega
  have lt9 : w.heap.size + 1 + 1 < w9.heap.size := by have := hb.size; omega
  have lq9 : w.heap.size < w9.heap.size := by omega
  clear hb Q8 R8 W8 O8 G8 lt8 lq8 x0 x1 x2 x3 M8 ltm8
  obtain ⟨x0, x1, x2, x3⟩ := Q9.out.all
  go_wp2_with fail
  refine (wsub_calls _ 4294967296 (D2 (qy + qy) (qz + qz) qy qz) F1.out.1 (D2_fits SD.out.2.2.1 SD.out.2.2.2 SW.out.2.2.1 SW.out.2.2.2).1 (D2_fits SD.out.2.2.1 SD.out.2.2.2 SW.out.2.2.1 SW.out.2.2.2).2 _).mono ?_
  rintro e w10 ⟨rfl, hb⟩
  have Q10 := Lh (Q9.out.below hb)
  have R10 := Lh (R9.out.below hb)
  have W10 := Lh (bthen W9.out hb)
  have O10 := Lh (O9.out.below hb)
  have G10 := Lh (G9.out.below hb)
  have M10 := Lh (M9.out.below hb)
  have ltm10 : MB < w10.heap.size := by have := hb.size; omega
  have lt10 : w.heap.size + 1 + 1 < w10.heap.size := by have := hb.size; omega
  have lq10 : w.heap.size < w10.heap.size := by omega
  clear hb Q9 R9 W9 O9 G9 lt9 lq9 x0 x1 x2 x3 M9 ltm9
  obtain ⟨x0, x1, x2, x3⟩ := Q10.out.all
  have mc : w10.cell? ⟨MB, 0, none⟩ = some (.int .i64 0) := (blk_cell M10.out 0).trans rfl
  have mf : w10.frozen? ⟨MB, 0, none⟩ = false := blk_frozen M10.out 0
  have Mn := M10.out.set0 (4294967296 - D2 (qy + qy) (qz + qz) qy qz)
  have Qn := (Below.heap_setCell w10 ⟨MB, 0, none⟩ (.int .i64 (4294967296 - D2 (qy + qy) (qz + qz) qy qz)) w.heap.size (by simp; omega)).trans Q10.out
  have Rn := (Below.heap_setCell w10 ⟨MB, 0, none⟩ (.int .i64 (4294967296 - D2 (qy + qy) (qz + qz) qy qz)) (w.heap.size + 1) (by simp; omega)).trans R10.out
  have On := (Below.heap_setCell w10 ⟨MB, 0, none⟩ (.int .i64 (4294967296 - D2 (qy + qy) (qz + qz) qy qz)) (w.heap.size + 1 + 1) (by simp; omega)).trans O10.out
  have Wn := W10.out.setCell (p := ⟨MB, 0, none⟩) (by simp; omega) (.int .i64 (4294967296 - D2 (qy + qy) (qz + qz) qy qz))
  have ltn : w.heap.size + 1 + 1 < (w10.setCell ⟨MB, 0, none⟩ (.int .i64 (4294967296 - D2 (qy + qy) (qz + qz) qy qz))).heap.size := by simp; omega
  have ltmn : MB < (w10.setCell ⟨MB, 0, none⟩ (.int .i64 (4294967296 - D2 (qy + qy) (qz + qz) qy qz))).heap.size := by simp; omega
  have gne : g ≠ MB := by omega
  have Gn := (Below.heap_setCell w10 ⟨MB, 0, none⟩ (.int .i64 (4294967296 - D2 (qy + qy) (qz + qz) qy qz)) g (by simpa using gne)).trans G10.out
  obtain ⟨w11, hw⟩ : ∃ w', w10.setCell ⟨MB, 0, none⟩ (.int .i64 (4294967296 - D2 (qy + qy) (qz + qz) qy qz)) = w' := ⟨_, rfl⟩
  rw [hw] at Mn Qn Rn On Wn Gn ltn ltmn
  have Q11 : Hid (Qk w11 w.heap.size ⟨qw, qx, qy, qz⟩) := Lh Qn
  have R11 : Hid (Nk w11 (w.heap.size + 1) 0 0 0 0 0 0 0 0 0) := Lh Rn
  have O11 : Hid (Wk w11 (w.heap.size + 1 + 1)) := Lh On
  have G11 : Hid (Wk w11 g) := Lh Gn
  have W11 := Lh Wn
  have M11 := Lh Mn
  have lt11 := ltn
  have ltm11 := ltmn
  have lq11 : w.heap.size < w11.heap.size := by omega
  clear Mn Qn Rn On Wn Gn ltn ltmn gne Q10 R10 W10 O10 G10 M10 lt10 lq10 ltm10 x0 x1 x2 x3
  obtain ⟨x0, x1, x2, x3⟩ := Q11.out.all
  go_wp2_with fail
  clear mc mf hw
  refine (wdot2_calls _ (qx + qx) (qw + qw) qy (-qz) w11 SD.out.2.1 SD.out.1 SW.out.2.2.1 SN.out.2.2).mono ?_
  rintro e w12 ⟨rfl, hb⟩
  have Q12 := Lh (Q11.out.below hb)
  have R12 := Lh (R11.out.below hb)
  have W12 := Lh (bthen W11.out hb)
  have O12 := Lh (O11.out.below hb)
  have G12 := Lh (G11.out.below hb)
  have M12 := Lh (M11.out.below hb)
  have ltm12 : MB < w12.heap.size := by have := hb.size; omega
  have lt12 : w.heap.size + 1 + 1 < w12.heap.size := by have := hb.size; omega
  have lq12 : w.heap.size < w12.heap.size := by omega
  clear hb Q11 R11 W11 O11 G11 lt11 lq11 x0 x1 x2 x3 M11 ltm11
  obtain ⟨x0, x1, x2, x3⟩ := Q12.out.all
  have mc : w12.cell? ⟨MB, 1, none⟩ = some (.int .i64 0) := (blk_cell M12.out 1).trans rfl
  have mf : w12.frozen? ⟨MB, 1, none⟩ = false := blk_frozen M12.out 1
  have Mn := M12.out.set1 (D2 (qx + qx) (qw + qw) qy (-qz))
  have Qn := (Below.heap_setCell w12 ⟨MB, 1, none⟩ (.int .i64 (D2 (qx + qx) (qw + qw) qy (-qz))) w.heap.size (by simp; omega)).trans Q12.out
  have Rn := (Below.heap_setCell w12 ⟨MB, 1, none⟩ (.int .i64 (D2 (qx + qx) (qw + qw) qy (-qz))) (w.heap.size + 1) (by simp; omega)).trans R12.out
  have On := (Below.heap_setCell w12 ⟨MB, 1, none⟩ (.int .i64 (D2 (qx + qx) (qw + qw) qy (-qz))) (w.heap.size + 1 + 1) (by simp; omega)).trans O12.out
  have Wn := W12.out.setCell (p := ⟨MB, 1, none⟩) (by simp; omega) (.int .i64 (D2 (qx + qx) (qw + qw) qy (-qz)))
  have ltn : w.heap.size + 1 + 1 < (w12.setCell ⟨MB, 1, none⟩ (.int .i64 (D2 (qx + qx) (qw + qw) qy (-qz)))).heap.size := by simp; omega
  have ltmn : MB < (w12.setCell ⟨MB, 1, none⟩ (.int .i64 (D2 (qx + qx) (qw + qw) qy (-qz)))).heap.size := by simp; omega
  have gne : g ≠ MB := by omega
  have Gn := (Below.heap_setCell w12 ⟨MB, 1, none⟩ (.int .i64 (D2 (qx + qx) (qw + qw) qy (-qz))) g (by simpa using gne)).trans G12.out
  obtain ⟨w13, hw⟩ : ∃ w', w12.setCell ⟨MB, 1, none⟩ (.int .i64 (D2 (qx + qx) (qw + qw) qy (-qz))) = w' := ⟨_, rfl⟩
  rw [hw] at Mn Qn Rn On Wn Gn ltn ltmn
  have Q13 : Hid (Qk w13 w.heap.size ⟨qw, qx, qy, qz⟩) := Lh Qn
  have R13 : Hid (Nk w13 (w.heap.size + 1) 0 0 0 0 0 0 0 0 0) := Lh Rn
  have O13 : Hid (Wk w13 (w.heap.size + 1 + 1)) := Lh On
  have G13 : Hid (Wk w13 g) := Lh Gn
  have W13 := Lh Wn
  have M13 := Lh Mn
  have lt13 := ltn
  have ltm13 := ltmn
  have lq13 : w.heap.size < w13.heap.size := by omega
  clear Mn Qn Rn On Wn Gn ltn ltmn gne Q12 R12 W12 O12 G12 M12 lt12 lq12 ltm12 x0 x1 x2 x3
  obtain ⟨x0, x1, x2, x3⟩ := Q13.out.all
  go_wp2_with fail
  clear mc mf hw
  refine (wdot2_calls _ (qx + qx) (qw + qw) qz qy w13 SD.out.2.1 SD.out.1 SW.out.2.2.2 SW.out.2.2.1).mono ?_
  rintro e w14 ⟨rfl, hb⟩
  have Q14 := Lh (Q13.out.below hb)
  have R14 := Lh (R13.out.below hb)
  have W14 := Lh (bthen W13.out hb)
  have O14 := Lh (O13.out.below hb)
  have G14 := Lh (G13.out.below hb)
  have M14 := Lh (M13.out.below hb)
  have ltm14 : MB < w14.heap.size := by have := hb.size; omega
  have lt14 : w.heap.size + 1 + 1 < w14.heap.size := by have := hb.size; omega
  have lq14 : w.heap.size < w14.heap.size := by omega
  clear hb Q13 R13 W13 O13 G13 lt13 lq13 x0 x1 x2 x3 M13 ltm13
  obtain ⟨x0, x1, x2, x3⟩ := Q14.out.all
  have mc : w14.cell? ⟨MB, 2, none⟩ = some (.int .i64 0) := (blk_cell M14.out 2).trans rfl
  have mf : w14.frozen? ⟨MB, 2, none⟩ = false := blk_frozen M14.out 2
  have Mn := M14.out.set2 (D2 (qx + qx) (qw + qw) qz qy)
  have Qn := (Below.heap_setCell w14 ⟨MB, 2, none⟩ (.int .i64 (D2 (qx + qx) (qw + qw) qz qy)) w.heap.size (by simp; omega)).trans Q14.out
  have Rn := (Below.heap_setCell w14 ⟨MB, 2, none⟩ (.int .i64 (D2 (qx + qx) (qw + qw) qz qy)) (w.heap.size + 1) (by simp; omega)).trans R14.out
  have On := (Below.heap_setCell w14 ⟨MB, 2, none⟩ (.int .i64 (D2 (qx + qx) (qw + qw) qz qy)) (w.heap.size + 1 + 1) (by simp; omega)).trans O14.out
  have Wn := W14.out.setCell (p := ⟨MB, 2, none⟩) (by simp; omega) (.int .i64 (D2 (qx + qx) (qw + qw) qz qy))
  have ltn : w.heap.size + 1 + 1 < (w14.setCell ⟨MB, 2, none⟩ (.int .i64 (D2 (qx + qx) (qw + qw) qz qy))).heap.size := by simp; omega
  have ltmn : MB < (w14.setCell ⟨MB, 2, none⟩ (.int .i64 (D2 (qx + qx) (qw + qw) qz qy))).heap.size := by simp; omega
  have gne : g ≠ MB := by omega
  have Gn := (Below.heap_setCell w14 ⟨MB, 2, none⟩ (.int .i64 (D2 (qx + qx) (qw + qw) qz qy)) g (by simpa using gne)).trans G14.out
  obtain ⟨w15, hw⟩ : ∃ w', w14.setCell ⟨MB, 2, none⟩ (.int .i64 (D2 (qx + qx) (qw + qw) qz qy)) = w' := ⟨_, rfl⟩
  rw [hw] at Mn Qn Rn On Wn Gn ltn ltmn
  have Q15 : Hid (Qk w15 w.heap.size ⟨qw, qx, qy, qz⟩) := Lh Qn
  have R15 : Hid (Nk w15 (w.heap.size + 1) 0 0 0 0 0 0 0 0 0) := Lh Rn
  have O15 : Hid (Wk w15 (w.heap.size + 1 + 1)) := Lh On
  have G15 : Hid (Wk w15 g) := Lh Gn
  have W15 := Lh Wn
  have M15 := Lh Mn
  have lt15 := ltn
  have ltm15 := ltmn
  have lq15 : w.heap.size < w15.heap.size := by omega
  clear Mn Qn Rn On Wn Gn ltn ltmn gne Q14 R14 W14 O14 G14 M14 lt14 lq14 ltm14 x0 x1 x2 x3
  obtain ⟨x0, x1, x2, x3⟩ := Q15.out.all
  go_wp2_with fail
  clear mc mf hw
  refine (wdot2_calls _ (qx + qx) (qw + qw) qy qz w15 SD.out.2.1 SD.out.1 SW.out.2.2.1 SW.out.2.2.2).mono ?_
  rintro e w16 ⟨rfl, hb⟩
  have Q16 := Lh (Q15.out.below hb)
  have R16 := Lh (R15.out.below hb)
  have W16 := Lh (bthen W15.out hb)
  have O16 := Lh (O15.out.below hb)
  have G16 := Lh (G15.out.below hb)
  have M16 := Lh (M15.out.below hb)
  have ltm16 : MB < w16.heap.size := by have := hb.size; omega
  have lt16 : w.heap.size + 1 + 1 < w16.heap.size := by have := hb.size; omega
  have lq16 : w.heap.size < w16.heap.size := by omega
  clear hb Q15 R15 W15 O15 G15 lt15 lq15 x0 x1 x2 x3 M15 ltm15
  obtain ⟨x0, x1, x2, x3⟩ := Q16.out.all
  have mc : w16.cell? ⟨MB, 3, none⟩ = some (.int .i64 0) := (blk_cell M16.out 3).trans rfl
  have mf : w16.frozen? ⟨MB, 3, none⟩ = false := blk_frozen M16.out 3
  have Mn := M16.out.set3 (D2 (qx + qx) (qw + qw) qy qz)
  have Qn := (Below.heap_setCell w16 ⟨MB, 3, none⟩ (.int .i64 (D2 (qx + qx) (qw + qw) qy qz)) w.heap.size (by simp; omega)).trans Q16.out
  have Rn := (Below.heap_setCell w16 ⟨MB, 3, none⟩ (.int .i64 (D2 (qx + qx) (qw + qw) qy qz)) (w.heap.size + 1) (by simp; omega)).trans R16.out
  have On := (Below.heap_setCell w16 ⟨MB, 3, none⟩ (.int .i64 (D2 (qx + qx) (qw + qw) qy qz)) (w.heap.size + 1 + 1) (by simp; omega)).trans O16.out
  have Wn := W16.out.setCell (p := ⟨MB, 3, none⟩) (by simp; omega) (.int .i64 (D2 (qx + qx) (qw + qw) qy qz))
  have ltn : w.heap.size + 1 + 1 < (w16.setCell ⟨MB, 3, none⟩ (.int .i64 (D2 (qx + qx) (qw + qw) qy qz))).heap.size := by simp; omega
  have ltmn : MB < (w16.setCell ⟨MB, 3, none⟩ (.int .i64 (D2 (qx + qx) (qw + qw) qy qz))).heap.size := by simp; omega
  have gne : g ≠ MB := by omega
  have Gn := (Below.heap_setCell w16 ⟨MB, 3, none⟩ (.int .i64 (D2 (qx + qx) (qw + qw) qy qz)) g (by simpa using gne)).trans G16.out
  obtain ⟨w17, hw⟩ : ∃ w', w16.setCell ⟨MB, 3, none⟩ (.int .i64 (D2 (qx + qx) (qw + qw) qy qz)) = w' := ⟨_, rfl⟩
  rw [hw] at Mn Qn Rn On Wn Gn ltn ltmn
  have Q17 : Hid (Qk w17 w.heap.size ⟨qw, qx, qy, qz⟩) := Lh Qn
  have R17 : Hid (Nk w17 (w.heap.size + 1) 0 0 0 0 0 0 0 0 0) := Lh Rn
  have O17 : Hid (Wk w17 (w.heap.size + 1 + 1)) := Lh On
  have G17 : Hid (Wk w17 g) := Lh Gn
  have W17 := Lh Wn
  have M17 := Lh Mn
  have lt17 := ltn
  have ltm17 := ltmn
  have lq17 : w.heap.size < w17.heap.size := by omega
  clear Mn Qn Rn On Wn Gn ltn ltmn gne Q16 R16 W16 O16 G16 M16 lt16 lq16 ltm16 x0 x1 x2 x3
  obtain ⟨x0, x1, x2, x3⟩ := Q17.out.all
  go_wp2_with fail
  clear mc mf hw
  refine (wdot2_calls _ (qx + qx) (qz + qz) qx qz w17 SD.out.2.1 SD.out.2.2.2 SW.out.2.1 SW.out.2.2.2).mono ?_
  rintro e w18 ⟨rfl, hb⟩
  have Q18 := Lh (Q17.out.below hb)
  have R18 := Lh (R17.out.below hb)
  have W18 := Lh (bthen W17.out hb)
  have O18 := Lh (O17.out.below hb)
  have G18 := Lh (G17.out.below hb)
  have M18 := Lh (M17.out.below hb)
  have ltm18 : MB < w18.heap.size := by have := hb.size; omega
  have lt18 : w.heap.size + 1 + 1 < w18.heap.size := by have := hb.size; omega
  have lq18 : w.heap.size < w18.heap.size := by omega
  clear hb Q17 R17 W17 O17 G17 lt17 lq17 x0 x1 x2 x3 M17 ltm17
  obtain ⟨x0, x1, x2, x3⟩ := Q18.out.all
  go_wp2_with fail
  refine (wsub_calls _ 4294967296 (D2 (qx + qx) (qz + qz) qx qz) F1.out.1 (D2_fits SD.out.2.1 SD.out.2.2.2 SW.out.2.1 SW.out.2.2.2).1 (D2_fits SD.out.2.1 SD.out.2.2.2 SW.out.2.1 SW.out.2.2.2).2 _).mono ?_
  rintro e w19 ⟨rfl, hb⟩
  have Q19 := Lh (Q18.out.below hb)
  have R19 := Lh (R18.out.below hb)
  have W19 := Lh (bthen W18.out hb)
  have O19 := Lh (O18.out.below hb)
  have G19 := Lh (G18.out.below hb)
  have M19 := Lh (M18.out.below hb)
  have ltm19 : MB < w19.heap.size := by have := hb.size; omega
  have lt19 : w.heap.size + 1 + 1 < w19.heap.size := by have := hb.size; omega
  have lq19 : w.heap.size < w19.heap.size := by omega
  clear hb Q18 R18 W18 O18 G18 lt18 lq18 x0 x1 x2 x3 M18 ltm18
  obtain ⟨x0, x1, x2, x3⟩ := Q19.out.all
  have mc : w19.cell? ⟨MB, 4, none⟩ = some (.int .i64 0) := (blk_cell M19.out 4).trans rfl
  have mf : w19.frozen? ⟨MB, 4, none⟩ = false := blk_frozen M19.out 4
  have Mn := M19.out.set4 (4294967296 - D2 (qx + qx) (qz + qz) qx qz)
  have Qn := (Below.heap_setCell w19 ⟨MB, 4, none⟩ (.int .i64 (4294967296 - D2 (qx + qx) (qz + qz) qx qz)) w.heap.size (by simp; omega)).trans Q19.out
  have Rn := (Below.heap_setCell w19 ⟨MB, 4, none⟩ (.int .i64 (4294967296 - D2 (qx + qx) (qz + qz) qx qz)) (w.heap.size + 1) (by simp; omega)).trans R19.out
  have On := (Below.heap_setCell w19 ⟨MB, 4, none⟩ (.int .i64 (4294967296 - D2 (qx + qx) (qz + qz) qx qz)) (w.heap.size + 1 + 1) (by simp; omega)).trans O19.out
  have Wn := W19.out.setCell (p := ⟨MB, 4, none⟩) (by simp; omega) (.int .i64 (4294967296 - D2 (qx + qx) (qz + qz) qx qz))
  have ltn : w.heap.size + 1 + 1 < (w19.setCell ⟨MB, 4, none⟩ (.int .i64 (4294967296 - D2 (qx + qx) (qz + qz) qx qz))).heap.size := by simp; omega
  have ltmn : MB < (w19.setCell ⟨MB, 4, none⟩ (.int .i64 (4294967296 - D2 (qx + qx) (qz + qz) qx qz))).heap.size := by simp; omega
  have gne : g ≠ MB := by omega
  have Gn := (Below.heap_setCell w19 ⟨MB, 4, none⟩ (.int .i64 (4294967296 - D2 (qx + qx) (qz + qz) qx qz)) g (by simpa using gne)).trans G19.out
  obtain ⟨w20, hw⟩ : ∃ w', w19.setCell ⟨MB, 4, none⟩ (.int .i64 (4294967296 - D2 (qx + qx) (qz + qz) qx qz)) = w' := ⟨_, rfl⟩
  rw [hw] at Mn Qn Rn On Wn Gn ltn ltmn
  have Q20 : Hid (Qk w20 w.heap.size ⟨qw, qx, qy, qz⟩) := Lh Qn
  have R20 : Hid (Nk w20 (w.heap.size + 1) 0 0 0 0 0 0 0 0 0) := Lh Rn
  have O20 : Hid (Wk w20 (w.heap.size + 1 + 1)) := Lh On
  have G20 : Hid (Wk w20 g) := Lh Gn
  have W20 := Lh Wn
  have M20 := Lh Mn
  have lt20 := ltn
  have ltm20 := ltmn
  have lq20 : w.heap.size < w20.heap.size := by omega
  clear Mn Qn Rn On Wn Gn ltn ltmn gne Q19 R19 W19 O19 G19 M19 lt19 lq19 ltm19 x0 x1 x2 x3
  obtain ⟨x0, x1, x2, x3⟩ := Q20.out.all
  go_wp2_with fail
  clear mc mf hw
  refine (wdot2_calls _ (qy + qy) (qw + qw) qz (-qx) w20 SD.out.2.2.1 SD.out.1 SW.out.2.2.2 SN.out.1).mono ?_
  rintro e w21 ⟨rfl, hb⟩
  have Q21 := Lh (Q20.out.below hb)
  have R21 := Lh (R20.out.below hb)
  have W21 := Lh (bthen W20.out hb)
  have O21 := Lh (O20.out.below hb)
  have G21 := Lh (G20.out.below hb)
  have M21 := Lh (M20.out.below hb)
  have ltm21 : MB < w21.heap.size := by have := hb.size; omega
  have lt21 : w.heap.size + 1 + 1 < w21.heap.size := by have := hb.size; omega
  have lq21 : w.heap.size < w21.heap.size := by omega
  clear hb Q20 R20 W20 O20 G20 lt20 lq20 x0 x1 x2 x3 M20 ltm20
  obtain ⟨x0, x1, x2, x3⟩ := Q21.out.all
  have mc : w21.cell? ⟨MB, 5, none⟩ = some (.int .i64 0) := (blk_cell M21.out 5).trans rfl
  have mf : w21.frozen? ⟨MB, 5, none⟩ = false := blk_frozen M21.out 5
  have Mn := M21.out.set5 (D2 (qy + qy) (qw + qw) qz (-qx))
  have Qn := (Below.heap_setCell w21 ⟨MB, 5, none⟩ (.int .i64 (D2 (qy + qy) (qw + qw) qz (-qx))) w.heap.size (by simp; omega)).trans Q21.out
  have Rn := (Below.heap_setCell w21 ⟨MB, 5, none⟩ (.int .i64 (D2 (qy + qy) (qw + qw) qz (-qx))) (w.heap.size + 1) (by simp; omega)).trans R21.out
  have On := (Below.heap_setCell w21 ⟨MB, 5, none⟩ (.int .i64 (D2 (qy + qy) (qw + qw) qz (-qx))) (w.heap.size + 1 + 1) (by simp; omega)).trans O21.out
  have Wn := W21.out.setCell (p := ⟨MB, 5, none⟩) (by simp; omega) (.int .i64 (D2 (qy + qy) (qw + qw) qz (-qx)))
  have ltn : w.heap.size + 1 + 1 < (w21.setCell ⟨MB, 5, none⟩ (.int .i64 (D2 (qy + qy) (qw + qw) qz (-qx)))).heap.size := by simp; omega
  have ltmn : MB < (w21.setCell ⟨MB, 5, none⟩ (.int .i64 (D2 (qy + qy) (qw + qw) qz (-qx)))).heap.size := by simp; omega
  have gne : g ≠ MB := by omega
  have Gn := (Below.heap_setCell w21 ⟨MB, 5, none⟩ (.int .i64 (D2 (qy + qy) (qw + qw) qz (-qx))) g (by simpa using gne)).trans G21.out
  obtain ⟨w22, hw⟩ : ∃ w', w21.setCell ⟨MB, 5, none⟩ (.int .i64 (D2 (qy + qy) (qw + qw) qz (-qx))) = w' := ⟨_, rfl⟩
  rw [hw] at Mn Qn Rn On Wn Gn ltn ltmn
  have Q22 : Hid (Qk w22 w.heap.size ⟨qw, qx, qy, qz⟩) := Lh Qn
  have R22 : Hid (Nk w22 (w.heap.size + 1) 0 0 0 0 0 0 0 0 0) := Lh Rn
  have O22 : Hid (Wk w22 (w.heap.size + 1 + 1)) := Lh On
  have G22 : Hid (Wk w22 g) := Lh Gn
  have W22 := Lh Wn
  have M22 := Lh Mn
  have lt22 := ltn
  have ltm22 := ltmn
  have lq22 : w.heap.size < w22.heap.size := by omega
  clear Mn Qn Rn On Wn Gn ltn ltmn gne Q21 R21 W21 O21 G21 M21 lt21 lq21 ltm21 x0 x1 x2 x3
  obtain ⟨x0, x1, x2, x3⟩ := Q22.out.all
  go_wp2_with fail
  clear mc mf hw
  refine (wdot2_calls _ (qx + qx) (qw + qw) qz (-qy) w22 SD.out.2.1 SD.out.1 SW.out.2.2.2 SN.out.2.1).mono ?_
  rintro e w23 ⟨rfl, hb⟩
  have Q23 := Lh (Q22.out.below hb)
  have R23 := Lh (R22.out.below hb)
  have W23 := Lh (bthen W22.out hb)
  have O23 := Lh (O22.out.below hb)
  have G23 := Lh (G22.out.below hb)
  have M23 := Lh (M22.out.below hb)
  have ltm23 : MB < w23.heap.size := by have := hb.size; omega
  have lt23 : w.heap.size + 1 + 1 < w23.heap.size := by have := hb.size; omega
  have lq23 : w.heap.size < w23.heap.size := by omega
  clear hb Q22 R22 W22 O22 G22 lt22 lq22 x0 x1 x2 x3 M22 ltm22
  obtain ⟨x0, x1, x2, x3⟩ := Q23.out.all
  have mc : w23.cell? ⟨MB, 6, none⟩ = some (.int .i64 0) := (blk_cell M23.out 6).trans rfl
  have mf : w23.frozen? ⟨MB, 6, none⟩ = false := blk_frozen M23.out 6
  have Mn := M23.out.set6 (D2 (qx + qx) (qw + qw) qz (-qy))
  have Qn := (Below.heap_setCell w23 ⟨MB, 6, none⟩ (.int .i64 (D2 (qx + qx) (qw + qw) qz (-qy))) w.heap.size (by simp; omega)).trans Q23.out
  have Rn := (Below.heap_setCell w23 ⟨MB, 6, none⟩ (.int .i64 (D2 (qx + qx) (qw + qw) qz (-qy))) (w.heap.size + 1) (by simp; omega)).trans R23.out
  have On := (Below.heap_setCell w23 ⟨MB, 6, none⟩ (.int .i64 (D2 (qx + qx) (qw + qw) qz (-qy))) (w.heap.size + 1 + 1) (by simp; omega)).trans O23.out
  have Wn := W23.out.setCell (p := ⟨MB, 6, none⟩) (by simp; omega) (.int .i64 (D2 (qx + qx) (qw + qw) qz (-qy)))
  have ltn : w.heap.size + 1 + 1 < (w23.setCell ⟨MB, 6, none⟩ (.int .i64 (D2 (qx + qx) (qw + qw) qz (-qy)))).heap.size := by simp; omega
  have ltmn : MB < (w23.setCell ⟨MB, 6, none⟩ (.int .i64 (D2 (qx + qx) (qw + qw) qz (-qy)))).heap.size := by simp; omega
  have gne : g ≠ MB := by omega
  have Gn := (Below.heap_setCell w23 ⟨MB, 6, none⟩ (.int .i64 (D2 (qx + qx) (qw + qw) qz (-qy))) g (by simpa using gne)).trans G23.out
  obtain ⟨w24, hw⟩ : ∃ w', w23.setCell ⟨MB, 6, none⟩ (.int .i64 (D2 (qx + qx) (qw + qw) qz (-qy))) = w' := ⟨_, rfl⟩
  rw [hw] at Mn Qn Rn On Wn Gn ltn ltmn
  have Q24 : Hid (Qk w24 w.heap.size ⟨qw, qx, qy, qz⟩) := Lh Qn
  have R24 : Hid (Nk w24 (w.heap.size + 1) 0 0 0 0 0 0 0 0 0) := Lh Rn
  have O24 : Hid (Wk w24 (w.heap.size + 1 + 1)) := Lh On
  have G24 : Hid (Wk w24 g) := Lh Gn
  have W24 := Lh Wn
  have M24 := Lh Mn
  have lt24 := ltn
  have ltm24 := ltmn
  have lq24 : w.heap.size < w24.heap.size := by omega
  clear Mn Qn Rn On Wn Gn ltn ltmn gne Q23 R23 W23 O23 G23 M23 lt23 lq23 ltm23 x0 x1 x2 x3
  obtain ⟨x0, x1, x2, x3⟩ := Q24.out.all
  go_wp2_with fail
  clear mc mf hw
  refine (wdot2_calls _ (qy + qy) (qw + qw) qz qx w24 SD.out.2.2.1 SD.out.1 SW.out.2.2.2 SW.out.2.1).mono ?_
  rintro e w25 ⟨rfl, hb⟩
  have Q25 := Lh (Q24.out.below hb)
  have R25 := Lh (R24.out.below hb)
  have W25 := Lh (bthen W24.out hb)
  have O25 := Lh (O24.out.below hb)
  have G25 := Lh (G24.out.below hb)
  have M25 := Lh (M24.out.below hb)
  have ltm25 : MB < w25.heap.size := by have := hb.size; omega
  have lt25 : w.heap.size + 1 + 1 < w25.heap.size := by have := hb.size; omega
  have lq25 : w.heap.size < w25.heap.size := by omega
  clear hb Q24 R24 W24 O24 G24 lt24 lq24 x0 x1 x2 x3 M24 ltm24
  obtain ⟨x0, x1, x2, x3⟩ := Q25.out.all
  have mc : w25.cell? ⟨MB, 7, none⟩ = some (.int .i64 0) := (blk_cell M25.out 7).trans rfl
  have mf : w25.frozen? ⟨MB, 7, none⟩ = false := blk_frozen M25.out 7
  have Mn := M25.out.set7 (D2 (qy + qy) (qw + qw) qz qx)
  have Qn := (Below.heap_setCell w25 ⟨MB, 7, none⟩ (.int .i64 (D2 (qy + qy) (qw + qw) qz qx)) w.heap.size (by simp; omega)).trans Q25.out
  have Rn := (Below.heap_setCell w25 ⟨MB, 7, none⟩ (.int .i64 (D2 (qy + qy) (qw + qw) qz qx)) (w.heap.size + 1) (by simp; omega)).trans R25.out
  have On := (Below.heap_setCell w25 ⟨MB, 7, none⟩ (.int .i64 (D2 (qy + qy) (qw + qw) qz qx)) (w.heap.size + 1 + 1) (by simp; omega)).trans O25.out
  have Wn := W25.out.setCell (p := ⟨MB, 7, none⟩) (by simp; omega) (.int .i64 (D2 (qy + qy) (qw + qw) qz qx))
  have ltn : w.heap.size + 1 + 1 < (w25.setCell ⟨MB, 7, none⟩ (.int .i64 (D2 (qy + qy) (qw + qw) qz qx))).heap.size := by simp; omega
  have ltmn : MB < (w25.setCell ⟨MB, 7, none⟩ (.int .i64 (D2 (qy + qy) (qw + qw) qz qx))).heap.size := by simp; omega
  have gne : g ≠ MB := by omega
  have Gn := (Below.heap_setCell w25 ⟨MB, 7, none⟩ (.int .i64 (D2 (qy + qy) (qw + qw) qz qx)) g (by simpa using gne)).trans G25.out
  obtain ⟨w26, hw⟩ : ∃ w', w25.setCell ⟨MB, 7, none⟩ (.int .i64 (D2 (qy + qy) (qw + qw) qz qx)) = w' := ⟨_, rfl⟩
  rw [hw] at Mn Qn Rn On Wn Gn ltn ltmn
  have Q26 : Hid (Qk w26 w.heap.size ⟨qw, qx, qy, qz⟩) := Lh Qn
  have R26 : Hid (Nk w26 (w.heap.size + 1) 0 0 0 0 0 0 0 0 0) := Lh Rn
  have O26 : Hid (Wk w26 (w.heap.size + 1 + 1)) := Lh On
  have G26 : Hid (Wk w26 g) := Lh Gn
  have W26 := Lh Wn
  have M26 := Lh Mn
  have lt26 := ltn
  have ltm26 := ltmn
  have lq26 : w.heap.size < w26.heap.size := by omega
  clear Mn Qn Rn On Wn Gn ltn ltmn gne Q25 R25 W25 O25 G25 M25 lt25 lq25 ltm25 x0 x1 x2 x3
  obtain ⟨x0, x1, x2, x3⟩ := Q26.out.all
  go_wp2_with fail
  clear mc mf hw
  refine (wdot2_calls _ (qx + qx) (qy + qy) qx qy w26 SD.out.2.1 SD.out.2.2.1 SW.out.2.1 SW.out.2.2.1).mono ?_
  rintro e w27 ⟨rfl, hb⟩
  have Q27 := Lh (Q26.out.below hb)
  have R27 := Lh (R26.out.below hb)
  have W27 := Lh (bthen W26.out hb)
  have O27 := Lh (O26.out.below hb)
  have G27 := Lh (G26.out.below hb)
  have M27 := Lh (M26.out.below hb)
  have ltm27 : MB < w27.heap.size := by have := hb.size; omega
  have lt27 : w.heap.size + 1 + 1 < w27.heap.size := by have := hb.size; omega
  have lq27 : w.heap.size < w27.heap.size := by omega
  clear hb Q26 R26 W26 O26 G26 lt26 lq26 x0 x1 x2 x3 M26 ltm26
  obtain ⟨x0, x1, x2, x3⟩ := Q27.out.all
  go_wp2_with fail
  refine (wsub_calls _ 4294967296 (D2 (qx + qx) (qy + qy) qx qy) F1.out.1 (D2_fits SD.out.2.1 SD.out.2.2.1 SW.out.2.1 SW.out.2.2.1).1 (D2_fits SD.out.2.1 SD.out.2.2.1 SW.out.2.1 SW.out.2.2.1).2 _).mono ?_
  rintro e w28 ⟨rfl, hb⟩
  have Q28 := Lh (Q27.out.below hb)
  have R28 := Lh (R27.out.below hb)
  have W28 := Lh (bthen W27.out hb)
  have O28 := Lh (O27.out.below hb)
  have G28 := Lh (G27.out.below hb)
  have M28 := Lh (M27.out.below hb)
  have ltm28 : MB < w28.heap.size := by have := hb.size; omega
  have lt28 : w.heap.size + 1 + 1 < w28.heap.size := by have := hb.size; omega
  have lq28 : w.heap.size < w28.heap.size := by omega
  clear hb Q27 R27 W27 O27 G27 lt27 lq27 x0 x1 x2 x3 M27 ltm27
  obtain ⟨x0, x1, x2, x3⟩ := Q28.out.all
  have mc : w28.cell? ⟨MB, 8, none⟩ = some (.int .i64 0) := (blk_cell M28.out 8).trans rfl
  have mf : w28.frozen? ⟨MB, 8, none⟩ = false := blk_frozen M28.out 8
  have Mn := M28.out.set8 (4294967296 - D2 (qx + qx) (qy + qy) qx qy)
  have Qn := (Below.heap_setCell w28 ⟨MB, 8, none⟩ (.int .i64 (4294967296 - D2 (qx + qx) (qy + qy) qx qy)) w.heap.size (by simp; omega)).trans Q28.out
  have Rn := (Below.heap_setCell w28 ⟨MB, 8, none⟩ (.int .i64 (4294967296 - D2 (qx + qx) (qy + qy) qx qy)) (w.heap.size + 1) (by simp; omega)).trans R28.out
  have On := (Below.heap_setCell w28 ⟨MB, 8, none⟩ (.int .i64 (4294967296 - D2 (qx + qx) (qy + qy) qx qy)) (w.heap.size + 1 + 1) (by simp; omega)).trans O28.out
  have Wn := W28.out.setCell (p := ⟨MB, 8, none⟩) (by simp; omega) (.int .i64 (4294967296 - D2 (qx + qx) (qy + qy) qx qy))
  have ltn : w.heap.size + 1 + 1 < (w28.setCell ⟨MB, 8, none⟩ (.int .i64 (4294967296 - D2 (qx + qx) (qy + qy) qx qy))).heap.size := by simp; omega
  have ltmn : MB < (w28.setCell ⟨MB, 8, none⟩ (.int .i64 (4294967296 - D2 (qx + qx) (qy + qy) qx qy))).heap.size := by simp; omega
  have gne : g ≠ MB := by omega
  have Gn := (Below.heap_setCell w28 ⟨MB, 8, none⟩ (.int .i64 (4294967296 - D2 (qx + qx) (qy + qy) qx qy)) g (by simpa using gne)).trans G28.out
  obtain ⟨w29, hw⟩ : ∃ w', w28.setCell ⟨MB, 8, none⟩ (.int .i64 (4294967296 - D2 (qx + qx) (qy + qy) qx qy)) = w' := ⟨_, rfl⟩
  rw [hw] at Mn Qn Rn On Wn Gn ltn ltmn
  have Q29 : Hid (Qk w29 w.heap.size ⟨qw, qx, qy, qz⟩) := Lh Qn
  have R29 : Hid (Nk w29 (w.heap.size + 1) 0 0 0 0 0 0 0 0 0) := Lh Rn
  have O29 : Hid (Wk w29 (w.heap.size + 1 + 1)) := Lh On
  have G29 : Hid (Wk w29 g) := Lh Gn
  have W29 := Lh Wn
  have M29 := Lh Mn
  have lt29 := ltn
  have ltm29 := ltmn
  have lq29 : w.heap.size < w29.heap.size := by omega
  clear Mn Qn Rn On Wn Gn ltn ltmn gne Q28 R28 W28 O28 G28 M28 lt28 lq28 ltm28 x0 x1 x2 x3
  obtain ⟨x0, x1, x2, x3⟩ := Q29.out.all
  go_wp2_with fail
  clear mc mf hw
  refine (done_calls g (w.heap.size + 1 + 1) w29 G29.out.cell G29.out.fz O29.out.cell).mono ?_
  rintro e w30 ⟨rfl, rfl⟩
  clear x0 x1 x2 x3
  have HF : rowsF ⟨qw, qx, qy, qz⟩ = ⟨⟨4294967296 - D2 (qy + qy) (qz + qz) qy qz, D2 (qx + qx) (qw + qw) qy (-qz), D2 (qx + qx) (qw + qw) qz qy⟩, ⟨D2 (qx + qx) (qw + qw) qy qz, 4294967296 - D2 (qx + qx) (qz + qz) qx qz, D2 (qy + qy) (qw + qw) qz (-qx)⟩, ⟨D2 (qx + qx) (qw + qw) qz (-qy), D2 (qy + qy) (qw + qw) qz qx, 4294967296 - D2 (qx + qx) (qy + qy) qx qy⟩⟩ := rfl
  have HFF := Lh HF
  clear HF
  generalize 4294967296 - D2 (qy + qy) (qz + qz) qy qz = r0 at M29 HFF
  generalize D2 (qx + qx) (qw + qw) qy (-qz) = r1 at M29 HFF
  generalize D2 (qx + qx) (qw + qw) qz qy = r2 at M29 HFF
  generalize D2 (qx + qx) (qw + qw) qy qz = r3 at M29 HFF
  generalize 4294967296 - D2 (qx + qx) (qz + qz) qx qz = r4 at M29 HFF
  generalize D2 (qy + qy) (qw + qw) qz (-qx) = r5 at M29 HFF
  generalize D2 (qx + qx) (qw + qw) qz (-qy) = r6 at M29 HFF
  generalize D2 (qy + qy) (qw + qw) qz qx = r7 at M29 HFF
  generalize 4294967296 - D2 (qx + qx) (qy + qy) qx qy = r8 at M29 HFF
  have m0 : w30.cell? ⟨MB, 0, none⟩ = some (.int .i64 r0) := (blk_cell M29.out 0).trans rfl
  have k0 : w30.cell? ⟨w.heap.size + 1, 0, none⟩ = some (.int .i64 0) := (blk_cell R29.out 0).trans rfl
  have f0 : w30.frozen? ⟨w.heap.size + 1, 0, none⟩ = false := blk_frozen R29.out 0
  have m1 : w30.cell? ⟨MB, 1, none⟩ = some (.int .i64 r1) := (blk_cell M29.out 1).trans rfl
  have k1 : w30.cell? ⟨w.heap.size + 1, 1, none⟩ = some (.int .i64 0) := (blk_cell R29.out 1).trans rfl
  have f1 : w30.frozen? ⟨w.heap.size + 1, 1, none⟩ = false := blk_frozen R29.out 1
  have m2 : w30.cell? ⟨MB, 2, none⟩ = some (.int .i64 r2) := (blk_cell M29.out 2).trans rfl
  have k2 : w30.cell? ⟨w.heap.size + 1, 2, none⟩ = some (.int .i64 0) := (blk_cell R29.out 2).trans rfl
  have f2 : w30.frozen? ⟨w.heap.size + 1, 2, none⟩ = false := blk_frozen R29.out 2
  have m3 : w30.cell? ⟨MB, 3, none⟩ = some (.int .i64 r3) := (blk_cell M29.out 3).trans rfl
  have k3 : w30.cell? ⟨w.heap.size + 1, 3, none⟩ = some (.int .i64 0) := (blk_cell R29.out 3).trans rfl
  have f3 : w30.frozen? ⟨w.heap.size + 1, 3, none⟩ = false := blk_frozen R29.out 3
  have m4 : w30.cell? ⟨MB, 4, none⟩ = some (.int .i64 r4) := (blk_cell M29.out 4).trans rfl
  have k4 : w30.cell? ⟨w.heap.size + 1, 4, none⟩ = some (.int .i64 0) := (blk_cell R29.out 4).trans rfl
  have f4 : w30.frozen? ⟨w.heap.size + 1, 4, none⟩ = false := blk_frozen R29.out 4
  have m5 : w30.cell? ⟨MB, 5, none⟩ = some (.int .i64 r5) := (blk_cell M29.out 5).trans rfl
  have k5 : w30.cell? ⟨w.heap.size + 1, 5, none⟩ = some (.int .i64 0) := (blk_cell R29.out 5).trans rfl
  have f5 : w30.frozen? ⟨w.heap.size + 1, 5, none⟩ = false := blk_frozen R29.out 5
  have m6 : w30.cell? ⟨MB, 6, none⟩ = some (.int .i64 r6) := (blk_cell M29.out 6).trans rfl
  have k6 : w30.cell? ⟨w.heap.size + 1, 6, none⟩ = some (.int .i64 0) := (blk_cell R29.out 6).trans rfl
  have f6 : w30.frozen? ⟨w.heap.size + 1, 6, none⟩ = false := blk_frozen R29.out 6
  have m7 : w30.cell? ⟨MB, 7, none⟩ = some (.int .i64 r7) := (blk_cell M29.out 7).trans rfl
  have k7 : w30.cell? ⟨w.heap.size + 1, 7, none⟩ = some (.int .i64 0) := (blk_cell R29.out 7).trans rfl
  have f7 : w30.frozen? ⟨w.heap.size + 1, 7, none⟩ = false := blk_frozen R29.out 7
  have m8 : w30.cell? ⟨MB, 8, none⟩ = some (.int .i64 r8) := (blk_cell M29.out 8).trans rfl
  have k8 : w30.cell? ⟨w.heap.size + 1, 8, none⟩ = some (.int .i64 0) := (blk_cell R29.out 8).trans rfl
  have f8 : w30.frozen? ⟨w.heap.size + 1, 8, none⟩ = false := blk_frozen R29.out 8
  have HS : Nk _ _ _ _ _ _ _ _ _ _ _ := blk9 R29.out (.int .i64 r0) (.int .i64 r1) (.int .i64 r2) (.int .i64 r3) (.int .i64 r4) (.int .i64 r5) (.int .i64 r6) (.int .i64 r7) (.int .i64 r8)
  have HW := below_set9 W29.out (g := w.heap.size + 1) (by omega) (.int .i64 r0) (.int .i64 r1) (.int .i64 r2) (.int .i64 r3) (.int .i64 r4) (.int .i64 r5) (.int .i64 r6) (.int .i64 r7) (.int .i64 r8)
  obtain ⟨V, hV⟩ : ∃ V, set9 w30 (w.heap.size + 1) (.int .i64 r0) (.int .i64 r1) (.int .i64 r2) (.int .i64 r3) (.int .i64 r4) (.int .i64 r5) (.int .i64 r6) (.int .i64 r7) (.int .i64 r8) = V := ⟨_, rfl⟩
  rw [hV] at HS HW
  have t0 : V.cell? ⟨w.heap.size + 1, 0, none⟩ = some (.int .i64 r0) := (blk_cell HS 0).trans rfl
  have t1 : V.cell? ⟨w.heap.size + 1, 1, none⟩ = some (.int .i64 r1) := (blk_cell HS 1).trans rfl
  have t2 : V.cell? ⟨w.heap.size + 1, 2, none⟩ = some (.int .i64 r2) := (blk_cell HS 2).trans rfl
  have t3 : V.cell? ⟨w.heap.size + 1, 3, none⟩ = some (.int .i64 r3) := (blk_cell HS 3).trans rfl
  have t4 : V.cell? ⟨w.heap.size + 1, 4, none⟩ = some (.int .i64 r4) := (blk_cell HS 4).trans rfl
  have t5 : V.cell? ⟨w.heap.size + 1, 5, none⟩ = some (.int .i64 r5) := (blk_cell HS 5).trans rfl
  have t6 : V.cell? ⟨w.heap.size + 1, 6, none⟩ = some (.int .i64 r6) := (blk_cell HS 6).trans rfl
  have t7 : V.cell? ⟨w.heap.size + 1, 7, none⟩ = some (.int .i64 r7) := (blk_cell HS 7).trans rfl
  have t8 : V.cell? ⟨w.heap.size + 1, 8, none⟩ = some (.int .i64 r8) := (blk_cell HS 8).trans rfl
  unfold set9 at hV
  have HV := Lh hV
  have HW := Lh HW
  clear hV HS
  go_wp2
  rw [HV.out, HFF.out]
  exact bodyPost_ret (v := aM ⟨⟨r0, r1, r2⟩, ⟨r3, r4, r5⟩, ⟨r6, r7, r8⟩⟩) (by simp [results, Try.results108, go_sem, t0, t1, t2, t3, t4, t5, t6, t7, t8]) rfl ⟨rfl, HW.out⟩
end Go.Proofs.Ytckdhahceelckaa.G
namespace Go.Proofs.Ytckdhahceelckaa.G
open Go.RowKit Go.Proofs.YtckdhahceelckaaW.PrintWords Go.Proofs.YtckdhahceelckaaW.PrintLast Go.Proofs.YtckdhahceelckaaW.PrintMore
attribute [local go_sem] max2_mx min2_mn max_two min_two max_three min_three max_four min_four
set_option linter.unusedVariables false
set_option linter.unusedSimpArgs false
theorem bs1 {W : World} {g : Nat} {b0 : Value} {t : TypeId} (h : W.heap[g]? = some (.cells #[b0] t (0, 0))) (a0 : Value) :
    (W.setCell ⟨g, 0, none⟩ a0).heap[g]? = some (.cells #[a0] t (0, 0)) := by
  have h0 := blk_set h 0 a0
  simp only [List.setIfInBounds_toArray, List.set_cons_zero, List.set_cons_succ] at h0
  exact h0
theorem bs3 {W : World} {g : Nat} {b0 b1 b2 : Value} {t : TypeId} (h : W.heap[g]? = some (.cells #[b0, b1, b2] t (0, 0))) (a0 a1 a2 : Value) :
    (((W.setCell ⟨g, 0, none⟩ a0).setCell ⟨g, 1, none⟩ a1).setCell ⟨g, 2, none⟩ a2).heap[g]? = some (.cells #[a0, a1, a2] t (0, 0)) := by
  have h0 := blk_set h 0 a0
  have h1 := blk_set h0 1 a1
  have h2 := blk_set h1 2 a2
  simp only [List.setIfInBounds_toArray, List.set_cons_zero, List.set_cons_succ] at h2
  exact h2
theorem bb3 {B : Nat} {A W : World} {g : Nat} (h : Below B A W) (hg : B ≤ g) (a0 a1 a2 : Value) : Below B A (((W.setCell ⟨g, 0, none⟩ a0).setCell ⟨g, 1, none⟩ a1).setCell ⟨g, 2, none⟩ a2) := (((h.setCell (p := ⟨g, 0, none⟩) hg a0).setCell (p := ⟨g, 1, none⟩) hg a1).setCell (p := ⟨g, 2, none⟩) hg a2)
theorem bo3 {W : World} {g k : Nat} (h : k ≠ g) (a0 a1 a2 : Value) : (((W.setCell ⟨g, 0, none⟩ a0).setCell ⟨g, 1, none⟩ a1).setCell ⟨g, 2, none⟩ a2).heap[k]? = W.heap[k]? :=
  (Below.heap_setCell _ _ _ k h).trans ( (Below.heap_setCell _ _ _ k h).trans ( (Below.heap_setCell _ _ _ k h)))
theorem bs4 {W : World} {g : Nat} {b0 b1 b2 b3 : Value} {t : TypeId} (h : W.heap[g]? = some (.cells #[b0, b1, b2, b3] t (0, 0))) (a0 a1 a2 a3 : Value) :
    ((((W.setCell ⟨g, 0, none⟩ a0).setCell ⟨g, 1, none⟩ a1).setCell ⟨g, 2, none⟩ a2).setCell ⟨g, 3, none⟩ a3).heap[g]? = some (.cells #[a0, a1, a2, a3] t (0, 0)) := by
  have h0 := blk_set h 0 a0
  have h1 := blk_set h0 1 a1
  have h2 := blk_set h1 2 a2
  have h3 := blk_set h2 3 a3
  simp only [List.setIfInBounds_toArray, List.set_cons_zero, List.set_cons_succ] at h3
  exact h3
theorem bb4 {B : Nat} {A W : World} {g : Nat} (h : Below B A W) (hg : B ≤ g) (a0 a1 a2 a3 : Value) : Below B A ((((W.setCell ⟨g, 0, none⟩ a0).setCell ⟨g, 1, none⟩ a1).setCell ⟨g, 2, none⟩ a2).setCell ⟨g, 3, none⟩ a3) := ((((h.setCell (p := ⟨g, 0, none⟩) hg a0).setCell (p := ⟨g, 1, none⟩) hg a1).setCell (p := ⟨g, 2, none⟩) hg a2).setCell (p := ⟨g, 3, none⟩) hg a3)
theorem bo4 {W : World} {g k : Nat} (h : k ≠ g) (a0 a1 a2 a3 : Value) : ((((W.setCell ⟨g, 0, none⟩ a0).setCell ⟨g, 1, none⟩ a1).setCell ⟨g, 2, none⟩ a2).setCell ⟨g, 3, none⟩ a3).heap[k]? = W.heap[k]? :=
  (Below.heap_setCell _ _ _ k h).trans ( (Below.heap_setCell _ _ _ k h).trans ( (Below.heap_setCell _ _ _ k h).trans ( (Below.heap_setCell _ _ _ k h))))
theorem bs6 {W : World} {g : Nat} {b0 b1 b2 b3 b4 b5 : Value} {t : TypeId} (h : W.heap[g]? = some (.cells #[b0, b1, b2, b3, b4, b5] t (0, 0))) (a0 a1 a2 a3 a4 a5 : Value) :
    ((((((W.setCell ⟨g, 0, none⟩ a0).setCell ⟨g, 1, none⟩ a1).setCell ⟨g, 2, none⟩ a2).setCell ⟨g, 3, none⟩ a3).setCell ⟨g, 4, none⟩ a4).setCell ⟨g, 5, none⟩ a5).heap[g]? = some (.cells #[a0, a1, a2, a3, a4, a5] t (0, 0)) := by
  have h0 := blk_set h 0 a0
  have h1 := blk_set h0 1 a1
  have h2 := blk_set h1 2 a2
  have h3 := blk_set h2 3 a3
  have h4 := blk_set h3 4 a4
  have h5 := blk_set h4 5 a5
  simp only [List.setIfInBounds_toArray, List.set_cons_zero, List.set_cons_succ] at h5
  exact h5
theorem bb6 {B : Nat} {A W : World} {g : Nat} (h : Below B A W) (hg : B ≤ g) (a0 a1 a2 a3 a4 a5 : Value) : Below B A ((((((W.setCell ⟨g, 0, none⟩ a0).setCell ⟨g, 1, none⟩ a1).setCell ⟨g, 2, none⟩ a2).setCell ⟨g, 3, none⟩ a3).setCell ⟨g, 4, none⟩ a4).setCell ⟨g, 5, none⟩ a5) := ((((((h.setCell (p := ⟨g, 0, none⟩) hg a0).setCell (p := ⟨g, 1, none⟩) hg a1).setCell (p := ⟨g, 2, none⟩) hg a2).setCell (p := ⟨g, 3, none⟩) hg a3).setCell (p := ⟨g, 4, none⟩) hg a4).setCell (p := ⟨g, 5, none⟩) hg a5)
theorem bs7 {W : World} {g : Nat} {b0 b1 b2 b3 b4 b5 b6 : Value} {t : TypeId} (h : W.heap[g]? = some (.cells #[b0, b1, b2, b3, b4, b5, b6] t (0, 0))) (a0 a1 a2 a3 a4 a5 a6 : Value) :
    (((((((W.setCell ⟨g, 0, none⟩ a0).setCell ⟨g, 1, none⟩ a1).setCell ⟨g, 2, none⟩ a2).setCell ⟨g, 3, none⟩ a3).setCell ⟨g, 4, none⟩ a4).setCell ⟨g, 5, none⟩ a5).setCell ⟨g, 6, none⟩ a6).heap[g]? = some (.cells #[a0, a1, a2, a3, a4, a5, a6] t (0, 0)) := by
  have h0 := blk_set h 0 a0
  have h1 := blk_set h0 1 a1
  have h2 := blk_set h1 2 a2
  have h3 := blk_set h2 3 a3
  have h4 := blk_set h3 4 a4
  have h5 := blk_set h4 5 a5
  have h6 := blk_set h5 6 a6
  simp only [List.setIfInBounds_toArray, List.set_cons_zero, List.set_cons_succ] at h6
  exact h6
theorem bb7 {B : Nat} {A W : World} {g : Nat} (h : Below B A W) (hg : B ≤ g) (a0 a1 a2 a3 a4 a5 a6 : Value) : Below B A (((((((W.setCell ⟨g, 0, none⟩ a0).setCell ⟨g, 1, none⟩ a1).setCell ⟨g, 2, none⟩ a2).setCell ⟨g, 3, none⟩ a3).setCell ⟨g, 4, none⟩ a4).setCell ⟨g, 5, none⟩ a5).setCell ⟨g, 6, none⟩ a6) := (((((((h.setCell (p := ⟨g, 0, none⟩) hg a0).setCell (p := ⟨g, 1, none⟩) hg a1).setCell (p := ⟨g, 2, none⟩) hg a2).setCell (p := ⟨g, 3, none⟩) hg a3).setCell (p := ⟨g, 4, none⟩) hg a4).setCell (p := ⟨g, 5, none⟩) hg a5).setCell (p := ⟨g, 6, none⟩) hg a6)
theorem ha_new {B : Nat} {A W : World} (h : Below B A W) (o : Obj) : (W.alloc o).heap[W.heap.size]? = some o := heap_alloc_new W o
/-- a raw number as one from -m to m -/
def partF (c m : Int) : Int := pickF c (2 * m + 1) - m
theorem partF_bd (c m : Int) (hm : 0 < m) : -m ≤ partF c m ∧ partF c m ≤ m := by have := pickF_bd c (2 * m + 1) (by omega); unfold partF; omega
set_option maxHeartbeats 1000000 in
theorem pick6_calls (c n : Int) (hc1 : -9223372036854775808 ≤ c) (hc2 : c ≤ 9223372036854775807) (hn : 0 < n) (hn2 : n ≤ 1152921504606846976) (w : World) :
    Calls Try.prog 162 #[.int .i64 c, .int .i64 n] w fun e w' => e = .returned (.int .i64 (pickF c n)) ∧ w' = w := by
  have hb := pickF_bd c n hn
  have hn0 : n ≠ 0 := by omega
  have hn1 : n ≠ -1 := by omega
  by_cases h : c < 0
  · have hd : decide (c < 0) = true := by simpa using h
    have e1 : IntKind.i64.wrap (c + 1) = c + 1 := iw_id _ (by omega) (by omega)
    have e2 : IntKind.i64.wrap (-(c + 1)) = -(c + 1) := iw_id _ (by omega) (by omega)
    have e3 : pickF c n = (-(c + 1)).tmod n := by unfold pickF; rw [if_pos h]
    have e4 : IntKind.i64.wrap ((-(c + 1)).tmod n) = (-(c + 1)).tmod n := iw_id _ (by rw [← e3]; omega) (by rw [← e3]; omega)
    rw [e3]
    go_enter Try.func162, Try.ntmps162
    go_wp2
    go_ret
    exact ⟨by show Ending.returned (Value.int .i64 (-(c + 1).tmod n)) = _; rw [Int.neg_tmod], rfl⟩
  · have hd : decide (c < 0) = false := by simpa using h
    have e3 : pickF c n = c.tmod n := by unfold pickF; rw [if_neg h]
    have e4 : IntKind.i64.wrap (c.tmod n) = c.tmod n := iw_id _ (by rw [← e3]; omega) (by rw [← e3]; omega)
    rw [e3]
    go_enter Try.func162, Try.ntmps162
    go_wp2
    go_ret
    exact ⟨by show Ending.returned (Value.int .i64 (c % n)) = _; rw [Int.tmod_eq_emod_of_nonneg (by omega)], rfl⟩
set_option maxHeartbeats 1000000 in
theorem part6_calls (c m : Int) (hc1 : -9223372036854775808 ≤ c) (hc2 : c ≤ 9223372036854775807) (hm : 0 < m) (hm2 : m ≤ 288230376151711744) (w : World) :
    Calls Try.prog 107 #[.int .i64 c, .int .i64 m] w fun e w' => e = .returned (.int .i64 (partF c m)) ∧ w' = w := by
  have hb := pickF_bd c (2 * m + 1) (by omega)
  have hq := Lh (pick6_calls c (2 * m + 1) hc1 hc2 (by omega) (by omega))
  have hf : Hid (partF c m = pickF c (2 * m + 1) - m) := Lh rfl
  obtain ⟨x, hx⟩ : ∃ x, pickF c (2 * m + 1) = x := ⟨_, rfl⟩
  rw [hx] at hq hf hb
  clear hx
  obtain ⟨b1, b2⟩ := hb
  go_enter Try.func107, Try.ntmps107
  go_wp2_with fail
  refine (hq.out _).mono ?_
  rintro e w1 ⟨rfl, rfl⟩
  go_wp2
  go_ret
  exact ⟨by rw [hf.out]; rfl, rfl⟩
set_option maxHeartbeats 1000000 in
theorem pick5_calls (c n : Int) (hc1 : -9223372036854775808 ≤ c) (hc2 : c ≤ 9223372036854775807) (hn : 0 < n) (hn2 : n ≤ 1152921504606846976) (w : World) :
    Calls Try.prog 104 #[.int .i64 c, .int .i64 n] w fun e w' => e = .returned (.int .i64 (pickF c n)) ∧ w' = w := by
  have hb := pickF_bd c n hn
  have hn0 : n ≠ 0 := by omega
  have hn1 : n ≠ -1 := by omega
  by_cases h : c < 0
  · have hd : decide (c < 0) = true := by simpa using h
    have e1 : IntKind.i64.wrap (c + 1) = c + 1 := iw_id _ (by omega) (by omega)
    have e2 : IntKind.i64.wrap (-(c + 1)) = -(c + 1) := iw_id _ (by omega) (by omega)
    have e3 : pickF c n = (-(c + 1)).tmod n := by unfold pickF; rw [if_pos h]
    have e4 : IntKind.i64.wrap ((-(c + 1)).tmod n) = (-(c + 1)).tmod n := iw_id _ (by rw [← e3]; omega) (by rw [← e3]; omega)
    rw [e3]
    go_enter Try.func104, Try.ntmps104
    go_wp2
    go_ret
    exact ⟨by show Ending.returned (Value.int .i64 (-(c + 1).tmod n)) = _; rw [Int.neg_tmod], rfl⟩
  · have hd : decide (c < 0) = false := by simpa using h
    have e3 : pickF c n = c.tmod n := by unfold pickF; rw [if_neg h]
    have e4 : IntKind.i64.wrap (c.tmod n) = c.tmod n := iw_id _ (by rw [← e3]; omega) (by rw [← e3]; omega)
    rw [e3]
    go_enter Try.func104, Try.ntmps104
    go_wp2
    go_ret
    exact ⟨by show Ending.returned (Value.int .i64 (c % n)) = _; rw [Int.tmod_eq_emod_of_nonneg (by omega)], rfl⟩
set_option maxHeartbeats 1000000 in
theorem part5_calls (c m : Int) (hc1 : -9223372036854775808 ≤ c) (hc2 : c ≤ 9223372036854775807) (hm : 0 < m) (hm2 : m ≤ 288230376151711744) (w : World) :
    Calls Try.prog 105 #[.int .i64 c, .int .i64 m] w fun e w' => e = .returned (.int .i64 (partF c m)) ∧ w' = w := by
  have hb := pickF_bd c (2 * m + 1) (by omega)
  have hq := Lh (pick5_calls c (2 * m + 1) hc1 hc2 (by omega) (by omega))
  have hf : Hid (partF c m = pickF c (2 * m + 1) - m) := Lh rfl
  obtain ⟨x, hx⟩ : ∃ x, pickF c (2 * m + 1) = x := ⟨_, rfl⟩
  rw [hx] at hq hf hb
  clear hx
  obtain ⟨b1, b2⟩ := hb
  go_enter Try.func105, Try.ntmps105
  go_wp2_with fail
  refine (hq.out _).mono ?_
  rintro e w1 ⟨rfl, rfl⟩
  go_wp2
  go_ret
  exact ⟨by rw [hf.out]; rfl, rfl⟩
set_option maxHeartbeats 4000000 in
theorem whole_bad (g : Nat) (q : Q4) (w : World) (hg : Wk w g) (h1 : raw40 q.w) (h2 : raw40 q.x) (h3 : raw40 q.y) (h4 : raw40 q.z) (hn : lenF q < 2147483648) :
    Calls Try.prog 106 #[.pointer (some ⟨g, 0, none⟩), aQ q] w fun e w' => e = .returned (aQ ⟨0, 0, 0, 0⟩) ∧ Below g w w' ∧ w'.cell? ⟨g, 0, none⟩ = some (.bool true) ∧ ∀ k, k < w.heap.size → k ≠ g → w'.heap[k]? = w.heap[k]? := by
  obtain ⟨qw, qx, qy, qz⟩ := q
  have HG := Lh hg
  have hgl : g < w.heap.size := blk_lt hg
  have HL : Hid (∀ x ∈ [qw, qx, qy, qz], fits x) := Lh (by intro x hx; simp at hx; rcases hx with rfl | rfl | rfl | rfl; exact h1.fits; exact h2.fits; exact h3.fits; exact h4.fits)
  have HS : Hid (dotL [qw, qx, qy, qz] [qw, qx, qy, qz] < 21267647932558653966460912964485513216) := Lh (by
    rw [dotL4]; have a := h1.sq; have b := h2.sq; have c := h3.sq; have d := h4.sq; simp only at a b c d; omega)
  have HN : Hid (rtI (dotL [qw, qx, qy, qz] [qw, qx, qy, qz]) = lenF ⟨qw, qx, qy, qz⟩) := Lh (by rw [dotL4]; rfl)
  clear hg h1 h2 h3 h4
  obtain ⟨N, hN⟩ : ∃ N, lenF ⟨qw, qx, qy, qz⟩ = N := ⟨_, rfl⟩
  rw [hN] at HN hn
  clear hN
  have hd : decide (N < 2147483648) = true := by simpa using hn
  go_enter Try.func106, Try.ntmps106
  go_wp2_with fail
  refine (bare_w_calls _).mono ?_
  rintro e w1 ⟨rfl, hw1⟩
  have Q1 : Hid (Qk w1 w.heap.size ⟨qw, qx, qy, qz⟩) := Lh (by rw [hw1]; exact (Below.heap_alloc _ _ _ (by simp; omega)).trans ((Below.heap_alloc _ _ _ (by simp)).trans (heap_alloc_new w _)))
  have R1 : Hid (Qk w1 (w.heap.size + 1) ⟨0, 0, 0, 0⟩) := Lh (by
    rw [hw1]
    have h := heap_alloc_new (w.alloc (.cells #[.int .i64 qw, .int .i64 qx, .int .i64 qy, .int .i64 qz] 29)) (.cells #[.int .i64 0, .int .i64 0, .int .i64 0, .int .i64 0] 29)
    rw [World.size_alloc] at h
    exact (Below.heap_alloc _ _ _ (by simp)).trans h)
  have W1 := Lh (show Below w.heap.size w w1 by rw [hw1]; exact (((Below.refl _ w).alloc (Nat.le_refl _) _).alloc (by simp) _).alloc (by simp; omega) _)
  have G1 := Lh (HG.out.below W1.out)
  have lt1 : w.heap.size + 1 + 1 < w1.heap.size := by rw [hw1]; simp
  have lq1 : w.heap.size < w1.heap.size := by omega
  clear hw1 HG
  simp only [World.size_alloc]
  obtain ⟨x0, x1, x2, x3⟩ := Q1.out.all
  go_wp2_with fail
  refine (norm_calls _ [qw, qx, qy, qz] _ 4 _ (RdI.of4 (heap_alloc_new w1 _)) (by simp) (by simp) HL.out HS.out).mono ?_
  rintro e w2 ⟨rfl, hb⟩
  rw [HN.out]
  have R2 := Lh ((R1.out.below ((Below.refl _ _).alloc (Nat.le_refl _) (.cells #[.int .i64 qw, .int .i64 qx, .int .i64 qy, .int .i64 qz] 3))).below hb)
  have G2 := Lh ((G1.out.alloc (.cells #[.int .i64 qw, .int .i64 qx, .int .i64 qy, .int .i64 qz] 3)).below hb)
  have W2 := Lh (bthen (W1.out.alloc W1.out.size (.cells #[.int .i64 qw, .int .i64 qx, .int .i64 qy, .int .i64 qz] 3)) hb)
  clear hb Q1 R1 G1 W1 lt1 lq1 x0 x1 x2 x3
  have g0 := G2.out.cell
  have g1 := G2.out.fz
  have G3 := Lh (show (w2.setCell ⟨g, 0, none⟩ (.bool true)).heap[g]? = some (.cells #[.bool true] 85 (0, 0)) from bs1 G2.out _)
  have R3 : Hid (Qk (w2.setCell ⟨g, 0, none⟩ (.bool true)) (w.heap.size + 1) ⟨0, 0, 0, 0⟩) := Lh ((Below.heap_setCell w2 ⟨g, 0, none⟩ (.bool true) (w.heap.size + 1) (by simp; omega)).trans R2.out)
  have W3 := Lh ((W2.out.mono (Nat.le_of_lt hgl)).setCell (p := ⟨g, 0, none⟩) (Nat.le_refl _) (.bool true))
  have K3 := Lh (fun (k : Nat) (hk : k < w.heap.size) (hne : k ≠ g) => (Below.heap_setCell w2 ⟨g, 0, none⟩ (.bool true) k (by simpa using hne)).trans (W2.out.block k hk))
  obtain ⟨w3, hw3⟩ : ∃ w3, w2.setCell ⟨g, 0, none⟩ (.bool true) = w3 := ⟨_, rfl⟩
  rw [hw3] at G3 R3 W3 K3
  obtain ⟨c0, c1, c2, c3⟩ := R3.out.all
  obtain ⟨f0, f1, f2, f3⟩ := R3.out.fzs
  go_wp2
  exact bodyPost_ret (v := aQ ⟨0, 0, 0, 0⟩) (by simp [results, Try.results106, go_sem, c0, c1, c2, c3]) rfl ⟨rfl, below_set4 W3.out (by omega) _ _ _ _, (blk_cell ((bo4 (show g ≠ w.heap.size + 1 by omega) _ _ _ _).trans G3.out) 0).trans rfl, fun k hk hne => (bo4 (show k ≠ w.heap.size + 1 by omega) _ _ _ _).trans (K3.out k hk hne)⟩
end Go.Proofs.Ytckdhahceelckaa.G
