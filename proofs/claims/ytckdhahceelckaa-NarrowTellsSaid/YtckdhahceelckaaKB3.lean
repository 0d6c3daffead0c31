/- What the laws of this claim lean on: contracts of the functions that they reach, and plain lemmas; no condition of its own (part 3 of 4; the texts XW19, XW20, XR1, XR2, XR4, XG5, XG1, XG2, XN18, XN19, XN20, XN21, XG3, XG9, XR5, XW21, XW22, XR3, XG6, XG4, XR10, XR11). -/
import Derived.Test.YtckdhahceelckaaKB2
import Derived.BigQuiet
import Derived.Lib.SmallJoins
import Derived.Maps.AppendAt
namespace Go.Proofs.Ytckdhahceelckaa.G
open Go.RowKit Go.Proofs.YtckdhahceelckaaW.PrintWords Go.Proofs.YtckdhahceelckaaW.PrintLast Go.Proofs.YtckdhahceelckaaW.PrintMore
attribute [local go_sem] max2_mx min2_mn max_two min_two max_three min_three max_four min_four
set_option linter.unusedVariables false
set_option linter.unusedSimpArgs false
/-- a pose: where, and how it is turned -/
structure P7 where
  at_ : P3
  turn : Q4
abbrev cP7 (p : P7) : Array Value := #[.int .i64 p.at_.x, .int .i64 p.at_.y, .int .i64 p.at_.z, .int .i64 p.turn.w, .int .i64 p.turn.x, .int .i64 p.turn.y, .int .i64 p.turn.z]
def partQ (q : Q4) : Q4 := ⟨partF q.w 1099511627776, partF q.x 1099511627776, partF q.y 1099511627776, partF q.z 1099511627776⟩
def partV (p : P3) : P3 := ⟨partF p.x 4398046511104, partF p.y 4398046511104, partF p.z 4398046511104⟩
def wholeF (q : Q4) : Q4 := if lenF q < 2147483648 then ⟨4294967296, 0, 0, 0⟩ else unitF q
def rightPose (p : P7) : P7 := ⟨partV p.at_, wholeF (partQ p.turn)⟩
def i64 (x : Int) : Prop := -9223372036854775808 ≤ x ∧ x ≤ 9223372036854775807
def i64s (p : P7) : Prop := i64 p.at_.x ∧ i64 p.at_.y ∧ i64 p.at_.z ∧ i64 p.turn.w ∧ i64 p.turn.x ∧ i64 p.turn.y ∧ i64 p.turn.z
/-- block g holds a pose -/
def Pk (w : World) (g : Nat) (t : TypeId) (p : P7) : Prop := w.heap[g]? = some (.cells (cP7 p) t (0, 0))
theorem Wk.of {w : World} {g : Nat} (h : w.heap[g]? = some (.cells #[.bool false] 85 (0, 0))) : Wk w g := h
theorem part_raw (x : Int) : raw40 (partF x 1099511627776) := by have := partF_bd x 1099511627776 (by decide); exact this
set_option maxHeartbeats 4000000 in
set_option maxRecDepth 100000 in
theorem right6_good (p : P7) (w : World) (hp : i64s p) (hn : 2147483648 ≤ lenF (partQ p.turn)) :
    Calls Try.prog 55 #[.agg (cP7 p)] w fun e w' => e = .returned (.agg (cP7 (rightPose p))) ∧ Below w.heap.size w w' := by
  obtain ⟨⟨ax, ay, az⟩, ⟨tw, tx, ty, tz⟩⟩ := p
  obtain ⟨i1, i2, i3, i4, i5, i6, i7⟩ := hp
  have HR : Hid (raw40 (partF tw 1099511627776) ∧ raw40 (partF tx 1099511627776) ∧ raw40 (partF ty 1099511627776) ∧ raw40 (partF tz 1099511627776)) := Lib.hid ⟨part_raw _, part_raw _, part_raw _, part_raw _⟩
  have hptw := Lib.hid (part6_calls tw 1099511627776 i4.1 i4.2 (by decide) (by decide))
  have hptx := Lib.hid (part6_calls tx 1099511627776 i5.1 i5.2 (by decide) (by decide))
  have hpty := Lib.hid (part6_calls ty 1099511627776 i6.1 i6.2 (by decide) (by decide))
  have hptz := Lib.hid (part6_calls tz 1099511627776 i7.1 i7.2 (by decide) (by decide))
  have hpax := Lib.hid (part6_calls ax 4398046511104 i1.1 i1.2 (by decide) (by decide))
  have hpay := Lib.hid (part6_calls ay 4398046511104 i2.1 i2.2 (by decide) (by decide))
  have hpaz := Lib.hid (part6_calls az 4398046511104 i3.1 i3.2 (by decide) (by decide))
  clear i1 i2 i3 i4 i5 i6 i7
  have HE := Lib.hid (show rightPose ⟨⟨ax, ay, az⟩, ⟨tw, tx, ty, tz⟩⟩ = ⟨⟨partF ax 4398046511104, partF ay 4398046511104, partF az 4398046511104⟩, wholeF ⟨partF tw 1099511627776, partF tx 1099511627776, partF ty 1099511627776, partF tz 1099511627776⟩⟩ from rfl)
  have HN : Hid _ := Lib.hid hn
  change Hid (2147483648 ≤ lenF (⟨partF tw 1099511627776, partF tx 1099511627776, partF ty 1099511627776, partF tz 1099511627776⟩)) at HN
  clear hn
  generalize partF tw 1099511627776 = qa at *
  generalize partF tx 1099511627776 = qb at *
  generalize partF ty 1099511627776 = qc at *
  generalize partF tz 1099511627776 = qd at *
  generalize partF ax 4398046511104 = ra at *
  generalize partF ay 4398046511104 = rb at *
  generalize partF az 4398046511104 = rc at *
  go_enter Try.func55, Try.ntmps55
  go_wp2_with fail
  obtain ⟨w1, hw1⟩ : ∃ w1, ((w.alloc (.cells #[.int .i64 ax, .int .i64 ay, .int .i64 az, .int .i64 tw, .int .i64 tx, .int .i64 ty, .int .i64 tz] 31)).alloc (.cells #[.int .i64 0, .int .i64 0, .int .i64 0, .int .i64 0, .int .i64 0, .int .i64 0, .int .i64 0] 92)).alloc (.cells #[.bool false] 85) = w1 := ⟨_, rfl⟩
  have RA : Hid (w1.heap[w.heap.size]? = some (.cells #[.int .i64 ax, .int .i64 ay, .int .i64 az, .int .i64 tw, .int .i64 tx, .int .i64 ty, .int .i64 tz] 31 (0, 0))) := Lib.hid (by rw [← hw1]; exact three0 _ _ _ _)
  have RZ : Hid (w1.heap[w.heap.size + 1]? = some (.cells #[.int .i64 0, .int .i64 0, .int .i64 0, .int .i64 0, .int .i64 0, .int .i64 0, .int .i64 0] 92 (0, 0))) := Lib.hid (by rw [← hw1]; exact three1 _ _ _ _)
  have WK : Hid (Wk w1 (w.heap.size + 1 + 1)) := Lib.hid (by rw [← hw1]; exact three2 _ _ _ _)
  have WKh : Hid (w1.heap[w.heap.size + 1 + 1]? = some (.cells #[.bool false] 85 (0, 0))) := WK
  have HW1 := Lib.hid (show Below w.heap.size w w1 by rw [← hw1]; exact (((Below.refl _ w).alloc (Nat.le_refl _) _).alloc (by simp) _).alloc (by simp; omega) _)
  have hz1 : w1.heap.size = w.heap.size + 1 + 1 + 1 := by rw [← hw1]; simp
  rw [hw1]
  clear hw1
  have y3 : w1.cell? ⟨w.heap.size, 3, none⟩ = some (.int .i64 tw) := (blk_cell RA.out 3).trans rfl
  have y4 : w1.cell? ⟨w.heap.size, 4, none⟩ = some (.int .i64 tx) := (blk_cell RA.out 4).trans rfl
  have y5 : w1.cell? ⟨w.heap.size, 5, none⟩ = some (.int .i64 ty) := (blk_cell RA.out 5).trans rfl
  have y6 : w1.cell? ⟨w.heap.size, 6, none⟩ = some (.int .i64 tz) := (blk_cell RA.out 6).trans rfl
  have ltq : w.heap.size < w1.heap.size := by omega
  have ltz : w.heap.size + 1 < w1.heap.size := by omega
  have ltg : w.heap.size + 1 + 1 < w1.heap.size := by omega
  have HZ1 := Lib.hid hz1
  clear hz1
  have hU : Hid (wholeF ⟨qa, qb, qc, qd⟩ = unitF ⟨qa, qb, qc, qd⟩) := Lib.hid (by unfold wholeF; rw [if_neg (by have := HN.out; omega)])
  obtain ⟨⟨ua, ub, uc, ud⟩, hu⟩ : ∃ u, unitF ⟨qa, qb, qc, qd⟩ = u := ⟨_, rfl⟩
  have HWh := Lib.hid (fun (W : World) (h : Wk W (w.heap.size + 1 + 1)) => whole_good (w.heap.size + 1 + 1) ⟨qa, qb, qc, qd⟩ W h HR.out.1 HR.out.2.1 HR.out.2.2.1 HR.out.2.2.2 HN.out)
  rw [hu] at hU HWh
  clear hu
  have HB := Lib.hid ((Below.refl (w1.heap.size) w1).drew)
  have FF := Lib.hid (show ∀ V, Hid (Below (w1.heap.size) w1 V) → V.cell? ⟨w.heap.size, 3, none⟩ = some (.int .i64 tw) ∧ V.cell? ⟨w.heap.size, 4, none⟩ = some (.int .i64 tx) ∧ V.cell? ⟨w.heap.size, 5, none⟩ = some (.int .i64 ty) ∧ V.cell? ⟨w.heap.size, 6, none⟩ = some (.int .i64 tz) from fun V HB => ⟨(HB.out.cell (p := ⟨w.heap.size, 3, none⟩) (ltq)).trans y3, (HB.out.cell (p := ⟨w.heap.size, 4, none⟩) (ltq)).trans y4, (HB.out.cell (p := ⟨w.heap.size, 5, none⟩) (ltq)).trans y5, (HB.out.cell (p := ⟨w.heap.size, 6, none⟩) (ltq)).trans y6⟩)
  refine start_ (n := 21) (S := fun w' => w'.cell? ⟨w.heap.size, 3, none⟩ = some (.int .i64 tw) ∧ w'.cell? ⟨w.heap.size, 4, none⟩ = some (.int .i64 tx) ∧ w'.cell? ⟨w.heap.size, 5, none⟩ = some (.int .i64 ty) ∧ w'.cell? ⟨w.heap.size, 6, none⟩ = some (.int .i64 tz)) (ds := []) (MT 0 21) (by kernel_rfl) rfl rfl (FF.out _ HB) (fun hHeld => ?_)
  obtain ⟨wd, hwd⟩ : ∃ x, w1.drew = x := ⟨_, rfl⟩
  rw [hwd] at HB hHeld ⊢
  clear hwd
  refine pu_ 0 7 (h := ?_)
  refine pu_ 1 8 (h := ?_)
  refine pu_ 2 9 (h := ?_)
  refine pu_ 5 12 (h := ?_)
  refine pu_ 6 13 (h := ?_)
  refine pu_ 9 16 (h := ?_)
  refine pu_ 10 17 (h := ?_)
  refine pu_ 13 20 (h := ?_)
  refine pu_ 14 21 (h := ?_)
  refine ta_ 3 10 hHeld (h := ?_)
  refine ta_ 7 14 hHeld (h := ?_)
  refine ta_ 11 18 hHeld (h := ?_)
  refine ta_ 15 22 hHeld (h := ?_)
  refine join_ (σ := Nat) 1 (MT 20 1) (fun s => [(4, .pointer (some ⟨s, 0, none⟩)), (11, .int .i64 qa), (15, .int .i64 qb), (19, .int .i64 qc), (23, .int .i64 qd), (24, aQ ⟨qa, qb, qc, qd⟩), (25, aQ ⟨ua, ub, uc, ud⟩)]) (fun s w' => w1.heap.size ≤ s ∧ w'.heap[s]? = some (.cells #[.int .i64 0, .int .i64 0, .int .i64 0, .int .i64 0] 29 (0, 0)) ∧ Below (w1.heap.size) w1 w') ?_ ?_
  rotate_left
  · intro hCont
    refine two_ (i := 4) (j := 19) (Ni := some 11) (Nj := some 4) #[true, true, true, true, true, true, true, true, false, true, true, true, false, true, true, true, false, false, false, false, false] #[true, true, true, true, false, true, true, true, false, true, true, true, false, true, true, true, false, false, false, true, false] rfl rfl rfl rfl (by kernel_rfl) (by decide) (by decide) (fun K hK => ?_) (fun K hK => ?_)
    · skip
      refine goes_ Try.func107 (by kernel_rfl) rfl #[.int .i64 tw, .int .i64 1099511627776] (by rfl) rfl rfl (by simp only [List.map_toArray, List.map_cons, List.map_nil]; rfl) ?_
      with_reducible refine (hptw.out _).mono ?_
      rintro e w3 ⟨rfl, rfl⟩
      refine ⟨_, rfl, ?_⟩
      refine hK.out _ _ (FF.out _ HB) (fun hHeld => ?_)
      clear hK K
      refine no_ (h := ?_)
      refine two_ (i := 8) (j := 19) (Ni := some 15) (Nj := some 4) #[true, true, true, true, true, true, true, true, true, true, true, true, false, true, true, true, false, false, false, false, false] #[true, true, true, true, true, true, true, true, false, true, true, true, false, true, true, true, false, false, false, true, false] rfl rfl rfl rfl (by kernel_rfl) (by decide) (by decide) (fun K hK => ?_) (fun K hK => ?_)
      · skip
        refine goes_ Try.func107 (by kernel_rfl) rfl #[.int .i64 tx, .int .i64 1099511627776] (by rfl) rfl rfl (by simp only [List.map_toArray, List.map_cons, List.map_nil]; rfl) ?_
        with_reducible refine (hptx.out _).mono ?_
        rintro e w3 ⟨rfl, rfl⟩
        refine ⟨_, rfl, ?_⟩
        refine hK.out _ _ (FF.out _ HB) (fun hHeld => ?_)
        clear hK K
        refine no_ (h := ?_)
        refine two_ (i := 12) (j := 19) (Ni := some 19) (Nj := some 4) (MT 16 5) #[true, true, true, true, true, true, true, true, true, true, true, true, false, true, true, true, false, false, false, true, false] rfl rfl rfl rfl (by kernel_rfl) (by decide) (by decide) (fun K hK => ?_) (fun K hK => ?_)
        · skip
          refine goes_ Try.func107 (by kernel_rfl) rfl #[.int .i64 ty, .int .i64 1099511627776] (by rfl) rfl rfl (by simp only [List.map_toArray, List.map_cons, List.map_nil]; rfl) ?_
          with_reducible refine (hpty.out _).mono ?_
          rintro e w3 ⟨rfl, rfl⟩
          refine ⟨_, rfl, ?_⟩
          refine hK.out _ _ (FF.out _ HB) (fun hHeld => ?_)
          clear hK K
          refine no_ (h := ?_)
          refine two_ (i := 16) (j := 19) (Ni := some 23) (Nj := some 4) (MT 17 4) #[true, true, true, true, true, true, true, true, true, true, true, true, true, true, true, true, false, false, false, true, false] rfl rfl rfl rfl (by kernel_rfl) (by decide) (by decide) (fun K hK => ?_) (fun K hK => ?_)
          · skip
            refine goes_ Try.func107 (by kernel_rfl) rfl #[.int .i64 tz, .int .i64 1099511627776] (by rfl) rfl rfl (by simp only [List.map_toArray, List.map_cons, List.map_nil]; rfl) ?_
            with_reducible refine (hptz.out _).mono ?_
            rintro e w3 ⟨rfl, rfl⟩
            refine ⟨_, rfl, ?_⟩
            refine hK.out _ _ (FF.out _ HB) (fun hHeld => ?_)
            clear hK K
            refine no_ (h := ?_)
            refine pu_ 17 24 (h := ?_)
            refine two_ (i := 18) (j := 19) (Ni := some 25) (Nj := some 4) (MT 19 2) #[true, true, true, true, true, true, true, true, true, true, true, true, true, true, true, true, true, true, false, true, false] rfl rfl rfl rfl (by kernel_rfl) (by decide) (by decide) (fun K hK => ?_) (fun K hK => ?_)
            · skip
              refine goes_ Try.func106 (by kernel_rfl) rfl #[.pointer (some ⟨w.heap.size + 1 + 1, 0, none⟩), aQ ⟨qa, qb, qc, qd⟩] (by rfl) rfl rfl (by simp only [List.map_toArray, List.map_cons, List.map_nil]; rfl) ?_
              with_reducible refine (HWh.out _ (Wk.of ((HB.out.block _ ltg).trans WKh.out))).mono ?_
              rintro e w3 ⟨rfl, hb⟩
              have HB := Lib.hid (HB.out.trans (hb.mono (Nat.le_trans (Nat.le_refl _) HB.out.size)))
              clear hb
              refine ⟨_, rfl, ?_⟩
              refine hK.out _ _ (FF.out _ HB) (fun hHeld => ?_)
              clear hK K
              refine no_ (h := ?_)
              refine on_ 19 (some 4) (h := fun K hK => ?_)
              refine value_ (w1 := ?_) (v := ?_) (by rfl) rfl ?_ ?_
              rotate_left 2
              · go_simp
                constructor
                · rfl
                · rfl
              have HA := Lib.hid (ha_new HB.out (.cells #[.int .i64 0, .int .i64 0, .int .i64 0, .int .i64 0] 29))
              have hge := HB.out.size
              have HB := Lib.hid (HB.out.alloc (Nat.le_trans (Nat.le_refl _) HB.out.size) (.cells #[.int .i64 0, .int .i64 0, .int .i64 0, .int .i64 0] 29))
              refine hK.out _ _ (FF.out _ HB) (fun hHeld => ?_)
              clear hK K
              refine no_ (h := ?_)
              exact norm_ (by simp only [putAll, Act.put, List.setIfInBounds_toArray, List.set_cons_zero, List.set_cons_succ]) (hCont _ _ ⟨hge, HA.out, HB.out⟩)
            · skip
              refine value_ (w1 := ?_) (v := ?_) (by rfl) rfl ?_ ?_
              rotate_left 2
              · go_simp
                constructor
                · rfl
                · rfl
              have HA := Lib.hid (ha_new HB.out (.cells #[.int .i64 0, .int .i64 0, .int .i64 0, .int .i64 0] 29))
              have hge := HB.out.size
              have HB := Lib.hid (HB.out.alloc (Nat.le_trans (Nat.le_refl _) HB.out.size) (.cells #[.int .i64 0, .int .i64 0, .int .i64 0, .int .i64 0] 29))
              refine hK.out _ _ (FF.out _ HB) (fun hHeld => ?_)
              clear hK K
              refine no_ (h := ?_)
              refine on_ 18 (some 25) (h := fun K hK => ?_)
              refine goes_ Try.func106 (by kernel_rfl) rfl #[.pointer (some ⟨w.heap.size + 1 + 1, 0, none⟩), aQ ⟨qa, qb, qc, qd⟩] (by rfl) rfl rfl (by simp only [List.map_toArray, List.map_cons, List.map_nil]; rfl) ?_
              with_reducible refine (HWh.out _ (Wk.of ((HB.out.block _ ltg).trans WKh.out))).mono ?_
              rintro e w3 ⟨rfl, hb⟩
              have HB := Lib.hid (HB.out.trans (hb.mono (Nat.le_trans (Nat.le_refl _) HB.out.size)))
              have HA := Lib.hid ((hb.block _ (blk_lt HA.out)).trans HA.out)
              clear hb
              refine ⟨_, rfl, ?_⟩
              refine hK.out _ _ (FF.out _ HB) (fun hHeld => ?_)
              clear hK K
              refine no_ (h := ?_)
              exact norm_ (by simp only [putAll, Act.put, List.setIfInBounds_toArray, List.set_cons_zero, List.set_cons_succ]) (hCont _ _ ⟨hge, HA.out, HB.out⟩)
          · skip
            refine value_ (w1 := ?_) (v := ?_) (by rfl) rfl ?_ ?_
            rotate_left 2
            · go_simp
              constructor
              · rfl
              · rfl
            have HA := Lib.hid (ha_new HB.out (.cells #[.int .i64 0, .int .i64 0, .int .i64 0, .int .i64 0] 29))
            have hge := HB.out.size
            have HB := Lib.hid (HB.out.alloc (Nat.le_trans (Nat.le_refl _) HB.out.size) (.cells #[.int .i64 0, .int .i64 0, .int .i64 0, .int .i64 0] 29))
            refine hK.out _ _ (FF.out _ HB) (fun hHeld => ?_)
            clear hK K
            refine no_ (h := ?_)
            refine on_ 16 (some 23) (h := fun K hK => ?_)
            refine goes_ Try.func107 (by kernel_rfl) rfl #[.int .i64 tz, .int .i64 1099511627776] (by rfl) rfl rfl (by simp only [List.map_toArray, List.map_cons, List.map_nil]; rfl) ?_
            with_reducible refine (hptz.out _).mono ?_
            rintro e w3 ⟨rfl, rfl⟩
            refine ⟨_, rfl, ?_⟩
            refine hK.out _ _ (FF.out _ HB) (fun hHeld => ?_)
            clear hK K
            refine no_ (h := ?_)
            refine pu_ 17 24 (h := ?_)
            refine on_ 18 (some 25) (h := fun K hK => ?_)
            refine goes_ Try.func106 (by kernel_rfl) rfl #[.pointer (some ⟨w.heap.size + 1 + 1, 0, none⟩), aQ ⟨qa, qb, qc, qd⟩] (by rfl) rfl rfl (by simp only [List.map_toArray, List.map_cons, List.map_nil]; rfl) ?_
            with_reducible refine (HWh.out _ (Wk.of ((HB.out.block _ ltg).trans WKh.out))).mono ?_
            rintro e w3 ⟨rfl, hb⟩
            have HB := Lib.hid (HB.out.trans (hb.mono (Nat.le_trans (Nat.le_refl _) HB.out.size)))
            have HA := Lib.hid ((hb.block _ (blk_lt HA.out)).trans HA.out)
            clear hb
            refine ⟨_, rfl, ?_⟩
            refine hK.out _ _ (FF.out _ HB) (fun hHeld => ?_)
            clear hK K
            refine no_ (h := ?_)
            exact norm_ (by simp only [putAll, Act.put, List.setIfInBounds_toArray, List.set_cons_zero, List.set_cons_succ]) (hCont _ _ ⟨hge, HA.out, HB.out⟩)
        · skip
          refine value_ (w1 := ?_) (v := ?_) (by rfl) rfl ?_ ?_
          rotate_left 2
          · go_simp
            constructor
            · rfl
            · rfl
          have HA := Lib.hid (ha_new HB.out (.cells #[.int .i64 0, .int .i64 0, .int .i64 0, .int .i64 0] 29))
          have hge := HB.out.size
          have HB := Lib.hid (HB.out.alloc (Nat.le_trans (Nat.le_refl _) HB.out.size) (.cells #[.int .i64 0, .int .i64 0, .int .i64 0, .int .i64 0] 29))
          refine hK.out _ _ (FF.out _ HB) (fun hHeld => ?_)
          clear hK K
          refine no_ (h := ?_)
          refine on_ 12 (some 19) (h := fun K hK => ?_)
          refine goes_ Try.func107 (by kernel_rfl) rfl #[.int .i64 ty, .int .i64 1099511627776] (by rfl) rfl rfl (by simp only [List.map_toArray, List.map_cons, List.map_nil]; rfl) ?_
          with_reducible refine (hpty.out _).mono ?_
          rintro e w3 ⟨rfl, rfl⟩
          refine ⟨_, rfl, ?_⟩
          refine hK.out _ _ (FF.out _ HB) (fun hHeld => ?_)
          clear hK K
          refine no_ (h := ?_)
          refine on_ 16 (some 23) (h := fun K hK => ?_)
          refine goes_ Try.func107 (by kernel_rfl) rfl #[.int .i64 tz, .int .i64 1099511627776] (by rfl) rfl rfl (by simp only [List.map_toArray, List.map_cons, List.map_nil]; rfl) ?_
          with_reducible refine (hptz.out _).mono ?_
          rintro e w3 ⟨rfl, rfl⟩
          refine ⟨_, rfl, ?_⟩
          refine hK.out _ _ (FF.out _ HB) (fun hHeld => ?_)
          clear hK K
          refine no_ (h := ?_)
          refine pu_ 17 24 (h := ?_)
          refine on_ 18 (some 25) (h := fun K hK => ?_)
          refine goes_ Try.func106 (by kernel_rfl) rfl #[.pointer (some ⟨w.heap.size + 1 + 1, 0, none⟩), aQ ⟨qa, qb, qc, qd⟩] (by rfl) rfl rfl (by simp only [List.map_toArray, List.map_cons, List.map_nil]; rfl) ?_
          with_reducible refine (HWh.out _ (Wk.of ((HB.out.block _ ltg).trans WKh.out))).mono ?_
          rintro e w3 ⟨rfl, hb⟩
          have HB := Lib.hid (HB.out.trans (hb.mono (Nat.le_trans (Nat.le_refl _) HB.out.size)))
          have HA := Lib.hid ((hb.block _ (blk_lt HA.out)).trans HA.out)
          clear hb
          refine ⟨_, rfl, ?_⟩
          refine hK.out _ _ (FF.out _ HB) (fun hHeld => ?_)
          clear hK K
          refine no_ (h := ?_)
          exact norm_ (by simp only [putAll, Act.put, List.setIfInBounds_toArray, List.set_cons_zero, List.set_cons_succ]) (hCont _ _ ⟨hge, HA.out, HB.out⟩)
      · skip
        refine value_ (w1 := ?_) (v := ?_) (by rfl) rfl ?_ ?_
        rotate_left 2
        · go_simp
          constructor
          · rfl
          · rfl
        have HA := Lib.hid (ha_new HB.out (.cells #[.int .i64 0, .int .i64 0, .int .i64 0, .int .i64 0] 29))
        have hge := HB.out.size
        have HB := Lib.hid (HB.out.alloc (Nat.le_trans (Nat.le_refl _) HB.out.size) (.cells #[.int .i64 0, .int .i64 0, .int .i64 0, .int .i64 0] 29))
        refine hK.out _ _ (FF.out _ HB) (fun hHeld => ?_)
        clear hK K
        refine no_ (h := ?_)
        refine on_ 8 (some 15) (h := fun K hK => ?_)
        refine goes_ Try.func107 (by kernel_rfl) rfl #[.int .i64 tx, .int .i64 1099511627776] (by rfl) rfl rfl (by simp only [List.map_toArray, List.map_cons, List.map_nil]; rfl) ?_
        with_reducible refine (hptx.out _).mono ?_
        rintro e w3 ⟨rfl, rfl⟩
        refine ⟨_, rfl, ?_⟩
        refine hK.out _ _ (FF.out _ HB) (fun hHeld => ?_)
        clear hK K
        refine no_ (h := ?_)
        refine on_ 12 (some 19) (h := fun K hK => ?_)
        refine goes_ Try.func107 (by kernel_rfl) rfl #[.int .i64 ty, .int .i64 1099511627776] (by rfl) rfl rfl (by simp only [List.map_toArray, List.map_cons, List.map_nil]; rfl) ?_
        with_reducible refine (hpty.out _).mono ?_
        rintro e w3 ⟨rfl, rfl⟩
        refine ⟨_, rfl, ?_⟩
        refine hK.out _ _ (FF.out _ HB) (fun hHeld => ?_)
        clear hK K
        refine no_ (h := ?_)
        refine on_ 16 (some 23) (h := fun K hK => ?_)
        refine goes_ Try.func107 (by kernel_rfl) rfl #[.int .i64 tz, .int .i64 1099511627776] (by rfl) rfl rfl (by simp only [List.map_toArray, List.map_cons, List.map_nil]; rfl) ?_
        with_reducible refine (hptz.out _).mono ?_
        rintro e w3 ⟨rfl, rfl⟩
        refine ⟨_, rfl, ?_⟩
        refine hK.out _ _ (FF.out _ HB) (fun hHeld => ?_)
        clear hK K
        refine no_ (h := ?_)
        refine pu_ 17 24 (h := ?_)
        refine on_ 18 (some 25) (h := fun K hK => ?_)
        refine goes_ Try.func106 (by kernel_rfl) rfl #[.pointer (some ⟨w.heap.size + 1 + 1, 0, none⟩), aQ ⟨qa, qb, qc, qd⟩] (by rfl) rfl rfl (by simp only [List.map_toArray, List.map_cons, List.map_nil]; rfl) ?_
        with_reducible refine (HWh.out _ (Wk.of ((HB.out.block _ ltg).trans WKh.out))).mono ?_
        rintro e w3 ⟨rfl, hb⟩
        have HB := Lib.hid (HB.out.trans (hb.mono (Nat.le_trans (Nat.le_refl _) HB.out.size)))
        have HA := Lib.hid ((hb.block _ (blk_lt HA.out)).trans HA.out)
        clear hb
        refine ⟨_, rfl, ?_⟩
        refine hK.out _ _ (FF.out _ HB) (fun hHeld => ?_)
        clear hK K
        refine no_ (h := ?_)
        exact norm_ (by simp only [putAll, Act.put, List.setIfInBounds_toArray, List.set_cons_zero, List.set_cons_succ]) (hCont _ _ ⟨hge, HA.out, HB.out⟩)
    · skip
      refine value_ (w1 := ?_) (v := ?_) (by rfl) rfl ?_ ?_
      rotate_left 2
      · go_simp
        constructor
        · rfl
        · rfl
      have HA := Lib.hid (ha_new HB.out (.cells #[.int .i64 0, .int .i64 0, .int .i64 0, .int .i64 0] 29))
      have hge := HB.out.size
      have HB := Lib.hid (HB.out.alloc (Nat.le_trans (Nat.le_refl _) HB.out.size) (.cells #[.int .i64 0, .int .i64 0, .int .i64 0, .int .i64 0] 29))
      refine hK.out _ _ (FF.out _ HB) (fun hHeld => ?_)
      clear hK K
      refine no_ (h := ?_)
      refine on_ 4 (some 11) (h := fun K hK => ?_)
      refine goes_ Try.func107 (by kernel_rfl) rfl #[.int .i64 tw, .int .i64 1099511627776] (by rfl) rfl rfl (by simp only [List.map_toArray, List.map_cons, List.map_nil]; rfl) ?_
      with_reducible refine (hptw.out _).mono ?_
      rintro e w3 ⟨rfl, rfl⟩
      refine ⟨_, rfl, ?_⟩
      refine hK.out _ _ (FF.out _ HB) (fun hHeld => ?_)
      clear hK K
      refine no_ (h := ?_)
      refine on_ 8 (some 15) (h := fun K hK => ?_)
      refine goes_ Try.func107 (by kernel_rfl) rfl #[.int .i64 tx, .int .i64 1099511627776] (by rfl) rfl rfl (by simp only [List.map_toArray, List.map_cons, List.map_nil]; rfl) ?_
      with_reducible refine (hptx.out _).mono ?_
      rintro e w3 ⟨rfl, rfl⟩
      refine ⟨_, rfl, ?_⟩
      refine hK.out _ _ (FF.out _ HB) (fun hHeld => ?_)
      clear hK K
      refine no_ (h := ?_)
      refine on_ 12 (some 19) (h := fun K hK => ?_)
      refine goes_ Try.func107 (by kernel_rfl) rfl #[.int .i64 ty, .int .i64 1099511627776] (by rfl) rfl rfl (by simp only [List.map_toArray, List.map_cons, List.map_nil]; rfl) ?_
      with_reducible refine (hpty.out _).mono ?_
      rintro e w3 ⟨rfl, rfl⟩
      refine ⟨_, rfl, ?_⟩
      refine hK.out _ _ (FF.out _ HB) (fun hHeld => ?_)
      clear hK K
      refine no_ (h := ?_)
      refine on_ 16 (some 23) (h := fun K hK => ?_)
      refine goes_ Try.func107 (by kernel_rfl) rfl #[.int .i64 tz, .int .i64 1099511627776] (by rfl) rfl rfl (by simp only [List.map_toArray, List.map_cons, List.map_nil]; rfl) ?_
      with_reducible refine (hptz.out _).mono ?_
      rintro e w3 ⟨rfl, rfl⟩
      refine ⟨_, rfl, ?_⟩
      refine hK.out _ _ (FF.out _ HB) (fun hHeld => ?_)
      clear hK K
      refine no_ (h := ?_)
      refine pu_ 17 24 (h := ?_)
      refine on_ 18 (some 25) (h := fun K hK => ?_)
      refine goes_ Try.func106 (by kernel_rfl) rfl #[.pointer (some ⟨w.heap.size + 1 + 1, 0, none⟩), aQ ⟨qa, qb, qc, qd⟩] (by rfl) rfl rfl (by simp only [List.map_toArray, List.map_cons, List.map_nil]; rfl) ?_
      with_reducible refine (HWh.out _ (Wk.of ((HB.out.block _ ltg).trans WKh.out))).mono ?_
      rintro e w3 ⟨rfl, hb⟩
      have HB := Lib.hid (HB.out.trans (hb.mono (Nat.le_trans (Nat.le_refl _) HB.out.size)))
      have HA := Lib.hid ((hb.block _ (blk_lt HA.out)).trans HA.out)
      clear hb
      refine ⟨_, rfl, ?_⟩
      refine hK.out _ _ (FF.out _ HB) (fun hHeld => ?_)
      clear hK K
      refine no_ (h := ?_)
      exact norm_ (by simp only [putAll, Act.put, List.setIfInBounds_toArray, List.set_cons_zero, List.set_cons_succ]) (hCont _ _ ⟨hge, HA.out, HB.out⟩)
  rintro AB wj ⟨hge, HA, HB⟩
  have HA := Lib.hid HA
  have HB := Lib.hid HB
  have hHeld : wj.cell? ⟨w.heap.size, 3, none⟩ = some (.int .i64 tw) ∧ wj.cell? ⟨w.heap.size, 4, none⟩ = some (.int .i64 tx) ∧ wj.cell? ⟨w.heap.size, 5, none⟩ = some (.int .i64 ty) ∧ wj.cell? ⟨w.heap.size, 6, none⟩ = some (.int .i64 tz) := (FF.out _ HB)
  refine no_ (h := ?_)
  refine on_ 20 (none) (h := fun K hK => ?_)
  have sc0 : World.cell? _ ⟨AB, 0, none⟩ = some (.int .i64 0) := (blk_cell HA.out 0).trans rfl
  have sf0 := blk_frozen HA.out 0
  have sc1 : World.cell? _ ⟨AB, 1, none⟩ = some (.int .i64 0) := (blk_cell HA.out 1).trans rfl
  have sf1 := blk_frozen HA.out 1
  have sc2 : World.cell? _ ⟨AB, 2, none⟩ = some (.int .i64 0) := (blk_cell HA.out 2).trans rfl
  have sf2 := blk_frozen HA.out 2
  have sc3 : World.cell? _ ⟨AB, 3, none⟩ = some (.int .i64 0) := (blk_cell HA.out 3).trans rfl
  have sf3 := blk_frozen HA.out 3
  refine skip_ (w1 := ?_) (by rfl) rfl ?_ ?_
  rotate_left
  · go_simp
    rfl
  have HA := Lib.hid (bs4 HA.out (.int .i64 ua) (.int .i64 ub) (.int .i64 uc) (.int .i64 ud))
  have HB := Lib.hid (bb4 HB.out (Nat.le_trans (Nat.le_refl _) hge) (.int .i64 ua) (.int .i64 ub) (.int .i64 uc) (.int .i64 ud))
  clear sc0 sf0 sc1 sf1 sc2 sf2 sc3 sf3
  refine hK.out _ _ (FF.out _ HB) (fun hHeld => ?_)
  clear hK K
  refine done_ (by kernel_rfl) ?_
  obtain ⟨w2, hwn⟩ : ∃ V, ((((wj.setCell ⟨AB, 0, none⟩ (.int .i64 ua)).setCell ⟨AB, 1, none⟩ (.int .i64 ub)).setCell ⟨AB, 2, none⟩ (.int .i64 uc)).setCell ⟨AB, 3, none⟩ (.int .i64 ud)) = V := ⟨_, rfl⟩
  rw [hwn] at HA HB ⊢
  clear hwn
  have RA2 : Hid (w2.heap[w.heap.size]? = some (.cells #[.int .i64 ax, .int .i64 ay, .int .i64 az, .int .i64 tw, .int .i64 tx, .int .i64 ty, .int .i64 tz] 31 (0, 0))) := Lib.hid ((HB.out.block _ (by omega)).trans RA.out)
  have RZ2 : Hid (w2.heap[w.heap.size + 1]? = some (.cells #[.int .i64 0, .int .i64 0, .int .i64 0, .int .i64 0, .int .i64 0, .int .i64 0, .int .i64 0] 92 (0, 0))) := Lib.hid ((HB.out.block _ (by omega)).trans RZ.out)
  have HW2 := Lib.hid (HW1.out.trans (HB.out.mono (by omega)))
  have HA2 := HA
  have hz2 : w1.heap.size ≤ w2.heap.size := HB.out.size
  have k0 : w2.cell? ⟨w.heap.size + 1 + 1, 0, none⟩ = some (.bool false) := (blk_cell ((HB.out.block _ ltg).trans WKh.out) 0).trans rfl
  have hgeA := hge
  have hz1 := HZ1.out
  have lta : AB < w2.heap.size := blk_lt HA2.out
  have ltq2 : w.heap.size < w2.heap.size := by omega
  clear hz1 HB HA hHeld hge y3 y4 y5 y6 RA RZ WK WKh HW1 ltg ltz ltq
  have y0 : w2.cell? ⟨w.heap.size, 0, none⟩ = some (.int .i64 ax) := (blk_cell RA2.out 0).trans rfl
  have y1 : w2.cell? ⟨w.heap.size, 1, none⟩ = some (.int .i64 ay) := (blk_cell RA2.out 1).trans rfl
  have y2 : w2.cell? ⟨w.heap.size, 2, none⟩ = some (.int .i64 az) := (blk_cell RA2.out 2).trans rfl
  have a0 : w2.cell? ⟨AB, 0, none⟩ = some (.int .i64 ua) := (blk_cell HA2.out 0).trans rfl
  have a1 : w2.cell? ⟨AB, 1, none⟩ = some (.int .i64 ub) := (blk_cell HA2.out 1).trans rfl
  have a2 : w2.cell? ⟨AB, 2, none⟩ = some (.int .i64 uc) := (blk_cell HA2.out 2).trans rfl
  have a3 : w2.cell? ⟨AB, 3, none⟩ = some (.int .i64 ud) := (blk_cell HA2.out 3).trans rfl
  go_wp2_with fail
  have HB := Lib.hid ((Below.refl (w2.heap.size) w2).drew)
  have HA := Lib.hid (show w2.drew.heap[(w.heap.size + 1)]? = _ from RZ2.out)
  have FF := Lib.hid (show ∀ V, Hid (Below (w2.heap.size) w2 V) → V.cell? ⟨w.heap.size, 0, none⟩ = some (.int .i64 ax) ∧ V.cell? ⟨w.heap.size, 1, none⟩ = some (.int .i64 ay) ∧ V.cell? ⟨w.heap.size, 2, none⟩ = some (.int .i64 az) ∧ V.cell? ⟨AB, 0, none⟩ = some (.int .i64 ua) ∧ V.cell? ⟨AB, 1, none⟩ = some (.int .i64 ub) ∧ V.cell? ⟨AB, 2, none⟩ = some (.int .i64 uc) ∧ V.cell? ⟨AB, 3, none⟩ = some (.int .i64 ud) from fun V HB => ⟨(HB.out.cell (p := ⟨w.heap.size, 0, none⟩) (ltq2)).trans y0, (HB.out.cell (p := ⟨w.heap.size, 1, none⟩) (ltq2)).trans y1, (HB.out.cell (p := ⟨w.heap.size, 2, none⟩) (ltq2)).trans y2, (HB.out.cell (p := ⟨AB, 0, none⟩) (lta)).trans a0, (HB.out.cell (p := ⟨AB, 1, none⟩) (lta)).trans a1, (HB.out.cell (p := ⟨AB, 2, none⟩) (lta)).trans a2, (HB.out.cell (p := ⟨AB, 3, none⟩) (lta)).trans a3⟩)
  refine start_ (n := 16) (S := fun w' => w'.cell? ⟨w.heap.size, 0, none⟩ = some (.int .i64 ax) ∧ w'.cell? ⟨w.heap.size, 1, none⟩ = some (.int .i64 ay) ∧ w'.cell? ⟨w.heap.size, 2, none⟩ = some (.int .i64 az) ∧ w'.cell? ⟨AB, 0, none⟩ = some (.int .i64 ua) ∧ w'.cell? ⟨AB, 1, none⟩ = some (.int .i64 ub) ∧ w'.cell? ⟨AB, 2, none⟩ = some (.int .i64 uc) ∧ w'.cell? ⟨AB, 3, none⟩ = some (.int .i64 ud)) (ds := [15]) (MT 0 16) (by kernel_rfl) rfl rfl (FF.out _ HB) (fun hHeld => ?_)
  obtain ⟨wd, hwd⟩ : ∃ x, w2.drew = x := ⟨_, rfl⟩
  rw [hwd] at HB hHeld HA ⊢
  clear hwd
  refine pu_ 0 31 (h := ?_)
  refine pu_ 1 32 (h := ?_)
  refine pu_ 4 35 (h := ?_)
  refine pu_ 5 36 (h := ?_)
  refine pu_ 8 39 (h := ?_)
  refine pu_ 9 40 (h := ?_)
  refine ta_ 2 33 hHeld (h := ?_)
  refine ta_ 6 37 hHeld (h := ?_)
  refine ta_ 10 41 hHeld (h := ?_)
  refine ta_ 13 44 hHeld (h := ?_)
  refine on_ 3 (some 34) (h := fun K hK => ?_)
  refine goes_ Try.func107 (by kernel_rfl) rfl #[.int .i64 ax, .int .i64 4398046511104] (by rfl) rfl rfl (by simp only [List.map_toArray, List.map_cons, List.map_nil]; rfl) ?_
  with_reducible refine (hpax.out _).mono ?_
  rintro e w3 ⟨rfl, rfl⟩
  refine ⟨_, rfl, ?_⟩
  refine hK.out _ _ (FF.out _ HB) (fun hHeld => ?_)
  clear hK K
  refine no_ (h := ?_)
  refine on_ 7 (some 38) (h := fun K hK => ?_)
  refine goes_ Try.func107 (by kernel_rfl) rfl #[.int .i64 ay, .int .i64 4398046511104] (by rfl) rfl rfl (by simp only [List.map_toArray, List.map_cons, List.map_nil]; rfl) ?_
  with_reducible refine (hpay.out _).mono ?_
  rintro e w3 ⟨rfl, rfl⟩
  refine ⟨_, rfl, ?_⟩
  refine hK.out _ _ (FF.out _ HB) (fun hHeld => ?_)
  clear hK K
  refine no_ (h := ?_)
  refine on_ 11 (some 42) (h := fun K hK => ?_)
  refine goes_ Try.func107 (by kernel_rfl) rfl #[.int .i64 az, .int .i64 4398046511104] (by rfl) rfl rfl (by simp only [List.map_toArray, List.map_cons, List.map_nil]; rfl) ?_
  with_reducible refine (hpaz.out _).mono ?_
  rintro e w3 ⟨rfl, rfl⟩
  refine ⟨_, rfl, ?_⟩
  refine hK.out _ _ (FF.out _ HB) (fun hHeld => ?_)
  clear hK K
  refine no_ (h := ?_)
  refine pu_ 12 43 (h := ?_)
  refine pu_ 14 45 (h := ?_)
  refine last_ (i := 15) (N := none) (MT 16 0) rfl rfl (by kernel_rfl) (by decide) (fun K hK => ?_)
  have sc0 : World.cell? _ ⟨(w.heap.size + 1), 0, none⟩ = some (.int .i64 0) := (blk_cell HA.out 0).trans rfl
  have sf0 := blk_frozen HA.out 0
  have sc1 : World.cell? _ ⟨(w.heap.size + 1), 1, none⟩ = some (.int .i64 0) := (blk_cell HA.out 1).trans rfl
  have sf1 := blk_frozen HA.out 1
  have sc2 : World.cell? _ ⟨(w.heap.size + 1), 2, none⟩ = some (.int .i64 0) := (blk_cell HA.out 2).trans rfl
  have sf2 := blk_frozen HA.out 2
  have sc3 : World.cell? _ ⟨(w.heap.size + 1), 3, none⟩ = some (.int .i64 0) := (blk_cell HA.out 3).trans rfl
  have sf3 := blk_frozen HA.out 3
  have sc4 : World.cell? _ ⟨(w.heap.size + 1), 4, none⟩ = some (.int .i64 0) := (blk_cell HA.out 4).trans rfl
  have sf4 := blk_frozen HA.out 4
  have sc5 : World.cell? _ ⟨(w.heap.size + 1), 5, none⟩ = some (.int .i64 0) := (blk_cell HA.out 5).trans rfl
  have sf5 := blk_frozen HA.out 5
  have sc6 : World.cell? _ ⟨(w.heap.size + 1), 6, none⟩ = some (.int .i64 0) := (blk_cell HA.out 6).trans rfl
  have sf6 := blk_frozen HA.out 6
  refine skip_ (w1 := ?_) (by rfl) rfl ?_ ?_
  rotate_left
  · go_simp
    rfl
  have HB := Lib.hid (show Below (w.heap.size) _ _ from HB.out.mono (Nat.le_of_lt ltq2))
  have HA := Lib.hid (bs7 HA.out (.int .i64 ra) (.int .i64 rb) (.int .i64 rc) (.int .i64 ua) (.int .i64 ub) (.int .i64 uc) (.int .i64 ud))
  have HB := Lib.hid (bb7 HB.out (show w.heap.size ≤ w.heap.size + 1 from Nat.le_succ _) (.int .i64 ra) (.int .i64 rb) (.int .i64 rc) (.int .i64 ua) (.int .i64 ub) (.int .i64 uc) (.int .i64 ud))
  clear sc0 sf0 sc1 sf1 sc2 sf2 sc3 sf3 sc4 sf4 sc5 sf5 sc6 sf6
  refine hK.out _ _ ?_
  clear hK K
  refine done_ (by kernel_rfl) ?_
  obtain ⟨w5, hwn⟩ : ∃ V, (((((((w3.setCell ⟨(w.heap.size + 1), 0, none⟩ (.int .i64 ra)).setCell ⟨(w.heap.size + 1), 1, none⟩ (.int .i64 rb)).setCell ⟨(w.heap.size + 1), 2, none⟩ (.int .i64 rc)).setCell ⟨(w.heap.size + 1), 3, none⟩ (.int .i64 ua)).setCell ⟨(w.heap.size + 1), 4, none⟩ (.int .i64 ub)).setCell ⟨(w.heap.size + 1), 5, none⟩ (.int .i64 uc)).setCell ⟨(w.heap.size + 1), 6, none⟩ (.int .i64 ud)) = V := ⟨_, rfl⟩
  rw [hwn] at HA HB ⊢
  clear hwn
  have HW5 := Lib.hid (HW2.out.trans HB.out)
  have t0 : w5.cell? ⟨w.heap.size + 1, 0, none⟩ = some (.int .i64 ra) := (blk_cell HA.out 0).trans rfl
  have t1 : w5.cell? ⟨w.heap.size + 1, 1, none⟩ = some (.int .i64 rb) := (blk_cell HA.out 1).trans rfl
  have t2 : w5.cell? ⟨w.heap.size + 1, 2, none⟩ = some (.int .i64 rc) := (blk_cell HA.out 2).trans rfl
  have t3 : w5.cell? ⟨w.heap.size + 1, 3, none⟩ = some (.int .i64 ua) := (blk_cell HA.out 3).trans rfl
  have t4 : w5.cell? ⟨w.heap.size + 1, 4, none⟩ = some (.int .i64 ub) := (blk_cell HA.out 4).trans rfl
  have t5 : w5.cell? ⟨w.heap.size + 1, 5, none⟩ = some (.int .i64 uc) := (blk_cell HA.out 5).trans rfl
  have t6 : w5.cell? ⟨w.heap.size + 1, 6, none⟩ = some (.int .i64 ud) := (blk_cell HA.out 6).trans rfl
  clear HB HA
  go_wp2
  rw [HE.out, hU.out]
  exact bodyPost_ret (v := .agg (cP7 ⟨⟨ra, rb, rc⟩, ⟨ua, ub, uc, ud⟩⟩)) (by simp [results, Try.results55, go_sem, t0, t1, t2, t3, t4, t5, t6]) rfl ⟨rfl, HW5.out⟩
set_option maxHeartbeats 4000000 in
set_option maxRecDepth 100000 in
theorem right6_bad (p : P7) (w : World) (hp : i64s p) (hn : lenF (partQ p.turn) < 2147483648) :
    Calls Try.prog 55 #[.agg (cP7 p)] w fun e w' => e = .returned (.agg (cP7 (rightPose p))) ∧ Below w.heap.size w w' := by
  obtain ⟨⟨ax, ay, az⟩, ⟨tw, tx, ty, tz⟩⟩ := p
  obtain ⟨i1, i2, i3, i4, i5, i6, i7⟩ := hp
  have HR : Hid (raw40 (partF tw 1099511627776) ∧ raw40 (partF tx 1099511627776) ∧ raw40 (partF ty 1099511627776) ∧ raw40 (partF tz 1099511627776)) := Lib.hid ⟨part_raw _, part_raw _, part_raw _, part_raw _⟩
  have hptw := Lib.hid (part6_calls tw 1099511627776 i4.1 i4.2 (by decide) (by decide))
  have hptx := Lib.hid (part6_calls tx 1099511627776 i5.1 i5.2 (by decide) (by decide))
  have hpty := Lib.hid (part6_calls ty 1099511627776 i6.1 i6.2 (by decide) (by decide))
  have hptz := Lib.hid (part6_calls tz 1099511627776 i7.1 i7.2 (by decide) (by decide))
  have hpax := Lib.hid (part6_calls ax 4398046511104 i1.1 i1.2 (by decide) (by decide))
  have hpay := Lib.hid (part6_calls ay 4398046511104 i2.1 i2.2 (by decide) (by decide))
  have hpaz := Lib.hid (part6_calls az 4398046511104 i3.1 i3.2 (by decide) (by decide))
  clear i1 i2 i3 i4 i5 i6 i7
  have HE := Lib.hid (show rightPose ⟨⟨ax, ay, az⟩, ⟨tw, tx, ty, tz⟩⟩ = ⟨⟨partF ax 4398046511104, partF ay 4398046511104, partF az 4398046511104⟩, wholeF ⟨partF tw 1099511627776, partF tx 1099511627776, partF ty 1099511627776, partF tz 1099511627776⟩⟩ from rfl)
  have HN : Hid _ := Lib.hid hn
  change Hid (lenF (⟨partF tw 1099511627776, partF tx 1099511627776, partF ty 1099511627776, partF tz 1099511627776⟩) < 2147483648) at HN
  clear hn
  generalize partF tw 1099511627776 = qa at *
  generalize partF tx 1099511627776 = qb at *
  generalize partF ty 1099511627776 = qc at *
  generalize partF tz 1099511627776 = qd at *
  generalize partF ax 4398046511104 = ra at *
  generalize partF ay 4398046511104 = rb at *
  generalize partF az 4398046511104 = rc at *
  go_enter Try.func55, Try.ntmps55
  go_wp2_with fail
  obtain ⟨w1, hw1⟩ : ∃ w1, ((w.alloc (.cells #[.int .i64 ax, .int .i64 ay, .int .i64 az, .int .i64 tw, .int .i64 tx, .int .i64 ty, .int .i64 tz] 31)).alloc (.cells #[.int .i64 0, .int .i64 0, .int .i64 0, .int .i64 0, .int .i64 0, .int .i64 0, .int .i64 0] 92)).alloc (.cells #[.bool false] 85) = w1 := ⟨_, rfl⟩
  have RA : Hid (w1.heap[w.heap.size]? = some (.cells #[.int .i64 ax, .int .i64 ay, .int .i64 az, .int .i64 tw, .int .i64 tx, .int .i64 ty, .int .i64 tz] 31 (0, 0))) := Lib.hid (by rw [← hw1]; exact three0 _ _ _ _)
  have RZ : Hid (w1.heap[w.heap.size + 1]? = some (.cells #[.int .i64 0, .int .i64 0, .int .i64 0, .int .i64 0, .int .i64 0, .int .i64 0, .int .i64 0] 92 (0, 0))) := Lib.hid (by rw [← hw1]; exact three1 _ _ _ _)
  have WK : Hid (Wk w1 (w.heap.size + 1 + 1)) := Lib.hid (by rw [← hw1]; exact three2 _ _ _ _)
  have WKh : Hid (w1.heap[w.heap.size + 1 + 1]? = some (.cells #[.bool false] 85 (0, 0))) := WK
  have HW1 := Lib.hid (show Below w.heap.size w w1 by rw [← hw1]; exact (((Below.refl _ w).alloc (Nat.le_refl _) _).alloc (by simp) _).alloc (by simp; omega) _)
  have hz1 : w1.heap.size = w.heap.size + 1 + 1 + 1 := by rw [← hw1]; simp
  rw [hw1]
  clear hw1
  have y3 : w1.cell? ⟨w.heap.size, 3, none⟩ = some (.int .i64 tw) := (blk_cell RA.out 3).trans rfl
  have y4 : w1.cell? ⟨w.heap.size, 4, none⟩ = some (.int .i64 tx) := (blk_cell RA.out 4).trans rfl
  have y5 : w1.cell? ⟨w.heap.size, 5, none⟩ = some (.int .i64 ty) := (blk_cell RA.out 5).trans rfl
  have y6 : w1.cell? ⟨w.heap.size, 6, none⟩ = some (.int .i64 tz) := (blk_cell RA.out 6).trans rfl
  have ltq : w.heap.size < w1.heap.size := by omega
  have ltz : w.heap.size + 1 < w1.heap.size := by omega
  have ltg : w.heap.size + 1 + 1 < w1.heap.size := by omega
  have HZ1 := Lib.hid hz1
  clear hz1
  have hU : Hid (wholeF ⟨qa, qb, qc, qd⟩ = ⟨4294967296, 0, 0, 0⟩) := Lib.hid (by unfold wholeF; rw [if_pos HN.out])
  have HWh := Lib.hid (fun (W : World) (h : Wk W (w.heap.size + 1 + 1)) => whole_bad (w.heap.size + 1 + 1) ⟨qa, qb, qc, qd⟩ W h HR.out.1 HR.out.2.1 HR.out.2.2.1 HR.out.2.2.2 HN.out)
  have ltb : w.heap.size + 1 + 1 ≤ w1.heap.size := Nat.le_of_lt ltg
  have HB := Lib.hid ((Below.refl (w.heap.size + 1 + 1) w1).drew)
  have WKc := Lib.hid (show w1.drew.heap[w.heap.size + 1 + 1]? = _ from WKh.out)
  have FF := Lib.hid (show ∀ V, Hid (Below (w.heap.size + 1 + 1) w1 V) → V.cell? ⟨w.heap.size, 3, none⟩ = some (.int .i64 tw) ∧ V.cell? ⟨w.heap.size, 4, none⟩ = some (.int .i64 tx) ∧ V.cell? ⟨w.heap.size, 5, none⟩ = some (.int .i64 ty) ∧ V.cell? ⟨w.heap.size, 6, none⟩ = some (.int .i64 tz) from fun V HB => ⟨(HB.out.cell (p := ⟨w.heap.size, 3, none⟩) (show w.heap.size < w.heap.size + 1 + 1 by omega)).trans y3, (HB.out.cell (p := ⟨w.heap.size, 4, none⟩) (show w.heap.size < w.heap.size + 1 + 1 by omega)).trans y4, (HB.out.cell (p := ⟨w.heap.size, 5, none⟩) (show w.heap.size < w.heap.size + 1 + 1 by omega)).trans y5, (HB.out.cell (p := ⟨w.heap.size, 6, none⟩) (show w.heap.size < w.heap.size + 1 + 1 by omega)).trans y6⟩)
  refine start_ (n := 21) (S := fun w' => w'.cell? ⟨w.heap.size, 3, none⟩ = some (.int .i64 tw) ∧ w'.cell? ⟨w.heap.size, 4, none⟩ = some (.int .i64 tx) ∧ w'.cell? ⟨w.heap.size, 5, none⟩ = some (.int .i64 ty) ∧ w'.cell? ⟨w.heap.size, 6, none⟩ = some (.int .i64 tz)) (ds := []) (MT 0 21) (by kernel_rfl) rfl rfl (FF.out _ HB) (fun hHeld => ?_)
  obtain ⟨wd, hwd⟩ : ∃ x, w1.drew = x := ⟨_, rfl⟩
  rw [hwd] at HB hHeld WKc ⊢
  clear hwd
  refine pu_ 0 7 (h := ?_)
  refine pu_ 1 8 (h := ?_)
  refine pu_ 2 9 (h := ?_)
  refine pu_ 5 12 (h := ?_)
  refine pu_ 6 13 (h := ?_)
  refine pu_ 9 16 (h := ?_)
  refine pu_ 10 17 (h := ?_)
  refine pu_ 13 20 (h := ?_)
  refine pu_ 14 21 (h := ?_)
  refine ta_ 3 10 hHeld (h := ?_)
  refine ta_ 7 14 hHeld (h := ?_)
  refine ta_ 11 18 hHeld (h := ?_)
  refine ta_ 15 22 hHeld (h := ?_)
  refine join_ (σ := Nat) 1 (MT 20 1) (fun s => [(4, .pointer (some ⟨s, 0, none⟩)), (11, .int .i64 qa), (15, .int .i64 qb), (19, .int .i64 qc), (23, .int .i64 qd), (24, aQ ⟨qa, qb, qc, qd⟩), (25, aQ ⟨0, 0, 0, 0⟩)]) (fun s w' => w1.heap.size ≤ s ∧ w'.heap[s]? = some (.cells #[.int .i64 0, .int .i64 0, .int .i64 0, .int .i64 0] 29 (0, 0)) ∧ Below (w.heap.size + 1 + 1) w1 w' ∧ w'.cell? ⟨w.heap.size + 1 + 1, 0, none⟩ = some (.bool true)) ?_ ?_
  rotate_left
  · intro hCont
    refine two_ (i := 4) (j := 19) (Ni := some 11) (Nj := some 4) #[true, true, true, true, true, true, true, true, false, true, true, true, false, true, true, true, false, false, false, false, false] #[true, true, true, true, false, true, true, true, false, true, true, true, false, true, true, true, false, false, false, true, false] rfl rfl rfl rfl (by kernel_rfl) (by decide) (by decide) (fun K hK => ?_) (fun K hK => ?_)
    · skip
      refine goes_ Try.func107 (by kernel_rfl) rfl #[.int .i64 tw, .int .i64 1099511627776] (by rfl) rfl rfl (by simp only [List.map_toArray, List.map_cons, List.map_nil]; rfl) ?_
      with_reducible refine (hptw.out _).mono ?_
      rintro e w3 ⟨rfl, rfl⟩
      refine ⟨_, rfl, ?_⟩
      refine hK.out _ _ (FF.out _ HB) (fun hHeld => ?_)
      clear hK K
      refine no_ (h := ?_)
      refine two_ (i := 8) (j := 19) (Ni := some 15) (Nj := some 4) #[true, true, true, true, true, true, true, true, true, true, true, true, false, true, true, true, false, false, false, false, false] #[true, true, true, true, true, true, true, true, false, true, true, true, false, true, true, true, false, false, false, true, false] rfl rfl rfl rfl (by kernel_rfl) (by decide) (by decide) (fun K hK => ?_) (fun K hK => ?_)
      · skip
        refine goes_ Try.func107 (by kernel_rfl) rfl #[.int .i64 tx, .int .i64 1099511627776] (by rfl) rfl rfl (by simp only [List.map_toArray, List.map_cons, List.map_nil]; rfl) ?_
        with_reducible refine (hptx.out _).mono ?_
        rintro e w3 ⟨rfl, rfl⟩
        refine ⟨_, rfl, ?_⟩
        refine hK.out _ _ (FF.out _ HB) (fun hHeld => ?_)
        clear hK K
        refine no_ (h := ?_)
        refine two_ (i := 12) (j := 19) (Ni := some 19) (Nj := some 4) (MT 16 5) #[true, true, true, true, true, true, true, true, true, true, true, true, false, true, true, true, false, false, false, true, false] rfl rfl rfl rfl (by kernel_rfl) (by decide) (by decide) (fun K hK => ?_) (fun K hK => ?_)
        · skip
          refine goes_ Try.func107 (by kernel_rfl) rfl #[.int .i64 ty, .int .i64 1099511627776] (by rfl) rfl rfl (by simp only [List.map_toArray, List.map_cons, List.map_nil]; rfl) ?_
          with_reducible refine (hpty.out _).mono ?_
          rintro e w3 ⟨rfl, rfl⟩
          refine ⟨_, rfl, ?_⟩
          refine hK.out _ _ (FF.out _ HB) (fun hHeld => ?_)
          clear hK K
          refine no_ (h := ?_)
          refine two_ (i := 16) (j := 19) (Ni := some 23) (Nj := some 4) (MT 17 4) #[true, true, true, true, true, true, true, true, true, true, true, true, true, true, true, true, false, false, false, true, false] rfl rfl rfl rfl (by kernel_rfl) (by decide) (by decide) (fun K hK => ?_) (fun K hK => ?_)
          · skip
            refine goes_ Try.func107 (by kernel_rfl) rfl #[.int .i64 tz, .int .i64 1099511627776] (by rfl) rfl rfl (by simp only [List.map_toArray, List.map_cons, List.map_nil]; rfl) ?_
            with_reducible refine (hptz.out _).mono ?_
            rintro e w3 ⟨rfl, rfl⟩
            refine ⟨_, rfl, ?_⟩
            refine hK.out _ _ (FF.out _ HB) (fun hHeld => ?_)
            clear hK K
            refine no_ (h := ?_)
            refine pu_ 17 24 (h := ?_)
            refine two_ (i := 18) (j := 19) (Ni := some 25) (Nj := some 4) (MT 19 2) #[true, true, true, true, true, true, true, true, true, true, true, true, true, true, true, true, true, true, false, true, false] rfl rfl rfl rfl (by kernel_rfl) (by decide) (by decide) (fun K hK => ?_) (fun K hK => ?_)
            · skip
              refine goes_ Try.func106 (by kernel_rfl) rfl #[.pointer (some ⟨w.heap.size + 1 + 1, 0, none⟩), aQ ⟨qa, qb, qc, qd⟩] (by rfl) rfl rfl (by simp only [List.map_toArray, List.map_cons, List.map_nil]; rfl) ?_
              with_reducible refine (HWh.out _ (Wk.of WKc.out)).mono ?_
              rintro e w3 ⟨rfl, hg, hc, hk⟩
              have HB := Lib.hid (HB.out.trans hg)
              have HC := Lib.hid hc
              clear hc hk
              clear hg
              refine ⟨_, rfl, ?_⟩
              refine hK.out _ _ (FF.out _ HB) (fun hHeld => ?_)
              clear hK K
              refine no_ (h := ?_)
              refine on_ 19 (some 4) (h := fun K hK => ?_)
              refine value_ (w1 := ?_) (v := ?_) (by rfl) rfl ?_ ?_
              rotate_left 2
              · go_simp
                constructor
                · rfl
                · rfl
              have HA := Lib.hid (ha_new HB.out (.cells #[.int .i64 0, .int .i64 0, .int .i64 0, .int .i64 0] 29))
              have hge := HB.out.size
              have HC := Lib.hid ((((Below.refl _ _).alloc (Nat.le_refl _) (.cells #[.int .i64 0, .int .i64 0, .int .i64 0, .int .i64 0] 29)).cell (World.block_lt_of_cell? _ _ HC.out)).trans HC.out)
              have HB := Lib.hid (HB.out.alloc (Nat.le_trans (ltb) HB.out.size) (.cells #[.int .i64 0, .int .i64 0, .int .i64 0, .int .i64 0] 29))
              refine hK.out _ _ (FF.out _ HB) (fun hHeld => ?_)
              clear hK K
              refine no_ (h := ?_)
              exact norm_ (by simp only [putAll, Act.put, List.setIfInBounds_toArray, List.set_cons_zero, List.set_cons_succ]) (hCont _ _ ⟨hge, HA.out, HB.out, HC.out⟩)
            · skip
              refine value_ (w1 := ?_) (v := ?_) (by rfl) rfl ?_ ?_
              rotate_left 2
              · go_simp
                constructor
                · rfl
                · rfl
              have HA := Lib.hid (ha_new HB.out (.cells #[.int .i64 0, .int .i64 0, .int .i64 0, .int .i64 0] 29))
              have hge := HB.out.size
              have WKc := Lib.hid ((Below.heap_alloc _ (.cells #[.int .i64 0, .int .i64 0, .int .i64 0, .int .i64 0] 29) _ (blk_lt WKc.out)).trans WKc.out)
              have HB := Lib.hid (HB.out.alloc (Nat.le_trans (ltb) HB.out.size) (.cells #[.int .i64 0, .int .i64 0, .int .i64 0, .int .i64 0] 29))
              refine hK.out _ _ (FF.out _ HB) (fun hHeld => ?_)
              clear hK K
              refine no_ (h := ?_)
              refine on_ 18 (some 25) (h := fun K hK => ?_)
              refine goes_ Try.func106 (by kernel_rfl) rfl #[.pointer (some ⟨w.heap.size + 1 + 1, 0, none⟩), aQ ⟨qa, qb, qc, qd⟩] (by rfl) rfl rfl (by simp only [List.map_toArray, List.map_cons, List.map_nil]; rfl) ?_
              with_reducible refine (HWh.out _ (Wk.of WKc.out)).mono ?_
              rintro e w3 ⟨rfl, hg, hc, hk⟩
              have HB := Lib.hid (HB.out.trans hg)
              have HA := Lib.hid ((hk _ (blk_lt HA.out) (by omega)).trans HA.out)
              have HC := Lib.hid hc
              clear hc hk
              clear hg
              refine ⟨_, rfl, ?_⟩
              refine hK.out _ _ (FF.out _ HB) (fun hHeld => ?_)
              clear hK K
              refine no_ (h := ?_)
              exact norm_ (by simp only [putAll, Act.put, List.setIfInBounds_toArray, List.set_cons_zero, List.set_cons_succ]) (hCont _ _ ⟨hge, HA.out, HB.out, HC.out⟩)
          · skip
            refine value_ (w1 := ?_) (v := ?_) (by rfl) rfl ?_ ?_
            rotate_left 2
            · go_simp
              constructor
              · rfl
              · rfl
            have HA := Lib.hid (ha_new HB.out (.cells #[.int .i64 0, .int .i64 0, .int .i64 0, .int .i64 0] 29))
            have hge := HB.out.size
            have WKc := Lib.hid ((Below.heap_alloc _ (.cells #[.int .i64 0, .int .i64 0, .int .i64 0, .int .i64 0] 29) _ (blk_lt WKc.out)).trans WKc.out)
            have HB := Lib.hid (HB.out.alloc (Nat.le_trans (ltb) HB.out.size) (.cells #[.int .i64 0, .int .i64 0, .int .i64 0, .int .i64 0] 29))
            refine hK.out _ _ (FF.out _ HB) (fun hHeld => ?_)
            clear hK K
            refine no_ (h := ?_)
            refine on_ 16 (some 23) (h := fun K hK => ?_)
            refine goes_ Try.func107 (by kernel_rfl) rfl #[.int .i64 tz, .int .i64 1099511627776] (by rfl) rfl rfl (by simp only [List.map_toArray, List.map_cons, List.map_nil]; rfl) ?_
            with_reducible refine (hptz.out _).mono ?_
            rintro e w3 ⟨rfl, rfl⟩
            refine ⟨_, rfl, ?_⟩
            refine hK.out _ _ (FF.out _ HB) (fun hHeld => ?_)
            clear hK K
            refine no_ (h := ?_)
            refine pu_ 17 24 (h := ?_)
            refine on_ 18 (some 25) (h := fun K hK => ?_)
            refine goes_ Try.func106 (by kernel_rfl) rfl #[.pointer (some ⟨w.heap.size + 1 + 1, 0, none⟩), aQ ⟨qa, qb, qc, qd⟩] (by rfl) rfl rfl (by simp only [List.map_toArray, List.map_cons, List.map_nil]; rfl) ?_
            with_reducible refine (HWh.out _ (Wk.of WKc.out)).mono ?_
            rintro e w3 ⟨rfl, hg, hc, hk⟩
            have HB := Lib.hid (HB.out.trans hg)
            have HA := Lib.hid ((hk _ (blk_lt HA.out) (by omega)).trans HA.out)
            have HC := Lib.hid hc
            clear hc hk
            clear hg
            refine ⟨_, rfl, ?_⟩
            refine hK.out _ _ (FF.out _ HB) (fun hHeld => ?_)
            clear hK K
            refine no_ (h := ?_)
            exact norm_ (by simp only [putAll, Act.put, List.setIfInBounds_toArray, List.set_cons_zero, List.set_cons_succ]) (hCont _ _ ⟨hge, HA.out, HB.out, HC.out⟩)
        · skip
          refine value_ (w1 := ?_) (v := ?_) (by rfl) rfl ?_ ?_
          rotate_left 2
          · go_simp
            constructor
            · rfl
            · rfl
          have HA := Lib.hid (ha_new HB.out (.cells #[.int .i64 0, .int .i64 0, .int .i64 0, .int .i64 0] 29))
          have hge := HB.out.size
          have WKc := Lib.hid ((Below.heap_alloc _ (.cells #[.int .i64 0, .int .i64 0, .int .i64 0, .int .i64 0] 29) _ (blk_lt WKc.out)).trans WKc.out)
          have HB := Lib.hid (HB.out.alloc (Nat.le_trans (ltb) HB.out.size) (.cells #[.int .i64 0, .int .i64 0, .int .i64 0, .int .i64 0] 29))
          refine hK.out _ _ (FF.out _ HB) (fun hHeld => ?_)
          clear hK K
          refine no_ (h := ?_)
          refine on_ 12 (some 19) (h := fun K hK => ?_)
          refine goes_ Try.func107 (by kernel_rfl) rfl #[.int .i64 ty, .int .i64 1099511627776] (by rfl) rfl rfl (by simp only [List.map_toArray, List.map_cons, List.map_nil]; rfl) ?_
          with_reducible refine (hpty.out _).mono ?_
          rintro e w3 ⟨rfl, rfl⟩
          refine ⟨_, rfl, ?_⟩
          refine hK.out _ _ (FF.out _ HB) (fun hHeld => ?_)
          clear hK K
          refine no_ (h := ?_)
          refine on_ 16 (some 23) (h := fun K hK => ?_)
          refine goes_ Try.func107 (by kernel_rfl) rfl #[.int .i64 tz, .int .i64 1099511627776] (by rfl) rfl rfl (by simp only [List.map_toArray, List.map_cons, List.map_nil]; rfl) ?_
          with_reducible refine (hptz.out _).mono ?_
          rintro e w3 ⟨rfl, rfl⟩
          refine ⟨_, rfl, ?_⟩
          refine hK.out _ _ (FF.out _ HB) (fun hHeld => ?_)
          clear hK K
          refine no_ (h := ?_)
          refine pu_ 17 24 (h := ?_)
          refine on_ 18 (some 25) (h := fun K hK => ?_)
          refine goes_ Try.func106 (by kernel_rfl) rfl #[.pointer (some ⟨w.heap.size + 1 + 1, 0, none⟩), aQ ⟨qa, qb, qc, qd⟩] (by rfl) rfl rfl (by simp only [List.map_toArray, List.map_cons, List.map_nil]; rfl) ?_
          with_reducible refine (HWh.out _ (Wk.of WKc.out)).mono ?_
          rintro e w3 ⟨rfl, hg, hc, hk⟩
          have HB := Lib.hid (HB.out.trans hg)
          have HA := Lib.hid ((hk _ (blk_lt HA.out) (by omega)).trans HA.out)
          have HC := Lib.hid hc
          clear hc hk
          clear hg
          refine ⟨_, rfl, ?_⟩
          refine hK.out _ _ (FF.out _ HB) (fun hHeld => ?_)
          clear hK K
          refine no_ (h := ?_)
          exact norm_ (by simp only [putAll, Act.put, List.setIfInBounds_toArray, List.set_cons_zero, List.set_cons_succ]) (hCont _ _ ⟨hge, HA.out, HB.out, HC.out⟩)
      · skip
        refine value_ (w1 := ?_) (v := ?_) (by rfl) rfl ?_ ?_
        rotate_left 2
        · go_simp
          constructor
          · rfl
          · rfl
        have HA := Lib.hid (ha_new HB.out (.cells #[.int .i64 0, .int .i64 0, .int .i64 0, .int .i64 0] 29))
        have hge := HB.out.size
        have WKc := Lib.hid ((Below.heap_alloc _ (.cells #[.int .i64 0, .int .i64 0, .int .i64 0, .int .i64 0] 29) _ (blk_lt WKc.out)).trans WKc.out)
        have HB := Lib.hid (HB.out.alloc (Nat.le_trans (ltb) HB.out.size) (.cells #[.int .i64 0, .int .i64 0, .int .i64 0, .int .i64 0] 29))
        refine hK.out _ _ (FF.out _ HB) (fun hHeld => ?_)
        clear hK K
        refine no_ (h := ?_)
        refine on_ 8 (some 15) (h := fun K hK => ?_)
        refine goes_ Try.func107 (by kernel_rfl) rfl #[.int .i64 tx, .int .i64 1099511627776] (by rfl) rfl rfl (by simp only [List.map_toArray, List.map_cons, List.map_nil]; rfl) ?_
        with_reducible refine (hptx.out _).mono ?_
        rintro e w3 ⟨rfl, rfl⟩
        refine ⟨_, rfl, ?_⟩
        refine hK.out _ _ (FF.out _ HB) (fun hHeld => ?_)
        clear hK K
        refine no_ (h := ?_)
        refine on_ 12 (some 19) (h := fun K hK => ?_)
        refine goes_ Try.func107 (by kernel_rfl) rfl #[.int .i64 ty, .int .i64 1099511627776] (by rfl) rfl rfl (by simp only [List.map_toArray, List.map_cons, List.map_nil]; rfl) ?_
        with_reducible refine (hpty.out _).mono ?_
        rintro e w3 ⟨rfl, rfl⟩
        refine ⟨_, rfl, ?_⟩
        refine hK.out _ _ (FF.out _ HB) (fun hHeld => ?_)
        clear hK K
        refine no_ (h := ?_)
        refine on_ 16 (some 23) (h := fun K hK => ?_)
        refine goes_ Try.func107 (by kernel_rfl) rfl #[.int .i64 tz, .int .i64 1099511627776] (by rfl) rfl rfl (by simp only [List.map_toArray, List.map_cons, List.map_nil]; rfl) ?_
        with_reducible refine (hptz.out _).mono ?_
        rintro e w3 ⟨rfl, rfl⟩
        refine ⟨_, rfl, ?_⟩
        refine hK.out _ _ (FF.out _ HB) (fun hHeld => ?_)
        clear hK K
        refine no_ (h := ?_)
        refine pu_ 17 24 (h := ?_)
        refine on_ 18 (some 25) (h := fun K hK => ?_)
        refine goes_ Try.func106 (by kernel_rfl) rfl #[.pointer (some ⟨w.heap.size + 1 + 1, 0, none⟩), aQ ⟨qa, qb, qc, qd⟩] (by rfl) rfl rfl (by simp only [List.map_toArray, List.map_cons, List.map_nil]; rfl) ?_
        with_reducible refine (HWh.out _ (Wk.of WKc.out)).mono ?_
        rintro e w3 ⟨rfl, hg, hc, hk⟩
        have HB := Lib.hid (HB.out.trans hg)
        have HA := Lib.hid ((hk _ (blk_lt HA.out) (by omega)).trans HA.out)
        have HC := Lib.hid hc
        clear hc hk
        clear hg
        refine ⟨_, rfl, ?_⟩
        refine hK.out _ _ (FF.out _ HB) (fun hHeld => ?_)
        clear hK K
        refine no_ (h := ?_)
        exact norm_ (by simp only [putAll, Act.put, List.setIfInBounds_toArray, List.set_cons_zero, List.set_cons_succ]) (hCont _ _ ⟨hge, HA.out, HB.out, HC.out⟩)
    · skip
      refine value_ (w1 := ?_) (v := ?_) (by rfl) rfl ?_ ?_
      rotate_left 2
      · go_simp
        constructor
        · rfl
        · rfl
      have HA := Lib.hid (ha_new HB.out (.cells #[.int .i64 0, .int .i64 0, .int .i64 0, .int .i64 0] 29))
      have hge := HB.out.size
      have WKc := Lib.hid ((Below.heap_alloc _ (.cells #[.int .i64 0, .int .i64 0, .int .i64 0, .int .i64 0] 29) _ (blk_lt WKc.out)).trans WKc.out)
      have HB := Lib.hid (HB.out.alloc (Nat.le_trans (ltb) HB.out.size) (.cells #[.int .i64 0, .int .i64 0, .int .i64 0, .int .i64 0] 29))
      refine hK.out _ _ (FF.out _ HB) (fun hHeld => ?_)
      clear hK K
      refine no_ (h := ?_)
      refine on_ 4 (some 11) (h := fun K hK => ?_)
      refine goes_ Try.func107 (by kernel_rfl) rfl #[.int .i64 tw, .int .i64 1099511627776] (by rfl) rfl rfl (by simp only [List.map_toArray, List.map_cons, List.map_nil]; rfl) ?_
      with_reducible refine (hptw.out _).mono ?_
      rintro e w3 ⟨rfl, rfl⟩
      refine ⟨_, rfl, ?_⟩
      refine hK.out _ _ (FF.out _ HB) (fun hHeld => ?_)
      clear hK K
      refine no_ (h := ?_)
      refine on_ 8 (some 15) (h := fun K hK => ?_)
      refine goes_ Try.func107 (by kernel_rfl) rfl #[.int .i64 tx, .int .i64 1099511627776] (by rfl) rfl rfl (by simp only [List.map_toArray, List.map_cons, List.map_nil]; rfl) ?_
      with_reducible refine (hptx.out _).mono ?_
      rintro e w3 ⟨rfl, rfl⟩
      refine ⟨_, rfl, ?_⟩
      refine hK.out _ _ (FF.out _ HB) (fun hHeld => ?_)
      clear hK K
      refine no_ (h := ?_)
      refine on_ 12 (some 19) (h := fun K hK => ?_)
      refine goes_ Try.func107 (by kernel_rfl) rfl #[.int .i64 ty, .int .i64 1099511627776] (by rfl) rfl rfl (by simp only [List.map_toArray, List.map_cons, List.map_nil]; rfl) ?_
      with_reducible refine (hpty.out _).mono ?_
      rintro e w3 ⟨rfl, rfl⟩
      refine ⟨_, rfl, ?_⟩
      refine hK.out _ _ (FF.out _ HB) (fun hHeld => ?_)
      clear hK K
      refine no_ (h := ?_)
      refine on_ 16 (some 23) (h := fun K hK => ?_)
      refine goes_ Try.func107 (by kernel_rfl) rfl #[.int .i64 tz, .int .i64 1099511627776] (by rfl) rfl rfl (by simp only [List.map_toArray, List.map_cons, List.map_nil]; rfl) ?_
      with_reducible refine (hptz.out _).mono ?_
      rintro e w3 ⟨rfl, rfl⟩
      refine ⟨_, rfl, ?_⟩
      refine hK.out _ _ (FF.out _ HB) (fun hHeld => ?_)
      clear hK K
      refine no_ (h := ?_)
      refine pu_ 17 24 (h := ?_)
      refine on_ 18 (some 25) (h := fun K hK => ?_)
      refine goes_ Try.func106 (by kernel_rfl) rfl #[.pointer (some ⟨w.heap.size + 1 + 1, 0, none⟩), aQ ⟨qa, qb, qc, qd⟩] (by rfl) rfl rfl (by simp only [List.map_toArray, List.map_cons, List.map_nil]; rfl) ?_
      with_reducible refine (HWh.out _ (Wk.of WKc.out)).mono ?_
      rintro e w3 ⟨rfl, hg, hc, hk⟩
      have HB := Lib.hid (HB.out.trans hg)
      have HA := Lib.hid ((hk _ (blk_lt HA.out) (by omega)).trans HA.out)
      have HC := Lib.hid hc
      clear hc hk
      clear hg
      refine ⟨_, rfl, ?_⟩
      refine hK.out _ _ (FF.out _ HB) (fun hHeld => ?_)
      clear hK K
      refine no_ (h := ?_)
      exact norm_ (by simp only [putAll, Act.put, List.setIfInBounds_toArray, List.set_cons_zero, List.set_cons_succ]) (hCont _ _ ⟨hge, HA.out, HB.out, HC.out⟩)
  rintro AB wj ⟨hge, HA, HB, HC⟩
  have HA := Lib.hid HA
  have HB := Lib.hid HB
  have HC := Lib.hid HC
  have hHeld : wj.cell? ⟨w.heap.size, 3, none⟩ = some (.int .i64 tw) ∧ wj.cell? ⟨w.heap.size, 4, none⟩ = some (.int .i64 tx) ∧ wj.cell? ⟨w.heap.size, 5, none⟩ = some (.int .i64 ty) ∧ wj.cell? ⟨w.heap.size, 6, none⟩ = some (.int .i64 tz) := (FF.out _ HB)
  refine no_ (h := ?_)
  refine on_ 20 (none) (h := fun K hK => ?_)
  have sc0 : World.cell? _ ⟨AB, 0, none⟩ = some (.int .i64 0) := (blk_cell HA.out 0).trans rfl
  have sf0 := blk_frozen HA.out 0
  have sc1 : World.cell? _ ⟨AB, 1, none⟩ = some (.int .i64 0) := (blk_cell HA.out 1).trans rfl
  have sf1 := blk_frozen HA.out 1
  have sc2 : World.cell? _ ⟨AB, 2, none⟩ = some (.int .i64 0) := (blk_cell HA.out 2).trans rfl
  have sf2 := blk_frozen HA.out 2
  have sc3 : World.cell? _ ⟨AB, 3, none⟩ = some (.int .i64 0) := (blk_cell HA.out 3).trans rfl
  have sf3 := blk_frozen HA.out 3
  refine skip_ (w1 := ?_) (by rfl) rfl ?_ ?_
  rotate_left
  · go_simp
    rfl
  have HC := Lib.hid (show World.cell? _ _ = _ from (World.cell?_of_block (bo4 (show w.heap.size + 1 + 1 ≠ AB from by omega) (.int .i64 0) (.int .i64 0) (.int .i64 0) (.int .i64 0))).trans HC.out)
  have HA := Lib.hid (bs4 HA.out (.int .i64 0) (.int .i64 0) (.int .i64 0) (.int .i64 0))
  have HB := Lib.hid (bb4 HB.out (Nat.le_trans (ltb) hge) (.int .i64 0) (.int .i64 0) (.int .i64 0) (.int .i64 0))
  clear sc0 sf0 sc1 sf1 sc2 sf2 sc3 sf3
  refine hK.out _ _ (FF.out _ HB) (fun hHeld => ?_)
  clear hK K
  refine done_ (by kernel_rfl) ?_
  obtain ⟨w2, hwn⟩ : ∃ V, ((((wj.setCell ⟨AB, 0, none⟩ (.int .i64 0)).setCell ⟨AB, 1, none⟩ (.int .i64 0)).setCell ⟨AB, 2, none⟩ (.int .i64 0)).setCell ⟨AB, 3, none⟩ (.int .i64 0)) = V := ⟨_, rfl⟩
  rw [hwn] at HA HB HC ⊢
  clear hwn
  have RA2 : Hid (w2.heap[w.heap.size]? = some (.cells #[.int .i64 ax, .int .i64 ay, .int .i64 az, .int .i64 tw, .int .i64 tx, .int .i64 ty, .int .i64 tz] 31 (0, 0))) := Lib.hid ((HB.out.block _ (by omega)).trans RA.out)
  have RZ2 : Hid (w2.heap[w.heap.size + 1]? = some (.cells #[.int .i64 0, .int .i64 0, .int .i64 0, .int .i64 0, .int .i64 0, .int .i64 0, .int .i64 0] 92 (0, 0))) := Lib.hid ((HB.out.block _ (by omega)).trans RZ.out)
  have HW2 := Lib.hid (HW1.out.trans (HB.out.mono (show w.heap.size ≤ w.heap.size + 1 + 1 by omega)))
  have HA2 := HA
  have hz2 : w1.heap.size ≤ w2.heap.size := HB.out.size
  have k0 := HC.out
  have hgeA := hge
  have hz1 := HZ1.out
  have lta : AB < w2.heap.size := blk_lt HA2.out
  have ltq2 : w.heap.size < w2.heap.size := by omega
  clear hz1 HB HA hHeld hge y3 y4 y5 y6 RA RZ WK WKh HW1 ltg ltz ltq
  have y0 : w2.cell? ⟨w.heap.size, 0, none⟩ = some (.int .i64 ax) := (blk_cell RA2.out 0).trans rfl
  have y1 : w2.cell? ⟨w.heap.size, 1, none⟩ = some (.int .i64 ay) := (blk_cell RA2.out 1).trans rfl
  have y2 : w2.cell? ⟨w.heap.size, 2, none⟩ = some (.int .i64 az) := (blk_cell RA2.out 2).trans rfl
  have a0 : w2.cell? ⟨AB, 0, none⟩ = some (.int .i64 0) := (blk_cell HA2.out 0).trans rfl
  have a1 : w2.cell? ⟨AB, 1, none⟩ = some (.int .i64 0) := (blk_cell HA2.out 1).trans rfl
  have a2 : w2.cell? ⟨AB, 2, none⟩ = some (.int .i64 0) := (blk_cell HA2.out 2).trans rfl
  have a3 : w2.cell? ⟨AB, 3, none⟩ = some (.int .i64 0) := (blk_cell HA2.out 3).trans rfl
  have ff0 : w2.frozen? ⟨AB, 0, none⟩ = false := blk_frozen HA2.out 0
  have ff1 : w2.frozen? ⟨AB, 1, none⟩ = false := blk_frozen HA2.out 1
  have ff2 : w2.frozen? ⟨AB, 2, none⟩ = false := blk_frozen HA2.out 2
  have ff3 : w2.frozen? ⟨AB, 3, none⟩ = false := blk_frozen HA2.out 3
  have HB4 := Lib.hid (bs4 HA2.out (.int .i64 4294967296) (.int .i64 0) (.int .i64 0) (.int .i64 0))
  have RA4 := Lib.hid ((bo4 (show w.heap.size ≠ AB by omega) (.int .i64 4294967296) (.int .i64 0) (.int .i64 0) (.int .i64 0)).trans RA2.out)
  have RZ4 := Lib.hid ((bo4 (show w.heap.size + 1 ≠ AB by omega) (.int .i64 4294967296) (.int .i64 0) (.int .i64 0) (.int .i64 0)).trans RZ2.out)
  have HW4 := Lib.hid (bb4 HW2.out (show w.heap.size ≤ AB by omega) (.int .i64 4294967296) (.int .i64 0) (.int .i64 0) (.int .i64 0))
  obtain ⟨w4, hw4⟩ : ∃ V, ((((w2.setCell ⟨AB, 0, none⟩ (.int .i64 4294967296)).setCell ⟨AB, 1, none⟩ (.int .i64 0)).setCell ⟨AB, 2, none⟩ (.int .i64 0)).setCell ⟨AB, 3, none⟩ (.int .i64 0)) = V := ⟨_, rfl⟩
  rw [hw4] at HB4 RA4 RZ4 HW4
  have lz4 : w2.heap.size ≤ w4.heap.size := by rw [← hw4]; simp
  clear y0 y1 y2 HC
  have y0 : w4.cell? ⟨w.heap.size, 0, none⟩ = some (.int .i64 ax) := (blk_cell RA4.out 0).trans rfl
  have y1 : w4.cell? ⟨w.heap.size, 1, none⟩ = some (.int .i64 ay) := (blk_cell RA4.out 1).trans rfl
  have y2 : w4.cell? ⟨w.heap.size, 2, none⟩ = some (.int .i64 az) := (blk_cell RA4.out 2).trans rfl
  have lta4 : AB < w4.heap.size := by omega
  have ltq4 : w.heap.size < w4.heap.size := by omega
  go_wp2_with fail
  clear a0 a1 a2 a3 ff0 ff1 ff2 ff3 hw4 k0
  have a0 : w4.cell? ⟨AB, 0, none⟩ = some (.int .i64 4294967296) := (blk_cell HB4.out 0).trans rfl
  have a1 : w4.cell? ⟨AB, 1, none⟩ = some (.int .i64 0) := (blk_cell HB4.out 1).trans rfl
  have a2 : w4.cell? ⟨AB, 2, none⟩ = some (.int .i64 0) := (blk_cell HB4.out 2).trans rfl
  have a3 : w4.cell? ⟨AB, 3, none⟩ = some (.int .i64 0) := (blk_cell HB4.out 3).trans rfl
  have HB := Lib.hid ((Below.refl (w4.heap.size) w4).drew)
  have HA := Lib.hid (show w4.drew.heap[(w.heap.size + 1)]? = _ from RZ4.out)
  have FF := Lib.hid (show ∀ V, Hid (Below (w4.heap.size) w4 V) → V.cell? ⟨w.heap.size, 0, none⟩ = some (.int .i64 ax) ∧ V.cell? ⟨w.heap.size, 1, none⟩ = some (.int .i64 ay) ∧ V.cell? ⟨w.heap.size, 2, none⟩ = some (.int .i64 az) ∧ V.cell? ⟨AB, 0, none⟩ = some (.int .i64 4294967296) ∧ V.cell? ⟨AB, 1, none⟩ = some (.int .i64 0) ∧ V.cell? ⟨AB, 2, none⟩ = some (.int .i64 0) ∧ V.cell? ⟨AB, 3, none⟩ = some (.int .i64 0) from fun V HB => ⟨(HB.out.cell (p := ⟨w.heap.size, 0, none⟩) (ltq4)).trans y0, (HB.out.cell (p := ⟨w.heap.size, 1, none⟩) (ltq4)).trans y1, (HB.out.cell (p := ⟨w.heap.size, 2, none⟩) (ltq4)).trans y2, (HB.out.cell (p := ⟨AB, 0, none⟩) (lta4)).trans a0, (HB.out.cell (p := ⟨AB, 1, none⟩) (lta4)).trans a1, (HB.out.cell (p := ⟨AB, 2, none⟩) (lta4)).trans a2, (HB.out.cell (p := ⟨AB, 3, none⟩) (lta4)).trans a3⟩)
  refine start_ (n := 16) (S := fun w' => w'.cell? ⟨w.heap.size, 0, none⟩ = some (.int .i64 ax) ∧ w'.cell? ⟨w.heap.size, 1, none⟩ = some (.int .i64 ay) ∧ w'.cell? ⟨w.heap.size, 2, none⟩ = some (.int .i64 az) ∧ w'.cell? ⟨AB, 0, none⟩ = some (.int .i64 4294967296) ∧ w'.cell? ⟨AB, 1, none⟩ = some (.int .i64 0) ∧ w'.cell? ⟨AB, 2, none⟩ = some (.int .i64 0) ∧ w'.cell? ⟨AB, 3, none⟩ = some (.int .i64 0)) (ds := [15]) (MT 0 16) (by kernel_rfl) rfl rfl (FF.out _ HB) (fun hHeld => ?_)
  obtain ⟨wd, hwd⟩ : ∃ x, w4.drew = x := ⟨_, rfl⟩
  rw [hwd] at HB hHeld HA ⊢
  clear hwd
  refine pu_ 0 31 (h := ?_)
  refine pu_ 1 32 (h := ?_)
  refine pu_ 4 35 (h := ?_)
  refine pu_ 5 36 (h := ?_)
  refine pu_ 8 39 (h := ?_)
  refine pu_ 9 40 (h := ?_)
  refine ta_ 2 33 hHeld (h := ?_)
  refine ta_ 6 37 hHeld (h := ?_)
  refine ta_ 10 41 hHeld (h := ?_)
  refine ta_ 13 44 hHeld (h := ?_)
  refine on_ 3 (some 34) (h := fun K hK => ?_)
  refine goes_ Try.func107 (by kernel_rfl) rfl #[.int .i64 ax, .int .i64 4398046511104] (by rfl) rfl rfl (by simp only [List.map_toArray, List.map_cons, List.map_nil]; rfl) ?_
  with_reducible refine (hpax.out _).mono ?_
  rintro e w3 ⟨rfl, rfl⟩
  refine ⟨_, rfl, ?_⟩
  refine hK.out _ _ (FF.out _ HB) (fun hHeld => ?_)
  clear hK K
  refine no_ (h := ?_)
  refine on_ 7 (some 38) (h := fun K hK => ?_)
  refine goes_ Try.func107 (by kernel_rfl) rfl #[.int .i64 ay, .int .i64 4398046511104] (by rfl) rfl rfl (by simp only [List.map_toArray, List.map_cons, List.map_nil]; rfl) ?_
  with_reducible refine (hpay.out _).mono ?_
  rintro e w3 ⟨rfl, rfl⟩
  refine ⟨_, rfl, ?_⟩
  refine hK.out _ _ (FF.out _ HB) (fun hHeld => ?_)
  clear hK K
  refine no_ (h := ?_)
  refine on_ 11 (some 42) (h := fun K hK => ?_)
  refine goes_ Try.func107 (by kernel_rfl) rfl #[.int .i64 az, .int .i64 4398046511104] (by rfl) rfl rfl (by simp only [List.map_toArray, List.map_cons, List.map_nil]; rfl) ?_
  with_reducible refine (hpaz.out _).mono ?_
  rintro e w3 ⟨rfl, rfl⟩
  refine ⟨_, rfl, ?_⟩
  refine hK.out _ _ (FF.out _ HB) (fun hHeld => ?_)
  clear hK K
  refine no_ (h := ?_)
  refine pu_ 12 43 (h := ?_)
  refine pu_ 14 45 (h := ?_)
  refine last_ (i := 15) (N := none) (MT 16 0) rfl rfl (by kernel_rfl) (by decide) (fun K hK => ?_)
  have sc0 : World.cell? _ ⟨(w.heap.size + 1), 0, none⟩ = some (.int .i64 0) := (blk_cell HA.out 0).trans rfl
  have sf0 := blk_frozen HA.out 0
  have sc1 : World.cell? _ ⟨(w.heap.size + 1), 1, none⟩ = some (.int .i64 0) := (blk_cell HA.out 1).trans rfl
  have sf1 := blk_frozen HA.out 1
  have sc2 : World.cell? _ ⟨(w.heap.size + 1), 2, none⟩ = some (.int .i64 0) := (blk_cell HA.out 2).trans rfl
  have sf2 := blk_frozen HA.out 2
  have sc3 : World.cell? _ ⟨(w.heap.size + 1), 3, none⟩ = some (.int .i64 0) := (blk_cell HA.out 3).trans rfl
  have sf3 := blk_frozen HA.out 3
  have sc4 : World.cell? _ ⟨(w.heap.size + 1), 4, none⟩ = some (.int .i64 0) := (blk_cell HA.out 4).trans rfl
  have sf4 := blk_frozen HA.out 4
  have sc5 : World.cell? _ ⟨(w.heap.size + 1), 5, none⟩ = some (.int .i64 0) := (blk_cell HA.out 5).trans rfl
  have sf5 := blk_frozen HA.out 5
  have sc6 : World.cell? _ ⟨(w.heap.size + 1), 6, none⟩ = some (.int .i64 0) := (blk_cell HA.out 6).trans rfl
  have sf6 := blk_frozen HA.out 6
  refine skip_ (w1 := ?_) (by rfl) rfl ?_ ?_
  rotate_left
  · go_simp
    rfl
  have HB := Lib.hid (show Below (w.heap.size) _ _ from HB.out.mono (Nat.le_of_lt ltq4))
  have HA := Lib.hid (bs7 HA.out (.int .i64 ra) (.int .i64 rb) (.int .i64 rc) (.int .i64 4294967296) (.int .i64 0) (.int .i64 0) (.int .i64 0))
  have HB := Lib.hid (bb7 HB.out (show w.heap.size ≤ w.heap.size + 1 from Nat.le_succ _) (.int .i64 ra) (.int .i64 rb) (.int .i64 rc) (.int .i64 4294967296) (.int .i64 0) (.int .i64 0) (.int .i64 0))
  clear sc0 sf0 sc1 sf1 sc2 sf2 sc3 sf3 sc4 sf4 sc5 sf5 sc6 sf6
  refine hK.out _ _ ?_
  clear hK K
  refine done_ (by kernel_rfl) ?_
  obtain ⟨w5, hwn⟩ : ∃ V, (((((((w3.setCell ⟨(w.heap.size + 1), 0, none⟩ (.int .i64 ra)).setCell ⟨(w.heap.size + 1), 1, none⟩ (.int .i64 rb)).setCell ⟨(w.heap.size + 1), 2, none⟩ (.int .i64 rc)).setCell ⟨(w.heap.size + 1), 3, none⟩ (.int .i64 4294967296)).setCell ⟨(w.heap.size + 1), 4, none⟩ (.int .i64 0)).setCell ⟨(w.heap.size + 1), 5, none⟩ (.int .i64 0)).setCell ⟨(w.heap.size + 1), 6, none⟩ (.int .i64 0)) = V := ⟨_, rfl⟩
  rw [hwn] at HA HB ⊢
  clear hwn
  have HW5 := Lib.hid (HW4.out.trans HB.out)
  have t0 : w5.cell? ⟨w.heap.size + 1, 0, none⟩ = some (.int .i64 ra) := (blk_cell HA.out 0).trans rfl
  have t1 : w5.cell? ⟨w.heap.size + 1, 1, none⟩ = some (.int .i64 rb) := (blk_cell HA.out 1).trans rfl
  have t2 : w5.cell? ⟨w.heap.size + 1, 2, none⟩ = some (.int .i64 rc) := (blk_cell HA.out 2).trans rfl
  have t3 : w5.cell? ⟨w.heap.size + 1, 3, none⟩ = some (.int .i64 4294967296) := (blk_cell HA.out 3).trans rfl
  have t4 : w5.cell? ⟨w.heap.size + 1, 4, none⟩ = some (.int .i64 0) := (blk_cell HA.out 4).trans rfl
  have t5 : w5.cell? ⟨w.heap.size + 1, 5, none⟩ = some (.int .i64 0) := (blk_cell HA.out 5).trans rfl
  have t6 : w5.cell? ⟨w.heap.size + 1, 6, none⟩ = some (.int .i64 0) := (blk_cell HA.out 6).trans rfl
  clear HB HA
  go_wp2
  rw [HE.out, hU.out]
  exact bodyPost_ret (v := .agg (cP7 ⟨⟨ra, rb, rc⟩, ⟨4294967296, 0, 0, 0⟩⟩)) (by simp [results, Try.results55, go_sem, t0, t1, t2, t3, t4, t5, t6]) rfl ⟨rfl, HW5.out⟩
theorem right6_calls (p : P7) (w : World) (hp : i64s p) : Calls Try.prog 55 #[.agg (cP7 p)] w fun e w' => e = .returned (.agg (cP7 (rightPose p))) ∧ Below w.heap.size w w' := by
  by_cases h : lenF (partQ p.turn) < 2147483648
  · exact right6_bad p w hp h
  · exact right6_good p w hp (by omega)
end Go.Proofs.Ytckdhahceelckaa.G
namespace Go.Proofs.Ytckdhahceelckaa.G
open Go.RowKit Go.Proofs.YtckdhahceelckaaW.PrintWords Go.Proofs.YtckdhahceelckaaW.PrintLast Go.Proofs.YtckdhahceelckaaW.PrintMore
attribute [local go_sem] max2_mx min2_mn max_two min_two max_three min_three max_four min_four
set_option linter.unusedVariables false
set_option linter.unusedSimpArgs false
theorem times_bd {x n : Int} (h1 : -1048576 ≤ x) (h2 : x ≤ 1048576) (h3 : 0 ≤ n) (h4 : n ≤ 1048576) : -1099511627776 ≤ x * n ∧ x * n ≤ 1099511627776 := by
  have := Int.natAbs_mul x n
  have := Nat.mul_le_mul (show x.natAbs ≤ 1048576 by omega) (show n.natAbs ≤ 1048576 by omega)
  omega
def timesF (p : P3) (n : Int) : P3 := ⟨p.x * n, p.y * n, p.z * n⟩
set_option maxHeartbeats 1000000 in
theorem times6_calls (p : P3) (n : Int) (hp : in3 1048576 p) (h0 : 0 ≤ n) (h1 : n ≤ 1048576) (w : World) :
    Calls Try.prog 112 #[aP p, .int .i64 n] w fun e w' => e = .returned (aP (timesF p n)) ∧ Below w.heap.size w w' := by
  obtain ⟨x, y, z⟩ := p
  obtain ⟨a1, a2, a3, a4, a5, a6⟩ := hp
  simp only at a1 a2 a3 a4 a5 a6
  obtain ⟨b1, b2⟩ := times_bd a1 a2 h0 h1
  obtain ⟨b3, b4⟩ := times_bd a3 a4 h0 h1
  obtain ⟨b5, b6⟩ := times_bd a5 a6 h0 h1
  have e1 : IntKind.i64.wrap (x * n) = x * n := iw_id _ (by omega) (by omega)
  have e2 : IntKind.i64.wrap (y * n) = y * n := iw_id _ (by omega) (by omega)
  have e3 : IntKind.i64.wrap (z * n) = z * n := iw_id _ (by omega) (by omega)
  have e4 : wrap64 (x * n) = x * n := w64_id _ (by omega) (by omega)
  have e5 : wrap64 (y * n) = y * n := w64_id _ (by omega) (by omega)
  have e6 : wrap64 (z * n) = z * n := w64_id _ (by omega) (by omega)
  go_enter Try.func112, Try.ntmps112
  go_wp2
  exact bodyPost_ret (v := aP (timesF ⟨x, y, z⟩ n)) (by simp [results, Try.results112, go_sem, timesF]) rfl ⟨rfl, ((Below.refl _ w).alloc (Nat.le_refl _) _).alloc (by simp) _⟩
theorem td_facts (n k : Int) (hk : 0 < k) : k * n.tdiv k + n.tmod k = n ∧ (0 ≤ n → 0 ≤ n.tmod k ∧ n.tmod k < k) ∧ (n ≤ 0 → -k < n.tmod k ∧ n.tmod k ≤ 0) := by
  refine ⟨Int.mul_tdiv_add_tmod n k, fun h => ?_, fun h => ?_⟩
  · rw [Int.tmod_eq_emod_of_nonneg h]; exact ⟨Int.emod_nonneg _ (by omega), Int.emod_lt_of_pos _ hk⟩
  · have e : n.tmod k = -((-n).tmod k) := by rw [Int.neg_tmod]; omega
    rw [e, Int.tmod_eq_emod_of_nonneg (by omega)]
    have := Int.emod_nonneg (-n) (show k ≠ 0 by omega)
    have := Int.emod_lt_of_pos (-n) hk
    omega
set_option maxHeartbeats 1000000 in
theorem down6_calls (n : Int) (h1 : -4611686018427387904 ≤ n) (h2 : n ≤ 4611686018427387904) (w : World) :
    Calls Try.prog 113 #[.int .i64 n] w fun e w' => e = .returned (.int .i64 (n / 1048576)) ∧ w' = w := by
  obtain ⟨t1, t2, t3⟩ := td_facts n 1048576 (by decide)
  have t4 : -1048576 < n.tmod 1048576 ∧ n.tmod 1048576 < 1048576 := by omega
  have t5 : 0 ≤ n.tmod 1048576 ∨ n < 0 := by omega
  obtain ⟨t6, t7⟩ := t4
  clear t2 t3
  have T := Lib.hid t1
  have T5 := Lib.hid t5
  clear t5
  by_cases h : n.tmod 1048576 < 0
  · have E := Lib.hid (show n.tdiv 1048576 - 1 = n / 1048576 by omega)
    have b1 : -4398046511104 ≤ n.tdiv 1048576 := by omega
    have b2 : n.tdiv 1048576 ≤ 4398046511104 := by omega
    have e1 : IntKind.i64.wrap (n.tdiv 1048576) = n.tdiv 1048576 := iw_id _ (by omega) (by omega)
    have e2 : IntKind.i64.wrap (n.tdiv 1048576 - 1) = n.tdiv 1048576 - 1 := iw_id _ (by omega) (by omega)
    have e3 : IntKind.i64.wrap (n.tmod 1048576) = n.tmod 1048576 := iw_id _ (by omega) (by omega)
    have e4 : wrap64 (n.tdiv 1048576) = n.tdiv 1048576 := w64_id _ (by omega) (by omega)
    have e5 : wrap64 (n.tmod 1048576) = n.tmod 1048576 := w64_id _ (by omega) (by omega)
    clear t1
    have d : decide (n.tmod 1048576 < 0) = true := by simpa using h
    go_enter Try.func113, Try.ntmps113
    go_wp2
    go_ret
    exact ⟨by rw [← E.out]; rfl, rfl⟩
  · have E := Lib.hid (show n.tdiv 1048576 = n / 1048576 by omega)
    have b1 : -4398046511104 ≤ n.tdiv 1048576 := by omega
    have b2 : n.tdiv 1048576 ≤ 4398046511104 := by omega
    have e1 : IntKind.i64.wrap (n.tdiv 1048576) = n.tdiv 1048576 := iw_id _ (by omega) (by omega)
    have e3 : IntKind.i64.wrap (n.tmod 1048576) = n.tmod 1048576 := iw_id _ (by omega) (by omega)
    have e4 : wrap64 (n.tdiv 1048576) = n.tdiv 1048576 := w64_id _ (by omega) (by omega)
    have e5 : wrap64 (n.tmod 1048576) = n.tmod 1048576 := w64_id _ (by omega) (by omega)
    clear t1
    have d : decide (n.tmod 1048576 < 0) = false := by simpa using h
    go_enter Try.func113, Try.ntmps113
    go_wp2
    go_ret
    exact ⟨by rw [← E.out]; rfl, rfl⟩
set_option maxHeartbeats 1000000 in
theorem size5_calls (n : Int) (h1 : -4611686018427387904 ≤ n) (h2 : n ≤ 4611686018427387904) (w : World) :
    Calls Try.prog 131 #[.int .i64 n] w fun e w' => e = .returned (.int .i64 (n.natAbs : Int)) ∧ w' = w := by
  by_cases h : n < 0
  · have E := Lib.hid (show -n = (n.natAbs : Int) by omega)
    have d : decide (n < 0) = true := by simpa using h
    go_enter Try.func131, Try.ntmps131
    go_wp2
    go_ret
    exact ⟨by rw [← E.out]; rfl, rfl⟩
  · have E := Lib.hid (show n = (n.natAbs : Int) by omega)
    have d : decide (n < 0) = false := by simpa using h
    go_enter Try.func131, Try.ntmps131
    go_wp2
    go_ret
    exact ⟨by rw [← E.out]; rfl, rfl⟩
set_option maxHeartbeats 1000000 in
theorem in5_calls (n a b : Int) (r : Bool) (hr : decide (a ≤ n ∧ n ≤ b) = r) (w : World) :
    Calls Try.prog 129 #[.int .i64 n, .int .i64 a, .int .i64 b] w fun e w' => e = .returned (.bool r) ∧ w' = w := by
  by_cases h : a ≤ n
  · have d : decide (a ≤ n) = true := by simpa using h
    by_cases h' : n ≤ b
    · have d' : decide (n ≤ b) = true := by simpa using h'
      have E : Hid (r = true) := Lib.hid (by rw [← hr]; simp [h, h'])
      clear hr h h'
      go_enter Try.func129, Try.ntmps129
      go_wp2
      go_ret
      exact ⟨by rw [E.out]; rfl, rfl⟩
    · have d' : decide (n ≤ b) = false := by simpa using h'
      have E : Hid (r = false) := Lib.hid (by rw [← hr]; simp [h'])
      clear hr h h'
      go_enter Try.func129, Try.ntmps129
      go_wp2
      go_ret
      exact ⟨by rw [E.out]; rfl, rfl⟩
  · have d : decide (a ≤ n) = false := by simpa using h
    have E : Hid (r = false) := Lib.hid (by rw [← hr]; simp [h])
    clear hr h
    go_enter Try.func129, Try.ntmps129
    go_wp2
    go_ret
    exact ⟨by rw [E.out]; rfl, rfl⟩
instance (n : Int) (p : P3) : Decidable (in3 n p) := by unfold in3; infer_instance
set_option maxHeartbeats 4000000 in
theorem in6_calls (p : P3) (n : Int) (r : Bool) (hr : decide (in3 n p) = r) (h0 : 0 ≤ n) (h1 : n ≤ 4611686018427387904) (w : World) :
    Calls Try.prog 109 #[aP p, .int .i64 n] w fun e w' => e = .returned (.bool r) ∧ Below w.heap.size w w' := by
  obtain ⟨x, y, z⟩ := p
  have ew : IntKind.i64.wrap (-n) = -n := iw_id _ (by omega) (by omega)
  by_cases t0 : -n ≤ x
  rotate_left
  · have E : Hid (r = false) := Lib.hid (by rw [← hr]; apply decide_eq_false; rintro ⟨k1, k2, k3, k4, k5, k6⟩; simp only at k1 k2 k3 k4 k5 k6; omega)
    have d0 : decide (-n ≤ x) = false := by simpa using t0
    clear hr t0
    go_enter Try.func109, Try.ntmps109
    go_wp2
    go_ret
    exact ⟨by rw [E.out]; rfl, (Below.refl _ w).alloc (Nat.le_refl _) _⟩
  by_cases t1 : x ≤ n
  rotate_left
  · have E : Hid (r = false) := Lib.hid (by rw [← hr]; apply decide_eq_false; rintro ⟨k1, k2, k3, k4, k5, k6⟩; simp only at k1 k2 k3 k4 k5 k6; omega)
    have d0 : decide (-n ≤ x) = true := by simpa using t0
    have d1 : decide (x ≤ n) = false := by simpa using t1
    clear hr t0 t1
    go_enter Try.func109, Try.ntmps109
    go_wp2
    go_ret
    exact ⟨by rw [E.out]; rfl, (Below.refl _ w).alloc (Nat.le_refl _) _⟩
  by_cases t2 : -n ≤ y
  rotate_left
  · have E : Hid (r = false) := Lib.hid (by rw [← hr]; apply decide_eq_false; rintro ⟨k1, k2, k3, k4, k5, k6⟩; simp only at k1 k2 k3 k4 k5 k6; omega)
    have d0 : decide (-n ≤ x) = true := by simpa using t0
    have d1 : decide (x ≤ n) = true := by simpa using t1
    have d2 : decide (-n ≤ y) = false := by simpa using t2
    clear hr t0 t1 t2
    go_enter Try.func109, Try.ntmps109
    go_wp2
    go_ret
    exact ⟨by rw [E.out]; rfl, (Below.refl _ w).alloc (Nat.le_refl _) _⟩
  by_cases t3 : y ≤ n
  rotate_left
  · have E : Hid (r = false) := Lib.hid (by rw [← hr]; apply decide_eq_false; rintro ⟨k1, k2, k3, k4, k5, k6⟩; simp only at k1 k2 k3 k4 k5 k6; omega)
    have d0 : decide (-n ≤ x) = true := by simpa using t0
    have d1 : decide (x ≤ n) = true := by simpa using t1
    have d2 : decide (-n ≤ y) = true := by simpa using t2
    have d3 : decide (y ≤ n) = false := by simpa using t3
    clear hr t0 t1 t2 t3
    go_enter Try.func109, Try.ntmps109
    go_wp2
    go_ret
    exact ⟨by rw [E.out]; rfl, (Below.refl _ w).alloc (Nat.le_refl _) _⟩
  by_cases t4 : -n ≤ z
  rotate_left
  · have E : Hid (r = false) := Lib.hid (by rw [← hr]; apply decide_eq_false; rintro ⟨k1, k2, k3, k4, k5, k6⟩; simp only at k1 k2 k3 k4 k5 k6; omega)
    have d0 : decide (-n ≤ x) = true := by simpa using t0
    have d1 : decide (x ≤ n) = true := by simpa using t1
    have d2 : decide (-n ≤ y) = true := by simpa using t2
    have d3 : decide (y ≤ n) = true := by simpa using t3
    have d4 : decide (-n ≤ z) = false := by simpa using t4
    clear hr t0 t1 t2 t3 t4
    go_enter Try.func109, Try.ntmps109
    go_wp2
    go_ret
    exact ⟨by rw [E.out]; rfl, (Below.refl _ w).alloc (Nat.le_refl _) _⟩
  by_cases t5 : z ≤ n
  rotate_left
  · have E : Hid (r = false) := Lib.hid (by rw [← hr]; apply decide_eq_false; rintro ⟨k1, k2, k3, k4, k5, k6⟩; simp only at k1 k2 k3 k4 k5 k6; omega)
    have d0 : decide (-n ≤ x) = true := by simpa using t0
    have d1 : decide (x ≤ n) = true := by simpa using t1
    have d2 : decide (-n ≤ y) = true := by simpa using t2
    have d3 : decide (y ≤ n) = true := by simpa using t3
    have d4 : decide (-n ≤ z) = true := by simpa using t4
    have d5 : decide (z ≤ n) = false := by simpa using t5
    clear hr t0 t1 t2 t3 t4 t5
    go_enter Try.func109, Try.ntmps109
    go_wp2
    go_ret
    exact ⟨by rw [E.out]; rfl, (Below.refl _ w).alloc (Nat.le_refl _) _⟩
  have E : Hid (r = true) := Lib.hid (by rw [← hr]; apply decide_eq_true; refine ⟨?_, ?_, ?_, ?_, ?_, ?_⟩ <;> simp only <;> omega)
  have d0 : decide (-n ≤ x) = true := by simpa using t0
  have d1 : decide (x ≤ n) = true := by simpa using t1
  have d2 : decide (-n ≤ y) = true := by simpa using t2
  have d3 : decide (y ≤ n) = true := by simpa using t3
  have d4 : decide (-n ≤ z) = true := by simpa using t4
  have d5 : decide (z ≤ n) = true := by simpa using t5
  clear hr t0 t1 t2 t3 t4 t5
  go_enter Try.func109, Try.ntmps109
  go_wp2
  go_ret
  exact ⟨by rw [E.out]; rfl, (Below.refl _ w).alloc (Nat.le_refl _) _⟩
end Go.Proofs.Ytckdhahceelckaa.G
namespace Go.Proofs.Ytckdhahceelckaa.G
open Go.RowKit Go.Proofs.YtckdhahceelckaaW.PrintWords Go.Proofs.YtckdhahceelckaaW.PrintLast Go.Proofs.YtckdhahceelckaaW.PrintMore
attribute [local go_sem] max2_mx min2_mn max_two min_two max_three min_three max_four min_four
attribute [local go_sem high] eqA23
set_option linter.unusedVariables false
set_option linter.unusedSimpArgs false
set_option maxHeartbeats 4000000 in
theorem rin_calls (p : P3) (n : Int) (r : Bool) (hr : decide (in3 n p) = r) (h0 : 0 ≤ n) (h1 : n ≤ 4611686018427387904) (w : World) :
    Calls Try.prog 67 #[aP p, .int .i64 n] w fun e w' => e = .returned (.bool r) ∧ Below w.heap.size w w' := by
  obtain ⟨x, y, z⟩ := p
  have ew : IntKind.i64.wrap (-n) = -n := iw_id _ (by omega) (by omega)
  by_cases t0 : -n ≤ x
  rotate_left
  · have E : Hid (r = false) := Lib.hid (by rw [← hr]; apply decide_eq_false; rintro ⟨k1, k2, k3, k4, k5, k6⟩; simp only at k1 k2 k3 k4 k5 k6; omega)
    have d0 : decide (-n ≤ x) = false := by simpa using t0
    clear hr t0
    go_enter Try.func67, Try.ntmps67
    go_wp2
    go_ret
    exact ⟨by rw [E.out]; rfl, (Below.refl _ w).alloc (Nat.le_refl _) _⟩
  by_cases t1 : x ≤ n
  rotate_left
  · have E : Hid (r = false) := Lib.hid (by rw [← hr]; apply decide_eq_false; rintro ⟨k1, k2, k3, k4, k5, k6⟩; simp only at k1 k2 k3 k4 k5 k6; omega)
    have d0 : decide (-n ≤ x) = true := by simpa using t0
    have d1 : decide (x ≤ n) = false := by simpa using t1
    clear hr t0 t1
    go_enter Try.func67, Try.ntmps67
    go_wp2
    go_ret
    exact ⟨by rw [E.out]; rfl, (Below.refl _ w).alloc (Nat.le_refl _) _⟩
  by_cases t2 : -n ≤ y
  rotate_left
  · have E : Hid (r = false) := Lib.hid (by rw [← hr]; apply decide_eq_false; rintro ⟨k1, k2, k3, k4, k5, k6⟩; simp only at k1 k2 k3 k4 k5 k6; omega)
    have d0 : decide (-n ≤ x) = true := by simpa using t0
    have d1 : decide (x ≤ n) = true := by simpa using t1
    have d2 : decide (-n ≤ y) = false := by simpa using t2
    clear hr t0 t1 t2
    go_enter Try.func67, Try.ntmps67
    go_wp2
    go_ret
    exact ⟨by rw [E.out]; rfl, (Below.refl _ w).alloc (Nat.le_refl _) _⟩
  by_cases t3 : y ≤ n
  rotate_left
  · have E : Hid (r = false) := Lib.hid (by rw [← hr]; apply decide_eq_false; rintro ⟨k1, k2, k3, k4, k5, k6⟩; simp only at k1 k2 k3 k4 k5 k6; omega)
    have d0 : decide (-n ≤ x) = true := by simpa using t0
    have d1 : decide (x ≤ n) = true := by simpa using t1
    have d2 : decide (-n ≤ y) = true := by simpa using t2
    have d3 : decide (y ≤ n) = false := by simpa using t3
    clear hr t0 t1 t2 t3
    go_enter Try.func67, Try.ntmps67
    go_wp2
    go_ret
    exact ⟨by rw [E.out]; rfl, (Below.refl _ w).alloc (Nat.le_refl _) _⟩
  by_cases t4 : -n ≤ z
  rotate_left
  · have E : Hid (r = false) := Lib.hid (by rw [← hr]; apply decide_eq_false; rintro ⟨k1, k2, k3, k4, k5, k6⟩; simp only at k1 k2 k3 k4 k5 k6; omega)
    have d0 : decide (-n ≤ x) = true := by simpa using t0
    have d1 : decide (x ≤ n) = true := by simpa using t1
    have d2 : decide (-n ≤ y) = true := by simpa using t2
    have d3 : decide (y ≤ n) = true := by simpa using t3
    have d4 : decide (-n ≤ z) = false := by simpa using t4
    clear hr t0 t1 t2 t3 t4
    go_enter Try.func67, Try.ntmps67
    go_wp2
    go_ret
    exact ⟨by rw [E.out]; rfl, (Below.refl _ w).alloc (Nat.le_refl _) _⟩
  by_cases t5 : z ≤ n
  rotate_left
  · have E : Hid (r = false) := Lib.hid (by rw [← hr]; apply decide_eq_false; rintro ⟨k1, k2, k3, k4, k5, k6⟩; simp only at k1 k2 k3 k4 k5 k6; omega)
    have d0 : decide (-n ≤ x) = true := by simpa using t0
    have d1 : decide (x ≤ n) = true := by simpa using t1
    have d2 : decide (-n ≤ y) = true := by simpa using t2
    have d3 : decide (y ≤ n) = true := by simpa using t3
    have d4 : decide (-n ≤ z) = true := by simpa using t4
    have d5 : decide (z ≤ n) = false := by simpa using t5
    clear hr t0 t1 t2 t3 t4 t5
    go_enter Try.func67, Try.ntmps67
    go_wp2
    go_ret
    exact ⟨by rw [E.out]; rfl, (Below.refl _ w).alloc (Nat.le_refl _) _⟩
  have E : Hid (r = true) := Lib.hid (by rw [← hr]; apply decide_eq_true; refine ⟨?_, ?_, ?_, ?_, ?_, ?_⟩ <;> simp only <;> omega)
  have d0 : decide (-n ≤ x) = true := by simpa using t0
  have d1 : decide (x ≤ n) = true := by simpa using t1
  have d2 : decide (-n ≤ y) = true := by simpa using t2
  have d3 : decide (y ≤ n) = true := by simpa using t3
  have d4 : decide (-n ≤ z) = true := by simpa using t4
  have d5 : decide (z ≤ n) = true := by simpa using t5
  clear hr t0 t1 t2 t3 t4 t5
  go_enter Try.func67, Try.ntmps67
  go_wp2
  go_ret
  exact ⟨by rw [E.out]; rfl, (Below.refl _ w).alloc (Nat.le_refl _) _⟩
/-- are all of these at most so far out? -/
def allIn (n : Int) (l : List P3) : Bool := l.all fun p => decide (in3 n p)
theorem allIn_iff (n : Int) (l : List P3) : allIn n l = true ↔ ∀ p ∈ l, in3 n p := by unfold allIn; rw [List.all_eq_true]; exact ⟨fun h p hp => of_decide_eq_true (h p hp), fun h p hp => decide_eq_true (h p hp)⟩
theorem allIn_far (n : Int) (h0 : 0 ≤ n) (h1 : n ≤ 9223372036854775807) (l : List P3) : allIn n l = !(l.any (far3 n)) := by
  cases h : l.any (far3 n) with
  | false => rw [List.any_eq_false] at h; exact (allIn_iff n l).2 fun p hp => (far3_iff n p h0 h1).1 (by simpa using h p hp)
  | true =>
    rw [List.any_eq_true] at h
    obtain ⟨p, hp, h2⟩ := h
    cases e : allIn n l with
    | false => rfl
    | true => have := (far3_iff n p h0 h1).2 ((allIn_iff n l).1 e p hp); rw [this] at h2; cases h2
set_option maxHeartbeats 2000000 in
theorem all_calls (l : List P3) (A : Option Addr) (c : Nat) (n : Int) (w : World) (hr : Rd w A l) (hm : l.length < 9223372036854775807) (h0 : 0 ≤ n) (h1 : n ≤ 4611686018427387904) :
    Calls Try.prog 70 #[.slice A l.length c, .int .i64 n] w fun e w' => e = .returned (.bool (allIn n l)) ∧ Below w.heap.size w w' := by
  have HR := Lib.hid hr
  obtain ⟨r, hR⟩ : ∃ r, allIn n l = r := ⟨_, rfl⟩
  have HA := Lib.hid hR
  rw [hR]
  obtain ⟨N, hN⟩ : ∃ N, l.length = N := ⟨_, rfl⟩
  have HN := Lib.hid hN
  rw [hN] at hm ⊢
  clear hr hR hN
  go_enter Try.func70, Try.ntmps70
  go_wp2
  go_loopw [5, 6] (fun v5 v6 wr => ∃ k : Nat, k ≤ N ∧ v5 = .int .i64 k ∧ Hid (∀ p ∈ l.take k, in3 n p) ∧ Below w.heap.size w wr) (fun i _ _ => N - (intOf i).toNat)
  case atStart => exact ⟨0, Nat.zero_le _, rfl, Lib.hid (by simp), Below.refl _ _⟩
  case round =>
    obtain ⟨k, hk, rfl, hno, hbr⟩ := hrel
    by_cases hlt : k < N
    · have hkl : k < l.length := by rw [HN.out]; exact hlt
      obtain ⟨b, o, rfl, hbl, e1, e2, e3⟩ := (HR.out.below hbr).get k hkl
      obtain ⟨p, hp⟩ : ∃ p, l[k] = p := ⟨_, rfl⟩
      rw [hp] at e1 e2 e3
      have HP := Lib.hid hp
      have HT := Lib.hid (show l.take (k + 1) = l.take k ++ [l[k]] from List.take_succ_eq_append_getElem hkl)
      have HM := Lib.hid (show p ∈ l from hp ▸ List.getElem_mem hkl)
      obtain ⟨t, ht⟩ : ∃ t, decide (in3 n p) = t := ⟨_, rfl⟩
      have HI := Lib.hid (fun W => rin_calls p n t ht h0 h1 W)
      have HTT := Lib.hid ht
      clear hp ht
      obtain ⟨px, py, pz⟩ := p
      dsimp only at e1 e2 e3
      have hZ := hbr.size
      cases t with
      | false =>
        go_wp2_with fail
        refine (HI.out _).mono ?_
        rintro e w3 ⟨rfl, hb3⟩
        go_wp2
        go_ret
        refine ⟨?_, bthen hbr hb3⟩
        have : r = false := by
          rw [← HA.out]
          cases e : allIn n l with
          | false => rfl
          | true => exact absurd ((allIn_iff n l).1 e _ HM.out) (of_decide_eq_false HTT.out)
        rw [this]; rfl
      | true =>
        go_wp2_with fail
        refine (HI.out _).mono ?_
        rintro e w3 ⟨rfl, hb3⟩
        go_wp2
        go_roundw
        case rel =>
          refine ⟨k + 1, by omega, by go_num, Lib.hid fun p' hp' => ?_, bthen hbr hb3⟩
          rw [HT.out, HP.out] at hp'
          rcases List.mem_append.1 hp' with h | h
          · exact hno.out p' h
          · simp at h; rw [h]; exact of_decide_eq_true HTT.out
        case measure => simp [intOf]; omega
    · obtain rfl : k = N := by omega
      go_wp2
      go_ret
      refine ⟨?_, hbr⟩
      have : r = true := by
        rw [← HA.out]
        refine (allIn_iff n l).2 fun p hp => hno.out p ?_
        rwa [List.take_of_length_le (by rw [HN.out]; exact Nat.le_refl _)]
      rw [this]; rfl
end Go.Proofs.Ytckdhahceelckaa.G
namespace Go.Proofs.Ytckdhahceelckaa.G
open Go.RowKit Go.Proofs.YtckdhahceelckaaW.PrintWords Go.Proofs.YtckdhahceelckaaW.PrintLast Go.Proofs.YtckdhahceelckaaW.PrintMore
attribute [local go_sem] max2_mx min2_mn max_two min_two max_three min_three max_four min_four
attribute [local go_sem high] eqA23
set_option linter.unusedVariables false
set_option linter.unusedSimpArgs false
structure BsInv (s low high : Nat) : Prop where
  a : low * low ≤ s
  b : s < high * high
  c : low < high
  d : high ≤ 67108864
theorem BsInv.done {s low high : Nat} (h : BsInv s low high) (h1 : high ≤ low + 1) : isq s = low := by
  have e : high = low + 1 := by have := h.c; omega
  have := h.b
  rw [e] at this
  exact (isq_unique s low h.a this).symm
set_option maxHeartbeats 2000000 in
theorem rsizes_calls (p : P3) (w : World) :
    Calls Try.prog 27 #[aP p] w fun e w' => e = .returned (.tuple #[.int .i64 (sz3 p).1, .int .i64 (sz3 p).2]) ∧ Below w.heap.size w w' := by
  obtain ⟨x, y, z⟩ := p
  have hff := allIn_far 16777216 (by decide) (by decide) [⟨x, y, z⟩]
  cases hf : far3 16777216 ⟨x, y, z⟩ with
  | true =>
    have hs : sz3 ⟨x, y, z⟩ = (0, 0) := by unfold sz3; rw [hf]; rfl
    rw [hs]
    have hi : decide (in3 16777216 ⟨x, y, z⟩) = false := by
      apply decide_eq_false; intro h; rw [(far3_iff _ _ (by decide) (by decide)).2 h] at hf; cases hf
    have HI := Lib.hid (fun W => rin_calls ⟨x, y, z⟩ 16777216 false hi (by decide) (by decide) W)
    clear hs hf hi hff
    go_enter Try.func27, Try.ntmps27
    go_wp2_with fail
    refine (HI.out _).mono ?_
    rintro e w1 ⟨rfl, hb⟩
    go_wp2
    go_ret2
    exact ⟨rfl, ((Below.refl _ w).alloc (Nat.le_refl _) _).trans (hb.mono (by simp))⟩
  | false =>
    have hin := (far3_iff _ _ (by decide) (by decide)).1 hf
    have hd := dot3_eq ⟨x, y, z⟩ ⟨x, y, z⟩ 16777216 16777216 hin hin (by decide)
    have hd1 := dotI_bd ⟨x, y, z⟩ ⟨x, y, z⟩ 16777216 16777216 hin hin
    have hd2 := dotI_self ⟨x, y, z⟩
    have hs : sz3 ⟨x, y, z⟩ = (fl3 ⟨x, y, z⟩, ce3 ⟨x, y, z⟩) := by unfold sz3; rw [hf]; rfl
    rw [hs]
    clear hs
    unfold ce3 fl3
    obtain ⟨s, hs⟩ : ∃ s : Nat, dotI ⟨x, y, z⟩ ⟨x, y, z⟩ = s := ⟨_, (Int.toNat_of_nonneg hd2).symm⟩
    rw [hs] at hd hd1 hd2 ⊢
    rw [Int.toNat_natCast]
    have hsb : s ≤ 844424930131968 := by omega
    have HD := Lib.hid hd
    have HI := Lib.hid (fun W => rin_calls ⟨x, y, z⟩ 16777216 true (decide_eq_true hin) (by decide) (by decide) W)
    clear hd hd1 hd2 hs hin hf hff
    obtain ⟨U, hU⟩ : ∃ U : Int, (if (isq s : Int) * (isq s : Int) < (s : Int) then (isq s : Int) + 1 else (isq s : Int)) = U := ⟨_, rfl⟩
    rw [hU]
    have HU := Lib.hid hU
    clear hU
    go_enter Try.func27, Try.ntmps27
    go_wp2_with fail
    refine (HI.out _).mono ?_
    rintro e w1 ⟨rfl, hb⟩
    have z1 := (hb.block _ (show w.heap.size < (w.alloc (.cells #[.int .i64 x, .int .i64 y, .int .i64 z] 23)).heap.size by simp)).trans (heap_alloc_new w (.cells #[.int .i64 x, .int .i64 y, .int .i64 z] 23))
    have x0 : w1.cell? ⟨w.heap.size, 0, none⟩ = some (.int .i64 x) := (blk_cell z1 0).trans rfl
    have x1 : w1.cell? ⟨w.heap.size, 1, none⟩ = some (.int .i64 y) := (blk_cell z1 1).trans rfl
    have x2 : w1.cell? ⟨w.heap.size, 2, none⟩ = some (.int .i64 z) := (blk_cell z1 2).trans rfl
    have hB := Lib.hid (((Below.refl _ w).alloc (Nat.le_refl _) _).trans (hb.mono (by simp)))
    clear hb z1
    go_wp2_with fail
    refine (rdot_calls _ _ _ _ _ _ _).mono ?_
    rintro e w2 ⟨rfl, hb⟩
    rw [HD.out]
    have hB := bthen hB.out hb
    clear hb x0 x1 x2 HD HI
    go_wp2
    go_loopw [6, 7, 8] (fun v6 v7 v8 wr => ∃ (low high : Nat), v6 = .int .i64 low ∧ v7 = .int .i64 high ∧ Hid (BsInv s low high) ∧ wr = w2) (fun a b _ _ => (intOf b).toNat - (intOf a).toNat)
    case atStart => exact ⟨0, 67108864, rfl, rfl, Lib.hid ⟨by omega, by omega, by decide, by decide⟩, rfl⟩
    case round =>
      obtain ⟨low, high, rfl, rfl, hi, rfl⟩ := hrel
      have hc := hi.out.c
      have hd := hi.out.d
      by_cases hg : high ≤ low + 1
      · have hdone := Lib.hid (hi.out.done hg)
        have ha := hi.out.a
        have hp : (low : Int) * low = (low * low : Nat) := by simp
        obtain ⟨m, hm⟩ : ∃ m : Nat, low * low = m := ⟨_, rfl⟩
        rw [hm] at hp ha
        have t0 : decide (1 < (high : Int) - (low : Int)) = false := decide_eq_false (by omega)
        rcases Nat.lt_or_ge m s with hlt | hge
        · have t1 : (((m : Nat) : Int) == ((s : Nat) : Int)) = false := by simp; omega
          clear hm hg ha
          go_wp2
          go_ret2
          refine ⟨ret_two (by rw [hdone.out]) ?_, hB⟩
          rw [← HU.out, hdone.out, hp, if_pos (by omega)]
        · have t1 : (((m : Nat) : Int) == ((s : Nat) : Int)) = true := by simp; omega
          clear hm hg
          go_wp2
          go_ret2
          refine ⟨ret_two (by rw [hdone.out]) ?_, hB⟩
          rw [← HU.out, hdone.out, hp, if_neg (by omega)]
      · have t0 : decide (1 < (high : Int) - (low : Int)) = true := decide_eq_true (by omega)
        obtain ⟨t, ht⟩ : ∃ t : Nat, (low + high) / 2 = t := ⟨_, rfl⟩
        have htb : t ≤ 67108864 := by omega
        have hq : ((low : Int) + (high : Int)).tdiv 2 = (t : Int) := by
          rw [Int.tdiv_eq_ediv_of_nonneg (by omega)]; omega
        have hq2 : ((low : Int) + (high : Int)) / 2 = (t : Int) := by omega
        have htt : t * t ≤ 67108864 * 67108864 := Nat.mul_le_mul htb htb
        obtain ⟨m, hm⟩ : ∃ m : Nat, t * t = m := ⟨_, rfl⟩
        have hp : (t : Int) * t = (m : Int) := by rw [← hm]; simp
        rw [hm] at htt
        have h3 : m ≤ s → BsInv s t high := fun h => ⟨by rw [hm]; exact h, hi.out.b, by omega, hd⟩
        have h4 : s < m → BsInv s low t := fun h => ⟨hi.out.a, by rw [hm]; exact h, by omega, htb⟩
        have H3 := Lib.hid h3
        have H4 := Lib.hid h4
        have htl : low < t := by omega
        have hth : t < high := by omega
        clear h3 h4 ht hm hg
        rcases Nat.lt_or_ge s m with hlt | hge
        · go_wp2
          go_roundw
          case rel => exact ⟨low, t, by go_num, by go_num, Lib.hid (H4.out hlt), trivial⟩
          case measure => simp [intOf]; omega
        · go_wp2
          go_roundw
          case rel => exact ⟨t, high, by go_num, by go_num, Lib.hid (H3.out hge), trivial⟩
          case measure => simp [intOf]; omega
end Go.Proofs.Ytckdhahceelckaa.G
namespace Go.Proofs.Ytckdhahceelckaa.G
open Go.RowKit Go.Proofs.YtckdhahceelckaaW.PrintWords Go.Proofs.YtckdhahceelckaaW.PrintLast Go.Proofs.YtckdhahceelckaaW.PrintMore
attribute [local go_sem] max2_mx min2_mn max_two min_two max_three min_three max_four min_four
attribute [local go_sem high] eqA23
set_option linter.unusedVariables false
set_option linter.unusedSimpArgs false
def fstep (n : P3) (s : Int) (p : P3) : Int := mx s (dot3 n p)
def farF (n p0 : P3) (r : List P3) : Int := r.foldl (fstep n) (dot3 n p0)
theorem farF_snoc (n p0 : P3) (r : List P3) (k : Nat) (h : k < r.length) : farF n p0 (r.take (k + 1)) = mx (farF n p0 (r.take k)) (dot3 n r[k]) := by
  unfold farF
  rw [List.take_succ_eq_append_getElem h, List.foldl_append]; rfl
set_option maxHeartbeats 4000000 in
theorem farthest_calls (p0 : P3) (r : List P3) (A : Option Addr) (c : Nat) (n : P3) (w : World) (hr : RdB w A (p0 :: r)) (hm : r.length < 9223372036854775800) :
    Calls Try.prog 120 #[.slice A (r.length + 1) c, aP n] w fun e w' => e = .returned (.int .i64 (farF n p0 r)) ∧ Below w.heap.size w w' := by
  obtain ⟨nx, ny, nz⟩ := n
  obtain ⟨b, o, rfl, hlt, h1, h2, h3⟩ := hr.1.get 0 (by simp)
  simp only [Nat.zero_mul, Nat.add_zero, List.getElem_cons_zero] at h1 h2 h3
  have hR := Lib.hid hr.1
  obtain ⟨N, hN⟩ : ∃ N, r.length = N := ⟨_, rfl⟩
  have HN := Lib.hid hN
  rw [hN] at hm ⊢
  clear hr hN
  obtain ⟨px, py, pz⟩ := p0
  have HD0 := Lib.hid (show farF ⟨nx, ny, nz⟩ ⟨px, py, pz⟩ (r.take 0) = dot3 ⟨nx, ny, nz⟩ ⟨px, py, pz⟩ from rfl)
  have hl0 : (0 : Int) < (N : Int) + 1 := by omega
  go_enter Try.func120, Try.ntmps120
  go_wp2
  go_quiet (fail)
  obtain ⟨w1, hw1⟩ : ∃ V, (w.alloc (.cells #[.int .i64 nx, .int .i64 ny, .int .i64 nz] 23)).drewN nq = V := ⟨_, rfl⟩
  have hB := Lib.hid (show Below w.heap.size w w1 by rw [← hw1]; exact ((Below.refl _ w).alloc (Nat.le_refl _) _).trans (Go.Joins.below_draws _ _ nq))
  have hN := Lib.hid (show w1.heap[w.heap.size]? = some (.cells #[.int .i64 nx, .int .i64 ny, .int .i64 nz] 23 (0, 0)) by rw [← hw1]; exact heap_alloc_new w _)
  rw [hw1]
  clear hw1 h1 h2 h3
  obtain ⟨D, hD⟩ : ∃ D, dot3 ⟨nx, ny, nz⟩ ⟨px, py, pz⟩ = D := ⟨_, rfl⟩
  have hD' : wrap64 (wrap64 (wrap64 (nx * px) + wrap64 (ny * py)) + wrap64 (nz * pz)) = D := hD
  rw [hD']
  rw [hD] at HD0
  clear hD hD'
  go_wp2
  go_loopw [5, 6] (fun v5 v6 wr => ∃ j : Nat, 1 ≤ j ∧ j ≤ N + 1 ∧ v6 = .int .i64 j ∧ v5 = .int .i64 (farF ⟨nx, ny, nz⟩ ⟨px, py, pz⟩ (r.take (j - 1))) ∧ Hid (Below w1.heap.size w1 wr)) (fun _ i _ => N + 1 - (intOf i).toNat)
  case atStart => exact ⟨1, by omega, by omega, rfl, by rw [HD0.out], Lib.hid (Below.refl _ _)⟩
  case round =>
    obtain ⟨j, hj1, hj2, rfl, rfl, hbr⟩ := hrel
    by_cases hlt2 : j ≤ N
    · have hkr : j - 1 < r.length := by rw [HN.out]; omega
      have hBw := hB.out.trans (hbr.out.mono hB.out.size)
      obtain ⟨b', o', hA, _, e0, e1, e2⟩ := (hR.out.below hBw).get (j - 1 + 1) (by simp; omega)
      simp only [Option.some.injEq, Addr.mk.injEq, and_true] at hA
      obtain ⟨rfl, rfl⟩ := hA
      simp only [List.getElem_cons_succ] at e0 e1 e2
      have hS := farF_snoc ⟨nx, ny, nz⟩ ⟨px, py, pz⟩ r (j - 1) hkr
      rw [show j - 1 + 1 = j from by omega] at hS
      obtain ⟨q, hq⟩ : ∃ q, r[j - 1] = q := ⟨_, rfl⟩
      rw [hq] at e0 e1 e2 hS
      rw [show j - 1 + 1 = j from by omega] at e0 e1 e2
      obtain ⟨qx, qy, qz⟩ := q
      simp only at e0 e1 e2
      obtain ⟨F, hF⟩ : ∃ F, farF ⟨nx, ny, nz⟩ ⟨px, py, pz⟩ (r.take (j - 1)) = F := ⟨_, rfl⟩
      rw [hF] at hS ⊢
      have hS := Lib.hid hS
      have HBw := Lib.hid hBw
      have z1 := (hbr.out.block _ (blk_lt hN.out)).trans hN.out
      have x0 : wr.cell? ⟨w.heap.size, 0, none⟩ = some (.int .i64 nx) := (blk_cell z1 0).trans rfl
      have x1 : wr.cell? ⟨w.heap.size, 1, none⟩ = some (.int .i64 ny) := (blk_cell z1 1).trans rfl
      have x2 : wr.cell? ⟨w.heap.size, 2, none⟩ = some (.int .i64 nz) := (blk_cell z1 2).trans rfl
      have t2 : (j : Int) < (N : Int) + 1 := by omega
      clear hq hF hkr z1 hBw
      go_wp2
      go_quiet (fail)
      go_wp2
      go_roundw
      case rel => exact ⟨j + 1, by omega, by omega, by go_num, by rw [show j + 1 - 1 = j from by omega, hS.out]; rfl, Lib.hid (hbr.out.trans (Go.Joins.below_draws _ _ _))⟩
      case measure => simp [intOf]; omega
    · obtain rfl : j = N + 1 := by omega
      have hBw := hB.out.trans (hbr.out.mono hB.out.size)
      have hE : Hid (r.take (N + 1 - 1) = r) := Lib.hid (List.take_of_length_le (by rw [HN.out]; omega))
      go_wp2
      go_ret
      exact ⟨by rw [hE.out]; rfl, hBw⟩
end Go.Proofs.Ytckdhahceelckaa.G
namespace Go.Proofs.Ytckdhahceelckaa.G
open Go.RowKit Go.Proofs.YtckdhahceelckaaW.PrintWords
set_option linter.unusedVariables false
theorem gapV_more (s up down ra rb n : Int) : gapV s up down (ra + n) rb = gapV s up down ra rb - n := by unfold gapV; split <;> omega
def lessG (m : Int) (s : (P3 × Int) × Bool) : (P3 × Int) × Bool := ((s.1.1, s.1.2 - m), s.2)
theorem gapsF_more (n a0 : P3) (ar : List P3) (ra m : Int) (b0 : P3) (br : List P3) (rb : Int) : gapsF n a0 ar (ra + m) b0 br rb = ((gapsF n a0 ar ra b0 br rb).1 - m, (gapsF n a0 ar ra b0 br rb).2 - m) := by
  unfold gapsF; simp only [gapV_more]
theorem apStep_more (a0 : P3) (ar : List P3) (ra m : Int) (b0 : P3) (br : List P3) (rb : Int) (s : (P3 × Int) × Bool) (n : P3) :
    apStep a0 ar (ra + m) b0 br rb (lessG m s) n = lessG m (apStep a0 ar ra b0 br rb s n) := by
  obtain ⟨⟨ax, g⟩, f⟩ := s
  unfold apStep
  by_cases hl : long3 n = ⟨0, 0, 0⟩
  · simp only [hl, if_true]
  · rw [if_neg hl, if_neg hl, gapsF_more]
    generalize gapsF (long3 n) a0 ar ra b0 br rb = q
    obtain ⟨q1, q2⟩ := q
    simp only [lessG]
    cases f
    · by_cases h1 : g < q1
      · have h1' : g - m < q1 - m := by omega
        simp only [Bool.false_eq_true, false_or, h1, h1', if_true]
        by_cases h2 : q1 < q2
        · have h2' : q1 - m < q2 - m := by omega
          simp only [h2, h2', if_true]
        · have h2' : ¬ (q1 - m < q2 - m) := by omega
          simp only [h2, h2', if_false]
      · have h1' : ¬ (g - m < q1 - m) := by omega
        simp only [Bool.false_eq_true, false_or, h1, h1', if_false]
        by_cases h2 : g < q2
        · have h2' : g - m < q2 - m := by omega
          simp only [h2, h2', if_true]
        · have h2' : ¬ (g - m < q2 - m) := by omega
          simp only [h2, h2', if_false]
    · simp only [true_or, if_true]
      by_cases h2 : q1 < q2
      · have h2' : q1 - m < q2 - m := by omega
        simp only [h2, h2', if_true]
      · have h2' : ¬ (q1 - m < q2 - m) := by omega
        simp only [h2, h2', if_false]
theorem apF_more (a0 : P3) (ar : List P3) (ra m : Int) (b0 : P3) (br : List P3) (rb : Int) (l : List P3) : apF a0 ar (ra + m) b0 br rb l = lessG m (apF a0 ar ra b0 br rb l) := by
  have gen : ∀ (l : List P3) (s : (P3 × Int) × Bool), l.foldl (apStep a0 ar (ra + m) b0 br rb) (lessG m s) = lessG m (l.foldl (apStep a0 ar ra b0 br rb) s) := by
    intro l
    induction l with
    | nil => intro s; rfl
    | cons x l ih => intro s; rw [List.foldl_cons, List.foldl_cons, apStep_more]; exact ih _
  have h := gen l ((⟨0, 0, 1048576⟩, -ra - rb), true)
  unfold apF
  rw [← h]
  have e : lessG m ((⟨0, 0, 1048576⟩, -ra - rb), true) = (((⟨0, 0, 1048576⟩ : P3), -(ra + m) - rb), true) := by unfold lessG; simp only [Prod.mk.injEq, and_true, true_and]; omega
  rw [e]
theorem apartF_more (p a e : List P3) (r m : Int) (q b f : List P3) (s : Int) : apartF p a e (r + m) q b f s = ((apartF p a e r q b f s).1, (apartF p a e r q b f s).2 - m) := by
  unfold apartF; rw [apF_more]; rfl
theorem reachF_le (n p0 : P3) (r : List P3) : (reachF n p0 r).1 ≤ (reachF n p0 r).2 := by
  have gen : ∀ (l : List P3) (s : Int × Int), s.1 ≤ s.2 → (l.foldl (rstep n) s).1 ≤ (l.foldl (rstep n) s).2 := by
    intro l
    induction l with
    | nil => intro s h; exact h
    | cons p l ih =>
      intro s h
      obtain ⟨m1, m2, m3⟩ := mx_facts s.2 (dot3 n p)
      obtain ⟨k1, k2, k3⟩ := mn_facts s.1 (dot3 n p)
      exact ih _ (by unfold rstep; simp only; omega)
  exact gen r _ (Int.le_refl _)
theorem gapV_low (s up down ra rb : Int) (hs : s ≤ 0) (hd : 0 < down) : gapV s up down ra rb ≤ -ra - rb := by
  unfold gapV
  split
  · have : s = 0 := by omega
    subst this; rw [Int.zero_ediv]; omega
  · have := Int.ediv_nonneg (show 0 ≤ -s + down - 1 by omega) (Int.le_of_lt hd); omega
theorem apF_self (p0 : P3) (r : List P3) (ra : Int) (l : List P3) : (apF p0 r ra p0 r ra l).1.2 ≤ -2 * ra := by
  have gen : ∀ (l : List P3) (s : (P3 × Int) × Bool), s.1.2 ≤ -2 * ra → (l.foldl (apStep p0 r ra p0 r ra) s).1.2 ≤ -2 * ra := by
    intro l
    induction l with
    | nil => intro s h; exact h
    | cons x l ih =>
      intro s h
      rw [List.foldl_cons]
      apply ih
      unfold apStep
      by_cases hl : long3 x = ⟨0, 0, 0⟩
      · rw [if_pos hl]; exact h
      · rw [if_neg hl]
        have hd := fl3_pos _ hl
        have hr := reachF_le (long3 x) p0 r
        have g1 := gapV_low ((reachF (long3 x) p0 r).1 - (reachF (long3 x) p0 r).2) (ce3 (long3 x)) (fl3 (long3 x)) ra ra (by omega) (by omega)
        unfold gapsF
        simp only
        repeat' split
        all_goals ((try simp only); omega)
  exact gen l _ (by simp only; omega)
theorem apartF_self (p a e : List P3) (r : Int) : (apartF p a e r p a e r).2 ≤ -2 * r := apF_self _ _ _ _
end Go.Proofs.Ytckdhahceelckaa.G
namespace Go.Proofs.Ytckdhahceelckaa.G
open Go.RowKit
set_option linter.unusedVariables false
set_option linter.unusedSimpArgs false
/-! ### Plain laws of directions -/
theorem lagrange (a b c x y z : Int) : (a*a+b*b+c*c)*(x*x+y*y+z*z) = (a*x+b*y+c*z)*(a*x+b*y+c*z) + ((b*z-c*y)*(b*z-c*y) + (c*x-a*z)*(c*x-a*z) + (a*y-b*x)*(a*y-b*x)) := by grind
theorem sq_le {a n : Int} (h1 : -n ≤ a) (h2 : a ≤ n) : a * a ≤ n * n := by
  have h3 : 0 ≤ (n - a) * (n + a) := Int.mul_nonneg (by omega) (by omega)
  grind
/-- one points where the other points -/
def Par (u v : P3) : Prop := ∃ a b : Int, 0 < a ∧ 0 < b ∧ a * u.x = b * v.x ∧ a * u.y = b * v.y ∧ a * u.z = b * v.z
theorem Par.refl (u : P3) : Par u u := ⟨1, 1, by decide, by decide, rfl, rfl, rfl⟩
theorem Par.trans {u v t : P3} (h : Par u v) (k : Par v t) : Par u t := by
  obtain ⟨a, b, ha, hb, x1, y1, z1⟩ := h
  obtain ⟨c, e, hc, he, x2, y2, z2⟩ := k
  exact ⟨a * c, b * e, Int.mul_pos ha hc, Int.mul_pos hb he, by grind, by grind, by grind⟩
theorem gcd3_dvd (p : P3) : gcd3 p ∣ p.x ∧ gcd3 p ∣ p.y ∧ gcd3 p ∣ p.z :=
  ⟨Int.dvd_trans (by unfold gcd3; exact Int.gcd_dvd_left ..) (Int.gcd_dvd_left ..), Int.dvd_trans (by unfold gcd3; exact Int.gcd_dvd_left ..) (Int.gcd_dvd_right ..), by unfold gcd3; exact Int.gcd_dvd_right ..⟩
theorem bare3_eq (p : P3) : p.x = gcd3 p * (bare3 p).x ∧ p.y = gcd3 p * (bare3 p).y ∧ p.z = gcd3 p * (bare3 p).z := by
  obtain ⟨h1, h2, h3⟩ := gcd3_dvd p
  exact ⟨(Int.mul_tdiv_cancel' h1).symm, (Int.mul_tdiv_cancel' h2).symm, (Int.mul_tdiv_cancel' h3).symm⟩
theorem bare3_par (p : P3) (h : p ≠ ⟨0, 0, 0⟩) : Par (bare3 p) p := by
  obtain ⟨h1, h2, h3⟩ := bare3_eq p
  have hg := gcd3_pos p h
  exact ⟨gcd3 p, 1, by omega, by decide, by omega, by omega, by omega⟩
theorem two3_par (p : P3) : Par (two3 p) p := ⟨1, 2, by decide, by decide, by simp [two3], by simp [two3], by simp [two3]⟩
theorem dbl3_par (p : P3) : Par (dbl3 p) p := by
  induction p using dbl3.induct with
  | case1 p h' => rw [dbl3, dif_pos h']; exact Par.refl _
  | case2 p h' ih => rw [dbl3, dif_neg h']; exact ih.trans (two3_par p)
theorem dbl3_far (p : P3) (h : p ≠ ⟨0, 0, 0⟩) : far3 524288 (dbl3 p) = true := by
  induction p using dbl3.induct with
  | case1 p h' => rw [dbl3, dif_pos h']; exact h'.resolve_right h
  | case2 p h' ih => rw [dbl3, dif_neg h']; exact ih (two3_ne p h)
theorem halve3_id (p : P3) (h : in3 1048576 p) : halve3 p = p := by rw [halve3, dif_neg]; rw [(far3_iff _ _ (by decide) (by decide)).2 h]; decide
theorem bare3_in (p : P3) (n : Int) (h : in3 n p) : in3 n (bare3 p) := div3_in _ _ _ h
/-- halved to shortness: what is lost is less than the step, and the step is small beside the whole -/
theorem halve3_near (p : P3) : ∃ n : Int, 1 ≤ n ∧ -(n - 1) ≤ p.x - n * (halve3 p).x ∧ p.x - n * (halve3 p).x ≤ n - 1 ∧ -(n - 1) ≤ p.y - n * (halve3 p).y ∧ p.y - n * (halve3 p).y ≤ n - 1 ∧ -(n - 1) ≤ p.z - n * (halve3 p).z ∧ p.z - n * (halve3 p).z ≤ n - 1 ∧
    (n = 1 ∨ 524288 * n < p.x ∨ p.x < -(524288 * n) ∨ 524288 * n < p.y ∨ p.y < -(524288 * n) ∨ 524288 * n < p.z ∨ p.z < -(524288 * n)) := by
  induction p using halve3.induct with
  | case2 p h => rw [halve3, dif_neg h]; exact ⟨1, by decide, by omega, by omega, by omega, by omega, by omega, by omega, .inl rfl⟩
  | case1 p h ih =>
    rw [halve3, dif_pos h]
    obtain ⟨n, hn, x1, x2, y1, y2, z1, z2, hl⟩ := ih
    generalize halve3 (div3 2 p) = u at x1 x2 y1 y2 z1 z2 ⊢
    have hfar : ¬ in3 1048576 p := fun hi => by rw [(far3_iff _ _ (by decide) (by decide)).2 hi] at h; cases h
    unfold in3 at hfar
    unfold div3 at x1 x2 y1 y2 z1 z2 hl
    simp only at x1 x2 y1 y2 z1 z2 hl
    have ex : ∀ a : Int, (0 ≤ a → 2 * a.tdiv 2 ≤ a ∧ a ≤ 2 * a.tdiv 2 + 1) ∧ (a ≤ 0 → a ≤ 2 * a.tdiv 2 ∧ 2 * a.tdiv 2 - 1 ≤ a) := fun a => by
      constructor
      · intro ha; rw [Int.tdiv_eq_ediv_of_nonneg ha]; omega
      · intro ha
        have : a.tdiv 2 = -((-a) / 2) := by
          have := Int.neg_tdiv a 2
          rw [Int.tdiv_eq_ediv_of_nonneg (by omega)] at this
          omega
        rw [this]; omega
    have e1 := ex p.x
    have e2 := ex p.y
    have e3 := ex p.z
    generalize p.x.tdiv 2 = tx at e1 x1 x2 hl
    generalize p.y.tdiv 2 = ty at e2 y1 y2 hl
    generalize p.z.tdiv 2 = tz at e3 z1 z2 hl
    have m1 : 2 * n * u.x = 2 * (n * u.x) := by grind
    have m2 : 2 * n * u.y = 2 * (n * u.y) := by grind
    have m3 : 2 * n * u.z = 2 * (n * u.z) := by grind
    refine ⟨2 * n, by omega, ?_⟩
    rw [m1, m2, m3]
    generalize n * u.x = nx at *
    generalize n * u.y = ny at *
    generalize n * u.z = nz at *
    omega
end Go.Proofs.Ytckdhahceelckaa.G
namespace Go.Proofs.Ytckdhahceelckaa.G
open Go.RowKit
set_option linter.unusedVariables false
set_option linter.unusedSimpArgs false
/-- the square of the cross product's length -/
def crI (u v : P3) : Int := (u.y * v.z - u.z * v.y) * (u.y * v.z - u.z * v.y) + (u.z * v.x - u.x * v.z) * (u.z * v.x - u.x * v.z) + (u.x * v.y - u.y * v.x) * (u.x * v.y - u.y * v.x)
theorem lagI (u v : P3) : dotI u u * dotI v v = dotI u v * dotI u v + crI u v := by
  unfold dotI crI; exact lagrange _ _ _ _ _ _
theorem crI_nonneg (u v : P3) : 0 ≤ crI u v := by
  unfold crI
  have h1 := sq_nonneg (u.y * v.z - u.z * v.y)
  have h2 := sq_nonneg (u.z * v.x - u.x * v.z)
  have h3 := sq_nonneg (u.x * v.y - u.y * v.x)
  omega
theorem dotI_nn (u : P3) : 0 ≤ dotI u u := by
  unfold dotI
  have h1 := sq_nonneg u.x
  have h2 := sq_nonneg u.y
  have h3 := sq_nonneg u.z
  omega
theorem dotI_far (u : P3) (m : Int) (hm : 0 ≤ m) (h : m < u.x ∨ u.x < -m ∨ m < u.y ∨ u.y < -m ∨ m < u.z ∨ u.z < -m) : m * m < dotI u u := by
  unfold dotI
  have h1 := sq_nonneg u.x
  have h2 := sq_nonneg u.y
  have h3 := sq_nonneg u.z
  have key : ∀ a : Int, (m < a ∨ a < -m) → m * m < a * a := fun a ha => by
    rcases ha with ha | ha
    · exact Int.lt_of_le_of_lt (Int.mul_le_mul_of_nonneg_left (Int.le_of_lt ha) hm) (Int.mul_lt_mul_of_pos_right ha (by omega))
    · have hb : m < -a := by omega
      have := Int.lt_of_le_of_lt (Int.mul_le_mul_of_nonneg_left (Int.le_of_lt hb) hm) (Int.mul_lt_mul_of_pos_right hb (by omega))
      have e : -a * -a = a * a := by grind
      omega
  rcases h with h | h | h | h | h | h
  · have := key u.x (.inl h); omega
  · have := key u.x (.inr h); omega
  · have := key u.y (.inl h); omega
  · have := key u.y (.inr h); omega
  · have := key u.z (.inl h); omega
  · have := key u.z (.inr h); omega
theorem dotI_pos (u : P3) (h : u ≠ ⟨0, 0, 0⟩) : 0 < dotI u u := by
  have : 0 < u.x ∨ u.x < -0 ∨ 0 < u.y ∨ u.y < -0 ∨ 0 < u.z ∨ u.z < -0 := by
    cases u; simp at h ⊢; omega
  have := dotI_far u 0 (by decide) this
  omega
/-- what a point of plain coordinates and one a little beside it make -/
theorem near_cross (h b : P3) (n : Int) (hn : 1 ≤ n) (x1 : -(n - 1) ≤ b.x - n * h.x) (x2 : b.x - n * h.x ≤ n - 1) (y1 : -(n - 1) ≤ b.y - n * h.y) (y2 : b.y - n * h.y ≤ n - 1) (z1 : -(n - 1) ≤ b.z - n * h.z) (z2 : b.z - n * h.z ≤ n - 1)
    (hb : b ≠ ⟨0, 0, 0⟩) (hl : n = 1 ∨ 524288 * n < b.x ∨ b.x < -(524288 * n) ∨ 524288 * n < b.y ∨ b.y < -(524288 * n) ∨ 524288 * n < b.z ∨ b.z < -(524288 * n)) :
    274877906944 * crI h b ≤ 3 * (dotI h h * dotI b b) ∧ 0 < dotI h b := by
  obtain ⟨r, hr⟩ : ∃ r : P3, r = ⟨b.x - n * h.x, b.y - n * h.y, b.z - n * h.z⟩ := ⟨_, rfl⟩
  have hx := sq_le x1 x2
  have hy := sq_le y1 y2
  have hz := sq_le z1 z2
  have hR : dotI r r ≤ 3 * ((n - 1) * (n - 1)) := by rw [hr]; unfold dotI; simp only; omega
  have hRn := dotI_nn r
  have hcr : crI h b = crI h r := by rw [hr]; unfold crI; simp only; grind
  have hB : 274877906944 * dotI r r ≤ 3 * dotI b b ∧ dotI r r < dotI b b := by
    have hbp := dotI_pos b hb
    rcases hl with hl | hl
    · subst hl
      have : dotI r r = 0 := by omega
      omega
    · have h1 := dotI_far b (524288 * n) (by omega) hl
      have h2 : 524288 * n * (524288 * n) = 274877906944 * (n * n) := by grind
      have h3 : (n - 1) * (n - 1) ≤ n * n := sq_le (by omega) (by omega)
      omega
  have hH := dotI_nn h
  have hlag := lagI h r
  have hsq := sq_nonneg (dotI h r)
  constructor
  · rw [hcr]
    have h1 : crI h r ≤ dotI h h * dotI r r := by omega
    have h2 : dotI h h * (274877906944 * dotI r r) ≤ dotI h h * (3 * dotI b b) := Int.mul_le_mul_of_nonneg_left hB.1 hH
    have h3 : dotI h h * (274877906944 * dotI r r) = 274877906944 * (dotI h h * dotI r r) := by grind
    have h4 : dotI h h * (3 * dotI b b) = 3 * (dotI h h * dotI b b) := by grind
    omega
  · have e : 2 * (n * dotI h b) = n * n * dotI h h + dotI b b - dotI r r := by rw [hr]; unfold dotI; simp only; grind
    have h1 : 0 ≤ n * n * dotI h h := Int.mul_nonneg (sq_nonneg n) hH
    have h2 : 0 < n * dotI h b := by omega
    rcases Int.lt_or_le 0 (dotI h b) with h3 | h3
    · exact h3
    · have := Int.mul_nonpos_of_nonneg_of_nonpos (a := n) (by omega) h3
      omega
theorem par_cross {w h : P3} (hp : Par w h) (g : Int) (hg : 0 < g) (b d : P3) (e1 : d.x = g * b.x) (e2 : d.y = g * b.y) (e3 : d.z = g * b.z) (hc : 274877906944 * crI h b ≤ 3 * (dotI h h * dotI b b)) (hd : 0 < dotI h b) :
    274877906944 * crI w d ≤ 3 * (dotI w w * dotI d d) ∧ 0 < dotI w d := by
  obtain ⟨a, e, ha, he, x1, y1, z1⟩ := hp
  have A2 : 0 < a * a := Int.mul_pos ha ha
  have i1 : a * a * crI w d = e * e * (g * g) * crI h b := by
    have : a * a * crI w d = ((a * w.y) * d.z - (a * w.z) * d.y) * ((a * w.y) * d.z - (a * w.z) * d.y) + ((a * w.z) * d.x - (a * w.x) * d.z) * ((a * w.z) * d.x - (a * w.x) * d.z) + ((a * w.x) * d.y - (a * w.y) * d.x) * ((a * w.x) * d.y - (a * w.y) * d.x) := by unfold crI; grind
    rw [this, x1, y1, z1, e1, e2, e3]; unfold crI; grind
  have i2 : a * a * dotI w w = e * e * dotI h h := by
    have : a * a * dotI w w = (a * w.x) * (a * w.x) + (a * w.y) * (a * w.y) + (a * w.z) * (a * w.z) := by unfold dotI; grind
    rw [this, x1, y1, z1]; unfold dotI; grind
  have i3 : dotI d d = g * g * dotI b b := by unfold dotI; rw [e1, e2, e3]; grind
  have i4 : a * dotI w d = e * g * dotI h b := by
    have : a * dotI w d = (a * w.x) * d.x + (a * w.y) * d.y + (a * w.z) * d.z := by unfold dotI; grind
    rw [this, x1, y1, z1, e1, e2, e3]; unfold dotI; grind
  constructor
  · have k : 0 ≤ e * e * (g * g) := Int.mul_nonneg (sq_nonneg e) (sq_nonneg g)
    have h1 := Int.mul_le_mul_of_nonneg_left hc k
    have h2 : e * e * (g * g) * (274877906944 * crI h b) = a * a * (274877906944 * crI w d) := by
      have : e * e * (g * g) * (274877906944 * crI h b) = 274877906944 * (e * e * (g * g) * crI h b) := by grind
      rw [this, ← i1]; grind
    have h3 : e * e * (g * g) * (3 * (dotI h h * dotI b b)) = a * a * (3 * (dotI w w * dotI d d)) := by
      have : e * e * (g * g) * (3 * (dotI h h * dotI b b)) = 3 * ((e * e * dotI h h) * (g * g * dotI b b)) := by grind
      rw [this, ← i2, ← i3]; grind
    rw [h2, h3] at h1
    exact Int.le_of_mul_le_mul_left h1 A2
  · have h1 : 0 < a * dotI w d := by rw [i4]; exact Int.mul_pos (Int.mul_pos he hg) hd
    rcases Int.lt_or_le 0 (dotI w d) with h3 | h3
    · exact h3
    · have := Int.mul_nonpos_of_nonneg_of_nonpos (a := a) (by omega) h3
      omega
end Go.Proofs.Ytckdhahceelckaa.G
namespace Go.Proofs.Ytckdhahceelckaa.G
open Go.RowKit Go.Proofs.YtckdhahceelckaaW.PrintWords Go.Proofs.YtckdhahceelckaaW.PrintLast Go.Proofs.YtckdhahceelckaaW.PrintMore
attribute [local go_sem] max2_mx min2_mn max_two min_two max_three min_three max_four min_four
attribute [local go_sem high] eqA23
set_option linter.unusedVariables false
set_option linter.unusedSimpArgs false
theorem dbl_step (p : P3) (h : ¬ (far3 524288 p = true ∨ p = ⟨0, 0, 0⟩)) : dbl3 p = dbl3 (two3 p) := by rw [dbl3, dif_neg h]
theorem dbl_stop (p : P3) (h : far3 524288 p = true ∨ p = ⟨0, 0, 0⟩) : dbl3 p = p := by rw [dbl3, dif_pos h]
theorem long_ten : long3 (short3 (minus3 ⟨10, 0, 0⟩ ⟨0, 0, 0⟩)) = ⟨1048576, 0, 0⟩ := by
  have h1 : minus3 ⟨10, 0, 0⟩ ⟨0, 0, 0⟩ = ⟨10, 0, 0⟩ := by decide +kernel
  have h2 : halve3 ⟨10, 0, 0⟩ = ⟨10, 0, 0⟩ := by rw [halve3, dif_neg (by decide +kernel)]
  have h3 : halve3 ⟨1, 0, 0⟩ = ⟨1, 0, 0⟩ := by rw [halve3, dif_neg (by decide +kernel)]
  have b1 : bare3 ⟨10, 0, 0⟩ = ⟨1, 0, 0⟩ := by decide +kernel
  have b2 : bare3 ⟨1, 0, 0⟩ = ⟨1, 0, 0⟩ := by decide +kernel
  have s1 : short3 ⟨10, 0, 0⟩ = ⟨1, 0, 0⟩ := by unfold short3; rw [if_neg (by decide +kernel), b1, h3, b2]
  have s2 : short3 ⟨1, 0, 0⟩ = ⟨1, 0, 0⟩ := by unfold short3; rw [if_neg (by decide +kernel), b2, h3, b2]
  rw [h1, s1]
  unfold long3
  rw [s2]
  rw [dbl_step ⟨1, 0, 0⟩ (by decide +kernel), show two3 ⟨1, 0, 0⟩ = ⟨2, 0, 0⟩ from by decide +kernel]
  rw [dbl_step ⟨2, 0, 0⟩ (by decide +kernel), show two3 ⟨2, 0, 0⟩ = ⟨4, 0, 0⟩ from by decide +kernel]
  rw [dbl_step ⟨4, 0, 0⟩ (by decide +kernel), show two3 ⟨4, 0, 0⟩ = ⟨8, 0, 0⟩ from by decide +kernel]
  rw [dbl_step ⟨8, 0, 0⟩ (by decide +kernel), show two3 ⟨8, 0, 0⟩ = ⟨16, 0, 0⟩ from by decide +kernel]
  rw [dbl_step ⟨16, 0, 0⟩ (by decide +kernel), show two3 ⟨16, 0, 0⟩ = ⟨32, 0, 0⟩ from by decide +kernel]
  rw [dbl_step ⟨32, 0, 0⟩ (by decide +kernel), show two3 ⟨32, 0, 0⟩ = ⟨64, 0, 0⟩ from by decide +kernel]
  rw [dbl_step ⟨64, 0, 0⟩ (by decide +kernel), show two3 ⟨64, 0, 0⟩ = ⟨128, 0, 0⟩ from by decide +kernel]
  rw [dbl_step ⟨128, 0, 0⟩ (by decide +kernel), show two3 ⟨128, 0, 0⟩ = ⟨256, 0, 0⟩ from by decide +kernel]
  rw [dbl_step ⟨256, 0, 0⟩ (by decide +kernel), show two3 ⟨256, 0, 0⟩ = ⟨512, 0, 0⟩ from by decide +kernel]
  rw [dbl_step ⟨512, 0, 0⟩ (by decide +kernel), show two3 ⟨512, 0, 0⟩ = ⟨1024, 0, 0⟩ from by decide +kernel]
  rw [dbl_step ⟨1024, 0, 0⟩ (by decide +kernel), show two3 ⟨1024, 0, 0⟩ = ⟨2048, 0, 0⟩ from by decide +kernel]
  rw [dbl_step ⟨2048, 0, 0⟩ (by decide +kernel), show two3 ⟨2048, 0, 0⟩ = ⟨4096, 0, 0⟩ from by decide +kernel]
  rw [dbl_step ⟨4096, 0, 0⟩ (by decide +kernel), show two3 ⟨4096, 0, 0⟩ = ⟨8192, 0, 0⟩ from by decide +kernel]
  rw [dbl_step ⟨8192, 0, 0⟩ (by decide +kernel), show two3 ⟨8192, 0, 0⟩ = ⟨16384, 0, 0⟩ from by decide +kernel]
  rw [dbl_step ⟨16384, 0, 0⟩ (by decide +kernel), show two3 ⟨16384, 0, 0⟩ = ⟨32768, 0, 0⟩ from by decide +kernel]
  rw [dbl_step ⟨32768, 0, 0⟩ (by decide +kernel), show two3 ⟨32768, 0, 0⟩ = ⟨65536, 0, 0⟩ from by decide +kernel]
  rw [dbl_step ⟨65536, 0, 0⟩ (by decide +kernel), show two3 ⟨65536, 0, 0⟩ = ⟨131072, 0, 0⟩ from by decide +kernel]
  rw [dbl_step ⟨131072, 0, 0⟩ (by decide +kernel), show two3 ⟨131072, 0, 0⟩ = ⟨262144, 0, 0⟩ from by decide +kernel]
  rw [dbl_step ⟨262144, 0, 0⟩ (by decide +kernel), show two3 ⟨262144, 0, 0⟩ = ⟨524288, 0, 0⟩ from by decide +kernel]
  rw [dbl_step ⟨524288, 0, 0⟩ (by decide +kernel), show two3 ⟨524288, 0, 0⟩ = ⟨1048576, 0, 0⟩ from by decide +kernel]
  exact dbl_stop _ (by decide +kernel)
theorem awake_apart : apartF [⟨0, 0, 0⟩] [] [] 2 [⟨10, 0, 0⟩] [] [] 3 = (⟨1048576, 0, 0⟩, 5) := by
  have hf : fl3 ⟨1048576, 0, 0⟩ = 1048576 := by
    have h1 : (dotI ⟨1048576, 0, 0⟩ ⟨1048576, 0, 0⟩).toNat = 1048576 * 1048576 := by decide +kernel
    unfold fl3
    rw [h1, ← isq_unique (1048576 * 1048576) 1048576 (by decide +kernel) (by decide +kernel)]; rfl
  have hc : ce3 ⟨1048576, 0, 0⟩ = 1048576 := by unfold ce3; rw [hf]; decide +kernel
  have hr : rawC [⟨0, 0, 0⟩] [] [] [⟨10, 0, 0⟩] [] [] = [short3 (minus3 ⟨10, 0, 0⟩ ⟨0, 0, 0⟩)] := by
    unfold rawC edgeW pointW roundW
    rw [if_neg (by decide +kernel)]; rfl
  unfold apartF
  rw [hr]
  simp only [List.headD_cons, List.tail_cons, apF, List.foldl_cons, List.foldl_nil, apStep, long_ten]
  have g : gapsF ⟨1048576, 0, 0⟩ ⟨0, 0, 0⟩ [] 2 ⟨10, 0, 0⟩ [] 3 = (5, -15) := by
    unfold gapsF
    rw [hf, hc]
    decide +kernel
  rw [g]
  decide +kernel
theorem sz_one : sz3 ⟨1, 1, 0⟩ = (1, 2) := by decide +kernel
end Go.Proofs.Ytckdhahceelckaa.G
namespace Go.Proofs.Ytckdhahceelckaa.G
open Go.RowKit Go.Proofs.YtckdhahceelckaaW.PrintWords Go.Proofs.YtckdhahceelckaaW.PrintLast Go.Proofs.YtckdhahceelckaaW.PrintMore
attribute [local go_sem] max2_mx min2_mn max_two min_two max_three min_three max_four min_four
attribute [local go_sem high] eqA23
set_option linter.unusedVariables false
set_option linter.unusedSimpArgs false
/-- may's answer in every later world -/
def MaySays (w : World) (v : Value) (b : Bool) : Prop := ∀ w', Below w.heap.size w w' → Calls Try.prog 57 #[v] w' fun e w'' => e = .returned (.bool b) ∧ Below w'.heap.size w' w''
theorem MaySays.yes {w : World} {v : Value} {p a e : List P3} {r : Int} (h : CoreV w v p a e r) (m : MayP p a e r) : MaySays w v true := fun w' hb => by
  obtain ⟨A0, A1, A2, c0, c1, c2, rfl, h0, h1, h2, h3, h4, h5⟩ := (h.below hb).out
  exact may_yes p a e r A0 A1 A2 c0 c1 c2 w' h0.1 h1.1 h2.1 h3 h4 h5 false false false (List.length_pos_iff.2 m.p0) m.p1 m.a1 m.e1 m.r0 m.r1 m.pf m.af m.ef
set_option maxHeartbeats 2000000 in
theorem apart_nob (v0 v1 v2 v3 u0 u1 u2 u3 : Value) (w : World) (ha : MaySays w (.agg #[v0, v1, v2, v3]) true) (hb : MaySays w (.agg #[u0, u1, u2, u3]) false) :
    Calls Try.prog 20 #[.agg #[v0, v1, v2, v3], .agg #[u0, u1, u2, u3]] w fun e w' => e = .returned (.tuple #[.agg #[.int .i64 0, .int .i64 0, .int .i64 0, .int .i64 0], .bool false]) ∧ Below w.heap.size w w' := by
  have HA := Lib.hid ha
  have HB := Lib.hid hb
  clear ha hb
  have Hb0 := three1 w (.cells #[v0, v1, v2, v3] 36) (.cells #[u0, u1, u2, u3] 36) (.cells #[.int .i64 0, .int .i64 0, .int .i64 0, .int .i64 0] 40)
  have Hr0 := three2 w (.cells #[v0, v1, v2, v3] 36) (.cells #[u0, u1, u2, u3] 36) (.cells #[.int .i64 0, .int .i64 0, .int .i64 0, .int .i64 0] 40)
  have HW3 : Below w.heap.size w (((w.alloc (.cells #[v0, v1, v2, v3] 36)).alloc (.cells #[u0, u1, u2, u3] 36)).alloc (.cells #[.int .i64 0, .int .i64 0, .int .i64 0, .int .i64 0] 40)) := (((Below.refl _ w).alloc (Nat.le_refl _) _).alloc (by simp) _).alloc (by simp; omega) _
  have HB0 := Lib.hid Hb0
  have HR0 := Lib.hid Hr0
  clear Hb0 Hr0
  go_enter Try.func20, Try.ntmps20
  go_wp2_with fail
  obtain ⟨w3, hw3⟩ : ∃ w3, ((w.alloc (.cells #[v0, v1, v2, v3] 36)).alloc (.cells #[u0, u1, u2, u3] 36)).alloc (.cells #[.int .i64 0, .int .i64 0, .int .i64 0, .int .i64 0] 40) = w3 := ⟨_, rfl⟩
  rw [hw3] at HB0 HR0 HW3 ⊢
  clear hw3
  refine (HA.out _ HW3).mono ?_
  rintro e w4 ⟨rfl, hb4⟩
  have Hb4 := (hb4.block _ (blk_lt HB0.out)).trans HB0.out
  have Hr4 := (hb4.block _ (blk_lt HR0.out)).trans HR0.out
  have HW4 := bthen HW3 hb4
  clear HB0 HR0 HW3 hb4
  have x0 : w4.cell? ⟨w.heap.size + 1, 0, none⟩ = some u0 := (blk_cell Hb4 0).trans rfl
  have x1 : w4.cell? ⟨w.heap.size + 1, 1, none⟩ = some u1 := (blk_cell Hb4 1).trans rfl
  have x2 : w4.cell? ⟨w.heap.size + 1, 2, none⟩ = some u2 := (blk_cell Hb4 2).trans rfl
  have x3 : w4.cell? ⟨w.heap.size + 1, 3, none⟩ = some u3 := (blk_cell Hb4 3).trans rfl
  go_wp2_with fail
  refine (HB.out _ HW4).mono ?_
  rintro e w5 ⟨rfl, hb5⟩
  have Hr5 := (hb5.block _ (blk_lt Hr4)).trans Hr4
  have HW5 := bthen HW4 hb5
  clear Hb4 Hr4 HW4 hb5 x0 x1 x2 x3
  have v0 : w5.cell? ⟨w.heap.size + 1 + 1, 0, none⟩ = some (.int .i64 0) := (blk_cell Hr5 0).trans rfl
  have v1 : w5.cell? ⟨w.heap.size + 1 + 1, 1, none⟩ = some (.int .i64 0) := (blk_cell Hr5 1).trans rfl
  have v2 : w5.cell? ⟨w.heap.size + 1 + 1, 2, none⟩ = some (.int .i64 0) := (blk_cell Hr5 2).trans rfl
  have v3 : w5.cell? ⟨w.heap.size + 1 + 1, 3, none⟩ = some (.int .i64 0) := (blk_cell Hr5 3).trans rfl
  have f0 : w5.frozen? ⟨w.heap.size + 1 + 1, 0, none⟩ = false := blk_frozen Hr5 0
  have f1 : w5.frozen? ⟨w.heap.size + 1 + 1, 1, none⟩ = false := blk_frozen Hr5 1
  have f2 : w5.frozen? ⟨w.heap.size + 1 + 1, 2, none⟩ = false := blk_frozen Hr5 2
  have f3 : w5.frozen? ⟨w.heap.size + 1 + 1, 3, none⟩ = false := blk_frozen Hr5 3
  obtain ⟨V, hV⟩ : ∃ V, set4 w5 (w.heap.size + 1 + 1) (.int .i64 0) (.int .i64 0) (.int .i64 0) (.int .i64 0) = V := ⟨_, rfl⟩
  have HV : V.heap[w.heap.size + 1 + 1]? = some (.cells #[.int .i64 0, .int .i64 0, .int .i64 0, .int .i64 0] 40 (0, 0)) := by rw [← hV]; exact blk4_set Hr5 _ _ _ _
  have HBV : Below w.heap.size w V := by rw [← hV]; exact below_set4 HW5 (by omega) _ _ _ _
  have t0 : V.cell? ⟨w.heap.size + 1 + 1, 0, none⟩ = some (.int .i64 0) := (blk_cell HV 0).trans rfl
  have t1 : V.cell? ⟨w.heap.size + 1 + 1, 1, none⟩ = some (.int .i64 0) := (blk_cell HV 1).trans rfl
  have t2 : V.cell? ⟨w.heap.size + 1 + 1, 2, none⟩ = some (.int .i64 0) := (blk_cell HV 2).trans rfl
  have t3 : V.cell? ⟨w.heap.size + 1 + 1, 3, none⟩ = some (.int .i64 0) := (blk_cell HV 3).trans rfl
  go_wp2
  (try rw [hV])
  exact bodyPost_ret (v := .tuple #[.agg #[.int .i64 0, .int .i64 0, .int .i64 0, .int .i64 0], .bool false]) (by simp [results, Try.results20, go_sem, t0, t1, t2, t3]) rfl ⟨rfl, HBV⟩
end Go.Proofs.Ytckdhahceelckaa.G
namespace Go.Proofs.Ytckdhahceelckaa.G
open Go.RowKit Go.Proofs.YtckdhahceelckaaW.PrintWords Go.Proofs.YtckdhahceelckaaW.PrintLast Go.Proofs.YtckdhahceelckaaW.PrintMore
attribute [local go_sem] max2_mx min2_mn max_two min_two max_three min_three max_four min_four
attribute [local go_sem high] eqA23
set_option linter.unusedVariables false
set_option linter.unusedSimpArgs false
theorem ball_core (w : World) (g : Nat) (x y z r : Int) (c : Nat) (hc : 1 ≤ c) (h : w.heap[g]? = some (.cells #[.int .i64 x, .int .i64 y, .int .i64 z] 23 (0, 0))) : CoreV w (.agg #[.slice (some ⟨g, 0, none⟩) 1 c, .slice none 0 0, .slice none 0 0, .int .i64 r]) [⟨x, y, z⟩] [] [] r :=
  ⟨_, _, _, _, _, _, rfl, Rd_one h, RdB.nil _, RdB.nil _, hc, Nat.le_refl _, Nat.le_refl _⟩
theorem ball_may (x y z r : Int) (h : in3 16777216 ⟨x, y, z⟩) (h0 : 0 ≤ r) (h1 : r ≤ 65536) : MayP [⟨x, y, z⟩] [] [] r :=
  ⟨by simp, by simp, by simp, by simp, h0, h1, by simpa using (far3_iff _ _ (by decide) (by decide)).2 h, rfl, rfl⟩
theorem MaySays.zero (w : World) : MaySays w (.agg #[.slice none 0 0, .slice none 0 0, .slice none 0 0, .int .i64 0]) false := fun w' _ =>
  may_A [] [] [] 0 none none none 0 0 0 w' (Rd.nil _ _) (Rd.nil _ _) (Rd.nil _ _) (Nat.le_refl _) (Nat.le_refl _) (Nat.le_refl _) false false false rfl
theorem eqA40 (d : Nat) (w : World) (x y z g a b c h : Int) :
    (Op.equalIn (d + 3) 40 (.agg #[.int .i64 x, .int .i64 y, .int .i64 z, .int .i64 g]) (.agg #[.int .i64 a, .int .i64 b, .int .i64 c, .int .i64 h])).run Try.prog w = .ok (eqP x y z a b c && g == h) w := by
  refine eqA_of Try.underlying40 (by kernel_rfl) ?_
  refine eqf_cons (by rfl) (a := .agg #[.int .i64 x, .int .i64 y, .int .i64 z]) (b := .agg #[.int .i64 a, .int .i64 b, .int .i64 c]) (by go_simp) (by go_simp) (eqA23 _ _ _ _ _ _ _ _) ?_
  exact eqf_last (by rfl) (by go_simp; rfl) (by go_simp; rfl) (by go_simp)
attribute [local go_sem high] eqA40
set_option maxHeartbeats 4000000 in
theorem awake_calls (w : World) : Calls Try.prog 18 #[] w fun e w' => e = .returned (.bool true) ∧ Below w.heap.size w w' := by
  have H0 := heap_alloc_new w (.cells #[.int .i64 0, .int .i64 0, .int .i64 0] 23)
  go_enter Try.func18, Try.ntmps18
  go_wp2_with fail
  obtain ⟨w4, hw4⟩ : ∃ w4, ((((w.alloc (.cells #[.int .i64 0, .int .i64 0, .int .i64 0] 23)).alloc (.cells #[.slice (some ⟨w.heap.size, 0, none⟩) 1 1, .slice none 0 0, .slice none 0 0, .int .i64 2] 36)).alloc (.cells #[.int .i64 10, .int .i64 0, .int .i64 0] 23)).alloc (.cells #[.slice (some ⟨w.heap.size + 1 + 1, 0, none⟩) 1 1, .slice none 0 0, .slice none 0 0, .int .i64 3] 36)) = w4 := ⟨_, rfl⟩
  have I0 : w4.heap[w.heap.size]? = some (.cells #[.int .i64 0, .int .i64 0, .int .i64 0] 23 (0, 0)) := by rw [← hw4]; exact (Below.heap_alloc _ _ _ (by simp; omega)).trans (three0 _ _ _ _)
  have I1 : w4.heap[w.heap.size + 1]? = some (.cells #[.slice (some ⟨w.heap.size, 0, none⟩) 1 1, .slice none 0 0, .slice none 0 0, .int .i64 2] 36 (0, 0)) := by rw [← hw4]; exact (Below.heap_alloc _ _ _ (by simp)).trans (three1 _ _ _ _)
  have I2 : w4.heap[w.heap.size + 2]? = some (.cells #[.int .i64 10, .int .i64 0, .int .i64 0] 23 (0, 0)) := by rw [← hw4]; exact (Below.heap_alloc _ _ _ (by simp)).trans (three2 _ _ _ _)
  have IB : Below w.heap.size w w4 := by rw [← hw4]; exact (((((Below.refl _ w).alloc (Nat.le_refl _) _).alloc (by simp) _).alloc (by simp; omega) _).alloc (by simp; omega) _)
  rw [hw4]
  clear hw4 H0
  have cA := ball_core w4 w.heap.size 0 0 0 2 1 (Nat.le_refl _) I0
  have cB := ball_core w4 (w.heap.size + 2) 10 0 0 3 1 (Nat.le_refl _) I2
  have mA := ball_may 0 0 0 2 (by unfold in3; decide) (by decide) (by decide)
  have mB := ball_may 10 0 0 3 (by unfold in3; decide) (by decide) (by decide)
  refine (apart_calls _ _ _ _ _ _ _ _ _ _ w4 cA cB mA mB _ awake_apart).mono ?_
  rintro e w5 ⟨rfl, hb5⟩
  have cA5 := cA.below hb5
  have I15 := (hb5.block _ (blk_lt I1)).trans I1
  have IB5 := bthen IB hb5
  have x0 : w5.cell? ⟨w.heap.size + 1, 0, none⟩ = some (.slice (some ⟨w.heap.size, 0, none⟩) 1 1) := (blk_cell I15 0).trans rfl
  have x1 : w5.cell? ⟨w.heap.size + 1, 1, none⟩ = some (.slice none 0 0) := (blk_cell I15 1).trans rfl
  have x2 : w5.cell? ⟨w.heap.size + 1, 2, none⟩ = some (.slice none 0 0) := (blk_cell I15 2).trans rfl
  have x3 : w5.cell? ⟨w.heap.size + 1, 3, none⟩ = some (.int .i64 2) := (blk_cell I15 3).trans rfl
  have l5 := blk_lt I15
  clear cA cB mB I0 I1 I2 IB hb5 I15
  dsimp only
  go_wp2_with fail
  have cA6 := cA5.below ((Below.refl _ w5).alloc (Nat.le_refl _) (.cells #[.int .i64 1048576, .int .i64 0, .int .i64 0, .int .i64 5] 40))
  refine (apart_nob _ _ _ _ _ _ _ _ _ (MaySays.yes cA6 mA) (MaySays.zero _)).mono ?_
  rintro e w6 ⟨rfl, hb6⟩
  have J0 := (hb6.block _ (blk_lt (heap_alloc_new w5 (.cells #[.int .i64 1048576, .int .i64 0, .int .i64 0, .int .i64 5] 40)))).trans (heap_alloc_new w5 _)
  have IB6 := bthen (bthen IB5 ((Below.refl _ w5).alloc (Nat.le_refl _) (.cells #[.int .i64 1048576, .int .i64 0, .int .i64 0, .int .i64 5] 40))) hb6
  clear cA5 cA6 mA x0 x1 x2 x3 IB5 hb6
  go_wp2_with fail
  refine (sizes_calls _ _ _ _).mono ?_
  rintro e w7 ⟨rfl, hb7⟩
  rw [sz_one]
  dsimp only
  have J1 := (hb7.block _ (by have := blk_lt J0; simp; omega)).trans ((Below.heap_alloc _ _ _ (blk_lt J0)).trans J0)
  have IB7 := bthen (bthen IB6 ((Below.refl _ w6).alloc (Nat.le_refl _) _)) hb7
  have y0 : w7.cell? ⟨w5.heap.size, 0, none⟩ = some (.int .i64 1048576) := (blk_cell J1 0).trans rfl
  have y1 : w7.cell? ⟨w5.heap.size, 1, none⟩ = some (.int .i64 0) := (blk_cell J1 1).trans rfl
  have y2 : w7.cell? ⟨w5.heap.size, 2, none⟩ = some (.int .i64 0) := (blk_cell J1 2).trans rfl
  have y3 : w7.cell? ⟨w5.heap.size, 3, none⟩ = some (.int .i64 5) := (blk_cell J1 3).trans rfl
  have e0 : eqP 1048576 0 0 1048576 0 0 = true := by decide
  clear J0 IB6 hb7 J1 l5
  go_wp2
  go_ret
  exact ⟨by simp [eqP], IB7⟩
end Go.Proofs.Ytckdhahceelckaa.G
namespace Go.Proofs.Ytckdhahceelckaa.G
open Go.RowKit Go.Proofs.YtckdhahceelckaaW.PrintWords Go.Proofs.YtckdhahceelckaaW.PrintLast Go.Proofs.YtckdhahceelckaaW.PrintMore
attribute [local go_sem] max2_mx min2_mn max_two min_two max_three min_three max_four min_four
attribute [local go_sem high] eqA23 eqA40
set_option linter.unusedVariables false
set_option linter.unusedSimpArgs false
/-- a raw point as one of the world's -/
def rightP (p : P3) (m : Int) : P3 := ⟨pickF p.x m - (m / 2), pickF p.y m - (m / 2), pickF p.z m - (m / 2)⟩
/-- the law NarrowBalls as a function, of the gap told -/
def ballsV (gap r s far : Int) : Bool :=
  let g := wrap64 (wrap64 (gap + r) + s)
  if g < 0 then false else if far < wrap64 (g * g) then false else
  let up := wrap64 (wrap64 (g + 2) + g / 65536)
  decide (far ≤ wrap64 (up * up))
def ballsOk (p q : P3) (r s : Int) : Bool := ballsV (apartF [p] [] [] r [q] [] [] s).2 r s (dot3 (minus3 q p) (minus3 q p))
set_option maxHeartbeats 4000000 in
set_option maxRecDepth 100000 in
theorem balls_calls (px py pz qx qy qz r s : Int) (w : World) (hp : ∀ c ∈ [px, py, pz, qx, qy, qz, r, s], -9223372036854775808 ≤ c ∧ c ≤ 9223372036854775807) :
    Calls Try.prog 4 #[.agg #[.int .i64 px, .int .i64 py, .int .i64 pz], .agg #[.int .i64 qx, .int .i64 qy, .int .i64 qz], .int .i64 r, .int .i64 s] w fun e w' => e = .returned (.bool (ballsOk (rightP ⟨px, py, pz⟩ 8388608) (rightP ⟨qx, qy, qz⟩ 8388608) (1 + pickF r 16384) (1 + pickF s 16384))) ∧ Below w.heap.size w w' := by
  have P0 := C3.new w (.int .i64 px) (.int .i64 py) (.int .i64 pz) 23
  have P1 := P0.alloc (.cells #[.int .i64 qx, .int .i64 qy, .int .i64 qz] 23)
  have Q1 := C3.new (w.alloc (.cells #[.int .i64 px, .int .i64 py, .int .i64 pz] 23)) (.int .i64 qx) (.int .i64 qy) (.int .i64 qz) 23
  rw [World.size_alloc] at Q1
  have HB1 : Below w.heap.size w ((w.alloc (.cells #[.int .i64 px, .int .i64 py, .int .i64 pz] 23)).alloc (.cells #[.int .i64 qx, .int .i64 qy, .int .i64 qz] 23)) := ((Below.refl _ w).alloc (Nat.le_refl _) _).alloc (by simp) _
  have P1 := Lib.hid P1
  have Q1 := Lib.hid Q1
  clear P0
  have hp1 := Lib.hid (hp px (by simp)); have hp2 := Lib.hid (hp py (by simp)); have hp3 := Lib.hid (hp pz (by simp)); have hq1 := Lib.hid (hp qx (by simp)); have hq2 := Lib.hid (hp qy (by simp)); have hq3 := Lib.hid (hp qz (by simp)); have hr1 := Lib.hid (hp r (by simp)); have hs1 := Lib.hid (hp s (by simp))
  clear hp
  go_enter Try.func4, Try.ntmps4
  go_wp2_with fail
  obtain ⟨w1, hw1⟩ : ∃ w1, ((w.alloc (.cells #[.int .i64 px, .int .i64 py, .int .i64 pz] 23)).alloc (.cells #[.int .i64 qx, .int .i64 qy, .int .i64 qz] 23)) = w1 := ⟨_, rfl⟩
  rw [hw1] at P1 Q1 HB1 ⊢
  clear hw1
  refine (awake_calls _).mono ?_
  rintro e w2 ⟨rfl, hb2⟩
  have P2 := Lib.hid (P1.out.below hb2)
  have Q2 := Lib.hid (Q1.out.below hb2)
  have HB2 := bthen HB1 hb2
  clear P1 Q1 HB1 hb2
  have b1 := pickF_bd px 8388608 (by decide)
  have b2 := pickF_bd py 8388608 (by decide)
  have b3 := pickF_bd pz 8388608 (by decide)
  have e1 : IntKind.i64.wrap (pickF px 8388608 - 4194304) = pickF px 8388608 - 4194304 := iw_id _ (by omega) (by omega)
  have e2 : IntKind.i64.wrap (pickF py 8388608 - 4194304) = pickF py 8388608 - 4194304 := iw_id _ (by omega) (by omega)
  have e3 : IntKind.i64.wrap (pickF pz 8388608 - 4194304) = pickF pz 8388608 - 4194304 := iw_id _ (by omega) (by omega)
  go_wp2_with fail
  have G0 := P2.out.drew
  refine start_ (n := 14) (S := fun w' => w'.cell? ⟨w.heap.size, 0, none⟩ = some (.int .i64 px) ∧ w'.cell? ⟨w.heap.size, 1, none⟩ = some (.int .i64 py) ∧ w'.cell? ⟨w.heap.size, 2, none⟩ = some (.int .i64 pz)) (ds := [13]) (MT 0 14) (by kernel_rfl) rfl rfl ⟨G0.c0, G0.c1, G0.c2⟩ (fun hHeld => ?_)
  refine pu_ 0 17 (h := ?_)
  refine pu_ 4 21 (h := ?_)
  refine pu_ 8 25 (h := ?_)
  refine take_ (i := 1) (N := some 18) (v := ?_) (a' := ?_) #[true, true, false, false, true, false, false, false, true, false, false, false, false, false] rfl rfl (by kernel_rfl) (fun _ _ _ h => h) (Or.inl ⟨by rfl, ?_⟩) (by assumption) ?_ ?_
  rotate_left
  · rintro w' ⟨s0, s1, s2⟩
    go_simp
    with_reducible rfl
  rotate_left
  · simp only [Act.put, List.setIfInBounds_toArray, List.set_cons_zero, List.set_cons_succ]
    rfl
  refine take_ (i := 5) (N := some 22) (v := ?_) (a' := ?_) #[true, true, false, false, true, true, false, false, true, false, false, false, false, false] rfl rfl (by kernel_rfl) (fun _ _ _ h => h) (Or.inl ⟨by rfl, ?_⟩) (by assumption) ?_ ?_
  rotate_left
  · rintro w' ⟨s0, s1, s2⟩
    go_simp
    with_reducible rfl
  rotate_left
  · simp only [Act.put, List.setIfInBounds_toArray, List.set_cons_zero, List.set_cons_succ]
    rfl
  refine take_ (i := 9) (N := some 26) (v := ?_) (a' := ?_) #[true, true, false, false, true, true, false, false, true, true, false, false, false, false] rfl rfl (by kernel_rfl) (fun _ _ _ h => h) (Or.inl ⟨by rfl, ?_⟩) (by assumption) ?_ ?_
  rotate_left
  · rintro w' ⟨s0, s1, s2⟩
    go_simp
    with_reducible rfl
  rotate_left
  · simp only [Act.put, List.setIfInBounds_toArray, List.set_cons_zero, List.set_cons_succ]
    rfl
  refine on_ 2 (some 19) (h := fun K hK => ?_)
  refine goes_ Try.func22 (by kernel_rfl) rfl #[.int .i64 px, .int .i64 8388608] (by rfl) rfl rfl (by first | rfl | (simp only [List.map_toArray, List.map_cons, List.map_nil]; rfl)) ?_
  with_reducible refine (pick_calls px 8388608 hp1.out.1 hp1.out.2 (by decide) (by decide) _).mono ?_
  rintro e w' ⟨rfl, rfl⟩
  refine ⟨_, rfl, ?_⟩
  refine hK.out _ _ ⟨G0.c0, G0.c1, G0.c2⟩ (fun hHeld => ?_)
  clear hK K
  refine no_ (h := ?_)
  refine pu_ 3 20 (h := ?_)
  refine on_ 6 (some 23) (h := fun K hK => ?_)
  refine goes_ Try.func22 (by kernel_rfl) rfl #[.int .i64 py, .int .i64 8388608] (by rfl) rfl rfl (by first | rfl | (simp only [List.map_toArray, List.map_cons, List.map_nil]; rfl)) ?_
  with_reducible refine (pick_calls py 8388608 hp2.out.1 hp2.out.2 (by decide) (by decide) _).mono ?_
  rintro e w' ⟨rfl, rfl⟩
  refine ⟨_, rfl, ?_⟩
  refine hK.out _ _ ⟨G0.c0, G0.c1, G0.c2⟩ (fun hHeld => ?_)
  clear hK K
  refine no_ (h := ?_)
  refine pu_ 7 24 (h := ?_)
  refine on_ 10 (some 27) (h := fun K hK => ?_)
  refine goes_ Try.func22 (by kernel_rfl) rfl #[.int .i64 pz, .int .i64 8388608] (by rfl) rfl rfl (by first | rfl | (simp only [List.map_toArray, List.map_cons, List.map_nil]; rfl)) ?_
  with_reducible refine (pick_calls pz 8388608 hp3.out.1 hp3.out.2 (by decide) (by decide) _).mono ?_
  rintro e w' ⟨rfl, rfl⟩
  refine ⟨_, rfl, ?_⟩
  refine hK.out _ _ ⟨G0.c0, G0.c1, G0.c2⟩ (fun hHeld => ?_)
  clear hK K
  refine no_ (h := ?_)
  refine pu_ 11 28 (h := ?_)
  refine pu_ 12 29 (h := ?_)
  refine last_ (i := 13) (N := none) (MT 14 0) rfl rfl (by kernel_rfl) (by decide) (fun K hK => ?_)
  obtain ⟨z0, z1, z2, z3, z4, z5⟩ := P2.out
  have z6 := P2.out.drew.f0
  have z7 := P2.out.drew.f1
  have z8 := P2.out.drew.f2
  refine skip_ (w1 := ?_) (by rfl) rfl ?_ ?_
  rotate_left
  · go_simp
    rfl
  refine hK.out _ _ ?_
  clear hK K
  refine done_ (by kernel_rfl) ?_
  obtain ⟨w3, hw3⟩ : ∃ w3, (set3 w2 w.heap.size (.int .i64 (pickF px 8388608 - 4194304)) (.int .i64 (pickF py 8388608 - 4194304)) (.int .i64 (pickF pz 8388608 - 4194304))).drew = w3 := ⟨_, rfl⟩
  have P3 : Hid (C3 w3 w.heap.size (.int .i64 (pickF px 8388608 - 4194304)) (.int .i64 (pickF py 8388608 - 4194304)) (.int .i64 (pickF pz 8388608 - 4194304))) := by rw [← hw3]; exact (P2.out.set _ _ _).drew
  have Q3 : Hid (C3 w3 (w.heap.size + 1) (.int .i64 qx) (.int .i64 qy) (.int .i64 qz)) := by rw [← hw3]; exact (Q2.out.other (by omega) _ _ _).drew
  have HB3 : Below w.heap.size w w3 := by rw [← hw3]; exact (below_set3 HB2 (Nat.le_refl _) _ _ _).drew
  show Exit.then _ _ _ _ ((set3 w2 w.heap.size (.int .i64 (pickF px 8388608 - 4194304)) (.int .i64 (pickF py 8388608 - 4194304)) (.int .i64 (pickF pz 8388608 - 4194304))).drew)
  rw [hw3]
  clear hw3 P2 Q2 HB2 G0
  have c1 := pickF_bd qx 8388608 (by decide)
  have c2 := pickF_bd qy 8388608 (by decide)
  have c3 := pickF_bd qz 8388608 (by decide)
  have e4 : IntKind.i64.wrap (pickF qx 8388608 - 4194304) = pickF qx 8388608 - 4194304 := iw_id _ (by omega) (by omega)
  have e5 : IntKind.i64.wrap (pickF qy 8388608 - 4194304) = pickF qy 8388608 - 4194304 := iw_id _ (by omega) (by omega)
  have e6 : IntKind.i64.wrap (pickF qz 8388608 - 4194304) = pickF qz 8388608 - 4194304 := iw_id _ (by omega) (by omega)
  go_wp2_with fail
  have G0 := Q3.out.drew
  refine start_ (n := 14) (S := fun w' => w'.cell? ⟨w.heap.size + 1, 0, none⟩ = some (.int .i64 qx) ∧ w'.cell? ⟨w.heap.size + 1, 1, none⟩ = some (.int .i64 qy) ∧ w'.cell? ⟨w.heap.size + 1, 2, none⟩ = some (.int .i64 qz)) (ds := [13]) (MT 0 14) (by kernel_rfl) rfl rfl ⟨G0.c0, G0.c1, G0.c2⟩ (fun hHeld => ?_)
  refine pu_ 0 30 (h := ?_)
  refine pu_ 4 34 (h := ?_)
  refine pu_ 8 38 (h := ?_)
  refine take_ (i := 1) (N := some 31) (v := ?_) (a' := ?_) #[true, true, false, false, true, false, false, false, true, false, false, false, false, false] rfl rfl (by kernel_rfl) (fun _ _ _ h => h) (Or.inl ⟨by rfl, ?_⟩) (by assumption) ?_ ?_
  rotate_left
  · rintro w' ⟨s0, s1, s2⟩
    go_simp
    with_reducible rfl
  rotate_left
  · simp only [Act.put, List.setIfInBounds_toArray, List.set_cons_zero, List.set_cons_succ]
    rfl
  refine take_ (i := 5) (N := some 35) (v := ?_) (a' := ?_) #[true, true, false, false, true, true, false, false, true, false, false, false, false, false] rfl rfl (by kernel_rfl) (fun _ _ _ h => h) (Or.inl ⟨by rfl, ?_⟩) (by assumption) ?_ ?_
  rotate_left
  · rintro w' ⟨s0, s1, s2⟩
    go_simp
    with_reducible rfl
  rotate_left
  · simp only [Act.put, List.setIfInBounds_toArray, List.set_cons_zero, List.set_cons_succ]
    rfl
  refine take_ (i := 9) (N := some 39) (v := ?_) (a' := ?_) #[true, true, false, false, true, true, false, false, true, true, false, false, false, false] rfl rfl (by kernel_rfl) (fun _ _ _ h => h) (Or.inl ⟨by rfl, ?_⟩) (by assumption) ?_ ?_
  rotate_left
  · rintro w' ⟨s0, s1, s2⟩
    go_simp
    with_reducible rfl
  rotate_left
  · simp only [Act.put, List.setIfInBounds_toArray, List.set_cons_zero, List.set_cons_succ]
    rfl
  refine on_ 2 (some 32) (h := fun K hK => ?_)
  refine goes_ Try.func22 (by kernel_rfl) rfl #[.int .i64 qx, .int .i64 8388608] (by rfl) rfl rfl (by first | rfl | (simp only [List.map_toArray, List.map_cons, List.map_nil]; rfl)) ?_
  with_reducible refine (pick_calls qx 8388608 hq1.out.1 hq1.out.2 (by decide) (by decide) _).mono ?_
  rintro e w' ⟨rfl, rfl⟩
  refine ⟨_, rfl, ?_⟩
  refine hK.out _ _ ⟨G0.c0, G0.c1, G0.c2⟩ (fun hHeld => ?_)
  clear hK K
  refine no_ (h := ?_)
  refine pu_ 3 33 (h := ?_)
  refine on_ 6 (some 36) (h := fun K hK => ?_)
  refine goes_ Try.func22 (by kernel_rfl) rfl #[.int .i64 qy, .int .i64 8388608] (by rfl) rfl rfl (by first | rfl | (simp only [List.map_toArray, List.map_cons, List.map_nil]; rfl)) ?_
  with_reducible refine (pick_calls qy 8388608 hq2.out.1 hq2.out.2 (by decide) (by decide) _).mono ?_
  rintro e w' ⟨rfl, rfl⟩
  refine ⟨_, rfl, ?_⟩
  refine hK.out _ _ ⟨G0.c0, G0.c1, G0.c2⟩ (fun hHeld => ?_)
  clear hK K
  refine no_ (h := ?_)
  refine pu_ 7 37 (h := ?_)
  refine on_ 10 (some 40) (h := fun K hK => ?_)
  refine goes_ Try.func22 (by kernel_rfl) rfl #[.int .i64 qz, .int .i64 8388608] (by rfl) rfl rfl (by first | rfl | (simp only [List.map_toArray, List.map_cons, List.map_nil]; rfl)) ?_
  with_reducible refine (pick_calls qz 8388608 hq3.out.1 hq3.out.2 (by decide) (by decide) _).mono ?_
  rintro e w' ⟨rfl, rfl⟩
  refine ⟨_, rfl, ?_⟩
  refine hK.out _ _ ⟨G0.c0, G0.c1, G0.c2⟩ (fun hHeld => ?_)
  clear hK K
  refine no_ (h := ?_)
  refine pu_ 11 41 (h := ?_)
  refine pu_ 12 42 (h := ?_)
  refine last_ (i := 13) (N := none) (MT 14 0) rfl rfl (by kernel_rfl) (by decide) (fun K hK => ?_)
  obtain ⟨z0, z1, z2, z3, z4, z5⟩ := Q3.out
  have z6 := Q3.out.drew.f0
  have z7 := Q3.out.drew.f1
  have z8 := Q3.out.drew.f2
  refine skip_ (w1 := ?_) (by rfl) rfl ?_ ?_
  rotate_left
  · go_simp
    rfl
  refine hK.out _ _ ?_
  clear hK K
  refine done_ (by kernel_rfl) ?_
  obtain ⟨w4, hw4⟩ : ∃ w4, (set3 w3 (w.heap.size + 1) (.int .i64 (pickF qx 8388608 - 4194304)) (.int .i64 (pickF qy 8388608 - 4194304)) (.int .i64 (pickF qz 8388608 - 4194304))).drew = w4 := ⟨_, rfl⟩
  have P4 : Hid (C3 w4 w.heap.size (.int .i64 (pickF px 8388608 - 4194304)) (.int .i64 (pickF py 8388608 - 4194304)) (.int .i64 (pickF pz 8388608 - 4194304))) := by rw [← hw4]; exact (P3.out.other (by omega) _ _ _).drew
  have Q4 : Hid (C3 w4 (w.heap.size + 1) (.int .i64 (pickF qx 8388608 - 4194304)) (.int .i64 (pickF qy 8388608 - 4194304)) (.int .i64 (pickF qz 8388608 - 4194304))) := by rw [← hw4]; exact (Q3.out.set _ _ _).drew
  have HB4 : Below w.heap.size w w4 := by rw [← hw4]; exact (below_set3 HB3 (by omega) _ _ _).drew
  show Exit.then _ _ _ _ ((set3 w3 (w.heap.size + 1) (.int .i64 (pickF qx 8388608 - 4194304)) (.int .i64 (pickF qy 8388608 - 4194304)) (.int .i64 (pickF qz 8388608 - 4194304))).drew)
  rw [hw4]
  clear hw4 P3 Q3 HB3 G0 e1 e2 e3 e4 e5 e6
  go_wp2_with fail
  refine (pick_calls r 16384 hr1.out.1 hr1.out.2 (by decide) (by decide) _).mono ?_
  rintro e w' ⟨rfl, rfl⟩
  have d1 := pickF_bd r 16384 (by decide)
  have e1 : IntKind.i64.wrap (1 + pickF r 16384) = 1 + pickF r 16384 := iw_id _ (by omega) (by omega)
  go_wp2_with fail
  refine (pick_calls s 16384 hs1.out.1 hs1.out.2 (by decide) (by decide) _).mono ?_
  rintro e w' ⟨rfl, rfl⟩
  have d2 := pickF_bd s 16384 (by decide)
  have e2 : IntKind.i64.wrap (1 + pickF s 16384) = 1 + pickF s 16384 := iw_id _ (by omega) (by omega)
  obtain ⟨y0, y1, y2, _, _, _⟩ := P4.out
  obtain ⟨z0, z1, z2, _, _, _⟩ := Q4.out
  have l0 := P4.out.lt
  have l1 := Q4.out.lt
  obtain ⟨p1, hp1⟩ : ∃ v, pickF px 8388608 - 4194304 = v := ⟨_, rfl⟩
  obtain ⟨p2, hp2⟩ : ∃ v, pickF py 8388608 - 4194304 = v := ⟨_, rfl⟩
  obtain ⟨p3, hp3⟩ : ∃ v, pickF pz 8388608 - 4194304 = v := ⟨_, rfl⟩
  obtain ⟨q1, hq1⟩ : ∃ v, pickF qx 8388608 - 4194304 = v := ⟨_, rfl⟩
  obtain ⟨q2, hq2⟩ : ∃ v, pickF qy 8388608 - 4194304 = v := ⟨_, rfl⟩
  obtain ⟨q3, hq3⟩ : ∃ v, pickF qz 8388608 - 4194304 = v := ⟨_, rfl⟩
  obtain ⟨ra, hra⟩ : ∃ v, 1 + pickF r 16384 = v := ⟨_, rfl⟩
  obtain ⟨rb, hrb⟩ : ∃ v, 1 + pickF s 16384 = v := ⟨_, rfl⟩
  go_wp2_with fail
  have hbA : Below w'.heap.size w' ((w'.alloc (.cells #[.int .i64 p1, .int .i64 p2, .int .i64 p3] 23)).alloc (.cells #[.int .i64 q1, .int .i64 q2, .int .i64 q3] 23)) := ((Below.refl _ w').alloc (Nat.le_refl _) _).alloc (by simp) _
  have iA : ((w'.alloc (.cells #[.int .i64 p1, .int .i64 p2, .int .i64 p3] 23)).alloc (.cells #[.int .i64 q1, .int .i64 q2, .int .i64 q3] 23)).heap[w'.heap.size]? = some (.cells #[.int .i64 p1, .int .i64 p2, .int .i64 p3] 23 (0, 0)) := (Below.heap_alloc _ _ _ (by simp)).trans (heap_alloc_new _ _)
  have iB : ((w'.alloc (.cells #[.int .i64 p1, .int .i64 p2, .int .i64 p3] 23)).alloc (.cells #[.int .i64 q1, .int .i64 q2, .int .i64 q3] 23)).heap[w'.heap.size + 1]? = some (.cells #[.int .i64 q1, .int .i64 q2, .int .i64 q3] 23 (0, 0)) := by
    have := heap_alloc_new (w'.alloc (.cells #[.int .i64 p1, .int .i64 p2, .int .i64 p3] 23)) (.cells #[.int .i64 q1, .int .i64 q2, .int .i64 q3] 23)
    rwa [World.size_alloc] at this
  obtain ⟨w5, hw5⟩ : ∃ w5, ((w'.alloc (.cells #[.int .i64 p1, .int .i64 p2, .int .i64 p3] 23)).alloc (.cells #[.int .i64 q1, .int .i64 q2, .int .i64 q3] 23)) = w5 := ⟨_, rfl⟩
  rw [hw5] at hbA iA iB ⊢
  clear hw5
  have cA := ball_core w5 _ p1 p2 p3 ra 1 (Nat.le_refl _) iA
  have cB := ball_core w5 _ q1 q2 q3 rb 1 (Nat.le_refl _) iB
  have mA := ball_may p1 p2 p3 ra (by unfold in3; simp only; omega) (by omega) (by omega)
  have mB := ball_may q1 q2 q3 rb (by unfold in3; simp only; omega) (by omega) (by omega)
  obtain ⟨R, hR⟩ : ∃ R, apartF [⟨p1, p2, p3⟩] [] [] ra [⟨q1, q2, q3⟩] [] [] rb = R := ⟨_, rfl⟩
  refine (apart_calls _ _ _ _ _ _ _ _ _ _ w5 cA cB mA mB _ hR).mono ?_
  rintro e w6 ⟨rfl, hb6⟩
  have hb46 := bthen hbA hb6
  have HB6 := bthen HB4 hb46
  obtain ⟨y0, y1, y2, _, _, _⟩ := P4.out.below hb46
  obtain ⟨z0, z1, z2, _, _, _⟩ := Q4.out.below hb46
  have l0 := (P4.out.below hb46).lt
  have l1 := (Q4.out.below hb46).lt
  have l0' : w.heap.size < w6.heap.size + 1 := by omega
  have l1' : w.heap.size + 1 < w6.heap.size + 1 := by omega
  have XB := heap_alloc_new w6 (.cells #[.int .i64 R.1.x, .int .i64 R.1.y, .int .i64 R.1.z, .int .i64 R.2] 40)
  have HB7 := bthen HB6 ((Below.refl _ w6).alloc (Nat.le_refl _) (.cells #[.int .i64 R.1.x, .int .i64 R.1.y, .int .i64 R.1.z, .int .i64 R.2] 40))
  clear P4 Q4 HB4 iA iB cA cB mA mB hb6 hbA hb46
  go_wp2_with fail
  refine (rminus_calls _ _ _ _ _ _ _).mono ?_
  rintro e w8 ⟨rfl, hb8⟩
  have X8 := (hb8.block _ (blk_lt XB)).trans XB
  have HB8 := bthen HB7 hb8
  obtain ⟨⟨d1, d2, d3⟩, hd⟩ : ∃ d, minus3 ⟨q1, q2, q3⟩ ⟨p1, p2, p3⟩ = d := ⟨_, rfl⟩
  rw [hd]
  dsimp only
  go_wp2_with fail
  refine (rdot_calls _ _ _ _ _ _ _).mono ?_
  rintro e w9 ⟨rfl, hb9⟩
  have X9 := (hb9.block _ (by have := blk_lt X8; simp; omega)).trans ((Below.heap_alloc _ _ _ (blk_lt X8)).trans X8)
  have HB9 := bthen (bthen HB8 ((Below.refl _ w8).alloc (Nat.le_refl _) _)) hb9
  have x3 : w9.cell? ⟨w6.heap.size, 3, none⟩ = some (.int .i64 R.2) := (blk_cell X9 3).trans rfl
  obtain ⟨far, hfar⟩ : ∃ f, dot3 ⟨d1, d2, d3⟩ ⟨d1, d2, d3⟩ = f := ⟨_, rfl⟩
  obtain ⟨gg, hgg⟩ : ∃ g, wrap64 (wrap64 (R.2 + ra) + rb) = g := ⟨_, rfl⟩
  obtain ⟨sq, hsq⟩ : ∃ g, wrap64 (gg * gg) = g := ⟨_, rfl⟩
  clear HB6 HB7 HB8 X8 X9 XB hb8 hb9 y0 y1 y2 z0 z1 z2 l0 l1 l0' l1'
  have hall : ballsOk ⟨p1, p2, p3⟩ ⟨q1, q2, q3⟩ ra rb = ballsV R.2 ra rb far := by
    unfold ballsOk; rw [hR, hd, hfar]
  have hall2 : rightP ⟨px, py, pz⟩ 8388608 = ⟨p1, p2, p3⟩ ∧ rightP ⟨qx, qy, qz⟩ 8388608 = ⟨q1, q2, q3⟩ := by
    unfold rightP; simp only; rw [← hp1, ← hp2, ← hp3, ← hq1, ← hq2, ← hq3]; exact ⟨rfl, rfl⟩
  by_cases h0 : gg < 0
  · have t0 : decide (gg < 0) = true := by simpa using h0
    have hv : ballsV R.2 ra rb far = false := by unfold ballsV; simp only [hgg]; rw [if_pos h0]
    go_wp2
    go_ret
    exact ⟨by rw [hall2.1, hall2.2, hra, hrb, hall, hv]; rfl, HB9⟩
  · have t0 : decide (gg < 0) = false := by simpa using h0
    by_cases h1 : far < sq
    · have t1 : decide (far < sq) = true := by simpa using h1
      have hv : ballsV R.2 ra rb far = false := by unfold ballsV; simp only [hgg, hsq]; rw [if_neg h0, if_pos h1]
      go_wp2
      go_ret
      exact ⟨by rw [hall2.1, hall2.2, hra, hrb, hall, hv]; rfl, HB9⟩
    · have t1 : decide (far < sq) = false := by simpa using h1
      have hv : ballsV R.2 ra rb far = decide (far ≤ wrap64 (wrap64 (wrap64 (gg + 2) + gg / 65536) * wrap64 (wrap64 (gg + 2) + gg / 65536))) := by unfold ballsV; simp only [hgg, hsq]; rw [if_neg h0, if_neg h1]
      go_wp2
      go_ret
      exact ⟨by rw [hall2.1, hall2.2, hra, hrb, hall, hv]; rfl, HB9⟩
end Go.Proofs.Ytckdhahceelckaa.G
namespace Go.Proofs.Ytckdhahceelckaa.G
open Go.RowKit
set_option linter.unusedVariables false
set_option linter.unusedSimpArgs false
theorem short3_eq (p : P3) (h : in3 4398046511104 p) (h0 : p ≠ ⟨0, 0, 0⟩) : short3 p = bare3 (halve3 (bare3 p)) := by
  unfold short3
  rw [if_neg]
  rw [(far3_iff _ _ (by decide) (by decide)).2 h]
  simp [h0]
theorem short3_zero : short3 ⟨0, 0, 0⟩ = ⟨0, 0, 0⟩ := by unfold short3; rw [if_pos (.inr rfl)]
theorem short3_ne (p : P3) (h : in3 4398046511104 p) (h0 : p ≠ ⟨0, 0, 0⟩) : short3 p ≠ ⟨0, 0, 0⟩ := by
  rw [short3_eq p h h0]
  exact bare3_ne _ 0 (halve3_ne _ (bare3_ne _ 0 h0))
theorem in3_le {n m : Int} (h : n ≤ m) {p : P3} (hp : in3 n p) : in3 m p := by unfold in3 at *; omega
theorem long3_short (p : P3) (h : in3 1048576 p) (h0 : p ≠ ⟨0, 0, 0⟩) : Par (long3 p) p ∧ long3 p ≠ ⟨0, 0, 0⟩ ∧ 274877906944 < dotI (long3 p) (long3 p) := by
  have hs : short3 p = bare3 (bare3 p) := by
    rw [short3_eq p (in3_le (by decide) h) h0, halve3_id _ (bare3_in _ _ h)]
  have hb := bare3_ne p 0 h0
  unfold long3
  rw [hs]
  have hb2 := bare3_ne (bare3 p) 0 hb
  refine ⟨(dbl3_par _).trans ((bare3_par _ hb).trans (bare3_par _ h0)), dbl3_ne _ hb2, ?_⟩
  have hf := dbl3_far _ hb2
  have hn : ¬ in3 524288 (dbl3 (bare3 (bare3 p))) := fun hi => by rw [(far3_iff _ _ (by decide) (by decide)).2 hi] at hf; cases hf
  have := dotI_far (dbl3 (bare3 (bare3 p))) 524288 (by decide) (by unfold in3 at hn; omega)
  omega
theorem way_near (d : P3) (h : in3 4398046511104 d) (h0 : d ≠ ⟨0, 0, 0⟩) : long3 (short3 d) ≠ ⟨0, 0, 0⟩ ∧ 274877906944 < dotI (long3 (short3 d)) (long3 (short3 d)) ∧
    274877906944 * crI (long3 (short3 d)) d ≤ 3 * (dotI (long3 (short3 d)) (long3 (short3 d)) * dotI d d) ∧ 0 < dotI (long3 (short3 d)) d := by
  have hb := bare3_ne d 0 h0
  have hh := halve3_ne _ hb
  obtain ⟨p1, p2, p3⟩ := long3_short (short3 d) (short3_in d) (short3_ne d h h0)
  obtain ⟨n, hn, x1, x2, y1, y2, z1, z2, hl⟩ := halve3_near (bare3 d)
  obtain ⟨q1, q2⟩ := near_cross (halve3 (bare3 d)) (bare3 d) n hn x1 x2 y1 y2 z1 z2 hb hl
  have hp : Par (long3 (short3 d)) (halve3 (bare3 d)) := by
    have := p1
    rw [short3_eq d h h0] at this ⊢
    exact this.trans (bare3_par _ hh)
  obtain ⟨e1, e2, e3⟩ := bare3_eq d
  have hg := gcd3_pos d h0
  obtain ⟨r1, r2⟩ := par_cross hp (gcd3 d) (by omega) (bare3 d) d e1 e2 e3 q1 q2
  exact ⟨p2, p3, r1, r2⟩
theorem ce3_facts (w : P3) : dotI w w ≤ ce3 w * ce3 w ∧ fl3 w * fl3 w ≤ dotI w w ∧ ce3 w ≤ fl3 w + 1 ∧ 0 ≤ fl3 w ∧ fl3 w ≤ ce3 w := by
  have hn := dotI_nn w
  obtain ⟨h1, h2⟩ := isq_spec (dotI w w).toNat
  have e : ((dotI w w).toNat : Int) = dotI w w := Int.toNat_of_nonneg hn
  have hf : fl3 w = (isq (dotI w w).toNat : Int) := rfl
  have g1 : fl3 w * fl3 w ≤ dotI w w := by rw [hf, ← e]; exact_mod_cast h1
  have g2 : dotI w w < (fl3 w + 1) * (fl3 w + 1) := by rw [hf, ← e]; exact_mod_cast h2
  have g3 : 0 ≤ fl3 w := by rw [hf]; omega
  unfold ce3
  split
  · exact ⟨by omega, g1, by omega, g3, by omega⟩
  · exact ⟨by omega, g1, by omega, g3, by omega⟩
/-- the heart of NarrowBalls -/
theorem ball_bound (w d : P3) (g : Int) (hW : 274877906944 < dotI w w) (hX : 274877906944 * crI w d ≤ 3 * (dotI w w * dotI d d)) (hP : 0 < dotI w d) (hg : g = dotI w d / ce3 w) :
    0 ≤ g ∧ g * g ≤ dotI d d ∧ dotI d d ≤ (g + 2 + g / 65536) * (g + 2 + g / 65536) := by
  obtain ⟨c1, c2, c3, c4, c5⟩ := ce3_facts w
  have hlag := lagI w d
  have hXn := crI_nonneg w d
  generalize dotI w w = W at *
  generalize crI w d = X at *
  generalize dotI w d = P at *
  generalize hD : dotI d d = D at *
  have hDn : 0 ≤ D := by rw [← hD]; exact dotI_nn d
  clear hD
  generalize ce3 w = c at *
  generalize fl3 w = f at *
  have hf : 524288 ≤ f := by
    rcases Int.lt_or_le f 524288 with h | h
    · have h5 : (f + 1) * (f + 1) ≤ 524288 * 524288 := Int.mul_le_mul (by omega) (by omega) (by omega) (by omega)
      have h6 : c * c ≤ (f + 1) * (f + 1) := Int.mul_le_mul c3 c3 (by omega) (by omega)
      omega
    · exact h
  have hc : 0 < c := by omega
  have g0 : 0 ≤ g := by rw [hg]; exact Int.ediv_nonneg (by omega) (by omega)
  have g1 : g * c ≤ P := by rw [hg]; exact Int.ediv_mul_le P (by omega)
  have g2 : P < (g + 1) * c := by rw [hg]; exact Int.lt_ediv_add_one_mul_self P hc
  clear hg
  have hPP : P * P ≤ W * D := by omega
  refine ⟨g0, ?_, ?_⟩
  · have h1 : (g * c) * (g * c) ≤ P * P := Int.mul_le_mul g1 g1 (Int.mul_nonneg g0 (by omega)) (by omega)
    have h2 : W * D ≤ (c * c) * D := Int.mul_le_mul_of_nonneg_right c1 hDn
    have h3 : (g * c) * (g * c) = (c * c) * (g * g) := by grind
    exact Int.le_of_mul_le_mul_left (a := c * c) (by omega) (Int.mul_pos hc hc)
  · -- c² is little more than W
    have h1 : f * 524288 ≤ f * f := Int.mul_le_mul_of_nonneg_left hf c4
    have h2 : c * c ≤ (f + 1) * (f + 1) := Int.mul_le_mul c3 c3 (by omega) (by omega)
    have h3 : (f + 1) * (f + 1) = f * f + 2 * f + 1 := by grind
    have hcc : 274877906944 * (c * c) ≤ 274878955521 * W := by omega
    have h4 : P * P ≤ ((g + 1) * c) * ((g + 1) * c) := Int.mul_le_mul (by omega) (by omega) (by omega) (by omega)
    have h5 : ((g + 1) * c) * ((g + 1) * c) = (g + 1) * (g + 1) * (c * c) := by grind
    have hG : 0 ≤ (g + 1) * (g + 1) := sq_nonneg _
    have h6 : (g + 1) * (g + 1) * (274877906944 * (c * c)) ≤ (g + 1) * (g + 1) * (274878955521 * W) := Int.mul_le_mul_of_nonneg_left hcc hG
    have h7 : (g + 1) * (g + 1) * (274877906944 * (c * c)) = 274877906944 * ((g + 1) * (g + 1) * (c * c)) := by grind
    have h8 : 274877906944 * (W * D) ≤ 274877906944 * ((g + 1) * (g + 1) * (c * c)) + 3 * (W * D) := by omega
    have h9 : W * (274877906941 * D) ≤ W * (274878955521 * ((g + 1) * (g + 1))) := by
      have i1 : W * (274877906941 * D) = 274877906941 * (W * D) := by grind
      have i2 : W * (274878955521 * ((g + 1) * (g + 1))) = (g + 1) * (g + 1) * (274878955521 * W) := by grind
      omega
    have h10 : 274877906941 * D ≤ 274878955521 * ((g + 1) * (g + 1)) := Int.le_of_mul_le_mul_left h9 (by omega)
    have hU : (g + 1) * 65537 ≤ (g + 2 + g / 65536) * 65536 := by omega
    generalize g + 2 + g / 65536 = U at hU ⊢
    have h11 : ((g + 1) * 65537) * ((g + 1) * 65537) ≤ (U * 65536) * (U * 65536) := Int.mul_le_mul hU hU (by omega) (by omega)
    have h12 : ((g + 1) * 65537) * ((g + 1) * 65537) = 4295098369 * ((g + 1) * (g + 1)) := by grind
    have h13 : (U * 65536) * (U * 65536) = 4294967296 * (U * U) := by grind
    have hUU := sq_nonneg U
    omega
end Go.Proofs.Ytckdhahceelckaa.G
namespace Go.Proofs.Ytckdhahceelckaa.G
open Go.RowKit Go.Proofs.YtckdhahceelckaaW.PrintWords
set_option linter.unusedVariables false
theorem apF_inv (a0 : P3) (ar : List P3) (ra : Int) (b0 : P3) (br : List P3) (rb : Int) (l : List P3) :
    ((apF a0 ar ra b0 br rb l).2 = true ∧ (apF a0 ar ra b0 br rb l).1 = (⟨0, 0, 1048576⟩, -ra - rb) ∧ ∀ x ∈ l, long3 x = ⟨0, 0, 0⟩) ∨
    ((apF a0 ar ra b0 br rb l).2 = false ∧ ∃ x ∈ l, long3 x ≠ ⟨0, 0, 0⟩ ∧ ((apF a0 ar ra b0 br rb l).1 = (long3 x, (gapsF (long3 x) a0 ar ra b0 br rb).1) ∨ (apF a0 ar ra b0 br rb l).1 = (minus3 ⟨0, 0, 0⟩ (long3 x), (gapsF (long3 x) a0 ar ra b0 br rb).2))) := by
  have gen : ∀ (k : Nat), k ≤ l.length → ((apF a0 ar ra b0 br rb (l.take k)).2 = true ∧ (apF a0 ar ra b0 br rb (l.take k)).1 = (⟨0, 0, 1048576⟩, -ra - rb) ∧ ∀ x ∈ l.take k, long3 x = ⟨0, 0, 0⟩) ∨
    ((apF a0 ar ra b0 br rb (l.take k)).2 = false ∧ ∃ x ∈ l.take k, long3 x ≠ ⟨0, 0, 0⟩ ∧ ((apF a0 ar ra b0 br rb (l.take k)).1 = (long3 x, (gapsF (long3 x) a0 ar ra b0 br rb).1) ∨ (apF a0 ar ra b0 br rb (l.take k)).1 = (minus3 ⟨0, 0, 0⟩ (long3 x), (gapsF (long3 x) a0 ar ra b0 br rb).2))) := by
    intro k
    induction k with
    | zero => intro _; left; exact ⟨rfl, rfl, by simp⟩
    | succ k ih =>
      intro hk
      have e : l.take (k + 1) = l.take k ++ [l[k]] := by rw [List.take_succ_eq_append_getElem (by omega)]
      rw [e, apF_snoc]
      have ih := ih (by omega)
      generalize apF a0 ar ra b0 br rb (l.take k) = s at ih
      unfold apStep
      by_cases h : long3 l[k] = ⟨0, 0, 0⟩
      · rw [if_pos h]
        rcases ih with ⟨h1, h2, h3⟩ | ⟨h1, x, hx, h2⟩
        · left
          refine ⟨h1, h2, fun x hx => ?_⟩
          rcases List.mem_append.1 hx with hx | hx
          · exact h3 x hx
          · simp at hx; rw [hx]; exact h
        · right; exact ⟨h1, x, List.mem_append_left _ hx, h2⟩
      · rw [if_neg h]
        right
        refine ⟨rfl, ?_⟩
        have hm : l[k] ∈ l.take k ++ [l[k]] := List.mem_append_right _ (List.mem_singleton.2 rfl)
        simp only
        by_cases g2 : (if s.2 = true ∨ s.1.2 < (gapsF (long3 l[k]) a0 ar ra b0 br rb).1 then (long3 l[k], (gapsF (long3 l[k]) a0 ar ra b0 br rb).1) else s.1).2 < (gapsF (long3 l[k]) a0 ar ra b0 br rb).2
        · rw [if_pos g2]; exact ⟨l[k], hm, h, .inr rfl⟩
        · rw [if_neg g2]
          by_cases g1 : s.2 = true ∨ s.1.2 < (gapsF (long3 l[k]) a0 ar ra b0 br rb).1
          · rw [if_pos g1]; exact ⟨l[k], hm, h, .inl rfl⟩
          · rw [if_neg g1]
            rcases ih with ⟨h1, _⟩ | ⟨h1, x, hx, h2⟩
            · exact absurd (.inl h1) g1
            · exact ⟨x, List.mem_append_left _ hx, h2⟩
  have := gen l.length (Nat.le_refl _)
  rwa [List.take_length] at this
theorem gapV_bd (s up down ra rb : Int) (hs : -1125899906842624 ≤ s ∧ s ≤ 1125899906842624) (hd : 1 ≤ down) (hu : 1 ≤ up) (hra : 0 ≤ ra ∧ ra ≤ 131072) (hrb : 0 ≤ rb ∧ rb ≤ 131072) : -2251799813685248 ≤ gapV s up down ra rb ∧ gapV s up down ra rb ≤ 2251799813685248 := by
  unfold gapV
  split
  · have h1 := Int.ediv_nonneg (show 0 ≤ s by omega) (show 0 ≤ up by omega)
    have h2 := Int.ediv_le_self up (show 0 ≤ s by omega)
    omega
  · have h1 := Int.ediv_nonneg (show 0 ≤ -s + down - 1 by omega) (show 0 ≤ down by omega)
    have h2 : (-s + down - 1) / down ≤ -s := by
      apply Int.le_of_lt_add_one
      apply Int.ediv_lt_of_lt_mul (by omega)
      have : (-s + 1) * down = -s * (down - 1) + -s + down := by grind
      have := Int.mul_nonneg (show 0 ≤ -s by omega) (show 0 ≤ down - 1 by omega)
      omega
    omega
theorem reach_bd {n p0 : P3} {r : List P3} (hn : in3 1048576 n) (h : ∀ p ∈ p0 :: r, in3 16777216 p) : -52776558133248 ≤ (reachF n p0 r).1 ∧ (reachF n p0 r).1 ≤ 52776558133248 ∧ -52776558133248 ≤ (reachF n p0 r).2 ∧ (reachF n p0 r).2 ≤ 52776558133248 := by
  have each : ∀ p, in3 16777216 p → -52776558133248 ≤ dot3 n p ∧ dot3 n p ≤ 52776558133248 := by
    intro p hp
    rw [dot3_eq n p 1048576 16777216 hn hp (by decide)]
    have := dotI_bd n p 1048576 16777216 hn hp
    omega
  exact reachF_bd n p0 r 52776558133248 (each p0 (h p0 (by simp))) fun p hp => each p (h p (by simp [hp]))
theorem gapsF_bd {n a0 b0 : P3} {ar br : List P3} {ra rb : Int} (hn : in3 1048576 n) (h0 : n ≠ ⟨0, 0, 0⟩) (ha : ∀ p ∈ a0 :: ar, in3 16777216 p) (hb : ∀ p ∈ b0 :: br, in3 16777216 p) (hra : 0 ≤ ra ∧ ra ≤ 131072) (hrb : 0 ≤ rb ∧ rb ≤ 131072) :
    (-2251799813685248 ≤ (gapsF n a0 ar ra b0 br rb).1 ∧ (gapsF n a0 ar ra b0 br rb).1 ≤ 2251799813685248) ∧ -2251799813685248 ≤ (gapsF n a0 ar ra b0 br rb).2 ∧ (gapsF n a0 ar ra b0 br rb).2 ≤ 2251799813685248 := by
  have h1 := reach_bd hn ha
  have h2 := reach_bd hn hb
  have h3 := fl3_pos n h0
  have h4 := ce3_bd n
  unfold gapsF
  exact ⟨gapV_bd _ _ _ _ _ (by omega) h3 (by omega) hra hrb, gapV_bd _ _ _ _ _ (by omega) h3 (by omega) hra hrb⟩
theorem far_in {n : Int} (h0 : 0 ≤ n) (h1 : n ≤ 9223372036854775807) {l : List P3} (h : l.any (far3 n) = false) : ∀ x ∈ l, in3 n x := by
  intro x hx
  rw [List.any_eq_false] at h
  have := h x hx
  exact (far3_iff n x h0 h1).1 (by simpa using this)
theorem MayP.pts {p a e : List P3} {r : Int} (m : MayP p a e r) : ∃ p0 pr, p = p0 :: pr ∧ ∀ x ∈ p0 :: pr, in3 16777216 x := by
  obtain ⟨p0, pr, rfl⟩ := List.exists_cons_of_ne_nil m.p0
  exact ⟨p0, pr, rfl, far_in (by decide) (by decide) m.pf⟩
theorem apartF_bd {p a e : List P3} {r : Int} {q b f : List P3} {s : Int} (m : MayP p a e r) (k : MayP q b f s) : -2251799813685248 ≤ (apartF p a e r q b f s).2 ∧ (apartF p a e r q b f s).2 ≤ 2251799813685248 := by
  obtain ⟨p0, pr, rfl, hp⟩ := m.pts
  obtain ⟨q0, qr, rfl, hq⟩ := k.pts
  have m0 := m.r0
  have m1 := m.r1
  have k0 := k.r0
  have k1 := k.r1
  unfold apartF
  simp only [List.headD_cons, List.tail_cons]
  rcases apF_inv p0 pr r q0 qr s (rawC (p0 :: pr) a e (q0 :: qr) b f) with ⟨_, h, _⟩ | ⟨_, x, _, h0, h | h⟩
  · rw [h]; simp only; omega
  · rw [h]; exact (gapsF_bd (long3_in x) h0 hp hq (by omega) (by omega)).1
  · rw [h]; exact (gapsF_bd (long3_in x) h0 hp hq (by omega) (by omega)).2
end Go.Proofs.Ytckdhahceelckaa.G
namespace Go.Proofs.Ytckdhahceelckaa.G
open Go.RowKit Go.Proofs.YtckdhahceelckaaW.PrintWords Go.Proofs.YtckdhahceelckaaW.PrintLast Go.Proofs.YtckdhahceelckaaW.PrintMore
attribute [local go_sem] max2_mx min2_mn max_two min_two max_three min_three max_four min_four
attribute [local go_sem high] eqA23
set_option linter.unusedVariables false
set_option linter.unusedSimpArgs false
theorem farF_reach (n p0 : P3) (r : List P3) : farF n p0 r = (reachF n p0 r).2 := by
  have gen : ∀ (l : List P3) (s : Int × Int), l.foldl (fstep n) s.2 = (l.foldl (rstep n) s).2 := by
    intro l
    induction l with
    | nil => intro s; rfl
    | cons p l ih => intro s; rw [List.foldl_cons, List.foldl_cons]; exact ih (rstep n s p)
  exact gen r (dot3 n p0, dot3 n p0)
theorem dot3_neg (n p : P3) (hn : in3 1048576 n) (hp : in3 16777216 p) : dot3 ⟨-n.x, -n.y, -n.z⟩ p = -dot3 n p := by
  have hn' : in3 1048576 (⟨-n.x, -n.y, -n.z⟩ : P3) := by unfold in3 at *; simp only; omega
  rw [dot3_eq n p 1048576 16777216 hn hp (by decide), dot3_eq _ p 1048576 16777216 hn' hp (by decide)]
  unfold dotI
  simp only [Int.neg_mul]
  omega
theorem farF_neg (n p0 : P3) (r : List P3) (hn : in3 1048576 n) (hp : ∀ p ∈ p0 :: r, in3 16777216 p) : farF ⟨-n.x, -n.y, -n.z⟩ p0 r = -(reachF n p0 r).1 := by
  have gen : ∀ (l : List P3) (s : Int × Int), (∀ p ∈ l, in3 16777216 p) → l.foldl (fstep ⟨-n.x, -n.y, -n.z⟩) (-s.1) = -(l.foldl (rstep n) s).1 := by
    intro l
    induction l with
    | nil => intro s _; rfl
    | cons p l ih =>
      intro s h
      rw [List.foldl_cons, List.foldl_cons]
      have e : fstep ⟨-n.x, -n.y, -n.z⟩ (-s.1) p = -(rstep n s p).1 := by
        unfold fstep rstep
        rw [dot3_neg n p hn (h p (by simp))]
        unfold mx mn
        simp only
        split <;> split <;> omega
      rw [e]
      exact ih _ fun q hq => h q (by simp [hq])
  unfold farF reachF
  rw [dot3_neg n p0 hn (hp p0 (by simp))]
  exact gen r (dot3 n p0, dot3 n p0) fun q hq => hp q (by simp [hq])
set_option maxHeartbeats 4000000 in
set_option maxRecDepth 100000 in
theorem rgap_calls (p0 : P3) (pr : List P3) (ra : Int) (q0 : P3) (qr : List P3) (rb : Int) (A0 A1 A2 B0 B1 B2 : Option Addr) (n1 n2 m1 m2 c0 c1 c2 d0 d1 d2 : Nat) (n : P3) (w : World)
    (hA : RdB w A0 (p0 :: pr)) (hB : RdB w B0 (q0 :: qr)) (hla : pr.length < 1000) (hlb : qr.length < 1000) (hn : in3 1048576 n) (h0 : n ≠ ⟨0, 0, 0⟩)
    (hp : ∀ x ∈ p0 :: pr, in3 16777216 x) (hq : ∀ x ∈ q0 :: qr, in3 16777216 x) (ra0 : 0 ≤ ra) (ra1 : ra ≤ 65536) (rb0 : 0 ≤ rb) (rb1 : rb ≤ 65536) (g : Int) (hg : (gapsF n p0 pr ra q0 qr rb).1 = g) :
    Calls Try.prog 64 #[.agg #[.slice A0 (pr.length + 1) c0, .slice A1 n1 c1, .slice A2 n2 c2, .int .i64 ra], .agg #[.slice B0 (qr.length + 1) d0, .slice B1 m1 d1, .slice B2 m2 d2, .int .i64 rb], aP n] w
      fun e w' => e = .returned (.int .i64 g) ∧ Below w.heap.size w w' := by
  have h1 := reach_bd hn hp
  have h2 := reach_bd hn hq
  have hf := fl3_pos n h0
  have hf2 := fl3_le n hn
  have hc := ce3_bd n
  have hs : sz3 n = (fl3 n, ce3 n) := by unfold sz3; rw [(far3_iff _ n (by decide) (by decide)).2 (in3_le (by decide) hn)]; rfl
  have HF := Lib.hid (fun W (hW : RdB W A0 (p0 :: pr)) => farthest_calls p0 pr A0 c0 n W hW (by omega))
  have HG := Lib.hid (fun W (hW : RdB W B0 (q0 :: qr)) => farthest_calls q0 qr B0 d0 ⟨-n.x, -n.y, -n.z⟩ W hW (by omega))
  have HS := Lib.hid (fun W => rsizes_calls n W)
  rw [farF_reach] at HF
  rw [farF_neg n q0 qr hn hq] at HG
  rw [hs] at HS
  unfold gapsF at hg
  simp only at hg
  obtain ⟨hi, hhi⟩ : ∃ x, (reachF n p0 pr).2 = x := ⟨_, rfl⟩
  obtain ⟨lo, hlo⟩ : ∃ x, (reachF n q0 qr).1 = x := ⟨_, rfl⟩
  rw [hhi] at HF h1 hg
  rw [hlo] at HG h2 hg
  obtain ⟨fl, hfl⟩ : ∃ x, fl3 n = x := ⟨_, rfl⟩
  obtain ⟨ce, hce⟩ : ∃ x, ce3 n = x := ⟨_, rfl⟩
  rw [hfl] at hf hf2 hc HS hg
  rw [hce] at hc HS hg
  simp only at HS
  have HA := Lib.hid hA
  have HB := Lib.hid hB
  obtain ⟨N0, hN0⟩ : ∃ k, pr.length + 1 = k := ⟨_, rfl⟩
  obtain ⟨M0, hM0⟩ : ∃ k, qr.length + 1 = k := ⟨_, rfl⟩
  rw [hN0] at HF ⊢
  rw [hM0] at HG ⊢
  obtain ⟨nx, ny, nz⟩ := n
  obtain ⟨i1, i2, i3, i4, i5, i6⟩ := hn
  simp only at i1 i2 i3 i4 i5 i6
  have e1 : wrap64 (-nx) = -nx := by unfold wrap64; omega
  have e2 : wrap64 (-ny) = -ny := by unfold wrap64; omega
  have e3 : wrap64 (-nz) = -nz := by unfold wrap64; omega
  have e4 : IntKind.i64.wrap (-nx) = -nx := iw_id _ (by omega) (by omega)
  have e5 : IntKind.i64.wrap (-ny) = -ny := iw_id _ (by omega) (by omega)
  have e6 : IntKind.i64.wrap (-nz) = -nz := iw_id _ (by omega) (by omega)
  have e7 : IntKind.i64.wrap lo = lo := iw_id _ (by omega) (by omega)
  obtain ⟨s, hss⟩ : ∃ s, lo - hi = s := ⟨_, rfl⟩
  have e8 : IntKind.i64.wrap (lo - hi) = s := by rw [← hss]; exact iw_id _ (by omega) (by omega)
  have e9 : wrap64 (lo - hi) = s := by rw [← hss]; unfold wrap64; omega
  have hs1 : -1125899906842624 ≤ s ∧ s ≤ 1125899906842624 := by omega
  rw [hss] at hg
  have E9 := Lib.hid e9
  clear hA hB hs hhi hlo hfl hce hN0 hM0 hp hq h0 hss h1 h2
  have z0 := three0 w (.cells #[.slice A0 N0 c0, .slice A1 n1 c1, .slice A2 n2 c2, .int .i64 ra] 36) (.cells #[.slice B0 M0 d0, .slice B1 m1 d1, .slice B2 m2 d2, .int .i64 rb] 36) (.cells #[.int .i64 nx, .int .i64 ny, .int .i64 nz] 23)
  have z1 := three1 w (.cells #[.slice A0 N0 c0, .slice A1 n1 c1, .slice A2 n2 c2, .int .i64 ra] 36) (.cells #[.slice B0 M0 d0, .slice B1 m1 d1, .slice B2 m2 d2, .int .i64 rb] 36) (.cells #[.int .i64 nx, .int .i64 ny, .int .i64 nz] 23)
  have z2 := three2 w (.cells #[.slice A0 N0 c0, .slice A1 n1 c1, .slice A2 n2 c2, .int .i64 ra] 36) (.cells #[.slice B0 M0 d0, .slice B1 m1 d1, .slice B2 m2 d2, .int .i64 rb] 36) (.cells #[.int .i64 nx, .int .i64 ny, .int .i64 nz] 23)
  have zb := Go.Joins.below_alloc3 w (.cells #[.slice A0 N0 c0, .slice A1 n1 c1, .slice A2 n2 c2, .int .i64 ra] 36) (.cells #[.slice B0 M0 d0, .slice B1 m1 d1, .slice B2 m2 d2, .int .i64 rb] 36) (.cells #[.int .i64 nx, .int .i64 ny, .int .i64 nz] 23)
  obtain ⟨w1, hw1⟩ : ∃ V, ((w.alloc (.cells #[.slice A0 N0 c0, .slice A1 n1 c1, .slice A2 n2 c2, .int .i64 ra] 36)).alloc (.cells #[.slice B0 M0 d0, .slice B1 m1 d1, .slice B2 m2 d2, .int .i64 rb] 36)).alloc (.cells #[.int .i64 nx, .int .i64 ny, .int .i64 nz] 23) = V := ⟨_, rfl⟩
  rw [hw1] at z0 z1 z2 zb
  have hw1' := Lib.hid hw1
  have Z0 := Lib.hid z0
  have Z1 := Lib.hid z1
  have Z2 := Lib.hid z2
  have ZB := Lib.hid zb
  clear hw1 z0 z1 z2 zb
  go_enter Try.func64, Try.ntmps64
  go_wp2_with fail
  rw [hw1'.out]
  refine (HF.out w1 (HA.out.below ZB.out)).mono ?_
  rintro e w2 ⟨rfl, hb⟩
  have ZB2 := Lib.hid (bthen ZB.out hb)
  have Y1 := Lib.hid ((hb.block _ (blk_lt Z1.out)).trans Z1.out)
  have Y2 := Lib.hid ((hb.block _ (blk_lt Z2.out)).trans Z2.out)
  have Y0 := Lib.hid ((hb.block _ (blk_lt Z0.out)).trans Z0.out)
  have x0 : w2.cell? ⟨w.heap.size + 1, 0, none⟩ = some (.slice B0 M0 d0) := (blk_cell Y1.out 0).trans rfl
  have y0 : w2.cell? ⟨w.heap.size + 2, 0, none⟩ = some (.int .i64 nx) := (blk_cell Y2.out 0).trans rfl
  have y1 : w2.cell? ⟨w.heap.size + 2, 1, none⟩ = some (.int .i64 ny) := (blk_cell Y2.out 1).trans rfl
  have y2 : w2.cell? ⟨w.heap.size + 2, 2, none⟩ = some (.int .i64 nz) := (blk_cell Y2.out 2).trans rfl
  have l0 : w.heap.size < w2.heap.size := blk_lt Y0.out
  have l1 : w.heap.size + 1 < w2.heap.size := blk_lt Y1.out
  have l2 : w.heap.size + 2 < w2.heap.size := blk_lt Y2.out
  clear hb
  go_wp2_with fail
  refine (HG.out w2 (HB.out.below ZB2.out)).mono ?_
  rintro e w3 ⟨rfl, hb⟩
  have ZB3 := Lib.hid (bthen ZB2.out hb)
  have X0 := Lib.hid ((hb.block _ (blk_lt Y0.out)).trans Y0.out)
  have X1 := Lib.hid ((hb.block _ (blk_lt Y1.out)).trans Y1.out)
  have X2 := Lib.hid ((hb.block _ (blk_lt Y2.out)).trans Y2.out)
  clear x0 y0 y1 y2 l0 l1 l2 hb
  have y0 : w3.cell? ⟨w.heap.size + 2, 0, none⟩ = some (.int .i64 nx) := (blk_cell X2.out 0).trans rfl
  have y1 : w3.cell? ⟨w.heap.size + 2, 1, none⟩ = some (.int .i64 ny) := (blk_cell X2.out 1).trans rfl
  have y2 : w3.cell? ⟨w.heap.size + 2, 2, none⟩ = some (.int .i64 nz) := (blk_cell X2.out 2).trans rfl
  have l2 : w.heap.size + 2 < w3.heap.size := blk_lt X2.out
  go_wp2_with fail
  refine (HS.out w3).mono ?_
  rintro e w4 ⟨rfl, hb⟩
  have ZB4 := Lib.hid (bthen ZB3.out hb)
  have V0 := Lib.hid ((hb.block _ (blk_lt X0.out)).trans X0.out)
  have V1 := Lib.hid ((hb.block _ (blk_lt X1.out)).trans X1.out)
  clear y0 y1 y2 l2 hb e1 e2 e3 e4 e5 e6 e7
  have x3 : w4.cell? ⟨w.heap.size, 3, none⟩ = some (.int .i64 ra) := (blk_cell V0.out 3).trans rfl
  have y3 : w4.cell? ⟨w.heap.size + 1, 3, none⟩ = some (.int .i64 rb) := (blk_cell V1.out 3).trans rfl
  have l0 : w.heap.size < w4.heap.size := blk_lt V0.out
  have l1 : w.heap.size + 1 < w4.heap.size := blk_lt V1.out
  have c1 : (ce == 0) = false := by simp; omega
  have c2 : (fl == 0) = false := by simp; omega
  by_cases hs0 : 0 ≤ s
  · have hv : gapV s ce fl ra rb = s / ce - ra - rb := if_pos hs0
    rw [hv] at hg
    have q1 : 0 ≤ s / ce := Int.ediv_nonneg hs0 (by omega)
    have q2 : s / ce ≤ s := Int.ediv_le_self _ hs0
    have t1 : IntKind.i64.wrap (s.tdiv ce) = s / ce := by rw [Int.tdiv_eq_ediv_of_nonneg hs0]; exact iw_id _ (by omega) (by omega)
    have t2 : IntKind.i64.wrap (s / ce - ra) = s / ce - ra := iw_id _ (by omega) (by omega)
    have t3 : IntKind.i64.wrap (s / ce - ra - rb) = s / ce - ra - rb := iw_id _ (by omega) (by omega)
    have HG2 := Lib.hid hg
    clear hv hg
    go_wp2
    go_quiet (fail)
    go_wp2
    go_ret
    exact ⟨by rw [← HG2.out]; rfl, pw_below_drewN ZB4.out _⟩
  · have hv : gapV s ce fl ra rb = -((-s + fl - 1) / fl) - ra - rb := if_neg hs0
    rw [hv] at hg
    have q0 : 0 ≤ -s + fl - 1 := by omega
    have q1 : 0 ≤ (-s + fl - 1) / fl := Int.ediv_nonneg q0 (by omega)
    have q2 : (-s + fl - 1) / fl ≤ -s + fl - 1 := Int.ediv_le_self _ q0
    have t0 : IntKind.i64.wrap (-s) = -s := iw_id _ (by omega) (by omega)
    have t0' : IntKind.i64.wrap (-s + fl) = -s + fl := iw_id _ (by omega) (by omega)
    have t0'' : IntKind.i64.wrap (-s + fl - 1) = -s + fl - 1 := iw_id _ (by omega) (by omega)
    have t1 : IntKind.i64.wrap ((-s + fl - 1).tdiv fl) = (-s + fl - 1) / fl := by rw [Int.tdiv_eq_ediv_of_nonneg q0]; exact iw_id _ (by omega) (by omega)
    have t1' : IntKind.i64.wrap (-((-s + fl - 1) / fl)) = -((-s + fl - 1) / fl) := iw_id _ (by omega) (by omega)
    have t2 : IntKind.i64.wrap (-((-s + fl - 1) / fl) - ra) = -((-s + fl - 1) / fl) - ra := iw_id _ (by omega) (by omega)
    have t3 : IntKind.i64.wrap (-((-s + fl - 1) / fl) - ra - rb) = -((-s + fl - 1) / fl) - ra - rb := iw_id _ (by omega) (by omega)
    have hs' : decide (0 ≤ s) = false := by simpa using hs0
    have hs3 : s < 0 := by omega
    have HG2 := Lib.hid hg
    clear hv hg hs0
    go_wp2
    go_quiet (fail)
    go_wp2
    go_ret
    exact ⟨by rw [← HG2.out]; rfl, pw_below_drewN ZB4.out _⟩
end Go.Proofs.Ytckdhahceelckaa.G
namespace Go.Proofs.Ytckdhahceelckaa.G
open Go.RowKit Go.Proofs.YtckdhahceelckaaW.PrintWords Go.Proofs.YtckdhahceelckaaW.PrintLast Go.Proofs.YtckdhahceelckaaW.PrintMore
attribute [local go_sem] max2_mx min2_mn max_two min_two max_three min_three max_four min_four
attribute [local go_sem high] eqA23
set_option linter.unusedVariables false
set_option linter.unusedSimpArgs false
set_option maxHeartbeats 1000000 in
theorem rcross_calls (a b : P3) (w : World) :
    Calls Try.prog 82 #[aP a, aP b] w fun e w' => e = .returned (aP (cross3 a b)) ∧ Below w.heap.size w w' := by
  obtain ⟨x, y, z⟩ := a
  obtain ⟨a, b, c⟩ := b
  go_enter Try.func82, Try.ntmps82
  go_wp2
  exact bodyPost_ret (v := .agg #[.int .i64 (cross3 ⟨x, y, z⟩ ⟨a, b, c⟩).x, .int .i64 (cross3 ⟨x, y, z⟩ ⟨a, b, c⟩).y, .int .i64 (cross3 ⟨x, y, z⟩ ⟨a, b, c⟩).z]) (by simp [results, Try.results82, go_sem, cross3]) rfl ⟨rfl, (by repeat (first | exact Below.refl _ _ | refine Below.setCell ?_ (by simp <;> omega) _ | refine Below.alloc ?_ (by simp <;> omega) _ | refine Below.drew ?_))⟩
/-- the greatest divisor of some numbers -/
def gcdL (l : List Nat) : Nat := l.foldl Nat.gcd 0
theorem gcdL_snoc (l : List Nat) (k : Nat) (h : k < l.length) : gcdL (l.take (k + 1)) = Nat.gcd (gcdL (l.take k)) l[k] := by
  unfold gcdL; rw [List.take_succ_eq_append_getElem h, List.foldl_append]; rfl
theorem gcdL3 (p : P3) : (gcdL [p.x.natAbs, p.y.natAbs, p.z.natAbs] : Int) = gcd3 p := by
  unfold gcdL gcd3
  simp only [List.foldl_cons, List.foldl_nil, Nat.gcd_zero_left]
  rw [Int.gcd, Int.gcd]; simp
theorem gcd_le2 (a b B : Nat) (ha : a ≤ B) (hb : b ≤ B) : Nat.gcd a b ≤ B := by
  by_cases h : a = 0
  · subst h; simpa using hb
  · exact Nat.le_trans (Nat.le_of_dvd (by omega) (Nat.gcd_dvd_left a b)) ha
theorem gcdL_le (l : List Nat) (B : Nat) (h : ∀ x ∈ l, x ≤ B) : gcdL l ≤ B := by
  have gen : ∀ (l : List Nat) (g : Nat), g ≤ B → (∀ x ∈ l, x ≤ B) → l.foldl Nat.gcd g ≤ B := by
    intro l
    induction l with
    | nil => intro g hg _; exact hg
    | cons x l ih => intro g hg hx; exact ih _ (gcd_le2 g x B hg (hx x (.head _))) (fun y hy => hx y (.tail _ hy))
  exact gen l 0 (Nat.zero_le _) h
theorem bare3_zero : bare3 ⟨0, 0, 0⟩ = ⟨0, 0, 0⟩ := by decide +kernel
set_option maxHeartbeats 4000000 in
set_option maxRecDepth 100000 in
theorem rbare_calls (p : P3) (w : World) (hp : in3 4398046511104 p) :
    Calls Try.prog 130 #[aP p] w fun e w' => e = .returned (aP (bare3 p)) ∧ Below w.heap.size w w' := by
  have HG3 := Lib.hid (gcdL3 p)
  have HZ : Hid (gcd3 p = 0 → bare3 p = p) := Lib.hid (fun h => by
    by_cases e : p = ⟨0, 0, 0⟩
    · rw [e]; exact bare3_zero
    · have := gcd3_pos p e; omega)
  have HD : Hid (bare3 p = ⟨p.x.tdiv (gcd3 p), p.y.tdiv (gcd3 p), p.z.tdiv (gcd3 p)⟩) := Lib.hid rfl
  obtain ⟨x, y, z⟩ := p
  obtain ⟨a1, a2, a3, a4, a5, a6⟩ := hp
  simp only at a1 a2 a3 a4 a5 a6
  have sx := Lib.hid (size5_calls x (by omega) (by omega))
  have sy := Lib.hid (size5_calls y (by omega) (by omega))
  have sz := Lib.hid (size5_calls z (by omega) (by omega))
  have LB : Hid (∀ q ∈ [x.natAbs, y.natAbs, z.natAbs], q ≤ 4398046511104) := Lib.hid (by intro q hq; simp at hq; rcases hq with rfl | rfl | rfl <;> omega)
  have TX := Lib.hid (fun n => iw_tdiv x n (by omega) (by omega))
  have TY := Lib.hid (fun n => iw_tdiv y n (by omega) (by omega))
  have TZ := Lib.hid (fun n => iw_tdiv z n (by omega) (by omega))
  simp only at HG3
  obtain ⟨X, hX⟩ : ∃ X, x.natAbs = X := ⟨_, rfl⟩
  obtain ⟨Y, hY⟩ : ∃ X, y.natAbs = X := ⟨_, rfl⟩
  obtain ⟨Z, hZ⟩ : ∃ X, z.natAbs = X := ⟨_, rfl⟩
  rw [hX] at sx HG3 LB
  rw [hY] at sy HG3 LB
  rw [hZ] at sz HG3 LB
  clear hX hY hZ a1 a2 a3 a4 a5 a6
  go_enter Try.func130, Try.ntmps130
  go_wp2_with fail
  obtain ⟨w1, hw1⟩ : ∃ w1, (w.alloc (.cells #[.int .i64 x, .int .i64 y, .int .i64 z] 23)).alloc (.cells #[.int .i64 0, .int .i64 0, .int .i64 0] 23) = w1 := ⟨_, rfl⟩
  have P1 : Hid (C3 w1 w.heap.size (.int .i64 x) (.int .i64 y) (.int .i64 z)) := Lib.hid (by rw [← hw1]; exact (C3.new w _ _ _ _).alloc _)
  have R1 : Hid (w1.heap[w.heap.size + 1]? = some (.cells #[.int .i64 0, .int .i64 0, .int .i64 0] 23 (0, 0))) := Lib.hid (by rw [← hw1]; have h := heap_alloc_new (w.alloc (.cells #[.int .i64 x, .int .i64 y, .int .i64 z] 23)) (.cells #[.int .i64 0, .int .i64 0, .int .i64 0] 23); rw [World.size_alloc] at h; exact h)
  have HW1 := Lib.hid (show Below w.heap.size w w1 by rw [← hw1]; exact ((Below.refl _ w).alloc (Nat.le_refl _) _).alloc (by simp) _)
  have lt1 : w.heap.size + 1 < w1.heap.size := by rw [← hw1]; simp
  have lt0 : w.heap.size < w1.heap.size := by omega
  rw [hw1]
  clear hw1
  obtain ⟨c0, c1, c2, _, _, _⟩ := P1.out
  have HB := Lib.hid ((Below.refl (w1.heap.size) w1).drew)
  have FF := Lib.hid (show ∀ V, Hid (Below (w1.heap.size) w1 V) → V.cell? ⟨w.heap.size, 0, none⟩ = some (.int .i64 x) ∧ V.cell? ⟨w.heap.size, 1, none⟩ = some (.int .i64 y) ∧ V.cell? ⟨w.heap.size, 2, none⟩ = some (.int .i64 z) from fun V HB => ⟨(HB.out.cell (p := ⟨w.heap.size, 0, none⟩) (lt0)).trans c0, (HB.out.cell (p := ⟨w.heap.size, 1, none⟩) (lt0)).trans c1, (HB.out.cell (p := ⟨w.heap.size, 2, none⟩) (lt0)).trans c2⟩)
  refine start_ (n := 11) (S := fun w' => w'.cell? ⟨w.heap.size, 0, none⟩ = some (.int .i64 x) ∧ w'.cell? ⟨w.heap.size, 1, none⟩ = some (.int .i64 y) ∧ w'.cell? ⟨w.heap.size, 2, none⟩ = some (.int .i64 z)) (ds := []) (MT 0 11) (by kernel_rfl) rfl rfl (FF.out _ HB) (fun hHeld => ?_)
  obtain ⟨wd, hwd⟩ : ∃ x, w1.drew = x := ⟨_, rfl⟩
  rw [hwd] at HB hHeld ⊢
  clear hwd
  refine pu_ 0 9 (h := ?_)
  refine pu_ 3 12 (h := ?_)
  refine pu_ 6 15 (h := ?_)
  refine ta_ 1 10 hHeld (h := ?_)
  refine ta_ 4 13 hHeld (h := ?_)
  refine ta_ 7 16 hHeld (h := ?_)
  refine on_ 2 (some 11) (h := fun K hK => ?_)
  refine goes_ Try.func131 (by kernel_rfl) rfl #[.int .i64 x] (by rfl) rfl rfl (by simp only [List.map_toArray, List.map_cons, List.map_nil]; rfl) ?_
  with_reducible refine (sx.out _).mono ?_
  rintro e w3 ⟨rfl, rfl⟩
  refine ⟨_, rfl, ?_⟩
  refine hK.out _ _ (FF.out _ HB) (fun hHeld => ?_)
  clear hK K
  refine no_ (h := ?_)
  refine on_ 5 (some 14) (h := fun K hK => ?_)
  refine goes_ Try.func131 (by kernel_rfl) rfl #[.int .i64 y] (by rfl) rfl rfl (by simp only [List.map_toArray, List.map_cons, List.map_nil]; rfl) ?_
  with_reducible refine (sy.out _).mono ?_
  rintro e w3 ⟨rfl, rfl⟩
  refine ⟨_, rfl, ?_⟩
  refine hK.out _ _ (FF.out _ HB) (fun hHeld => ?_)
  clear hK K
  refine no_ (h := ?_)
  refine on_ 8 (some 17) (h := fun K hK => ?_)
  refine goes_ Try.func131 (by kernel_rfl) rfl #[.int .i64 z] (by rfl) rfl rfl (by simp only [List.map_toArray, List.map_cons, List.map_nil]; rfl) ?_
  with_reducible refine (sz.out _).mono ?_
  rintro e w3 ⟨rfl, rfl⟩
  refine ⟨_, rfl, ?_⟩
  refine hK.out _ _ (FF.out _ HB) (fun hHeld => ?_)
  clear hK K
  refine no_ (h := ?_)
  refine on_ 9 (some 18) (h := fun K hK => ?_)
  refine value_ (w1 := ?_) (v := ?_) (by rfl) rfl ?_ ?_
  rotate_left 2
  · go_simp
    constructor
    · rfl
    · rfl
  have HA := Lib.hid (ha_new HB.out (.cells #[.int .i64 (X : Int), .int .i64 (Y : Int), .int .i64 (Z : Int)] 3))
  have hge := HB.out.size
  have HB := Lib.hid (HB.out.alloc (Nat.le_trans (Nat.le_refl _) HB.out.size) (.cells #[.int .i64 (X : Int), .int .i64 (Y : Int), .int .i64 (Z : Int)] 3))
  refine hK.out _ _ (FF.out _ HB) (fun hHeld => ?_)
  clear hK K
  refine no_ (h := ?_)
  refine pu_ 10 4 (h := ?_)
  refine done_ (by kernel_rfl) ?_
  have P2 := Lib.hid (P1.out.below HB.out)
  have R2 := Lib.hid ((HB.out.block _ lt1).trans R1.out)
  have HW2 := Lib.hid (HW1.out.trans (HB.out.mono (by omega)))
  have RI2 := Lib.hid (RdI.of3 HA.out)
  obtain ⟨AB, hAB⟩ : ∃ AB, w3.heap.size = AB := ⟨_, rfl⟩
  have lz : w1.heap.size ≤ AB := by rw [← hAB]; exact hge
  rw [hAB] at RI2 ⊢
  obtain ⟨w4, hw4⟩ : ∃ w4, w3.alloc (.cells #[.int .i64 X, .int .i64 Y, .int .i64 Z] 3) = w4 := ⟨_, rfl⟩
  rw [hw4] at P2 R2 HW2 RI2 ⊢
  clear hHeld HB HA hge c0 c1 c2 P1 R1 HW1 hAB hw4
  obtain ⟨N, hN⟩ : ∃ N : List Nat, [X, Y, Z] = N := ⟨_, rfl⟩
  have hNI : [(X : Int), (Y : Int), (Z : Int)] = N.map Int.ofNat := by rw [← hN]; rfl
  rw [hNI] at RI2
  have hN3 : N.length = 3 := by rw [← hN]; rfl
  rw [hN] at HG3 LB
  have HN3 := Lib.hid hN3
  clear hNI hN hN3
  go_wp2
  go_loopw [3, 5, 6, 7, 8] (fun v3 v5 v6 v7 v8 wr => ∃ k : Nat, k ≤ 3 ∧ v5 = .int .i64 k ∧ v3 = .int .i64 (gcdL (N.take k)) ∧ Hid (wr = w4)) (fun _ i _ _ _ _ => 3 - (intOf i).toNat)
  case atStart => exact ⟨0, by omega, rfl, rfl, Lib.hid rfl⟩
  case round =>
    obtain ⟨k, hk, rfl, rfl, hwr⟩ := hrel
    have hwr' := hwr.out
    subst hwr'
    by_cases hlt : k < 3
    · have hlN : k < N.length := by rw [HN3.out]; exact hlt
      have hc : wr.cell? ⟨AB, 0 + k, none⟩ = some (.int .i64 (N[k] : Int)) := by
        obtain ⟨b, o, e, _, h⟩ := RI2.out.get k (by rw [List.length_map]; exact hlN)
        simp only [Option.some.injEq, Addr.mk.injEq, and_true] at e
        obtain ⟨rfl, rfl⟩ := e
        rw [List.getElem_map] at h
        exact h
      rw [Nat.zero_add] at hc
      have hS := Lib.hid (gcdL_snoc N k hlN)
      have b1 : N[k] ≤ 4398046511104 := LB.out _ (List.getElem_mem _)
      have b2 : gcdL (N.take k) ≤ 4398046511104 := gcdL_le _ _ (fun q hq => LB.out q (List.mem_of_mem_take hq))
      obtain ⟨M, hM⟩ : ∃ M, N[k] = M := ⟨_, rfl⟩
      obtain ⟨g, hg⟩ : ∃ g, gcdL (N.take k) = g := ⟨_, rfl⟩
      rw [hM] at hc hS b1
      rw [hg] at hS b2 ⊢
      clear hM hg
      obtain ⟨wo, hwo⟩ : ∃ wo : World, wo = wr := ⟨_, rfl⟩
      subst hwo
      go_wp2
      go_loopw [6, 7, 8] (fun v6 v7 v8 wr => ∃ a b : Nat, v6 = .int .i64 a ∧ v7 = .int .i64 b ∧ a ≤ 4398046511104 ∧ b ≤ 4398046511104 ∧ Hid (Nat.gcd a b = Nat.gcd g M) ∧ Hid (wr = wo)) (fun _ b _ _ => (intOf b).toNat)
      case atStart => exact ⟨g, M, rfl, rfl, b2, b1, Lib.hid rfl, Lib.hid rfl⟩
      case round =>
        clear hc b1 b2
        obtain ⟨a, b, rfl, rfl, h1, h2, h3, hw'⟩ := hrel
        have hw'' := hw'.out
        subst hw''
        by_cases hb : b = 0
        · subst hb
          have t0 : ((0 : Int) != 0) = false := rfl
          have hE : Hid (gcdL (N.take (k + 1)) = a) := Lib.hid (by rw [hS.out, ← h3.out]; simp)
          go_wp2
          go_roundw
          case rel => exact ⟨k + 1, by omega, by go_num, by rw [hE.out], by first | exact Lib.hid rfl | exact trivial⟩
          case measure => simp [intOf]; omega
        · have t0 : (((b : Nat) : Int) != 0) = true := by simp; exact hb
          have t1 : (((b : Nat) : Int) == 0) = false := by simp; exact hb
          have t2 : ((b : Nat) : Int) ≠ 0 := by omega
          have e1 : IntKind.i64.wrap ((a : Int).tmod (b : Int)) = ((a % b : Nat) : Int) := by
            rw [Int.tmod_eq_emod_of_nonneg (by omega), ← Int.natCast_emod]
            have := Nat.mod_le a b
            exact iw_id _ (by omega) (by omega)
          have hm := Nat.mod_lt a (show b > 0 by omega)
          go_wp2
          go_roundw
          case rel => exact ⟨b, a % b, rfl, by first | rfl | (rw [Int.natCast_emod]) | go_num, h2, by omega, Lib.hid (by rw [← h3.out, Nat.gcd_comm b, ← Nat.gcd_rec, Nat.gcd_comm]), by first | exact Lib.hid rfl | exact trivial⟩
          case measure => simp [intOf]; omega
    · obtain rfl : k = 3 := by omega
      rw [List.take_of_length_le (by rw [HN3.out]; omega), HG3.out]
      obtain ⟨c0, c1, c2, _, _, _⟩ := P2.out
      have z0 : wr.cell? ⟨w.heap.size + 1, 0, none⟩ = some (.int .i64 0) := (blk_cell R2.out 0).trans rfl
      have z1 : wr.cell? ⟨w.heap.size + 1, 1, none⟩ = some (.int .i64 0) := (blk_cell R2.out 1).trans rfl
      have z2 : wr.cell? ⟨w.heap.size + 1, 2, none⟩ = some (.int .i64 0) := (blk_cell R2.out 2).trans rfl
      have f0 : wr.frozen? ⟨w.heap.size + 1, 0, none⟩ = false := blk_frozen R2.out 0
      have f1 : wr.frozen? ⟨w.heap.size + 1, 1, none⟩ = false := blk_frozen R2.out 1
      have f2 : wr.frozen? ⟨w.heap.size + 1, 2, none⟩ = false := blk_frozen R2.out 2
      by_cases hg0 : gcd3 ⟨x, y, z⟩ = 0
      · have E := Lib.hid (HZ.out hg0)
        rw [hg0]
        clear hg0
        go_wp2
        rw [E.out]
        exact bodyPost_ret (v := aP ⟨x, y, z⟩) (by simp [results, Try.results130, go_sem, z0, z1, z2]) rfl ⟨rfl, below_set3 HW2.out (by omega) _ _ _⟩
      · obtain ⟨G, hG⟩ : ∃ G, gcd3 ⟨x, y, z⟩ = G := ⟨_, rfl⟩
        rw [hG] at hg0 HD ⊢
        have t1 : (G == 0) = false := by simpa using hg0
        have e1 := TX.out G
        have e2 := TY.out G
        have e3 := TZ.out G
        clear hG
        have lt4 : w.heap.size < wr.heap.size := World.block_lt_of_cell? wr _ c0
        go_wp2_with fail
        have HB := Lib.hid ((Below.refl (wr.heap.size) wr).drew)
        have HA := Lib.hid (show wr.drew.heap[(w.heap.size + 1)]? = _ from R2.out)
        refine start_ (n := 14) (S := fun w' => w'.cell? ⟨w.heap.size, 0, none⟩ = some (.int .i64 x) ∧ w'.cell? ⟨w.heap.size, 1, none⟩ = some (.int .i64 y) ∧ w'.cell? ⟨w.heap.size, 2, none⟩ = some (.int .i64 z)) (ds := [13]) (MT 0 14) (by kernel_rfl) rfl rfl ⟨(HB.out.cell (p := ⟨w.heap.size, 0, none⟩) (lt4)).trans c0, (HB.out.cell (p := ⟨w.heap.size, 1, none⟩) (lt4)).trans c1, (HB.out.cell (p := ⟨w.heap.size, 2, none⟩) (lt4)).trans c2⟩ (fun hHeld => ?_)
        obtain ⟨wd, hwd⟩ : ∃ x, wr.drew = x := ⟨_, rfl⟩
        rw [hwd] at HB hHeld HA ⊢
        clear hwd
        refine pu_ 0 39 (h := ?_)
        refine pu_ 2 41 (h := ?_)
        refine pu_ 4 43 (h := ?_)
        refine pu_ 6 45 (h := ?_)
        refine pu_ 8 47 (h := ?_)
        refine pu_ 10 49 (h := ?_)
        refine ta_ 1 40 hHeld (h := ?_)
        refine pu_ 3 42 (h := ?_)
        refine ta_ 5 44 hHeld (h := ?_)
        refine pu_ 7 46 (h := ?_)
        refine ta_ 9 48 hHeld (h := ?_)
        refine pu_ 11 50 (h := ?_)
        refine pu_ 12 51 (h := ?_)
        refine last_ (i := 13) (N := none) (MT 14 0) rfl rfl (by kernel_rfl) (by decide) (fun K hK => ?_)
        have sc0 : World.cell? _ ⟨(w.heap.size + 1), 0, none⟩ = some (.int .i64 0) := (blk_cell HA.out 0).trans rfl
        have sf0 := blk_frozen HA.out 0
        have sc1 : World.cell? _ ⟨(w.heap.size + 1), 1, none⟩ = some (.int .i64 0) := (blk_cell HA.out 1).trans rfl
        have sf1 := blk_frozen HA.out 1
        have sc2 : World.cell? _ ⟨(w.heap.size + 1), 2, none⟩ = some (.int .i64 0) := (blk_cell HA.out 2).trans rfl
        have sf2 := blk_frozen HA.out 2
        refine skip_ (w1 := ?_) (by rfl) rfl ?_ ?_
        rotate_left
        · go_simp
          rfl
        have HB := Lib.hid (show Below (w.heap.size) _ _ from HB.out.mono (Nat.le_of_lt lt4))
        have HA := Lib.hid (bs3 HA.out (.int .i64 (x.tdiv G)) (.int .i64 (y.tdiv G)) (.int .i64 (z.tdiv G)))
        have HB := Lib.hid (bb3 HB.out (show w.heap.size ≤ w.heap.size + 1 from Nat.le_succ _) (.int .i64 (x.tdiv G)) (.int .i64 (y.tdiv G)) (.int .i64 (z.tdiv G)))
        clear sc0 sf0 sc1 sf1 sc2 sf2
        refine hK.out _ _ ?_
        clear hK K
        refine done_ (by kernel_rfl) ?_
        obtain ⟨w5, hwn⟩ : ∃ V, (((wd.setCell ⟨(w.heap.size + 1), 0, none⟩ (.int .i64 (x.tdiv G))).setCell ⟨(w.heap.size + 1), 1, none⟩ (.int .i64 (y.tdiv G))).setCell ⟨(w.heap.size + 1), 2, none⟩ (.int .i64 (z.tdiv G))) = V := ⟨_, rfl⟩
        rw [hwn] at HA HB ⊢
        clear hwn
        have HW5 := Lib.hid (HW2.out.trans HB.out)
        have t5 : w5.cell? ⟨w.heap.size + 1, 0, none⟩ = some (.int .i64 (x.tdiv G)) := (blk_cell HA.out 0).trans rfl
        have t6 : w5.cell? ⟨w.heap.size + 1, 1, none⟩ = some (.int .i64 (y.tdiv G)) := (blk_cell HA.out 1).trans rfl
        have t7 : w5.cell? ⟨w.heap.size + 1, 2, none⟩ = some (.int .i64 (z.tdiv G)) := (blk_cell HA.out 2).trans rfl
        clear HB HA c0 c1 c2 z0 z1 z2 f0 f1 f2
        go_wp2
        rw [HD.out]
        exact bodyPost_ret (v := aP ⟨x.tdiv G, y.tdiv G, z.tdiv G⟩) (by simp [results, Try.results130, go_sem, t5, t6, t7]) rfl ⟨rfl, HW5.out⟩
end Go.Proofs.Ytckdhahceelckaa.G
namespace Go.Proofs.Ytckdhahceelckaa.G
open Go.RowKit Go.Proofs.YtckdhahceelckaaW.PrintWords Go.Proofs.YtckdhahceelckaaW.PrintLast Go.Proofs.YtckdhahceelckaaW.PrintMore
attribute [local go_sem] max2_mx min2_mn max_two min_two max_three min_three max_four min_four
attribute [local go_sem high] eqA23
set_option linter.unusedVariables false
set_option linter.unusedSimpArgs false
theorem short3_in_eq (p : P3) (h : in3 4398046511104 p) : short3 p = bare3 (halve3 (bare3 p)) := by
  by_cases e : p = ⟨0, 0, 0⟩
  · rw [e, short3_zero, bare3_zero, halve3, dif_neg (by decide +kernel), bare3_zero]
  · exact short3_eq p h e
theorem far_of (r : P3) (h : 1048576 < r.x.natAbs ∨ 1048576 < r.y.natAbs ∨ 1048576 < r.z.natAbs) : far3 1048576 r = true := by
  cases hf : far3 1048576 r
  · obtain ⟨a, b, c, d, e, f⟩ := (far3_iff _ _ (by decide) (by decide)).1 hf
    omega
  · rfl
theorem far_not (r : P3) (h1 : r.x.natAbs ≤ 1048576) (h2 : r.y.natAbs ≤ 1048576) (h3 : r.z.natAbs ≤ 1048576) : far3 1048576 r = false :=
  (far3_iff _ _ (by decide) (by decide)).2 (by unfold in3; omega)
set_option maxHeartbeats 4000000 in
set_option maxRecDepth 100000 in
theorem rshort_calls (p : P3) (w : World) (hp : in3 4398046511104 p) :
    Calls Try.prog 81 #[aP p] w fun e w' => e = .returned (aP (short3 p)) ∧ Below w.heap.size w w' := by
  have HSE := Lib.hid (short3_in_eq p hp)
  have HBR := Lib.hid (fun W => rbare_calls p W hp)
  have HIN := Lib.hid (bare3_in p 4398046511104 hp)
  obtain ⟨q, hq⟩ : ∃ q, bare3 p = q := ⟨_, rfl⟩
  rw [hq] at HSE HBR HIN
  clear hq
  obtain ⟨x, y, z⟩ := p
  obtain ⟨a1, a2, a3, a4, a5, a6⟩ := hp
  simp only at a1 a2 a3 a4 a5 a6
  have ix := Lib.hid (in5_calls x (-4398046511104) 4398046511104 true (by simp; omega))
  have iy := Lib.hid (in5_calls y (-4398046511104) 4398046511104 true (by simp; omega))
  have iz := Lib.hid (in5_calls z (-4398046511104) 4398046511104 true (by simp; omega))
  clear a1 a2 a3 a4 a5 a6
  have B1 := Lib.hid ((C3.new w (.int .i64 x) (.int .i64 y) (.int .i64 z) 23).alloc (.cells #[.int .i64 0, .int .i64 0, .int .i64 0] 23))
  have B2 := C3.new (w.alloc (.cells #[.int .i64 x, .int .i64 y, .int .i64 z] 23)) (.int .i64 0) (.int .i64 0) (.int .i64 0) 23
  simp only [World.size_alloc] at B2
  have B2 := Lib.hid B2
  have HW := Lib.hid (((Below.refl _ w).alloc (Nat.le_refl _) (.cells #[.int .i64 x, .int .i64 y, .int .i64 z] 23)).alloc (by simp) (.cells #[.int .i64 0, .int .i64 0, .int .i64 0] 23))
  go_enter Try.func81, Try.ntmps81
  go_wp2_with fail
  refine (ix.out _).mono ?_
  rintro e w1 ⟨rfl, rfl⟩
  go_wp2_with fail
  refine (iy.out _).mono ?_
  rintro e w1 ⟨rfl, rfl⟩
  go_wp2_with fail
  refine (iz.out _).mono ?_
  rintro e w1 ⟨rfl, rfl⟩
  clear ix iy iz
  go_wp2_with fail
  refine (HBR.out _).mono ?_
  rintro e w1 ⟨rfl, hb⟩
  have D2 := Lib.hid (B2.out.below hb)
  have HW1 := Lib.hid (bthen HW.out hb)
  have lz : w.heap.size + 1 < w1.heap.size := by have := hb.size; simp at this; omega
  clear HBR HW hb B1 B2
  have hA := Lib.hid (C3.new w1 (.int .i64 q.x) (.int .i64 q.y) (.int .i64 q.z) 23)
  have hR := Lib.hid (D2.out.alloc (.cells #[.int .i64 q.x, .int .i64 q.y, .int .i64 q.z] 23))
  have hW := Lib.hid (HW1.out.alloc (by omega) (.cells #[.int .i64 q.x, .int .i64 q.y, .int .i64 q.z] 23))
  clear D2 HW1
  obtain ⟨T, hT⟩ : ∃ T, w1.heap.size = T := ⟨_, rfl⟩
  go_wp2_with fail
  rw [hT] at hA lz
  generalize w1.alloc (.cells #[.int .i64 q.x, .int .i64 q.y, .int .i64 q.z] 23) = w2 at hA hR hW ⊢
  clear hT
  go_loopg [] (size3 q) (fun kq wr => ∃ r : P3, Hid (kq = size3 r) ∧ Hid (halve3 r = halve3 q) ∧ Hid (in3 4398046511104 r) ∧ Hid (C3 wr T (.int .i64 r.x) (.int .i64 r.y) (.int .i64 r.z)) ∧ Hid (C3 wr (w.heap.size + 1) (.int .i64 0) (.int .i64 0) (.int .i64 0)) ∧ Hid (Below w.heap.size w wr))
  case atStart => exact ⟨q, Lib.hid rfl, Lib.hid rfl, HIN, hA, hR, hW⟩
  case round =>
    clear hA hR hW HIN
    obtain ⟨r, h1, h2, h3, h5, h6, h7⟩ := hrel
    obtain ⟨hx1, hx2, hy1, hy2, hz1, hz2⟩ := h3.out
    obtain ⟨rx, ry, rz⟩ := r
    dsimp only at h5 hx1 hx2 hy1 hy2 hz1 hz2
    have sx := Lib.hid (size5_calls rx (by omega) (by omega))
    have sy := Lib.hid (size5_calls ry (by omega) (by omega))
    have sz := Lib.hid (size5_calls rz (by omega) (by omega))
    obtain ⟨c10, c11, c12, f10, f11, f12⟩ := id h5.out
    by_cases tx : 1048576 < rx.natAbs
    · skip
      have dx : decide ((1048576 : Int) < (rx.natAbs : Int)) = true := by simp; omega
      have hf := far_of ⟨rx, ry, rz⟩ (.inl tx)
      have e2 := Lib.hid (show size3 (div3 2 ⟨rx, ry, rz⟩) < gk by rw [h1.out]; exact div2_lt _ hf)
      have e3 := Lib.hid (div3_in 2 4398046511104 _ h3.out)
      have e1 := Lib.hid ((show halve3 (div3 2 ⟨rx, ry, rz⟩) = halve3 ⟨rx, ry, rz⟩ by rw [halve3.eq_1 ⟨rx, ry, rz⟩, dif_pos hf]).trans h2.out)
      have td1 := iw_tdiv rx 2 (by omega) (by omega)
      have td2 := iw_tdiv ry 2 (by omega) (by omega)
      have td3 := iw_tdiv rz 2 (by omega) (by omega)
      clear hf tx
      go_wp2_with fail
      refine (sx.out _).mono ?_
      rintro e w5 ⟨rfl, rfl⟩
      go_wp2
      go_roundg (size3 (div3 2 ⟨rx, ry, rz⟩))
      case measure => exact e2.out
      case rel => exact ⟨div3 2 ⟨rx, ry, rz⟩, Lib.hid rfl, e1, e3, h5.out.set _ _ _, h6.out.other (by omega) _ _ _, below_set3 h7.out (by omega) _ _ _⟩
    · by_cases ty : 1048576 < ry.natAbs
      · skip
        have dx : decide ((1048576 : Int) < (rx.natAbs : Int)) = false := by simp; omega
        have dy : decide ((1048576 : Int) < (ry.natAbs : Int)) = true := by simp; omega
        have hf := far_of ⟨rx, ry, rz⟩ (.inr (.inl ty))
        have e2 := Lib.hid (show size3 (div3 2 ⟨rx, ry, rz⟩) < gk by rw [h1.out]; exact div2_lt _ hf)
        have e3 := Lib.hid (div3_in 2 4398046511104 _ h3.out)
        have e1 := Lib.hid ((show halve3 (div3 2 ⟨rx, ry, rz⟩) = halve3 ⟨rx, ry, rz⟩ by rw [halve3.eq_1 ⟨rx, ry, rz⟩, dif_pos hf]).trans h2.out)
        have td1 := iw_tdiv rx 2 (by omega) (by omega)
        have td2 := iw_tdiv ry 2 (by omega) (by omega)
        have td3 := iw_tdiv rz 2 (by omega) (by omega)
        clear hf tx ty
        go_wp2_with fail
        refine (sx.out _).mono ?_
        rintro e w5 ⟨rfl, rfl⟩
        go_wp2_with fail
        refine (sy.out _).mono ?_
        rintro e w5 ⟨rfl, rfl⟩
        go_wp2
        go_roundg (size3 (div3 2 ⟨rx, ry, rz⟩))
        case measure => exact e2.out
        case rel => exact ⟨div3 2 ⟨rx, ry, rz⟩, Lib.hid rfl, e1, e3, h5.out.set _ _ _, h6.out.other (by omega) _ _ _, below_set3 h7.out (by omega) _ _ _⟩
      · by_cases tz : 1048576 < rz.natAbs
        · skip
          have dx : decide ((1048576 : Int) < (rx.natAbs : Int)) = false := by simp; omega
          have dy : decide ((1048576 : Int) < (ry.natAbs : Int)) = false := by simp; omega
          have dz : decide ((1048576 : Int) < (rz.natAbs : Int)) = true := by simp; omega
          have hf := far_of ⟨rx, ry, rz⟩ (.inr (.inr tz))
          have e2 := Lib.hid (show size3 (div3 2 ⟨rx, ry, rz⟩) < gk by rw [h1.out]; exact div2_lt _ hf)
          have e3 := Lib.hid (div3_in 2 4398046511104 _ h3.out)
          have e1 := Lib.hid ((show halve3 (div3 2 ⟨rx, ry, rz⟩) = halve3 ⟨rx, ry, rz⟩ by rw [halve3.eq_1 ⟨rx, ry, rz⟩, dif_pos hf]).trans h2.out)
          have td1 := iw_tdiv rx 2 (by omega) (by omega)
          have td2 := iw_tdiv ry 2 (by omega) (by omega)
          have td3 := iw_tdiv rz 2 (by omega) (by omega)
          clear hf tx ty tz
          go_wp2_with fail
          refine (sx.out _).mono ?_
          rintro e w5 ⟨rfl, rfl⟩
          go_wp2_with fail
          refine (sy.out _).mono ?_
          rintro e w5 ⟨rfl, rfl⟩
          go_wp2_with fail
          refine (sz.out _).mono ?_
          rintro e w5 ⟨rfl, rfl⟩
          go_wp2
          go_roundg (size3 (div3 2 ⟨rx, ry, rz⟩))
          case measure => exact e2.out
          case rel => exact ⟨div3 2 ⟨rx, ry, rz⟩, Lib.hid rfl, e1, e3, h5.out.set _ _ _, h6.out.other (by omega) _ _ _, below_set3 h7.out (by omega) _ _ _⟩
        · skip
          have dx : decide ((1048576 : Int) < (rx.natAbs : Int)) = false := by simp; omega
          have dy : decide ((1048576 : Int) < (ry.natAbs : Int)) = false := by simp; omega
          have dz : decide ((1048576 : Int) < (rz.natAbs : Int)) = false := by simp; omega
          have hf := far_not ⟨rx, ry, rz⟩ (by simp; omega) (by simp; omega) (by simp; omega)
          have E1 := Lib.hid (show halve3 q = ⟨rx, ry, rz⟩ by rw [← h2.out, halve3, dif_neg (by rw [hf]; simp)])
          have HBR := Lib.hid (fun W => rbare_calls ⟨rx, ry, rz⟩ W h3.out)
          obtain ⟨u, hu⟩ : ∃ u, bare3 ⟨rx, ry, rz⟩ = u := ⟨_, rfl⟩
          rw [hu] at HBR
          have HU := Lib.hid hu
          clear hf tx ty tz hu
          go_wp2_with fail
          refine (sx.out _).mono ?_
          rintro e w5 ⟨rfl, rfl⟩
          go_wp2_with fail
          refine (sy.out _).mono ?_
          rintro e w5 ⟨rfl, rfl⟩
          go_wp2_with fail
          refine (sz.out _).mono ?_
          rintro e w5 ⟨rfl, rfl⟩
          go_wp2_with fail
          refine (HBR.out _).mono ?_
          rintro e w6 ⟨rfl, hb⟩
          obtain ⟨c0, c1, c2, f0, f1, f2⟩ := h6.out.below hb
          have H7 := Lib.hid (bthen h7.out hb)
          clear hb c10 c11 c12 f10 f11 f12
          go_wp2
          rw [HSE.out, E1.out, HU.out]
          exact bodyPost_ret (v := aP u) (by simp [results, Try.results81, go_sem, c0, c1, c2]) rfl ⟨rfl, below_set3 H7.out (by omega) _ _ _⟩
end Go.Proofs.Ytckdhahceelckaa.G
namespace Go.Proofs.Ytckdhahceelckaa.G
open Go.RowKit Go.Proofs.YtckdhahceelckaaW.PrintWords Go.Proofs.YtckdhahceelckaaW.PrintLast Go.Proofs.YtckdhahceelckaaW.PrintMore
attribute [local go_sem] max2_mx min2_mn max_two min_two max_three min_three max_four min_four
attribute [local go_sem high] eqA23
set_option linter.unusedVariables false
set_option linter.unusedSimpArgs false
set_option maxHeartbeats 2000000 in
theorem rlong_calls (p : P3) (w : World) (hp : in3 4398046511104 p) :
    Calls Try.prog 119 #[aP p] w fun e w' => e = .returned (aP (long3 p)) ∧ Below w.heap.size w w' := by
  have HS := Lib.hid (fun W => rshort_calls p W hp)
  obtain ⟨x, y, z⟩ := p
  have B1 := ((C3.new w (.int .i64 x) (.int .i64 y) (.int .i64 z) 23).alloc (.cells #[.int .i64 0, .int .i64 0, .int .i64 0] 23))
  have B2 := (C3.new (w.alloc (.cells #[.int .i64 x, .int .i64 y, .int .i64 z] 23)) (.int .i64 0) (.int .i64 0) (.int .i64 0) 23)
  simp only [World.size_alloc] at B2
  have B1 := Lib.hid B1
  have B2 := Lib.hid B2
  obtain ⟨q, hq⟩ : ∃ q, short3 ⟨x, y, z⟩ = q := ⟨_, rfl⟩
  have hin : in3 1048576 q := by rw [← hq]; exact short3_in _
  unfold long3
  rw [hq] at HS ⊢
  clear hp hq
  obtain ⟨px, py, pz⟩ := q
  by_cases hz : (⟨px, py, pz⟩ : P3) = ⟨0, 0, 0⟩
  · have h1 : dbl3 ⟨px, py, pz⟩ = ⟨0, 0, 0⟩ := by rw [dbl3, dif_pos (.inr hz)]; exact hz
    rw [h1]
    clear h1
    have he := eqP_yes hz
    simp only [P3.mk.injEq] at hz
    obtain ⟨rfl, rfl, rfl⟩ := hz
    go_enter Try.func119, Try.ntmps119
    go_wp2_with (go_at_call 81; refine (HS.out _).mono ?_; rintro e w1 ⟨rfl, hb1⟩; obtain ⟨c10, c11, c12, f10, f11, f12⟩ := B1.out.below hb1; have D2 := Lib.hid (B2.out.below hb1); obtain ⟨c20, c21, c22, f20, f21, f22⟩ := D2.out)
    have hB : Below w.heap.size w w1 := (((Below.refl _ w).alloc (Nat.le_refl _) _).alloc (by simp) _).trans (hb1.mono (by simp; omega))
    exact bodyPost_ret (v := .agg #[.int .i64 0, .int .i64 0, .int .i64 0]) (by simp [results, Try.results119, go_sem, c20, c21, c22]) rfl ⟨rfl, below_set3 (below_set3 hB (Nat.le_refl _) _ _ _) (by omega) _ _ _⟩
  · obtain ⟨D, hD⟩ : ∃ D, dbl3 ⟨px, py, pz⟩ = D := ⟨_, rfl⟩
    rw [hD]
    have HD := Lib.hid hD
    have HZ := Lib.hid hz
    have HI := Lib.hid hin
    have he := eqP_no hz
    clear hD hz hin
    go_enter Try.func119, Try.ntmps119
    go_wp2_with (go_at_call 81; refine (HS.out _).mono ?_; rintro e w1 ⟨rfl, hb1⟩; have D1 := Lib.hid (B1.out.below hb1); obtain ⟨c10, c11, c12, f10, f11, f12⟩ := D1.out; have D2 := Lib.hid (B2.out.below hb1))
    have hB : Below w.heap.size w w1 := (((Below.refl _ w).alloc (Nat.le_refl _) _).alloc (by simp) _).trans (hb1.mono (by simp; omega))
    have hB := below_set3 hB (Nat.le_refl w.heap.size) (.int .i64 px) (.int .i64 py) (.int .i64 pz)
    have B2 := D2.out.other (g' := w.heap.size) (by omega) (.int .i64 px) (.int .i64 py) (.int .i64 pz)
    have B1 := D1.out.set (.int .i64 px) (.int .i64 py) (.int .i64 pz)
    unfold set3 at B1 B2 hB
    generalize ((w1.setCell { block := w.heap.size, off := 0 } (Value.int IntKind.i64 px)).setCell { block := w.heap.size, off := 1 } (Value.int IntKind.i64 py)).setCell { block := w.heap.size, off := 2 } (Value.int IntKind.i64 pz) = w3 at B1 B2 hB ⊢
    clear he hb1 c10 c11 c12 f10 f11 f12 D1 D2
    go_loopg [3] (2000000 - size3 ⟨px, py, pz⟩) (fun kq v3 wr => ∃ r : P3, Hid (kq = 2000000 - size3 r) ∧ Hid (dbl3 r = D) ∧ Hid (in3 1048576 r) ∧ Hid (r ≠ ⟨0, 0, 0⟩) ∧ Hid (C3 wr w.heap.size (.int .i64 r.x) (.int .i64 r.y) (.int .i64 r.z)) ∧ Hid (C3 wr (w.heap.size + 1) (.int .i64 0) (.int .i64 0) (.int .i64 0)) ∧ Hid (Below w.heap.size w wr))
    case atStart => exact ⟨⟨px, py, pz⟩, rfl, HD.out, HI.out, HZ.out, B1, B2, hB⟩
    case round =>
      obtain ⟨r, h1, h2, h3, h4, h5, h6, h7⟩ := hrel
      obtain ⟨hx1, hx2, hy1, hy2, hz1, hz2⟩ := h3.out
      obtain ⟨rx, ry, rz⟩ := r
      dsimp only at h5 hx1 hx2 hy1 hy2 hz1 hz2
      obtain ⟨c10, c11, c12, f10, f11, f12⟩ := id h5.out
      cases hf : far3 524288 ⟨rx, ry, rz⟩ with
      | false =>
        have hne : ¬ (far3 524288 ⟨rx, ry, rz⟩ = true ∨ (⟨rx, ry, rz⟩ : P3) = ⟨0, 0, 0⟩) := by rw [hf]; simpa using h4.out
        have e1 : dbl3 ⟨rx, ry, rz⟩ = dbl3 (two3 ⟨rx, ry, rz⟩) := by rw [dbl3, dif_neg hne]
        have e2 : Hid (2000000 - size3 (two3 ⟨rx, ry, rz⟩) < gk) := by rw [h1.out]; exact two3_lt _ hne
        have e4 := Lib.hid (two3_ne _ h4.out)
        have hi5 := (far3_iff _ _ (by decide) (by decide)).1 hf
        have HI5 := Lib.hid (fun W => rin_calls ⟨rx, ry, rz⟩ 524288 true (decide_eq_true hi5) (by decide) (by decide) W)
        have e3 : Hid (in3 1048576 (two3 ⟨rx, ry, rz⟩)) := by unfold in3 two3 at *; simp only at *; show _ ∧ _; omega
        have E1 : Hid (dbl3 (two3 ⟨rx, ry, rz⟩) = D) := e1.symm.trans h2.out
        clear e1 hne hi5 hf
        go_wp2_with (go_at_call 67; refine (HI5.out _).mono ?_; rintro e w5 ⟨rfl, hb5⟩; have D1 := Lib.hid (h5.out.below hb5); have D2 := Lib.hid (h6.out.below hb5); obtain ⟨d10, d11, d12, g10, g11, g12⟩ := id D1.out)
        go_roundg (2000000 - size3 (two3 ⟨rx, ry, rz⟩))
        case measure => exact e2.out
        case rel => exact ⟨two3 ⟨rx, ry, rz⟩, rfl, E1, e3, e4, D1.out.set _ _ _, D2.out.other (by omega) _ _ _, below_set3 (h7.out.trans (hb5.mono h7.out.size)) (Nat.le_refl _) _ _ _⟩
      | true =>
        have e1 : dbl3 ⟨rx, ry, rz⟩ = ⟨rx, ry, rz⟩ := by rw [dbl3, dif_pos (.inl hf)]
        have hi5 : ¬ in3 524288 ⟨rx, ry, rz⟩ := fun h => by rw [(far3_iff _ _ (by decide) (by decide)).2 h] at hf; cases hf
        have HI5 := Lib.hid (fun W => rin_calls ⟨rx, ry, rz⟩ 524288 false (decide_eq_false hi5) (by decide) (by decide) W)
        obtain rfl : D = ⟨rx, ry, rz⟩ := h2.out.symm.trans e1
        clear e1 hi5 hf
        go_wp2_with (go_at_call 67; refine (HI5.out _).mono ?_; rintro e w5 ⟨rfl, hb5⟩; have D1 := Lib.hid (h5.out.below hb5); have D2 := Lib.hid (h6.out.below hb5); obtain ⟨d10, d11, d12, g10, g11, g12⟩ := id D1.out; obtain ⟨d20, d21, d22, g20, g21, g22⟩ := id D2.out)
        exact bodyPost_ret (v := aP ⟨rx, ry, rz⟩) (by simp [results, Try.results119, go_sem, d20, d21, d22]) rfl ⟨rfl, below_set3 (h7.out.trans (hb5.mono h7.out.size)) (by omega) _ _ _⟩
end Go.Proofs.Ytckdhahceelckaa.G
namespace Go.Proofs.Ytckdhahceelckaa.G
set_option linter.unusedVariables false
theorem nodup_sub_length {α : Type} [DecidableEq α] : ∀ (l m : List α), l.Nodup → (∀ x ∈ l, x ∈ m) → l.length ≤ m.length
  | [], m, _, _ => by simp
  | x :: l, m, hn, hs => by
    have hx : x ∈ m := hs x (.head _)
    obtain ⟨h1, h2⟩ := List.nodup_cons.1 hn
    have ih := nodup_sub_length l (m.erase x) h2 (fun y hy => (List.mem_erase_of_ne (fun e => h1 (by rw [← e]; exact hy))).2 (hs y (.tail _ hy)))
    rw [List.length_erase_of_mem hx] at ih
    have := List.length_pos_of_mem hx
    simp only [List.length_cons]; omega
def subI (a b : P3) : P3 := ⟨a.x - b.x, a.y - b.y, a.z - b.z⟩
def crossI (a b : P3) : P3 := ⟨a.y * b.z - a.z * b.y, a.z * b.x - a.x * b.z, a.x * b.y - a.y * b.x⟩
theorem cross3_eq (p q : P3) (A B : Nat) (hp : in3 A p) (hq : in3 B q) (h : A * B ≤ 1152921504606846976) : cross3 p q = crossI p q ∧ in3 (2 * (A * B)) (crossI p q) := by
  obtain ⟨a1, a2, a3, a4, a5, a6⟩ := hp
  obtain ⟨b1, b2, b3, b4, b5, b6⟩ := hq
  have m1 := mul_bd p.y q.z A B (by omega) (by omega)
  have m2 := mul_bd p.z q.y A B (by omega) (by omega)
  have m3 := mul_bd p.z q.x A B (by omega) (by omega)
  have m4 := mul_bd p.x q.z A B (by omega) (by omega)
  have m5 := mul_bd p.x q.y A B (by omega) (by omega)
  have m6 := mul_bd p.y q.x A B (by omega) (by omega)
  unfold cross3 crossI in3
  simp only
  generalize p.y * q.z = u1 at *
  generalize p.z * q.y = u2 at *
  generalize p.z * q.x = u3 at *
  generalize p.x * q.z = u4 at *
  generalize p.x * q.y = u5 at *
  generalize p.y * q.x = u6 at *
  refine ⟨?_, by omega⟩
  rw [w64_id u1 (by omega) (by omega), w64_id u2 (by omega) (by omega), w64_id u3 (by omega) (by omega), w64_id u4 (by omega) (by omega), w64_id u5 (by omega) (by omega), w64_id u6 (by omega) (by omega), w64_id _ (by omega) (by omega), w64_id _ (by omega) (by omega), w64_id _ (by omega) (by omega)]
/-- the product of three -/
def detI (d u v : P3) : Int := dotI (crossI d u) v
theorem det_swap (d u v : P3) : detI d v u = -detI d u v := by unfold detI dotI crossI; grind
theorem cross_cross (d u v : P3) : crossI (crossI d u) (crossI d v) = ⟨detI d u v * d.x, detI d u v * d.y, detI d u v * d.z⟩ := by
  unfold crossI detI dotI crossI; simp only [P3.mk.injEq]; refine ⟨?_, ?_, ?_⟩ <;> grind
theorem crI_cross (a b : P3) : crI a b = dotI (crossI a b) (crossI a b) := by unfold crI dotI crossI; grind
theorem dotI_zero (u : P3) (h : dotI u u = 0) : u = ⟨0, 0, 0⟩ := by
  have a := sq_nonneg u.x
  have b := sq_nonneg u.y
  have c := sq_nonneg u.z
  unfold dotI at h
  have q : ∀ t : Int, t * t = 0 → t = 0 := fun t ht => by rcases Int.mul_eq_zero.1 ht with h | h <;> exact h
  have x := q _ (show u.x * u.x = 0 by omega)
  have y := q _ (show u.y * u.y = 0 by omega)
  have z := q _ (show u.z * u.z = 0 by omega)
  cases u; simp_all
/-- two that are parallel, the same way -/
theorem par_of_cross (a b : P3) (ha : a ≠ ⟨0, 0, 0⟩) (hc : crossI a b = ⟨0, 0, 0⟩) (hd : 0 < dotI a b) : Par b a := by
  unfold crossI at hc
  simp only [P3.mk.injEq] at hc
  obtain ⟨c1, c2, c3⟩ := hc
  refine ⟨dotI a a, dotI a b, dotI_pos a ha, hd, ?_, ?_, ?_⟩ <;> unfold dotI <;> grind
theorem dot_par_ne (a b : P3) (ha : a ≠ ⟨0, 0, 0⟩) (hb : b ≠ ⟨0, 0, 0⟩) (hc : crossI a b = ⟨0, 0, 0⟩) : dotI a b ≠ 0 := by
  intro h0
  have h := lagI a b
  rw [crI_cross, hc, h0] at h
  have p := Int.mul_pos (dotI_pos a ha) (dotI_pos b hb)
  rw [h] at p
  revert p; decide
/-- three in one plane span nothing -/
theorem det_plane (n x y z : P3) (hn : n ≠ ⟨0, 0, 0⟩) (hx : dotI n x = 0) (hy : dotI n y = 0) (hz : dotI n z = 0) : detI x y z = 0 := by
  have e : detI x y z * dotI n n = 0 := by
    have : detI x y z * dotI n n = dotI n x * dotI (crossI y z) n + dotI n y * dotI (crossI z x) n + dotI n z * dotI (crossI x y) n := by unfold detI dotI crossI; grind
    rw [this, hx, hy, hz]; simp
  rcases Int.mul_eq_zero.1 e with h | h
  · exact h
  · exact absurd (dotI_zero n h) hn
def negI (u : P3) : P3 := ⟨-u.x, -u.y, -u.z⟩
def signI (s : Int) (u : P3) : P3 := ⟨s * u.x, s * u.y, s * u.z⟩
/-- the greatest number that divides is that of parallel ones -/
theorem gcd3_scale (k : Nat) (p : P3) : gcd3 ⟨(k : Int) * p.x, k * p.y, k * p.z⟩ = k * gcd3 p := by
  unfold gcd3
  simp only
  rw [Int.gcd_mul_left]
  have e : ((((k : Int).natAbs * Int.gcd p.x p.y : Nat)) : Int) = (k : Int) * (Int.gcd p.x p.y : Int) := by simp
  rw [e, Int.gcd_mul_left]
  simp
theorem bare3_par_eq (u v : P3) (hu : u ≠ ⟨0, 0, 0⟩) (hv : v ≠ ⟨0, 0, 0⟩) (h : Par u v) : bare3 u = bare3 v := by
  obtain ⟨a, b, ha, hb, e1, e2, e3⟩ := h
  have g1 := gcd3_scale a.toNat u
  have g2 := gcd3_scale b.toNat v
  rw [show (a.toNat : Int) = a by omega] at g1
  rw [show (b.toNat : Int) = b by omega] at g2
  rw [e1, e2, e3, g2] at g1
  obtain ⟨x1, x2, x3⟩ := bare3_eq u
  obtain ⟨y1, y2, y3⟩ := bare3_eq v
  have p1 := gcd3_pos u hu
  have hk : 0 < a * gcd3 u := Int.mul_pos ha (by omega)
  rw [x1, y1] at e1
  rw [x2, y2] at e2
  rw [x3, y3] at e3
  have f : ∀ s t : Int, a * (gcd3 u * s) = b * (gcd3 v * t) → s = t := fun s t hst => by
    have : a * gcd3 u * s = a * gcd3 u * t := by rw [Int.mul_assoc, hst, ← Int.mul_assoc, g1]
    exact Int.eq_of_mul_eq_mul_left (by omega) this
  have r1 := f _ _ e1
  have r2 := f _ _ e2
  have r3 := f _ _ e3
  cases hbu : bare3 u; cases hbv : bare3 v
  rw [hbu, hbv] at r1 r2 r3
  simp_all
theorem short3_par_eq (u v : P3) (hu : in3 4398046511104 u) (hv : in3 4398046511104 v) (hu0 : u ≠ ⟨0, 0, 0⟩) (hv0 : v ≠ ⟨0, 0, 0⟩) (h : Par u v) : short3 u = short3 v := by
  rw [short3_eq u hu hu0, short3_eq v hv hv0, bare3_par_eq u v hu0 hv0 h]
end Go.Proofs.Ytckdhahceelckaa.G
namespace Go.Proofs.Ytckdhahceelckaa.G
open Go.RowKit
set_option linter.unusedVariables false
set_option linter.unusedSimpArgs false
theorem minus3_eq (p q : P3) (hp : in3 1073741824 p) (hq : in3 1073741824 q) : minus3 p q = ⟨p.x - q.x, p.y - q.y, p.z - q.z⟩ := by
  unfold in3 at hp hq
  unfold minus3
  rw [w64_id _ (by omega) (by omega), w64_id _ (by omega) (by omega), w64_id _ (by omega) (by omega)]
theorem rawC_balls (p q : P3) : rawC [p] [] [] [q] [] [] = [short3 (minus3 q p)] := by
  unfold rawC edgeW pointW roundW
  rw [if_neg (by simp [YtckdhahceelckaaW.PrintWords.mn])]; rfl
theorem ballsV_true (gap ra rb far g : Int) (hgap : gap = g - ra - rb) (hr : 1 ≤ ra ∧ ra ≤ 65536) (hs : 1 ≤ rb ∧ rb ≤ 65536) (h0 : 0 ≤ g) (h1 : g * g ≤ far) (h2 : far ≤ (g + 2 + g / 65536) * (g + 2 + g / 65536)) (hf : far ≤ 1125899906842624) : ballsV gap ra rb far = true := by
  have hg : g ≤ 33554432 := by
    rcases Int.lt_or_le 33554432 g with h | h
    · have := Int.mul_le_mul (show (33554433 : Int) ≤ g by omega) (show (33554433 : Int) ≤ g by omega) (by omega) (by omega)
      omega
    · exact h
  have hU : 0 ≤ g + 2 + g / 65536 ∧ g + 2 + g / 65536 ≤ 33555000 := by omega
  have hUU : (g + 2 + g / 65536) * (g + 2 + g / 65536) ≤ 33555000 * 33555000 := Int.mul_le_mul hU.2 hU.2 hU.1 (by omega)
  have hUn := sq_nonneg (g + 2 + g / 65536)
  have hgn := sq_nonneg g
  unfold ballsV
  have e1 : wrap64 (wrap64 (gap + ra) + rb) = g := by rw [w64_id (gap + ra) (by omega) (by omega), w64_id _ (by omega) (by omega)]; omega
  rw [e1]
  simp only
  rw [w64_id (g * g) (by omega) (by omega), if_neg (by omega), if_neg (by omega), w64_id (g + 2) (by omega) (by omega), w64_id (g + 2 + g / 65536) (by omega) (by omega), w64_id _ (by omega) (by omega)]
  simpa using h2
theorem balls_true (p q : P3) (ra rb : Int) (hp : in3 4194304 p) (hq : in3 4194304 q) (hr : 1 ≤ ra ∧ ra ≤ 65536) (hs : 1 ≤ rb ∧ rb ≤ 65536) : ballsOk p q ra rb = true := by
  obtain ⟨d, hd⟩ : ∃ d, minus3 q p = d := ⟨_, rfl⟩
  have hd' : d = ⟨q.x - p.x, q.y - p.y, q.z - p.z⟩ := by rw [← hd]; exact minus3_eq q p (in3_le (by decide) hq) (in3_le (by decide) hp)
  have hin : in3 8388608 d := by rw [hd']; unfold in3 at *; simp only; omega
  have hfar : dot3 d d = dotI d d := dot3_eq d d 8388608 8388608 hin hin (by decide)
  have hD : dotI d d ≤ 1125899906842624 := by
    unfold in3 at hin
    have h1 := sq_le (a := d.x) (n := 8388608) (by omega) (by omega)
    have h2 := sq_le (a := d.y) (n := 8388608) (by omega) (by omega)
    have h3 := sq_le (a := d.z) (n := 8388608) (by omega) (by omega)
    unfold dotI; omega
  unfold ballsOk apartF
  rw [rawC_balls, hd, hfar]
  simp only [List.headD_cons, List.tail_cons, apF, List.foldl_cons, List.foldl_nil, apStep]
  by_cases h0 : d = ⟨0, 0, 0⟩
  · have hl : long3 (short3 d) = ⟨0, 0, 0⟩ := by
      rw [h0, short3_zero]; unfold long3; rw [short3_zero, dbl3, dif_pos (.inr rfl)]
    rw [if_pos hl]
    refine ballsV_true _ _ _ _ 0 (by simp only; omega) hr hs (by decide) ?_ ?_ hD
    · exact dotI_nn d
    · rw [h0]; decide +kernel
  · obtain ⟨a1, a2, a3, a4⟩ := way_near d (in3_le (by decide) hin) h0
    rw [if_neg a1]
    obtain ⟨w, hw⟩ : ∃ w, long3 (short3 d) = w := ⟨_, rfl⟩
    have hwi : in3 1048576 w := by rw [← hw]; exact long3_in _
    rw [hw] at a1 a2 a3 a4 ⊢
    have hg := ball_bound w d (dotI w d / ce3 w) a2 a3 a4 rfl
    have hwp := dot3_eq w p 1048576 4194304 hwi hp (by decide)
    have hwq := dot3_eq w q 1048576 4194304 hwi hq (by decide)
    have hdd : dotI w q - dotI w p = dotI w d := by rw [hd']; unfold dotI; simp only; grind
    have hgp : gapsF w p [] ra q [] rb = (dotI w d / ce3 w - ra - rb, -((dotI w d + fl3 w - 1) / fl3 w) - ra - rb) := by
      unfold gapsF reachF
      simp only [List.foldl_nil]
      rw [hwp, hwq, hdd]
      have e : dotI w p - dotI w q = -dotI w d := by omega
      rw [e]
      unfold gapV
      rw [if_pos (by omega), if_neg (by omega)]
      simp
    rw [hgp]
    simp only
    have hce := ce3_facts w
    have hfl : 1 ≤ fl3 w := by
      rcases Int.lt_or_le (fl3 w) 1 with h | h
      · have h5 : (fl3 w + 1) * (fl3 w + 1) ≤ 1 * 1 := Int.mul_le_mul (by omega) (by omega) (by omega) (by omega)
        have h6 : ce3 w * ce3 w ≤ (fl3 w + 1) * (fl3 w + 1) := Int.mul_le_mul hce.2.2.1 hce.2.2.1 (by omega) (by omega)
        omega
      · exact h
    have hneg : 0 ≤ (dotI w d + fl3 w - 1) / fl3 w := Int.ediv_nonneg (by omega) (by omega)
    rw [if_pos (Or.inl trivial)]
    simp only
    rw [if_neg (by omega)]
    exact ballsV_true _ _ _ _ _ rfl hr hs hg.1 hg.2.1 hg.2.2 hD
end Go.Proofs.Ytckdhahceelckaa.G
namespace Go.Proofs.Ytckdhahceelckaa.G
open Go.RowKit Go.Proofs.YtckdhahceelckaaW.PrintWords Go.Proofs.YtckdhahceelckaaW.PrintLast Go.Proofs.YtckdhahceelckaaW.PrintMore
set_option linter.unusedVariables false
set_option linter.unusedSimpArgs false
section
variable {w : World} {ops : Array Oper} {rest : List Oper} {o : Oper} {a : Act} {Q : Exit → Act → World → Prop} {K : Act → World → Prop} {N : Option Tmp}
theorem run_append_pts (w : World) (base : Nat) (ty : TypeId) (v : Value) (l l2 : List P3) (A : Option Addr) (m c : Nat) (hown : OwnP w base v l) (hr : Rd w A l2) (hm : l2.length = m) (hsz : l.length + m ≤ 1000000) (hbase : base ≤ w.heap.size) :
    ∃ v' w', (Builtin.append_ #[24, 24] ty #[v, .slice A m c]).run Try.prog w = .ok v' w' ∧ OwnP w' base v' (l ++ l2) ∧ w.grownBy w' v.ownBlock ∧ (v'.ownBlock = v.ownBlock ∨ v'.ownBlock = some w.heap.size) := by
  obtain ⟨i0, hi, hz0, hz1, hz2⟩ := info_parts info23
  cases A with
  | none =>
    have h0 : l2 = [] := by
      cases l2 with
      | nil => rfl
      | cons p l2 => obtain ⟨b, o', e, _⟩ := hr 0 p rfl; cases e
    subst h0
    simp only [List.length_nil] at hm
    subst hm
    refine ⟨v, w, ?_, by rw [List.append_nil]; exact hown, World.grownBy.refl w _, .inl rfl⟩
    rcases hown.2 with ⟨rfl, hn⟩ | ⟨g, cap, cur, rfl, _, _, hnc, _⟩
    · simp [Builtin.append_, run_underlying Try.underlying24, sizeOf, typeInfo, hi, Builtin.lenOf, Builtin.firstCells]
    · simp [Builtin.append_, run_underlying Try.underlying24, sizeOf, typeInfo, hi, Builtin.lenOf, Builtin.firstCells, hnc, storeCells]
  | some ad =>
    have hnews : ∀ j u, (cells3 l2)[j]? = some u → w.cell? (ad.add j) = some u := by
      cases l2 with
      | nil => intro j u hj; simp [cells3] at hj
      | cons p l2 =>
        obtain ⟨b, o', e, _⟩ := hr 0 p rfl
        simp only [Option.some.injEq] at e
        subst e
        intro j u hj
        rw [add_at]
        exact hr.cells j u hj
    obtain ⟨v', w', h0, h1, h2, _, h4⟩ := Go.run_append_own_at (P := Try.prog) w base 24 ty 23 i0 _ 3 24 Try.underlying24 hi hz0 hz1 hz2 rfl (by omega) v l.length (cells3 l) hown ad m c (cells3 l2) (by rw [cells3_length, hm]) hnews (cells3_one l2) (by unfold maxLen; omega) (by omega) hbase
    refine ⟨v', w', h0, ?_, h2, h4⟩
    show w'.ownsRow base 23 3 v' (l ++ l2).length (cells3 (l ++ l2))
    rw [cells3_append, List.length_append, hm]
    exact h1
/-- append of points, where the new row lies told -/
theorem appL_ (base : Nat) (hgd : o.guard = none) (s x : Operand) (ho : o.op = .call { callee := .builtin .append, args := #[s, x], argTypes := #[24, 24] })
    (v : Value) (l l2 : List P3) (A : Option Addr) (m c : Nat) (hs : a.eval s = v) (hx : a.eval x = .slice A m c) (hown : OwnP w base v l) (hr : Rd w A l2) (hm : l2.length = m) (hsz : l.length + m ≤ 1000000) (hbase : base ≤ w.heap.size)
    (h : ∀ v' w', OwnP w' base v' (l ++ l2) → w.grownBy w' v.ownBlock → (v'.ownBlock = v.ownBlock ∨ v'.ownBlock = some w.heap.size) → wpList Try.prog ops Q rest (a.put o.dst v') w') : wpList Try.prog ops Q (o :: rest) a w := by
  obtain ⟨v', w', h0, h1, h2, h3⟩ := run_append_pts w base o.type v l l2 A m c hown hr hm hsz hbase
  exact Go.Lib.wpList_append_run w hgd s x 24 24 ho v (.slice A m c) hs hx v' w' h0 (h v' w' h1 h2 h3)
/-- the same inside a region that draws its order -/
theorem appR_ (base : Nat) (hw : Region.wanted o (yielded ops a.tmps) = true) (hN : o.dst = N) (s x : Operand) (ho : o.op = .call { callee := .builtin .append, args := #[s, x], argTypes := #[24, 24] })
    (v : Value) (l l2 : List P3) (A : Option Addr) (m c : Nat) (hs : a.eval s = v) (hx : a.eval x = .slice A m c) (hown : OwnP w base v l) (hr : Rd w A l2) (hm : l2.length = m) (hsz : l.length + m ≤ 1000000) (hbase : base ≤ w.heap.size)
    (h : ∀ v' w', OwnP w' base v' (l ++ l2) → w.grownBy w' v.ownBlock → (v'.ownBlock = v.ownBlock ∨ v'.ownBlock = some w.heap.size) → K (a.put N v') w') :
    if Region.wanted o (yielded ops a.tmps) = true then Oper.wp Try.prog o a w K Q else K (a.put N undef) w := by
  rw [if_pos hw]
  subst hN
  obtain ⟨v', w', h0, h1, h2, h3⟩ := run_append_pts w base o.type v l l2 A m c hown hr hm hsz hbase
  unfold Oper.wp execOp
  simp only [ho, resolve, invoke, builtin, Sem.run_bind, Sem.run_pure, Result.andThen_ok, List.map_toArray, List.map_cons, List.map_nil, hs, hx, h0]
  exact h _ _ h1 h2 h3
end
theorem OwnP.rdB2 {w : World} {base : Nat} {v : Value} {l : List P3} (h : OwnP w base v l) : ∃ A c, v = .slice A l.length c ∧ l.length ≤ c ∧ RdB w A l ∧ (∀ ad, A = some ad → base ≤ ad.block) := by
  obtain ⟨A, c, e, h1, h2, h3⟩ := OwnP.rd h
  refine ⟨A, c, e, h1, ⟨h2, fun ad ea => ?_⟩, h3⟩
  subst ea
  exact (World.ownsRow.lt h ad.block (by rw [e]; rfl)).2
/-- a list of the call's own grows; what lay there at its beginning, and what is kept, stays -/
structure CSt (w1 W : World) (v : Value) (l : List P3) (keep : List Nat) : Prop where
  own : OwnP W w1.heap.size v l
  below : Below w1.heap.size w1 W
  ne : ∀ k ∈ keep, v.ownBlock ≠ some k ∧ k < W.heap.size
theorem CSt.start (w1 : World) : CSt w1 w1 (.slice none 0 0) [] [] := ⟨OwnP.nil _ _, Below.refl _ _, by simp⟩
theorem CSt.grown {w1 W W' : World} {v : Value} {l : List P3} {keep : List Nat} (h : CSt w1 W v l keep) (hb : Below W.heap.size W W') : CSt w1 W' v l keep :=
  ⟨h.own.grown hb, bthen h.below hb, fun k hk => ⟨(h.ne k hk).1, Nat.lt_of_lt_of_le (h.ne k hk).2 hb.size⟩⟩
theorem CSt.app {w1 W W' : World} {v v' : Value} {l l' : List P3} {keep : List Nat} (h : CSt w1 W v l keep) (hv : OwnP W' w1.heap.size v' l') (hg : W.grownBy W' v.ownBlock) (hat : v'.ownBlock = v.ownBlock ∨ v'.ownBlock = some W.heap.size) : CSt w1 W' v' l' keep := by
  refine ⟨hv, h.below.grown hg h.below.size (fun k hk => h.own.base_ k hk), fun k hk => ?_⟩
  obtain ⟨h1, h2⟩ := h.ne k hk
  refine ⟨?_, Nat.lt_of_lt_of_le h2 hg.size⟩
  rcases hat with e | e
  · rw [e]; exact h1
  · rw [e]; intro e'; cases e'; omega
theorem CSt.blk {w1 W W' : World} {v : Value} {l : List P3} {keep : List Nat} (h : CSt w1 W v l keep) (hg : W.grownBy W' v.ownBlock) {k : Nat} (hk : k ∈ keep) {o : Obj} (ho : W.heap[k]? = some o) : W'.heap[k]? = some o :=
  (hg.block k (h.ne k hk).2 (fun e => (h.ne k hk).1 e.symm)).trans ho
theorem CSt.more {w1 W W' : World} {v : Value} {l : List P3} {keep : List Nat} (h : CSt w1 W v l keep) (hb : Below W.heap.size W W') {k : Nat} (hk : W.heap.size ≤ k) (hk2 : k < W'.heap.size) : CSt w1 W' v l (k :: keep) := by
  refine ⟨h.own.grown hb, bthen h.below hb, fun j hj => ?_⟩
  rcases List.mem_cons.1 hj with rfl | hj
  · exact ⟨fun e => by have := h.own.lt _ e; omega, hk2⟩
  · exact ⟨(h.ne j hj).1, Nat.lt_of_lt_of_le (h.ne j hj).2 hb.size⟩
theorem CSt.less {w1 W : World} {v : Value} {l : List P3} {k : Nat} {keep : List Nat} (h : CSt w1 W v l (k :: keep)) : CSt w1 W v l keep := ⟨h.own, h.below, fun j hj => h.ne j (List.mem_cons_of_mem _ hj)⟩
theorem CSt.old {w1 W : World} {v : Value} {l : List P3} {keep : List Nat} (h : CSt w1 W v l keep) {k : Nat} {o : Obj} (ho : w1.heap[k]? = some o) : W.heap[k]? = some o := (h.below.block k (blk_lt ho)).trans ho
theorem CSt.len {w1 W : World} {v : Value} {l l' : List P3} {keep : List Nat} (h : CSt w1 W v l keep) (e : l = l') : CSt w1 W v l' keep := e ▸ h
theorem RdB.blk {w W : World} {A : Option Addr} {l : List P3} (h : RdB w A l) (hs : w.heap.size ≤ W.heap.size) (hk : ∀ ad, A = some ad → W.heap[ad.block]? = w.heap[ad.block]?) : RdB W A l := by
  refine ⟨fun i p hp => ?_, fun ad e => Nat.lt_of_lt_of_le (h.2 ad e) hs⟩
  obtain ⟨b, o, rfl, hlt, h1, h2, h3⟩ := h.1 i p hp
  have hb := hk _ rfl
  have q : ∀ k, W.cell? ⟨b, k, none⟩ = w.cell? ⟨b, k, none⟩ := fun k => World.cell?_of_block (a := ⟨b, k, none⟩) hb
  exact ⟨b, o, rfl, Nat.lt_of_lt_of_le hlt hs, (q _).trans h1, (q _).trans h2, (q _).trans h3⟩
theorem below_none {w w' : World} (h : w.grownBy w' none) : Below w.heap.size w w' := ⟨h.os, h.tape, h.output, h.size, fun k hk => h.block k hk (by simp)⟩
theorem Rd_pair {w : World} {g : Nat} {p q : P3} {t : TypeId} (h : w.heap[g]? = some (.cells #[.int .i64 p.x, .int .i64 p.y, .int .i64 p.z, .int .i64 q.x, .int .i64 q.y, .int .i64 q.z] t (0, 0))) : RdB w (some ⟨g, 0, none⟩) [p, q] :=
  ⟨fun i u hu => by
    match i, hu with
    | 0, hu => simp at hu; subst hu; exact ⟨g, 0, rfl, blk_lt h, (blk_cell h 0).trans rfl, (blk_cell h 1).trans rfl, (blk_cell h 2).trans rfl⟩
    | 1, hu => simp at hu; subst hu; exact ⟨g, 0, rfl, blk_lt h, (blk_cell h 3).trans rfl, (blk_cell h 4).trans rfl, (blk_cell h 5).trans rfl⟩
    | i + 2, hu => simp at hu, fun ad e => by cases e; exact blk_lt h⟩
/-- the block of a slice -/
def keepA (A : Option Addr) : List Nat := (A.map (·.block)).toList
theorem CSt.moreA {w1 W W' : World} {v : Value} {l : List P3} (h : CSt w1 W v l []) (hb : Below W.heap.size W W') {A : Option Addr} (hA : ∀ ad, A = some ad → W.heap.size ≤ ad.block) (hA2 : ∀ ad, A = some ad → ad.block < W'.heap.size) : CSt w1 W' v l (keepA A) := by
  cases A with
  | none => exact h.grown hb
  | some ad => exact h.more hb (hA ad rfl) (hA2 ad rfl)
theorem RdB.keep {w1 W W' : World} {v : Value} {l es : List P3} {keep : List Nat} {A : Option Addr} (h : RdB W A es) (S : CSt w1 W v l keep) (hs : ∀ k ∈ keepA A, k ∈ keep) (hg : W.grownBy W' v.ownBlock) : RdB W' A es :=
  h.blk hg.size fun ad e => by
    have hk := hs ad.block (by rw [e]; simp [keepA])
    exact hg.block ad.block (S.ne _ hk).2 (fun e' => (S.ne _ hk).1 e'.symm)
def ng3 (n : P3) : P3 := ⟨-n.x, -n.y, -n.z⟩
/-- the candidates of directions as they are -/
def candF (l : List P3) : List P3 := l.flatMap fun x => if long3 x = ⟨0, 0, 0⟩ then [] else [long3 x, ng3 (long3 x)]
theorem candF_no (l : List P3) (k : Nat) (h : k < l.length) (h0 : long3 l[k] = ⟨0, 0, 0⟩) : candF (l.take (k + 1)) = candF (l.take k) := by
  unfold candF; rw [List.take_succ_eq_append_getElem h, List.flatMap_append]; simp [h0]
theorem candF_yes (l : List P3) (k : Nat) (h : k < l.length) (h0 : long3 l[k] ≠ ⟨0, 0, 0⟩) : candF (l.take (k + 1)) = candF (l.take k) ++ [long3 l[k], ng3 (long3 l[k])] := by
  unfold candF; rw [List.take_succ_eq_append_getElem h, List.flatMap_append]; simp [h0]
theorem candF_len (l : List P3) : (candF l).length ≤ 2 * l.length := by
  unfold candF
  induction l with
  | nil => simp
  | cons x l ih =>
    rw [List.flatMap_cons, List.length_append, List.length_cons]
    have : (if long3 x = ⟨0, 0, 0⟩ then [] else [long3 x, ng3 (long3 x)]).length ≤ 2 := by split <;> simp
    omega
theorem flatM_snoc {α β : Type} (f : α → List β) (l : List α) (k : Nat) (h : k < l.length) : (l.take (k + 1)).flatMap f = (l.take k).flatMap f ++ f l[k] := by
  rw [List.take_succ_eq_append_getElem h, List.flatMap_append]; simp
theorem mapM_snoc {α β : Type} (f : α → β) (l : List α) (k : Nat) (h : k < l.length) : (l.take (k + 1)).map f = (l.take k).map f ++ [f l[k]] := by
  rw [List.take_succ_eq_append_getElem h, List.map_append]; rfl
theorem flat_le {α β : Type} (f : α → List β) (n : Nat) : ∀ (l : List α), (∀ x ∈ l, (f x).length ≤ n) → (l.flatMap f).length ≤ l.length * n
  | [], _ => by simp
  | x :: l, h => by
    rw [List.flatMap_cons, List.length_append, List.length_cons, Nat.add_mul]
    have := flat_le f n l fun y hy => h y (by simp [hy])
    have := h x (by simp)
    omega
theorem cross_in {p q : P3} (hp : in3 1048576 p) (hq : in3 1048576 q) : in3 4398046511104 (cross3 p q) := by
  obtain ⟨e, h⟩ := cross3_eq p q 1048576 1048576 hp hq (by decide)
  rw [e]
  exact in3_le (by decide) h
theorem minus_in {p q : P3} (hp : in3 16777216 p) (hq : in3 16777216 q) : in3 4398046511104 (minus3 p q) := by
  rw [minus3_eq p q (in3_le (by decide) hp) (in3_le (by decide) hq)]
  unfold in3 at *
  simp only
  omega
end Go.Proofs.Ytckdhahceelckaa.G
namespace Go.Proofs.Ytckdhahceelckaa.G
open Go.RowKit Go.Proofs.YtckdhahceelckaaW.PrintWords Go.Proofs.YtckdhahceelckaaW.PrintLast Go.Proofs.YtckdhahceelckaaW.PrintMore
set_option linter.unusedVariables false
set_option linter.unusedSimpArgs false
/-- the list while the edges are crossed -/
def ed2 (L ea eb : List P3) (i k : Nat) : List P3 := L ++ (edgeW (ea.take i) eb ++ (eb.take k).map (cross3 (ea.getD i ⟨0, 0, 0⟩)))
theorem getD_at (l : List P3) (i : Nat) (h : i < l.length) : l.getD i ⟨0, 0, 0⟩ = l[i] := by rw [List.getD_eq_getElem?_getD, List.getElem?_eq_getElem h]; rfl
theorem ed2_step (L ea eb : List P3) (i k : Nat) (hi : i < ea.length) (hk : k < eb.length) : ed2 L ea eb i k ++ [cross3 ea[i] eb[k]] = ed2 L ea eb i (k + 1) := by
  unfold ed2
  rw [mapM_snoc _ _ _ hk, getD_at _ _ hi, List.append_assoc, List.append_assoc]
theorem ed2_end (L ea eb : List P3) (i : Nat) (hi : i < ea.length) : ed2 L ea eb i eb.length = ed2 L ea eb (i + 1) 0 := by
  unfold ed2
  rw [edgeW_snoc _ _ _ hi, List.take_length, getD_at _ _ hi]
  simp
theorem ed2_start (L ea eb : List P3) : ed2 L ea eb 0 0 = L := by unfold ed2 edgeW; simp
theorem ed2_all (L ea eb : List P3) : ed2 L ea eb ea.length 0 = L ++ edgeW ea eb := by unfold ed2; simp
theorem ed2_len (L ea eb : List P3) (i k : Nat) (h0 : L.length ≤ 256) (h1 : ea.length ≤ 128) (h2 : eb.length ≤ 128) : (ed2 L ea eb i k).length ≤ 17000 := by
  unfold ed2 edgeW
  rw [List.length_append, List.length_append, List.length_map]
  have a := flat_le (fun e => eb.map fun f => cross3 e f) 128 (ea.take i) (fun x _ => by rw [List.length_map]; exact h2)
  have b := List.length_take_le i ea
  have b' := List.length_take_le' i ea
  have c := List.length_take_le' k eb
  have d := Nat.mul_le_mul (show (ea.take i).length ≤ 128 by omega) (Nat.le_refl 128)
  omega
/-- the list while the points are gone through -/
def pt2 (L pa pb es : List P3) (i k : Nat) : List P3 := L ++ (pointW (pa.take i) pb es ++ (pb.take k).flatMap (roundW es (pa.getD i ⟨0, 0, 0⟩)))
theorem pt2_end (L pa pb es : List P3) (i : Nat) (hi : i < pa.length) : pt2 L pa pb es i pb.length = pt2 L pa pb es (i + 1) 0 := by
  unfold pt2 pointW
  rw [flatM_snoc _ _ _ hi, List.take_length, getD_at _ _ hi]
  simp
theorem pt2_start (L pa pb es : List P3) : pt2 L pa pb es 0 0 = L := by unfold pt2 pointW; simp
theorem pt2_all (L pa pb es : List P3) : pt2 L pa pb es pa.length 0 = L ++ pointW pa pb es := by unfold pt2; simp
theorem roundW_len (es : List P3) (p q : P3) : (roundW es p q).length = es.length + 1 := by unfold roundW; simp
theorem pt2_len (L pa pb es : List P3) (i k : Nat) (hi : i < pa.length) (h0 : L.length ≤ 17000) (h1 : pa.length ≤ 32) (h2 : pb.length ≤ 32) (h3 : es.length ≤ 256) (hm : pa.length ≤ 2 ∨ pb.length ≤ 2) : (pt2 L pa pb es i k).length ≤ 34000 := by
  unfold pt2 pointW
  rw [List.length_append, List.length_append]
  have a := flat_le (fun p => pb.flatMap fun q => roundW es p q) (pb.length * 257) (pa.take i) (fun x _ => flat_le _ 257 pb fun y _ => by rw [roundW_len]; omega)
  have b := flat_le (roundW es (pa.getD i ⟨0, 0, 0⟩)) 257 (pb.take k) (fun x _ => by rw [roundW_len]; omega)
  have b1 := List.length_take_le i pa
  have c := List.length_take_le' k pb
  have d := Nat.mul_le_mul c (Nat.le_refl 257)
  have e : (pa.take i).length + 1 ≤ pa.length := by rw [List.length_take]; omega
  have f := Nat.mul_le_mul e (Nat.le_refl (pb.length * 257))
  rw [Nat.add_mul, Nat.one_mul] at f
  have g : pa.length * (pb.length * 257) ≤ 64 * 257 := by
    rw [← Nat.mul_assoc]
    apply Nat.mul_le_mul_right
    rcases hm with h | h
    · exact Nat.le_trans (Nat.mul_le_mul h h2) (by decide)
    · exact Nat.le_trans (Nat.mul_le_mul h1 h) (by decide)
  omega
/-- the list while one pair's edges are gone through -/
def pt3 (L pa pb es : List P3) (i k : Nat) (d : P3) (m : Nat) : List P3 := pt2 L pa pb es i k ++ (d :: (es.take m).map fun e => cross3 (short3 (cross3 e d)) e)
theorem pt3_start (L pa pb es : List P3) (i k : Nat) (d : P3) : pt2 L pa pb es i k ++ [d] = pt3 L pa pb es i k d 0 := by unfold pt3; simp
theorem pt3_step (L pa pb es : List P3) (i k : Nat) (d : P3) (m : Nat) (h : m < es.length) : pt3 L pa pb es i k d m ++ [cross3 (short3 (cross3 es[m] d)) es[m]] = pt3 L pa pb es i k d (m + 1) := by
  unfold pt3
  rw [mapM_snoc _ _ _ h, List.append_assoc, List.cons_append]
theorem pt3_end (L pa pb es : List P3) (i k : Nat) (hi : i < pa.length) (hk : k < pb.length) : pt3 L pa pb es i k (short3 (minus3 pb[k] pa[i])) es.length = pt2 L pa pb es i (k + 1) := by
  unfold pt3 pt2
  rw [flatM_snoc _ _ _ hk, getD_at _ _ hi, List.take_length]
  simp [roundW]
theorem pt3_len (L pa pb es : List P3) (i k : Nat) (d : P3) (m : Nat) (hi : i < pa.length) (h0 : L.length ≤ 17000) (h1 : pa.length ≤ 32) (h2 : pb.length ≤ 32) (h3 : es.length ≤ 256) (hm : pa.length ≤ 2 ∨ pb.length ≤ 2) : (pt3 L pa pb es i k d m).length ≤ 35000 := by
  unfold pt3
  rw [List.length_append, List.length_cons, List.length_map]
  have := pt2_len L pa pb es i k hi h0 h1 h2 h3 hm
  have := List.length_take_le' m es
  omega
/-- all that is gathered may be made long -/
theorem rawC_in (pa aa ea pb ab eb : List P3) (ra rb : Int) (m : MayP pa aa ea ra) (k : MayP pb ab eb rb) : ∀ x ∈ rawC pa aa ea pb ab eb, in3 4398046511104 x := by
  have fin : ∀ {n : Int} {l : List P3}, 0 ≤ n → n ≤ 9223372036854775807 → l.any (far3 n) = false → ∀ x ∈ l, in3 n x := by
    intro n l h0 h1 h x hx
    rw [List.any_eq_false] at h
    exact (far3_iff n x h0 h1).1 (by simpa using h x hx)
  have paI := fin (by decide) (by decide) m.pf
  have pbI := fin (by decide) (by decide) k.pf
  have aaI := fin (by decide) (by decide) m.af
  have abI := fin (by decide) (by decide) k.af
  have eaI := fin (by decide) (by decide) m.ef
  have ebI := fin (by decide) (by decide) k.ef
  intro x hx
  unfold rawC at hx
  rcases List.mem_append.1 hx with h | h
  · rcases List.mem_append.1 h with h | h
    · exact in3_le (by decide) (aaI x h)
    · exact in3_le (by decide) (abI x h)
  · rcases List.mem_append.1 h with h | h
    · unfold edgeW at h
      obtain ⟨e, he, h⟩ := List.mem_flatMap.1 h
      obtain ⟨f, hf, rfl⟩ := List.mem_map.1 h
      exact cross_in (eaI e he) (ebI f hf)
    · split at h
      · simp at h
      · unfold pointW at h
        obtain ⟨p, hp, h⟩ := List.mem_flatMap.1 h
        obtain ⟨q, hq, h⟩ := List.mem_flatMap.1 h
        unfold roundW at h
        rcases List.mem_cons.1 h with rfl | h
        · exact in3_le (by decide) (short3_in _)
        · obtain ⟨e, he, rfl⟩ := List.mem_map.1 h
          have eI : in3 1048576 e := by
            rcases List.mem_append.1 he with he | he
            · exact eaI e he
            · exact ebI e he
          exact cross_in (short3_in _) eI
theorem rawC_len (pa aa ea pb ab eb : List P3) (ra rb : Int) (m : MayP pa aa ea ra) (k : MayP pb ab eb rb) : (rawC pa aa ea pb ab eb).length ≤ 34000 := by
  have := m.a1; have := k.a1; have := m.e1; have := k.e1; have := m.p1; have := k.p1
  have h1 := ed2_len (aa ++ ab) ea eb ea.length 0 (by rw [List.length_append]; omega) (by omega) (by omega)
  rw [ed2_all] at h1
  unfold rawC
  rw [← List.append_assoc]
  split
  · simpa using (by omega : ((aa ++ ab) ++ edgeW ea eb).length ≤ 34000)
  · rename_i hm
    obtain ⟨p0, pr, hp⟩ := List.exists_cons_of_ne_nil m.p0
    have hl : pa.length - 1 < pa.length := by rw [hp]; simp
    have h2 := pt2_len ((aa ++ ab) ++ edgeW ea eb) pa pb (ea ++ eb) (pa.length - 1) pb.length hl h1 (by omega) (by omega) (by rw [List.length_append]; omega) (by unfold mn at hm; split at hm <;> omega)
    rw [pt2_end _ _ _ _ _ hl, show pa.length - 1 + 1 = pa.length by omega, pt2_all] at h2
    exact h2
end Go.Proofs.Ytckdhahceelckaa.G
