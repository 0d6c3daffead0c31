/- What the laws of this claim lean on: contracts of the functions that they reach, and plain lemmas; no condition of its own (part 3 of 6; the texts XW19, XW20, XW21, XG1, XG2, XN19, XN20, XG3, XW22, XW25, XW26, XW27, XW28, XW23, XW24, XW30). -/
import Derived.Test.YtckdhahceelckaaKSU2
namespace Go.Proofs.Ytckdhahceelckaa.G
open Go.RowKit Go.Proofs.YtckdhahceelckaaW.PrintWords Go.Proofs.YtckdhahceelckaaW.PrintLast Go.Proofs.YtckdhahceelckaaW.PrintMore
attribute [local go_sem] max2_mx min2_mn max_two min_two max_three min_three max_four min_four
set_option linter.unusedVariables false
set_option linter.unusedSimpArgs false
/-- a pose: where, and how it is turned -/
structure P7 where
  at_ : P3
  turn : Q4
abbrev cP7 (p : P7) : Array Value := #[.int .i64 p.at_.x, .int .i64 p.at_.y, .int .i64 p.at_.z, .int .i64 p.turn.w, .int .i64 p.turn.x, .int .i64 p.turn.y, .int .i64 p.turn.z]
def partQ (q : Q4) : Q4 := ⟨partF q.w 1099511627776, partF q.x 1099511627776, partF q.y 1099511627776, partF q.z 1099511627776⟩
def partV (p : P3) : P3 := ⟨partF p.x 4398046511104, partF p.y 4398046511104, partF p.z 4398046511104⟩
def wholeF (q : Q4) : Q4 := if lenF q < 2147483648 then ⟨4294967296, 0, 0, 0⟩ else unitF q
def rightPose (p : P7) : P7 := ⟨partV p.at_, wholeF (partQ p.turn)⟩
def i64 (x : Int) : Prop := -9223372036854775808 ≤ x ∧ x ≤ 9223372036854775807
def i64s (p : P7) : Prop := i64 p.at_.x ∧ i64 p.at_.y ∧ i64 p.at_.z ∧ i64 p.turn.w ∧ i64 p.turn.x ∧ i64 p.turn.y ∧ i64 p.turn.z
/-- block g holds a pose -/
def Pk (w : World) (g : Nat) (t : TypeId) (p : P7) : Prop := w.heap[g]? = some (.cells (cP7 p) t (0, 0))
theorem Wk.of {w : World} {g : Nat} (h : w.heap[g]? = some (.cells #[.bool false] 85 (0, 0))) : Wk w g := h
theorem part_raw (x : Int) : raw40 (partF x 1099511627776) := by have := partF_bd x 1099511627776 (by decide); exact this
set_option maxHeartbeats 4000000 in
set_option maxRecDepth 100000 in
theorem right6_good (p : P7) (w : World) (hp : i64s p) (hn : 2147483648 ≤ lenF (partQ p.turn)) :
    Calls Try.prog 55 #[.agg (cP7 p)] w fun e w' => e = .returned (.agg (cP7 (rightPose p))) ∧ Below w.heap.size w w' := by
  obtain ⟨⟨ax, ay, az⟩, ⟨tw, tx, ty, tz⟩⟩ := p
  obtain ⟨i1, i2, i3, i4, i5, i6, i7⟩ := hp
  have HR : Hid (raw40 (partF tw 1099511627776) ∧ raw40 (partF tx 1099511627776) ∧ raw40 (partF ty 1099511627776) ∧ raw40 (partF tz 1099511627776)) := Lh ⟨part_raw _, part_raw _, part_raw _, part_raw _⟩
  have hptw := Lh (part6_calls tw 1099511627776 i4.1 i4.2 (by decide) (by decide))
  have hptx := Lh (part6_calls tx 1099511627776 i5.1 i5.2 (by decide) (by decide))
  have hpty := Lh (part6_calls ty 1099511627776 i6.1 i6.2 (by decide) (by decide))
  have hptz := Lh (part6_calls tz 1099511627776 i7.1 i7.2 (by decide) (by decide))
  have hpax := Lh (part6_calls ax 4398046511104 i1.1 i1.2 (by decide) (by decide))
  have hpay := Lh (part6_calls ay 4398046511104 i2.1 i2.2 (by decide) (by decide))
  have hpaz := Lh (part6_calls az 4398046511104 i3.1 i3.2 (by decide) (by decide))
  clear i1 i2 i3 i4 i5 i6 i7
  have HE := Lh (show rightPose ⟨⟨ax, ay, az⟩, ⟨tw, tx, ty, tz⟩⟩ = ⟨⟨partF ax 4398046511104, partF ay 4398046511104, partF az 4398046511104⟩, wholeF ⟨partF tw 1099511627776, partF tx 1099511627776, partF ty 1099511627776, partF tz 1099511627776⟩⟩ from rfl)
  have HN : Hid _ := Lh hn
  change Hid (2147483648 ≤ lenF (⟨partF tw 1099511627776, partF tx 1099511627776, partF ty 1099511627776, partF tz 1099511627776⟩)) at HN
  clear hn
  generalize partF tw 1099511627776 = qa at *
  generalize partF tx 1099511627776 = qb at *
  generalize partF ty 1099511627776 = qc at *
  generalize partF tz 1099511627776 = qd at *
  generalize partF ax 4398046511104 = ra at *
  generalize partF ay 4398046511104 = rb at *
  generalize partF az 4398046511104 = rc at *
  go_enter Try.func55, Try.ntmps55
  go_wp2_with fail
  obtain ⟨w1, hw1⟩ : ∃ w1, ((w.alloc (.cells #[.int .i64 ax, .int .i64 ay, .int .i64 az, .int .i64 tw, .int .i64 tx, .int .i64 ty, .int .i64 tz] 31)).alloc (.cells #[.int .i64 0, .int .i64 0, .int .i64 0, .int .i64 0, .int .i64 0, .int .i64 0, .int .i64 0] 92)).alloc (.cells #[.bool false] 85) = w1 := ⟨_, rfl⟩
  have RA : Hid (w1.heap[w.heap.size]? = some (.cells #[.int .i64 ax, .int .i64 ay, .int .i64 az, .int .i64 tw, .int .i64 tx, .int .i64 ty, .int .i64 tz] 31 (0, 0))) := Lh (by rw [← hw1]; exact three0 _ _ _ _)
  have RZ : Hid (w1.heap[w.heap.size + 1]? = some (.cells #[.int .i64 0, .int .i64 0, .int .i64 0, .int .i64 0, .int .i64 0, .int .i64 0, .int .i64 0] 92 (0, 0))) := Lh (by rw [← hw1]; exact three1 _ _ _ _)
  have WK : Hid (Wk w1 (w.heap.size + 1 + 1)) := Lh (by rw [← hw1]; exact three2 _ _ _ _)
  have WKh : Hid (w1.heap[w.heap.size + 1 + 1]? = some (.cells #[.bool false] 85 (0, 0))) := WK
  have HW1 := Lh (show Below w.heap.size w w1 by rw [← hw1]; exact (((Below.refl _ w).alloc (Nat.le_refl _) _).alloc (by simp) _).alloc (by simp; omega) _)
  have hz1 : w1.heap.size = w.heap.size + 1 + 1 + 1 := by rw [← hw1]; simp
  rw [hw1]
  clear hw1
  have y3 : w1.cell? ⟨w.heap.size, 3, none⟩ = some (.int .i64 tw) := (blk_cell RA.out 3).trans rfl
  have y4 : w1.cell? ⟨w.heap.size, 4, none⟩ = some (.int .i64 tx) := (blk_cell RA.out 4).trans rfl
  have y5 : w1.cell? ⟨w.heap.size, 5, none⟩ = some (.int .i64 ty) := (blk_cell RA.out 5).trans rfl
  have y6 : w1.cell? ⟨w.heap.size, 6, none⟩ = some (.int .i64 tz) := (blk_cell RA.out 6).trans rfl
  have ltq : w.heap.size < w1.heap.size := by omega
  have ltz : w.heap.size + 1 < w1.heap.size := by omega
  have ltg : w.heap.size + 1 + 1 < w1.heap.size := by omega
  have HZ1 := Lh hz1
  clear hz1
  have hU : Hid (wholeF ⟨qa, qb, qc, qd⟩ = unitF ⟨qa, qb, qc, qd⟩) := Lh (by unfold wholeF; rw [if_neg (by have := HN.out; omega)])
  obtain ⟨⟨ua, ub, uc, ud⟩, hu⟩ : ∃ u, unitF ⟨qa, qb, qc, qd⟩ = u := ⟨_, rfl⟩
  have HWh := Lh (fun (W : World) (h : Wk W (w.heap.size + 1 + 1)) => whole_good (w.heap.size + 1 + 1) ⟨qa, qb, qc, qd⟩ W h HR.out.1 HR.out.2.1 HR.out.2.2.1 HR.out.2.2.2 HN.out)
  rw [hu] at hU HWh
  clear hu
  have HB := Lh ((Below.refl (w1.heap.size) w1).drew)
  have FF := Lh (show ∀ V, Hid (Below (w1.heap.size) w1 V) → V.cell? ⟨w.heap.size, 3, none⟩ = some (.int .i64 tw) ∧ V.cell? ⟨w.heap.size, 4, none⟩ = some (.int .i64 tx) ∧ V.cell? ⟨w.heap.size, 5, none⟩ = some (.int .i64 ty) ∧ V.cell? ⟨w.heap.size, 6, none⟩ = some (.int .i64 tz) from fun V HB => ⟨(HB.out.cell (p := ⟨w.heap.size, 3, none⟩) (ltq)).trans y3, (HB.out.cell (p := ⟨w.heap.size, 4, none⟩) (ltq)).trans y4, (HB.out.cell (p := ⟨w.heap.size, 5, none⟩) (ltq)).trans y5, (HB.out.cell (p := ⟨w.heap.size, 6, none⟩) (ltq)).trans y6⟩)
  refine start_ (n := 21) (S := fun w' => w'.cell? ⟨w.heap.size, 3, none⟩ = some (.int .i64 tw) ∧ w'.cell? ⟨w.heap.size, 4, none⟩ = some (.int .i64 tx) ∧ w'.cell? ⟨w.heap.size, 5, none⟩ = some (.int .i64 ty) ∧ w'.cell? ⟨w.heap.size, 6, none⟩ = some (.int .i64 tz)) (ds := []) (MT 0 21) (by kernel_rfl) rfl rfl (FF.out _ HB) (fun hHeld => ?_)
  obtain ⟨wd, hwd⟩ : ∃ x, w1.drew = x := ⟨_, rfl⟩
  rw [hwd] at HB hHeld ⊢
  clear hwd
  refine pu_ 0 7 (h := ?_)
  refine pu_ 1 8 (h := ?_)
  refine pu_ 2 9 (h := ?_)
  refine pu_ 5 12 (h := ?_)
  refine pu_ 6 13 (h := ?_)
  refine pu_ 9 16 (h := ?_)
  refine pu_ 10 17 (h := ?_)
  refine pu_ 13 20 (h := ?_)
  refine pu_ 14 21 (h := ?_)
  refine ta_ 3 10 hHeld (h := ?_)
  refine ta_ 7 14 hHeld (h := ?_)
  refine ta_ 11 18 hHeld (h := ?_)
  refine ta_ 15 22 hHeld (h := ?_)
  refine join_ (σ := Nat) 1 (MT 20 1) (fun s => [(4, .pointer (some ⟨s, 0, none⟩)), (11, .int .i64 qa), (15, .int .i64 qb), (19, .int .i64 qc), (23, .int .i64 qd), (24, aQ ⟨qa, qb, qc, qd⟩), (25, aQ ⟨ua, ub, uc, ud⟩)]) (fun s w' => w1.heap.size ≤ s ∧ w'.heap[s]? = some (.cells #[.int .i64 0, .int .i64 0, .int .i64 0, .int .i64 0] 29 (0, 0)) ∧ Below (w1.heap.size) w1 w') ?_ ?_
  rotate_left
  · intro hCont
    refine two_ (i := 4) (j := 19) (Ni := some 11) (Nj := some 4) #[true, true, true, true, true, true, true, true, false, true, true, true, false, true, true, true, false, false, false, false, false] #[true, true, true, true, false, true, true, true, false, true, true, true, false, true, true, true, false, false, false, true, false] rfl rfl rfl rfl (by kernel_rfl) (by decide) (by decide) (fun K hK => ?_) (fun K hK => ?_)
    · skip
      refine gs_ Try.func107 #[.int .i64 tw, .int .i64 1099511627776] ?_
      with_reducible refine (hptw.out _).mono ?_
      rintro e w3 ⟨rfl, rfl⟩
      refine ⟨_, rfl, ?_⟩
      refine hK.out _ _ (FF.out _ HB) (fun hHeld => ?_)
      clear hK K
      refine no_ (h := ?_)
      refine two_ (i := 8) (j := 19) (Ni := some 15) (Nj := some 4) #[true, true, true, true, true, true, true, true, true, true, true, true, false, true, true, true, false, false, false, false, false] #[true, true, true, true, true, true, true, true, false, true, true, true, false, true, true, true, false, false, false, true, false] rfl rfl rfl rfl (by kernel_rfl) (by decide) (by decide) (fun K hK => ?_) (fun K hK => ?_)
      · skip
        refine gs_ Try.func107 #[.int .i64 tx, .int .i64 1099511627776] ?_
        with_reducible refine (hptx.out _).mono ?_
        rintro e w3 ⟨rfl, rfl⟩
        refine ⟨_, rfl, ?_⟩
        refine hK.out _ _ (FF.out _ HB) (fun hHeld => ?_)
        clear hK K
        refine no_ (h := ?_)
        refine two_ (i := 12) (j := 19) (Ni := some 19) (Nj := some 4) (MT 16 5) #[true, true, true, true, true, true, true, true, true, true, true, true, false, true, true, true, false, false, false, true, false] rfl rfl rfl rfl (by kernel_rfl) (by decide) (by decide) (fun K hK => ?_) (fun K hK => ?_)
        · skip
          refine gs_ Try.func107 #[.int .i64 ty, .int .i64 1099511627776] ?_
          with_reducible refine (hpty.out _).mono ?_
          rintro e w3 ⟨rfl, rfl⟩
          refine ⟨_, rfl, ?_⟩
          refine hK.out _ _ (FF.out _ HB) (fun hHeld => ?_)
          clear hK K
          refine no_ (h := ?_)
          refine two_ (i := 16) (j := 19) (Ni := some 23) (Nj := some 4) (MT 17 4) #[true, true, true, true, true, true, true, true, true, true, true, true, true, true, true, true, false, false, false, true, false] rfl rfl rfl rfl (by kernel_rfl) (by decide) (by decide) (fun K hK => ?_) (fun K hK => ?_)
          · skip
            refine gs_ Try.func107 #[.int .i64 tz, .int .i64 1099511627776] ?_
            with_reducible refine (hptz.out _).mono ?_
            rintro e w3 ⟨rfl, rfl⟩
            refine ⟨_, rfl, ?_⟩
            refine hK.out _ _ (FF.out _ HB) (fun hHeld => ?_)
            clear hK K
            refine no_ (h := ?_)
            refine pu_ 17 24 (h := ?_)
            refine two_ (i := 18) (j := 19) (Ni := some 25) (Nj := some 4) (MT 19 2) #[true, true, true, true, true, true, true, true, true, true, true, true, true, true, true, true, true, true, false, true, false] rfl rfl rfl rfl (by kernel_rfl) (by decide) (by decide) (fun K hK => ?_) (fun K hK => ?_)
            · skip
              refine gs_ Try.func106 #[.pointer (some ⟨w.heap.size + 1 + 1, 0, none⟩), aQ ⟨qa, qb, qc, qd⟩] ?_
              with_reducible refine (HWh.out _ (Wk.of ((HB.out.block _ ltg).trans WKh.out))).mono ?_
              rintro e w3 ⟨rfl, hb⟩
              have HB := Lh (HB.out.trans (hb.mono HB.out.size))
              clear hb
              refine ⟨_, rfl, ?_⟩
              refine hK.out _ _ (FF.out _ HB) (fun hHeld => ?_)
              clear hK K
              refine no_ (h := ?_)
              refine on_ 19 (some 4) (h := fun K hK => ?_)
              refine value_ (w1 := ?_) (v := ?_) (by rfl) rfl ?_ ?_
              rotate_left 2
              · go_simp
                constructor
                · rfl
                · rfl
              have HA := Lh (ha_new HB.out (.cells #[.int .i64 0, .int .i64 0, .int .i64 0, .int .i64 0] 29))
              have hge := HB.out.size
              have HB := Lh (HB.out.alloc (Nat.le_trans (Nat.le_refl _) HB.out.size) (.cells #[.int .i64 0, .int .i64 0, .int .i64 0, .int .i64 0] 29))
              refine hK.out _ _ (FF.out _ HB) (fun hHeld => ?_)
              clear hK K
              refine no_ (h := ?_)
              exact norm_ (by simp only [putAll, Act.put, List.setIfInBounds_toArray, List.set_cons_zero, List.set_cons_succ]) (hCont _ _ ⟨hge, HA.out, HB.out⟩)
            · skip
              refine value_ (w1 := ?_) (v := ?_) (by rfl) rfl ?_ ?_
              rotate_left 2
              · go_simp
                constructor
                · rfl
                · rfl
              have HA := Lh (ha_new HB.out (.cells #[.int .i64 0, .int .i64 0, .int .i64 0, .int .i64 0] 29))
              have hge := HB.out.size
              have HB := Lh (HB.out.alloc (Nat.le_trans (Nat.le_refl _) HB.out.size) (.cells #[.int .i64 0, .int .i64 0, .int .i64 0, .int .i64 0] 29))
              refine hK.out _ _ (FF.out _ HB) (fun hHeld => ?_)
              clear hK K
              refine no_ (h := ?_)
              refine on_ 18 (some 25) (h := fun K hK => ?_)
              refine gs_ Try.func106 #[.pointer (some ⟨w.heap.size + 1 + 1, 0, none⟩), aQ ⟨qa, qb, qc, qd⟩] ?_
              with_reducible refine (HWh.out _ (Wk.of ((HB.out.block _ ltg).trans WKh.out))).mono ?_
              rintro e w3 ⟨rfl, hb⟩
              have HB := Lh (HB.out.trans (hb.mono HB.out.size))
              have HA := Lh ((hb.block _ (blk_lt HA.out)).trans HA.out)
              clear hb
              refine ⟨_, rfl, ?_⟩
              refine hK.out _ _ (FF.out _ HB) (fun hHeld => ?_)
              clear hK K
              refine no_ (h := ?_)
              exact norm_ (by simp only [putAll, Act.put, List.setIfInBounds_toArray, List.set_cons_zero, List.set_cons_succ]) (hCont _ _ ⟨hge, HA.out, HB.out⟩)
          · skip
            refine value_ (w1 := ?_) (v := ?_) (by rfl) rfl ?_ ?_
            rotate_left 2
            · go_simp
              constructor
              · rfl
              · rfl
            have HA := Lh (ha_new HB.out (.cells #[.int .i64 0, .int .i64 0, .int .i64 0, .int .i64 0] 29))
            have hge := HB.out.size
            have HB := Lh (HB.out.alloc (Nat.le_trans (Nat.le_refl _) HB.out.size) (.cells #[.int .i64 0, .int .i64 0, .int .i64 0, .int .i64 0] 29))
            refine hK.out _ _ (FF.out _ HB) (fun hHeld => ?_)
            clear hK K
            refine no_ (h := ?_)
            refine on_ 16 (some 23) (h := fun K hK => ?_)
            refine gs_ Try.func107 #[.int .i64 tz, .int .i64 1099511627776] ?_
            with_reducible refine (hptz.out _).mono ?_
            rintro e w3 ⟨rfl, rfl⟩
            refine ⟨_, rfl, ?_⟩
            refine hK.out _ _ (FF.out _ HB) (fun hHeld => ?_)
            clear hK K
            refine no_ (h := ?_)
            refine pu_ 17 24 (h := ?_)
            refine on_ 18 (some 25) (h := fun K hK => ?_)
            refine gs_ Try.func106 #[.pointer (some ⟨w.heap.size + 1 + 1, 0, none⟩), aQ ⟨qa, qb, qc, qd⟩] ?_
            with_reducible refine (HWh.out _ (Wk.of ((HB.out.block _ ltg).trans WKh.out))).mono ?_
            rintro e w3 ⟨rfl, hb⟩
            have HB := Lh (HB.out.trans (hb.mono HB.out.size))
            have HA := Lh ((hb.block _ (blk_lt HA.out)).trans HA.out)
            clear hb
            refine ⟨_, rfl, ?_⟩
            refine hK.out _ _ (FF.out _ HB) (fun hHeld => ?_)
            clear hK K
            refine no_ (h := ?_)
            exact norm_ (by simp only [putAll, Act.put, List.setIfInBounds_toArray, List.set_cons_zero, List.set_cons_succ]) (hCont _ _ ⟨hge, HA.out, HB.out⟩)
        · skip
          refine value_ (w1 := ?_) (v := ?_) (by rfl) rfl ?_ ?_
          rotate_left 2
          · go_simp
            constructor
            · rfl
            · rfl
          have HA := Lh (ha_new HB.out (.cells #[.int .i64 0, .int .i64 0, .int .i64 0, .int .i64 0] 29))
          have hge := HB.out.size
          have HB := Lh (HB.out.alloc (Nat.le_trans (Nat.le_refl _) HB.out.size) (.cells #[.int .i64 0, .int .i64 0, .int .i64 0, .int .i64 0] 29))
          refine hK.out _ _ (FF.out _ HB) (fun hHeld => ?_)
          clear hK K
          refine no_ (h := ?_)
          refine on_ 12 (some 19) (h := fun K hK => ?_)
          refine gs_ Try.func107 #[.int .i64 ty, .int .i64 1099511627776] ?_
          with_reducible refine (hpty.out _).mono ?_
          rintro e w3 ⟨rfl, rfl⟩
          refine ⟨_, rfl, ?_⟩
          refine hK.out _ _ (FF.out _ HB) (fun hHeld => ?_)
          clear hK K
          refine no_ (h := ?_)
          refine on_ 16 (some 23) (h := fun K hK => ?_)
          refine gs_ Try.func107 #[.int .i64 tz, .int .i64 1099511627776] ?_
          with_reducible refine (hptz.out _).mono ?_
          rintro e w3 ⟨rfl, rfl⟩
          refine ⟨_, rfl, ?_⟩
          refine hK.out _ _ (FF.out _ HB) (fun hHeld => ?_)
          clear hK K
          refine no_ (h := ?_)
          refine pu_ 17 24 (h := ?_)
          refine on_ 18 (some 25) (h := fun K hK => ?_)
          refine gs_ Try.func106 #[.pointer (some ⟨w.heap.size + 1 + 1, 0, none⟩), aQ ⟨qa, qb, qc, qd⟩] ?_
          with_reducible refine (HWh.out _ (Wk.of ((HB.out.block _ ltg).trans WKh.out))).mono ?_
          rintro e w3 ⟨rfl, hb⟩
          have HB := Lh (HB.out.trans (hb.mono HB.out.size))
          have HA := Lh ((hb.block _ (blk_lt HA.out)).trans HA.out)
          clear hb
          refine ⟨_, rfl, ?_⟩
          refine hK.out _ _ (FF.out _ HB) (fun hHeld => ?_)
          clear hK K
          refine no_ (h := ?_)
          exact norm_ (by simp only [putAll, Act.put, List.setIfInBounds_toArray, List.set_cons_zero, List.set_cons_succ]) (hCont _ _ ⟨hge, HA.out, HB.out⟩)
      · skip
        refine value_ (w1 := ?_) (v := ?_) (by rfl) rfl ?_ ?_
        rotate_left 2
        · go_simp
          constructor
          · rfl
          · rfl
        have HA := Lh (ha_new HB.out (.cells #[.int .i64 0, .int .i64 0, .int .i64 0, .int .i64 0] 29))
        have hge := HB.out.size
        have HB := Lh (HB.out.alloc (Nat.le_trans (Nat.le_refl _) HB.out.size) (.cells #[.int .i64 0, .int .i64 0, .int .i64 0, .int .i64 0] 29))
        refine hK.out _ _ (FF.out _ HB) (fun hHeld => ?_)
        clear hK K
        refine no_ (h := ?_)
        refine on_ 8 (some 15) (h := fun K hK => ?_)
        refine gs_ Try.func107 #[.int .i64 tx, .int .i64 1099511627776] ?_
        with_reducible refine (hptx.out _).mono ?_
        rintro e w3 ⟨rfl, rfl⟩
        refine ⟨_, rfl, ?_⟩
        refine hK.out _ _ (FF.out _ HB) (fun hHeld => ?_)
        clear hK K
        refine no_ (h := ?_)
        refine on_ 12 (some 19) (h := fun K hK => ?_)
        refine gs_ Try.func107 #[.int .i64 ty, .int .i64 1099511627776] ?_
        with_reducible refine (hpty.out _).mono ?_
        rintro e w3 ⟨rfl, rfl⟩
        refine ⟨_, rfl, ?_⟩
        refine hK.out _ _ (FF.out _ HB) (fun hHeld => ?_)
        clear hK K
        refine no_ (h := ?_)
        refine on_ 16 (some 23) (h := fun K hK => ?_)
        refine gs_ Try.func107 #[.int .i64 tz, .int .i64 1099511627776] ?_
        with_reducible refine (hptz.out _).mono ?_
        rintro e w3 ⟨rfl, rfl⟩
        refine ⟨_, rfl, ?_⟩
        refine hK.out _ _ (FF.out _ HB) (fun hHeld => ?_)
        clear hK K
        refine no_ (h := ?_)
        refine pu_ 17 24 (h := ?_)
        refine on_ 18 (some 25) (h := fun K hK => ?_)
        refine gs_ Try.func106 #[.pointer (some ⟨w.heap.size + 1 + 1, 0, none⟩), aQ ⟨qa, qb, qc, qd⟩] ?_
        with_reducible refine (HWh.out _ (Wk.of ((HB.out.block _ ltg).trans WKh.out))).mono ?_
        rintro e w3 ⟨rfl, hb⟩
        have HB := Lh (HB.out.trans (hb.mono HB.out.size))
        have HA := Lh ((hb.block _ (blk_lt HA.out)).trans HA.out)
        clear hb
        refine ⟨_, rfl, ?_⟩
        refine hK.out _ _ (FF.out _ HB) (fun hHeld => ?_)
        clear hK K
        refine no_ (h := ?_)
        exact norm_ (by simp only [putAll, Act.put, List.setIfInBounds_toArray, List.set_cons_zero, List.set_cons_succ]) (hCont _ _ ⟨hge, HA.out, HB.out⟩)
    · skip
      refine value_ (w1 := ?_) (v := ?_) (by rfl) rfl ?_ ?_
      rotate_left 2
      · go_simp
        constructor
        · rfl
        · rfl
      have HA := Lh (ha_new HB.out (.cells #[.int .i64 0, .int .i64 0, .int .i64 0, .int .i64 0] 29))
      have hge := HB.out.size
      have HB := Lh (HB.out.alloc (Nat.le_trans (Nat.le_refl _) HB.out.size) (.cells #[.int .i64 0, .int .i64 0, .int .i64 0, .int .i64 0] 29))
      refine hK.out _ _ (FF.out _ HB) (fun hHeld => ?_)
      clear hK K
      refine no_ (h := ?_)
      refine on_ 4 (some 11) (h := fun K hK => ?_)
      refine gs_ Try.func107 #[.int .i64 tw, .int .i64 1099511627776] ?_
      with_reducible refine (hptw.out _).mono ?_
      rintro e w3 ⟨rfl, rfl⟩
      refine ⟨_, rfl, ?_⟩
      refine hK.out _ _ (FF.out _ HB) (fun hHeld => ?_)
      clear hK K
      refine no_ (h := ?_)
      refine on_ 8 (some 15) (h := fun K hK => ?_)
      refine gs_ Try.func107 #[.int .i64 tx, .int .i64 1099511627776] ?_
      with_reducible refine (hptx.out _).mono ?_
      rintro e w3 ⟨rfl, rfl⟩
      refine ⟨_, rfl, ?_⟩
      refine hK.out _ _ (FF.out _ HB) (fun hHeld => ?_)
      clear hK K
      refine no_ (h := ?_)
      refine on_ 12 (some 19) (h := fun K hK => ?_)
      refine gs_ Try.func107 #[.int .i64 ty, .int .i64 1099511627776] ?_
      with_reducible refine (hpty.out _).mono ?_
      rintro e w3 ⟨rfl, rfl⟩
      refine ⟨_, rfl, ?_⟩
      refine hK.out _ _ (FF.out _ HB) (fun hHeld => ?_)
      clear hK K
      refine no_ (h := ?_)
      refine on_ 16 (some 23) (h := fun K hK => ?_)
      refine gs_ Try.func107 #[.int .i64 tz, .int .i64 1099511627776] ?_
      with_reducible refine (hptz.out _).mono ?_
      rintro e w3 ⟨rfl, rfl⟩
      refine ⟨_, rfl, ?_⟩
      refine hK.out _ _ (FF.out _ HB) (fun hHeld => ?_)
      clear hK K
      refine no_ (h := ?_)
      refine pu_ 17 24 (h := ?_)
      refine on_ 18 (some 25) (h := fun K hK => ?_)
      refine gs_ Try.func106 #[.pointer (some ⟨w.heap.size + 1 + 1, 0, none⟩), aQ ⟨qa, qb, qc, qd⟩] ?_
      with_reducible refine (HWh.out _ (Wk.of ((HB.out.block _ ltg).trans WKh.out))).mono ?_
      rintro e w3 ⟨rfl, hb⟩
      have HB := Lh (HB.out.trans (hb.mono HB.out.size))
      have HA := Lh ((hb.block _ (blk_lt HA.out)).trans HA.out)
      clear hb
      refine ⟨_, rfl, ?_⟩
      refine hK.out _ _ (FF.out _ HB) (fun hHeld => ?_)
      clear hK K
      refine no_ (h := ?_)
      exact norm_ (by simp only [putAll, Act.put, List.setIfInBounds_toArray, List.set_cons_zero, List.set_cons_succ]) (hCont _ _ ⟨hge, HA.out, HB.out⟩)
  rintro AB wj ⟨hge, HA, HB⟩
  have HA := Lh HA
  have HB := Lh HB
  have hHeld := FF.out _ HB
  refine no_ (h := ?_)
  refine on_ 20 (none) (h := fun K hK => ?_)
  have sc0 : World.cell? _ ⟨AB, 0, none⟩ = some (.int .i64 0) := (blk_cell HA.out 0).trans rfl
  have sf0 := blk_frozen HA.out 0
  have sc1 : World.cell? _ ⟨AB, 1, none⟩ = some (.int .i64 0) := (blk_cell HA.out 1).trans rfl
  have sf1 := blk_frozen HA.out 1
  have sc2 : World.cell? _ ⟨AB, 2, none⟩ = some (.int .i64 0) := (blk_cell HA.out 2).trans rfl
  have sf2 := blk_frozen HA.out 2
  have sc3 : World.cell? _ ⟨AB, 3, none⟩ = some (.int .i64 0) := (blk_cell HA.out 3).trans rfl
  have sf3 := blk_frozen HA.out 3
  refine skip_ (w1 := ?_) (by rfl) rfl ?_ ?_
  rotate_left
  · go_simp
    rfl
  have HA := Lh (bs4 HA.out (.int .i64 ua) (.int .i64 ub) (.int .i64 uc) (.int .i64 ud))
  have HB := Lh (bb4 HB.out (Nat.le_trans (Nat.le_refl _) hge) (.int .i64 ua) (.int .i64 ub) (.int .i64 uc) (.int .i64 ud))
  clear sc0 sf0 sc1 sf1 sc2 sf2 sc3 sf3
  refine hK.out _ _ (FF.out _ HB) (fun hHeld => ?_)
  clear hK K
  refine done_ (by kernel_rfl) ?_
  obtain ⟨w2, hwn⟩ : ∃ V, ((((wj.setCell ⟨AB, 0, none⟩ (.int .i64 ua)).setCell ⟨AB, 1, none⟩ (.int .i64 ub)).setCell ⟨AB, 2, none⟩ (.int .i64 uc)).setCell ⟨AB, 3, none⟩ (.int .i64 ud)) = V := ⟨_, rfl⟩
  rw [hwn] at HA HB ⊢
  clear hwn
  have RA2 : Hid (w2.heap[w.heap.size]? = some (.cells #[.int .i64 ax, .int .i64 ay, .int .i64 az, .int .i64 tw, .int .i64 tx, .int .i64 ty, .int .i64 tz] 31 (0, 0))) := Lh ((HB.out.block _ (by omega)).trans RA.out)
  have RZ2 : Hid (w2.heap[w.heap.size + 1]? = some (.cells #[.int .i64 0, .int .i64 0, .int .i64 0, .int .i64 0, .int .i64 0, .int .i64 0, .int .i64 0] 92 (0, 0))) := Lh ((HB.out.block _ (by omega)).trans RZ.out)
  have HW2 := Lh (HW1.out.trans (HB.out.mono (by omega)))
  have HA2 := HA
  have hz2 : w1.heap.size ≤ w2.heap.size := HB.out.size
  have k0 : w2.cell? ⟨w.heap.size + 1 + 1, 0, none⟩ = some (.bool false) := (blk_cell ((HB.out.block _ ltg).trans WKh.out) 0).trans rfl
  have hgeA := hge
  have hz1 := HZ1.out
  have lta : AB < w2.heap.size := blk_lt HA2.out
  have ltq2 : w.heap.size < w2.heap.size := by omega
  clear hz1 HB HA hHeld hge y3 y4 y5 y6 RA RZ WK WKh HW1 ltg ltz ltq
  have y0 : w2.cell? ⟨w.heap.size, 0, none⟩ = some (.int .i64 ax) := (blk_cell RA2.out 0).trans rfl
  have y1 : w2.cell? ⟨w.heap.size, 1, none⟩ = some (.int .i64 ay) := (blk_cell RA2.out 1).trans rfl
  have y2 : w2.cell? ⟨w.heap.size, 2, none⟩ = some (.int .i64 az) := (blk_cell RA2.out 2).trans rfl
  have a0 : w2.cell? ⟨AB, 0, none⟩ = some (.int .i64 ua) := (blk_cell HA2.out 0).trans rfl
  have a1 : w2.cell? ⟨AB, 1, none⟩ = some (.int .i64 ub) := (blk_cell HA2.out 1).trans rfl
  have a2 : w2.cell? ⟨AB, 2, none⟩ = some (.int .i64 uc) := (blk_cell HA2.out 2).trans rfl
  have a3 : w2.cell? ⟨AB, 3, none⟩ = some (.int .i64 ud) := (blk_cell HA2.out 3).trans rfl
  go_wp2_with fail
  have HB := Lh ((Below.refl (w2.heap.size) w2).drew)
  have HA := Lh (show w2.drew.heap[(w.heap.size + 1)]? = _ from RZ2.out)
  have FF := Lh (show ∀ V, Hid (Below (w2.heap.size) w2 V) → V.cell? ⟨w.heap.size, 0, none⟩ = some (.int .i64 ax) ∧ V.cell? ⟨w.heap.size, 1, none⟩ = some (.int .i64 ay) ∧ V.cell? ⟨w.heap.size, 2, none⟩ = some (.int .i64 az) ∧ V.cell? ⟨AB, 0, none⟩ = some (.int .i64 ua) ∧ V.cell? ⟨AB, 1, none⟩ = some (.int .i64 ub) ∧ V.cell? ⟨AB, 2, none⟩ = some (.int .i64 uc) ∧ V.cell? ⟨AB, 3, none⟩ = some (.int .i64 ud) from fun V HB => ⟨(HB.out.cell (p := ⟨w.heap.size, 0, none⟩) (ltq2)).trans y0, (HB.out.cell (p := ⟨w.heap.size, 1, none⟩) (ltq2)).trans y1, (HB.out.cell (p := ⟨w.heap.size, 2, none⟩) (ltq2)).trans y2, (HB.out.cell (p := ⟨AB, 0, none⟩) (lta)).trans a0, (HB.out.cell (p := ⟨AB, 1, none⟩) (lta)).trans a1, (HB.out.cell (p := ⟨AB, 2, none⟩) (lta)).trans a2, (HB.out.cell (p := ⟨AB, 3, none⟩) (lta)).trans a3⟩)
  refine start_ (n := 16) (S := fun w' => w'.cell? ⟨w.heap.size, 0, none⟩ = some (.int .i64 ax) ∧ w'.cell? ⟨w.heap.size, 1, none⟩ = some (.int .i64 ay) ∧ w'.cell? ⟨w.heap.size, 2, none⟩ = some (.int .i64 az) ∧ w'.cell? ⟨AB, 0, none⟩ = some (.int .i64 ua) ∧ w'.cell? ⟨AB, 1, none⟩ = some (.int .i64 ub) ∧ w'.cell? ⟨AB, 2, none⟩ = some (.int .i64 uc) ∧ w'.cell? ⟨AB, 3, none⟩ = some (.int .i64 ud)) (ds := [15]) (MT 0 16) (by kernel_rfl) rfl rfl (FF.out _ HB) (fun hHeld => ?_)
  obtain ⟨wd, hwd⟩ : ∃ x, w2.drew = x := ⟨_, rfl⟩
  rw [hwd] at HB hHeld HA ⊢
  clear hwd
  refine pu_ 0 31 (h := ?_)
  refine pu_ 1 32 (h := ?_)
  refine pu_ 4 35 (h := ?_)
  refine pu_ 5 36 (h := ?_)
  refine pu_ 8 39 (h := ?_)
  refine pu_ 9 40 (h := ?_)
  refine ta_ 2 33 hHeld (h := ?_)
  refine ta_ 6 37 hHeld (h := ?_)
  refine ta_ 10 41 hHeld (h := ?_)
  refine ta_ 13 44 hHeld (h := ?_)
  refine on_ 3 (some 34) (h := fun K hK => ?_)
  refine gs_ Try.func107 #[.int .i64 ax, .int .i64 4398046511104] ?_
  with_reducible refine (hpax.out _).mono ?_
  rintro e w3 ⟨rfl, rfl⟩
  refine ⟨_, rfl, ?_⟩
  refine hK.out _ _ (FF.out _ HB) (fun hHeld => ?_)
  clear hK K
  refine no_ (h := ?_)
  refine on_ 7 (some 38) (h := fun K hK => ?_)
  refine gs_ Try.func107 #[.int .i64 ay, .int .i64 4398046511104] ?_
  with_reducible refine (hpay.out _).mono ?_
  rintro e w3 ⟨rfl, rfl⟩
  refine ⟨_, rfl, ?_⟩
  refine hK.out _ _ (FF.out _ HB) (fun hHeld => ?_)
  clear hK K
  refine no_ (h := ?_)
  refine on_ 11 (some 42) (h := fun K hK => ?_)
  refine gs_ Try.func107 #[.int .i64 az, .int .i64 4398046511104] ?_
  with_reducible refine (hpaz.out _).mono ?_
  rintro e w3 ⟨rfl, rfl⟩
  refine ⟨_, rfl, ?_⟩
  refine hK.out _ _ (FF.out _ HB) (fun hHeld => ?_)
  clear hK K
  refine no_ (h := ?_)
  refine pu_ 12 43 (h := ?_)
  refine pu_ 14 45 (h := ?_)
  refine last_ (i := 15) (N := none) (MT 16 0) rfl rfl (by kernel_rfl) (by decide) (fun K hK => ?_)
  have sc0 : World.cell? _ ⟨(w.heap.size + 1), 0, none⟩ = some (.int .i64 0) := (blk_cell HA.out 0).trans rfl
  have sf0 := blk_frozen HA.out 0
  have sc1 : World.cell? _ ⟨(w.heap.size + 1), 1, none⟩ = some (.int .i64 0) := (blk_cell HA.out 1).trans rfl
  have sf1 := blk_frozen HA.out 1
  have sc2 : World.cell? _ ⟨(w.heap.size + 1), 2, none⟩ = some (.int .i64 0) := (blk_cell HA.out 2).trans rfl
  have sf2 := blk_frozen HA.out 2
  have sc3 : World.cell? _ ⟨(w.heap.size + 1), 3, none⟩ = some (.int .i64 0) := (blk_cell HA.out 3).trans rfl
  have sf3 := blk_frozen HA.out 3
  have sc4 : World.cell? _ ⟨(w.heap.size + 1), 4, none⟩ = some (.int .i64 0) := (blk_cell HA.out 4).trans rfl
  have sf4 := blk_frozen HA.out 4
  have sc5 : World.cell? _ ⟨(w.heap.size + 1), 5, none⟩ = some (.int .i64 0) := (blk_cell HA.out 5).trans rfl
  have sf5 := blk_frozen HA.out 5
  have sc6 : World.cell? _ ⟨(w.heap.size + 1), 6, none⟩ = some (.int .i64 0) := (blk_cell HA.out 6).trans rfl
  have sf6 := blk_frozen HA.out 6
  refine skip_ (w1 := ?_) (by rfl) rfl ?_ ?_
  rotate_left
  · go_simp
    rfl
  have HB := Lh (show Below (w.heap.size) _ _ from HB.out.mono (Nat.le_of_lt ltq2))
  have HA := Lh (bs7 HA.out (.int .i64 ra) (.int .i64 rb) (.int .i64 rc) (.int .i64 ua) (.int .i64 ub) (.int .i64 uc) (.int .i64 ud))
  have HB := Lh (bb7 HB.out (show w.heap.size ≤ w.heap.size + 1 from Nat.le_succ _) (.int .i64 ra) (.int .i64 rb) (.int .i64 rc) (.int .i64 ua) (.int .i64 ub) (.int .i64 uc) (.int .i64 ud))
  clear sc0 sf0 sc1 sf1 sc2 sf2 sc3 sf3 sc4 sf4 sc5 sf5 sc6 sf6
  refine hK.out _ _ ?_
  clear hK K
  refine done_ (by kernel_rfl) ?_
  obtain ⟨w5, hwn⟩ : ∃ V, (((((((w3.setCell ⟨(w.heap.size + 1), 0, none⟩ (.int .i64 ra)).setCell ⟨(w.heap.size + 1), 1, none⟩ (.int .i64 rb)).setCell ⟨(w.heap.size + 1), 2, none⟩ (.int .i64 rc)).setCell ⟨(w.heap.size + 1), 3, none⟩ (.int .i64 ua)).setCell ⟨(w.heap.size + 1), 4, none⟩ (.int .i64 ub)).setCell ⟨(w.heap.size + 1), 5, none⟩ (.int .i64 uc)).setCell ⟨(w.heap.size + 1), 6, none⟩ (.int .i64 ud)) = V := ⟨_, rfl⟩
  rw [hwn] at HA HB ⊢
  clear hwn
  have HW5 := Lh (HW2.out.trans HB.out)
  have t0 : w5.cell? ⟨w.heap.size + 1, 0, none⟩ = some (.int .i64 ra) := (blk_cell HA.out 0).trans rfl
  have t1 : w5.cell? ⟨w.heap.size + 1, 1, none⟩ = some (.int .i64 rb) := (blk_cell HA.out 1).trans rfl
  have t2 : w5.cell? ⟨w.heap.size + 1, 2, none⟩ = some (.int .i64 rc) := (blk_cell HA.out 2).trans rfl
  have t3 : w5.cell? ⟨w.heap.size + 1, 3, none⟩ = some (.int .i64 ua) := (blk_cell HA.out 3).trans rfl
  have t4 : w5.cell? ⟨w.heap.size + 1, 4, none⟩ = some (.int .i64 ub) := (blk_cell HA.out 4).trans rfl
  have t5 : w5.cell? ⟨w.heap.size + 1, 5, none⟩ = some (.int .i64 uc) := (blk_cell HA.out 5).trans rfl
  have t6 : w5.cell? ⟨w.heap.size + 1, 6, none⟩ = some (.int .i64 ud) := (blk_cell HA.out 6).trans rfl
  clear HB HA
  go_wp2
  rw [HE.out, hU.out]
  exact bodyPost_ret (v := .agg (cP7 ⟨⟨ra, rb, rc⟩, ⟨ua, ub, uc, ud⟩⟩)) (by simp [results, Try.results55, go_sem, t0, t1, t2, t3, t4, t5, t6]) rfl ⟨rfl, HW5.out⟩
set_option maxHeartbeats 4000000 in
set_option maxRecDepth 100000 in
theorem right6_bad (p : P7) (w : World) (hp : i64s p) (hn : lenF (partQ p.turn) < 2147483648) :
    Calls Try.prog 55 #[.agg (cP7 p)] w fun e w' => e = .returned (.agg (cP7 (rightPose p))) ∧ Below w.heap.size w w' := by
  obtain ⟨⟨ax, ay, az⟩, ⟨tw, tx, ty, tz⟩⟩ := p
  obtain ⟨i1, i2, i3, i4, i5, i6, i7⟩ := hp
  have HR : Hid (raw40 (partF tw 1099511627776) ∧ raw40 (partF tx 1099511627776) ∧ raw40 (partF ty 1099511627776) ∧ raw40 (partF tz 1099511627776)) := Lh ⟨part_raw _, part_raw _, part_raw _, part_raw _⟩
  have hptw := Lh (part6_calls tw 1099511627776 i4.1 i4.2 (by decide) (by decide))
  have hptx := Lh (part6_calls tx 1099511627776 i5.1 i5.2 (by decide) (by decide))
  have hpty := Lh (part6_calls ty 1099511627776 i6.1 i6.2 (by decide) (by decide))
  have hptz := Lh (part6_calls tz 1099511627776 i7.1 i7.2 (by decide) (by decide))
  have hpax := Lh (part6_calls ax 4398046511104 i1.1 i1.2 (by decide) (by decide))
  have hpay := Lh (part6_calls ay 4398046511104 i2.1 i2.2 (by decide) (by decide))
  have hpaz := Lh (part6_calls az 4398046511104 i3.1 i3.2 (by decide) (by decide))
  clear i1 i2 i3 i4 i5 i6 i7
  have HE := Lh (show rightPose ⟨⟨ax, ay, az⟩, ⟨tw, tx, ty, tz⟩⟩ = ⟨⟨partF ax 4398046511104, partF ay 4398046511104, partF az 4398046511104⟩, wholeF ⟨partF tw 1099511627776, partF tx 1099511627776, partF ty 1099511627776, partF tz 1099511627776⟩⟩ from rfl)
  have HN : Hid _ := Lh hn
  change Hid (lenF (⟨partF tw 1099511627776, partF tx 1099511627776, partF ty 1099511627776, partF tz 1099511627776⟩) < 2147483648) at HN
  clear hn
  generalize partF tw 1099511627776 = qa at *
  generalize partF tx 1099511627776 = qb at *
  generalize partF ty 1099511627776 = qc at *
  generalize partF tz 1099511627776 = qd at *
  generalize partF ax 4398046511104 = ra at *
  generalize partF ay 4398046511104 = rb at *
  generalize partF az 4398046511104 = rc at *
  go_enter Try.func55, Try.ntmps55
  go_wp2_with fail
  obtain ⟨w1, hw1⟩ : ∃ w1, ((w.alloc (.cells #[.int .i64 ax, .int .i64 ay, .int .i64 az, .int .i64 tw, .int .i64 tx, .int .i64 ty, .int .i64 tz] 31)).alloc (.cells #[.int .i64 0, .int .i64 0, .int .i64 0, .int .i64 0, .int .i64 0, .int .i64 0, .int .i64 0] 92)).alloc (.cells #[.bool false] 85) = w1 := ⟨_, rfl⟩
  have RA : Hid (w1.heap[w.heap.size]? = some (.cells #[.int .i64 ax, .int .i64 ay, .int .i64 az, .int .i64 tw, .int .i64 tx, .int .i64 ty, .int .i64 tz] 31 (0, 0))) := Lh (by rw [← hw1]; exact three0 _ _ _ _)
  have RZ : Hid (w1.heap[w.heap.size + 1]? = some (.cells #[.int .i64 0, .int .i64 0, .int .i64 0, .int .i64 0, .int .i64 0, .int .i64 0, .int .i64 0] 92 (0, 0))) := Lh (by rw [← hw1]; exact three1 _ _ _ _)
  have WK : Hid (Wk w1 (w.heap.size + 1 + 1)) := Lh (by rw [← hw1]; exact three2 _ _ _ _)
  have WKh : Hid (w1.heap[w.heap.size + 1 + 1]? = some (.cells #[.bool false] 85 (0, 0))) := WK
  have HW1 := Lh (show Below w.heap.size w w1 by rw [← hw1]; exact (((Below.refl _ w).alloc (Nat.le_refl _) _).alloc (by simp) _).alloc (by simp; omega) _)
  have hz1 : w1.heap.size = w.heap.size + 1 + 1 + 1 := by rw [← hw1]; simp
  rw [hw1]
  clear hw1
  have y3 : w1.cell? ⟨w.heap.size, 3, none⟩ = some (.int .i64 tw) := (blk_cell RA.out 3).trans rfl
  have y4 : w1.cell? ⟨w.heap.size, 4, none⟩ = some (.int .i64 tx) := (blk_cell RA.out 4).trans rfl
  have y5 : w1.cell? ⟨w.heap.size, 5, none⟩ = some (.int .i64 ty) := (blk_cell RA.out 5).trans rfl
  have y6 : w1.cell? ⟨w.heap.size, 6, none⟩ = some (.int .i64 tz) := (blk_cell RA.out 6).trans rfl
  have ltq : w.heap.size < w1.heap.size := by omega
  have ltz : w.heap.size + 1 < w1.heap.size := by omega
  have ltg : w.heap.size + 1 + 1 < w1.heap.size := by omega
  have HZ1 := Lh hz1
  clear hz1
  have hU : Hid (wholeF ⟨qa, qb, qc, qd⟩ = ⟨4294967296, 0, 0, 0⟩) := Lh (by unfold wholeF; rw [if_pos HN.out])
  have HWh := Lh (fun (W : World) (h : Wk W (w.heap.size + 1 + 1)) => whole_bad (w.heap.size + 1 + 1) ⟨qa, qb, qc, qd⟩ W h HR.out.1 HR.out.2.1 HR.out.2.2.1 HR.out.2.2.2 HN.out)
  have ltb : w.heap.size + 1 + 1 ≤ w1.heap.size := Nat.le_of_lt ltg
  have HB := Lh ((Below.refl (w.heap.size + 1 + 1) w1).drew)
  have WKc := Lh (show w1.drew.heap[w.heap.size + 1 + 1]? = _ from WKh.out)
  have FF := Lh (show ∀ V, Hid (Below (w.heap.size + 1 + 1) w1 V) → V.cell? ⟨w.heap.size, 3, none⟩ = some (.int .i64 tw) ∧ V.cell? ⟨w.heap.size, 4, none⟩ = some (.int .i64 tx) ∧ V.cell? ⟨w.heap.size, 5, none⟩ = some (.int .i64 ty) ∧ V.cell? ⟨w.heap.size, 6, none⟩ = some (.int .i64 tz) from fun V HB => ⟨(HB.out.cell (p := ⟨w.heap.size, 3, none⟩) (show w.heap.size < w.heap.size + 1 + 1 by omega)).trans y3, (HB.out.cell (p := ⟨w.heap.size, 4, none⟩) (show w.heap.size < w.heap.size + 1 + 1 by omega)).trans y4, (HB.out.cell (p := ⟨w.heap.size, 5, none⟩) (show w.heap.size < w.heap.size + 1 + 1 by omega)).trans y5, (HB.out.cell (p := ⟨w.heap.size, 6, none⟩) (show w.heap.size < w.heap.size + 1 + 1 by omega)).trans y6⟩)
  refine start_ (n := 21) (S := fun w' => w'.cell? ⟨w.heap.size, 3, none⟩ = some (.int .i64 tw) ∧ w'.cell? ⟨w.heap.size, 4, none⟩ = some (.int .i64 tx) ∧ w'.cell? ⟨w.heap.size, 5, none⟩ = some (.int .i64 ty) ∧ w'.cell? ⟨w.heap.size, 6, none⟩ = some (.int .i64 tz)) (ds := []) (MT 0 21) (by kernel_rfl) rfl rfl (FF.out _ HB) (fun hHeld => ?_)
  obtain ⟨wd, hwd⟩ : ∃ x, w1.drew = x := ⟨_, rfl⟩
  rw [hwd] at HB hHeld WKc ⊢
  clear hwd
  refine pu_ 0 7 (h := ?_)
  refine pu_ 1 8 (h := ?_)
  refine pu_ 2 9 (h := ?_)
  refine pu_ 5 12 (h := ?_)
  refine pu_ 6 13 (h := ?_)
  refine pu_ 9 16 (h := ?_)
  refine pu_ 10 17 (h := ?_)
  refine pu_ 13 20 (h := ?_)
  refine pu_ 14 21 (h := ?_)
  refine ta_ 3 10 hHeld (h := ?_)
  refine ta_ 7 14 hHeld (h := ?_)
  refine ta_ 11 18 hHeld (h := ?_)
  refine ta_ 15 22 hHeld (h := ?_)
  refine join_ (σ := Nat) 1 (MT 20 1) (fun s => [(4, .pointer (some ⟨s, 0, none⟩)), (11, .int .i64 qa), (15, .int .i64 qb), (19, .int .i64 qc), (23, .int .i64 qd), (24, aQ ⟨qa, qb, qc, qd⟩), (25, aQ ⟨0, 0, 0, 0⟩)]) (fun s w' => w1.heap.size ≤ s ∧ w'.heap[s]? = some (.cells #[.int .i64 0, .int .i64 0, .int .i64 0, .int .i64 0] 29 (0, 0)) ∧ Below (w.heap.size + 1 + 1) w1 w' ∧ w'.cell? ⟨w.heap.size + 1 + 1, 0, none⟩ = some (.bool true)) ?_ ?_
  rotate_left
  · intro hCont
    refine two_ (i := 4) (j := 19) (Ni := some 11) (Nj := some 4) #[true, true, true, true, true, true, true, true, false, true, true, true, false, true, true, true, false, false, false, false, false] #[true, true, true, true, false, true, true, true, false, true, true, true, false, true, true, true, false, false, false, true, false] rfl rfl rfl rfl (by kernel_rfl) (by decide) (by decide) (fun K hK => ?_) (fun K hK => ?_)
    · skip
      refine gs_ Try.func107 #[.int .i64 tw, .int .i64 1099511627776] ?_
      with_reducible refine (hptw.out _).mono ?_
      rintro e w3 ⟨rfl, rfl⟩
      refine ⟨_, rfl, ?_⟩
      refine hK.out _ _ (FF.out _ HB) (fun hHeld => ?_)
      clear hK K
      refine no_ (h := ?_)
      refine two_ (i := 8) (j := 19) (Ni := some 15) (Nj := some 4) #[true, true, true, true, true, true, true, true, true, true, true, true, false, true, true, true, false, false, false, false, false] #[true, true, true, true, true, true, true, true, false, true, true, true, false, true, true, true, false, false, false, true, false] rfl rfl rfl rfl (by kernel_rfl) (by decide) (by decide) (fun K hK => ?_) (fun K hK => ?_)
      · skip
        refine gs_ Try.func107 #[.int .i64 tx, .int .i64 1099511627776] ?_
        with_reducible refine (hptx.out _).mono ?_
        rintro e w3 ⟨rfl, rfl⟩
        refine ⟨_, rfl, ?_⟩
        refine hK.out _ _ (FF.out _ HB) (fun hHeld => ?_)
        clear hK K
        refine no_ (h := ?_)
        refine two_ (i := 12) (j := 19) (Ni := some 19) (Nj := some 4) (MT 16 5) #[true, true, true, true, true, true, true, true, true, true, true, true, false, true, true, true, false, false, false, true, false] rfl rfl rfl rfl (by kernel_rfl) (by decide) (by decide) (fun K hK => ?_) (fun K hK => ?_)
        · skip
          refine gs_ Try.func107 #[.int .i64 ty, .int .i64 1099511627776] ?_
          with_reducible refine (hpty.out _).mono ?_
          rintro e w3 ⟨rfl, rfl⟩
          refine ⟨_, rfl, ?_⟩
          refine hK.out _ _ (FF.out _ HB) (fun hHeld => ?_)
          clear hK K
          refine no_ (h := ?_)
          refine two_ (i := 16) (j := 19) (Ni := some 23) (Nj := some 4) (MT 17 4) #[true, true, true, true, true, true, true, true, true, true, true, true, true, true, true, true, false, false, false, true, false] rfl rfl rfl rfl (by kernel_rfl) (by decide) (by decide) (fun K hK => ?_) (fun K hK => ?_)
          · skip
            refine gs_ Try.func107 #[.int .i64 tz, .int .i64 1099511627776] ?_
            with_reducible refine (hptz.out _).mono ?_
            rintro e w3 ⟨rfl, rfl⟩
            refine ⟨_, rfl, ?_⟩
            refine hK.out _ _ (FF.out _ HB) (fun hHeld => ?_)
            clear hK K
            refine no_ (h := ?_)
            refine pu_ 17 24 (h := ?_)
            refine two_ (i := 18) (j := 19) (Ni := some 25) (Nj := some 4) (MT 19 2) #[true, true, true, true, true, true, true, true, true, true, true, true, true, true, true, true, true, true, false, true, false] rfl rfl rfl rfl (by kernel_rfl) (by decide) (by decide) (fun K hK => ?_) (fun K hK => ?_)
            · skip
              refine gs_ Try.func106 #[.pointer (some ⟨w.heap.size + 1 + 1, 0, none⟩), aQ ⟨qa, qb, qc, qd⟩] ?_
              with_reducible refine (HWh.out _ (Wk.of WKc.out)).mono ?_
              rintro e w3 ⟨rfl, hg, hc, hk⟩
              have HB := Lh (HB.out.trans hg)
              have HC := Lh hc
              clear hc hk
              clear hg
              refine ⟨_, rfl, ?_⟩
              refine hK.out _ _ (FF.out _ HB) (fun hHeld => ?_)
              clear hK K
              refine no_ (h := ?_)
              refine on_ 19 (some 4) (h := fun K hK => ?_)
              refine value_ (w1 := ?_) (v := ?_) (by rfl) rfl ?_ ?_
              rotate_left 2
              · go_simp
                constructor
                · rfl
                · rfl
              have HA := Lh (ha_new HB.out (.cells #[.int .i64 0, .int .i64 0, .int .i64 0, .int .i64 0] 29))
              have hge := HB.out.size
              have HC := Lh ((((Below.refl _ _).alloc (Nat.le_refl _) (.cells #[.int .i64 0, .int .i64 0, .int .i64 0, .int .i64 0] 29)).cell (World.block_lt_of_cell? _ _ HC.out)).trans HC.out)
              have HB := Lh (HB.out.alloc (Nat.le_trans (ltb) HB.out.size) (.cells #[.int .i64 0, .int .i64 0, .int .i64 0, .int .i64 0] 29))
              refine hK.out _ _ (FF.out _ HB) (fun hHeld => ?_)
              clear hK K
              refine no_ (h := ?_)
              exact norm_ (by simp only [putAll, Act.put, List.setIfInBounds_toArray, List.set_cons_zero, List.set_cons_succ]) (hCont _ _ ⟨hge, HA.out, HB.out, HC.out⟩)
            · skip
              refine value_ (w1 := ?_) (v := ?_) (by rfl) rfl ?_ ?_
              rotate_left 2
              · go_simp
                constructor
                · rfl
                · rfl
              have HA := Lh (ha_new HB.out (.cells #[.int .i64 0, .int .i64 0, .int .i64 0, .int .i64 0] 29))
              have hge := HB.out.size
              have WKc := Lh ((Below.heap_alloc _ (.cells #[.int .i64 0, .int .i64 0, .int .i64 0, .int .i64 0] 29) _ (blk_lt WKc.out)).trans WKc.out)
              have HB := Lh (HB.out.alloc (Nat.le_trans (ltb) HB.out.size) (.cells #[.int .i64 0, .int .i64 0, .int .i64 0, .int .i64 0] 29))
              refine hK.out _ _ (FF.out _ HB) (fun hHeld => ?_)
              clear hK K
              refine no_ (h := ?_)
              refine on_ 18 (some 25) (h := fun K hK => ?_)
              refine gs_ Try.func106 #[.pointer (some ⟨w.heap.size + 1 + 1, 0, none⟩), aQ ⟨qa, qb, qc, qd⟩] ?_
              with_reducible refine (HWh.out _ (Wk.of WKc.out)).mono ?_
              rintro e w3 ⟨rfl, hg, hc, hk⟩
              have HB := Lh (HB.out.trans hg)
              have HA := Lh ((hk _ (blk_lt HA.out) (by omega)).trans HA.out)
              have HC := Lh hc
              clear hc hk
              clear hg
              refine ⟨_, rfl, ?_⟩
              refine hK.out _ _ (FF.out _ HB) (fun hHeld => ?_)
              clear hK K
              refine no_ (h := ?_)
              exact norm_ (by simp only [putAll, Act.put, List.setIfInBounds_toArray, List.set_cons_zero, List.set_cons_succ]) (hCont _ _ ⟨hge, HA.out, HB.out, HC.out⟩)
          · skip
            refine value_ (w1 := ?_) (v := ?_) (by rfl) rfl ?_ ?_
            rotate_left 2
            · go_simp
              constructor
              · rfl
              · rfl
            have HA := Lh (ha_new HB.out (.cells #[.int .i64 0, .int .i64 0, .int .i64 0, .int .i64 0] 29))
            have hge := HB.out.size
            have WKc := Lh ((Below.heap_alloc _ (.cells #[.int .i64 0, .int .i64 0, .int .i64 0, .int .i64 0] 29) _ (blk_lt WKc.out)).trans WKc.out)
            have HB := Lh (HB.out.alloc (Nat.le_trans (ltb) HB.out.size) (.cells #[.int .i64 0, .int .i64 0, .int .i64 0, .int .i64 0] 29))
            refine hK.out _ _ (FF.out _ HB) (fun hHeld => ?_)
            clear hK K
            refine no_ (h := ?_)
            refine on_ 16 (some 23) (h := fun K hK => ?_)
            refine gs_ Try.func107 #[.int .i64 tz, .int .i64 1099511627776] ?_
            with_reducible refine (hptz.out _).mono ?_
            rintro e w3 ⟨rfl, rfl⟩
            refine ⟨_, rfl, ?_⟩
            refine hK.out _ _ (FF.out _ HB) (fun hHeld => ?_)
            clear hK K
            refine no_ (h := ?_)
            refine pu_ 17 24 (h := ?_)
            refine on_ 18 (some 25) (h := fun K hK => ?_)
            refine gs_ Try.func106 #[.pointer (some ⟨w.heap.size + 1 + 1, 0, none⟩), aQ ⟨qa, qb, qc, qd⟩] ?_
            with_reducible refine (HWh.out _ (Wk.of WKc.out)).mono ?_
            rintro e w3 ⟨rfl, hg, hc, hk⟩
            have HB := Lh (HB.out.trans hg)
            have HA := Lh ((hk _ (blk_lt HA.out) (by omega)).trans HA.out)
            have HC := Lh hc
            clear hc hk
            clear hg
            refine ⟨_, rfl, ?_⟩
            refine hK.out _ _ (FF.out _ HB) (fun hHeld => ?_)
            clear hK K
            refine no_ (h := ?_)
            exact norm_ (by simp only [putAll, Act.put, List.setIfInBounds_toArray, List.set_cons_zero, List.set_cons_succ]) (hCont _ _ ⟨hge, HA.out, HB.out, HC.out⟩)
        · skip
          refine value_ (w1 := ?_) (v := ?_) (by rfl) rfl ?_ ?_
          rotate_left 2
          · go_simp
            constructor
            · rfl
            · rfl
          have HA := Lh (ha_new HB.out (.cells #[.int .i64 0, .int .i64 0, .int .i64 0, .int .i64 0] 29))
          have hge := HB.out.size
          have WKc := Lh ((Below.heap_alloc _ (.cells #[.int .i64 0, .int .i64 0, .int .i64 0, .int .i64 0] 29) _ (blk_lt WKc.out)).trans WKc.out)
          have HB := Lh (HB.out.alloc (Nat.le_trans (ltb) HB.out.size) (.cells #[.int .i64 0, .int .i64 0, .int .i64 0, .int .i64 0] 29))
          refine hK.out _ _ (FF.out _ HB) (fun hHeld => ?_)
          clear hK K
          refine no_ (h := ?_)
          refine on_ 12 (some 19) (h := fun K hK => ?_)
          refine gs_ Try.func107 #[.int .i64 ty, .int .i64 1099511627776] ?_
          with_reducible refine (hpty.out _).mono ?_
          rintro e w3 ⟨rfl, rfl⟩
          refine ⟨_, rfl, ?_⟩
          refine hK.out _ _ (FF.out _ HB) (fun hHeld => ?_)
          clear hK K
          refine no_ (h := ?_)
          refine on_ 16 (some 23) (h := fun K hK => ?_)
          refine gs_ Try.func107 #[.int .i64 tz, .int .i64 1099511627776] ?_
          with_reducible refine (hptz.out _).mono ?_
          rintro e w3 ⟨rfl, rfl⟩
          refine ⟨_, rfl, ?_⟩
          refine hK.out _ _ (FF.out _ HB) (fun hHeld => ?_)
          clear hK K
          refine no_ (h := ?_)
          refine pu_ 17 24 (h := ?_)
          refine on_ 18 (some 25) (h := fun K hK => ?_)
          refine gs_ Try.func106 #[.pointer (some ⟨w.heap.size + 1 + 1, 0, none⟩), aQ ⟨qa, qb, qc, qd⟩] ?_
          with_reducible refine (HWh.out _ (Wk.of WKc.out)).mono ?_
          rintro e w3 ⟨rfl, hg, hc, hk⟩
          have HB := Lh (HB.out.trans hg)
          have HA := Lh ((hk _ (blk_lt HA.out) (by omega)).trans HA.out)
          have HC := Lh hc
          clear hc hk
          clear hg
          refine ⟨_, rfl, ?_⟩
          refine hK.out _ _ (FF.out _ HB) (fun hHeld => ?_)
          clear hK K
          refine no_ (h := ?_)
          exact norm_ (by simp only [putAll, Act.put, List.setIfInBounds_toArray, List.set_cons_zero, List.set_cons_succ]) (hCont _ _ ⟨hge, HA.out, HB.out, HC.out⟩)
      · skip
        refine value_ (w1 := ?_) (v := ?_) (by rfl) rfl ?_ ?_
        rotate_left 2
        · go_simp
          constructor
          · rfl
          · rfl
        have HA := Lh (ha_new HB.out (.cells #[.int .i64 0, .int .i64 0, .int .i64 0, .int .i64 0] 29))
        have hge := HB.out.size
        have WKc := Lh ((Below.heap_alloc _ (.cells #[.int .i64 0, .int .i64 0, .int .i64 0, .int .i64 0] 29) _ (blk_lt WKc.out)).trans WKc.out)
        have HB := Lh (HB.out.alloc (Nat.le_trans (ltb) HB.out.size) (.cells #[.int .i64 0, .int .i64 0, .int .i64 0, .int .i64 0] 29))
        refine hK.out _ _ (FF.out _ HB) (fun hHeld => ?_)
        clear hK K
        refine no_ (h := ?_)
        refine on_ 8 (some 15) (h := fun K hK => ?_)
        refine gs_ Try.func107 #[.int .i64 tx, .int .i64 1099511627776] ?_
        with_reducible refine (hptx.out _).mono ?_
        rintro e w3 ⟨rfl, rfl⟩
        refine ⟨_, rfl, ?_⟩
        refine hK.out _ _ (FF.out _ HB) (fun hHeld => ?_)
        clear hK K
        refine no_ (h := ?_)
        refine on_ 12 (some 19) (h := fun K hK => ?_)
        refine gs_ Try.func107 #[.int .i64 ty, .int .i64 1099511627776] ?_
        with_reducible refine (hpty.out _).mono ?_
        rintro e w3 ⟨rfl, rfl⟩
        refine ⟨_, rfl, ?_⟩
        refine hK.out _ _ (FF.out _ HB) (fun hHeld => ?_)
        clear hK K
        refine no_ (h := ?_)
        refine on_ 16 (some 23) (h := fun K hK => ?_)
        refine gs_ Try.func107 #[.int .i64 tz, .int .i64 1099511627776] ?_
        with_reducible refine (hptz.out _).mono ?_
        rintro e w3 ⟨rfl, rfl⟩
        refine ⟨_, rfl, ?_⟩
        refine hK.out _ _ (FF.out _ HB) (fun hHeld => ?_)
        clear hK K
        refine no_ (h := ?_)
        refine pu_ 17 24 (h := ?_)
        refine on_ 18 (some 25) (h := fun K hK => ?_)
        refine gs_ Try.func106 #[.pointer (some ⟨w.heap.size + 1 + 1, 0, none⟩), aQ ⟨qa, qb, qc, qd⟩] ?_
        with_reducible refine (HWh.out _ (Wk.of WKc.out)).mono ?_
        rintro e w3 ⟨rfl, hg, hc, hk⟩
        have HB := Lh (HB.out.trans hg)
        have HA := Lh ((hk _ (blk_lt HA.out) (by omega)).trans HA.out)
        have HC := Lh hc
        clear hc hk
        clear hg
        refine ⟨_, rfl, ?_⟩
        refine hK.out _ _ (FF.out _ HB) (fun hHeld => ?_)
        clear hK K
        refine no_ (h := ?_)
        exact norm_ (by simp only [putAll, Act.put, List.setIfInBounds_toArray, List.set_cons_zero, List.set_cons_succ]) (hCont _ _ ⟨hge, HA.out, HB.out, HC.out⟩)
    · skip
      refine value_ (w1 := ?_) (v := ?_) (by rfl) rfl ?_ ?_
      rotate_left 2
      · go_simp
        constructor
        · rfl
        · rfl
      have HA := Lh (ha_new HB.out (.cells #[.int .i64 0, .int .i64 0, .int .i64 0, .int .i64 0] 29))
      have hge := HB.out.size
      have WKc := Lh ((Below.heap_alloc _ (.cells #[.int .i64 0, .int .i64 0, .int .i64 0, .int .i64 0] 29) _ (blk_lt WKc.out)).trans WKc.out)
      have HB := Lh (HB.out.alloc (Nat.le_trans (ltb) HB.out.size) (.cells #[.int .i64 0, .int .i64 0, .int .i64 0, .int .i64 0] 29))
      refine hK.out _ _ (FF.out _ HB) (fun hHeld => ?_)
      clear hK K
      refine no_ (h := ?_)
      refine on_ 4 (some 11) (h := fun K hK => ?_)
      refine gs_ Try.func107 #[.int .i64 tw, .int .i64 1099511627776] ?_
      with_reducible refine (hptw.out _).mono ?_
      rintro e w3 ⟨rfl, rfl⟩
      refine ⟨_, rfl, ?_⟩
      refine hK.out _ _ (FF.out _ HB) (fun hHeld => ?_)
      clear hK K
      refine no_ (h := ?_)
      refine on_ 8 (some 15) (h := fun K hK => ?_)
      refine gs_ Try.func107 #[.int .i64 tx, .int .i64 1099511627776] ?_
      with_reducible refine (hptx.out _).mono ?_
      rintro e w3 ⟨rfl, rfl⟩
      refine ⟨_, rfl, ?_⟩
      refine hK.out _ _ (FF.out _ HB) (fun hHeld => ?_)
      clear hK K
      refine no_ (h := ?_)
      refine on_ 12 (some 19) (h := fun K hK => ?_)
      refine gs_ Try.func107 #[.int .i64 ty, .int .i64 1099511627776] ?_
      with_reducible refine (hpty.out _).mono ?_
      rintro e w3 ⟨rfl, rfl⟩
      refine ⟨_, rfl, ?_⟩
      refine hK.out _ _ (FF.out _ HB) (fun hHeld => ?_)
      clear hK K
      refine no_ (h := ?_)
      refine on_ 16 (some 23) (h := fun K hK => ?_)
      refine gs_ Try.func107 #[.int .i64 tz, .int .i64 1099511627776] ?_
      with_reducible refine (hptz.out _).mono ?_
      rintro e w3 ⟨rfl, rfl⟩
      refine ⟨_, rfl, ?_⟩
      refine hK.out _ _ (FF.out _ HB) (fun hHeld => ?_)
      clear hK K
      refine no_ (h := ?_)
      refine pu_ 17 24 (h := ?_)
      refine on_ 18 (some 25) (h := fun K hK => ?_)
      refine gs_ Try.func106 #[.pointer (some ⟨w.heap.size + 1 + 1, 0, none⟩), aQ ⟨qa, qb, qc, qd⟩] ?_
      with_reducible refine (HWh.out _ (Wk.of WKc.out)).mono ?_
      rintro e w3 ⟨rfl, hg, hc, hk⟩
      have HB := Lh (HB.out.trans hg)
      have HA := Lh ((hk _ (blk_lt HA.out) (by omega)).trans HA.out)
      have HC := Lh hc
      clear hc hk
      clear hg
      refine ⟨_, rfl, ?_⟩
      refine hK.out _ _ (FF.out _ HB) (fun hHeld => ?_)
      clear hK K
      refine no_ (h := ?_)
      exact norm_ (by simp only [putAll, Act.put, List.setIfInBounds_toArray, List.set_cons_zero, List.set_cons_succ]) (hCont _ _ ⟨hge, HA.out, HB.out, HC.out⟩)
  rintro AB wj ⟨hge, HA, HB, HC⟩
  have HA := Lh HA
  have HB := Lh HB
  have HC := Lh HC
  have hHeld := FF.out _ HB
  refine no_ (h := ?_)
  refine on_ 20 (none) (h := fun K hK => ?_)
  have sc0 : World.cell? _ ⟨AB, 0, none⟩ = some (.int .i64 0) := (blk_cell HA.out 0).trans rfl
  have sf0 := blk_frozen HA.out 0
  have sc1 : World.cell? _ ⟨AB, 1, none⟩ = some (.int .i64 0) := (blk_cell HA.out 1).trans rfl
  have sf1 := blk_frozen HA.out 1
  have sc2 : World.cell? _ ⟨AB, 2, none⟩ = some (.int .i64 0) := (blk_cell HA.out 2).trans rfl
  have sf2 := blk_frozen HA.out 2
  have sc3 : World.cell? _ ⟨AB, 3, none⟩ = some (.int .i64 0) := (blk_cell HA.out 3).trans rfl
  have sf3 := blk_frozen HA.out 3
  refine skip_ (w1 := ?_) (by rfl) rfl ?_ ?_
  rotate_left
  · go_simp
    rfl
  have HC := Lh (show World.cell? _ _ = _ from (World.cell?_of_block (bo4 (show w.heap.size + 1 + 1 ≠ AB from by omega) (.int .i64 0) (.int .i64 0) (.int .i64 0) (.int .i64 0))).trans HC.out)
  have HA := Lh (bs4 HA.out (.int .i64 0) (.int .i64 0) (.int .i64 0) (.int .i64 0))
  have HB := Lh (bb4 HB.out (Nat.le_trans (ltb) hge) (.int .i64 0) (.int .i64 0) (.int .i64 0) (.int .i64 0))
  clear sc0 sf0 sc1 sf1 sc2 sf2 sc3 sf3
  refine hK.out _ _ (FF.out _ HB) (fun hHeld => ?_)
  clear hK K
  refine done_ (by kernel_rfl) ?_
  obtain ⟨w2, hwn⟩ : ∃ V, ((((wj.setCell ⟨AB, 0, none⟩ (.int .i64 0)).setCell ⟨AB, 1, none⟩ (.int .i64 0)).setCell ⟨AB, 2, none⟩ (.int .i64 0)).setCell ⟨AB, 3, none⟩ (.int .i64 0)) = V := ⟨_, rfl⟩
  rw [hwn] at HA HB HC ⊢
  clear hwn
  have RA2 : Hid (w2.heap[w.heap.size]? = some (.cells #[.int .i64 ax, .int .i64 ay, .int .i64 az, .int .i64 tw, .int .i64 tx, .int .i64 ty, .int .i64 tz] 31 (0, 0))) := Lh ((HB.out.block _ (by omega)).trans RA.out)
  have RZ2 : Hid (w2.heap[w.heap.size + 1]? = some (.cells #[.int .i64 0, .int .i64 0, .int .i64 0, .int .i64 0, .int .i64 0, .int .i64 0, .int .i64 0] 92 (0, 0))) := Lh ((HB.out.block _ (by omega)).trans RZ.out)
  have HW2 := Lh (HW1.out.trans (HB.out.mono (show w.heap.size ≤ w.heap.size + 1 + 1 by omega)))
  have HA2 := HA
  have hz2 : w1.heap.size ≤ w2.heap.size := HB.out.size
  have k0 := HC.out
  have hgeA := hge
  have hz1 := HZ1.out
  have lta : AB < w2.heap.size := blk_lt HA2.out
  have ltq2 : w.heap.size < w2.heap.size := by omega
  clear hz1 HB HA hHeld hge y3 y4 y5 y6 RA RZ WK WKh HW1 ltg ltz ltq
  have y0 : w2.cell? ⟨w.heap.size, 0, none⟩ = some (.int .i64 ax) := (blk_cell RA2.out 0).trans rfl
  have y1 : w2.cell? ⟨w.heap.size, 1, none⟩ = some (.int .i64 ay) := (blk_cell RA2.out 1).trans rfl
  have y2 : w2.cell? ⟨w.heap.size, 2, none⟩ = some (.int .i64 az) := (blk_cell RA2.out 2).trans rfl
  have a0 : w2.cell? ⟨AB, 0, none⟩ = some (.int .i64 0) := (blk_cell HA2.out 0).trans rfl
  have a1 : w2.cell? ⟨AB, 1, none⟩ = some (.int .i64 0) := (blk_cell HA2.out 1).trans rfl
  have a2 : w2.cell? ⟨AB, 2, none⟩ = some (.int .i64 0) := (blk_cell HA2.out 2).trans rfl
  have a3 : w2.cell? ⟨AB, 3, none⟩ = some (.int .i64 0) := (blk_cell HA2.out 3).trans rfl
  have ff0 : w2.frozen? ⟨AB, 0, none⟩ = false := blk_frozen HA2.out 0
  have ff1 : w2.frozen? ⟨AB, 1, none⟩ = false := blk_frozen HA2.out 1
  have ff2 : w2.frozen? ⟨AB, 2, none⟩ = false := blk_frozen HA2.out 2
  have ff3 : w2.frozen? ⟨AB, 3, none⟩ = false := blk_frozen HA2.out 3
  have HB4 := Lh (bs4 HA2.out (.int .i64 4294967296) (.int .i64 0) (.int .i64 0) (.int .i64 0))
  have RA4 := Lh ((bo4 (show w.heap.size ≠ AB by omega) (.int .i64 4294967296) (.int .i64 0) (.int .i64 0) (.int .i64 0)).trans RA2.out)
  have RZ4 := Lh ((bo4 (show w.heap.size + 1 ≠ AB by omega) (.int .i64 4294967296) (.int .i64 0) (.int .i64 0) (.int .i64 0)).trans RZ2.out)
  have HW4 := Lh (bb4 HW2.out (show w.heap.size ≤ AB by omega) (.int .i64 4294967296) (.int .i64 0) (.int .i64 0) (.int .i64 0))
  obtain ⟨w4, hw4⟩ : ∃ V, ((((w2.setCell ⟨AB, 0, none⟩ (.int .i64 4294967296)).setCell ⟨AB, 1, none⟩ (.int .i64 0)).setCell ⟨AB, 2, none⟩ (.int .i64 0)).setCell ⟨AB, 3, none⟩ (.int .i64 0)) = V := ⟨_, rfl⟩
  rw [hw4] at HB4 RA4 RZ4 HW4
  have lz4 : w2.heap.size ≤ w4.heap.size := by rw [← hw4]; simp
  clear y0 y1 y2 HC
  have y0 : w4.cell? ⟨w.heap.size, 0, none⟩ = some (.int .i64 ax) := (blk_cell RA4.out 0).trans rfl
  have y1 : w4.cell? ⟨w.heap.size, 1, none⟩ = some (.int .i64 ay) := (blk_cell RA4.out 1).trans rfl
  have y2 : w4.cell? ⟨w.heap.size, 2, none⟩ = some (.int .i64 az) := (blk_cell RA4.out 2).trans rfl
  have lta4 : AB < w4.heap.size := by omega
  have ltq4 : w.heap.size < w4.heap.size := by omega
  go_wp2_with fail
  clear a0 a1 a2 a3 ff0 ff1 ff2 ff3 hw4 k0
  have a0 : w4.cell? ⟨AB, 0, none⟩ = some (.int .i64 4294967296) := (blk_cell HB4.out 0).trans rfl
  have a1 : w4.cell? ⟨AB, 1, none⟩ = some (.int .i64 0) := (blk_cell HB4.out 1).trans rfl
  have a2 : w4.cell? ⟨AB, 2, none⟩ = some (.int .i64 0) := (blk_cell HB4.out 2).trans rfl
  have a3 : w4.cell? ⟨AB, 3, none⟩ = some (.int .i64 0) := (blk_cell HB4.out 3).trans rfl
  have HB := Lh ((Below.refl (w4.heap.size) w4).drew)
  have HA := Lh (show w4.drew.heap[(w.heap.size + 1)]? = _ from RZ4.out)
  have FF := Lh (show ∀ V, Hid (Below (w4.heap.size) w4 V) → V.cell? ⟨w.heap.size, 0, none⟩ = some (.int .i64 ax) ∧ V.cell? ⟨w.heap.size, 1, none⟩ = some (.int .i64 ay) ∧ V.cell? ⟨w.heap.size, 2, none⟩ = some (.int .i64 az) ∧ V.cell? ⟨AB, 0, none⟩ = some (.int .i64 4294967296) ∧ V.cell? ⟨AB, 1, none⟩ = some (.int .i64 0) ∧ V.cell? ⟨AB, 2, none⟩ = some (.int .i64 0) ∧ V.cell? ⟨AB, 3, none⟩ = some (.int .i64 0) from fun V HB => ⟨(HB.out.cell (p := ⟨w.heap.size, 0, none⟩) (ltq4)).trans y0, (HB.out.cell (p := ⟨w.heap.size, 1, none⟩) (ltq4)).trans y1, (HB.out.cell (p := ⟨w.heap.size, 2, none⟩) (ltq4)).trans y2, (HB.out.cell (p := ⟨AB, 0, none⟩) (lta4)).trans a0, (HB.out.cell (p := ⟨AB, 1, none⟩) (lta4)).trans a1, (HB.out.cell (p := ⟨AB, 2, none⟩) (lta4)).trans a2, (HB.out.cell (p := ⟨AB, 3, none⟩) (lta4)).trans a3⟩)
  refine start_ (n := 16) (S := fun w' => w'.cell? ⟨w.heap.size, 0, none⟩ = some (.int .i64 ax) ∧ w'.cell? ⟨w.heap.size, 1, none⟩ = some (.int .i64 ay) ∧ w'.cell? ⟨w.heap.size, 2, none⟩ = some (.int .i64 az) ∧ w'.cell? ⟨AB, 0, none⟩ = some (.int .i64 4294967296) ∧ w'.cell? ⟨AB, 1, none⟩ = some (.int .i64 0) ∧ w'.cell? ⟨AB, 2, none⟩ = some (.int .i64 0) ∧ w'.cell? ⟨AB, 3, none⟩ = some (.int .i64 0)) (ds := [15]) (MT 0 16) (by kernel_rfl) rfl rfl (FF.out _ HB) (fun hHeld => ?_)
  obtain ⟨wd, hwd⟩ : ∃ x, w4.drew = x := ⟨_, rfl⟩
  rw [hwd] at HB hHeld HA ⊢
  clear hwd
  refine pu_ 0 31 (h := ?_)
  refine pu_ 1 32 (h := ?_)
  refine pu_ 4 35 (h := ?_)
  refine pu_ 5 36 (h := ?_)
  refine pu_ 8 39 (h := ?_)
  refine pu_ 9 40 (h := ?_)
  refine ta_ 2 33 hHeld (h := ?_)
  refine ta_ 6 37 hHeld (h := ?_)
  refine ta_ 10 41 hHeld (h := ?_)
  refine ta_ 13 44 hHeld (h := ?_)
  refine on_ 3 (some 34) (h := fun K hK => ?_)
  refine gs_ Try.func107 #[.int .i64 ax, .int .i64 4398046511104] ?_
  with_reducible refine (hpax.out _).mono ?_
  rintro e w3 ⟨rfl, rfl⟩
  refine ⟨_, rfl, ?_⟩
  refine hK.out _ _ (FF.out _ HB) (fun hHeld => ?_)
  clear hK K
  refine no_ (h := ?_)
  refine on_ 7 (some 38) (h := fun K hK => ?_)
  refine gs_ Try.func107 #[.int .i64 ay, .int .i64 4398046511104] ?_
  with_reducible refine (hpay.out _).mono ?_
  rintro e w3 ⟨rfl, rfl⟩
  refine ⟨_, rfl, ?_⟩
  refine hK.out _ _ (FF.out _ HB) (fun hHeld => ?_)
  clear hK K
  refine no_ (h := ?_)
  refine on_ 11 (some 42) (h := fun K hK => ?_)
  refine gs_ Try.func107 #[.int .i64 az, .int .i64 4398046511104] ?_
  with_reducible refine (hpaz.out _).mono ?_
  rintro e w3 ⟨rfl, rfl⟩
  refine ⟨_, rfl, ?_⟩
  refine hK.out _ _ (FF.out _ HB) (fun hHeld => ?_)
  clear hK K
  refine no_ (h := ?_)
  refine pu_ 12 43 (h := ?_)
  refine pu_ 14 45 (h := ?_)
  refine last_ (i := 15) (N := none) (MT 16 0) rfl rfl (by kernel_rfl) (by decide) (fun K hK => ?_)
  have sc0 : World.cell? _ ⟨(w.heap.size + 1), 0, none⟩ = some (.int .i64 0) := (blk_cell HA.out 0).trans rfl
  have sf0 := blk_frozen HA.out 0
  have sc1 : World.cell? _ ⟨(w.heap.size + 1), 1, none⟩ = some (.int .i64 0) := (blk_cell HA.out 1).trans rfl
  have sf1 := blk_frozen HA.out 1
  have sc2 : World.cell? _ ⟨(w.heap.size + 1), 2, none⟩ = some (.int .i64 0) := (blk_cell HA.out 2).trans rfl
  have sf2 := blk_frozen HA.out 2
  have sc3 : World.cell? _ ⟨(w.heap.size + 1), 3, none⟩ = some (.int .i64 0) := (blk_cell HA.out 3).trans rfl
  have sf3 := blk_frozen HA.out 3
  have sc4 : World.cell? _ ⟨(w.heap.size + 1), 4, none⟩ = some (.int .i64 0) := (blk_cell HA.out 4).trans rfl
  have sf4 := blk_frozen HA.out 4
  have sc5 : World.cell? _ ⟨(w.heap.size + 1), 5, none⟩ = some (.int .i64 0) := (blk_cell HA.out 5).trans rfl
  have sf5 := blk_frozen HA.out 5
  have sc6 : World.cell? _ ⟨(w.heap.size + 1), 6, none⟩ = some (.int .i64 0) := (blk_cell HA.out 6).trans rfl
  have sf6 := blk_frozen HA.out 6
  refine skip_ (w1 := ?_) (by rfl) rfl ?_ ?_
  rotate_left
  · go_simp
    rfl
  have HB := Lh (show Below (w.heap.size) _ _ from HB.out.mono (Nat.le_of_lt ltq4))
  have HA := Lh (bs7 HA.out (.int .i64 ra) (.int .i64 rb) (.int .i64 rc) (.int .i64 4294967296) (.int .i64 0) (.int .i64 0) (.int .i64 0))
  have HB := Lh (bb7 HB.out (show w.heap.size ≤ w.heap.size + 1 from Nat.le_succ _) (.int .i64 ra) (.int .i64 rb) (.int .i64 rc) (.int .i64 4294967296) (.int .i64 0) (.int .i64 0) (.int .i64 0))
  clear sc0 sf0 sc1 sf1 sc2 sf2 sc3 sf3 sc4 sf4 sc5 sf5 sc6 sf6
  refine hK.out _ _ ?_
  clear hK K
  refine done_ (by kernel_rfl) ?_
  obtain ⟨w5, hwn⟩ : ∃ V, (((((((w3.setCell ⟨(w.heap.size + 1), 0, none⟩ (.int .i64 ra)).setCell ⟨(w.heap.size + 1), 1, none⟩ (.int .i64 rb)).setCell ⟨(w.heap.size + 1), 2, none⟩ (.int .i64 rc)).setCell ⟨(w.heap.size + 1), 3, none⟩ (.int .i64 4294967296)).setCell ⟨(w.heap.size + 1), 4, none⟩ (.int .i64 0)).setCell ⟨(w.heap.size + 1), 5, none⟩ (.int .i64 0)).setCell ⟨(w.heap.size + 1), 6, none⟩ (.int .i64 0)) = V := ⟨_, rfl⟩
  rw [hwn] at HA HB ⊢
  clear hwn
  have HW5 := Lh (HW4.out.trans HB.out)
  have t0 : w5.cell? ⟨w.heap.size + 1, 0, none⟩ = some (.int .i64 ra) := (blk_cell HA.out 0).trans rfl
  have t1 : w5.cell? ⟨w.heap.size + 1, 1, none⟩ = some (.int .i64 rb) := (blk_cell HA.out 1).trans rfl
  have t2 : w5.cell? ⟨w.heap.size + 1, 2, none⟩ = some (.int .i64 rc) := (blk_cell HA.out 2).trans rfl
  have t3 : w5.cell? ⟨w.heap.size + 1, 3, none⟩ = some (.int .i64 4294967296) := (blk_cell HA.out 3).trans rfl
  have t4 : w5.cell? ⟨w.heap.size + 1, 4, none⟩ = some (.int .i64 0) := (blk_cell HA.out 4).trans rfl
  have t5 : w5.cell? ⟨w.heap.size + 1, 5, none⟩ = some (.int .i64 0) := (blk_cell HA.out 5).trans rfl
  have t6 : w5.cell? ⟨w.heap.size + 1, 6, none⟩ = some (.int .i64 0) := (blk_cell HA.out 6).trans rfl
  clear HB HA
  go_wp2
  rw [HE.out, hU.out]
  exact bodyPost_ret (v := .agg (cP7 ⟨⟨ra, rb, rc⟩, ⟨4294967296, 0, 0, 0⟩⟩)) (by simp [results, Try.results55, go_sem, t0, t1, t2, t3, t4, t5, t6]) rfl ⟨rfl, HW5.out⟩
theorem right6_calls (p : P7) (w : World) (hp : i64s p) : Calls Try.prog 55 #[.agg (cP7 p)] w fun e w' => e = .returned (.agg (cP7 (rightPose p))) ∧ Below w.heap.size w w' := by
  by_cases h : lenF (partQ p.turn) < 2147483648
  · exact right6_bad p w hp h
  · exact right6_good p w hp (by omega)
end Go.Proofs.Ytckdhahceelckaa.G
namespace Go.Proofs.Ytckdhahceelckaa.G
open Go.RowKit Go.Proofs.YtckdhahceelckaaW.PrintWords Go.Proofs.YtckdhahceelckaaW.PrintLast Go.Proofs.YtckdhahceelckaaW.PrintMore
attribute [local go_sem] max2_mx min2_mn max_two min_two max_three min_three max_four min_four
set_option linter.unusedVariables false
set_option linter.unusedSimpArgs false
theorem times_bd {x n : Int} (h1 : -1048576 ≤ x) (h2 : x ≤ 1048576) (h3 : 0 ≤ n) (h4 : n ≤ 1048576) : -1099511627776 ≤ x * n ∧ x * n ≤ 1099511627776 := by
  have := Int.natAbs_mul x n
  have := Nat.mul_le_mul (show x.natAbs ≤ 1048576 by omega) (show n.natAbs ≤ 1048576 by omega)
  omega
def timesF (p : P3) (n : Int) : P3 := ⟨p.x * n, p.y * n, p.z * n⟩
set_option maxHeartbeats 1000000 in
theorem times6_calls (p : P3) (n : Int) (hp : in3 1048576 p) (h0 : 0 ≤ n) (h1 : n ≤ 1048576) (w : World) :
    Calls Try.prog 112 #[aP p, .int .i64 n] w fun e w' => e = .returned (aP (timesF p n)) ∧ Below w.heap.size w w' := by
  obtain ⟨x, y, z⟩ := p
  obtain ⟨a1, a2, a3, a4, a5, a6⟩ := hp
  simp only at a1 a2 a3 a4 a5 a6
  obtain ⟨b1, b2⟩ := times_bd a1 a2 h0 h1
  obtain ⟨b3, b4⟩ := times_bd a3 a4 h0 h1
  obtain ⟨b5, b6⟩ := times_bd a5 a6 h0 h1
  have e1 : IntKind.i64.wrap (x * n) = x * n := iw_id _ (by omega) (by omega)
  have e2 : IntKind.i64.wrap (y * n) = y * n := iw_id _ (by omega) (by omega)
  have e3 : IntKind.i64.wrap (z * n) = z * n := iw_id _ (by omega) (by omega)
  have e4 : wrap64 (x * n) = x * n := w64_id _ (by omega) (by omega)
  have e5 : wrap64 (y * n) = y * n := w64_id _ (by omega) (by omega)
  have e6 : wrap64 (z * n) = z * n := w64_id _ (by omega) (by omega)
  go_enter Try.func112, Try.ntmps112
  go_wp2
  exact bodyPost_ret (v := aP (timesF ⟨x, y, z⟩ n)) (by simp [results, Try.results112, go_sem, timesF]) rfl ⟨rfl, ((Below.refl _ w).alloc (Nat.le_refl _) _).alloc (by simp) _⟩
theorem td_facts (n k : Int) (hk : 0 < k) : k * n.tdiv k + n.tmod k = n ∧ (0 ≤ n → 0 ≤ n.tmod k ∧ n.tmod k < k) ∧ (n ≤ 0 → -k < n.tmod k ∧ n.tmod k ≤ 0) := by
  refine ⟨Int.mul_tdiv_add_tmod n k, fun h => ?_, fun h => ?_⟩
  · rw [Int.tmod_eq_emod_of_nonneg h]; exact ⟨Int.emod_nonneg _ (by omega), Int.emod_lt_of_pos _ hk⟩
  · have e : n.tmod k = -((-n).tmod k) := by rw [Int.neg_tmod]; omega
    rw [e, Int.tmod_eq_emod_of_nonneg (by omega)]
    have := Int.emod_nonneg (-n) (show k ≠ 0 by omega)
    have := Int.emod_lt_of_pos (-n) hk
    omega
set_option maxHeartbeats 1000000 in
theorem down6_calls (n : Int) (h1 : -4611686018427387904 ≤ n) (h2 : n ≤ 4611686018427387904) (w : World) :
    Calls Try.prog 113 #[.int .i64 n] w fun e w' => e = .returned (.int .i64 (n / 1048576)) ∧ w' = w := by
  obtain ⟨t1, t2, t3⟩ := td_facts n 1048576 (by decide)
  have t4 : -1048576 < n.tmod 1048576 ∧ n.tmod 1048576 < 1048576 := by omega
  have t5 : 0 ≤ n.tmod 1048576 ∨ n < 0 := by omega
  obtain ⟨t6, t7⟩ := t4
  clear t2 t3
  have T := Lh t1
  have T5 := Lh t5
  clear t5
  by_cases h : n.tmod 1048576 < 0
  · have E := Lh (show n.tdiv 1048576 - 1 = n / 1048576 by omega)
    have b1 : -4398046511104 ≤ n.tdiv 1048576 := by omega
    have b2 : n.tdiv 1048576 ≤ 4398046511104 := by omega
    have e1 : IntKind.i64.wrap (n.tdiv 1048576) = n.tdiv 1048576 := iw_id _ (by omega) (by omega)
    have e2 : IntKind.i64.wrap (n.tdiv 1048576 - 1) = n.tdiv 1048576 - 1 := iw_id _ (by omega) (by omega)
    have e3 : IntKind.i64.wrap (n.tmod 1048576) = n.tmod 1048576 := iw_id _ (by omega) (by omega)
    have e4 : wrap64 (n.tdiv 1048576) = n.tdiv 1048576 := w64_id _ (by omega) (by omega)
    have e5 : wrap64 (n.tmod 1048576) = n.tmod 1048576 := w64_id _ (by omega) (by omega)
    clear t1
    have d : decide (n.tmod 1048576 < 0) = true := by simpa using h
    go_enter Try.func113, Try.ntmps113
    go_wp2
    go_ret
    exact ⟨by rw [← E.out]; rfl, rfl⟩
  · have E := Lh (show n.tdiv 1048576 = n / 1048576 by omega)
    have b1 : -4398046511104 ≤ n.tdiv 1048576 := by omega
    have b2 : n.tdiv 1048576 ≤ 4398046511104 := by omega
    have e1 : IntKind.i64.wrap (n.tdiv 1048576) = n.tdiv 1048576 := iw_id _ (by omega) (by omega)
    have e3 : IntKind.i64.wrap (n.tmod 1048576) = n.tmod 1048576 := iw_id _ (by omega) (by omega)
    have e4 : wrap64 (n.tdiv 1048576) = n.tdiv 1048576 := w64_id _ (by omega) (by omega)
    have e5 : wrap64 (n.tmod 1048576) = n.tmod 1048576 := w64_id _ (by omega) (by omega)
    clear t1
    have d : decide (n.tmod 1048576 < 0) = false := by simpa using h
    go_enter Try.func113, Try.ntmps113
    go_wp2
    go_ret
    exact ⟨by rw [← E.out]; rfl, rfl⟩
set_option maxHeartbeats 1000000 in
theorem size5_calls (n : Int) (h1 : -4611686018427387904 ≤ n) (h2 : n ≤ 4611686018427387904) (w : World) :
    Calls Try.prog 131 #[.int .i64 n] w fun e w' => e = .returned (.int .i64 (n.natAbs : Int)) ∧ w' = w := by
  by_cases h : n < 0
  · have E := Lh (show -n = (n.natAbs : Int) by omega)
    have d : decide (n < 0) = true := by simpa using h
    go_enter Try.func131, Try.ntmps131
    go_wp2
    go_ret
    exact ⟨by rw [← E.out]; rfl, rfl⟩
  · have E := Lh (show n = (n.natAbs : Int) by omega)
    have d : decide (n < 0) = false := by simpa using h
    go_enter Try.func131, Try.ntmps131
    go_wp2
    go_ret
    exact ⟨by rw [← E.out]; rfl, rfl⟩
set_option maxHeartbeats 1000000 in
theorem in5_calls (n a b : Int) (r : Bool) (hr : decide (a ≤ n ∧ n ≤ b) = r) (w : World) :
    Calls Try.prog 129 #[.int .i64 n, .int .i64 a, .int .i64 b] w fun e w' => e = .returned (.bool r) ∧ w' = w := by
  by_cases h : a ≤ n
  · have d : decide (a ≤ n) = true := by simpa using h
    by_cases h' : n ≤ b
    · have d' : decide (n ≤ b) = true := by simpa using h'
      have E : Hid (r = true) := Lh (by rw [← hr]; simp [h, h'])
      clear hr h h'
      go_enter Try.func129, Try.ntmps129
      go_wp2
      go_ret
      exact ⟨by rw [E.out]; rfl, rfl⟩
    · have d' : decide (n ≤ b) = false := by simpa using h'
      have E : Hid (r = false) := Lh (by rw [← hr]; simp [h'])
      clear hr h h'
      go_enter Try.func129, Try.ntmps129
      go_wp2
      go_ret
      exact ⟨by rw [E.out]; rfl, rfl⟩
  · have d : decide (a ≤ n) = false := by simpa using h
    have E : Hid (r = false) := Lh (by rw [← hr]; simp [h])
    clear hr h
    go_enter Try.func129, Try.ntmps129
    go_wp2
    go_ret
    exact ⟨by rw [E.out]; rfl, rfl⟩
instance (n : Int) (p : P3) : Decidable (in3 n p) := by unfold in3; infer_instance
set_option maxHeartbeats 4000000 in
theorem in6_calls (p : P3) (n : Int) (r : Bool) (hr : decide (in3 n p) = r) (h0 : 0 ≤ n) (h1 : n ≤ 4611686018427387904) (w : World) :
    Calls Try.prog 109 #[aP p, .int .i64 n] w fun e w' => e = .returned (.bool r) ∧ Below w.heap.size w w' := by
  obtain ⟨x, y, z⟩ := p
  have ew : IntKind.i64.wrap (-n) = -n := iw_id _ (by omega) (by omega)
  by_cases t0 : -n ≤ x
  rotate_left
  · have E : Hid (r = false) := Lh (by rw [← hr]; apply decide_eq_false; rintro ⟨k1, k2, k3, k4, k5, k6⟩; simp only at k1 k2 k3 k4 k5 k6; omega)
    have d0 : decide (-n ≤ x) = false := by simpa using t0
    clear hr t0
    go_enter Try.func109, Try.ntmps109
    go_wp2
    go_ret
    exact ⟨by rw [E.out]; rfl, (Below.refl _ w).alloc (Nat.le_refl _) _⟩
  by_cases t1 : x ≤ n
  rotate_left
  · have E : Hid (r = false) := Lh (by rw [← hr]; apply decide_eq_false; rintro ⟨k1, k2, k3, k4, k5, k6⟩; simp only at k1 k2 k3 k4 k5 k6; omega)
    have d0 : decide (-n ≤ x) = true := by simpa using t0
    have d1 : decide (x ≤ n) = false := by simpa using t1
    clear hr t0 t1
    go_enter Try.func109, Try.ntmps109
    go_wp2
    go_ret
    exact ⟨by rw [E.out]; rfl, (Below.refl _ w).alloc (Nat.le_refl _) _⟩
  by_cases t2 : -n ≤ y
  rotate_left
  · have E : Hid (r = false) := Lh (by rw [← hr]; apply decide_eq_false; rintro ⟨k1, k2, k3, k4, k5, k6⟩; simp only at k1 k2 k3 k4 k5 k6; omega)
    have d0 : decide (-n ≤ x) = true := by simpa using t0
    have d1 : decide (x ≤ n) = true := by simpa using t1
    have d2 : decide (-n ≤ y) = false := by simpa using t2
    clear hr t0 t1 t2
    go_enter Try.func109, Try.ntmps109
    go_wp2
    go_ret
    exact ⟨by rw [E.out]; rfl, (Below.refl _ w).alloc (Nat.le_refl _) _⟩
  by_cases t3 : y ≤ n
  rotate_left
  · have E : Hid (r = false) := Lh (by rw [← hr]; apply decide_eq_false; rintro ⟨k1, k2, k3, k4, k5, k6⟩; simp only at k1 k2 k3 k4 k5 k6; omega)
    have d0 : decide (-n ≤ x) = true := by simpa using t0
    have d1 : decide (x ≤ n) = true := by simpa using t1
    have d2 : decide (-n ≤ y) = true := by simpa using t2
    have d3 : decide (y ≤ n) = false := by simpa using t3
    clear hr t0 t1 t2 t3
    go_enter Try.func109, Try.ntmps109
    go_wp2
    go_ret
    exact ⟨by rw [E.out]; rfl, (Below.refl _ w).alloc (Nat.le_refl _) _⟩
  by_cases t4 : -n ≤ z
  rotate_left
  · have E : Hid (r = false) := Lh (by rw [← hr]; apply decide_eq_false; rintro ⟨k1, k2, k3, k4, k5, k6⟩; simp only at k1 k2 k3 k4 k5 k6; omega)
    have d0 : decide (-n ≤ x) = true := by simpa using t0
    have d1 : decide (x ≤ n) = true := by simpa using t1
    have d2 : decide (-n ≤ y) = true := by simpa using t2
    have d3 : decide (y ≤ n) = true := by simpa using t3
    have d4 : decide (-n ≤ z) = false := by simpa using t4
    clear hr t0 t1 t2 t3 t4
    go_enter Try.func109, Try.ntmps109
    go_wp2
    go_ret
    exact ⟨by rw [E.out]; rfl, (Below.refl _ w).alloc (Nat.le_refl _) _⟩
  by_cases t5 : z ≤ n
  rotate_left
  · have E : Hid (r = false) := Lh (by rw [← hr]; apply decide_eq_false; rintro ⟨k1, k2, k3, k4, k5, k6⟩; simp only at k1 k2 k3 k4 k5 k6; omega)
    have d0 : decide (-n ≤ x) = true := by simpa using t0
    have d1 : decide (x ≤ n) = true := by simpa using t1
    have d2 : decide (-n ≤ y) = true := by simpa using t2
    have d3 : decide (y ≤ n) = true := by simpa using t3
    have d4 : decide (-n ≤ z) = true := by simpa using t4
    have d5 : decide (z ≤ n) = false := by simpa using t5
    clear hr t0 t1 t2 t3 t4 t5
    go_enter Try.func109, Try.ntmps109
    go_wp2
    go_ret
    exact ⟨by rw [E.out]; rfl, (Below.refl _ w).alloc (Nat.le_refl _) _⟩
  have E : Hid (r = true) := Lh (by rw [← hr]; apply decide_eq_true; refine ⟨?_, ?_, ?_, ?_, ?_, ?_⟩ <;> simp only <;> omega)
  have d0 : decide (-n ≤ x) = true := by simpa using t0
  have d1 : decide (x ≤ n) = true := by simpa using t1
  have d2 : decide (-n ≤ y) = true := by simpa using t2
  have d3 : decide (y ≤ n) = true := by simpa using t3
  have d4 : decide (-n ≤ z) = true := by simpa using t4
  have d5 : decide (z ≤ n) = true := by simpa using t5
  clear hr t0 t1 t2 t3 t4 t5
  go_enter Try.func109, Try.ntmps109
  go_wp2
  go_ret
  exact ⟨by rw [E.out]; rfl, (Below.refl _ w).alloc (Nat.le_refl _) _⟩
end Go.Proofs.Ytckdhahceelckaa.G
namespace Go.Proofs.Ytckdhahceelckaa.G
open Go.RowKit Go.Proofs.YtckdhahceelckaaW.PrintWords Go.Proofs.YtckdhahceelckaaW.PrintLast Go.Proofs.YtckdhahceelckaaW.PrintMore
attribute [local go_sem] max2_mx min2_mn max_two min_two max_three min_three max_four min_four
attribute [local go_sem high] eqA23
set_option linter.unusedVariables false
set_option linter.unusedSimpArgs false
set_option maxHeartbeats 1000000 in
theorem rcross_calls (a b : P3) (w : World) :
    Calls Try.prog 82 #[aP a, aP b] w fun e w' => e = .returned (aP (cross3 a b)) ∧ Below w.heap.size w w' := by
  obtain ⟨x, y, z⟩ := a
  obtain ⟨a, b, c⟩ := b
  go_enter Try.func82, Try.ntmps82
  go_wp2
  exact bodyPost_ret (v := .agg #[.int .i64 (cross3 ⟨x, y, z⟩ ⟨a, b, c⟩).x, .int .i64 (cross3 ⟨x, y, z⟩ ⟨a, b, c⟩).y, .int .i64 (cross3 ⟨x, y, z⟩ ⟨a, b, c⟩).z]) (by simp [results, Try.results82, go_sem, cross3]) rfl ⟨rfl, (by repeat (first | exact Below.refl _ _ | refine Below.setCell ?_ (by simp <;> omega) _ | refine Below.alloc ?_ (by simp <;> omega) _ | refine Below.drew ?_))⟩
/-- the greatest divisor of some numbers -/
def gcdL (l : List Nat) : Nat := l.foldl Nat.gcd 0
theorem gcdL_snoc (l : List Nat) (k : Nat) (h : k < l.length) : gcdL (l.take (k + 1)) = Nat.gcd (gcdL (l.take k)) l[k] := by
  unfold gcdL; rw [List.take_succ_eq_append_getElem h, List.foldl_append]; rfl
theorem gcdL3 (p : P3) : (gcdL [p.x.natAbs, p.y.natAbs, p.z.natAbs] : Int) = gcd3 p := by
  unfold gcdL gcd3
  simp only [List.foldl_cons, List.foldl_nil, Nat.gcd_zero_left]
  rw [Int.gcd, Int.gcd]; simp
theorem gcd_le2 (a b B : Nat) (ha : a ≤ B) (hb : b ≤ B) : Nat.gcd a b ≤ B := by
  by_cases h : a = 0
  · subst h; simpa using hb
  · exact Nat.le_trans (Nat.le_of_dvd (by omega) (Nat.gcd_dvd_left a b)) ha
theorem gcdL_le (l : List Nat) (B : Nat) (h : ∀ x ∈ l, x ≤ B) : gcdL l ≤ B := by
  have gen : ∀ (l : List Nat) (g : Nat), g ≤ B → (∀ x ∈ l, x ≤ B) → l.foldl Nat.gcd g ≤ B := by
    intro l
    induction l with
    | nil => intro g hg _; exact hg
    | cons x l ih => intro g hg hx; exact ih _ (gcd_le2 g x B hg (hx x (.head _))) (fun y hy => hx y (.tail _ hy))
  exact gen l 0 (Nat.zero_le _) h
theorem bare3_zero : bare3 ⟨0, 0, 0⟩ = ⟨0, 0, 0⟩ := by decide +kernel
set_option maxHeartbeats 4000000 in
set_option maxRecDepth 100000 in
theorem rbare_calls (p : P3) (w : World) (hp : in3 4398046511104 p) :
    Calls Try.prog 130 #[aP p] w fun e w' => e = .returned (aP (bare3 p)) ∧ Below w.heap.size w w' := by
  have HG3 := Lh (gcdL3 p)
  have HZ : Hid (gcd3 p = 0 → bare3 p = p) := Lh (fun h => by
    by_cases e : p = ⟨0, 0, 0⟩
    · rw [e]; exact bare3_zero
    · have := gcd3_pos p e; omega)
  have HD : Hid (bare3 p = ⟨p.x.tdiv (gcd3 p), p.y.tdiv (gcd3 p), p.z.tdiv (gcd3 p)⟩) := Lh rfl
  obtain ⟨x, y, z⟩ := p
  obtain ⟨a1, a2, a3, a4, a5, a6⟩ := hp
  simp only at a1 a2 a3 a4 a5 a6
  have sx := Lh (size5_calls x (by omega) (by omega))
  have sy := Lh (size5_calls y (by omega) (by omega))
  have sz := Lh (size5_calls z (by omega) (by omega))
  have LB : Hid (∀ q ∈ [x.natAbs, y.natAbs, z.natAbs], q ≤ 4398046511104) := Lh (by intro q hq; simp at hq; rcases hq with rfl | rfl | rfl <;> omega)
  have TX := Lh (fun n => iw_tdiv x n (by omega) (by omega))
  have TY := Lh (fun n => iw_tdiv y n (by omega) (by omega))
  have TZ := Lh (fun n => iw_tdiv z n (by omega) (by omega))
  simp only at HG3
  obtain ⟨X, hX⟩ : ∃ X, x.natAbs = X := ⟨_, rfl⟩
  obtain ⟨Y, hY⟩ : ∃ X, y.natAbs = X := ⟨_, rfl⟩
  obtain ⟨Z, hZ⟩ : ∃ X, z.natAbs = X := ⟨_, rfl⟩
  rw [hX] at sx HG3 LB
  rw [hY] at sy HG3 LB
  rw [hZ] at sz HG3 LB
  clear hX hY hZ a1 a2 a3 a4 a5 a6
  go_enter Try.func130, Try.ntmps130
  go_wp2_with fail
  obtain ⟨w1, hw1⟩ : ∃ w1, (w.alloc (.cells #[.int .i64 x, .int .i64 y, .int .i64 z] 23)).alloc (.cells #[.int .i64 0, .int .i64 0, .int .i64 0] 23) = w1 := ⟨_, rfl⟩
  have P1 : Hid (C3 w1 w.heap.size (.int .i64 x) (.int .i64 y) (.int .i64 z)) := Lh (by rw [← hw1]; exact (C3.new w _ _ _ _).alloc _)
  have R1 : Hid (w1.heap[w.heap.size + 1]? = some (.cells #[.int .i64 0, .int .i64 0, .int .i64 0] 23 (0, 0))) := Lh (by rw [← hw1]; have h := heap_alloc_new (w.alloc (.cells #[.int .i64 x, .int .i64 y, .int .i64 z] 23)) (.cells #[.int .i64 0, .int .i64 0, .int .i64 0] 23); rw [World.size_alloc] at h; exact h)
  have HW1 := Lh (show Below w.heap.size w w1 by rw [← hw1]; exact ((Below.refl _ w).alloc (Nat.le_refl _) _).alloc (by simp) _)
  have lt1 : w.heap.size + 1 < w1.heap.size := by rw [← hw1]; simp
  have lt0 : w.heap.size < w1.heap.size := by omega
  rw [hw1]
  clear hw1
  obtain ⟨c0, c1, c2, _, _, _⟩ := P1.out
  have HB := Lh ((Below.refl (w1.heap.size) w1).drew)
  have FF := Lh (show ∀ V, Hid (Below (w1.heap.size) w1 V) → V.cell? ⟨w.heap.size, 0, none⟩ = some (.int .i64 x) ∧ V.cell? ⟨w.heap.size, 1, none⟩ = some (.int .i64 y) ∧ V.cell? ⟨w.heap.size, 2, none⟩ = some (.int .i64 z) from fun V HB => ⟨(HB.out.cell (p := ⟨w.heap.size, 0, none⟩) (lt0)).trans c0, (HB.out.cell (p := ⟨w.heap.size, 1, none⟩) (lt0)).trans c1, (HB.out.cell (p := ⟨w.heap.size, 2, none⟩) (lt0)).trans c2⟩)
  refine start_ (n := 11) (S := fun w' => w'.cell? ⟨w.heap.size, 0, none⟩ = some (.int .i64 x) ∧ w'.cell? ⟨w.heap.size, 1, none⟩ = some (.int .i64 y) ∧ w'.cell? ⟨w.heap.size, 2, none⟩ = some (.int .i64 z)) (ds := []) (MT 0 11) (by kernel_rfl) rfl rfl (FF.out _ HB) (fun hHeld => ?_)
  obtain ⟨wd, hwd⟩ : ∃ x, w1.drew = x := ⟨_, rfl⟩
  rw [hwd] at HB hHeld ⊢
  clear hwd
  refine pu_ 0 9 (h := ?_)
  refine pu_ 3 12 (h := ?_)
  refine pu_ 6 15 (h := ?_)
  refine ta_ 1 10 hHeld (h := ?_)
  refine ta_ 4 13 hHeld (h := ?_)
  refine ta_ 7 16 hHeld (h := ?_)
  refine on_ 2 (some 11) (h := fun K hK => ?_)
  refine gs_ Try.func131 #[.int .i64 x] ?_
  with_reducible refine (sx.out _).mono ?_
  rintro e w3 ⟨rfl, rfl⟩
  refine ⟨_, rfl, ?_⟩
  refine hK.out _ _ (FF.out _ HB) (fun hHeld => ?_)
  clear hK K
  refine no_ (h := ?_)
  refine on_ 5 (some 14) (h := fun K hK => ?_)
  refine gs_ Try.func131 #[.int .i64 y] ?_
  with_reducible refine (sy.out _).mono ?_
  rintro e w3 ⟨rfl, rfl⟩
  refine ⟨_, rfl, ?_⟩
  refine hK.out _ _ (FF.out _ HB) (fun hHeld => ?_)
  clear hK K
  refine no_ (h := ?_)
  refine on_ 8 (some 17) (h := fun K hK => ?_)
  refine gs_ Try.func131 #[.int .i64 z] ?_
  with_reducible refine (sz.out _).mono ?_
  rintro e w3 ⟨rfl, rfl⟩
  refine ⟨_, rfl, ?_⟩
  refine hK.out _ _ (FF.out _ HB) (fun hHeld => ?_)
  clear hK K
  refine no_ (h := ?_)
  refine on_ 9 (some 18) (h := fun K hK => ?_)
  refine value_ (w1 := ?_) (v := ?_) (by rfl) rfl ?_ ?_
  rotate_left 2
  · go_simp
    constructor
    · rfl
    · rfl
  have HA := Lh (ha_new HB.out (.cells #[.int .i64 (X : Int), .int .i64 (Y : Int), .int .i64 (Z : Int)] 3))
  have hge := HB.out.size
  have HB := Lh (HB.out.alloc (Nat.le_trans (Nat.le_refl _) HB.out.size) (.cells #[.int .i64 (X : Int), .int .i64 (Y : Int), .int .i64 (Z : Int)] 3))
  refine hK.out _ _ (FF.out _ HB) (fun hHeld => ?_)
  clear hK K
  refine no_ (h := ?_)
  refine pu_ 10 4 (h := ?_)
  refine done_ (by kernel_rfl) ?_
  have P2 := Lh (P1.out.below HB.out)
  have R2 := Lh ((HB.out.block _ lt1).trans R1.out)
  have HW2 := Lh (HW1.out.trans (HB.out.mono (by omega)))
  have RI2 := Lh (RdI.of3 HA.out)
  obtain ⟨AB, hAB⟩ : ∃ AB, w3.heap.size = AB := ⟨_, rfl⟩
  have lz : w1.heap.size ≤ AB := by rw [← hAB]; exact hge
  rw [hAB] at RI2 ⊢
  obtain ⟨w4, hw4⟩ : ∃ w4, w3.alloc (.cells #[.int .i64 X, .int .i64 Y, .int .i64 Z] 3) = w4 := ⟨_, rfl⟩
  rw [hw4] at P2 R2 HW2 RI2 ⊢
  clear hHeld HB HA hge c0 c1 c2 P1 R1 HW1 hAB hw4
  obtain ⟨N, hN⟩ : ∃ N : List Nat, [X, Y, Z] = N := ⟨_, rfl⟩
  have hNI : [(X : Int), (Y : Int), (Z : Int)] = N.map Int.ofNat := by rw [← hN]; rfl
  rw [hNI] at RI2
  have hN3 : N.length = 3 := by rw [← hN]; rfl
  rw [hN] at HG3 LB
  have HN3 := Lh hN3
  clear hNI hN hN3
  go_wp2
  go_loopw [3, 5, 6, 7, 8] (fun v3 v5 v6 v7 v8 wr => ∃ k : Nat, k ≤ 3 ∧ v5 = .int .i64 k ∧ v3 = .int .i64 (gcdL (N.take k)) ∧ Hid (wr = w4)) (fun _ i _ _ _ _ => 3 - (intOf i).toNat)
  case atStart => exact ⟨0, by omega, rfl, rfl, Lh rfl⟩
  case round =>
    obtain ⟨k, hk, rfl, rfl, hwr⟩ := hrel
    have hwr' := hwr.out
    subst hwr'
    by_cases hlt : k < 3
    · have hlN : k < N.length := by rw [HN3.out]; exact hlt
      have hc : wr.cell? ⟨AB, 0 + k, none⟩ = some (.int .i64 (N[k] : Int)) := by
        obtain ⟨b, o, e, _, h⟩ := RI2.out.get k (by rw [List.length_map]; exact hlN)
        simp only [Option.some.injEq, Addr.mk.injEq, and_true] at e
        obtain ⟨rfl, rfl⟩ := e
        rw [List.getElem_map] at h
        exact h
      rw [Nat.zero_add] at hc
      have hS := Lh (gcdL_snoc N k hlN)
      have b1 : N[k] ≤ 4398046511104 := LB.out _ (List.getElem_mem _)
      have b2 : gcdL (N.take k) ≤ 4398046511104 := gcdL_le _ _ (fun q hq => LB.out q (List.mem_of_mem_take hq))
      obtain ⟨M, hM⟩ : ∃ M, N[k] = M := ⟨_, rfl⟩
      obtain ⟨g, hg⟩ : ∃ g, gcdL (N.take k) = g := ⟨_, rfl⟩
      rw [hM] at hc hS b1
      rw [hg] at hS b2 ⊢
      clear hM hg
      obtain ⟨wo, hwo⟩ : ∃ wo : World, wo = wr := ⟨_, rfl⟩
      subst hwo
      go_wp2
      go_loopw [6, 7, 8] (fun v6 v7 v8 wr => ∃ a b : Nat, v6 = .int .i64 a ∧ v7 = .int .i64 b ∧ a ≤ 4398046511104 ∧ b ≤ 4398046511104 ∧ Hid (Nat.gcd a b = Nat.gcd g M) ∧ Hid (wr = wo)) (fun _ b _ _ => (intOf b).toNat)
      case atStart => exact ⟨g, M, rfl, rfl, b2, b1, Lh rfl, Lh rfl⟩
      case round =>
        clear hc b1 b2
        obtain ⟨a, b, rfl, rfl, h1, h2, h3, hw'⟩ := hrel
        have hw'' := hw'.out
        subst hw''
        by_cases hb : b = 0
        · subst hb
          have t0 : ((0 : Int) != 0) = false := rfl
          have hE : Hid (gcdL (N.take (k + 1)) = a) := Lh (by rw [hS.out, ← h3.out]; simp)
          go_wp2
          go_roundw
          case rel => exact ⟨k + 1, by omega, by go_num, by rw [hE.out], by first | exact Lh rfl | exact trivial⟩
          case measure => simp [intOf]; omega
        · have t0 : (((b : Nat) : Int) != 0) = true := by simp; exact hb
          have t1 : (((b : Nat) : Int) == 0) = false := by simp; exact hb
          have t2 : ((b : Nat) : Int) ≠ 0 := by omega
          have e1 : IntKind.i64.wrap ((a : Int).tmod (b : Int)) = ((a % b : Nat) : Int) := by
            rw [Int.tmod_eq_emod_of_nonneg (by omega), ← Int.natCast_emod]
            have := Nat.mod_le a b
            exact iw_id _ (by omega) (by omega)
          have hm := Nat.mod_lt a (show b > 0 by omega)
          go_wp2
          go_roundw
          case rel => exact ⟨b, a % b, rfl, by first | rfl | (rw [Int.natCast_emod]) | go_num, h2, by omega, Lh (by rw [← h3.out, Nat.gcd_comm b, ← Nat.gcd_rec, Nat.gcd_comm]), by first | exact Lh rfl | exact trivial⟩
          case measure => simp [intOf]; omega
    · obtain rfl : k = 3 := by omega
      rw [List.take_of_length_le (by rw [HN3.out]; omega), HG3.out]
      obtain ⟨c0, c1, c2, _, _, _⟩ := P2.out
      have z0 : wr.cell? ⟨w.heap.size + 1, 0, none⟩ = some (.int .i64 0) := (blk_cell R2.out 0).trans rfl
      have z1 : wr.cell? ⟨w.heap.size + 1, 1, none⟩ = some (.int .i64 0) := (blk_cell R2.out 1).trans rfl
      have z2 : wr.cell? ⟨w.heap.size + 1, 2, none⟩ = some (.int .i64 0) := (blk_cell R2.out 2).trans rfl
      have f0 : wr.frozen? ⟨w.heap.size + 1, 0, none⟩ = false := blk_frozen R2.out 0
      have f1 : wr.frozen? ⟨w.heap.size + 1, 1, none⟩ = false := blk_frozen R2.out 1
      have f2 : wr.frozen? ⟨w.heap.size + 1, 2, none⟩ = false := blk_frozen R2.out 2
      by_cases hg0 : gcd3 ⟨x, y, z⟩ = 0
      · have E := Lh (HZ.out hg0)
        rw [hg0]
        clear hg0
        go_wp2
        rw [E.out]
        exact bodyPost_ret (v := aP ⟨x, y, z⟩) (by simp [results, Try.results130, go_sem, z0, z1, z2]) rfl ⟨rfl, below_set3 HW2.out (by omega) _ _ _⟩
      · obtain ⟨G, hG⟩ : ∃ G, gcd3 ⟨x, y, z⟩ = G := ⟨_, rfl⟩
        rw [hG] at hg0 HD ⊢
        have t1 : (G == 0) = false := by simpa using hg0
        have e1 := TX.out G
        have e2 := TY.out G
        have e3 := TZ.out G
        clear hG
        have lt4 : w.heap.size < wr.heap.size := World.block_lt_of_cell? wr _ c0
        go_wp2_with fail
        have HB := Lh ((Below.refl (wr.heap.size) wr).drew)
        have HA := Lh (show wr.drew.heap[(w.heap.size + 1)]? = _ from R2.out)
        refine start_ (n := 14) (S := fun w' => w'.cell? ⟨w.heap.size, 0, none⟩ = some (.int .i64 x) ∧ w'.cell? ⟨w.heap.size, 1, none⟩ = some (.int .i64 y) ∧ w'.cell? ⟨w.heap.size, 2, none⟩ = some (.int .i64 z)) (ds := [13]) (MT 0 14) (by kernel_rfl) rfl rfl ⟨(HB.out.cell (p := ⟨w.heap.size, 0, none⟩) (lt4)).trans c0, (HB.out.cell (p := ⟨w.heap.size, 1, none⟩) (lt4)).trans c1, (HB.out.cell (p := ⟨w.heap.size, 2, none⟩) (lt4)).trans c2⟩ (fun hHeld => ?_)
        obtain ⟨wd, hwd⟩ : ∃ x, wr.drew = x := ⟨_, rfl⟩
        rw [hwd] at HB hHeld HA ⊢
        clear hwd
        refine pu_ 0 39 (h := ?_)
        refine pu_ 2 41 (h := ?_)
        refine pu_ 4 43 (h := ?_)
        refine pu_ 6 45 (h := ?_)
        refine pu_ 8 47 (h := ?_)
        refine pu_ 10 49 (h := ?_)
        refine ta_ 1 40 hHeld (h := ?_)
        refine pu_ 3 42 (h := ?_)
        refine ta_ 5 44 hHeld (h := ?_)
        refine pu_ 7 46 (h := ?_)
        refine ta_ 9 48 hHeld (h := ?_)
        refine pu_ 11 50 (h := ?_)
        refine pu_ 12 51 (h := ?_)
        refine last_ (i := 13) (N := none) (MT 14 0) rfl rfl (by kernel_rfl) (by decide) (fun K hK => ?_)
        have sc0 : World.cell? _ ⟨(w.heap.size + 1), 0, none⟩ = some (.int .i64 0) := (blk_cell HA.out 0).trans rfl
        have sf0 := blk_frozen HA.out 0
        have sc1 : World.cell? _ ⟨(w.heap.size + 1), 1, none⟩ = some (.int .i64 0) := (blk_cell HA.out 1).trans rfl
        have sf1 := blk_frozen HA.out 1
        have sc2 : World.cell? _ ⟨(w.heap.size + 1), 2, none⟩ = some (.int .i64 0) := (blk_cell HA.out 2).trans rfl
        have sf2 := blk_frozen HA.out 2
        refine skip_ (w1 := ?_) (by rfl) rfl ?_ ?_
        rotate_left
        · go_simp
          rfl
        have HB := Lh (show Below (w.heap.size) _ _ from HB.out.mono (Nat.le_of_lt lt4))
        have HA := Lh (bs3 HA.out (.int .i64 (x.tdiv G)) (.int .i64 (y.tdiv G)) (.int .i64 (z.tdiv G)))
        have HB := Lh (bb3 HB.out (show w.heap.size ≤ w.heap.size + 1 from Nat.le_succ _) (.int .i64 (x.tdiv G)) (.int .i64 (y.tdiv G)) (.int .i64 (z.tdiv G)))
        clear sc0 sf0 sc1 sf1 sc2 sf2
        refine hK.out _ _ ?_
        clear hK K
        refine done_ (by kernel_rfl) ?_
        obtain ⟨w5, hwn⟩ : ∃ V, (((wd.setCell ⟨(w.heap.size + 1), 0, none⟩ (.int .i64 (x.tdiv G))).setCell ⟨(w.heap.size + 1), 1, none⟩ (.int .i64 (y.tdiv G))).setCell ⟨(w.heap.size + 1), 2, none⟩ (.int .i64 (z.tdiv G))) = V := ⟨_, rfl⟩
        rw [hwn] at HA HB ⊢
        clear hwn
        have HW5 := Lh (HW2.out.trans HB.out)
        have t5 : w5.cell? ⟨w.heap.size + 1, 0, none⟩ = some (.int .i64 (x.tdiv G)) := (blk_cell HA.out 0).trans rfl
        have t6 : w5.cell? ⟨w.heap.size + 1, 1, none⟩ = some (.int .i64 (y.tdiv G)) := (blk_cell HA.out 1).trans rfl
        have t7 : w5.cell? ⟨w.heap.size + 1, 2, none⟩ = some (.int .i64 (z.tdiv G)) := (blk_cell HA.out 2).trans rfl
        clear HB HA c0 c1 c2 z0 z1 z2 f0 f1 f2
        go_wp2
        rw [HD.out]
        exact bodyPost_ret (v := aP ⟨x.tdiv G, y.tdiv G, z.tdiv G⟩) (by simp [results, Try.results130, go_sem, t5, t6, t7]) rfl ⟨rfl, HW5.out⟩
end Go.Proofs.Ytckdhahceelckaa.G
namespace Go.Proofs.Ytckdhahceelckaa.G
open Go.RowKit
set_option linter.unusedVariables false
set_option linter.unusedSimpArgs false
theorem lagrange (a b c x y z : Int) : (a*a+b*b+c*c)*(x*x+y*y+z*z) = (a*x+b*y+c*z)*(a*x+b*y+c*z) + ((b*z-c*y)*(b*z-c*y) + (c*x-a*z)*(c*x-a*z) + (a*y-b*x)*(a*y-b*x)) := by grind
/-- one points where the other points -/
def Par (u v : P3) : Prop := ∃ a b : Int, 0 < a ∧ 0 < b ∧ a * u.x = b * v.x ∧ a * u.y = b * v.y ∧ a * u.z = b * v.z
theorem Par.refl (u : P3) : Par u u := ⟨1, 1, by decide, by decide, rfl, rfl, rfl⟩
theorem Par.trans {u v t : P3} (h : Par u v) (k : Par v t) : Par u t := by
  obtain ⟨a, b, ha, hb, x1, y1, z1⟩ := h
  obtain ⟨c, e, hc, he, x2, y2, z2⟩ := k
  exact ⟨a * c, b * e, Int.mul_pos ha hc, Int.mul_pos hb he, by grind, by grind, by grind⟩
theorem gcd3_dvd (p : P3) : gcd3 p ∣ p.x ∧ gcd3 p ∣ p.y ∧ gcd3 p ∣ p.z :=
  ⟨Int.dvd_trans (by unfold gcd3; exact Int.gcd_dvd_left ..) (Int.gcd_dvd_left ..), Int.dvd_trans (by unfold gcd3; exact Int.gcd_dvd_left ..) (Int.gcd_dvd_right ..), by unfold gcd3; exact Int.gcd_dvd_right ..⟩
theorem bare3_eq (p : P3) : p.x = gcd3 p * (bare3 p).x ∧ p.y = gcd3 p * (bare3 p).y ∧ p.z = gcd3 p * (bare3 p).z := by
  obtain ⟨h1, h2, h3⟩ := gcd3_dvd p
  exact ⟨(Int.mul_tdiv_cancel' h1).symm, (Int.mul_tdiv_cancel' h2).symm, (Int.mul_tdiv_cancel' h3).symm⟩
theorem bare3_par (p : P3) (h : p ≠ ⟨0, 0, 0⟩) : Par (bare3 p) p := by
  obtain ⟨h1, h2, h3⟩ := bare3_eq p
  have hg := gcd3_pos p h
  exact ⟨gcd3 p, 1, by omega, by decide, by omega, by omega, by omega⟩
theorem two3_par (p : P3) : Par (two3 p) p := ⟨1, 2, by decide, by decide, by simp [two3], by simp [two3], by simp [two3]⟩
theorem dbl3_par (p : P3) : Par (dbl3 p) p := by
  induction p using dbl3.induct with
  | case1 p h' => rw [dbl3, dif_pos h']; exact Par.refl _
  | case2 p h' ih => rw [dbl3, dif_neg h']; exact ih.trans (two3_par p)
theorem dbl3_far (p : P3) (h : p ≠ ⟨0, 0, 0⟩) : far3 524288 (dbl3 p) = true := by
  induction p using dbl3.induct with
  | case1 p h' => rw [dbl3, dif_pos h']; exact h'.resolve_right h
  | case2 p h' ih => rw [dbl3, dif_neg h']; exact ih (two3_ne p h)
theorem halve3_id (p : P3) (h : in3 1048576 p) : halve3 p = p := by rw [halve3, dif_neg]; rw [(far3_iff _ _ (by decide) (by decide)).2 h]; decide
theorem bare3_in (p : P3) (n : Int) (h : in3 n p) : in3 n (bare3 p) := div3_in _ _ _ h
end Go.Proofs.Ytckdhahceelckaa.G
namespace Go.Proofs.Ytckdhahceelckaa.G
open Go.RowKit
set_option linter.unusedVariables false
set_option linter.unusedSimpArgs false
/-- the square of the cross product's length -/
def crI (u v : P3) : Int := (u.y * v.z - u.z * v.y) * (u.y * v.z - u.z * v.y) + (u.z * v.x - u.x * v.z) * (u.z * v.x - u.x * v.z) + (u.x * v.y - u.y * v.x) * (u.x * v.y - u.y * v.x)
theorem lagI (u v : P3) : dotI u u * dotI v v = dotI u v * dotI u v + crI u v := by
  unfold dotI crI; exact lagrange _ _ _ _ _ _
theorem dotI_far (u : P3) (m : Int) (hm : 0 ≤ m) (h : m < u.x ∨ u.x < -m ∨ m < u.y ∨ u.y < -m ∨ m < u.z ∨ u.z < -m) : m * m < dotI u u := by
  unfold dotI
  have h1 := sq_nonneg u.x
  have h2 := sq_nonneg u.y
  have h3 := sq_nonneg u.z
  have key : ∀ a : Int, (m < a ∨ a < -m) → m * m < a * a := fun a ha => by
    rcases ha with ha | ha
    · exact Int.lt_of_le_of_lt (Int.mul_le_mul_of_nonneg_left (Int.le_of_lt ha) hm) (Int.mul_lt_mul_of_pos_right ha (by omega))
    · have hb : m < -a := by omega
      have := Int.lt_of_le_of_lt (Int.mul_le_mul_of_nonneg_left (Int.le_of_lt hb) hm) (Int.mul_lt_mul_of_pos_right hb (by omega))
      have e : -a * -a = a * a := by grind
      omega
  rcases h with h | h | h | h | h | h
  · have := key u.x (.inl h); omega
  · have := key u.x (.inr h); omega
  · have := key u.y (.inl h); omega
  · have := key u.y (.inr h); omega
  · have := key u.z (.inl h); omega
  · have := key u.z (.inr h); omega
theorem dotI_pos (u : P3) (h : u ≠ ⟨0, 0, 0⟩) : 0 < dotI u u := by
  have : 0 < u.x ∨ u.x < -0 ∨ 0 < u.y ∨ u.y < -0 ∨ 0 < u.z ∨ u.z < -0 := by
    cases u; simp at h ⊢; omega
  have := dotI_far u 0 (by decide) this
  omega
end Go.Proofs.Ytckdhahceelckaa.G
namespace Go.Proofs.Ytckdhahceelckaa.G
open Go.RowKit Go.Proofs.YtckdhahceelckaaW.PrintWords Go.Proofs.YtckdhahceelckaaW.PrintLast Go.Proofs.YtckdhahceelckaaW.PrintMore
attribute [local go_sem] max2_mx min2_mn max_two min_two max_three min_three max_four min_four
attribute [local go_sem high] eqA23
set_option linter.unusedVariables false
set_option linter.unusedSimpArgs false
/-- may's answer in every later world -/
def MaySays (w : World) (v : Value) (b : Bool) : Prop := ∀ w', Below w.heap.size w w' → Calls Try.prog 57 #[v] w' fun e w'' => e = .returned (.bool b) ∧ Below w'.heap.size w' w''
theorem MaySays.yes {w : World} {v : Value} {p a e : List P3} {r : Int} (h : CoreV w v p a e r) (m : MayP p a e r) : MaySays w v true := fun w' hb => by
  obtain ⟨A0, A1, A2, c0, c1, c2, rfl, h0, h1, h2, h3, h4, h5⟩ := (h.below hb).out
  exact may_yes p a e r A0 A1 A2 c0 c1 c2 w' h0.1 h1.1 h2.1 h3 h4 h5 false false false (List.length_pos_iff.2 m.p0) m.p1 m.a1 m.e1 m.r0 m.r1 m.pf m.af m.ef
set_option maxHeartbeats 2000000 in
theorem apart_nob (v0 v1 v2 v3 u0 u1 u2 u3 : Value) (w : World) (ha : MaySays w (.agg #[v0, v1, v2, v3]) true) (hb : MaySays w (.agg #[u0, u1, u2, u3]) false) :
    Calls Try.prog 20 #[.agg #[v0, v1, v2, v3], .agg #[u0, u1, u2, u3]] w fun e w' => e = .returned (.tuple #[.agg #[.int .i64 0, .int .i64 0, .int .i64 0, .int .i64 0], .bool false]) ∧ Below w.heap.size w w' := by
  have HA := Lh ha
  have HB := Lh hb
  clear ha hb
  have Hb0 := three1 w (.cells #[v0, v1, v2, v3] 36) (.cells #[u0, u1, u2, u3] 36) (.cells #[.int .i64 0, .int .i64 0, .int .i64 0, .int .i64 0] 40)
  have Hr0 := three2 w (.cells #[v0, v1, v2, v3] 36) (.cells #[u0, u1, u2, u3] 36) (.cells #[.int .i64 0, .int .i64 0, .int .i64 0, .int .i64 0] 40)
  have HW3 : Below w.heap.size w (((w.alloc (.cells #[v0, v1, v2, v3] 36)).alloc (.cells #[u0, u1, u2, u3] 36)).alloc (.cells #[.int .i64 0, .int .i64 0, .int .i64 0, .int .i64 0] 40)) := (((Below.refl _ w).alloc (Nat.le_refl _) _).alloc (by simp) _).alloc (by simp; omega) _
  have HB0 := Lh Hb0
  have HR0 := Lh Hr0
  clear Hb0 Hr0
  go_enter Try.func20, Try.ntmps20
  go_wp2_with fail
  obtain ⟨w3, hw3⟩ : ∃ w3, ((w.alloc (.cells #[v0, v1, v2, v3] 36)).alloc (.cells #[u0, u1, u2, u3] 36)).alloc (.cells #[.int .i64 0, .int .i64 0, .int .i64 0, .int .i64 0] 40) = w3 := ⟨_, rfl⟩
  rw [hw3] at HB0 HR0 HW3 ⊢
  clear hw3
  refine (HA.out _ HW3).mono ?_
  rintro e w4 ⟨rfl, hb4⟩
  have Hb4 := (hb4.block _ (blk_lt HB0.out)).trans HB0.out
  have Hr4 := (hb4.block _ (blk_lt HR0.out)).trans HR0.out
  have HW4 := bthen HW3 hb4
  clear HB0 HR0 HW3 hb4
  have x0 : w4.cell? ⟨w.heap.size + 1, 0, none⟩ = some u0 := (blk_cell Hb4 0).trans rfl
  have x1 : w4.cell? ⟨w.heap.size + 1, 1, none⟩ = some u1 := (blk_cell Hb4 1).trans rfl
  have x2 : w4.cell? ⟨w.heap.size + 1, 2, none⟩ = some u2 := (blk_cell Hb4 2).trans rfl
  have x3 : w4.cell? ⟨w.heap.size + 1, 3, none⟩ = some u3 := (blk_cell Hb4 3).trans rfl
  go_wp2_with fail
  refine (HB.out _ HW4).mono ?_
  rintro e w5 ⟨rfl, hb5⟩
  have Hr5 := (hb5.block _ (blk_lt Hr4)).trans Hr4
  have HW5 := bthen HW4 hb5
  clear Hb4 Hr4 HW4 hb5 x0 x1 x2 x3
  have v0 : w5.cell? ⟨w.heap.size + 1 + 1, 0, none⟩ = some (.int .i64 0) := (blk_cell Hr5 0).trans rfl
  have v1 : w5.cell? ⟨w.heap.size + 1 + 1, 1, none⟩ = some (.int .i64 0) := (blk_cell Hr5 1).trans rfl
  have v2 : w5.cell? ⟨w.heap.size + 1 + 1, 2, none⟩ = some (.int .i64 0) := (blk_cell Hr5 2).trans rfl
  have v3 : w5.cell? ⟨w.heap.size + 1 + 1, 3, none⟩ = some (.int .i64 0) := (blk_cell Hr5 3).trans rfl
  have f0 : w5.frozen? ⟨w.heap.size + 1 + 1, 0, none⟩ = false := blk_frozen Hr5 0
  have f1 : w5.frozen? ⟨w.heap.size + 1 + 1, 1, none⟩ = false := blk_frozen Hr5 1
  have f2 : w5.frozen? ⟨w.heap.size + 1 + 1, 2, none⟩ = false := blk_frozen Hr5 2
  have f3 : w5.frozen? ⟨w.heap.size + 1 + 1, 3, none⟩ = false := blk_frozen Hr5 3
  obtain ⟨V, hV⟩ : ∃ V, set4 w5 (w.heap.size + 1 + 1) (.int .i64 0) (.int .i64 0) (.int .i64 0) (.int .i64 0) = V := ⟨_, rfl⟩
  have HV : V.heap[w.heap.size + 1 + 1]? = some (.cells #[.int .i64 0, .int .i64 0, .int .i64 0, .int .i64 0] 40 (0, 0)) := by rw [← hV]; exact blk4_set Hr5 _ _ _ _
  have HBV : Below w.heap.size w V := by rw [← hV]; exact below_set4 HW5 (by omega) _ _ _ _
  have t0 : V.cell? ⟨w.heap.size + 1 + 1, 0, none⟩ = some (.int .i64 0) := (blk_cell HV 0).trans rfl
  have t1 : V.cell? ⟨w.heap.size + 1 + 1, 1, none⟩ = some (.int .i64 0) := (blk_cell HV 1).trans rfl
  have t2 : V.cell? ⟨w.heap.size + 1 + 1, 2, none⟩ = some (.int .i64 0) := (blk_cell HV 2).trans rfl
  have t3 : V.cell? ⟨w.heap.size + 1 + 1, 3, none⟩ = some (.int .i64 0) := (blk_cell HV 3).trans rfl
  go_wp2
  (try rw [hV])
  exact bodyPost_ret (v := .tuple #[.agg #[.int .i64 0, .int .i64 0, .int .i64 0, .int .i64 0], .bool false]) (by simp [results, Try.results20, go_sem, t0, t1, t2, t3]) rfl ⟨rfl, HBV⟩
end Go.Proofs.Ytckdhahceelckaa.G
namespace Go.Proofs.Ytckdhahceelckaa.G
open Go.RowKit Go.Proofs.YtckdhahceelckaaW.PrintWords Go.Proofs.YtckdhahceelckaaW.PrintLast Go.Proofs.YtckdhahceelckaaW.PrintMore
attribute [local go_sem] max2_mx min2_mn max_two min_two max_three min_three max_four min_four
attribute [local go_sem high] eqA23
set_option linter.unusedVariables false
set_option linter.unusedSimpArgs false
theorem ball_core (w : World) (g : Nat) (x y z r : Int) (c : Nat) (hc : 1 ≤ c) (h : w.heap[g]? = some (.cells #[.int .i64 x, .int .i64 y, .int .i64 z] 23 (0, 0))) : CoreV w (.agg #[.slice (some ⟨g, 0, none⟩) 1 c, .slice none 0 0, .slice none 0 0, .int .i64 r]) [⟨x, y, z⟩] [] [] r :=
  ⟨_, _, _, _, _, _, rfl, Rd_one h, RdB.nil _, RdB.nil _, hc, Nat.le_refl _, Nat.le_refl _⟩
theorem MaySays.zero (w : World) : MaySays w (.agg #[.slice none 0 0, .slice none 0 0, .slice none 0 0, .int .i64 0]) false := fun w' _ =>
  may_A [] [] [] 0 none none none 0 0 0 w' (Rd.nil _ _) (Rd.nil _ _) (Rd.nil _ _) (Nat.le_refl _) (Nat.le_refl _) (Nat.le_refl _) false false false rfl
theorem eqA40 (d : Nat) (w : World) (x y z g a b c h : Int) :
    (Op.equalIn (d + 3) 40 (.agg #[.int .i64 x, .int .i64 y, .int .i64 z, .int .i64 g]) (.agg #[.int .i64 a, .int .i64 b, .int .i64 c, .int .i64 h])).run Try.prog w = .ok (eqP x y z a b c && g == h) w := by
  refine eqA_of Try.underlying40 (by kernel_rfl) ?_
  refine eqf_cons (by rfl) (a := .agg #[.int .i64 x, .int .i64 y, .int .i64 z]) (b := .agg #[.int .i64 a, .int .i64 b, .int .i64 c]) (by go_simp) (by go_simp) (eqA23 _ _ _ _ _ _ _ _) ?_
  exact eqf_last (by rfl) (by go_simp; rfl) (by go_simp; rfl) (by go_simp)
attribute [local go_sem high] eqA40
end Go.Proofs.Ytckdhahceelckaa.G
namespace Go.Proofs.Ytckdhahceelckaa.G
open Go.RowKit
set_option linter.unusedVariables false
set_option linter.unusedSimpArgs false
theorem short3_eq (p : P3) (h : in3 4398046511104 p) (h0 : p ≠ ⟨0, 0, 0⟩) : short3 p = bare3 (halve3 (bare3 p)) := by
  unfold short3
  rw [if_neg]
  rw [(far3_iff _ _ (by decide) (by decide)).2 h]
  simp [h0]
theorem short3_zero : short3 ⟨0, 0, 0⟩ = ⟨0, 0, 0⟩ := by unfold short3; rw [if_pos (.inr rfl)]
theorem short3_ne (p : P3) (h : in3 4398046511104 p) (h0 : p ≠ ⟨0, 0, 0⟩) : short3 p ≠ ⟨0, 0, 0⟩ := by
  rw [short3_eq p h h0]
  exact bare3_ne _ 0 (halve3_ne _ (bare3_ne _ 0 h0))
theorem in3_le {n m : Int} (h : n ≤ m) {p : P3} (hp : in3 n p) : in3 m p := by unfold in3 at *; omega
theorem long3_short (p : P3) (h : in3 1048576 p) (h0 : p ≠ ⟨0, 0, 0⟩) : Par (long3 p) p ∧ long3 p ≠ ⟨0, 0, 0⟩ ∧ 274877906944 < dotI (long3 p) (long3 p) := by
  have hs : short3 p = bare3 (bare3 p) := by
    rw [short3_eq p (in3_le (by decide) h) h0, halve3_id _ (bare3_in _ _ h)]
  have hb := bare3_ne p 0 h0
  unfold long3
  rw [hs]
  have hb2 := bare3_ne (bare3 p) 0 hb
  refine ⟨(dbl3_par _).trans ((bare3_par _ hb).trans (bare3_par _ h0)), dbl3_ne _ hb2, ?_⟩
  have hf := dbl3_far _ hb2
  have hn : ¬ in3 524288 (dbl3 (bare3 (bare3 p))) := fun hi => by rw [(far3_iff _ _ (by decide) (by decide)).2 hi] at hf; cases hf
  have := dotI_far (dbl3 (bare3 (bare3 p))) 524288 (by decide) (by unfold in3 at hn; omega)
  omega
end Go.Proofs.Ytckdhahceelckaa.G
namespace Go.Proofs.Ytckdhahceelckaa.G
open Go.RowKit Go.Proofs.YtckdhahceelckaaW.PrintWords Go.Proofs.YtckdhahceelckaaW.PrintLast Go.Proofs.YtckdhahceelckaaW.PrintMore
attribute [local go_sem] max2_mx min2_mn max_two min_two max_three min_three max_four min_four
attribute [local go_sem high] eqA23
set_option linter.unusedVariables false
set_option linter.unusedSimpArgs false
theorem short3_in_eq (p : P3) (h : in3 4398046511104 p) : short3 p = bare3 (halve3 (bare3 p)) := by
  by_cases e : p = ⟨0, 0, 0⟩
  · rw [e, short3_zero, bare3_zero, halve3, dif_neg (by decide +kernel), bare3_zero]
  · exact short3_eq p h e
theorem far_of (r : P3) (h : 1048576 < r.x.natAbs ∨ 1048576 < r.y.natAbs ∨ 1048576 < r.z.natAbs) : far3 1048576 r = true := by
  cases hf : far3 1048576 r
  · obtain ⟨a, b, c, d, e, f⟩ := (far3_iff _ _ (by decide) (by decide)).1 hf
    omega
  · rfl
theorem far_not (r : P3) (h1 : r.x.natAbs ≤ 1048576) (h2 : r.y.natAbs ≤ 1048576) (h3 : r.z.natAbs ≤ 1048576) : far3 1048576 r = false :=
  (far3_iff _ _ (by decide) (by decide)).2 (by unfold in3; omega)
set_option maxHeartbeats 4000000 in
set_option maxRecDepth 100000 in
theorem rshort_calls (p : P3) (w : World) (hp : in3 4398046511104 p) :
    Calls Try.prog 81 #[aP p] w fun e w' => e = .returned (aP (short3 p)) ∧ Below w.heap.size w w' := by
  have HSE := Lh (short3_in_eq p hp)
  have HBR := Lh (fun W => rbare_calls p W hp)
  have HIN := Lh (bare3_in p 4398046511104 hp)
  obtain ⟨q, hq⟩ : ∃ q, bare3 p = q := ⟨_, rfl⟩
  rw [hq] at HSE HBR HIN
  clear hq
  obtain ⟨x, y, z⟩ := p
  obtain ⟨a1, a2, a3, a4, a5, a6⟩ := hp
  simp only at a1 a2 a3 a4 a5 a6
  have ix := Lh (in5_calls x (-4398046511104) 4398046511104 true (by simp; omega))
  have iy := Lh (in5_calls y (-4398046511104) 4398046511104 true (by simp; omega))
  have iz := Lh (in5_calls z (-4398046511104) 4398046511104 true (by simp; omega))
  clear a1 a2 a3 a4 a5 a6
  have B1 := Lh ((C3.new w (.int .i64 x) (.int .i64 y) (.int .i64 z) 23).alloc (.cells #[.int .i64 0, .int .i64 0, .int .i64 0] 23))
  have B2 := C3.new (w.alloc (.cells #[.int .i64 x, .int .i64 y, .int .i64 z] 23)) (.int .i64 0) (.int .i64 0) (.int .i64 0) 23
  simp only [World.size_alloc] at B2
  have B2 := Lh B2
  have HW := Lh (((Below.refl _ w).alloc (Nat.le_refl _) (.cells #[.int .i64 x, .int .i64 y, .int .i64 z] 23)).alloc (by simp) (.cells #[.int .i64 0, .int .i64 0, .int .i64 0] 23))
  go_enter Try.func81, Try.ntmps81
  go_wp2_with fail
  refine (ix.out _).mono ?_
  rintro e w1 ⟨rfl, rfl⟩
  go_wp2_with fail
  refine (iy.out _).mono ?_
  rintro e w1 ⟨rfl, rfl⟩
  go_wp2_with fail
  refine (iz.out _).mono ?_
  rintro e w1 ⟨rfl, rfl⟩
  clear ix iy iz
  go_wp2_with fail
  refine (HBR.out _).mono ?_
  rintro e w1 ⟨rfl, hb⟩
  have D2 := Lh (B2.out.below hb)
  have HW1 := Lh (bthen HW.out hb)
  have lz : w.heap.size + 1 < w1.heap.size := by have := hb.size; simp at this; omega
  clear HBR HW hb B1 B2
  have hA := Lh (C3.new w1 (.int .i64 q.x) (.int .i64 q.y) (.int .i64 q.z) 23)
  have hR := Lh (D2.out.alloc (.cells #[.int .i64 q.x, .int .i64 q.y, .int .i64 q.z] 23))
  have hW := Lh (HW1.out.alloc (by omega) (.cells #[.int .i64 q.x, .int .i64 q.y, .int .i64 q.z] 23))
  clear D2 HW1
  obtain ⟨T, hT⟩ : ∃ T, w1.heap.size = T := ⟨_, rfl⟩
  go_wp2_with fail
  rw [hT] at hA lz
  generalize w1.alloc (.cells #[.int .i64 q.x, .int .i64 q.y, .int .i64 q.z] 23) = w2 at hA hR hW ⊢
  clear hT
  go_loopg [] (size3 q) (fun kq wr => ∃ r : P3, Hid (kq = size3 r) ∧ Hid (halve3 r = halve3 q) ∧ Hid (in3 4398046511104 r) ∧ Hid (C3 wr T (.int .i64 r.x) (.int .i64 r.y) (.int .i64 r.z)) ∧ Hid (C3 wr (w.heap.size + 1) (.int .i64 0) (.int .i64 0) (.int .i64 0)) ∧ Hid (Below w.heap.size w wr))
  case atStart => exact ⟨q, Lh rfl, Lh rfl, HIN, hA, hR, hW⟩
  case round =>
    clear hA hR hW HIN
    obtain ⟨r, h1, h2, h3, h5, h6, h7⟩ := hrel
    obtain ⟨hx1, hx2, hy1, hy2, hz1, hz2⟩ := h3.out
    obtain ⟨rx, ry, rz⟩ := r
    dsimp only at h5 hx1 hx2 hy1 hy2 hz1 hz2
    have sx := Lh (size5_calls rx (by omega) (by omega))
    have sy := Lh (size5_calls ry (by omega) (by omega))
    have sz := Lh (size5_calls rz (by omega) (by omega))
    obtain ⟨c10, c11, c12, f10, f11, f12⟩ := id h5.out
    by_cases tx : 1048576 < rx.natAbs
    · skip
      have dx : decide ((1048576 : Int) < (rx.natAbs : Int)) = true := by simp; omega
      have hf := far_of ⟨rx, ry, rz⟩ (.inl tx)
      have e2 := Lh (show size3 (div3 2 ⟨rx, ry, rz⟩) < gk by rw [h1.out]; exact div2_lt _ hf)
      have e3 := Lh (div3_in 2 4398046511104 _ h3.out)
      have e1 := Lh ((show halve3 (div3 2 ⟨rx, ry, rz⟩) = halve3 ⟨rx, ry, rz⟩ by rw [halve3.eq_1 ⟨rx, ry, rz⟩, dif_pos hf]).trans h2.out)
      have td1 := iw_tdiv rx 2 (by omega) (by omega)
      have td2 := iw_tdiv ry 2 (by omega) (by omega)
      have td3 := iw_tdiv rz 2 (by omega) (by omega)
      clear hf tx
      go_wp2_with fail
      refine (sx.out _).mono ?_
      rintro e w5 ⟨rfl, rfl⟩
      go_wp2
      go_roundg (size3 (div3 2 ⟨rx, ry, rz⟩))
      case measure => exact e2.out
      case rel => exact ⟨div3 2 ⟨rx, ry, rz⟩, Lh rfl, e1, e3, h5.out.set _ _ _, h6.out.other (by omega) _ _ _, below_set3 h7.out (by omega) _ _ _⟩
    · by_cases ty : 1048576 < ry.natAbs
      · skip
        have dx : decide ((1048576 : Int) < (rx.natAbs : Int)) = false := by simp; omega
        have dy : decide ((1048576 : Int) < (ry.natAbs : Int)) = true := by simp; omega
        have hf := far_of ⟨rx, ry, rz⟩ (.inr (.inl ty))
        have e2 := Lh (show size3 (div3 2 ⟨rx, ry, rz⟩) < gk by rw [h1.out]; exact div2_lt _ hf)
        have e3 := Lh (div3_in 2 4398046511104 _ h3.out)
        have e1 := Lh ((show halve3 (div3 2 ⟨rx, ry, rz⟩) = halve3 ⟨rx, ry, rz⟩ by rw [halve3.eq_1 ⟨rx, ry, rz⟩, dif_pos hf]).trans h2.out)
        have td1 := iw_tdiv rx 2 (by omega) (by omega)
        have td2 := iw_tdiv ry 2 (by omega) (by omega)
        have td3 := iw_tdiv rz 2 (by omega) (by omega)
        clear hf tx ty
        go_wp2_with fail
        refine (sx.out _).mono ?_
        rintro e w5 ⟨rfl, rfl⟩
        go_wp2_with fail
        refine (sy.out _).mono ?_
        rintro e w5 ⟨rfl, rfl⟩
        go_wp2
        go_roundg (size3 (div3 2 ⟨rx, ry, rz⟩))
        case measure => exact e2.out
        case rel => exact ⟨div3 2 ⟨rx, ry, rz⟩, Lh rfl, e1, e3, h5.out.set _ _ _, h6.out.other (by omega) _ _ _, below_set3 h7.out (by omega) _ _ _⟩
      · by_cases tz : 1048576 < rz.natAbs
        · skip
          have dx : decide ((1048576 : Int) < (rx.natAbs : Int)) = false := by simp; omega
          have dy : decide ((1048576 : Int) < (ry.natAbs : Int)) = false := by simp; omega
          have dz : decide ((1048576 : Int) < (rz.natAbs : Int)) = true := by simp; omega
          have hf := far_of ⟨rx, ry, rz⟩ (.inr (.inr tz))
          have e2 := Lh (show size3 (div3 2 ⟨rx, ry, rz⟩) < gk by rw [h1.out]; exact div2_lt _ hf)
          have e3 := Lh (div3_in 2 4398046511104 _ h3.out)
          have e1 := Lh ((show halve3 (div3 2 ⟨rx, ry, rz⟩) = halve3 ⟨rx, ry, rz⟩ by rw [halve3.eq_1 ⟨rx, ry, rz⟩, dif_pos hf]).trans h2.out)
          have td1 := iw_tdiv rx 2 (by omega) (by omega)
          have td2 := iw_tdiv ry 2 (by omega) (by omega)
          have td3 := iw_tdiv rz 2 (by omega) (by omega)
          clear hf tx ty tz
          go_wp2_with fail
          refine (sx.out _).mono ?_
          rintro e w5 ⟨rfl, rfl⟩
          go_wp2_with fail
          refine (sy.out _).mono ?_
          rintro e w5 ⟨rfl, rfl⟩
          go_wp2_with fail
          refine (sz.out _).mono ?_
          rintro e w5 ⟨rfl, rfl⟩
          go_wp2
          go_roundg (size3 (div3 2 ⟨rx, ry, rz⟩))
          case measure => exact e2.out
          case rel => exact ⟨div3 2 ⟨rx, ry, rz⟩, Lh rfl, e1, e3, h5.out.set _ _ _, h6.out.other (by omega) _ _ _, below_set3 h7.out (by omega) _ _ _⟩
        · skip
          have dx : decide ((1048576 : Int) < (rx.natAbs : Int)) = false := by simp; omega
          have dy : decide ((1048576 : Int) < (ry.natAbs : Int)) = false := by simp; omega
          have dz : decide ((1048576 : Int) < (rz.natAbs : Int)) = false := by simp; omega
          have hf := far_not ⟨rx, ry, rz⟩ (by simp; omega) (by simp; omega) (by simp; omega)
          have E1 := Lh (show halve3 q = ⟨rx, ry, rz⟩ by rw [← h2.out, halve3, dif_neg (by rw [hf]; simp)])
          have HBR := Lh (fun W => rbare_calls ⟨rx, ry, rz⟩ W h3.out)
          obtain ⟨u, hu⟩ : ∃ u, bare3 ⟨rx, ry, rz⟩ = u := ⟨_, rfl⟩
          rw [hu] at HBR
          have HU := Lh hu
          clear hf tx ty tz hu
          go_wp2_with fail
          refine (sx.out _).mono ?_
          rintro e w5 ⟨rfl, rfl⟩
          go_wp2_with fail
          refine (sy.out _).mono ?_
          rintro e w5 ⟨rfl, rfl⟩
          go_wp2_with fail
          refine (sz.out _).mono ?_
          rintro e w5 ⟨rfl, rfl⟩
          go_wp2_with fail
          refine (HBR.out _).mono ?_
          rintro e w6 ⟨rfl, hb⟩
          obtain ⟨c0, c1, c2, f0, f1, f2⟩ := h6.out.below hb
          have H7 := Lh (bthen h7.out hb)
          clear hb c10 c11 c12 f10 f11 f12
          go_wp2
          rw [HSE.out, E1.out, HU.out]
          exact bodyPost_ret (v := aP u) (by simp [results, Try.results81, go_sem, c0, c1, c2]) rfl ⟨rfl, below_set3 H7.out (by omega) _ _ _⟩
end Go.Proofs.Ytckdhahceelckaa.G
namespace Go.Proofs.Ytckdhahceelckaa.G
open Go.RowKit Go.Proofs.YtckdhahceelckaaW.PrintWords Go.Proofs.YtckdhahceelckaaW.PrintLast Go.Proofs.YtckdhahceelckaaW.PrintMore
attribute [local go_sem] max2_mx min2_mn max_two min_two max_three min_three max_four min_four
attribute [local go_sem high] eqA23
set_option linter.unusedVariables false
set_option linter.unusedSimpArgs false
/-- the normal of three points -/
def nrm3 (a b c : P3) : P3 := cross3 (minus3 b a) (minus3 c a)
set_option maxHeartbeats 4000000 in
set_option maxRecDepth 100000 in
theorem normal_calls (a b c : P3) (w : World) :
    Calls Try.prog 155 #[aP a, aP b, aP c] w fun e w' => e = .returned (aP (nrm3 a b c)) ∧ Below w.heap.size w w' := by
  have HM1 := Lh (fun W => rminus_calls b.x b.y b.z a.x a.y a.z W)
  have HM2 := Lh (fun W => rminus_calls c.x c.y c.z a.x a.y a.z W)
  have HC := Lh (fun W => rcross_calls (minus3 b a) (minus3 c a) W)
  have HE : Hid (nrm3 a b c = cross3 (minus3 b a) (minus3 c a)) := Lh rfl
  obtain ⟨ax, ay, az⟩ := a
  obtain ⟨bx, cy, bz⟩ := b
  obtain ⟨cx, dy, cz⟩ := c
  simp only at HM1 HM2
  obtain ⟨⟨u1, u2, u3⟩, hu⟩ : ∃ u, minus3 ⟨bx, cy, bz⟩ ⟨ax, ay, az⟩ = u := ⟨_, rfl⟩
  obtain ⟨⟨v1, v2, v3⟩, hv⟩ : ∃ u, minus3 ⟨cx, dy, cz⟩ ⟨ax, ay, az⟩ = u := ⟨_, rfl⟩
  rw [hu] at HM1 HC HE
  rw [hv] at HM2 HC HE
  obtain ⟨⟨n1, n2, n3⟩, hn⟩ : ∃ u, cross3 ⟨u1, u2, u3⟩ ⟨v1, v2, v3⟩ = u := ⟨_, rfl⟩
  rw [hn] at HC HE
  simp only at HM1 HM2 HC
  clear hu hv hn
  go_enter Try.func155, Try.ntmps155
  go_wp2_with fail
  obtain ⟨w1, hw1⟩ : ∃ w1, (((w.alloc (.cells #[.int .i64 ax, .int .i64 ay, .int .i64 az] 23)).alloc (.cells #[.int .i64 bx, .int .i64 cy, .int .i64 bz] 23)).alloc (.cells #[.int .i64 cx, .int .i64 dy, .int .i64 cz] 23)).alloc (.cells #[.int .i64 0, .int .i64 0, .int .i64 0] 23) = w1 := ⟨_, rfl⟩
  have A1 : Hid (C3 w1 w.heap.size (.int .i64 ax) (.int .i64 ay) (.int .i64 az)) := Lh (by rw [← hw1]; exact (C3.of (three0 w _ _ _)).alloc _)
  have B1 : Hid (C3 w1 (w.heap.size + 1) (.int .i64 bx) (.int .i64 cy) (.int .i64 bz)) := Lh (by rw [← hw1]; exact (C3.of (three1 w _ _ _)).alloc _)
  have D1 : Hid (C3 w1 (w.heap.size + 1 + 1) (.int .i64 cx) (.int .i64 dy) (.int .i64 cz)) := Lh (by rw [← hw1]; exact (C3.of (three2 w _ _ _)).alloc _)
  have R1 : Hid (w1.heap[w.heap.size + 1 + 1 + 1]? = some (.cells #[.int .i64 0, .int .i64 0, .int .i64 0] 23 (0, 0))) := Lh (by
    rw [← hw1]
    have h := heap_alloc_new (((w.alloc (.cells #[.int .i64 ax, .int .i64 ay, .int .i64 az] 23)).alloc (.cells #[.int .i64 bx, .int .i64 cy, .int .i64 bz] 23)).alloc (.cells #[.int .i64 cx, .int .i64 dy, .int .i64 cz] 23)) (.cells #[.int .i64 0, .int .i64 0, .int .i64 0] 23)
    simp only [World.size_alloc] at h
    exact h)
  have HW1 := Lh (show Below w.heap.size w w1 by rw [← hw1]; exact ((((Below.refl _ w).alloc (Nat.le_refl _) _).alloc (by simp) _).alloc (by simp; omega) _).alloc (by simp; omega) _)
  have lz : w.heap.size + 1 + 1 + 1 < w1.heap.size := blk_lt R1.out
  rw [hw1]
  clear hw1
  have l0 : w.heap.size < w1.heap.size := by omega
  have l1 : w.heap.size + 1 < w1.heap.size := by omega
  have l2 : w.heap.size + 1 + 1 < w1.heap.size := by omega
  obtain ⟨a0, a1, a2, _, _, _⟩ := A1.out
  obtain ⟨b0, b1, b2, _, _, _⟩ := B1.out
  obtain ⟨d0, d1, d2, _, _, _⟩ := D1.out
  have HB := Lh ((Below.refl (w1.heap.size) w1).drew)
  have HA := Lh (show w1.drew.heap[(w.heap.size + 1 + 1 + 1)]? = _ from R1.out)
  have FF := Lh (show ∀ V, Hid (Below (w1.heap.size) w1 V) → V.cell? ⟨w.heap.size, 0, none⟩ = some (.int .i64 ax) ∧ V.cell? ⟨w.heap.size, 1, none⟩ = some (.int .i64 ay) ∧ V.cell? ⟨w.heap.size, 2, none⟩ = some (.int .i64 az) ∧ V.cell? ⟨w.heap.size + 1, 0, none⟩ = some (.int .i64 bx) ∧ V.cell? ⟨w.heap.size + 1, 1, none⟩ = some (.int .i64 cy) ∧ V.cell? ⟨w.heap.size + 1, 2, none⟩ = some (.int .i64 bz) ∧ V.cell? ⟨w.heap.size + 1 + 1, 0, none⟩ = some (.int .i64 cx) ∧ V.cell? ⟨w.heap.size + 1 + 1, 1, none⟩ = some (.int .i64 dy) ∧ V.cell? ⟨w.heap.size + 1 + 1, 2, none⟩ = some (.int .i64 cz) from fun V HB => ⟨(HB.out.cell (p := ⟨w.heap.size, 0, none⟩) (l0)).trans a0, (HB.out.cell (p := ⟨w.heap.size, 1, none⟩) (l0)).trans a1, (HB.out.cell (p := ⟨w.heap.size, 2, none⟩) (l0)).trans a2, (HB.out.cell (p := ⟨w.heap.size + 1, 0, none⟩) (l1)).trans b0, (HB.out.cell (p := ⟨w.heap.size + 1, 1, none⟩) (l1)).trans b1, (HB.out.cell (p := ⟨w.heap.size + 1, 2, none⟩) (l1)).trans b2, (HB.out.cell (p := ⟨w.heap.size + 1 + 1, 0, none⟩) (l2)).trans d0, (HB.out.cell (p := ⟨w.heap.size + 1 + 1, 1, none⟩) (l2)).trans d1, (HB.out.cell (p := ⟨w.heap.size + 1 + 1, 2, none⟩) (l2)).trans d2⟩)
  refine start_ (n := 8) (S := fun w' => w'.cell? ⟨w.heap.size, 0, none⟩ = some (.int .i64 ax) ∧ w'.cell? ⟨w.heap.size, 1, none⟩ = some (.int .i64 ay) ∧ w'.cell? ⟨w.heap.size, 2, none⟩ = some (.int .i64 az) ∧ w'.cell? ⟨w.heap.size + 1, 0, none⟩ = some (.int .i64 bx) ∧ w'.cell? ⟨w.heap.size + 1, 1, none⟩ = some (.int .i64 cy) ∧ w'.cell? ⟨w.heap.size + 1, 2, none⟩ = some (.int .i64 bz) ∧ w'.cell? ⟨w.heap.size + 1 + 1, 0, none⟩ = some (.int .i64 cx) ∧ w'.cell? ⟨w.heap.size + 1 + 1, 1, none⟩ = some (.int .i64 dy) ∧ w'.cell? ⟨w.heap.size + 1 + 1, 2, none⟩ = some (.int .i64 cz)) (ds := [7]) (MT 0 8) (by kernel_rfl) rfl rfl (FF.out _ HB) (fun hHeld => ?_)
  obtain ⟨wd, hwd⟩ : ∃ x, w1.drew = x := ⟨_, rfl⟩
  rw [hwd] at HB hHeld HA ⊢
  clear hwd
  refine ta_ 0 7 hHeld (h := ?_)
  refine ta_ 1 8 hHeld (h := ?_)
  refine ta_ 3 10 hHeld (h := ?_)
  refine ta_ 4 11 hHeld (h := ?_)
  refine on_ 2 (some 9) (h := fun K hK => ?_)
  refine gs_ Try.func23 #[.agg #[.int .i64 bx, .int .i64 cy, .int .i64 bz], .agg #[.int .i64 ax, .int .i64 ay, .int .i64 az]] ?_
  with_reducible refine (HM1.out _).mono ?_
  rintro e w3 ⟨rfl, hb⟩
  have HB := Lh (HB.out.trans (hb.mono HB.out.size))
  have HA := Lh ((hb.block _ (blk_lt HA.out)).trans HA.out)
  clear hb
  refine ⟨_, rfl, ?_⟩
  refine hK.out _ _ (FF.out _ HB) (fun hHeld => ?_)
  clear hK K
  refine no_ (h := ?_)
  refine on_ 5 (some 12) (h := fun K hK => ?_)
  refine gs_ Try.func23 #[.agg #[.int .i64 cx, .int .i64 dy, .int .i64 cz], .agg #[.int .i64 ax, .int .i64 ay, .int .i64 az]] ?_
  with_reducible refine (HM2.out _).mono ?_
  rintro e w3 ⟨rfl, hb⟩
  have HB := Lh (HB.out.trans (hb.mono HB.out.size))
  have HA := Lh ((hb.block _ (blk_lt HA.out)).trans HA.out)
  clear hb
  refine ⟨_, rfl, ?_⟩
  refine hK.out _ _ (FF.out _ HB) (fun hHeld => ?_)
  clear hK K
  refine no_ (h := ?_)
  refine on_ 6 (some 13) (h := fun K hK => ?_)
  refine gs_ Try.func82 #[.agg #[.int .i64 u1, .int .i64 u2, .int .i64 u3], .agg #[.int .i64 v1, .int .i64 v2, .int .i64 v3]] ?_
  with_reducible refine (HC.out _).mono ?_
  rintro e w3 ⟨rfl, hb⟩
  have HB := Lh (HB.out.trans (hb.mono HB.out.size))
  have HA := Lh ((hb.block _ (blk_lt HA.out)).trans HA.out)
  clear hb
  refine ⟨_, rfl, ?_⟩
  refine hK.out _ _ (FF.out _ HB) (fun hHeld => ?_)
  clear hK K
  refine no_ (h := ?_)
  refine last_ (i := 7) (N := none) (MT 8 0) rfl rfl (by kernel_rfl) (by decide) (fun K hK => ?_)
  have sc0 : World.cell? _ ⟨(w.heap.size + 1 + 1 + 1), 0, none⟩ = some (.int .i64 0) := (blk_cell HA.out 0).trans rfl
  have sf0 := blk_frozen HA.out 0
  have sc1 : World.cell? _ ⟨(w.heap.size + 1 + 1 + 1), 1, none⟩ = some (.int .i64 0) := (blk_cell HA.out 1).trans rfl
  have sf1 := blk_frozen HA.out 1
  have sc2 : World.cell? _ ⟨(w.heap.size + 1 + 1 + 1), 2, none⟩ = some (.int .i64 0) := (blk_cell HA.out 2).trans rfl
  have sf2 := blk_frozen HA.out 2
  refine skip_ (w1 := ?_) (by rfl) rfl ?_ ?_
  rotate_left
  · go_simp
    rfl
  have HB := Lh (show Below (w.heap.size) _ _ from HB.out.mono (Nat.le_of_lt l0))
  have HA := Lh (bs3 HA.out (.int .i64 n1) (.int .i64 n2) (.int .i64 n3))
  have HB := Lh (bb3 HB.out (show w.heap.size ≤ w.heap.size + 1 + 1 + 1 by omega) (.int .i64 n1) (.int .i64 n2) (.int .i64 n3))
  clear sc0 sf0 sc1 sf1 sc2 sf2
  refine hK.out _ _ ?_
  clear hK K
  refine done_ (by kernel_rfl) ?_
  obtain ⟨w5, hwn⟩ : ∃ V, (((w3.setCell ⟨(w.heap.size + 1 + 1 + 1), 0, none⟩ (.int .i64 n1)).setCell ⟨(w.heap.size + 1 + 1 + 1), 1, none⟩ (.int .i64 n2)).setCell ⟨(w.heap.size + 1 + 1 + 1), 2, none⟩ (.int .i64 n3)) = V := ⟨_, rfl⟩
  rw [hwn] at HA HB ⊢
  clear hwn
  have HW5 := Lh (HW1.out.trans HB.out)
  have t0 : w5.cell? ⟨w.heap.size + 1 + 1 + 1, 0, none⟩ = some (.int .i64 n1) := (blk_cell HA.out 0).trans rfl
  have t1 : w5.cell? ⟨w.heap.size + 1 + 1 + 1, 1, none⟩ = some (.int .i64 n2) := (blk_cell HA.out 1).trans rfl
  have t2 : w5.cell? ⟨w.heap.size + 1 + 1 + 1, 2, none⟩ = some (.int .i64 n3) := (blk_cell HA.out 2).trans rfl
  clear HB HA a0 a1 a2 b0 b1 b2 d0 d1 d2
  go_wp2
  rw [HE.out]
  exact bodyPost_ret (v := aP ⟨n1, n2, n3⟩) (by simp [results, Try.results155, go_sem, t0, t1, t2]) rfl ⟨rfl, HW5.out⟩
/-- the least and the greatest along a normal, from nought -/
def sdStep (n a : P3) (s : Int × Int) (p : P3) : Int × Int := (mn s.1 (dot3 n (minus3 p a)), mx s.2 (dot3 n (minus3 p a)))
def sdF (l : List P3) (n a : P3) : Int × Int := l.foldl (sdStep n a) (0, 0)
theorem sdF_snoc (l : List P3) (n a : P3) (k : Nat) (h : k < l.length) : sdF (l.take (k + 1)) n a = sdStep n a (sdF (l.take k) n a) l[k] := by
  unfold sdF; rw [List.take_succ_eq_append_getElem h, List.foldl_append]; rfl
def sideV (s : Int × Int) : Int := if s.2 ≤ 0 then 1 else if 0 ≤ s.1 then -1 else 0
def sideF (l : List P3) (n a : P3) : Int := sideV (sdF l n a)
set_option maxHeartbeats 4000000 in
set_option maxRecDepth 100000 in
theorem side_calls (l : List P3) (A : Option Addr) (c : Nat) (n a : P3) (w : World) (hA : Rd w A l) (hl : l.length ≤ 1000) :
    Calls Try.prog 156 #[.slice A l.length c, aP n, aP a] w fun e w' => e = .returned (.int .i64 (sideF l n a)) ∧ Below w.heap.size w w' := by
  have HA := Lh hA
  have HSN := Lh (fun k h => sdF_snoc l n a k h)
  have HE : Hid (sideF l n a = sideV (sdF l n a)) := Lh rfl
  have HM := Lh (fun (p : P3) W => rminus_calls p.x p.y p.z a.x a.y a.z W)
  have HD := Lh (fun (q : P3) W => rdot_calls n.x n.y n.z q.x q.y q.z W)
  have HSD : Hid (∀ s p, sdStep n a s p = (mn s.1 (dot3 n (minus3 p a)), mx s.2 (dot3 n (minus3 p a)))) := Lh (fun s p => rfl)
  obtain ⟨N, hN⟩ : ∃ N, l.length = N := ⟨_, rfl⟩
  have HN := Lh hN
  rw [hN] at hl ⊢
  clear hA hN
  obtain ⟨nx, ny, nz⟩ := n
  obtain ⟨ax, ay, az⟩ := a
  simp only at HM HD
  go_enter Try.func156, Try.ntmps156
  go_wp2
  obtain ⟨w1, hw1⟩ : ∃ w1, (w.alloc (.cells #[.int .i64 nx, .int .i64 ny, .int .i64 nz] 23)).alloc (.cells #[.int .i64 ax, .int .i64 ay, .int .i64 az] 23) = w1 := ⟨_, rfl⟩
  have N1 : Hid (C3 w1 w.heap.size (.int .i64 nx) (.int .i64 ny) (.int .i64 nz)) := Lh (by rw [← hw1]; exact (C3.new w _ _ _ _).alloc _)
  have A1 : Hid (C3 w1 (w.heap.size + 1) (.int .i64 ax) (.int .i64 ay) (.int .i64 az)) := Lh (by rw [← hw1]; have h := C3.new (w.alloc (.cells #[.int .i64 nx, .int .i64 ny, .int .i64 nz] 23)) (.int .i64 ax) (.int .i64 ay) (.int .i64 az) 23; rw [World.size_alloc] at h; exact h)
  have HW1 := Lh (show Below w.heap.size w w1 by rw [← hw1]; exact ((Below.refl _ w).alloc (Nat.le_refl _) _).alloc (by simp) _)
  have z1 : w1.heap.size = w.heap.size + 1 + 1 := by rw [← hw1]; simp
  have Z1 := Lh z1
  rw [hw1]
  clear hw1 z1
  go_loopw [7, 8, 9, 10] (fun v7 v8 v9 v10 wr => ∃ k : Nat, k ≤ N ∧ v9 = .int .i64 k ∧ v7 = .int .i64 (sdF (l.take k) ⟨nx, ny, nz⟩ ⟨ax, ay, az⟩).1 ∧ v8 = .int .i64 (sdF (l.take k) ⟨nx, ny, nz⟩ ⟨ax, ay, az⟩).2 ∧ Hid (Below w1.heap.size w1 wr)) (fun _ _ i _ _ => N - (intOf i).toNat)
  case atStart => exact ⟨0, by omega, rfl, rfl, rfl, Lh (Below.refl _ _)⟩
  case round =>
    obtain ⟨k, hk, rfl, rfl, rfl, hB⟩ := hrel
    have z1 := Z1.out
    by_cases hlt : k < N
    · have hkl : k < l.length := by rw [HN.out]; exact hlt
      have hBw : Below w.heap.size w wr := HW1.out.trans (hB.out.mono (by omega))
      obtain ⟨b, o, rfl, lb, e0, e1, e2⟩ := (HA.out.below hBw).get k hkl
      have hS := HSN.out k hkl
      obtain ⟨p, hpe⟩ : ∃ p, l[k] = p := ⟨_, rfl⟩
      rw [hpe] at e0 e1 e2 hS
      have hM := Lh (HM.out p)
      obtain ⟨q, hq⟩ : ∃ q, minus3 p ⟨ax, ay, az⟩ = q := ⟨_, rfl⟩
      have hD := Lh (HD.out q)
      obtain ⟨d, hd⟩ : ∃ d, dot3 ⟨nx, ny, nz⟩ q = d := ⟨_, rfl⟩
      rw [HSD.out, hq, hd] at hS
      have hM' : Hid (∀ W, Calls Try.prog 23 #[aP p, aP ⟨ax, ay, az⟩] W fun e w' => e = .returned (aP q) ∧ Below W.heap.size W w') := Lh (by rw [← hq]; exact hM.out)
      have hD' : Hid (∀ W, Calls Try.prog 24 #[aP ⟨nx, ny, nz⟩, aP q] W fun e w' => e = .returned (.int .i64 d) ∧ Below W.heap.size W w') := Lh (by rw [← hd]; exact hD.out)
      have hS := Lh hS
      obtain ⟨⟨s1, s2⟩, hs⟩ : ∃ s, sdF (l.take k) ⟨nx, ny, nz⟩ ⟨ax, ay, az⟩ = s := ⟨_, rfl⟩
      rw [hs] at hS ⊢
      obtain ⟨px, py, pz⟩ := p
      simp only at e0 e1 e2 hS
      clear hpe hq hd hM hD hs
      obtain ⟨wo, hwo⟩ : ∃ wo : World, wo = wr := ⟨_, rfl⟩
      subst hwo
      obtain ⟨n0, n1, n2, _, _, _⟩ := N1.out.below hB.out
      obtain ⟨a0, a1, a2, _, _, _⟩ := A1.out.below hB.out
      have hsz := hB.out.size
      have ln : w.heap.size < wo.heap.size := by omega
      have la : w.heap.size + 1 < wo.heap.size := by omega
      have hki : (k : Int) < (N : Int) := by omega
      have hB0 := hB
      clear z1 hsz hB
      go_wp2_with fail
      have HB := Lh ((Below.refl (wo.heap.size) wo).drew)
      have FF := Lh (show ∀ V, Hid (Below (wo.heap.size) wo V) → V.cell? ⟨w.heap.size, 0, none⟩ = some (.int .i64 nx) ∧ V.cell? ⟨w.heap.size, 1, none⟩ = some (.int .i64 ny) ∧ V.cell? ⟨w.heap.size, 2, none⟩ = some (.int .i64 nz) ∧ V.cell? ⟨w.heap.size + 1, 0, none⟩ = some (.int .i64 ax) ∧ V.cell? ⟨w.heap.size + 1, 1, none⟩ = some (.int .i64 ay) ∧ V.cell? ⟨w.heap.size + 1, 2, none⟩ = some (.int .i64 az) ∧ V.cell? ⟨b, o + k * 3, none⟩ = some (.int .i64 px) ∧ V.cell? ⟨b, o + k * 3 + 1, none⟩ = some (.int .i64 py) ∧ V.cell? ⟨b, o + k * 3 + 2, none⟩ = some (.int .i64 pz) from fun V HB => ⟨(HB.out.cell (p := ⟨w.heap.size, 0, none⟩) (ln)).trans n0, (HB.out.cell (p := ⟨w.heap.size, 1, none⟩) (ln)).trans n1, (HB.out.cell (p := ⟨w.heap.size, 2, none⟩) (ln)).trans n2, (HB.out.cell (p := ⟨w.heap.size + 1, 0, none⟩) (la)).trans a0, (HB.out.cell (p := ⟨w.heap.size + 1, 1, none⟩) (la)).trans a1, (HB.out.cell (p := ⟨w.heap.size + 1, 2, none⟩) (la)).trans a2, (HB.out.cell (p := ⟨b, o + k * 3, none⟩) (lb)).trans e0, (HB.out.cell (p := ⟨b, o + k * 3 + 1, none⟩) (lb)).trans e1, (HB.out.cell (p := ⟨b, o + k * 3 + 2, none⟩) (lb)).trans e2⟩)
      refine start_ (n := 9) (S := fun w' => w'.cell? ⟨w.heap.size, 0, none⟩ = some (.int .i64 nx) ∧ w'.cell? ⟨w.heap.size, 1, none⟩ = some (.int .i64 ny) ∧ w'.cell? ⟨w.heap.size, 2, none⟩ = some (.int .i64 nz) ∧ w'.cell? ⟨w.heap.size + 1, 0, none⟩ = some (.int .i64 ax) ∧ w'.cell? ⟨w.heap.size + 1, 1, none⟩ = some (.int .i64 ay) ∧ w'.cell? ⟨w.heap.size + 1, 2, none⟩ = some (.int .i64 az) ∧ w'.cell? ⟨b, o + k * 3, none⟩ = some (.int .i64 px) ∧ w'.cell? ⟨b, o + k * 3 + 1, none⟩ = some (.int .i64 py) ∧ w'.cell? ⟨b, o + k * 3 + 2, none⟩ = some (.int .i64 pz)) (ds := []) (MT 0 9) (by kernel_rfl) rfl rfl (FF.out _ HB) (fun hHeld => ?_)
      obtain ⟨wd, hwd⟩ : ∃ x, wo.drew = x := ⟨_, rfl⟩
      rw [hwd] at HB hHeld ⊢
      clear hwd
      refine pu_ 1 18 (h := ?_)
      refine pu_ 2 19 (h := ?_)
      refine pu_ 3 20 (h := ?_)
      refine ta_ 0 17 hHeld (h := ?_)
      refine ta_ 4 21 hHeld (h := ?_)
      refine ta_ 5 22 hHeld (h := ?_)
      refine on_ 6 (some 23) (h := fun K hK => ?_)
      refine gs_ Try.func23 #[aP ⟨px, py, pz⟩, aP ⟨ax, ay, az⟩] ?_
      with_reducible refine (hM'.out _).mono ?_
      rintro e w3 ⟨rfl, hb⟩
      have HB := Lh (HB.out.trans (hb.mono HB.out.size))
      clear hb
      refine ⟨_, rfl, ?_⟩
      refine hK.out _ _ (FF.out _ HB) (fun hHeld => ?_)
      clear hK K
      refine no_ (h := ?_)
      refine on_ 7 (some 24) (h := fun K hK => ?_)
      refine gs_ Try.func24 #[aP ⟨nx, ny, nz⟩, aP q] ?_
      with_reducible refine (hD'.out _).mono ?_
      rintro e w3 ⟨rfl, hb⟩
      have HB := Lh (HB.out.trans (hb.mono HB.out.size))
      clear hb
      refine ⟨_, rfl, ?_⟩
      refine hK.out _ _ (FF.out _ HB) (fun hHeld => ?_)
      clear hK K
      refine no_ (h := ?_)
      refine pu_ 8 10 (h := ?_)
      refine done_ (by kernel_rfl) ?_
      have hB2 := Lh (bthen hB0.out HB.out)
      clear hHeld HB n0 n1 n2 a0 a1 a2 e0 e1 e2
      go_wp2
      go_roundw
      case rel => exact ⟨k + 1, by omega, by go_num, by rw [hS.out], by rw [hS.out], hB2⟩
      case measure => simp [intOf]; omega
    · obtain rfl : k = N := by omega
      rw [List.take_of_length_le (by rw [HN.out]; omega)]
      obtain ⟨⟨s1, s2⟩, hs⟩ : ∃ s, sdF l ⟨nx, ny, nz⟩ ⟨ax, ay, az⟩ = s := ⟨_, rfl⟩
      have HV := Lh (show sideF l ⟨nx, ny, nz⟩ ⟨ax, ay, az⟩ = sideV (s1, s2) by rw [HE.out, hs])
      rw [hs]
      have hBw := Lh (HW1.out.trans (hB.out.mono (by omega)))
      clear hs
      simp only
      by_cases h1 : s2 ≤ 0
      · have d1 : decide (s2 ≤ 0) = true := by simpa using h1
        have E := Lh (show sideV (s1, s2) = 1 from if_pos h1)
        clear h1
        go_wp2
        go_ret
        exact ⟨by rw [HV.out, E.out]; rfl, hBw.out⟩
      · have d1 : decide (s2 ≤ 0) = false := by simpa using h1
        by_cases h2 : 0 ≤ s1
        · have d2 : decide (0 ≤ s1) = true := by simpa using h2
          have E := Lh (show sideV (s1, s2) = -1 by unfold sideV; rw [if_neg h1, if_pos h2])
          clear h1 h2
          go_wp2
          go_ret
          exact ⟨by rw [HV.out, E.out]; rfl, hBw.out⟩
        · have d2 : decide (0 ≤ s1) = false := by simpa using h2
          have E := Lh (show sideV (s1, s2) = 0 by unfold sideV; rw [if_neg h1, if_neg h2])
          clear h1 h2
          go_wp2
          go_ret
          exact ⟨by rw [HV.out, E.out]; rfl, hBw.out⟩
end Go.Proofs.Ytckdhahceelckaa.G
namespace Go.Proofs.Ytckdhahceelckaa.G
open Go.RowKit Go.Proofs.YtckdhahceelckaaW.PrintWords Go.Proofs.YtckdhahceelckaaW.PrintLast Go.Proofs.YtckdhahceelckaaW.PrintMore
attribute [local go_sem] max2_mx min2_mn max_two min_two max_three min_three max_four min_four
attribute [local go_sem high] eqA23
set_option linter.unusedVariables false
set_option linter.unusedSimpArgs false
def neg3 (p : P3) : P3 := ⟨-p.x, -p.y, -p.z⟩
def hasB (both : Bool) (p q : P3) : Bool := decide (q = p) || (both && decide (q = neg3 p))
def hasF (l : List P3) (p : P3) (both : Bool) : Bool := l.any (hasB both p)
theorem any_take_snoc {α : Type} (l : List α) (f : α → Bool) (k : Nat) (hk : k < l.length) : (l.take (k + 1)).any f = ((l.take k).any f || f l[k]) := by
  rw [List.take_succ_eq_append_getElem hk, List.any_append]; simp
theorem any_of_get {α : Type} (l : List α) (f : α → Bool) (k : Nat) (hk : k < l.length) (h : f l[k] = true) : l.any f = true := List.any_eq_true.2 ⟨_, List.getElem_mem hk, h⟩
set_option maxHeartbeats 4000000 in
set_option maxRecDepth 100000 in
theorem has_calls (l : List P3) (A : Option Addr) (c : Nat) (p : P3) (both : Bool) (w : World) (hA : Rd w A l) (hl : l.length ≤ 100000) (hp : in3 1048576 p) (r : Bool) (hr : hasF l p both = r) :
    Calls Try.prog 157 #[.slice A l.length c, aP p, .bool both] w fun e w' => e = .returned (.bool r) ∧ Below w.heap.size w w' := by
  have HA := Lh hA
  have HR := Lh hr
  obtain ⟨N, hN⟩ : ∃ N, l.length = N := ⟨_, rfl⟩
  have HN := Lh hN
  rw [hN] at hl ⊢
  clear hA hN hr
  obtain ⟨px, py, pz⟩ := p
  obtain ⟨i1, i2, i3, i4, i5, i6⟩ := hp
  simp only at i1 i2 i3 i4 i5 i6
  have m1 : IntKind.i64.wrap (-px) = -px := iw_id _ (by omega) (by omega)
  have m2 : IntKind.i64.wrap (-py) = -py := iw_id _ (by omega) (by omega)
  have m3 : IntKind.i64.wrap (-pz) = -pz := iw_id _ (by omega) (by omega)
  have M := Lh (And.intro m1 (And.intro m2 m3))
  clear m1 m2 m3
  go_enter Try.func157, Try.ntmps157
  go_wp2
  obtain ⟨w1, hw1⟩ : ∃ w1, w.alloc (.cells #[.int .i64 px, .int .i64 py, .int .i64 pz] 23) = w1 := ⟨_, rfl⟩
  have P1 : Hid (C3 w1 w.heap.size (.int .i64 px) (.int .i64 py) (.int .i64 pz)) := Lh (by rw [← hw1]; exact C3.new w _ _ _ _)
  have HW1 := Lh (show Below w.heap.size w w1 by rw [← hw1]; exact (Below.refl _ w).alloc (Nat.le_refl _) _)
  rw [hw1]
  clear hw1
  go_loopw [7] (fun v7 wr => ∃ k n : Nat, k ≤ N ∧ v7 = .int .i64 k ∧ Hid ((l.take k).any (hasB both ⟨px, py, pz⟩) = false) ∧ Hid (wr = w1.drewN n)) (fun i _ => N - (intOf i).toNat)
  case atStart => exact ⟨0, 0, by omega, rfl, Lh rfl, Lh rfl⟩
  case round =>
    obtain ⟨k, n, hk, rfl, hO, hwr⟩ := hrel
    have hwr' := hwr.out
    subst hwr'
    by_cases hlt : k < N
    · have hkl : k < l.length := by rw [HN.out]; exact hlt
      obtain ⟨b, o, rfl, lb, e0, e1, e2⟩ := (HA.out.below HW1.out).get k hkl
      have hS := any_take_snoc l (hasB both ⟨px, py, pz⟩) k hkl
      have hG := any_of_get l (hasB both ⟨px, py, pz⟩) k hkl
      rw [hO.out, Bool.false_or] at hS
      obtain ⟨q, hq⟩ : ∃ q, l[k] = q := ⟨_, rfl⟩
      rw [hq] at e0 e1 e2 hS hG
      obtain ⟨qx, qy, qz⟩ := q
      simp only at e0 e1 e2
      have hS := Lh hS
      have hG := Lh hG
      have hki : (k : Int) < (N : Int) := by omega
      obtain ⟨c0, c1, c2, _, _, _⟩ := P1.out
      clear hq
      by_cases t1 : (⟨qx, qy, qz⟩ : P3) = ⟨px, py, pz⟩
      · have he := eqP_yes t1
        have E := Lh (show r = true by rw [← HR.out]; exact hG.out (by unfold hasB; rw [decide_eq_true t1]; rfl))
        clear t1
        go_wp2
        go_quiet (fail)
        go_wp2
        go_ret
        exact ⟨by rw [E.out]; rfl, pw_below_drewN (pw_below_drewN HW1.out _) _⟩
      · have he := eqP_no t1
        cases both
        · have E := Lh (show (l.take (k + 1)).any (hasB false ⟨px, py, pz⟩) = false by rw [hS.out]; unfold hasB; rw [decide_eq_false t1]; rfl)
          clear t1
          go_wp2
          go_quiet (fail)
          go_wp2
          go_roundw
          case rel => exact ⟨k + 1, _, by omega, by go_num, E, by first | exact Lh rfl | exact trivial⟩
          case measure => simp [intOf]; omega
        · obtain ⟨m1, m2, m3⟩ := M.out
          by_cases t2 : (⟨qx, qy, qz⟩ : P3) = ⟨-px, -py, -pz⟩
          · have he2 := eqP_yes t2
            have E := Lh (show r = true by rw [← HR.out]; exact hG.out (by unfold hasB; rw [decide_eq_false t1, show decide ((⟨qx, qy, qz⟩ : P3) = neg3 ⟨px, py, pz⟩) = true from decide_eq_true t2]; rfl))
            clear t1 t2
            go_wp2
            go_quiet (fail)
            go_wp2
            go_ret
            exact ⟨by rw [E.out]; rfl, pw_below_drewN (pw_below_drewN HW1.out _) _⟩
          · have he2 := eqP_no t2
            have E := Lh (show (l.take (k + 1)).any (hasB true ⟨px, py, pz⟩) = false by rw [hS.out]; unfold hasB; rw [decide_eq_false t1, show decide ((⟨qx, qy, qz⟩ : P3) = neg3 ⟨px, py, pz⟩) = false from decide_eq_false t2]; rfl)
            clear t1 t2
            go_wp2
            go_quiet (fail)
            go_wp2
            go_roundw
            case rel => exact ⟨k + 1, _, by omega, by go_num, E, by first | exact Lh rfl | exact trivial⟩
            case measure => simp [intOf]; omega
    · obtain rfl : k = N := by omega
      have E := Lh (show r = false by rw [← HR.out]; have := hO.out; rw [List.take_of_length_le (by rw [HN.out]; omega)] at this; exact this)
      go_wp2
      go_ret
      exact ⟨by rw [E.out]; rfl, pw_below_drewN HW1.out _⟩
set_option maxHeartbeats 4000000 in
theorem within_calls (p : P3) (a b : Int) (h : a ≤ p.x ∧ p.x ≤ b ∧ a ≤ p.y ∧ p.y ≤ b ∧ a ≤ p.z ∧ p.z ≤ b) (w : World) :
    Calls Try.prog 174 #[aP p, .int .i64 a, .int .i64 b] w fun e w' => e = .returned (.bool true) ∧ Below w.heap.size w w' := by
  obtain ⟨x, y, z⟩ := p
  obtain ⟨h1, h2, h3, h4, h5, h6⟩ := h
  have ix := Lh (in5_calls x a b true (decide_eq_true ⟨h1, h2⟩))
  have iy := Lh (in5_calls y a b true (decide_eq_true ⟨h3, h4⟩))
  have iz := Lh (in5_calls z a b true (decide_eq_true ⟨h5, h6⟩))
  clear h1 h2 h3 h4 h5 h6
  go_enter Try.func174, Try.ntmps174
  go_wp2_with fail
  refine (ix.out _).mono ?_
  rintro e w1 ⟨rfl, rfl⟩
  go_wp2_with fail
  refine (iy.out _).mono ?_
  rintro e w1 ⟨rfl, rfl⟩
  go_wp2_with fail
  refine (iz.out _).mono ?_
  rintro e w1 ⟨rfl, rfl⟩
  go_wp2
  go_ret
  exact ⟨rfl, (Below.refl _ w).alloc (Nat.le_refl _) _⟩
end Go.Proofs.Ytckdhahceelckaa.G
namespace Go.Proofs.Ytckdhahceelckaa.G
open Go.RowKit Go.Proofs.YtckdhahceelckaaW.PrintWords Go.Proofs.YtckdhahceelckaaW.PrintLast Go.Proofs.YtckdhahceelckaaW.PrintMore
attribute [local go_sem] max2_mx min2_mn max_two min_two max_three min_three max_four min_four
attribute [local go_sem high] eqA23
set_option linter.unusedVariables false
set_option linter.unusedSimpArgs false
structure Shp where
  kind : Int
  radius : Int
  half : P3
  pts : List P3
abbrev cS (k r : Int) (h : P3) (A : Option Addr) (n c : Nat) : Array Value := #[.int .i64 k, .int .i64 r, .int .i64 h.x, .int .i64 h.y, .int .i64 h.z, .slice A n c]
set_option maxHeartbeats 4000000 in
theorem form_1 (r : Int) (h : P3) (A : Option Addr) (n c : Nat) (hr0 : 1 ≤ r) (hr1 : r ≤ 16384) (w : World) :
    Calls Try.prog 153 #[.agg (cS 1 r h A n c)] w fun e w' => e = .returned (.bool true) ∧ Below w.heap.size w w' := by
  have ir := Lh (in5_calls r 1 16384 true (decide_eq_true ⟨hr0, hr1⟩))
  clear hr0 hr1
  go_enter Try.func153, Try.ntmps153
  go_wp2_with fail
  refine (ir.out _).mono ?_
  rintro e w1 ⟨rfl, rfl⟩
  go_wp2
  go_ret
  exact ⟨rfl, (Below.refl _ w).alloc (Nat.le_refl _) _⟩
set_option maxHeartbeats 4000000 in
theorem form_2 (r : Int) (h : P3) (A : Option Addr) (n c : Nat) (hr0 : 1 ≤ r) (hr1 : r ≤ 16384) (hh0 : 1 ≤ h.x) (hh1 : h.x ≤ 65536) (w : World) :
    Calls Try.prog 153 #[.agg (cS 2 r h A n c)] w fun e w' => e = .returned (.bool true) ∧ Below w.heap.size w w' := by
  have ir := Lh (in5_calls r 1 16384 true (decide_eq_true ⟨hr0, hr1⟩))
  have ih := Lh (in5_calls h.x 1 65536 true (decide_eq_true ⟨hh0, hh1⟩))
  clear hr0 hr1 hh0 hh1
  go_enter Try.func153, Try.ntmps153
  go_wp2_with fail
  refine (ir.out _).mono ?_
  rintro e w1 ⟨rfl, rfl⟩
  go_wp2_with fail
  refine (ih.out _).mono ?_
  rintro e w1 ⟨rfl, rfl⟩
  go_wp2
  go_ret
  exact ⟨rfl, (Below.refl _ w).alloc (Nat.le_refl _) _⟩
set_option maxHeartbeats 4000000 in
theorem form_3 (r : Int) (h : P3) (A : Option Addr) (n c : Nat) (hr0 : 0 ≤ r) (hr1 : r ≤ 16384) (hh : 1 ≤ h.x ∧ h.x ≤ 65536 ∧ 1 ≤ h.y ∧ h.y ≤ 65536 ∧ 1 ≤ h.z ∧ h.z ≤ 65536) (w : World) :
    Calls Try.prog 153 #[.agg (cS 3 r h A n c)] w fun e w' => e = .returned (.bool true) ∧ Below w.heap.size w w' := by
  have ir := Lh (in5_calls r 0 16384 true (decide_eq_true ⟨hr0, hr1⟩))
  have ih := Lh (within_calls h 1 65536 hh)
  clear hr0 hr1 hh
  have P := heap_alloc_new w (.cells (cS 3 r h A n c) 78)
  have PB := (Below.refl w.heap.size w).alloc (Nat.le_refl _) (.cells (cS 3 r h A n c) 78)
  have P := Lh P
  have PB := Lh PB
  go_enter Try.func153, Try.ntmps153
  go_wp2_with fail
  refine (ih.out _).mono ?_
  rintro e w1 ⟨rfl, hb⟩
  have P1 := (hb.block _ (blk_lt P.out)).trans P.out
  have PB1 := Lh (bthen PB.out hb)
  have c1 : w1.cell? ⟨w.heap.size, 1, none⟩ = some (.int .i64 r) := (blk_cell P1 1).trans rfl
  clear hb P1
  go_wp2_with fail
  refine (ir.out _).mono ?_
  rintro e w2 ⟨rfl, rfl⟩
  go_wp2
  go_ret
  exact ⟨rfl, PB1.out⟩
theorem nodup_take {l : List P3} {i : Nat} (hi : i < l.length) (h : (l.take i).Nodup) (hn : ∀ j, (hj : j < i) → l[j]'(by omega) ≠ l[i]) : (l.take (i + 1)).Nodup := by
  rw [List.take_succ_eq_append_getElem hi]
  refine List.nodup_append.2 ⟨h, by simp, ?_⟩
  intro x hx y hy
  simp only [List.mem_singleton] at hy
  subst hy
  obtain ⟨j, hj, rfl⟩ := List.mem_iff_getElem.1 hx
  rw [List.length_take] at hj
  rw [List.getElem_take]
  exact hn j (by omega)
theorem dup_not {l : List P3} {i j : Nat} (hi : i < l.length) (hj : j < i) (h : l[j]'(by omega) = l[i]) : ¬ l.Nodup := by
  intro hn
  rw [List.nodup_iff_pairwise_ne, List.pairwise_iff_getElem] at hn
  exact hn j i (by omega) hi hj h
def formB (l : List P3) : Bool := decide (4 ≤ l.length) && decide l.Nodup
set_option maxHeartbeats 8000000 in
set_option maxRecDepth 100000 in
theorem form_4 (r : Int) (h : P3) (l : List P3) (A : Option Addr) (c : Nat) (hr0 : 0 ≤ r) (hr1 : r ≤ 16384) (hl : l.length ≤ 12) (hp : ∀ p ∈ l, in3 65536 p) (w : World) (hA : RdB w A l) (bb : Bool) (hb : formB l = bb) :
    Calls Try.prog 153 #[.agg (cS 4 r h A l.length c)] w fun e w' => e = .returned (.bool bb) ∧ Below w.heap.size w w' := by
  have ir := Lh (in5_calls r 0 16384 true (decide_eq_true ⟨hr0, hr1⟩))
  have il := Lh (in5_calls (l.length : Int) 4 12 (decide (4 ≤ l.length)) (by rw [decide_eq_decide]; omega))
  have HA := Lh hA
  have HB := Lh hb
  have HP := Lh (fun p h => within_calls p (-65536) 65536 (hp p h))
  have HND := Lh (fun (i : Nat) (hi : i < l.length) => @nodup_take l i hi)
  have HDN := Lh (fun (i j : Nat) (hi : i < l.length) (hj : j < i) => @dup_not l i j hi hj)
  have HF4 := Lh (show formB l = (decide (4 ≤ l.length) && decide l.Nodup) from rfl)
  obtain ⟨N, hN⟩ : ∃ N, l.length = N := ⟨_, rfl⟩
  have HN := Lh hN
  rw [hN] at hl il HF4 ⊢
  clear hA hb hp hN hr0 hr1
  have P := Lh (heap_alloc_new w (.cells (cS 4 r h A N c) 78))
  have PB := Lh ((Below.refl w.heap.size w).alloc (Nat.le_refl _) (.cells (cS 4 r h A N c) 78))
  obtain ⟨hx, hy, hz⟩ := h
  go_enter Try.func153, Try.ntmps153
  go_wp2_with fail
  refine (ir.out _).mono ?_
  rintro e w1 ⟨rfl, rfl⟩
  go_wp2_with fail
  refine (il.out _).mono ?_
  rintro e w1 ⟨rfl, rfl⟩
  by_cases h4 : 4 ≤ N
  · rw [decide_eq_true h4]
    obtain ⟨w2, hw2⟩ : ∃ w2, w.alloc (.cells (cS 4 r ⟨hx, hy, hz⟩ A N c) 78) = w2 := ⟨_, rfl⟩
    rw [hw2] at P PB
    have z2 : w2.heap.size = w.heap.size + 1 := by rw [← hw2]; simp
    have Z2 := Lh z2
    have c5 : w2.cell? ⟨w.heap.size, 5, none⟩ = some (.slice A N c) := (blk_cell P.out 5).trans rfl
    go_wp2
    clear z2
    (try rw [hw2])
    clear hw2
    go_loopw [4, 5, 6] (fun v4 v5 v6 wr => ∃ i : Nat, i ≤ N ∧ v4 = .int .i64 i ∧ Hid ((l.take i).Nodup) ∧ Hid (Below w2.heap.size w2 wr)) (fun i _ _ _ => N - (intOf i).toNat)
    case atStart => exact ⟨0, by omega, rfl, Lh (by simp), Lh (Below.refl _ _)⟩
    case round =>
      obtain ⟨i, hi, rfl, hnd, hB⟩ := hrel
      obtain ⟨wo, hwo⟩ : ∃ wo : World, wo = wr := ⟨_, rfl⟩
      subst hwo
      have z2 := Z2.out
      have c5' : wo.cell? ⟨w.heap.size, 5, none⟩ = some (.slice A N c) := (hB.out.cell (p := ⟨w.heap.size, 5, none⟩) (by show w.heap.size < _; omega)).trans c5
      clear z2
      by_cases hlt : i < N
      · have hkl : i < l.length := by rw [HN.out]; exact hlt
        have hBw : Below w.heap.size w wo := bthen PB.out hB.out
        obtain ⟨b, o, rfl, lb, e0, e1, e2⟩ := (HA.out.1.below hBw).get i hkl
        have hwi := Lh (HP.out _ (List.getElem_mem hkl))
        have hND := Lh (HND.out i hkl hnd.out)
        have hDN := Lh (fun j hj => HDN.out i j hkl hj)
        obtain ⟨p, hpe⟩ : ∃ p, l[i] = p := ⟨_, rfl⟩
        rw [hpe] at e0 e1 e2 hwi hND hDN
        have HRD : Hid (∀ W, Below w.heap.size w W → ∀ j, (hj : j < l.length) → W.cell? ⟨b, o + j * 3, none⟩ = some (.int .i64 l[j].x) ∧ W.cell? ⟨b, o + j * 3 + 1, none⟩ = some (.int .i64 l[j].y) ∧ W.cell? ⟨b, o + j * 3 + 2, none⟩ = some (.int .i64 l[j].z)) := Lh (fun W hW j hj => by
          obtain ⟨b', o', e', _, h0, h1, h2⟩ := (HA.out.1.below hW).get j hj
          simp only [Option.some.injEq, Addr.mk.injEq, and_true] at e'
          obtain ⟨rfl, rfl⟩ := e'
          exact ⟨h0, h1, h2⟩)
        have hpe := Lh hpe
        obtain ⟨px, py, pz⟩ := p
        simp only at e0 e1 e2
        have HBw := Lh hBw
        clear hBw
        go_wp2_with fail
        refine (hwi.out _).mono ?_
        rintro e w3 ⟨rfl, hb⟩
        have hB3 := Lh (bthen hB.out hb)
        have hBw3 := Lh (bthen HBw.out hb)
        have hlt3 : w.heap.size < wo.heap.size := World.block_lt_of_cell? wo _ c5'
        have c53 := (hb.cell (p := ⟨w.heap.size, 5, none⟩) hlt3).trans c5'
        obtain ⟨e0, e1, e2⟩ := HRD.out _ hBw3.out i hkl
        rw [hpe.out] at e0 e1 e2
        simp only at e0 e1 e2
        clear hb hB HBw hlt3 c5' lb hwi
        have lbw : b < w.heap.size := HA.out.2 _ rfl
        go_wp2
        go_loopw [6] (fun v6 wr => ∃ j n : Nat, j ≤ i ∧ v6 = .int .i64 j ∧ Hid (∀ k, (hk : k < j) → (hk2 : k < l.length) → l[k] ≠ ⟨px, py, pz⟩) ∧ Hid (wr = w3.drewN n)) (fun j _ => i - (intOf j).toNat)
        case atStart => exact ⟨0, 0, by omega, rfl, Lh (fun k hk => by omega), Lh rfl⟩
        case round =>
          obtain ⟨j, n, hj, rfl, hno, hwr⟩ := hrel
          have hwr' := hwr.out
          subst hwr'
          by_cases hji : j < i
          · have hjl : j < l.length := by omega
            obtain ⟨g0, g1, g2⟩ := HRD.out _ hBw3.out j hjl
            have hD2 := Lh (hDN.out j hji)
            obtain ⟨q, hq⟩ : ∃ q, l[j] = q := ⟨_, rfl⟩
            rw [hq] at g0 g1 g2 hD2
            have hq := Lh hq
            obtain ⟨qx, qy, qz⟩ := q
            simp only at g0 g1 g2
            have hji1 : (j : Int) < (i : Int) := by omega
            have hjN : (j : Int) < (N : Int) := by omega
            have hiN : (i : Int) < (N : Int) := by omega
            by_cases t1 : (⟨qx, qy, qz⟩ : P3) = ⟨px, py, pz⟩
            · have he := eqP_yes t1
              have hdup := hD2.out t1
              have E := Lh (show false = bb from by rw [← HB.out, HF4.out, decide_eq_false hdup, Bool.and_false])
              clear t1 hdup
              go_wp2
              go_quiet (fail)
              go_wp2
              go_ret
              exact ⟨by rw [← E.out]; rfl, pw_below_drewN (pw_below_drewN hBw3.out _) _⟩
            · have he := eqP_no t1
              have hno2 := Lh (fun k (hk : k < j + 1) (hk2 : k < l.length) => show l[k] ≠ ⟨px, py, pz⟩ by
                by_cases e : k < j
                · exact hno.out k e hk2
                · obtain rfl : k = j := by omega
                  rw [hq.out]; exact t1)
              clear t1
              go_wp2
              go_quiet (fail)
              go_wp2
              go_roundw
              case rel => exact ⟨j + 1, _, by omega, by go_num, hno2, by first | exact Lh rfl | exact trivial⟩
              case measure => simp [intOf]; omega
          · obtain rfl : j = i := by omega
            have hN2 := Lh (hND.out (fun k hk => hno.out k hk (by omega)))
            go_wp2
            go_roundw
            case rel => exact ⟨j + 1, by omega, by go_num, hN2, Lh (pw_below_drewN hB3.out _)⟩
            case measure => simp [intOf]; omega
      · obtain rfl : i = N := by omega
        have hBw := Lh (show Below w.heap.size w wo from bthen PB.out hB.out)
        have hfull : l.Nodup := by have := hnd.out; rwa [List.take_of_length_le (by rw [HN.out]; omega)] at this
        have E := Lh (show true = bb from by rw [← HB.out, HF4.out, decide_eq_true h4, decide_eq_true hfull]; rfl)
        go_wp2
        go_ret
        exact ⟨by rw [← E.out]; rfl, hBw.out⟩
  · rw [decide_eq_false h4]
    have E := Lh (show false = bb from by rw [← HB.out, HF4.out, decide_eq_false h4]; rfl)
    go_wp2
    go_ret
    exact ⟨by rw [← E.out]; rfl, PB.out⟩
end Go.Proofs.Ytckdhahceelckaa.G
namespace Go.Proofs.Ytckdhahceelckaa.G
open Go.RowKit Go.Proofs.YtckdhahceelckaaW.PrintWords Go.Proofs.YtckdhahceelckaaW.PrintLast Go.Proofs.YtckdhahceelckaaW.PrintMore
attribute [local go_sem] max2_mx min2_mn max_two min_two max_three min_three max_four min_four
attribute [local go_sem high] eqA23
set_option linter.unusedVariables false
set_option linter.unusedSimpArgs false
/-- point o lies in the plane of m, k, i -/
def ZP (l : List P3) (i k m o : Nat) : Prop := ∀ a b c d, l[i]? = some a → l[k]? = some b → l[m]? = some c → l[o]? = some d → dot3 (nrm3 c b a) (minus3 d c) = 0
def ZM (l : List P3) (i k m : Nat) : Prop := ∀ o, ZP l i k m o
def ZK (l : List P3) (i k : Nat) : Prop := ∀ m, m < k → ZM l i k m
def ZI (l : List P3) (i : Nat) : Prop := ∀ k, k < i → ZK l i k
/-- all points lie in one plane -/
def FlatP (l : List P3) : Prop := ∀ i, ZI l i
theorem lt_succ_cases {P : Nat → Prop} {n : Nat} (h : ∀ k, k < n → P k) (h' : P n) : ∀ k, k < n + 1 → P k := fun k hk => by
  by_cases e : k < n
  · exact h k e
  · obtain rfl : k = n := by omega
    exact h'
theorem ZP_out {l : List P3} {i k m o : Nat} (h : l.length ≤ o) : ZP l i k m o := fun a b c d _ _ _ hd => by rw [List.getElem?_eq_none h] at hd; cases hd
theorem ZI_out {l : List P3} {i : Nat} (h : l.length ≤ i) : ZI l i := fun k _ m _ o a b c d ha => by rw [List.getElem?_eq_none h] at ha; cases ha
theorem ZP_of {l : List P3} {i k m o : Nat} {a b c d : P3} (ha : l[i]? = some a) (hb : l[k]? = some b) (hc : l[m]? = some c) (hd : l[o]? = some d) (h : dot3 (nrm3 c b a) (minus3 d c) = 0) : ZP l i k m o := fun a' b' c' d' ha' hb' hc' hd' => by
  rw [ha] at ha'; rw [hb] at hb'; rw [hc] at hc'; rw [hd] at hd'
  cases ha'; cases hb'; cases hc'; cases hd'
  exact h
set_option maxHeartbeats 8000000 in
set_option maxRecDepth 100000 in
theorem flat_calls (l : List P3) (A : Option Addr) (c : Nat) (w : World) (hA : Rd w A l) (hl : l.length ≤ 1000) (bb : Bool) (hb : bb = true ↔ FlatP l) :
    Calls Try.prog 154 #[.slice A l.length c] w fun e w' => e = .returned (.bool bb) ∧ Below w.heap.size w w' := by
  have HAA := Lh hA
  have HBB := Lh hb
  have HNO := Lh (fun (a b c : P3) W => normal_calls a b c W)
  have HM := Lh (fun (p a : P3) W => rminus_calls p.x p.y p.z a.x a.y a.z W)
  have HD := Lh (fun (n q : P3) W => rdot_calls n.x n.y n.z q.x q.y q.z W)
  obtain ⟨N, hN⟩ : ∃ N, l.length = N := ⟨_, rfl⟩
  have HN := Lh hN
  rw [hN] at hl ⊢
  clear hA hN hb
  go_enter Try.func154, Try.ntmps154
  go_wp2
  go_loopw [3, 4, 5, 6, 7] (fun v3 v4 v5 v6 v7 wr => ∃ i : Nat, i ≤ N ∧ v3 = .int .i64 i ∧ Hid (∀ i', i' < i → ZI l i') ∧ Hid (Below w.heap.size w wr)) (fun i _ _ _ _ _ => N - (intOf i).toNat)
  case atStart => exact ⟨0, by omega, rfl, Lh (fun i' h => by omega), Lh (Below.refl _ _)⟩
  case round =>
    obtain ⟨i, hi, rfl, hzi, hB⟩ := hrel
    obtain ⟨wa, hwa⟩ : ∃ wo : World, wo = wr := ⟨_, rfl⟩
    subst hwa
    by_cases hlt : i < N
    · have hil : i < l.length := by rw [HN.out]; exact hlt
      obtain ⟨b, o, rfl, lbw, _⟩ := HAA.out.get i hil
      have HRD : Hid (∀ W, Below w.heap.size w W → ∀ j p, l[j]? = some p → W.cell? ⟨b, o + j * 3, none⟩ = some (.int .i64 p.x) ∧ W.cell? ⟨b, o + j * 3 + 1, none⟩ = some (.int .i64 p.y) ∧ W.cell? ⟨b, o + j * 3 + 2, none⟩ = some (.int .i64 p.z)) := Lh (fun W hW j p hj => by
        obtain ⟨b', o', e', _, h0, h1, h2⟩ := (HAA.out.below hW) j p hj
        simp only [Option.some.injEq, Addr.mk.injEq, and_true] at e'
        obtain ⟨rfl, rfl⟩ := e'
        exact ⟨h0, h1, h2⟩)
      obtain ⟨⟨ix, iy, iz⟩, hpi⟩ : ∃ p, l[i]? = some p := ⟨_, List.getElem?_eq_getElem hil⟩
      have hpi := Lh hpi
      have hiN : (i : Int) < (N : Int) := by omega
      go_wp2
      go_loopw [4, 5, 6, 7] (fun v4 v5 v6 v7 wr => ∃ k : Nat, k ≤ i ∧ v4 = .int .i64 k ∧ Hid (∀ k', k' < k → ZK l i k') ∧ Hid (Below w.heap.size w wr)) (fun k _ _ _ _ => i - (intOf k).toNat)
      case atStart => exact ⟨0, by omega, rfl, Lh (fun i' h => by omega), hB⟩
      case round =>
        clear hB
        obtain ⟨k, hk, rfl, hzk, hB⟩ := hrel
        obtain ⟨wb, hwb⟩ : ∃ wo : World, wo = wr := ⟨_, rfl⟩
        subst hwb
        by_cases hki : k < i
        · obtain ⟨⟨kx, ky, kz⟩, hpk⟩ : ∃ p, l[k]? = some p := ⟨_, List.getElem?_eq_getElem (show k < l.length by omega)⟩
          have hpk := Lh hpk
          have hki1 : (k : Int) < (i : Int) := by omega
          have hkN : (k : Int) < (N : Int) := by omega
          go_wp2
          go_loopw [5, 6, 7] (fun v5 v6 v7 wr => ∃ m : Nat, m ≤ k ∧ v5 = .int .i64 m ∧ Hid (∀ m', m' < m → ZM l i k m') ∧ Hid (Below w.heap.size w wr)) (fun m _ _ _ => k - (intOf m).toNat)
          case atStart => exact ⟨0, by omega, rfl, Lh (fun i' h => by omega), hB⟩
          case round =>
            clear hB
            obtain ⟨m, hm, rfl, hzm, hB⟩ := hrel
            obtain ⟨wc, hwc⟩ : ∃ wo : World, wo = wr := ⟨_, rfl⟩
            subst hwc
            by_cases hmk : m < k
            · obtain ⟨⟨mx', my', mz'⟩, hpm⟩ : ∃ p, l[m]? = some p := ⟨_, List.getElem?_eq_getElem (show m < l.length by omega)⟩
              have hpm := Lh hpm
              have hmk1 : (m : Int) < (k : Int) := by omega
              have hmN : (m : Int) < (N : Int) := by omega
              obtain ⟨i0, i1, i2⟩ := HRD.out _ hB.out i _ hpi.out
              obtain ⟨k0, k1, k2⟩ := HRD.out _ hB.out k _ hpk.out
              obtain ⟨m0, m1, m2⟩ := HRD.out _ hB.out m _ hpm.out
              simp only at i0 i1 i2 k0 k1 k2 m0 m1 m2
              have hNO := HNO.out ⟨mx', my', mz'⟩ ⟨kx, ky, kz⟩ ⟨ix, iy, iz⟩
              obtain ⟨⟨nx, ny, nz⟩, hn⟩ : ∃ n, nrm3 ⟨mx', my', mz'⟩ ⟨kx, ky, kz⟩ ⟨ix, iy, iz⟩ = n := ⟨_, rfl⟩
              rw [hn] at hNO
              have hNO := Lh hNO
              have hn := Lh hn
              have lbc : b < wc.heap.size := by have := hB.out.size; omega
              go_wp2_with fail
              have HB := Lh ((Below.refl (wc.heap.size) wc).drew)
              have FF := Lh (show ∀ V, Hid (Below (wc.heap.size) wc V) → V.cell? ⟨b, o + m * 3, none⟩ = some (.int .i64 mx') ∧ V.cell? ⟨b, o + m * 3 + 1, none⟩ = some (.int .i64 my') ∧ V.cell? ⟨b, o + m * 3 + 2, none⟩ = some (.int .i64 mz') ∧ V.cell? ⟨b, o + k * 3, none⟩ = some (.int .i64 kx) ∧ V.cell? ⟨b, o + k * 3 + 1, none⟩ = some (.int .i64 ky) ∧ V.cell? ⟨b, o + k * 3 + 2, none⟩ = some (.int .i64 kz) ∧ V.cell? ⟨b, o + i * 3, none⟩ = some (.int .i64 ix) ∧ V.cell? ⟨b, o + i * 3 + 1, none⟩ = some (.int .i64 iy) ∧ V.cell? ⟨b, o + i * 3 + 2, none⟩ = some (.int .i64 iz) from fun V HB => ⟨(HB.out.cell (p := ⟨b, o + m * 3, none⟩) (lbc)).trans m0, (HB.out.cell (p := ⟨b, o + m * 3 + 1, none⟩) (lbc)).trans m1, (HB.out.cell (p := ⟨b, o + m * 3 + 2, none⟩) (lbc)).trans m2, (HB.out.cell (p := ⟨b, o + k * 3, none⟩) (lbc)).trans k0, (HB.out.cell (p := ⟨b, o + k * 3 + 1, none⟩) (lbc)).trans k1, (HB.out.cell (p := ⟨b, o + k * 3 + 2, none⟩) (lbc)).trans k2, (HB.out.cell (p := ⟨b, o + i * 3, none⟩) (lbc)).trans i0, (HB.out.cell (p := ⟨b, o + i * 3 + 1, none⟩) (lbc)).trans i1, (HB.out.cell (p := ⟨b, o + i * 3 + 2, none⟩) (lbc)).trans i2⟩)
              refine start_ (n := 15) (S := fun w' => w'.cell? ⟨b, o + m * 3, none⟩ = some (.int .i64 mx') ∧ w'.cell? ⟨b, o + m * 3 + 1, none⟩ = some (.int .i64 my') ∧ w'.cell? ⟨b, o + m * 3 + 2, none⟩ = some (.int .i64 mz') ∧ w'.cell? ⟨b, o + k * 3, none⟩ = some (.int .i64 kx) ∧ w'.cell? ⟨b, o + k * 3 + 1, none⟩ = some (.int .i64 ky) ∧ w'.cell? ⟨b, o + k * 3 + 2, none⟩ = some (.int .i64 kz) ∧ w'.cell? ⟨b, o + i * 3, none⟩ = some (.int .i64 ix) ∧ w'.cell? ⟨b, o + i * 3 + 1, none⟩ = some (.int .i64 iy) ∧ w'.cell? ⟨b, o + i * 3 + 2, none⟩ = some (.int .i64 iz)) (ds := []) (MT 0 15) (by kernel_rfl) rfl rfl (FF.out _ HB) (fun hHeld => ?_)
              obtain ⟨wd, hwd⟩ : ∃ x, wc.drew = x := ⟨_, rfl⟩
              rw [hwd] at HB hHeld ⊢
              clear hwd
              refine pu_ 0 24 (h := ?_)
              refine pu_ 1 25 (h := ?_)
              refine pu_ 2 26 (h := ?_)
              refine pu_ 4 28 (h := ?_)
              refine pu_ 5 29 (h := ?_)
              refine pu_ 6 30 (h := ?_)
              refine pu_ 8 32 (h := ?_)
              refine pu_ 9 33 (h := ?_)
              refine pu_ 10 34 (h := ?_)
              refine ta_ 3 27 hHeld (h := ?_)
              refine ta_ 7 31 hHeld (h := ?_)
              refine ta_ 11 35 hHeld (h := ?_)
              refine join_ (σ := Nat) 1 (MT 14 1) (fun s => [(6, .pointer (some ⟨s, 0, none⟩)), (36, .agg #[.int .i64 nx, .int .i64 ny, .int .i64 nz])]) (fun s w' => wc.heap.size ≤ s ∧ w'.heap[s]? = some (.cells #[.int .i64 0, .int .i64 0, .int .i64 0] 23 (0, 0)) ∧ Below (wc.heap.size) wc w') ?_ ?_
              rotate_left
              · intro hCont
                refine two_ (i := 12) (j := 13) (Ni := some 36) (Nj := some 6) (MT 13 2) #[true, true, true, true, true, true, true, true, true, true, true, true, false, true, false] rfl rfl rfl rfl (by kernel_rfl) (by decide) (by decide) (fun K hK => ?_) (fun K hK => ?_)
                · skip
                  refine gs_ Try.func155 #[.agg #[.int .i64 mx', .int .i64 my', .int .i64 mz'], .agg #[.int .i64 kx, .int .i64 ky, .int .i64 kz], .agg #[.int .i64 ix, .int .i64 iy, .int .i64 iz]] ?_
                  with_reducible refine (hNO.out _).mono ?_
                  rintro e w3 ⟨rfl, hb⟩
                  have HB := Lh (HB.out.trans (hb.mono HB.out.size))
                  clear hb
                  refine ⟨_, rfl, ?_⟩
                  refine hK.out _ _ (FF.out _ HB) (fun hHeld => ?_)
                  clear hK K
                  refine no_ (h := ?_)
                  refine on_ 13 (some 6) (h := fun K hK => ?_)
                  refine value_ (w1 := ?_) (v := ?_) (by rfl) rfl ?_ ?_
                  rotate_left 2
                  · go_simp
                    constructor
                    · rfl
                    · rfl
                  have HA := Lh (ha_new HB.out (.cells #[.int .i64 0, .int .i64 0, .int .i64 0] 23))
                  have hge := HB.out.size
                  have HB := Lh (HB.out.alloc (Nat.le_trans (Nat.le_refl _) HB.out.size) (.cells #[.int .i64 0, .int .i64 0, .int .i64 0] 23))
                  refine hK.out _ _ (FF.out _ HB) (fun hHeld => ?_)
                  clear hK K
                  refine no_ (h := ?_)
                  exact norm_ (by simp only [putAll, Act.put, List.setIfInBounds_toArray, List.set_cons_zero, List.set_cons_succ]) (hCont _ _ ⟨hge, HA.out, HB.out⟩)
                · skip
                  refine value_ (w1 := ?_) (v := ?_) (by rfl) rfl ?_ ?_
                  rotate_left 2
                  · go_simp
                    constructor
                    · rfl
                    · rfl
                  have HA := Lh (ha_new HB.out (.cells #[.int .i64 0, .int .i64 0, .int .i64 0] 23))
                  have hge := HB.out.size
                  have HB := Lh (HB.out.alloc (Nat.le_trans (Nat.le_refl _) HB.out.size) (.cells #[.int .i64 0, .int .i64 0, .int .i64 0] 23))
                  refine hK.out _ _ (FF.out _ HB) (fun hHeld => ?_)
                  clear hK K
                  refine no_ (h := ?_)
                  refine on_ 12 (some 36) (h := fun K hK => ?_)
                  refine gs_ Try.func155 #[.agg #[.int .i64 mx', .int .i64 my', .int .i64 mz'], .agg #[.int .i64 kx, .int .i64 ky, .int .i64 kz], .agg #[.int .i64 ix, .int .i64 iy, .int .i64 iz]] ?_
                  with_reducible refine (hNO.out _).mono ?_
                  rintro e w3 ⟨rfl, hb⟩
                  have HB := Lh (HB.out.trans (hb.mono HB.out.size))
                  have HA := Lh ((hb.block _ (blk_lt HA.out)).trans HA.out)
                  clear hb
                  refine ⟨_, rfl, ?_⟩
                  refine hK.out _ _ (FF.out _ HB) (fun hHeld => ?_)
                  clear hK K
                  refine no_ (h := ?_)
                  exact norm_ (by simp only [putAll, Act.put, List.setIfInBounds_toArray, List.set_cons_zero, List.set_cons_succ]) (hCont _ _ ⟨hge, HA.out, HB.out⟩)
              rintro AB wj ⟨hge, HA, HB⟩
              have HA := Lh HA
              have HB := Lh HB
              have hHeld := FF.out _ HB
              refine no_ (h := ?_)
              refine on_ 14 (none) (h := fun K hK => ?_)
              have sc0 : World.cell? _ ⟨AB, 0, none⟩ = some (.int .i64 0) := (blk_cell HA.out 0).trans rfl
              have sf0 := blk_frozen HA.out 0
              have sc1 : World.cell? _ ⟨AB, 1, none⟩ = some (.int .i64 0) := (blk_cell HA.out 1).trans rfl
              have sf1 := blk_frozen HA.out 1
              have sc2 : World.cell? _ ⟨AB, 2, none⟩ = some (.int .i64 0) := (blk_cell HA.out 2).trans rfl
              have sf2 := blk_frozen HA.out 2
              refine skip_ (w1 := ?_) (by rfl) rfl ?_ ?_
              rotate_left
              · go_simp
                rfl
              have HA := Lh (bs3 HA.out (.int .i64 nx) (.int .i64 ny) (.int .i64 nz))
              have HB := Lh (bb3 HB.out (Nat.le_trans (Nat.le_refl _) hge) (.int .i64 nx) (.int .i64 ny) (.int .i64 nz))
              clear sc0 sf0 sc1 sf1 sc2 sf2
              refine hK.out _ _ (FF.out _ HB) (fun hHeld => ?_)
              clear hK K
              refine done_ (by kernel_rfl) ?_
              obtain ⟨w5, hwn⟩ : ∃ V, (((wj.setCell ⟨AB, 0, none⟩ (.int .i64 nx)).setCell ⟨AB, 1, none⟩ (.int .i64 ny)).setCell ⟨AB, 2, none⟩ (.int .i64 nz)) = V := ⟨_, rfl⟩
              rw [hwn] at HA HB ⊢
              clear hwn
              have hB5 := Lh (bthen hB.out HB.out)
              have hA5 := HA
              have hge5 : w.heap.size ≤ AB := by have := hB.out.size; omega
              have lA5 : AB < w5.heap.size := blk_lt hA5.out
              have Z5 := Lh hB5.out.size
              clear hHeld HB HA hge i0 i1 i2 k0 k1 k2 m0 m1 m2 hB lbc
              obtain ⟨BN, hBN⟩ : ∃ x, x = w5.heap.size := ⟨_, rfl⟩
              go_wp2
              go_loopw [7] (fun v7 wr => ∃ q : Nat, q ≤ N ∧ v7 = .int .i64 q ∧ Hid (∀ q', q' < q → ZP l i k m q') ∧ Hid (Below w5.heap.size w5 wr)) (fun q _ => N - (intOf q).toNat)
              case atStart => exact ⟨0, by omega, rfl, Lh (fun i' h => by omega), Lh (Below.refl _ _)⟩
              case round =>
                obtain ⟨q, hq, rfl, hzq, hBq⟩ := hrel
                obtain ⟨wd', hwd⟩ : ∃ wo : World, wo = wr := ⟨_, rfl⟩
                subst hwd
                have hBw := Lh (bthen hB5.out hBq.out |>.mono (Nat.le_refl _))
                by_cases hqN : q < N
                · obtain ⟨p, hpq⟩ : ∃ p, l[q]? = some p := ⟨_, List.getElem?_eq_getElem (show q < l.length by rw [HN.out]; exact hqN)⟩
                  obtain ⟨q0, q1, q2⟩ := HRD.out _ hBw.out q _ hpq
                  obtain ⟨m0, m1, m2⟩ := HRD.out _ hBw.out m _ hpm.out
                  simp only at m0 m1 m2
                  have hNk := (hBq.out.block _ lA5).trans hA5.out
                  have n0 : wd'.cell? ⟨AB, 0, none⟩ = some (.int .i64 nx) := (blk_cell hNk 0).trans rfl
                  have n1 : wd'.cell? ⟨AB, 1, none⟩ = some (.int .i64 ny) := (blk_cell hNk 1).trans rfl
                  have n2 : wd'.cell? ⟨AB, 2, none⟩ = some (.int .i64 nz) := (blk_cell hNk 2).trans rfl
                  have hM := HM.out p ⟨mx', my', mz'⟩
                  obtain ⟨u, hu⟩ : ∃ u, minus3 p ⟨mx', my', mz'⟩ = u := ⟨_, rfl⟩
                  rw [hu] at hM
                  have hD := HD.out ⟨nx, ny, nz⟩ u
                  obtain ⟨d, hd⟩ : ∃ d, dot3 ⟨nx, ny, nz⟩ u = d := ⟨_, rfl⟩
                  rw [hd] at hD
                  have hM := Lh hM
                  have hD := Lh hD
                  have hZ := Lh (fun (h : d = 0) => ZP_of hpi.out hpk.out hpm.out hpq (by rw [hn.out, hu, hd]; exact h))
                  have hZ2 := Lh (fun (h : ZP l i k m q) => show d = 0 by have := h _ _ _ _ hpi.out hpk.out hpm.out hpq; rw [hn.out, hu, hd] at this; exact this)
                  obtain ⟨px, py, pz⟩ := p
                  simp only at q0 q1 q2
                  have hqN1 : (q : Int) < (N : Int) := by omega
                  have lb' : b < wd'.heap.size := by have := hBw.out.size; omega
                  have ln' : AB < wd'.heap.size := blk_lt hNk
                  clear hu hd hpq hNk
                  go_wp2_with fail
                  have HB := Lh ((Below.refl (wd'.heap.size) wd').drew)
                  have FF := Lh (show ∀ V, Hid (Below (wd'.heap.size) wd' V) → V.cell? ⟨AB, 0, none⟩ = some (.int .i64 nx) ∧ V.cell? ⟨AB, 1, none⟩ = some (.int .i64 ny) ∧ V.cell? ⟨AB, 2, none⟩ = some (.int .i64 nz) ∧ V.cell? ⟨b, o + q * 3, none⟩ = some (.int .i64 px) ∧ V.cell? ⟨b, o + q * 3 + 1, none⟩ = some (.int .i64 py) ∧ V.cell? ⟨b, o + q * 3 + 2, none⟩ = some (.int .i64 pz) ∧ V.cell? ⟨b, o + m * 3, none⟩ = some (.int .i64 mx') ∧ V.cell? ⟨b, o + m * 3 + 1, none⟩ = some (.int .i64 my') ∧ V.cell? ⟨b, o + m * 3 + 2, none⟩ = some (.int .i64 mz') from fun V HB => ⟨(HB.out.cell (p := ⟨AB, 0, none⟩) (ln')).trans n0, (HB.out.cell (p := ⟨AB, 1, none⟩) (ln')).trans n1, (HB.out.cell (p := ⟨AB, 2, none⟩) (ln')).trans n2, (HB.out.cell (p := ⟨b, o + q * 3, none⟩) (lb')).trans q0, (HB.out.cell (p := ⟨b, o + q * 3 + 1, none⟩) (lb')).trans q1, (HB.out.cell (p := ⟨b, o + q * 3 + 2, none⟩) (lb')).trans q2, (HB.out.cell (p := ⟨b, o + m * 3, none⟩) (lb')).trans m0, (HB.out.cell (p := ⟨b, o + m * 3 + 1, none⟩) (lb')).trans m1, (HB.out.cell (p := ⟨b, o + m * 3 + 2, none⟩) (lb')).trans m2⟩)
                  refine start_ (n := 12) (S := fun w' => w'.cell? ⟨AB, 0, none⟩ = some (.int .i64 nx) ∧ w'.cell? ⟨AB, 1, none⟩ = some (.int .i64 ny) ∧ w'.cell? ⟨AB, 2, none⟩ = some (.int .i64 nz) ∧ w'.cell? ⟨b, o + q * 3, none⟩ = some (.int .i64 px) ∧ w'.cell? ⟨b, o + q * 3 + 1, none⟩ = some (.int .i64 py) ∧ w'.cell? ⟨b, o + q * 3 + 2, none⟩ = some (.int .i64 pz) ∧ w'.cell? ⟨b, o + m * 3, none⟩ = some (.int .i64 mx') ∧ w'.cell? ⟨b, o + m * 3 + 1, none⟩ = some (.int .i64 my') ∧ w'.cell? ⟨b, o + m * 3 + 2, none⟩ = some (.int .i64 mz')) (ds := []) (MT 0 12) (by kernel_rfl) rfl rfl (FF.out _ HB) (fun hHeld => ?_)
                  obtain ⟨wd, hwd⟩ : ∃ x, wd'.drew = x := ⟨_, rfl⟩
                  rw [hwd] at HB hHeld ⊢
                  clear hwd
                  refine pu_ 1 44 (h := ?_)
                  refine pu_ 2 45 (h := ?_)
                  refine pu_ 3 46 (h := ?_)
                  refine pu_ 5 48 (h := ?_)
                  refine pu_ 6 49 (h := ?_)
                  refine pu_ 7 50 (h := ?_)
                  refine ta_ 0 43 hHeld (h := ?_)
                  refine ta_ 4 47 hHeld (h := ?_)
                  refine ta_ 8 51 hHeld (h := ?_)
                  refine on_ 9 (some 52) (h := fun K hK => ?_)
                  refine gs_ Try.func23 #[.agg #[.int .i64 px, .int .i64 py, .int .i64 pz], .agg #[.int .i64 mx', .int .i64 my', .int .i64 mz']] ?_
                  with_reducible refine (hM.out _).mono ?_
                  rintro e w3 ⟨rfl, hb⟩
                  have HB := Lh (HB.out.trans (hb.mono HB.out.size))
                  clear hb
                  refine ⟨_, rfl, ?_⟩
                  refine hK.out _ _ (FF.out _ HB) (fun hHeld => ?_)
                  clear hK K
                  refine no_ (h := ?_)
                  refine on_ 10 (some 53) (h := fun K hK => ?_)
                  refine gs_ Try.func24 #[.agg #[.int .i64 nx, .int .i64 ny, .int .i64 nz], aP u] ?_
                  with_reducible refine (hD.out _).mono ?_
                  rintro e w3 ⟨rfl, hb⟩
                  have HB := Lh (HB.out.trans (hb.mono HB.out.size))
                  clear hb
                  refine ⟨_, rfl, ?_⟩
                  refine hK.out _ _ (FF.out _ HB) (fun hHeld => ?_)
                  clear hK K
                  refine no_ (h := ?_)
                  refine pu_ 11 54 (h := ?_)
                  refine done_ (by kernel_rfl) ?_
                  have hB6 := Lh (bthen hBq.out HB.out)
                  have hBw6 := Lh (bthen hBw.out HB.out)
                  clear hHeld HB n0 n1 n2 q0 q1 q2 m0 m1 m2
                  by_cases hd0 : d = 0
                  · have hz := Lh (lt_succ_cases hzq.out (hZ.out hd0))
                    have t0 : (d != 0) = false := by simp [hd0]
                    subst hd0
                    go_wp2
                    go_roundw
                    case rel => exact ⟨q + 1, by omega, by go_num, hz, hB6⟩
                    case measure => simp [intOf]; omega
                  · have t0 : (d != 0) = true := by simp [hd0]
                    have E := Lh (show bb = false by
                      cases hbb : bb
                      · rfl
                      · exact absurd (hZ2.out ((HBB.out.1 hbb) i k hki m hmk q)) hd0)
                    clear hd0
                    go_wp2
                    go_ret
                    exact ⟨by rw [E.out]; rfl, hBw6.out⟩
                · obtain rfl : q = N := by omega
                  have hz := Lh (lt_succ_cases hzm.out (fun q' => by
                    by_cases e : q' < q
                    · exact hzq.out q' e
                    · exact ZP_out (by rw [HN.out]; omega)))
                  go_wp2
                  go_roundw
                  case rel => exact ⟨m + 1, by omega, by go_num, hz, hBw⟩
                  case measure => simp [intOf]; omega
            · obtain rfl : m = k := by omega
              have hz := Lh (lt_succ_cases hzk.out (fun m' hm' => hzm.out m' hm'))
              go_wp2
              go_roundw
              case rel => exact ⟨m + 1, by omega, by go_num, hz, hB⟩
              case measure => simp [intOf]; omega
        · obtain rfl : k = i := by omega
          have hz := Lh (lt_succ_cases hzi.out (fun m' hm' => hzk.out m' hm'))
          go_wp2
          go_roundw
          case rel => exact ⟨k + 1, by omega, by go_num, hz, hB⟩
          case measure => simp [intOf]; omega
    · obtain rfl : i = N := by omega
      have E := Lh (show bb = true from HBB.out.2 (fun i' => by
        by_cases e : i' < i
        · exact hzi.out i' e
        · exact ZI_out (by rw [HN.out]; omega)))
      go_wp2
      go_ret
      exact ⟨by rw [E.out]; rfl, hB.out⟩
/-- what Check says of a hull's points -/
def chkOk (l : List P3) : Prop := formB l = true ∧ ¬ FlatP l
set_option maxHeartbeats 2000000 in
theorem check_123 (k r : Int) (h : P3) (A : Option Addr) (n c : Nat) (hk : k = 1 ∨ k = 2 ∨ k = 3) (hr0 : 1 ≤ r) (hr1 : r ≤ 16384) (hh : 1 ≤ h.x ∧ h.x ≤ 65536 ∧ 1 ≤ h.y ∧ h.y ≤ 65536 ∧ 1 ≤ h.z ∧ h.z ≤ 65536) (w : World) :
    Calls Try.prog 102 #[.agg (cS k r h A n c)] w fun e w' => e = .returned (.int .i64 0) ∧ Below w.heap.size w w' := by
  have HF : Hid (∀ W, Calls Try.prog 153 #[.agg (cS k r h A n c)] W fun e w' => e = .returned (.bool true) ∧ Below W.heap.size W w') := Lh (fun W => by
    rcases hk with rfl | rfl | rfl
    · exact form_1 r h A n c hr0 hr1 W
    · exact form_2 r h A n c hr0 hr1 hh.1 hh.2.1 W
    · exact form_3 r h A n c (by omega) hr1 hh W)
  have t0 : (k == 4) = false := by rcases hk with rfl | rfl | rfl <;> rfl
  have P := Lh (heap_alloc_new w (.cells (cS k r h A n c) 78))
  have PB := Lh ((Below.refl w.heap.size w).alloc (Nat.le_refl _) (.cells (cS k r h A n c) 78))
  clear hk hr0 hr1 hh
  obtain ⟨hx, hy, hz⟩ := h
  go_enter Try.func102, Try.ntmps102
  go_wp2_with fail
  refine (HF.out _).mono ?_
  rintro e w1 ⟨rfl, hb⟩
  have P1 := (hb.block _ (blk_lt P.out)).trans P.out
  have PB1 := Lh (bthen PB.out hb)
  have c0 : w1.cell? ⟨w.heap.size, 0, none⟩ = some (.int .i64 k) := (blk_cell P1 0).trans rfl
  clear hb P1
  go_wp2
  go_ret
  exact ⟨rfl, PB1.out⟩
def ChkPost (l : List P3) (w : World) (e : Ending) (w' : World) : Prop := ∃ n : Int, e = .returned (.int .i64 n) ∧ (n = 0 ↔ chkOk l) ∧ Below w.heap.size w w'
set_option maxHeartbeats 2000000 in
theorem check_4 (r : Int) (h : P3) (l : List P3) (A : Option Addr) (c : Nat) (hr0 : 0 ≤ r) (hr1 : r ≤ 16384) (hl : l.length ≤ 12) (hp : ∀ p ∈ l, in3 65536 p) (w : World) (hA : RdB w A l) :
    Calls Try.prog 102 #[.agg (cS 4 r h A l.length c)] w (ChkPost l w) := by
  have HF := Lh (fun (W : World) (hW : RdB W A l) => form_4 r h l A c hr0 hr1 hl hp W hW (formB l) rfl)
  have HAA := Lh hA
  have HC : Hid (chkOk l ↔ (formB l = true ∧ ¬ FlatP l)) := Lh Iff.rfl
  obtain ⟨fb, hfb⟩ : ∃ b : Bool, (b = true ↔ FlatP l) := by
    by_cases hf : FlatP l
    · exact ⟨true, by simp [hf]⟩
    · exact ⟨false, by simp [hf]⟩
  have HL := Lh (fun (W : World) (hW : Rd W A l) => flat_calls l A c W hW (by omega) fb hfb)
  have hfb := Lh hfb
  obtain ⟨bb, hbb⟩ : ∃ b, formB l = b := ⟨_, rfl⟩
  have F1 := Lh (fun (h : bb = false) (k : chkOk l) => show False by have := k.1; rw [hbb, h] at this; cases this)
  have F2 := Lh (fun (h : bb = true) (h2 : fb = false) => show chkOk l from ⟨by rw [hbb, h], fun k => by have := hfb.out.2 k; rw [h2] at this; cases this⟩)
  have F3 := Lh (fun (h2 : fb = true) (k : chkOk l) => show False from k.2 (hfb.out.1 h2))
  rw [hbb] at HF
  clear HC hfb
  clear hbb hA hr0 hr1 hp
  obtain ⟨N, hN⟩ : ∃ N, l.length = N := ⟨_, rfl⟩
  rw [hN] at HF HL ⊢
  clear hN hl
  have P := Lh (heap_alloc_new w (.cells (cS 4 r h A N c) 78))
  have PB := Lh ((Below.refl w.heap.size w).alloc (Nat.le_refl _) (.cells (cS 4 r h A N c) 78))
  have R := Lh (HAA.out.below ((Below.refl w.heap.size w).alloc (Nat.le_refl _) (.cells (cS 4 r h A N c) 78)))
  obtain ⟨hx, hy, hz⟩ := h
  go_enter Try.func102, Try.ntmps102
  go_wp2_with fail
  refine (HF.out _ R.out).mono ?_
  rintro e w1 ⟨rfl, hb⟩
  have P1 := (hb.block _ (blk_lt P.out)).trans P.out
  have PB1 := Lh (bthen PB.out hb)
  have c0 : w1.cell? ⟨w.heap.size, 0, none⟩ = some (.int .i64 4) := (blk_cell P1 0).trans rfl
  have c5 : w1.cell? ⟨w.heap.size, 5, none⟩ = some (.slice A N c) := (blk_cell P1 5).trans rfl
  have R1 := Lh (R.out.below hb)
  clear hb P1
  cases bb
  · have E := Lh (F1.out rfl)
    clear F1 F2 F3
    go_wp2
    go_ret
    exact ⟨50, rfl, ⟨fun h => absurd h (by decide), fun h => absurd h E.out⟩, PB1.out⟩
  · have E2 := Lh (fun h2 => F2.out rfl h2)
    clear F1 F2
    go_wp2_with fail
    refine (HL.out _ R1.out.1).mono ?_
    rintro e w2 ⟨rfl, hb⟩
    have PB2 := Lh (bthen PB1.out hb)
    clear hb
    cases fb
    · have E := Lh (E2.out rfl)
      clear E2 F3
      go_wp2
      go_ret
      exact ⟨0, rfl, ⟨fun _ => E.out, fun _ => rfl⟩, PB2.out⟩
    · have E := Lh (F3.out rfl)
      clear E2 F3
      go_wp2
      go_ret
      exact ⟨51, rfl, ⟨fun h => absurd h (by decide), fun h => absurd h E.out⟩, PB2.out⟩
end Go.Proofs.Ytckdhahceelckaa.G
namespace Go.Proofs.Ytckdhahceelckaa.G
open Go.RowKit Go.Proofs.YtckdhahceelckaaW.PrintWords Go.Proofs.YtckdhahceelckaaW.PrintLast Go.Proofs.YtckdhahceelckaaW.PrintMore
attribute [local go_sem] max2_mx min2_mn max_two min_two max_three min_three max_four min_four
attribute [local go_sem high] eqA23
set_option linter.unusedVariables false
set_option linter.unusedSimpArgs false
def tdv3 (p : P3) (n : Int) : P3 := ⟨p.x.tdiv n, p.y.tdiv n, p.z.tdiv n⟩
/-- a direction, turned -/
def wayF (m : M3) (p : P3) : P3 := short3 (tdv3 (turnF m (timesF (dbl3 p) 4096)) 4096)
def waysF (m : M3) (l : List P3) : List P3 := (l.map (wayF m)).filter fun q => decide (q ≠ ⟨0, 0, 0⟩)
theorem waysF_no (m : M3) (l : List P3) (k : Nat) (h : k < l.length) (h0 : wayF m l[k] = ⟨0, 0, 0⟩) : waysF m (l.take (k + 1)) = waysF m (l.take k) := by
  unfold waysF; rw [List.take_succ_eq_append_getElem h, List.map_append, List.filter_append]; simp [h0]
theorem waysF_yes (m : M3) (l : List P3) (k : Nat) (h : k < l.length) (h0 : wayF m l[k] ≠ ⟨0, 0, 0⟩) : waysF m (l.take (k + 1)) = waysF m (l.take k) ++ [wayF m l[k]] := by
  unfold waysF; rw [List.take_succ_eq_append_getElem h, List.map_append, List.filter_append]; simp [h0]
theorem waysF_len (m : M3) (l : List P3) : (waysF m l).length ≤ l.length := by
  unfold waysF; exact Nat.le_trans (List.length_filter_le _ _) (by simp)
/-- rows that may be -/
def mOk (m : M3) : Prop := in3 21474836480 m.a ∧ in3 21474836480 m.b ∧ in3 21474836480 m.c
theorem in3_fits {n : Int} {p : P3} (h : in3 n p) (hn : n ≤ 4611686018427387903) : fits3 p := by
  obtain ⟨a, b, c, d, e, f⟩ := h
  unfold fits3 G.fits; omega
theorem dotI_in {p q : P3} {A B : Nat} (hp : in3 A p) (hq : in3 B q) : (dotI p q).natAbs ≤ 3 * (A * B) := dotI_bd p q A B hp hq
theorem turn_ok {m : M3} {v : P3} (h : mOk m) (hv : in3 4294967296 v) : dotOk m.a v ∧ dotOk m.b v ∧ dotOk m.c v ∧ in3 64424509440 (turnF m v) := by
  have q : ∀ r : P3, in3 21474836480 r → dotOk r v ∧ -64424509440 ≤ vdotF r v ∧ vdotF r v ≤ 64424509440 := fun r hr => by
    have := dotI_in (A := 21474836480) (B := 4294967296) hr hv
    refine ⟨⟨in3_fits hr (by decide), in3_fits hv (by decide), by omega⟩, ?_⟩
    unfold vdotF; omega
  obtain ⟨a1, a2, a3⟩ := q m.a h.1
  obtain ⟨b1, b2, b3⟩ := q m.b h.2.1
  obtain ⟨c1, c2, c3⟩ := q m.c h.2.2
  exact ⟨a1, b1, c1, by unfold in3 turnF; simp only; omega⟩
theorem times_in {p : P3} (h : in3 1048576 p) : in3 4294967296 (timesF p 4096) := by unfold in3 timesF at *; simp only; omega
theorem tdv_in {p : P3} (h : in3 64424509440 p) : in3 4398046511104 (tdv3 p 4096) := by
  obtain ⟨a, b, c, d, e, f⟩ := h
  have x := tdiv_le p.x 4096 64424509440 (by omega)
  have y := tdiv_le p.y 4096 64424509440 (by omega)
  have z := tdiv_le p.z 4096 64424509440 (by omega)
  unfold in3 tdv3; simp only; omega
def WaysPost (l : List P3) (w : World) (e : Ending) (w' : World) : Prop := ∃ A c, e = .returned (.tuple #[.slice A l.length c, .bool true]) ∧ l.length ≤ c ∧ RdB w' A l ∧ Below w.heap.size w w' ∧ (∀ ad, A = some ad → w.heap.size ≤ ad.block)
theorem OwnP.lt {w : World} {base : Nat} {v : Value} {l : List P3} (h : OwnP w base v l) (k : Nat) (hk : v.ownBlock = some k) : k < w.heap.size := (World.ownsRow.lt h k hk).2
theorem OwnP.rdB {w : World} {base : Nat} {v : Value} {l : List P3} (h : OwnP w base v l) : ∃ A c, v = .slice A l.length c ∧ l.length ≤ c ∧ RdB w A l ∧ (∀ ad, A = some ad → base ≤ ad.block) := by
  obtain ⟨A, c, e, h1, h2, h3⟩ := h.rd
  refine ⟨A, c, e, h1, ⟨h2, fun ad ea => ?_⟩, h3⟩
  subst ea
  exact h.lt _ (by rw [e]; rfl)
theorem OwnP.setc {w : World} {base : Nat} {v : Value} {l : List P3} (h : OwnP w base v l) {p : Addr} (hne : ∀ k, v.ownBlock = some k → k < p.block) (u : Value) : OwnP (w.setCell p u) base v l :=
  own_setCell h (fun e => by have := hne _ e.symm; omega) u
set_option maxHeartbeats 8000000 in
set_option maxRecDepth 100000 in
theorem ways6_calls (g : Nat) (m : M3) (l : List P3) (A : Option Addr) (c : Nat) (w : World) (hg : Wk w g) (hA : Rd w A l) (hc : l.length ≤ c) (hl : l.length ≤ 1000) (hin : ∀ p ∈ l, in3 1048576 p) (hm : mOk m) :
    Calls Try.prog 114 #[.pointer (some ⟨g, 0, none⟩), aM m, .slice A l.length c] w (WaysPost (waysF m l) w) := by
  have HG := Lh hg
  have HA := Lh hA
  have HI := Lh hin
  have HM := Lh hm
  have hgl : g < w.heap.size := blk_lt hg
  obtain ⟨N, hN⟩ : ∃ N, l.length = N := ⟨_, rfl⟩
  have HN := Lh hN
  rw [hN] at hc hl ⊢
  clear hg hA hin hm hN
  go_enter Try.func114, Try.ntmps114
  go_wp2
  obtain ⟨w1, hw1⟩ : ∃ w1, w.alloc (.cells #[.int .i64 m.a.x, .int .i64 m.a.y, .int .i64 m.a.z, .int .i64 m.b.x, .int .i64 m.b.y, .int .i64 m.b.z, .int .i64 m.c.x, .int .i64 m.c.y, .int .i64 m.c.z] 138) = w1 := ⟨_, rfl⟩
  have MK1 : Hid (Mk w1 w.heap.size m) := Lh (by rw [← hw1]; exact heap_alloc_new w _)
  have HW1 := Lh (show Below w.heap.size w w1 by rw [← hw1]; exact (Below.refl _ w).alloc (Nat.le_refl _) _)
  have hz1 : w1.heap.size = w.heap.size + 1 := by rw [← hw1]; simp
  rw [hw1]
  have HZ1 := Lh hz1
  clear hw1 hz1
  go_loopw [8, 9, 10, 11, 12, 13, 14] (fun v8 v9 v10 v11 v12 v13 v14 wr => ∃ k : Nat, k ≤ N ∧ v9 = .int .i64 k ∧ Hid (OwnP wr (w.heap.size + 1) v8 (waysF m (l.take k))) ∧ Hid (Below (w.heap.size + 1) w1 wr)) (fun _ i _ _ _ _ _ _ => N - (intOf i).toNat)
  case atStart => exact ⟨0, by omega, rfl, Lh (OwnP.nil _ _), Lh (Below.refl _ _)⟩
  case round =>
    obtain ⟨k, hk, rfl, hO, hB⟩ := hrel
    by_cases hlt : k < N
    · have hkl : k < l.length := by rw [HN.out]; exact hlt
      have hz1 := HZ1.out
      have hBw : Below w.heap.size w wr := HW1.out.trans (hB.out.mono (by omega))
      obtain ⟨b, o, rfl, _, e0, e1, e2⟩ := (HA.out.below hBw).get k hkl
      have hp := HI.out _ (List.getElem_mem hkl)
      have hYES := waysF_yes m l k hkl
      have hNO := waysF_no m l k hkl
      obtain ⟨p, hpe⟩ : ∃ p, l[k] = p := ⟨_, rfl⟩
      rw [hpe] at e0 e1 e2 hp hYES hNO
      obtain ⟨px, py, pz⟩ := p
      simp only at e0 e1 e2
      have HRD : Hid (∀ W, Below w.heap.size w W → W.cell? ⟨b, o + k * 3, none⟩ = some (.int .i64 px) ∧ W.cell? ⟨b, o + k * 3 + 1, none⟩ = some (.int .i64 py) ∧ W.cell? ⟨b, o + k * 3 + 2, none⟩ = some (.int .i64 pz)) := Lh (fun W hW => by
        obtain ⟨b', o', e', _, h0, h1, h2⟩ := (HA.out.below hW).get k hkl
        simp only [Option.some.injEq, Addr.mk.injEq, and_true] at e'
        obtain ⟨rfl, rfl⟩ := e'
        rw [hpe] at h0 h1 h2
        exact ⟨h0, h1, h2⟩)
      have HY := Lh hYES
      have HNO := Lh hNO
      obtain ⟨ok, hok⟩ : ∃ ok, waysF m (l.take k) = ok := ⟨_, rfl⟩
      have hlen : ok.length ≤ 1000 := by rw [← hok]; have := waysF_len m (l.take k); have := List.length_take_le k l; omega
      rw [hok] at hO HY HNO
      obtain ⟨D, hD⟩ : ∃ D, dbl3 ⟨px, py, pz⟩ = D := ⟨_, rfl⟩
      have hDI : in3 1048576 D := by rw [← hD]; exact dbl3_in _ hp
      obtain ⟨q, hq⟩ : ∃ q, wayF m ⟨px, py, pz⟩ = q := ⟨_, rfl⟩
      have HQ : Hid (short3 (tdv3 (turnF m (timesF D 4096)) 4096) = q) := Lh (by rw [← hD]; exact hq)
      rw [hq] at HY HNO
      have HP := Lh hp
      have HD := Lh hD
      have HDI := Lh hDI
      have HBw := Lh hBw
      have hw1 : w.heap.size + 1 ≤ wr.heap.size := by have := hB.out.size; omega
      clear hpe hYES hNO hok hq hD hDI hp hBw hz1
      obtain ⟨wo, hwo⟩ : ∃ wo : World, wo = wr := ⟨_, rfl⟩
      subst hwo
      go_wp2_with fail
      refine (in6_calls ⟨px, py, pz⟩ 1048576 true (by simpa using HP.out) (by decide) (by decide) _).mono ?_
      rintro e w2 ⟨rfl, hb⟩
      have hO2 := Lh (hO.out.grown hb)
      have hB2 := Lh (hB.out.trans (hb.mono hw1))
      have hBw2 := Lh (bthen HBw.out hb)
      have hw2 : w.heap.size + 1 ≤ w2.heap.size := by have := hb.size; omega
      clear e0 e1 e2 hO hB HBw hb hw1
      obtain ⟨e0, e1, e2⟩ := HRD.out _ hBw2.out
      go_wp2_with fail
      refine (in6_calls ⟨px, py, pz⟩ 524288 (decide (in3 524288 ⟨px, py, pz⟩)) rfl (by decide) (by decide) _).mono ?_
      rintro e w3 ⟨rfl, hb⟩
      have hlt2 := Lh (fun k (h : (_ : Value).ownBlock = some k) => hO2.out.lt k h)
      have hO3 := Lh ((hO2.out.grown ((Below.refl _ w2).alloc (Nat.le_refl _) (.cells #[.int .i64 px, .int .i64 py, .int .i64 pz] 23))).grown hb)
      have hB3 := Lh ((hB2.out.alloc hw2 (.cells #[.int .i64 px, .int .i64 py, .int .i64 pz] 23)).trans (hb.mono (by simp; omega)))
      have hBw3 := Lh (bthen (hBw2.out.alloc (by omega) (.cells #[.int .i64 px, .int .i64 py, .int .i64 pz] 23)) hb)
      have hC3 := Lh ((C3.new w2 (.int .i64 px) (.int .i64 py) (.int .i64 pz) 23).below hb)
      have hlt3 : w2.heap.size < w3.heap.size := by have := hb.size; simp at this; omega
      clear e0 e1 e2 hO2 hB2 hBw2 hb
      obtain ⟨T, hT⟩ : ∃ T, w2.heap.size = T := ⟨_, rfl⟩
      rw [hT] at hlt2 hlt3 hC3 hw2
      go_wp2_with fail
      go_loopg [12] (2000000 - size3 ⟨px, py, pz⟩) (fun kq v12 wr => ∃ r : P3, Hid (kq = 2000000 - size3 r) ∧ v12 = .bool (decide (in3 524288 r)) ∧ Hid (dbl3 r = D) ∧ Hid (in3 1048576 r) ∧ Hid (C3 wr T (.int .i64 r.x) (.int .i64 r.y) (.int .i64 r.z)) ∧ Hid (OwnP wr (w.heap.size + 1) u8 ok) ∧ Hid (Below (w.heap.size + 1) w1 wr) ∧ Hid (T < wr.heap.size))
      case atStart => exact ⟨⟨px, py, pz⟩, Lh rfl, rfl, HD, HP, hC3, hO3, hB3, Lh hlt3⟩
      case round =>
        clear hO3 hB3 hBw3 hC3 hlt3 HP HD
        obtain ⟨r, h1, rfl, h2, h3, h4, h5, h6, h7⟩ := hrel
        by_cases hstop : far3 524288 r = true ∨ r = ⟨0, 0, 0⟩
        · have hrD : r = D := by rw [← h2.out, dbl3, dif_pos hstop]
          subst hrD
          have hcase : (∃ b0 : Bool, decide (in3 524288 r) = b0 ∧ (b0 = false ∨ (b0 = true ∧ r = ⟨0, 0, 0⟩))) := by
            refine ⟨_, rfl, ?_⟩
            rcases hstop with hf | hz
            · left
              apply decide_eq_false
              intro hi
              rw [(far3_iff _ _ (by decide) (by decide)).2 hi] at hf
              cases hf
            · by_cases hi : in3 524288 r
              · right; exact ⟨decide_eq_true hi, hz⟩
              · left; exact decide_eq_false hi
          obtain ⟨b0, hb0, hcase⟩ := hcase
          rw [hb0]
          have hti := Lh (times_in h3.out)
          have hT4 := Lh (fun W => times6_calls r 4096 h3.out (by decide) (by decide) W)
          have hEZ := Lh (show r = ⟨0, 0, 0⟩ → eqP r.x r.y r.z 0 0 0 = true from fun hr => by rw [hr]; decide)
          obtain ⟨V, hV⟩ : ∃ V, timesF r 4096 = V := ⟨_, rfl⟩
          rw [hV] at hti hT4
          obtain ⟨t1, t2, t3, t4⟩ := turn_ok HM.out hti.out
          have hU := Lh (fun W (h : Wk W g) => turn_calls g m V W h t1 t2 t3)
          obtain ⟨U, hUe⟩ : ∃ U, turnF m V = U := ⟨_, rfl⟩
          rw [hUe] at hU t4
          have hS := Lh (fun W => rshort_calls (tdv3 U 4096) W (tdv_in t4))
          have hQ' : short3 (tdv3 U 4096) = q := by rw [← hUe, ← hV]; exact HQ.out
          rw [hQ'] at hS
          obtain ⟨ux, uy, uz⟩ := U
          obtain ⟨b1, b2, b3, b4, b5, b6⟩ := t4
          simp only at b1 b2 b3 b4 b5 b6
          have TD : Hid (IntKind.i64.wrap (ux.tdiv 4096) = ux.tdiv 4096 ∧ IntKind.i64.wrap (uy.tdiv 4096) = uy.tdiv 4096 ∧ IntKind.i64.wrap (uz.tdiv 4096) = uz.tdiv 4096) := Lh ⟨iw_tdiv _ _ (by omega) (by omega), iw_tdiv _ _ (by omega) (by omega), iw_tdiv _ _ (by omega) (by omega)⟩
          have TD2 : Hid (wrap64 (ux.tdiv 4096) = ux.tdiv 4096 ∧ wrap64 (uy.tdiv 4096) = uy.tdiv 4096 ∧ wrap64 (uz.tdiv 4096) = uz.tdiv 4096) := Lh (by
            have x := tdiv_le ux 4096 64424509440 (by omega)
            have y := tdiv_le uy 4096 64424509440 (by omega)
            have z := tdiv_le uz 4096 64424509440 (by omega)
            exact ⟨w64_id _ (by omega) (by omega), w64_id _ (by omega) (by omega), w64_id _ (by omega) (by omega)⟩)
          have MKr := Lh ((h6.out.block _ (by omega)).trans MK1.out)
          have WKr := Lh ((h6.out.block _ (show g < w.heap.size + 1 by omega)).trans ((HW1.out.block _ hgl).trans (show w.heap[g]? = some (.cells #[.bool false] 85 (0, 0)) from HG.out)))
          have hlq : w.heap.size < wr.heap.size := by have := h7.out; omega
          have hlg : g < wr.heap.size := by omega
          have hlT : T < wr.heap.size := h7.out
          obtain ⟨rx, ry, rz⟩ := r
          obtain ⟨c0, c1, c2, _, _, _⟩ := h4.out
          obtain ⟨x0, x1, x2, x3, x4, x5, x6, x7, x8⟩ := (show Mk wr w.heap.size m from MKr.out).all
          simp only at hEZ c0 c1 c2
          clear hV hUe hQ' hti t1 t2 t3 b1 b2 b3 b4 b5 b6 hstop hb0 h1 h2 h3
          rcases hcase with rfl | ⟨rfl, hr0⟩
          rotate_left
          · have he := hEZ.out hr0
            clear hr0
            go_wp2_with fail
            have HB := Lh ((Below.refl (wr.heap.size) wr).drew)
            have FF := Lh (show ∀ V, Hid (Below (wr.heap.size) wr V) → V.cell? ⟨w.heap.size, 0, none⟩ = some (.int .i64 m.a.x) ∧ V.cell? ⟨w.heap.size, 1, none⟩ = some (.int .i64 m.a.y) ∧ V.cell? ⟨w.heap.size, 2, none⟩ = some (.int .i64 m.a.z) ∧ V.cell? ⟨w.heap.size, 3, none⟩ = some (.int .i64 m.b.x) ∧ V.cell? ⟨w.heap.size, 4, none⟩ = some (.int .i64 m.b.y) ∧ V.cell? ⟨w.heap.size, 5, none⟩ = some (.int .i64 m.b.z) ∧ V.cell? ⟨w.heap.size, 6, none⟩ = some (.int .i64 m.c.x) ∧ V.cell? ⟨w.heap.size, 7, none⟩ = some (.int .i64 m.c.y) ∧ V.cell? ⟨w.heap.size, 8, none⟩ = some (.int .i64 m.c.z) ∧ V.cell? ⟨T, 0, none⟩ = some (.int .i64 rx) ∧ V.cell? ⟨T, 1, none⟩ = some (.int .i64 ry) ∧ V.cell? ⟨T, 2, none⟩ = some (.int .i64 rz) from fun V HB => ⟨(HB.out.cell (p := ⟨w.heap.size, 0, none⟩) (hlq)).trans x0, (HB.out.cell (p := ⟨w.heap.size, 1, none⟩) (hlq)).trans x1, (HB.out.cell (p := ⟨w.heap.size, 2, none⟩) (hlq)).trans x2, (HB.out.cell (p := ⟨w.heap.size, 3, none⟩) (hlq)).trans x3, (HB.out.cell (p := ⟨w.heap.size, 4, none⟩) (hlq)).trans x4, (HB.out.cell (p := ⟨w.heap.size, 5, none⟩) (hlq)).trans x5, (HB.out.cell (p := ⟨w.heap.size, 6, none⟩) (hlq)).trans x6, (HB.out.cell (p := ⟨w.heap.size, 7, none⟩) (hlq)).trans x7, (HB.out.cell (p := ⟨w.heap.size, 8, none⟩) (hlq)).trans x8, (HB.out.cell (p := ⟨T, 0, none⟩) (hlT)).trans c0, (HB.out.cell (p := ⟨T, 1, none⟩) (hlT)).trans c1, (HB.out.cell (p := ⟨T, 2, none⟩) (hlT)).trans c2⟩)
            refine start_ (n := 7) (S := fun w' => w'.cell? ⟨w.heap.size, 0, none⟩ = some (.int .i64 m.a.x) ∧ w'.cell? ⟨w.heap.size, 1, none⟩ = some (.int .i64 m.a.y) ∧ w'.cell? ⟨w.heap.size, 2, none⟩ = some (.int .i64 m.a.z) ∧ w'.cell? ⟨w.heap.size, 3, none⟩ = some (.int .i64 m.b.x) ∧ w'.cell? ⟨w.heap.size, 4, none⟩ = some (.int .i64 m.b.y) ∧ w'.cell? ⟨w.heap.size, 5, none⟩ = some (.int .i64 m.b.z) ∧ w'.cell? ⟨w.heap.size, 6, none⟩ = some (.int .i64 m.c.x) ∧ w'.cell? ⟨w.heap.size, 7, none⟩ = some (.int .i64 m.c.y) ∧ w'.cell? ⟨w.heap.size, 8, none⟩ = some (.int .i64 m.c.z) ∧ w'.cell? ⟨T, 0, none⟩ = some (.int .i64 rx) ∧ w'.cell? ⟨T, 1, none⟩ = some (.int .i64 ry) ∧ w'.cell? ⟨T, 2, none⟩ = some (.int .i64 rz)) (ds := []) (MT 0 7) (by kernel_rfl) rfl rfl (FF.out _ HB) (fun hHeld => ?_)
            obtain ⟨wd, hwd⟩ : ∃ x, wr.drew = x := ⟨_, rfl⟩
            rw [hwd] at HB hHeld ⊢
            clear hwd
            refine pu_ 0 52 (h := ?_)
            refine ta_ 1 53 hHeld (h := ?_)
            refine ta_ 2 54 hHeld (h := ?_)
            refine join_ (σ := Nat) 1 (MT 6 1) (fun s => [(13, .pointer (some ⟨s, 0, none⟩)), (55, aP V), (56, aP ⟨ux, uy, uz⟩)]) (fun s w' => wr.heap.size ≤ s ∧ w'.heap[s]? = some (.cells #[.int .i64 0, .int .i64 0, .int .i64 0] 27 (0, 0)) ∧ Below (wr.heap.size) wr w') ?_ ?_
            rotate_left
            · intro hCont
              refine two_ (i := 3) (j := 5) (Ni := some 55) (Nj := some 13) (MT 4 3) #[true, true, true, false, false, true, false] rfl rfl rfl rfl (by kernel_rfl) (by decide) (by decide) (fun K hK => ?_) (fun K hK => ?_)
              · skip
                refine gs_ Try.func112 #[aP ⟨rx, ry, rz⟩, .int .i64 4096] ?_
                with_reducible refine (hT4.out _).mono ?_
                rintro e w3 ⟨rfl, hb⟩
                have HB := Lh (HB.out.trans (hb.mono HB.out.size))
                clear hb
                refine ⟨_, rfl, ?_⟩
                refine hK.out _ _ (FF.out _ HB) (fun hHeld => ?_)
                clear hK K
                refine no_ (h := ?_)
                refine two_ (i := 4) (j := 5) (Ni := some 56) (Nj := some 13) (MT 5 2) #[true, true, true, true, false, true, false] rfl rfl rfl rfl (by kernel_rfl) (by decide) (by decide) (fun K hK => ?_) (fun K hK => ?_)
                · skip
                  refine gs_ Try.func111 #[.pointer (some ⟨g, 0, none⟩), aM m, aP V] ?_
                  with_reducible refine (hU.out _ (Wk.of ((HB.out.block _ hlg).trans WKr.out))).mono ?_
                  rintro e w3 ⟨rfl, hb⟩
                  have HB := Lh (HB.out.trans (hb.mono HB.out.size))
                  clear hb
                  refine ⟨_, rfl, ?_⟩
                  refine hK.out _ _ (FF.out _ HB) (fun hHeld => ?_)
                  clear hK K
                  refine no_ (h := ?_)
                  refine on_ 5 (some 13) (h := fun K hK => ?_)
                  refine value_ (w1 := ?_) (v := ?_) (by rfl) rfl ?_ ?_
                  rotate_left 2
                  · go_simp
                    constructor
                    · rfl
                    · rfl
                  have HA := Lh (ha_new HB.out (.cells #[.int .i64 0, .int .i64 0, .int .i64 0] 27))
                  have hge := HB.out.size
                  have HB := Lh (HB.out.alloc (Nat.le_trans (Nat.le_refl _) HB.out.size) (.cells #[.int .i64 0, .int .i64 0, .int .i64 0] 27))
                  refine hK.out _ _ (FF.out _ HB) (fun hHeld => ?_)
                  clear hK K
                  refine no_ (h := ?_)
                  exact norm_ (by simp only [putAll, Act.put, List.setIfInBounds_toArray, List.set_cons_zero, List.set_cons_succ]) (hCont _ _ ⟨hge, HA.out, HB.out⟩)
                · skip
                  refine value_ (w1 := ?_) (v := ?_) (by rfl) rfl ?_ ?_
                  rotate_left 2
                  · go_simp
                    constructor
                    · rfl
                    · rfl
                  have HA := Lh (ha_new HB.out (.cells #[.int .i64 0, .int .i64 0, .int .i64 0] 27))
                  have hge := HB.out.size
                  have HB := Lh (HB.out.alloc (Nat.le_trans (Nat.le_refl _) HB.out.size) (.cells #[.int .i64 0, .int .i64 0, .int .i64 0] 27))
                  refine hK.out _ _ (FF.out _ HB) (fun hHeld => ?_)
                  clear hK K
                  refine no_ (h := ?_)
                  refine on_ 4 (some 56) (h := fun K hK => ?_)
                  refine gs_ Try.func111 #[.pointer (some ⟨g, 0, none⟩), aM m, aP V] ?_
                  with_reducible refine (hU.out _ (Wk.of ((HB.out.block _ hlg).trans WKr.out))).mono ?_
                  rintro e w3 ⟨rfl, hb⟩
                  have HB := Lh (HB.out.trans (hb.mono HB.out.size))
                  have HA := Lh ((hb.block _ (blk_lt HA.out)).trans HA.out)
                  clear hb
                  refine ⟨_, rfl, ?_⟩
                  refine hK.out _ _ (FF.out _ HB) (fun hHeld => ?_)
                  clear hK K
                  refine no_ (h := ?_)
                  exact norm_ (by simp only [putAll, Act.put, List.setIfInBounds_toArray, List.set_cons_zero, List.set_cons_succ]) (hCont _ _ ⟨hge, HA.out, HB.out⟩)
              · skip
                refine value_ (w1 := ?_) (v := ?_) (by rfl) rfl ?_ ?_
                rotate_left 2
                · go_simp
                  constructor
                  · rfl
                  · rfl
                have HA := Lh (ha_new HB.out (.cells #[.int .i64 0, .int .i64 0, .int .i64 0] 27))
                have hge := HB.out.size
                have HB := Lh (HB.out.alloc (Nat.le_trans (Nat.le_refl _) HB.out.size) (.cells #[.int .i64 0, .int .i64 0, .int .i64 0] 27))
                refine hK.out _ _ (FF.out _ HB) (fun hHeld => ?_)
                clear hK K
                refine no_ (h := ?_)
                refine on_ 3 (some 55) (h := fun K hK => ?_)
                refine gs_ Try.func112 #[aP ⟨rx, ry, rz⟩, .int .i64 4096] ?_
                with_reducible refine (hT4.out _).mono ?_
                rintro e w3 ⟨rfl, hb⟩
                have HB := Lh (HB.out.trans (hb.mono HB.out.size))
                have HA := Lh ((hb.block _ (blk_lt HA.out)).trans HA.out)
                clear hb
                refine ⟨_, rfl, ?_⟩
                refine hK.out _ _ (FF.out _ HB) (fun hHeld => ?_)
                clear hK K
                refine no_ (h := ?_)
                refine on_ 4 (some 56) (h := fun K hK => ?_)
                refine gs_ Try.func111 #[.pointer (some ⟨g, 0, none⟩), aM m, aP V] ?_
                with_reducible refine (hU.out _ (Wk.of ((HB.out.block _ hlg).trans WKr.out))).mono ?_
                rintro e w3 ⟨rfl, hb⟩
                have HB := Lh (HB.out.trans (hb.mono HB.out.size))
                have HA := Lh ((hb.block _ (blk_lt HA.out)).trans HA.out)
                clear hb
                refine ⟨_, rfl, ?_⟩
                refine hK.out _ _ (FF.out _ HB) (fun hHeld => ?_)
                clear hK K
                refine no_ (h := ?_)
                exact norm_ (by simp only [putAll, Act.put, List.setIfInBounds_toArray, List.set_cons_zero, List.set_cons_succ]) (hCont _ _ ⟨hge, HA.out, HB.out⟩)
            rintro AB wj ⟨hge, HA, HB⟩
            have HA := Lh HA
            have HB := Lh HB
            have hHeld := FF.out _ HB
            refine no_ (h := ?_)
            refine on_ 6 (none) (h := fun K hK => ?_)
            have sc0 : World.cell? _ ⟨AB, 0, none⟩ = some (.int .i64 0) := (blk_cell HA.out 0).trans rfl
            have sf0 := blk_frozen HA.out 0
            have sc1 : World.cell? _ ⟨AB, 1, none⟩ = some (.int .i64 0) := (blk_cell HA.out 1).trans rfl
            have sf1 := blk_frozen HA.out 1
            have sc2 : World.cell? _ ⟨AB, 2, none⟩ = some (.int .i64 0) := (blk_cell HA.out 2).trans rfl
            have sf2 := blk_frozen HA.out 2
            refine skip_ (w1 := ?_) (by rfl) rfl ?_ ?_
            rotate_left
            · go_simp
              rfl
            have HA := Lh (bs3 HA.out (.int .i64 ux) (.int .i64 uy) (.int .i64 uz))
            have HB := Lh (bb3 HB.out (Nat.le_trans (Nat.le_refl _) hge) (.int .i64 ux) (.int .i64 uy) (.int .i64 uz))
            clear sc0 sf0 sc1 sf1 sc2 sf2
            refine hK.out _ _ (FF.out _ HB) (fun hHeld => ?_)
            clear hK K
            refine done_ (by kernel_rfl) ?_
            obtain ⟨w5, hwn⟩ : ∃ V, (((wj.setCell ⟨AB, 0, none⟩ (.int .i64 ux)).setCell ⟨AB, 1, none⟩ (.int .i64 uy)).setCell ⟨AB, 2, none⟩ (.int .i64 uz)) = V := ⟨_, rfl⟩
            rw [hwn] at HA HB ⊢
            clear hwn
            have hO5 := Lh (h5.out.grown HB.out)
            have hB5 := Lh (h6.out.trans (HB.out.mono (by omega)))
            have hz5 : w.heap.size + 1 ≤ w5.heap.size := by have := hB5.out.size; have := HZ1.out; omega
            have y0 : w5.cell? ⟨AB, 0, none⟩ = some (.int .i64 ux) := (blk_cell HA.out 0).trans rfl
            have y1 : w5.cell? ⟨AB, 1, none⟩ = some (.int .i64 uy) := (blk_cell HA.out 1).trans rfl
            have y2 : w5.cell? ⟨AB, 2, none⟩ = some (.int .i64 uz) := (blk_cell HA.out 2).trans rfl
            clear hHeld HB HA hge x0 x1 x2 x3 x4 x5 x6 x7 x8 c0 c1 c2
            obtain ⟨d0, d1, d2⟩ := TD.out
            obtain ⟨d3, d4, d5⟩ := TD2.out
            go_wp2_with fail
            refine (hS.out _).mono ?_
            rintro e w6 ⟨rfl, hb⟩
            have hO6 := Lh (hO5.out.grown hb)
            have hB6 := Lh (hB5.out.trans (hb.mono hz5))
            have hz6 : w.heap.size + 1 ≤ w6.heap.size := by have := hb.size; omega
            clear hO5 hB5 hz5 hb y0 y1 y2 d0 d1 d2 d3 d4 d5 TD TD2
            obtain ⟨qx, qy, qz⟩ := q
            by_cases hq0 : (⟨qx, qy, qz⟩ : P3) = ⟨0, 0, 0⟩
            · have he2 := eqP_yes hq0
              have hE := Lh (HNO.out hq0)
              clear hq0
              go_wp2
              go_roundw
              case rel => exact ⟨k + 1, by omega, by go_num, by rw [hE.out]; exact Lh (hO6.out.grown ((Below.refl _ w6).alloc (Nat.le_refl _) _)), Lh (hB6.out.alloc hz6 _)⟩
              case measure => simp [intOf]; omega
            · have he2 := eqP_no hq0
              have hE := Lh (HY.out hq0)
              clear hq0
              have hO7 := Lh ((hO6.out.grown ((Below.refl _ w6).alloc (Nat.le_refl _) (.cells #[.int .i64 qx, .int .i64 qy, .int .i64 qz] 23))).grown ((Below.refl _ _).alloc (Nat.le_refl _) (.cells #[.int .i64 qx, .int .i64 qy, .int .i64 qz] 23)))
              have hB7 := Lh ((hB6.out.alloc hz6 (.cells #[.int .i64 qx, .int .i64 qy, .int .i64 qz] 23)).alloc (by simp; omega) (.cells #[.int .i64 qx, .int .i64 qy, .int .i64 qz] 23))
              have hR7 := (Rd_one (heap_alloc_new (w6.alloc (.cells #[.int .i64 qx, .int .i64 qy, .int .i64 qz] 23)) (.cells #[.int .i64 qx, .int .i64 qy, .int .i64 qz] 23))).1
              rw [World.size_alloc] at hR7
              have hR7 := Lh hR7
              go_wp2_with (at_builtin; refine append_pts (w.heap.size + 1) rfl _ _ rfl _ ok [⟨qx, qy, qz⟩] _ _ _ rfl rfl hO7.out hR7.out rfl (by simp; omega) (by simp; omega) ?_; intro v2 w8 hv2 hg2)
              go_roundw
              case rel => exact ⟨k + 1, by omega, by go_num, by rw [hE.out]; exact Lh hv2, Lh (hB7.out.grown hg2 (by simp; omega) (fun k hk => hO7.out.base_ k hk))⟩
              case measure => simp [intOf]; omega
          · go_wp2_with fail
            have HB := Lh ((Below.refl (wr.heap.size) wr).drew)
            have FF := Lh (show ∀ V, Hid (Below (wr.heap.size) wr V) → V.cell? ⟨w.heap.size, 0, none⟩ = some (.int .i64 m.a.x) ∧ V.cell? ⟨w.heap.size, 1, none⟩ = some (.int .i64 m.a.y) ∧ V.cell? ⟨w.heap.size, 2, none⟩ = some (.int .i64 m.a.z) ∧ V.cell? ⟨w.heap.size, 3, none⟩ = some (.int .i64 m.b.x) ∧ V.cell? ⟨w.heap.size, 4, none⟩ = some (.int .i64 m.b.y) ∧ V.cell? ⟨w.heap.size, 5, none⟩ = some (.int .i64 m.b.z) ∧ V.cell? ⟨w.heap.size, 6, none⟩ = some (.int .i64 m.c.x) ∧ V.cell? ⟨w.heap.size, 7, none⟩ = some (.int .i64 m.c.y) ∧ V.cell? ⟨w.heap.size, 8, none⟩ = some (.int .i64 m.c.z) ∧ V.cell? ⟨T, 0, none⟩ = some (.int .i64 rx) ∧ V.cell? ⟨T, 1, none⟩ = some (.int .i64 ry) ∧ V.cell? ⟨T, 2, none⟩ = some (.int .i64 rz) from fun V HB => ⟨(HB.out.cell (p := ⟨w.heap.size, 0, none⟩) (hlq)).trans x0, (HB.out.cell (p := ⟨w.heap.size, 1, none⟩) (hlq)).trans x1, (HB.out.cell (p := ⟨w.heap.size, 2, none⟩) (hlq)).trans x2, (HB.out.cell (p := ⟨w.heap.size, 3, none⟩) (hlq)).trans x3, (HB.out.cell (p := ⟨w.heap.size, 4, none⟩) (hlq)).trans x4, (HB.out.cell (p := ⟨w.heap.size, 5, none⟩) (hlq)).trans x5, (HB.out.cell (p := ⟨w.heap.size, 6, none⟩) (hlq)).trans x6, (HB.out.cell (p := ⟨w.heap.size, 7, none⟩) (hlq)).trans x7, (HB.out.cell (p := ⟨w.heap.size, 8, none⟩) (hlq)).trans x8, (HB.out.cell (p := ⟨T, 0, none⟩) (hlT)).trans c0, (HB.out.cell (p := ⟨T, 1, none⟩) (hlT)).trans c1, (HB.out.cell (p := ⟨T, 2, none⟩) (hlT)).trans c2⟩)
            refine start_ (n := 7) (S := fun w' => w'.cell? ⟨w.heap.size, 0, none⟩ = some (.int .i64 m.a.x) ∧ w'.cell? ⟨w.heap.size, 1, none⟩ = some (.int .i64 m.a.y) ∧ w'.cell? ⟨w.heap.size, 2, none⟩ = some (.int .i64 m.a.z) ∧ w'.cell? ⟨w.heap.size, 3, none⟩ = some (.int .i64 m.b.x) ∧ w'.cell? ⟨w.heap.size, 4, none⟩ = some (.int .i64 m.b.y) ∧ w'.cell? ⟨w.heap.size, 5, none⟩ = some (.int .i64 m.b.z) ∧ w'.cell? ⟨w.heap.size, 6, none⟩ = some (.int .i64 m.c.x) ∧ w'.cell? ⟨w.heap.size, 7, none⟩ = some (.int .i64 m.c.y) ∧ w'.cell? ⟨w.heap.size, 8, none⟩ = some (.int .i64 m.c.z) ∧ w'.cell? ⟨T, 0, none⟩ = some (.int .i64 rx) ∧ w'.cell? ⟨T, 1, none⟩ = some (.int .i64 ry) ∧ w'.cell? ⟨T, 2, none⟩ = some (.int .i64 rz)) (ds := []) (MT 0 7) (by kernel_rfl) rfl rfl (FF.out _ HB) (fun hHeld => ?_)
            obtain ⟨wd, hwd⟩ : ∃ x, wr.drew = x := ⟨_, rfl⟩
            rw [hwd] at HB hHeld ⊢
            clear hwd
            refine pu_ 0 52 (h := ?_)
            refine ta_ 1 53 hHeld (h := ?_)
            refine ta_ 2 54 hHeld (h := ?_)
            refine join_ (σ := Nat) 1 (MT 6 1) (fun s => [(13, .pointer (some ⟨s, 0, none⟩)), (55, aP V), (56, aP ⟨ux, uy, uz⟩)]) (fun s w' => wr.heap.size ≤ s ∧ w'.heap[s]? = some (.cells #[.int .i64 0, .int .i64 0, .int .i64 0] 27 (0, 0)) ∧ Below (wr.heap.size) wr w') ?_ ?_
            rotate_left
            · intro hCont
              refine two_ (i := 3) (j := 5) (Ni := some 55) (Nj := some 13) (MT 4 3) #[true, true, true, false, false, true, false] rfl rfl rfl rfl (by kernel_rfl) (by decide) (by decide) (fun K hK => ?_) (fun K hK => ?_)
              · skip
                refine gs_ Try.func112 #[aP ⟨rx, ry, rz⟩, .int .i64 4096] ?_
                with_reducible refine (hT4.out _).mono ?_
                rintro e w3 ⟨rfl, hb⟩
                have HB := Lh (HB.out.trans (hb.mono HB.out.size))
                clear hb
                refine ⟨_, rfl, ?_⟩
                refine hK.out _ _ (FF.out _ HB) (fun hHeld => ?_)
                clear hK K
                refine no_ (h := ?_)
                refine two_ (i := 4) (j := 5) (Ni := some 56) (Nj := some 13) (MT 5 2) #[true, true, true, true, false, true, false] rfl rfl rfl rfl (by kernel_rfl) (by decide) (by decide) (fun K hK => ?_) (fun K hK => ?_)
                · skip
                  refine gs_ Try.func111 #[.pointer (some ⟨g, 0, none⟩), aM m, aP V] ?_
                  with_reducible refine (hU.out _ (Wk.of ((HB.out.block _ hlg).trans WKr.out))).mono ?_
                  rintro e w3 ⟨rfl, hb⟩
                  have HB := Lh (HB.out.trans (hb.mono HB.out.size))
                  clear hb
                  refine ⟨_, rfl, ?_⟩
                  refine hK.out _ _ (FF.out _ HB) (fun hHeld => ?_)
                  clear hK K
                  refine no_ (h := ?_)
                  refine on_ 5 (some 13) (h := fun K hK => ?_)
                  refine value_ (w1 := ?_) (v := ?_) (by rfl) rfl ?_ ?_
                  rotate_left 2
                  · go_simp
                    constructor
                    · rfl
                    · rfl
                  have HA := Lh (ha_new HB.out (.cells #[.int .i64 0, .int .i64 0, .int .i64 0] 27))
                  have hge := HB.out.size
                  have HB := Lh (HB.out.alloc (Nat.le_trans (Nat.le_refl _) HB.out.size) (.cells #[.int .i64 0, .int .i64 0, .int .i64 0] 27))
                  refine hK.out _ _ (FF.out _ HB) (fun hHeld => ?_)
                  clear hK K
                  refine no_ (h := ?_)
                  exact norm_ (by simp only [putAll, Act.put, List.setIfInBounds_toArray, List.set_cons_zero, List.set_cons_succ]) (hCont _ _ ⟨hge, HA.out, HB.out⟩)
                · skip
                  refine value_ (w1 := ?_) (v := ?_) (by rfl) rfl ?_ ?_
                  rotate_left 2
                  · go_simp
                    constructor
                    · rfl
                    · rfl
                  have HA := Lh (ha_new HB.out (.cells #[.int .i64 0, .int .i64 0, .int .i64 0] 27))
                  have hge := HB.out.size
                  have HB := Lh (HB.out.alloc (Nat.le_trans (Nat.le_refl _) HB.out.size) (.cells #[.int .i64 0, .int .i64 0, .int .i64 0] 27))
                  refine hK.out _ _ (FF.out _ HB) (fun hHeld => ?_)
                  clear hK K
                  refine no_ (h := ?_)
                  refine on_ 4 (some 56) (h := fun K hK => ?_)
                  refine gs_ Try.func111 #[.pointer (some ⟨g, 0, none⟩), aM m, aP V] ?_
                  with_reducible refine (hU.out _ (Wk.of ((HB.out.block _ hlg).trans WKr.out))).mono ?_
                  rintro e w3 ⟨rfl, hb⟩
                  have HB := Lh (HB.out.trans (hb.mono HB.out.size))
                  have HA := Lh ((hb.block _ (blk_lt HA.out)).trans HA.out)
                  clear hb
                  refine ⟨_, rfl, ?_⟩
                  refine hK.out _ _ (FF.out _ HB) (fun hHeld => ?_)
                  clear hK K
                  refine no_ (h := ?_)
                  exact norm_ (by simp only [putAll, Act.put, List.setIfInBounds_toArray, List.set_cons_zero, List.set_cons_succ]) (hCont _ _ ⟨hge, HA.out, HB.out⟩)
              · skip
                refine value_ (w1 := ?_) (v := ?_) (by rfl) rfl ?_ ?_
                rotate_left 2
                · go_simp
                  constructor
                  · rfl
                  · rfl
                have HA := Lh (ha_new HB.out (.cells #[.int .i64 0, .int .i64 0, .int .i64 0] 27))
                have hge := HB.out.size
                have HB := Lh (HB.out.alloc (Nat.le_trans (Nat.le_refl _) HB.out.size) (.cells #[.int .i64 0, .int .i64 0, .int .i64 0] 27))
                refine hK.out _ _ (FF.out _ HB) (fun hHeld => ?_)
                clear hK K
                refine no_ (h := ?_)
                refine on_ 3 (some 55) (h := fun K hK => ?_)
                refine gs_ Try.func112 #[aP ⟨rx, ry, rz⟩, .int .i64 4096] ?_
                with_reducible refine (hT4.out _).mono ?_
                rintro e w3 ⟨rfl, hb⟩
                have HB := Lh (HB.out.trans (hb.mono HB.out.size))
                have HA := Lh ((hb.block _ (blk_lt HA.out)).trans HA.out)
                clear hb
                refine ⟨_, rfl, ?_⟩
                refine hK.out _ _ (FF.out _ HB) (fun hHeld => ?_)
                clear hK K
                refine no_ (h := ?_)
                refine on_ 4 (some 56) (h := fun K hK => ?_)
                refine gs_ Try.func111 #[.pointer (some ⟨g, 0, none⟩), aM m, aP V] ?_
                with_reducible refine (hU.out _ (Wk.of ((HB.out.block _ hlg).trans WKr.out))).mono ?_
                rintro e w3 ⟨rfl, hb⟩
                have HB := Lh (HB.out.trans (hb.mono HB.out.size))
                have HA := Lh ((hb.block _ (blk_lt HA.out)).trans HA.out)
                clear hb
                refine ⟨_, rfl, ?_⟩
                refine hK.out _ _ (FF.out _ HB) (fun hHeld => ?_)
                clear hK K
                refine no_ (h := ?_)
                exact norm_ (by simp only [putAll, Act.put, List.setIfInBounds_toArray, List.set_cons_zero, List.set_cons_succ]) (hCont _ _ ⟨hge, HA.out, HB.out⟩)
            rintro AB wj ⟨hge, HA, HB⟩
            have HA := Lh HA
            have HB := Lh HB
            have hHeld := FF.out _ HB
            refine no_ (h := ?_)
            refine on_ 6 (none) (h := fun K hK => ?_)
            have sc0 : World.cell? _ ⟨AB, 0, none⟩ = some (.int .i64 0) := (blk_cell HA.out 0).trans rfl
            have sf0 := blk_frozen HA.out 0
            have sc1 : World.cell? _ ⟨AB, 1, none⟩ = some (.int .i64 0) := (blk_cell HA.out 1).trans rfl
            have sf1 := blk_frozen HA.out 1
            have sc2 : World.cell? _ ⟨AB, 2, none⟩ = some (.int .i64 0) := (blk_cell HA.out 2).trans rfl
            have sf2 := blk_frozen HA.out 2
            refine skip_ (w1 := ?_) (by rfl) rfl ?_ ?_
            rotate_left
            · go_simp
              rfl
            have HA := Lh (bs3 HA.out (.int .i64 ux) (.int .i64 uy) (.int .i64 uz))
            have HB := Lh (bb3 HB.out (Nat.le_trans (Nat.le_refl _) hge) (.int .i64 ux) (.int .i64 uy) (.int .i64 uz))
            clear sc0 sf0 sc1 sf1 sc2 sf2
            refine hK.out _ _ (FF.out _ HB) (fun hHeld => ?_)
            clear hK K
            refine done_ (by kernel_rfl) ?_
            obtain ⟨w5, hwn⟩ : ∃ V, (((wj.setCell ⟨AB, 0, none⟩ (.int .i64 ux)).setCell ⟨AB, 1, none⟩ (.int .i64 uy)).setCell ⟨AB, 2, none⟩ (.int .i64 uz)) = V := ⟨_, rfl⟩
            rw [hwn] at HA HB ⊢
            clear hwn
            have hO5 := Lh (h5.out.grown HB.out)
            have hB5 := Lh (h6.out.trans (HB.out.mono (by omega)))
            have hz5 : w.heap.size + 1 ≤ w5.heap.size := by have := hB5.out.size; have := HZ1.out; omega
            have y0 : w5.cell? ⟨AB, 0, none⟩ = some (.int .i64 ux) := (blk_cell HA.out 0).trans rfl
            have y1 : w5.cell? ⟨AB, 1, none⟩ = some (.int .i64 uy) := (blk_cell HA.out 1).trans rfl
            have y2 : w5.cell? ⟨AB, 2, none⟩ = some (.int .i64 uz) := (blk_cell HA.out 2).trans rfl
            clear hHeld HB HA hge x0 x1 x2 x3 x4 x5 x6 x7 x8 c0 c1 c2
            obtain ⟨d0, d1, d2⟩ := TD.out
            obtain ⟨d3, d4, d5⟩ := TD2.out
            go_wp2_with fail
            refine (hS.out _).mono ?_
            rintro e w6 ⟨rfl, hb⟩
            have hO6 := Lh (hO5.out.grown hb)
            have hB6 := Lh (hB5.out.trans (hb.mono hz5))
            have hz6 : w.heap.size + 1 ≤ w6.heap.size := by have := hb.size; omega
            clear hO5 hB5 hz5 hb y0 y1 y2 d0 d1 d2 d3 d4 d5 TD TD2
            obtain ⟨qx, qy, qz⟩ := q
            by_cases hq0 : (⟨qx, qy, qz⟩ : P3) = ⟨0, 0, 0⟩
            · have he2 := eqP_yes hq0
              have hE := Lh (HNO.out hq0)
              clear hq0
              go_wp2
              go_roundw
              case rel => exact ⟨k + 1, by omega, by go_num, by rw [hE.out]; exact Lh (hO6.out.grown ((Below.refl _ w6).alloc (Nat.le_refl _) _)), Lh (hB6.out.alloc hz6 _)⟩
              case measure => simp [intOf]; omega
            · have he2 := eqP_no hq0
              have hE := Lh (HY.out hq0)
              clear hq0
              have hO7 := Lh ((hO6.out.grown ((Below.refl _ w6).alloc (Nat.le_refl _) (.cells #[.int .i64 qx, .int .i64 qy, .int .i64 qz] 23))).grown ((Below.refl _ _).alloc (Nat.le_refl _) (.cells #[.int .i64 qx, .int .i64 qy, .int .i64 qz] 23)))
              have hB7 := Lh ((hB6.out.alloc hz6 (.cells #[.int .i64 qx, .int .i64 qy, .int .i64 qz] 23)).alloc (by simp; omega) (.cells #[.int .i64 qx, .int .i64 qy, .int .i64 qz] 23))
              have hR7 := (Rd_one (heap_alloc_new (w6.alloc (.cells #[.int .i64 qx, .int .i64 qy, .int .i64 qz] 23)) (.cells #[.int .i64 qx, .int .i64 qy, .int .i64 qz] 23))).1
              rw [World.size_alloc] at hR7
              have hR7 := Lh hR7
              go_wp2_with (at_builtin; refine append_pts (w.heap.size + 1) rfl _ _ rfl _ ok [⟨qx, qy, qz⟩] _ _ _ rfl rfl hO7.out hR7.out rfl (by simp; omega) (by simp; omega) ?_; intro v2 w8 hv2 hg2)
              go_roundw
              case rel => exact ⟨k + 1, by omega, by go_num, by rw [hE.out]; exact Lh hv2, Lh (hB7.out.grown hg2 (by simp; omega) (fun k hk => hO7.out.base_ k hk))⟩
              case measure => simp [intOf]; omega
        · have hnf : far3 524288 r = false := by
            cases hf : far3 524288 r
            · rfl
            · exact absurd (.inl hf) hstop
          have hi := (far3_iff _ _ (by decide) (by decide)).1 hnf
          have hdt : decide (in3 524288 r) = true := decide_eq_true hi
          rw [hdt]
          have hne : r ≠ ⟨0, 0, 0⟩ := fun e => hstop (.inr e)
          have e2 := Lh (show 2000000 - size3 (two3 r) < gk by rw [h1.out]; exact two3_lt r hstop)
          have e3 := Lh (show dbl3 (two3 r) = D by rw [← h2.out, dbl3.eq_1 r, dif_neg hstop])
          have e4 : Hid (in3 1048576 (two3 r)) := Lh (by unfold in3 two3 at *; simp only; omega)
          have hin := Lh (fun W => in6_calls (two3 r) 524288 (decide (in3 524288 (two3 r))) rfl (by decide) (by decide) W)
          obtain ⟨rx, ry, rz⟩ := r
          have he := eqP_no hne
          obtain ⟨i1, i2, i3, i4, i5, i6⟩ := hi
          simp only at i1 i2 i3 i4 i5 i6
          obtain ⟨c0, c1, c2, f0, f1, f2⟩ := h4.out
          simp only at c0 c1 c2
          clear hstop hnf hdt hne h1 h2 h3
          have hC4 := h4.out.set (.int .i64 (2 * rx)) (.int .i64 (2 * ry)) (.int .i64 (2 * rz))
          have hO4 := ((h5.out.setc (p := ⟨T, 0, none⟩) hlt2.out (.int .i64 (2 * rx))).setc (p := ⟨T, 1, none⟩) hlt2.out (.int .i64 (2 * ry))).setc (p := ⟨T, 2, none⟩) hlt2.out (.int .i64 (2 * rz))
          have hB4 := below_set3 h6.out hw2 (.int .i64 (2 * rx)) (.int .i64 (2 * ry)) (.int .i64 (2 * rz))
          have hl4 : T < (set3 wr T (.int .i64 (2 * rx)) (.int .i64 (2 * ry)) (.int .i64 (2 * rz))).heap.size := by unfold set3; simp; exact h7.out
          obtain ⟨wn, hwn⟩ : ∃ wn, set3 wr T (.int .i64 (2 * rx)) (.int .i64 (2 * ry)) (.int .i64 (2 * rz)) = wn := ⟨_, rfl⟩
          rw [hwn] at hC4 hB4 hl4
          unfold set3 at hwn
          rw [hwn] at hO4
          have hC4 := Lh hC4
          have hO4 := Lh hO4
          have hB4 := Lh hB4
          obtain ⟨g0, g1, g2, _, _, _⟩ := hC4.out
          go_wp2_with fail
          refine (hin.out _).mono ?_
          rintro e w7 ⟨rfl, hb⟩
          have hC5 := Lh (hC4.out.below hb)
          have hO5 := Lh (hO4.out.grown hb)
          have hB5 := Lh (hB4.out.trans (hb.mono (by omega)))
          have hl5 := Lh (show T < w7.heap.size by have := hb.size; omega)
          clear hb g0 g1 g2 hwn c0 c1 c2 f0 f1 f2
          go_wp2
          go_roundg (2000000 - size3 (two3 ⟨rx, ry, rz⟩))
          case measure => exact e2.out
          case rel => exact ⟨two3 ⟨rx, ry, rz⟩, Lh rfl, rfl, e3, e4, hC5, hO5, hB5, hl5⟩
    · obtain rfl : k = N := by omega
      rw [List.take_of_length_le (by rw [HN.out]; omega)] at hO
      obtain ⟨A', c', rfl, hlc, hrd, hbs⟩ := hO.out.rdB
      have hz1 := HZ1.out
      have hBw := Lh (HW1.out.trans (hB.out.mono (by omega)))
      go_wp2
      go_ret2
      exact ⟨A', c', rfl, hlc, hrd, hBw.out, fun ad e => Nat.le_trans (Nat.le_succ _) (hbs ad e)⟩
end Go.Proofs.Ytckdhahceelckaa.G
namespace Go.Proofs.Ytckdhahceelckaa.G
open Go.RowKit Go.Proofs.YtckdhahceelckaaW.PrintWords Go.Proofs.YtckdhahceelckaaW.PrintLast Go.Proofs.YtckdhahceelckaaW.PrintMore
attribute [local go_sem] max2_mx min2_mn max_two min_two max_three min_three max_four min_four
attribute [local go_sem high] eqA23
set_option linter.unusedVariables false
set_option linter.unusedSimpArgs false
def down3 (v : P3) : P3 := ⟨v.x / 1048576, v.y / 1048576, v.z / 1048576⟩
def placePt (m : M3) (at_ : P3) (p : P3) : P3 := down3 (addI (turnF m (timesF p 1048576)) at_)
theorem Rd.setc {w : World} {A : Option Addr} {l : List P3} (h : Rd w A l) {g : Nat} (hne : ∀ ad, A = some ad → ad.block ≠ g) (j : Nat) (u : Value) : Rd (w.setCell ⟨g, j, none⟩ u) A l := fun i p hp => by
  obtain ⟨b, o, rfl, hlt, h1, h2, h3⟩ := h i p hp
  have hb : b ≠ g := hne _ rfl
  have q : ∀ k, (w.setCell ⟨g, j, none⟩ u).cell? ⟨b, k, none⟩ = w.cell? ⟨b, k, none⟩ := fun k => World.cell?_of_block (a := ⟨b, k, none⟩) (Below.heap_setCell w ⟨g, j, none⟩ u b hb)
  exact ⟨b, o, rfl, by simpa using hlt, (q _).trans h1, (q _).trans h2, (q _).trans h3⟩
theorem RdB.setc {w : World} {A : Option Addr} {l : List P3} (h : RdB w A l) {g : Nat} (hne : ∀ ad, A = some ad → ad.block ≠ g) (j : Nat) (u : Value) : RdB (w.setCell ⟨g, j, none⟩ u) A l :=
  ⟨h.1.setc hne j u, fun ad e => by simpa using h.2 ad e⟩
theorem times_in2 {p : P3} (h : in3 65536 p) : in3 68719476736 (timesF p 1048576) := by unfold in3 timesF at *; simp only; omega
theorem turn_ok2 {m : M3} {v : P3} (h : mOk m) (hv : in3 68719476736 v) : dotOk m.a v ∧ dotOk m.b v ∧ dotOk m.c v ∧ in3 1030792151040 (turnF m v) := by
  have q : ∀ r : P3, in3 21474836480 r → dotOk r v ∧ -1030792151040 ≤ vdotF r v ∧ vdotF r v ≤ 1030792151040 := fun r hr => by
    have := dotI_in (A := 21474836480) (B := 68719476736) hr hv
    refine ⟨⟨in3_fits hr (by decide), in3_fits hv (by decide), by omega⟩, ?_⟩
    unfold vdotF; omega
  obtain ⟨a1, a2, a3⟩ := q m.a h.1
  obtain ⟨b1, b2, b3⟩ := q m.b h.2.1
  obtain ⟨c1, c2, c3⟩ := q m.c h.2.2
  exact ⟨a1, b1, c1, by unfold in3 turnF; simp only; omega⟩
/-- where a pose may be -/
def atOk (p : P3) : Prop := in3 6597069766656 p
theorem add_in {u v : P3} (hu : in3 1030792151040 u) (hv : atOk v) : fits3 u ∧ fits3 v ∧ fits3 (addI u v) ∧ in3 7696581394432 (addI u v) := by
  obtain ⟨a, b, c, d, e, f⟩ := hu
  obtain ⟨a', b', c', d', e', f'⟩ := hv
  refine ⟨⟨?_, ?_, ?_⟩, ⟨?_, ?_, ?_⟩, ⟨?_, ?_, ?_⟩, ?_⟩ <;> (try unfold G.fits) <;> (try unfold in3) <;> (try unfold addI) <;> (try simp only) <;> omega
theorem down_in {v : P3} (h : in3 7696581394432 v) : in3 8388608 (down3 v) := by unfold in3 down3 at *; simp only; omega
theorem blk40 {w : World} {g : Nat} {a b c d : Value} {t : TypeId} (h : w.heap[g]? = some (.cells #[a, b, c, d] t (0, 0))) (u : Value) : (w.setCell ⟨g, 0, none⟩ u).heap[g]? = some (.cells #[u, b, c, d] t (0, 0)) := by
  have h8 := blk_set h 0 u
  simp only [List.setIfInBounds_toArray, List.set_cons_zero, List.set_cons_succ] at h8
  exact h8
theorem blk41 {w : World} {g : Nat} {a b c d : Value} {t : TypeId} (h : w.heap[g]? = some (.cells #[a, b, c, d] t (0, 0))) (u : Value) : (w.setCell ⟨g, 1, none⟩ u).heap[g]? = some (.cells #[a, u, c, d] t (0, 0)) := by
  have h8 := blk_set h 1 u
  simp only [List.setIfInBounds_toArray, List.set_cons_zero, List.set_cons_succ] at h8
  exact h8
theorem blk42 {w : World} {g : Nat} {a b c d : Value} {t : TypeId} (h : w.heap[g]? = some (.cells #[a, b, c, d] t (0, 0))) (u : Value) : (w.setCell ⟨g, 2, none⟩ u).heap[g]? = some (.cells #[a, b, u, d] t (0, 0)) := by
  have h8 := blk_set h 2 u
  simp only [List.setIfInBounds_toArray, List.set_cons_zero, List.set_cons_succ] at h8
  exact h8
/-- the lists of a core lie from b on -/
def Fresh (b : Nat) (v : Value) : Prop := ∃ A0 A1 A2 n0 n1 n2 c0 c1 c2 x, v = .agg #[.slice A0 n0 c0, .slice A1 n1 c1, .slice A2 n2 c2, x] ∧ (∀ ad, A0 = some ad → b ≤ ad.block) ∧ (∀ ad, A1 = some ad → b ≤ ad.block) ∧ (∀ ad, A2 = some ad → b ≤ ad.block)
theorem Fresh.mono {b b' : Nat} {v : Value} (h : Fresh b v) (hb : b' ≤ b) : Fresh b' v := by
  obtain ⟨A0, A1, A2, n0, n1, n2, c0, c1, c2, x, e, h0, h1, h2⟩ := h
  exact ⟨A0, A1, A2, n0, n1, n2, c0, c1, c2, x, e, fun ad h => Nat.le_trans hb (h0 ad h), fun ad h => Nat.le_trans hb (h1 ad h), fun ad h => Nat.le_trans hb (h2 ad h)⟩
def PlacePostF (b : Nat) (p a e : List P3) (r : Int) (w : World) (en : Ending) (w' : World) : Prop := ∃ v, en = .returned (.tuple #[v, .bool true]) ∧ CoreV w' v p a e r ∧ Below w.heap.size w w' ∧ Fresh b v
set_option maxHeartbeats 8000000 in
set_option maxRecDepth 100000 in
theorem place_in2 (q : P7) (p a e : List P3) (r : Int) (A0 A1 A2 : Option Addr) (c0 c1 c2 : Nat) (w : World) (h0 : RdB w A0 p) (h1 : RdB w A1 a) (h2 : RdB w A2 e) (k0 : p.length ≤ c0) (k1 : a.length ≤ c1) (k2 : e.length ≤ c2)
    (hq : quat q.turn) (m : M3) (hm : rowsF q.turn = m) (hmo : mOk m) (hat : atOk q.at_) (hp0 : 0 < p.length) (hp1 : p.length ≤ 1000) (ha1 : a.length ≤ 1000) (he1 : e.length ≤ 1000)
    (hp : ∀ x ∈ p, in3 65536 x) (ha : ∀ x ∈ a, in3 1048576 x) (he : ∀ x ∈ e, in3 1048576 x) :
    Calls Try.prog 56 #[.agg #[.slice A0 p.length c0, .slice A1 a.length c1, .slice A2 e.length c2, .int .i64 r], .agg (cP7 q)] w (PlacePostF w.heap.size (p.map (placePt m q.at_)) (waysF m a) (waysF m e) r w) := by
  have H0 := Lh h0
  have H1 := Lh h1
  have H2 := Lh h2
  have HMO := Lh hmo
  have HAT := Lh hat
  have HP := Lh hp
  have HROW := Lh (fun (g : Nat) (W : World) (h : Wk W g) => rows_calls g q.turn W h hq)
  rw [hm] at HROW
  have HWA := Lh (fun (g : Nat) (W : World) (h : Wk W g) (hr : Rd W A1 a) => ways6_calls g m a A1 c1 W h hr k1 ha1 ha hmo)
  have HWE := Lh (fun (g : Nat) (W : World) (h : Wk W g) (hr : Rd W A2 e) => ways6_calls g m e A2 c2 W h hr k2 he1 he hmo)
  obtain ⟨⟨ax, ay, az⟩, ⟨tw, tx, ty, tz⟩⟩ := q
  obtain ⟨NP, hNP⟩ : ∃ N, p.length = N := ⟨_, rfl⟩
  obtain ⟨NA, hNA⟩ : ∃ N, a.length = N := ⟨_, rfl⟩
  obtain ⟨NE, hNE⟩ : ∃ N, e.length = N := ⟨_, rfl⟩
  have HNP := Lh hNP
  rw [hNP] at k0 hp0 hp1 ⊢
  rw [hNA] at HWA ⊢
  rw [hNE] at HWE ⊢
  clear h0 h1 h2 hmo hat hp ha he hq hm k1 k2 ha1 he1 hNP hNA hNE
  simp only at HAT HROW
  go_enter Try.func56, Try.ntmps56
  go_wp2_with fail
  obtain ⟨w0, hw0⟩ : ∃ w0, (((w.alloc (.cells #[.slice A0 NP c0, .slice A1 NA c1, .slice A2 NE c2, .int .i64 r] 36)).alloc (.cells #[.int .i64 ax, .int .i64 ay, .int .i64 az, .int .i64 tw, .int .i64 tx, .int .i64 ty, .int .i64 tz] 92)).alloc (.cells #[.slice none 0 0, .slice none 0 0, .slice none 0 0, .int .i64 0] 36)).alloc (.cells #[.bool false] 85) = w0 := ⟨_, rfl⟩
  have C0 : Hid (w0.heap[w.heap.size]? = some (.cells #[.slice A0 NP c0, .slice A1 NA c1, .slice A2 NE c2, .int .i64 r] 36 (0, 0))) := Lh (by rw [← hw0]; exact (Below.heap_alloc _ _ _ (by simp; omega)).trans (three0 _ _ _ _))
  have P0 : Hid (w0.heap[w.heap.size + 1]? = some (.cells #[.int .i64 ax, .int .i64 ay, .int .i64 az, .int .i64 tw, .int .i64 tx, .int .i64 ty, .int .i64 tz] 92 (0, 0))) := Lh (by rw [← hw0]; exact (Below.heap_alloc _ _ _ (by first | (simp; done) | (simp; omega))).trans (three1 _ _ _ _))
  have R0 : Hid (w0.heap[w.heap.size + 1 + 1]? = some (.cells #[.slice none 0 0, .slice none 0 0, .slice none 0 0, .int .i64 0] 36 (0, 0))) := Lh (by rw [← hw0]; exact (Below.heap_alloc _ _ _ (by simp)).trans (three2 _ _ _ _))
  have K0 : Hid (w0.heap[w.heap.size + 1 + 1 + 1]? = some (.cells #[.bool false] 85 (0, 0))) := Lh (by
    rw [← hw0]
    have h := heap_alloc_new (((w.alloc (.cells #[.slice A0 NP c0, .slice A1 NA c1, .slice A2 NE c2, .int .i64 r] 36)).alloc (.cells #[.int .i64 ax, .int .i64 ay, .int .i64 az, .int .i64 tw, .int .i64 tx, .int .i64 ty, .int .i64 tz] 92)).alloc (.cells #[.slice none 0 0, .slice none 0 0, .slice none 0 0, .int .i64 0] 36)) (.cells #[.bool false] 85)
    simp only [World.size_alloc] at h
    exact h)
  have W0 := Lh (show Below w.heap.size w w0 by rw [← hw0]; exact ((((Below.refl _ w).alloc (Nat.le_refl _) _).alloc (by simp) _).alloc (by simp; omega) _).alloc (by simp; omega) _)
  have z0 : w0.heap.size = w.heap.size + 1 + 1 + 1 + 1 := by rw [← hw0]; simp
  have Z0 := Lh z0
  rw [hw0]
  clear hw0
  refine (HROW.out _ w0 (Wk.of K0.out)).mono ?_
  rintro e' w1 ⟨rfl, hb⟩
  obtain ⟨w2, hw2⟩ : ∃ w2, (w1.alloc (.cells #[.int .i64 m.a.x, .int .i64 m.a.y, .int .i64 m.a.z, .int .i64 m.b.x, .int .i64 m.b.y, .int .i64 m.b.z, .int .i64 m.c.x, .int .i64 m.c.y, .int .i64 m.c.z] 138)).alloc (.cells #[.slice none 0 0, .slice none 0 0, .slice none 0 0, .int .i64 r] 36) = w2 := ⟨_, rfl⟩
  have sz1 := hb.size
  have hb2 : Below w0.heap.size w0 w2 := by rw [← hw2]; exact (hb.alloc sz1 _).alloc (by simp; omega) _
  obtain ⟨MB, hMB⟩ : ∃ MB, w1.heap.size = MB := ⟨_, rfl⟩
  have C2 := Lh ((hb2.block _ (by omega)).trans C0.out)
  have P2 := Lh ((hb2.block _ (by omega)).trans P0.out)
  have R2 := Lh ((hb2.block _ (by omega)).trans R0.out)
  have K2 := Lh ((hb2.block _ (by omega)).trans K0.out)
  have W2 := Lh (bthen W0.out hb2)
  have M2 : Hid (Mk w2 MB m) := Lh (by rw [← hw2, ← hMB]; exact (Below.heap_alloc _ _ _ (by simp)).trans (heap_alloc_new w1 _))
  have O2 : Hid (w2.heap[MB + 1]? = some (.cells #[.slice none 0 0, .slice none 0 0, .slice none 0 0, .int .i64 r] 36 (0, 0))) := Lh (by
    rw [← hw2, ← hMB]
    have h := heap_alloc_new (w1.alloc (.cells #[.int .i64 m.a.x, .int .i64 m.a.y, .int .i64 m.a.z, .int .i64 m.b.x, .int .i64 m.b.y, .int .i64 m.b.z, .int .i64 m.c.x, .int .i64 m.c.y, .int .i64 m.c.z] 138)) (.cells #[.slice none 0 0, .slice none 0 0, .slice none 0 0, .int .i64 r] 36)
    rw [World.size_alloc] at h
    exact h)
  have z2 : w2.heap.size = MB + 1 + 1 := by rw [← hw2, ← hMB]; simp
  have lMB : w.heap.size + 1 + 1 + 1 < MB := by omega
  have Z2 := Lh z2
  have cc : w1.cell? ⟨w.heap.size, 3, none⟩ = some (.int .i64 r) := (blk_cell ((hb.block _ (by omega)).trans C0.out) 3).trans rfl
  have lt1 : w.heap.size < w1.heap.size := by omega
  have lt2 : w.heap.size < MB := by omega
  have hMB' := Lh hMB
  clear hb sz1 hb2 z2 z0 C0 P0 R0 K0 W0
  go_wp2_with fail
  clear cc lt1 lt2 hMB' hw2 hMB
  obtain ⟨OUT, hOUT⟩ : ∃ OUT, MB + 1 = OUT := ⟨_, rfl⟩
  have HOUT := Lh hOUT
  have zz : w2.heap.size = OUT + 1 := by have := Z2.out; omega
  rw [hOUT] at O2
  (try rw [hOUT])
  have ZZ := Lh zz
  have lO : MB < OUT := by omega
  clear zz hOUT
  have W2B := W2
  go_loopw [9, 10, 11, 12, 13] (fun v9 v10 v11 v12 v13 wr => ∃ (k : Nat) (vp : Value), k ≤ NP ∧ v9 = .int .i64 k ∧ Hid (OwnP wr (OUT + 1) vp ((p.map (placePt m ⟨ax, ay, az⟩)).take k)) ∧ Hid (wr.heap[OUT]? = some (.cells #[vp, .slice none 0 0, .slice none 0 0, .int .i64 r] 36 (0, 0))) ∧ Hid (Below OUT w2 wr)) (fun i _ _ _ _ _ => NP - (intOf i).toNat)
  case atStart => exact ⟨0, .slice none 0 0, by omega, rfl, Lh (OwnP.nil _ _), O2, Lh (Below.refl _ _)⟩
  case round =>
    obtain ⟨k, vp, hk, rfl, hO, hT, hB⟩ := hrel
    have zz := ZZ.out
    have hBw : Below w.heap.size w wr := W2.out.trans (hB.out.mono (by omega))
    have lOr : OUT < wr.heap.size := blk_lt hT.out
    have C3 := Lh ((hB.out.block _ (show w.heap.size < OUT by omega)).trans C2.out)
    have cq0 : wr.cell? ⟨w.heap.size, 0, none⟩ = some (.slice A0 NP c0) := (blk_cell C3.out 0).trans rfl
    by_cases hlt : k < NP
    · have hkl : k < p.length := by rw [HNP.out]; exact hlt
      obtain ⟨bp, op, rfl, lb, e0, e1, e2⟩ := (H0.out.1.below hBw).get k hkl
      have lbw : bp < w.heap.size := H0.out.2 _ rfl
      have hpp := HP.out _ (List.getElem_mem hkl)
      have hTK : (p.map (placePt m ⟨ax, ay, az⟩)).take (k + 1) = (p.map (placePt m ⟨ax, ay, az⟩)).take k ++ [placePt m ⟨ax, ay, az⟩ p[k]] := by
        rw [List.take_succ_eq_append_getElem (by rw [List.length_map]; exact hkl), List.getElem_map]
      obtain ⟨p1, hpe⟩ : ∃ p1, p[k] = p1 := ⟨_, rfl⟩
      rw [hpe] at e0 e1 e2 hpp hTK
      have HRD : Hid (∀ W, Below w.heap.size w W → W.cell? ⟨bp, op + k * 3, none⟩ = some (.int .i64 p1.x) ∧ W.cell? ⟨bp, op + k * 3 + 1, none⟩ = some (.int .i64 p1.y) ∧ W.cell? ⟨bp, op + k * 3 + 2, none⟩ = some (.int .i64 p1.z)) := Lh (fun W hW => by
        obtain ⟨b', o', e', _, h0, h1, h2⟩ := (H0.out.1.below hW).get k hkl
        simp only [Option.some.injEq, Addr.mk.injEq, and_true] at e'
        obtain ⟨rfl, rfl⟩ := e'
        rw [hpe] at h0 h1 h2
        exact ⟨h0, h1, h2⟩)
      obtain ⟨px, py, pz⟩ := p1
      simp only at e0 e1 e2 HRD
      have hTK := Lh hTK
      obtain ⟨ok, hok⟩ : ∃ ok, (p.map (placePt m ⟨ax, ay, az⟩)).take k = ok := ⟨_, rfl⟩
      have hlen : ok.length ≤ 1000 := by rw [← hok]; have := List.length_take_le k (p.map (placePt m ⟨ax, ay, az⟩)); omega
      rw [hok] at hO hTK
      have hp20 : in3 1048576 ⟨px, py, pz⟩ := in3_le (by decide) hpp
      have hIN := Lh (fun W => in6_calls ⟨px, py, pz⟩ 1048576 true (by simpa using hp20) (by decide) (by decide) W)
      have hT4 := Lh (fun W => times6_calls ⟨px, py, pz⟩ 1048576 hp20 (by decide) (by decide) W)
      have hti := times_in2 hpp
      have hPP : Hid (placePt m ⟨ax, ay, az⟩ ⟨px, py, pz⟩ = down3 (addI (turnF m (timesF ⟨px, py, pz⟩ 1048576)) ⟨ax, ay, az⟩)) := Lh rfl
      obtain ⟨V, hV⟩ : ∃ V, timesF ⟨px, py, pz⟩ 1048576 = V := ⟨_, rfl⟩
      rw [hV] at hT4 hti hPP
      obtain ⟨t1, t2, t3, t4⟩ := turn_ok2 HMO.out hti
      have hU := Lh (fun (g : Nat) W (h : Wk W g) => turn_calls g m V W h t1 t2 t3)
      obtain ⟨U, hUe⟩ : ∃ U, turnF m V = U := ⟨_, rfl⟩
      rw [hUe] at hU t4 hPP
      obtain ⟨s1, s2, s3, s4⟩ := add_in t4 HAT.out
      have hS := Lh (fun (g : Nat) W (h : Wk W g) => vadd_calls g U ⟨ax, ay, az⟩ W h s1 s2 s3)
      obtain ⟨S, hSe⟩ : ∃ S, addI U ⟨ax, ay, az⟩ = S := ⟨_, rfl⟩
      rw [hSe] at hS s4 hPP
      have hdi := down_in s4
      obtain ⟨sx, sy, sz⟩ := S
      obtain ⟨b1, b2, b3, b4, b5, b6⟩ := s4
      simp only at b1 b2 b3 b4 b5 b6
      have hdx := Lh (fun W => down6_calls sx (by omega) (by omega) W)
      have hdy := Lh (fun W => down6_calls sy (by omega) (by omega) W)
      have hdz := Lh (fun W => down6_calls sz (by omega) (by omega) W)
      have hPP' : Hid (placePt m ⟨ax, ay, az⟩ ⟨px, py, pz⟩ = ⟨sx / 1048576, sy / 1048576, sz / 1048576⟩) := Lh hPP.out
      have hIN2 := Lh (fun W => in6_calls (down3 ⟨sx, sy, sz⟩) 8388608 true (by simpa using hdi) (by decide) (by decide) W)
      have hIN2 : Hid (∀ W, Calls Try.prog 109 #[aP ⟨sx / 1048576, sy / 1048576, sz / 1048576⟩, .int .i64 8388608] W fun e w' => e = .returned (.bool true) ∧ Below W.heap.size W w') := hIN2
      obtain ⟨dx, hdx'⟩ : ∃ d, sx / 1048576 = d := ⟨_, rfl⟩
      obtain ⟨dy, hdy'⟩ : ∃ d, sy / 1048576 = d := ⟨_, rfl⟩
      obtain ⟨dz, hdz'⟩ : ∃ d, sz / 1048576 = d := ⟨_, rfl⟩
      rw [hdx'] at hdx hIN2 hPP'
      rw [hdy'] at hdy hIN2 hPP'
      rw [hdz'] at hdz hIN2 hPP'
      rw [hPP'.out] at hTK
      clear hdi hdx' hdy' hdz' b1 b2 b3 b4 b5 b6 s1 s2 s3 t1 t2 t3 t4 hti hV hUe hSe hPP hPP' hpe hok hpp hp20
      have HBw := Lh hBw
      have hlO := Lh lOr
      obtain ⟨wo, hwo⟩ : ∃ wo : World, wo = wr := ⟨_, rfl⟩
      subst hwo
      go_wp2_with fail
      refine (hIN.out _).mono ?_
      rintro e' w3 ⟨rfl, hb⟩
      have hO3 := Lh (hO.out.grown hb)
      have hT3 := Lh ((hb.block _ lOr).trans hT.out)
      have hB3 := Lh (hB.out.trans (hb.mono (Nat.le_of_lt lOr)))
      have hBw3 := Lh (bthen HBw.out hb)
      have lO3 : OUT < w3.heap.size := blk_lt hT3.out
      clear e0 e1 e2 cq0 hO hT hB HBw hb hBw lb hlO lOr C3
      obtain ⟨e0, e1, e2⟩ := HRD.out _ hBw3.out
      have C4 := Lh ((hB3.out.block _ (show w.heap.size < OUT by omega)).trans C2.out)
      have P4 := Lh ((hB3.out.block _ (show w.heap.size + 1 < OUT by omega)).trans P2.out)
      have K4 := Lh ((hB3.out.block _ (show w.heap.size + 1 + 1 + 1 < OUT by omega)).trans K2.out)
      have M4 : Hid (Mk w3 MB m) := Lh ((hB3.out.block _ lO).trans M2.out)
      have cq0 : w3.cell? ⟨w.heap.size, 0, none⟩ = some (.slice (some ⟨bp, op, none⟩) NP c0) := (blk_cell C4.out 0).trans rfl
      have q0 : w3.cell? ⟨w.heap.size + 1, 0, none⟩ = some (.int .i64 ax) := (blk_cell P4.out 0).trans rfl
      have q1 : w3.cell? ⟨w.heap.size + 1, 1, none⟩ = some (.int .i64 ay) := (blk_cell P4.out 1).trans rfl
      have q2 : w3.cell? ⟨w.heap.size + 1, 2, none⟩ = some (.int .i64 az) := (blk_cell P4.out 2).trans rfl
      obtain ⟨x0, x1, x2, x3, x4, x5, x6, x7, x8⟩ := M4.out.all
      have l1 : w.heap.size < w3.heap.size := by omega
      have l2 : w.heap.size + 1 < w3.heap.size := by omega
      have l3 : w.heap.size + 1 + 1 + 1 < w3.heap.size := by omega
      have l4 : MB < w3.heap.size := by omega
      have l5 : bp < w3.heap.size := by omega
      have hki : (k : Int) < (NP : Int) := by omega
      clear zz
      go_wp2_with fail
      have HB := Lh ((Below.refl (w3.heap.size) w3).drew)
      have FF := Lh (show ∀ V, Hid (Below (w3.heap.size) w3 V) → V.cell? ⟨MB, 0, none⟩ = some (.int .i64 m.a.x) ∧ V.cell? ⟨MB, 1, none⟩ = some (.int .i64 m.a.y) ∧ V.cell? ⟨MB, 2, none⟩ = some (.int .i64 m.a.z) ∧ V.cell? ⟨MB, 3, none⟩ = some (.int .i64 m.b.x) ∧ V.cell? ⟨MB, 4, none⟩ = some (.int .i64 m.b.y) ∧ V.cell? ⟨MB, 5, none⟩ = some (.int .i64 m.b.z) ∧ V.cell? ⟨MB, 6, none⟩ = some (.int .i64 m.c.x) ∧ V.cell? ⟨MB, 7, none⟩ = some (.int .i64 m.c.y) ∧ V.cell? ⟨MB, 8, none⟩ = some (.int .i64 m.c.z) ∧ V.cell? ⟨w.heap.size, 0, none⟩ = some (.slice (some ⟨bp, op, none⟩) NP c0) ∧ V.cell? ⟨bp, op + k * 3, none⟩ = some (.int .i64 px) ∧ V.cell? ⟨bp, op + k * 3 + 1, none⟩ = some (.int .i64 py) ∧ V.cell? ⟨bp, op + k * 3 + 2, none⟩ = some (.int .i64 pz) ∧ V.cell? ⟨w.heap.size + 1, 0, none⟩ = some (.int .i64 ax) ∧ V.cell? ⟨w.heap.size + 1, 1, none⟩ = some (.int .i64 ay) ∧ V.cell? ⟨w.heap.size + 1, 2, none⟩ = some (.int .i64 az) from fun V HB => ⟨(HB.out.cell (p := ⟨MB, 0, none⟩) (l4)).trans x0, (HB.out.cell (p := ⟨MB, 1, none⟩) (l4)).trans x1, (HB.out.cell (p := ⟨MB, 2, none⟩) (l4)).trans x2, (HB.out.cell (p := ⟨MB, 3, none⟩) (l4)).trans x3, (HB.out.cell (p := ⟨MB, 4, none⟩) (l4)).trans x4, (HB.out.cell (p := ⟨MB, 5, none⟩) (l4)).trans x5, (HB.out.cell (p := ⟨MB, 6, none⟩) (l4)).trans x6, (HB.out.cell (p := ⟨MB, 7, none⟩) (l4)).trans x7, (HB.out.cell (p := ⟨MB, 8, none⟩) (l4)).trans x8, (HB.out.cell (p := ⟨w.heap.size, 0, none⟩) (l1)).trans cq0, (HB.out.cell (p := ⟨bp, op + k * 3, none⟩) (l5)).trans e0, (HB.out.cell (p := ⟨bp, op + k * 3 + 1, none⟩) (l5)).trans e1, (HB.out.cell (p := ⟨bp, op + k * 3 + 2, none⟩) (l5)).trans e2, (HB.out.cell (p := ⟨w.heap.size + 1, 0, none⟩) (l2)).trans q0, (HB.out.cell (p := ⟨w.heap.size + 1, 1, none⟩) (l2)).trans q1, (HB.out.cell (p := ⟨w.heap.size + 1, 2, none⟩) (l2)).trans q2⟩)
      refine start_ (n := 15) (S := fun w' => w'.cell? ⟨MB, 0, none⟩ = some (.int .i64 m.a.x) ∧ w'.cell? ⟨MB, 1, none⟩ = some (.int .i64 m.a.y) ∧ w'.cell? ⟨MB, 2, none⟩ = some (.int .i64 m.a.z) ∧ w'.cell? ⟨MB, 3, none⟩ = some (.int .i64 m.b.x) ∧ w'.cell? ⟨MB, 4, none⟩ = some (.int .i64 m.b.y) ∧ w'.cell? ⟨MB, 5, none⟩ = some (.int .i64 m.b.z) ∧ w'.cell? ⟨MB, 6, none⟩ = some (.int .i64 m.c.x) ∧ w'.cell? ⟨MB, 7, none⟩ = some (.int .i64 m.c.y) ∧ w'.cell? ⟨MB, 8, none⟩ = some (.int .i64 m.c.z) ∧ w'.cell? ⟨w.heap.size, 0, none⟩ = some (.slice (some ⟨bp, op, none⟩) NP c0) ∧ w'.cell? ⟨bp, op + k * 3, none⟩ = some (.int .i64 px) ∧ w'.cell? ⟨bp, op + k * 3 + 1, none⟩ = some (.int .i64 py) ∧ w'.cell? ⟨bp, op + k * 3 + 2, none⟩ = some (.int .i64 pz) ∧ w'.cell? ⟨w.heap.size + 1, 0, none⟩ = some (.int .i64 ax) ∧ w'.cell? ⟨w.heap.size + 1, 1, none⟩ = some (.int .i64 ay) ∧ w'.cell? ⟨w.heap.size + 1, 2, none⟩ = some (.int .i64 az)) (ds := []) (MT 0 15) (by kernel_rfl) rfl rfl (FF.out _ HB) (fun hHeld => ?_)
      obtain ⟨wd, hwd⟩ : ∃ x, w3.drew = x := ⟨_, rfl⟩
      rw [hwd] at HB hHeld ⊢
      clear hwd
      refine pu_ 0 43 (h := ?_)
      refine pu_ 1 44 (h := ?_)
      refine pu_ 3 46 (h := ?_)
      refine pu_ 5 48 (h := ?_)
      refine pu_ 10 53 (h := ?_)
      refine ta_ 2 45 hHeld (h := ?_)
      refine ta_ 4 47 hHeld (h := ?_)
      refine pu_ 6 49 (h := ?_)
      refine ta_ 7 50 hHeld (h := ?_)
      refine ta_ 11 54 hHeld (h := ?_)
      refine join_ (σ := Nat) 1 (MT 14 1) (fun s => [(11, .pointer (some ⟨s, 0, none⟩)), (51, aP V), (52, aP U), (55, aP ⟨sx, sy, sz⟩)]) (fun s w' => w3.heap.size ≤ s ∧ w'.heap[s]? = some (.cells #[.int .i64 0, .int .i64 0, .int .i64 0] 27 (0, 0)) ∧ Below (w3.heap.size) w3 w') ?_ ?_
      rotate_left
      · intro hCont
        refine two_ (i := 8) (j := 13) (Ni := some 51) (Nj := some 11) #[true, true, true, true, true, true, true, true, true, false, true, true, false, false, false] #[true, true, true, true, true, true, true, true, false, false, true, true, false, true, false] rfl rfl rfl rfl (by kernel_rfl) (by decide) (by decide) (fun K hK => ?_) (fun K hK => ?_)
        · skip
          refine gs_ Try.func112 #[aP ⟨px, py, pz⟩, .int .i64 1048576] ?_
          with_reducible refine (hT4.out _).mono ?_
          rintro e' w4 ⟨rfl, hb⟩
          have HB := Lh (HB.out.trans (hb.mono HB.out.size))
          clear hb
          refine ⟨_, rfl, ?_⟩
          refine hK.out _ _ (FF.out _ HB) (fun hHeld => ?_)
          clear hK K
          refine no_ (h := ?_)
          refine two_ (i := 9) (j := 13) (Ni := some 52) (Nj := some 11) (MT 12 3) #[true, true, true, true, true, true, true, true, true, false, true, true, false, true, false] rfl rfl rfl rfl (by kernel_rfl) (by decide) (by decide) (fun K hK => ?_) (fun K hK => ?_)
          · skip
            refine gs_ Try.func111 #[.pointer (some ⟨w.heap.size + 1 + 1 + 1, 0, none⟩), aM m, aP V] ?_
            with_reducible refine (hU.out _ _ (Wk.of ((HB.out.block _ l3).trans K4.out))).mono ?_
            rintro e' w4 ⟨rfl, hb⟩
            have HB := Lh (HB.out.trans (hb.mono HB.out.size))
            clear hb
            refine ⟨_, rfl, ?_⟩
            refine hK.out _ _ (FF.out _ HB) (fun hHeld => ?_)
            clear hK K
            refine no_ (h := ?_)
            refine two_ (i := 12) (j := 13) (Ni := some 55) (Nj := some 11) (MT 13 2) #[true, true, true, true, true, true, true, true, true, true, true, true, false, true, false] rfl rfl rfl rfl (by kernel_rfl) (by decide) (by decide) (fun K hK => ?_) (fun K hK => ?_)
            · skip
              refine gs_ Try.func110 #[.pointer (some ⟨w.heap.size + 1 + 1 + 1, 0, none⟩), aP U, aP ⟨ax, ay, az⟩] ?_
              with_reducible refine (hS.out _ _ (Wk.of ((HB.out.block _ l3).trans K4.out))).mono ?_
              rintro e' w4 ⟨rfl, hb⟩
              have HB := Lh (HB.out.trans (hb.mono HB.out.size))
              clear hb
              refine ⟨_, rfl, ?_⟩
              refine hK.out _ _ (FF.out _ HB) (fun hHeld => ?_)
              clear hK K
              refine no_ (h := ?_)
              refine on_ 13 (some 11) (h := fun K hK => ?_)
              refine value_ (w1 := ?_) (v := ?_) (by rfl) rfl ?_ ?_
              rotate_left 2
              · go_simp
                constructor
                · rfl
                · rfl
              have HA := Lh (ha_new HB.out (.cells #[.int .i64 0, .int .i64 0, .int .i64 0] 27))
              have hge := HB.out.size
              have HB := Lh (HB.out.alloc (Nat.le_trans (Nat.le_refl _) HB.out.size) (.cells #[.int .i64 0, .int .i64 0, .int .i64 0] 27))
              refine hK.out _ _ (FF.out _ HB) (fun hHeld => ?_)
              clear hK K
              refine no_ (h := ?_)
              exact norm_ (by simp only [putAll, Act.put, List.setIfInBounds_toArray, List.set_cons_zero, List.set_cons_succ]) (hCont _ _ ⟨hge, HA.out, HB.out⟩)
            · skip
              refine value_ (w1 := ?_) (v := ?_) (by rfl) rfl ?_ ?_
              rotate_left 2
              · go_simp
                constructor
                · rfl
                · rfl
              have HA := Lh (ha_new HB.out (.cells #[.int .i64 0, .int .i64 0, .int .i64 0] 27))
              have hge := HB.out.size
              have HB := Lh (HB.out.alloc (Nat.le_trans (Nat.le_refl _) HB.out.size) (.cells #[.int .i64 0, .int .i64 0, .int .i64 0] 27))
              refine hK.out _ _ (FF.out _ HB) (fun hHeld => ?_)
              clear hK K
              refine no_ (h := ?_)
              refine on_ 12 (some 55) (h := fun K hK => ?_)
              refine gs_ Try.func110 #[.pointer (some ⟨w.heap.size + 1 + 1 + 1, 0, none⟩), aP U, aP ⟨ax, ay, az⟩] ?_
              with_reducible refine (hS.out _ _ (Wk.of ((HB.out.block _ l3).trans K4.out))).mono ?_
              rintro e' w4 ⟨rfl, hb⟩
              have HB := Lh (HB.out.trans (hb.mono HB.out.size))
              have HA := Lh ((hb.block _ (blk_lt HA.out)).trans HA.out)
              clear hb
              refine ⟨_, rfl, ?_⟩
              refine hK.out _ _ (FF.out _ HB) (fun hHeld => ?_)
              clear hK K
              refine no_ (h := ?_)
              exact norm_ (by simp only [putAll, Act.put, List.setIfInBounds_toArray, List.set_cons_zero, List.set_cons_succ]) (hCont _ _ ⟨hge, HA.out, HB.out⟩)
          · skip
            refine value_ (w1 := ?_) (v := ?_) (by rfl) rfl ?_ ?_
            rotate_left 2
            · go_simp
              constructor
              · rfl
              · rfl
            have HA := Lh (ha_new HB.out (.cells #[.int .i64 0, .int .i64 0, .int .i64 0] 27))
            have hge := HB.out.size
            have HB := Lh (HB.out.alloc (Nat.le_trans (Nat.le_refl _) HB.out.size) (.cells #[.int .i64 0, .int .i64 0, .int .i64 0] 27))
            refine hK.out _ _ (FF.out _ HB) (fun hHeld => ?_)
            clear hK K
            refine no_ (h := ?_)
            refine on_ 9 (some 52) (h := fun K hK => ?_)
            refine gs_ Try.func111 #[.pointer (some ⟨w.heap.size + 1 + 1 + 1, 0, none⟩), aM m, aP V] ?_
            with_reducible refine (hU.out _ _ (Wk.of ((HB.out.block _ l3).trans K4.out))).mono ?_
            rintro e' w4 ⟨rfl, hb⟩
            have HB := Lh (HB.out.trans (hb.mono HB.out.size))
            have HA := Lh ((hb.block _ (blk_lt HA.out)).trans HA.out)
            clear hb
            refine ⟨_, rfl, ?_⟩
            refine hK.out _ _ (FF.out _ HB) (fun hHeld => ?_)
            clear hK K
            refine no_ (h := ?_)
            refine on_ 12 (some 55) (h := fun K hK => ?_)
            refine gs_ Try.func110 #[.pointer (some ⟨w.heap.size + 1 + 1 + 1, 0, none⟩), aP U, aP ⟨ax, ay, az⟩] ?_
            with_reducible refine (hS.out _ _ (Wk.of ((HB.out.block _ l3).trans K4.out))).mono ?_
            rintro e' w4 ⟨rfl, hb⟩
            have HB := Lh (HB.out.trans (hb.mono HB.out.size))
            have HA := Lh ((hb.block _ (blk_lt HA.out)).trans HA.out)
            clear hb
            refine ⟨_, rfl, ?_⟩
            refine hK.out _ _ (FF.out _ HB) (fun hHeld => ?_)
            clear hK K
            refine no_ (h := ?_)
            exact norm_ (by simp only [putAll, Act.put, List.setIfInBounds_toArray, List.set_cons_zero, List.set_cons_succ]) (hCont _ _ ⟨hge, HA.out, HB.out⟩)
        · skip
          refine value_ (w1 := ?_) (v := ?_) (by rfl) rfl ?_ ?_
          rotate_left 2
          · go_simp
            constructor
            · rfl
            · rfl
          have HA := Lh (ha_new HB.out (.cells #[.int .i64 0, .int .i64 0, .int .i64 0] 27))
          have hge := HB.out.size
          have HB := Lh (HB.out.alloc (Nat.le_trans (Nat.le_refl _) HB.out.size) (.cells #[.int .i64 0, .int .i64 0, .int .i64 0] 27))
          refine hK.out _ _ (FF.out _ HB) (fun hHeld => ?_)
          clear hK K
          refine no_ (h := ?_)
          refine on_ 8 (some 51) (h := fun K hK => ?_)
          refine gs_ Try.func112 #[aP ⟨px, py, pz⟩, .int .i64 1048576] ?_
          with_reducible refine (hT4.out _).mono ?_
          rintro e' w4 ⟨rfl, hb⟩
          have HB := Lh (HB.out.trans (hb.mono HB.out.size))
          have HA := Lh ((hb.block _ (blk_lt HA.out)).trans HA.out)
          clear hb
          refine ⟨_, rfl, ?_⟩
          refine hK.out _ _ (FF.out _ HB) (fun hHeld => ?_)
          clear hK K
          refine no_ (h := ?_)
          refine on_ 9 (some 52) (h := fun K hK => ?_)
          refine gs_ Try.func111 #[.pointer (some ⟨w.heap.size + 1 + 1 + 1, 0, none⟩), aM m, aP V] ?_
          with_reducible refine (hU.out _ _ (Wk.of ((HB.out.block _ l3).trans K4.out))).mono ?_
          rintro e' w4 ⟨rfl, hb⟩
          have HB := Lh (HB.out.trans (hb.mono HB.out.size))
          have HA := Lh ((hb.block _ (blk_lt HA.out)).trans HA.out)
          clear hb
          refine ⟨_, rfl, ?_⟩
          refine hK.out _ _ (FF.out _ HB) (fun hHeld => ?_)
          clear hK K
          refine no_ (h := ?_)
          refine on_ 12 (some 55) (h := fun K hK => ?_)
          refine gs_ Try.func110 #[.pointer (some ⟨w.heap.size + 1 + 1 + 1, 0, none⟩), aP U, aP ⟨ax, ay, az⟩] ?_
          with_reducible refine (hS.out _ _ (Wk.of ((HB.out.block _ l3).trans K4.out))).mono ?_
          rintro e' w4 ⟨rfl, hb⟩
          have HB := Lh (HB.out.trans (hb.mono HB.out.size))
          have HA := Lh ((hb.block _ (blk_lt HA.out)).trans HA.out)
          clear hb
          refine ⟨_, rfl, ?_⟩
          refine hK.out _ _ (FF.out _ HB) (fun hHeld => ?_)
          clear hK K
          refine no_ (h := ?_)
          exact norm_ (by simp only [putAll, Act.put, List.setIfInBounds_toArray, List.set_cons_zero, List.set_cons_succ]) (hCont _ _ ⟨hge, HA.out, HB.out⟩)
      rintro AC wj ⟨hge, HA, HB⟩
      have HA := Lh HA
      have HB := Lh HB
      have hHeld := FF.out _ HB
      refine no_ (h := ?_)
      refine on_ 14 (none) (h := fun K hK => ?_)
      have sc0 : World.cell? _ ⟨AC, 0, none⟩ = some (.int .i64 0) := (blk_cell HA.out 0).trans rfl
      have sf0 := blk_frozen HA.out 0
      have sc1 : World.cell? _ ⟨AC, 1, none⟩ = some (.int .i64 0) := (blk_cell HA.out 1).trans rfl
      have sf1 := blk_frozen HA.out 1
      have sc2 : World.cell? _ ⟨AC, 2, none⟩ = some (.int .i64 0) := (blk_cell HA.out 2).trans rfl
      have sf2 := blk_frozen HA.out 2
      refine skip_ (w1 := ?_) (by rfl) rfl ?_ ?_
      rotate_left
      · go_simp
        rfl
      have HA := Lh (bs3 HA.out (.int .i64 sx) (.int .i64 sy) (.int .i64 sz))
      have HB := Lh (bb3 HB.out (Nat.le_trans (Nat.le_refl _) hge) (.int .i64 sx) (.int .i64 sy) (.int .i64 sz))
      clear sc0 sf0 sc1 sf1 sc2 sf2
      refine hK.out _ _ (FF.out _ HB) (fun hHeld => ?_)
      clear hK K
      refine done_ (by kernel_rfl) ?_
      obtain ⟨w5, hwn⟩ : ∃ V, (((wj.setCell ⟨AC, 0, none⟩ (.int .i64 sx)).setCell ⟨AC, 1, none⟩ (.int .i64 sy)).setCell ⟨AC, 2, none⟩ (.int .i64 sz)) = V := ⟨_, rfl⟩
      rw [hwn] at HA HB ⊢
      clear hwn
      have hO5 := Lh (hO3.out.grown HB.out)
      have hT5 := Lh ((HB.out.block _ lO3).trans hT3.out)
      have hB5 := Lh (hB3.out.trans (HB.out.mono (Nat.le_of_lt lO3)))
      have hBw5 := Lh (hBw3.out.trans (HB.out.mono (Nat.le_of_lt l1)))
      have lO5 : OUT < w5.heap.size := blk_lt hT5.out
      have lA5 : AC < w5.heap.size := blk_lt HA.out
      have s0 : w5.cell? ⟨AC, 0, none⟩ = some (.int .i64 sx) := (blk_cell HA.out 0).trans rfl
      have s1 : w5.cell? ⟨AC, 1, none⟩ = some (.int .i64 sy) := (blk_cell HA.out 1).trans rfl
      have s2 : w5.cell? ⟨AC, 2, none⟩ = some (.int .i64 sz) := (blk_cell HA.out 2).trans rfl
      clear hHeld HB HA hge x0 x1 x2 x3 x4 x5 x6 x7 x8 q0 q1 q2 e0 e1 e2 cq0 C4 P4 K4 M4 l1 l2 l3 l4 l5 hO3 hT3 hB3 hBw3 lO3
      go_wp2_with fail
      have HB := Lh ((Below.refl (w5.heap.size) w5).drew)
      have FF := Lh (show ∀ V, Hid (Below (w5.heap.size) w5 V) → V.cell? ⟨AC, 0, none⟩ = some (.int .i64 sx) ∧ V.cell? ⟨AC, 1, none⟩ = some (.int .i64 sy) ∧ V.cell? ⟨AC, 2, none⟩ = some (.int .i64 sz) from fun V HB => ⟨(HB.out.cell (p := ⟨AC, 0, none⟩) (lA5)).trans s0, (HB.out.cell (p := ⟨AC, 1, none⟩) (lA5)).trans s1, (HB.out.cell (p := ⟨AC, 2, none⟩) (lA5)).trans s2⟩)
      refine start_ (n := 12) (S := fun w' => w'.cell? ⟨AC, 0, none⟩ = some (.int .i64 sx) ∧ w'.cell? ⟨AC, 1, none⟩ = some (.int .i64 sy) ∧ w'.cell? ⟨AC, 2, none⟩ = some (.int .i64 sz)) (ds := []) (MT 0 12) (by kernel_rfl) rfl rfl (FF.out _ HB) (fun hHeld => ?_)
      obtain ⟨wd, hwd⟩ : ∃ x, w5.drew = x := ⟨_, rfl⟩
      rw [hwd] at HB hHeld ⊢
      clear hwd
      refine pu_ 0 56 (h := ?_)
      refine pu_ 3 59 (h := ?_)
      refine pu_ 6 62 (h := ?_)
      refine ta_ 1 57 hHeld (h := ?_)
      refine ta_ 4 60 hHeld (h := ?_)
      refine ta_ 7 63 hHeld (h := ?_)
      refine join_ (σ := Nat) 1 (MT 11 1) (fun s => [(12, .pointer (some ⟨s, 0, none⟩)), (58, .int .i64 dx), (61, .int .i64 dy), (64, .int .i64 dz), (65, aP ⟨dx, dy, dz⟩)]) (fun s w' => w5.heap.size ≤ s ∧ w'.heap[s]? = some (.cells #[.int .i64 0, .int .i64 0, .int .i64 0] 23 (0, 0)) ∧ Below (w5.heap.size) w5 w') ?_ ?_
      rotate_left
      · intro hCont
        refine two_ (i := 2) (j := 10) (Ni := some 58) (Nj := some 12) #[true, true, true, true, true, false, true, true, false, false, false, false] #[true, true, false, true, true, false, true, true, false, false, true, false] rfl rfl rfl rfl (by kernel_rfl) (by decide) (by decide) (fun K hK => ?_) (fun K hK => ?_)
        · skip
          refine gs_ Try.func113 #[.int .i64 sx] ?_
          with_reducible refine (hdx.out _).mono ?_
          rintro e' w6 ⟨rfl, rfl⟩
          refine ⟨_, rfl, ?_⟩
          refine hK.out _ _ (FF.out _ HB) (fun hHeld => ?_)
          clear hK K
          refine no_ (h := ?_)
          refine two_ (i := 5) (j := 10) (Ni := some 61) (Nj := some 12) (MT 8 4) #[true, true, true, true, true, false, true, true, false, false, true, false] rfl rfl rfl rfl (by kernel_rfl) (by decide) (by decide) (fun K hK => ?_) (fun K hK => ?_)
          · skip
            refine gs_ Try.func113 #[.int .i64 sy] ?_
            with_reducible refine (hdy.out _).mono ?_
            rintro e' w6 ⟨rfl, rfl⟩
            refine ⟨_, rfl, ?_⟩
            refine hK.out _ _ (FF.out _ HB) (fun hHeld => ?_)
            clear hK K
            refine no_ (h := ?_)
            refine two_ (i := 8) (j := 10) (Ni := some 64) (Nj := some 12) (MT 9 3) #[true, true, true, true, true, true, true, true, false, false, true, false] rfl rfl rfl rfl (by kernel_rfl) (by decide) (by decide) (fun K hK => ?_) (fun K hK => ?_)
            · skip
              refine gs_ Try.func113 #[.int .i64 sz] ?_
              with_reducible refine (hdz.out _).mono ?_
              rintro e' w6 ⟨rfl, rfl⟩
              refine ⟨_, rfl, ?_⟩
              refine hK.out _ _ (FF.out _ HB) (fun hHeld => ?_)
              clear hK K
              refine no_ (h := ?_)
              refine pu_ 9 65 (h := ?_)
              refine on_ 10 (some 12) (h := fun K hK => ?_)
              refine value_ (w1 := ?_) (v := ?_) (by rfl) rfl ?_ ?_
              rotate_left 2
              · go_simp
                constructor
                · rfl
                · rfl
              have HA := Lh (ha_new HB.out (.cells #[.int .i64 0, .int .i64 0, .int .i64 0] 23))
              have hge := HB.out.size
              have HB := Lh (HB.out.alloc (Nat.le_trans (Nat.le_refl _) HB.out.size) (.cells #[.int .i64 0, .int .i64 0, .int .i64 0] 23))
              refine hK.out _ _ (FF.out _ HB) (fun hHeld => ?_)
              clear hK K
              refine no_ (h := ?_)
              exact norm_ (by simp only [putAll, Act.put, List.setIfInBounds_toArray, List.set_cons_zero, List.set_cons_succ]) (hCont _ _ ⟨hge, HA.out, HB.out⟩)
            · skip
              refine value_ (w1 := ?_) (v := ?_) (by rfl) rfl ?_ ?_
              rotate_left 2
              · go_simp
                constructor
                · rfl
                · rfl
              have HA := Lh (ha_new HB.out (.cells #[.int .i64 0, .int .i64 0, .int .i64 0] 23))
              have hge := HB.out.size
              have HB := Lh (HB.out.alloc (Nat.le_trans (Nat.le_refl _) HB.out.size) (.cells #[.int .i64 0, .int .i64 0, .int .i64 0] 23))
              refine hK.out _ _ (FF.out _ HB) (fun hHeld => ?_)
              clear hK K
              refine no_ (h := ?_)
              refine on_ 8 (some 64) (h := fun K hK => ?_)
              refine gs_ Try.func113 #[.int .i64 sz] ?_
              with_reducible refine (hdz.out _).mono ?_
              rintro e' w6 ⟨rfl, rfl⟩
              refine ⟨_, rfl, ?_⟩
              refine hK.out _ _ (FF.out _ HB) (fun hHeld => ?_)
              clear hK K
              refine no_ (h := ?_)
              refine pu_ 9 65 (h := ?_)
              exact norm_ (by simp only [putAll, Act.put, List.setIfInBounds_toArray, List.set_cons_zero, List.set_cons_succ]) (hCont _ _ ⟨hge, HA.out, HB.out⟩)
          · skip
            refine value_ (w1 := ?_) (v := ?_) (by rfl) rfl ?_ ?_
            rotate_left 2
            · go_simp
              constructor
              · rfl
              · rfl
            have HA := Lh (ha_new HB.out (.cells #[.int .i64 0, .int .i64 0, .int .i64 0] 23))
            have hge := HB.out.size
            have HB := Lh (HB.out.alloc (Nat.le_trans (Nat.le_refl _) HB.out.size) (.cells #[.int .i64 0, .int .i64 0, .int .i64 0] 23))
            refine hK.out _ _ (FF.out _ HB) (fun hHeld => ?_)
            clear hK K
            refine no_ (h := ?_)
            refine on_ 5 (some 61) (h := fun K hK => ?_)
            refine gs_ Try.func113 #[.int .i64 sy] ?_
            with_reducible refine (hdy.out _).mono ?_
            rintro e' w6 ⟨rfl, rfl⟩
            refine ⟨_, rfl, ?_⟩
            refine hK.out _ _ (FF.out _ HB) (fun hHeld => ?_)
            clear hK K
            refine no_ (h := ?_)
            refine on_ 8 (some 64) (h := fun K hK => ?_)
            refine gs_ Try.func113 #[.int .i64 sz] ?_
            with_reducible refine (hdz.out _).mono ?_
            rintro e' w6 ⟨rfl, rfl⟩
            refine ⟨_, rfl, ?_⟩
            refine hK.out _ _ (FF.out _ HB) (fun hHeld => ?_)
            clear hK K
            refine no_ (h := ?_)
            refine pu_ 9 65 (h := ?_)
            exact norm_ (by simp only [putAll, Act.put, List.setIfInBounds_toArray, List.set_cons_zero, List.set_cons_succ]) (hCont _ _ ⟨hge, HA.out, HB.out⟩)
        · skip
          refine value_ (w1 := ?_) (v := ?_) (by rfl) rfl ?_ ?_
          rotate_left 2
          · go_simp
            constructor
            · rfl
            · rfl
          have HA := Lh (ha_new HB.out (.cells #[.int .i64 0, .int .i64 0, .int .i64 0] 23))
          have hge := HB.out.size
          have HB := Lh (HB.out.alloc (Nat.le_trans (Nat.le_refl _) HB.out.size) (.cells #[.int .i64 0, .int .i64 0, .int .i64 0] 23))
          refine hK.out _ _ (FF.out _ HB) (fun hHeld => ?_)
          clear hK K
          refine no_ (h := ?_)
          refine on_ 2 (some 58) (h := fun K hK => ?_)
          refine gs_ Try.func113 #[.int .i64 sx] ?_
          with_reducible refine (hdx.out _).mono ?_
          rintro e' w6 ⟨rfl, rfl⟩
          refine ⟨_, rfl, ?_⟩
          refine hK.out _ _ (FF.out _ HB) (fun hHeld => ?_)
          clear hK K
          refine no_ (h := ?_)
          refine on_ 5 (some 61) (h := fun K hK => ?_)
          refine gs_ Try.func113 #[.int .i64 sy] ?_
          with_reducible refine (hdy.out _).mono ?_
          rintro e' w6 ⟨rfl, rfl⟩
          refine ⟨_, rfl, ?_⟩
          refine hK.out _ _ (FF.out _ HB) (fun hHeld => ?_)
          clear hK K
          refine no_ (h := ?_)
          refine on_ 8 (some 64) (h := fun K hK => ?_)
          refine gs_ Try.func113 #[.int .i64 sz] ?_
          with_reducible refine (hdz.out _).mono ?_
          rintro e' w6 ⟨rfl, rfl⟩
          refine ⟨_, rfl, ?_⟩
          refine hK.out _ _ (FF.out _ HB) (fun hHeld => ?_)
          clear hK K
          refine no_ (h := ?_)
          refine pu_ 9 65 (h := ?_)
          exact norm_ (by simp only [putAll, Act.put, List.setIfInBounds_toArray, List.set_cons_zero, List.set_cons_succ]) (hCont _ _ ⟨hge, HA.out, HB.out⟩)
      rintro AB wj ⟨hge, HA, HB⟩
      have HA := Lh HA
      have HB := Lh HB
      have hHeld := FF.out _ HB
      refine no_ (h := ?_)
      refine on_ 11 (none) (h := fun K hK => ?_)
      have sc0 : World.cell? _ ⟨AB, 0, none⟩ = some (.int .i64 0) := (blk_cell HA.out 0).trans rfl
      have sf0 := blk_frozen HA.out 0
      have sc1 : World.cell? _ ⟨AB, 1, none⟩ = some (.int .i64 0) := (blk_cell HA.out 1).trans rfl
      have sf1 := blk_frozen HA.out 1
      have sc2 : World.cell? _ ⟨AB, 2, none⟩ = some (.int .i64 0) := (blk_cell HA.out 2).trans rfl
      have sf2 := blk_frozen HA.out 2
      refine skip_ (w1 := ?_) (by rfl) rfl ?_ ?_
      rotate_left
      · go_simp
        rfl
      have HA := Lh (bs3 HA.out (.int .i64 dx) (.int .i64 dy) (.int .i64 dz))
      have HB := Lh (bb3 HB.out (Nat.le_trans (Nat.le_refl _) hge) (.int .i64 dx) (.int .i64 dy) (.int .i64 dz))
      clear sc0 sf0 sc1 sf1 sc2 sf2
      refine hK.out _ _ (FF.out _ HB) (fun hHeld => ?_)
      clear hK K
      refine done_ (by kernel_rfl) ?_
      obtain ⟨w7, hwn⟩ : ∃ V, (((wj.setCell ⟨AB, 0, none⟩ (.int .i64 dx)).setCell ⟨AB, 1, none⟩ (.int .i64 dy)).setCell ⟨AB, 2, none⟩ (.int .i64 dz)) = V := ⟨_, rfl⟩
      rw [hwn] at HA HB ⊢
      clear hwn
      have hO7 := Lh (hO5.out.grown HB.out)
      have hT7 := Lh ((HB.out.block _ lO5).trans hT5.out)
      have hB7 := Lh (hB5.out.trans (HB.out.mono (Nat.le_of_lt lO5)))
      have lO7 : OUT < w7.heap.size := blk_lt hT7.out
      have hA7 := HA
      have s0 : w7.cell? ⟨AB, 0, none⟩ = some (.int .i64 dx) := (blk_cell HA.out 0).trans rfl
      have s1 : w7.cell? ⟨AB, 1, none⟩ = some (.int .i64 dy) := (blk_cell HA.out 1).trans rfl
      have s2 : w7.cell? ⟨AB, 2, none⟩ = some (.int .i64 dz) := (blk_cell HA.out 2).trans rfl
      clear hHeld HB HA hge hO5 hT5 hB5 hBw5 lO5 lA5
      go_wp2_with fail
      refine (hIN2.out _).mono ?_
      rintro e' w8 ⟨rfl, hb⟩
      have hO8 := Lh (hO7.out.grown hb)
      have hT8 := Lh ((hb.block _ lO7).trans hT7.out)
      have hB8 := Lh (hB7.out.trans (hb.mono (Nat.le_of_lt lO7)))
      have hA8 := Lh ((hb.block _ (blk_lt hA7.out)).trans hA7.out)
      have lO8 : OUT < w8.heap.size := blk_lt hT8.out
      have s0 : w8.cell? ⟨AB, 0, none⟩ = some (.int .i64 dx) := (blk_cell hA8.out 0).trans rfl
      have s1 : w8.cell? ⟨AB, 1, none⟩ = some (.int .i64 dy) := (blk_cell hA8.out 1).trans rfl
      have s2 : w8.cell? ⟨AB, 2, none⟩ = some (.int .i64 dz) := (blk_cell hA8.out 2).trans rfl
      have o0 : w8.cell? ⟨OUT, 0, none⟩ = some vp := (blk_cell hT8.out 0).trans rfl
      clear hb hO7 hT7 hB7 hA7 lO7
      have hO9 := Lh (hO8.out.grown ((Below.refl _ w8).alloc (Nat.le_refl _) (.cells #[.int .i64 dx, .int .i64 dy, .int .i64 dz] 23)))
      have hT9 := Lh ((Below.heap_alloc _ (.cells #[.int .i64 dx, .int .i64 dy, .int .i64 dz] 23) _ lO8).trans hT8.out)
      have hB9 := Lh (hB8.out.alloc (Nat.le_of_lt lO8) (.cells #[.int .i64 dx, .int .i64 dy, .int .i64 dz] 23))
      have hR9 := (Rd_one (heap_alloc_new w8 (.cells #[.int .i64 dx, .int .i64 dy, .int .i64 dz] 23))).1
      go_wp2_with (at_builtin; refine append_pts (OUT + 1) rfl _ _ rfl _ ok [⟨dx, dy, dz⟩] _ _ _ rfl rfl hO9.out hR9 rfl (by simp; omega) (by simp; omega) ?_; intro v2 w9 hv2 hg2; obtain ⟨Av, nv, cv, hvv⟩ : ∃ A n c, v2 = .slice A n c := (by obtain ⟨A, c, h, _⟩ := OwnP.rd hv2; exact ⟨A, _, c, h⟩); subst hvv; have hT10 := Lh ((hg2.block OUT (blk_lt hT9.out) (fun e => by have := hO9.out.base_ _ e.symm; omega)).trans hT9.out); have hB10 := Lh (hB9.out.grown hg2 (by simp; omega) (fun k hk => by have := hO9.out.base_ k hk; omega)); have o1 : w9.cell? ⟨OUT, 0, none⟩ = some vp := (blk_cell hT10.out 0).trans rfl; have o2 : w9.frozen? ⟨OUT, 0, none⟩ = false := blk_frozen hT10.out 0; have hv2' := Lh hv2; clear hv2 hg2)
      go_roundw
      case rel => exact ⟨k + 1, .slice Av nv cv, by omega, by go_num, by rw [hTK.out]; exact Lh (ownsRow_setCell_below hv2'.out (show OUT < OUT + 1 by omega) (.slice Av nv cv)), Lh (blk40 hT10.out (.slice Av nv cv)), Lh (hB10.out.setCell (p := ⟨OUT, 0, none⟩) (Nat.le_refl _) (.slice Av nv cv))⟩
      case measure => simp [intOf]; omega
    · obtain rfl : k = NP := by omega
      have hfull : (p.map (placePt m ⟨ax, ay, az⟩)).take k = p.map (placePt m ⟨ax, ay, az⟩) := List.take_of_length_le (by rw [List.length_map, HNP.out]; exact Nat.le_refl _)
      rw [hfull] at hO
      obtain ⟨Ap, cp, hvp, hlp, hrp, hbp⟩ := hO.out.rdB
      subst hvp
      obtain ⟨LP, hLP⟩ : ∃ LP, p.map (placePt m ⟨ax, ay, az⟩) = LP := ⟨_, rfl⟩
      rw [hLP] at hT hlp hrp ⊢
      obtain ⟨nP, hnP⟩ : ∃ n, LP.length = n := ⟨_, rfl⟩
      rw [hnP] at hT hlp
      have hnP := Lh hnP
      have hrp := Lh hrp
      have hbp := Lh hbp
      have HBw := Lh hBw
      have HLP := Lh hLP
      clear hfull hO hLP hBw
      obtain ⟨wo, hwo⟩ : ∃ wo : World, wo = wr := ⟨_, rfl⟩
      subst hwo
      have P4 := Lh ((hB.out.block _ (show w.heap.size + 1 + 1 < OUT by omega)).trans R2.out)
      have K4 := Lh ((hB.out.block _ (show w.heap.size + 1 + 1 + 1 < OUT by omega)).trans K2.out)
      have M4 : Hid (Mk wo MB m) := Lh ((hB.out.block _ lO).trans M2.out)
      have cq1 : wo.cell? ⟨w.heap.size, 1, none⟩ = some (.slice A1 NA c1) := (blk_cell C3.out 1).trans rfl
      obtain ⟨x0, x1, x2, x3, x4, x5, x6, x7, x8⟩ := M4.out.all
      go_wp2_with fail
      refine (HWA.out _ _ (Wk.of K4.out) (H1.out.1.below HBw.out)).mono ?_
      rintro e' w3 ⟨Aa, ca, rfl, hla, hra, hb, hba⟩
      obtain ⟨nA, hnA⟩ : ∃ n, (waysF m a).length = n := ⟨_, rfl⟩
      rw [hnA] at hla ⊢
      have hnA := Lh hnA
      have hra := Lh hra
      have hba := Lh hba
      have hrp3 := Lh (hrp.out.below hb)
      have hT3 := Lh ((hb.block _ lOr).trans hT.out)
      have HB3 := Lh (bthen HBw.out hb)
      have hB3 := Lh (hB.out.trans (hb.mono (Nat.le_of_lt lOr)))
      have lO3 : OUT < w3.heap.size := blk_lt hT3.out
      have C5 := Lh ((hB3.out.block _ (show w.heap.size < OUT by omega)).trans C2.out)
      have K5 := Lh ((hB3.out.block _ (show w.heap.size + 1 + 1 + 1 < OUT by omega)).trans K2.out)
      have M5 : Hid (Mk w3 MB m) := Lh ((hB3.out.block _ lO).trans M2.out)
      clear x0 x1 x2 x3 x4 x5 x6 x7 x8 cq0 cq1 hb hT HBw hB hrp C3 K4 M4 P4
      have lOa : Hid (∀ ad, Aa = some ad → ad.block ≠ OUT) := Lh (fun ad e => by have := hba.out ad e; omega)
      have cq2 : w3.cell? ⟨w.heap.size, 2, none⟩ = some (.slice A2 NE c2) := (blk_cell C5.out 2).trans rfl
      obtain ⟨x0, x1, x2, x3, x4, x5, x6, x7, x8⟩ := M5.out.all
      go_wp2_with fail
      refine (HWE.out _ _ (Wk.of K5.out) (H2.out.1.below HB3.out)).mono ?_
      rintro e' w4 ⟨Ae, ce, rfl, hle, hre, hb, hbe⟩
      obtain ⟨nE, hnE⟩ : ∃ n, (waysF m e).length = n := ⟨_, rfl⟩
      rw [hnE] at hle ⊢
      have hnE := Lh hnE
      have lOe : Hid (∀ ad, Ae = some ad → ad.block ≠ OUT) := Lh (fun ad e => by have := hbe ad e; omega)
      have lOp : Hid (∀ ad, Ap = some ad → ad.block ≠ OUT) := Lh (fun ad e => by have := hbp.out ad e; omega)
      have HFR : Hid (Fresh w.heap.size (.agg #[.slice Ap nP cp, .slice Aa nA ca, .slice Ae nE ce, .int .i64 r])) := Lh ⟨Ap, Aa, Ae, nP, nA, nE, cp, ca, ce, _, rfl, fun ad e => by have := hbp.out ad e; omega, fun ad e => by have := hba.out ad e; omega, fun ad e => by have := hbe ad e; omega⟩
      have lRa : Hid (∀ ad, Aa = some ad → ad.block ≠ w.heap.size + 1 + 1) := Lh (fun ad e => by have := hba.out ad e; omega)
      have lRe : Hid (∀ ad, Ae = some ad → ad.block ≠ w.heap.size + 1 + 1) := Lh (fun ad e => by have := hbe ad e; omega)
      have lRp : Hid (∀ ad, Ap = some ad → ad.block ≠ w.heap.size + 1 + 1) := Lh (fun ad e => by have := hbp.out ad e; omega)
      have hre := Lh hre
      have hra4 := Lh (hra.out.below hb)
      have hrp4 := Lh (hrp3.out.below hb)
      have hT4 := (hb.block _ lO3).trans hT3.out
      have HB4 := bthen HB3.out hb
      have hB4 := hB3.out.trans (hb.mono (Nat.le_of_lt lO3))
      have C6 := Lh ((hB4.block _ (show w.heap.size < OUT by omega)).trans C2.out)
      have R6 := (hB4.block _ (show w.heap.size + 1 + 1 < OUT by omega)).trans R2.out
      have K6 := Lh ((hB4.block _ (show w.heap.size + 1 + 1 + 1 < OUT by omega)).trans K2.out)
      clear x0 x1 x2 x3 x4 x5 x6 x7 x8 cq2 hb hT3 HB3 hB3 hrp3 hra C5 K5 M5 hbe hba
      have cq0 : w4.cell? ⟨w.heap.size, 0, none⟩ = some (.slice A0 k c0) := (blk_cell C6.out 0).trans rfl
      have kk : w4.cell? ⟨w.heap.size + 1 + 1 + 1, 0, none⟩ = some (.bool false) := (blk_cell K6.out 0).trans rfl
      have t0 : (((k : Nat) : Int) == 0) = false := by simp; omega
      have T5 := blk41 hT4 (.slice Aa nA ca)
      have R7 := (Below.heap_setCell w4 ⟨OUT, 1, none⟩ (.slice Aa nA ca) (w.heap.size + 1 + 1) (by simp; omega)).trans R6
      have HB5 := HB4.setCell (p := ⟨OUT, 1, none⟩) (show w.heap.size ≤ OUT by omega) (.slice Aa nA ca)
      have p5 := hrp4.out.setc lOp.out 1 (.slice Aa nA ca)
      have a5 := hra4.out.setc lOa.out 1 (.slice Aa nA ca)
      have e5 := hre.out.setc lOe.out 1 (.slice Aa nA ca)
      have u0 : w4.cell? ⟨OUT, 1, none⟩ = some (.slice none 0 0) := (blk_cell hT4 1).trans rfl
      have u1 : w4.frozen? ⟨OUT, 1, none⟩ = false := blk_frozen hT4 1
      obtain ⟨w5, hw5⟩ : ∃ V, w4.setCell ⟨OUT, 1, none⟩ (.slice Aa nA ca) = V := ⟨_, rfl⟩
      rw [hw5] at T5 R7 HB5 p5 a5 e5
      have T6 := blk42 T5 (.slice Ae nE ce)
      have R8 := (Below.heap_setCell w5 ⟨OUT, 2, none⟩ (.slice Ae nE ce) (w.heap.size + 1 + 1) (by simp; omega)).trans R7
      have HB6 := HB5.setCell (p := ⟨OUT, 2, none⟩) (show w.heap.size ≤ OUT by omega) (.slice Ae nE ce)
      have p6 := p5.setc lOp.out 2 (.slice Ae nE ce)
      have a6 := a5.setc lOa.out 2 (.slice Ae nE ce)
      have e6 := e5.setc lOe.out 2 (.slice Ae nE ce)
      have u2 : w5.cell? ⟨OUT, 2, none⟩ = some (.slice none 0 0) := (blk_cell T5 2).trans rfl
      have u3 : w5.frozen? ⟨OUT, 2, none⟩ = false := blk_frozen T5 2
      obtain ⟨w6, hw6⟩ : ∃ V, w5.setCell ⟨OUT, 2, none⟩ (.slice Ae nE ce) = V := ⟨_, rfl⟩
      rw [hw6] at T6 R8 HB6 p6 a6 e6
      have v0 : w6.cell? ⟨OUT, 0, none⟩ = some (.slice Ap nP cp) := (blk_cell T6 0).trans rfl
      have v1 : w6.cell? ⟨OUT, 1, none⟩ = some (.slice Aa nA ca) := (blk_cell T6 1).trans rfl
      have v2 : w6.cell? ⟨OUT, 2, none⟩ = some (.slice Ae nE ce) := (blk_cell T6 2).trans rfl
      have v3 : w6.cell? ⟨OUT, 3, none⟩ = some (.int .i64 r) := (blk_cell T6 3).trans rfl
      have r0 : w6.cell? ⟨w.heap.size + 1 + 1, 0, none⟩ = some (.slice none 0 0) := (blk_cell R8 0).trans rfl
      have r1 : w6.cell? ⟨w.heap.size + 1 + 1, 1, none⟩ = some (.slice none 0 0) := (blk_cell R8 1).trans rfl
      have r2 : w6.cell? ⟨w.heap.size + 1 + 1, 2, none⟩ = some (.slice none 0 0) := (blk_cell R8 2).trans rfl
      have r3 : w6.cell? ⟨w.heap.size + 1 + 1, 3, none⟩ = some (.int .i64 0) := (blk_cell R8 3).trans rfl
      have f0 : w6.frozen? ⟨w.heap.size + 1 + 1, 0, none⟩ = false := blk_frozen R8 0
      have f1 : w6.frozen? ⟨w.heap.size + 1 + 1, 1, none⟩ = false := blk_frozen R8 1
      have f2 : w6.frozen? ⟨w.heap.size + 1 + 1, 2, none⟩ = false := blk_frozen R8 2
      have f3 : w6.frozen? ⟨w.heap.size + 1 + 1, 3, none⟩ = false := blk_frozen R8 3
      have T7 := bs4 R8 (.slice Ap nP cp) (.slice Aa nA ca) (.slice Ae nE ce) (.int .i64 r)
      have HB7 := bb4 HB6 (show w.heap.size ≤ w.heap.size + 1 + 1 by omega) (.slice Ap nP cp) (.slice Aa nA ca) (.slice Ae nE ce) (.int .i64 r)
      have p7 := (((p6.setc lRp.out 0 (.slice Ap nP cp)).setc lRp.out 1 (.slice Aa nA ca)).setc lRp.out 2 (.slice Ae nE ce)).setc lRp.out 3 (.int .i64 r)
      have a7 := (((a6.setc lRa.out 0 (.slice Ap nP cp)).setc lRa.out 1 (.slice Aa nA ca)).setc lRa.out 2 (.slice Ae nE ce)).setc lRa.out 3 (.int .i64 r)
      have e7 := (((e6.setc lRe.out 0 (.slice Ap nP cp)).setc lRe.out 1 (.slice Aa nA ca)).setc lRe.out 2 (.slice Ae nE ce)).setc lRe.out 3 (.int .i64 r)
      obtain ⟨w7, hw7⟩ : ∃ V, (((w6.setCell ⟨w.heap.size + 1 + 1, 0, none⟩ (.slice Ap nP cp)).setCell ⟨w.heap.size + 1 + 1, 1, none⟩ (.slice Aa nA ca)).setCell ⟨w.heap.size + 1 + 1, 2, none⟩ (.slice Ae nE ce)).setCell ⟨w.heap.size + 1 + 1, 3, none⟩ (.int .i64 r) = V := ⟨_, rfl⟩
      rw [hw7] at T7 HB7 p7 a7 e7
      have y0 : w7.cell? ⟨w.heap.size + 1 + 1, 0, none⟩ = some (.slice Ap nP cp) := (blk_cell T7 0).trans rfl
      have y1 : w7.cell? ⟨w.heap.size + 1 + 1, 1, none⟩ = some (.slice Aa nA ca) := (blk_cell T7 1).trans rfl
      have y2 : w7.cell? ⟨w.heap.size + 1 + 1, 2, none⟩ = some (.slice Ae nE ce) := (blk_cell T7 2).trans rfl
      have y3 : w7.cell? ⟨w.heap.size + 1 + 1, 3, none⟩ = some (.int .i64 r) := (blk_cell T7 3).trans rfl
      have HB7 := Lh HB7
      have hv := Lh (show CoreV w7 (.agg #[.slice Ap nP cp, .slice Aa nA ca, .slice Ae nE ce, .int .i64 r]) LP (waysF m a) (waysF m e) r from ⟨Ap, Aa, Ae, cp, ca, ce, by rw [hnP.out, hnA.out, hnE.out], p7, a7, e7, by rw [hnP.out]; exact hlp, by rw [hnA.out]; exact hla, by rw [hnE.out]; exact hle⟩)
      clear T5 T6 T7 R6 R7 R8 HB4 HB5 HB6 p5 p6 p7 a5 a6 a7 e5 e6 e7 hT4 hB4 zz Z2
      go_wp2
      exact bodyPost_ret (v := .tuple #[.agg #[.slice Ap nP cp, .slice Aa nA ca, .slice Ae nE ce, .int .i64 r], .bool true]) (by simp [results, Try.results56, go_sem, y0, y1, y2, y3]) rfl ⟨_, rfl, by rw [HLP.out]; exact hv.out, HB7.out, HFR.out⟩
end Go.Proofs.Ytckdhahceelckaa.G
namespace Go.Proofs.Ytckdhahceelckaa.G
open Go.RowKit Go.Proofs.YtckdhahceelckaaW.PrintWords Go.Proofs.YtckdhahceelckaaW.PrintLast Go.Proofs.YtckdhahceelckaaW.PrintMore
attribute [local go_sem] max2_mx min2_mn max_two min_two max_three min_three max_four min_four
attribute [local go_sem high] eqA23
set_option linter.unusedVariables false
set_option linter.unusedSimpArgs false
def CorePost (p a e : List P3) (r : Int) (w : World) (en : Ending) (w' : World) : Prop := ∃ v, en = .returned (.tuple #[v, .int .i64 0]) ∧ CoreV w' v p a e r ∧ Below w.heap.size w w'
def halfOk (h : P3) : Prop := 1 ≤ h.x ∧ h.x ≤ 65536 ∧ 1 ≤ h.y ∧ h.y ≤ 65536 ∧ 1 ≤ h.z ∧ h.z ≤ 65536
set_option maxHeartbeats 4000000 in
set_option maxRecDepth 100000 in
theorem core_1 (r : Int) (h : P3) (A : Option Addr) (n c : Nat) (hr0 : 1 ≤ r) (hr1 : r ≤ 16384) (hh : halfOk h) (w : World) :
    Calls Try.prog 53 #[.agg (cS 1 r h A n c)] w (CorePost [⟨0, 0, 0⟩] [] [] r w) := by
  have HC := Lh (check_123 1 r h A n c (.inl rfl) hr0 hr1 hh)
  clear hr0 hr1 hh
  obtain ⟨hx, hy, hz⟩ := h
  go_enter Try.func53, Try.ntmps53
  go_wp2_with fail
  obtain ⟨w0, hw0⟩ : ∃ w0, (w.alloc (.cells (cS 1 r ⟨hx, hy, hz⟩ A n c) 78)).alloc (.cells #[.slice none 0 0, .slice none 0 0, .slice none 0 0, .int .i64 0] 36) = w0 := ⟨_, rfl⟩
  have C0 : Hid (w0.heap[w.heap.size]? = some (.cells (cS 1 r ⟨hx, hy, hz⟩ A n c) 78 (0, 0))) := Lh (by rw [← hw0]; exact (Below.heap_alloc _ _ _ (by simp)).trans (heap_alloc_new w _))
  have R0 : Hid (w0.heap[w.heap.size + 1]? = some (.cells #[.slice none 0 0, .slice none 0 0, .slice none 0 0, .int .i64 0] 36 (0, 0))) := Lh (by rw [← hw0]; have h := heap_alloc_new (w.alloc (.cells (cS 1 r ⟨hx, hy, hz⟩ A n c) 78)) (.cells #[.slice none 0 0, .slice none 0 0, .slice none 0 0, .int .i64 0] 36); rw [World.size_alloc] at h; exact h)
  have W0 := Lh (show Below w.heap.size w w0 by rw [← hw0]; exact ((Below.refl _ w).alloc (Nat.le_refl _) _).alloc (by simp) _)
  rw [hw0]
  clear hw0
  refine (HC.out _).mono ?_
  rintro e w1 ⟨rfl, hb⟩
  have C1 := Lh ((hb.block _ (blk_lt C0.out)).trans C0.out)
  have R1 := Lh ((hb.block _ (blk_lt R0.out)).trans R0.out)
  have W1 := Lh (bthen W0.out hb)
  clear hb C0 R0 W0
  have c0 : w1.cell? ⟨w.heap.size, 0, none⟩ = some (.int .i64 1) := (blk_cell C1.out 0).trans rfl
  have c1 : w1.cell? ⟨w.heap.size, 1, none⟩ = some (.int .i64 r) := (blk_cell C1.out 1).trans rfl
  have l0 : w.heap.size < w1.heap.size := blk_lt C1.out
  have l1 : w.heap.size + 1 < w1.heap.size := blk_lt R1.out
  have r0 : w1.cell? ⟨w.heap.size + 1, 0, none⟩ = some (.slice none 0 0) := (blk_cell R1.out 0).trans rfl
  have r1 : w1.cell? ⟨w.heap.size + 1, 1, none⟩ = some (.slice none 0 0) := (blk_cell R1.out 1).trans rfl
  have r2 : w1.cell? ⟨w.heap.size + 1, 2, none⟩ = some (.slice none 0 0) := (blk_cell R1.out 2).trans rfl
  have r3 : w1.cell? ⟨w.heap.size + 1, 3, none⟩ = some (.int .i64 0) := (blk_cell R1.out 3).trans rfl
  have f0 : w1.frozen? ⟨w.heap.size + 1, 0, none⟩ = false := blk_frozen R1.out 0
  have f1 : w1.frozen? ⟨w.heap.size + 1, 1, none⟩ = false := blk_frozen R1.out 1
  have f2 : w1.frozen? ⟨w.heap.size + 1, 2, none⟩ = false := blk_frozen R1.out 2
  have f3 : w1.frozen? ⟨w.heap.size + 1, 3, none⟩ = false := blk_frozen R1.out 3
  have T := bs4 R1.out (.slice (some ⟨w1.heap.size + 1, 0, none⟩) 1 1) (.slice none 0 0) (.slice none 0 0) (.int .i64 r)
  have HB := bb4 W1.out (show w.heap.size ≤ w.heap.size + 1 by omega) (.slice (some ⟨w1.heap.size + 1, 0, none⟩) 1 1) (.slice none 0 0) (.slice none 0 0) (.int .i64 r)
  obtain ⟨w2, hw2⟩ : ∃ V, (((w1.setCell ⟨w.heap.size + 1, 0, none⟩ (.slice (some ⟨w1.heap.size + 1, 0, none⟩) 1 1)).setCell ⟨w.heap.size + 1, 1, none⟩ (.slice none 0 0)).setCell ⟨w.heap.size + 1, 2, none⟩ (.slice none 0 0)).setCell ⟨w.heap.size + 1, 3, none⟩ (.int .i64 r) = V := ⟨_, rfl⟩
  have z2 : w2.heap.size = w1.heap.size := by rw [← hw2]; simp
  rw [hw2] at T HB
  have Z2 := Lh z2
  clear z2
  have T := Lh T
  have HB := Lh HB
  have H2 := Lh hw2
  clear hw2
  go_wp2
  rw [H2.out]
  have l2 : w.heap.size ≤ w2.heap.size := HB.out.size
  have B3 := (Below.refl w2.heap.size w2).alloc (Nat.le_refl _) (.cells #[.slice (some ⟨w1.heap.size + 1, 0, none⟩) 1 1, .slice none 0 0, .slice none 0 0, .int .i64 r] 36)
  have B4 := B3.alloc (by simp) (.cells #[.int .i64 0, .int .i64 0, .int .i64 0] 23)
  have PT := heap_alloc_new (w2.alloc (.cells #[.slice (some ⟨w1.heap.size + 1, 0, none⟩) 1 1, .slice none 0 0, .slice none 0 0, .int .i64 r] 36)) (.cells #[.int .i64 0, .int .i64 0, .int .i64 0] 23)
  rw [World.size_alloc, Z2.out] at PT
  have T4 := (B4.block _ (blk_lt T.out)).trans T.out
  have y0 : ((w2.alloc (.cells #[.slice (some ⟨w1.heap.size + 1, 0, none⟩) 1 1, .slice none 0 0, .slice none 0 0, .int .i64 r] 36)).alloc (.cells #[.int .i64 0, .int .i64 0, .int .i64 0] 23)).cell? ⟨w.heap.size + 1, 0, none⟩ = some (.slice (some ⟨w1.heap.size + 1, 0, none⟩) 1 1) := (blk_cell T4 0).trans rfl
  have y1 : ((w2.alloc (.cells #[.slice (some ⟨w1.heap.size + 1, 0, none⟩) 1 1, .slice none 0 0, .slice none 0 0, .int .i64 r] 36)).alloc (.cells #[.int .i64 0, .int .i64 0, .int .i64 0] 23)).cell? ⟨w.heap.size + 1, 1, none⟩ = some (.slice none 0 0) := (blk_cell T4 1).trans rfl
  have y2 : ((w2.alloc (.cells #[.slice (some ⟨w1.heap.size + 1, 0, none⟩) 1 1, .slice none 0 0, .slice none 0 0, .int .i64 r] 36)).alloc (.cells #[.int .i64 0, .int .i64 0, .int .i64 0] 23)).cell? ⟨w.heap.size + 1, 2, none⟩ = some (.slice none 0 0) := (blk_cell T4 2).trans rfl
  have y3 : ((w2.alloc (.cells #[.slice (some ⟨w1.heap.size + 1, 0, none⟩) 1 1, .slice none 0 0, .slice none 0 0, .int .i64 r] 36)).alloc (.cells #[.int .i64 0, .int .i64 0, .int .i64 0] 23)).cell? ⟨w.heap.size + 1, 3, none⟩ = some (.int .i64 r) := (blk_cell T4 3).trans rfl
  have HB4 := HB.out.trans (B4.mono l2)
  exact bodyPost_ret (v := .tuple #[.agg #[.slice (some ⟨w1.heap.size + 1, 0, none⟩) 1 1, .slice none 0 0, .slice none 0 0, .int .i64 r], .int .i64 0]) (by simp [results, Try.results53, go_sem, y0, y1, y2, y3]) rfl ⟨_, rfl, ⟨_, none, none, 1, 0, 0, rfl, Rd_one PT, RdB.nil _, RdB.nil _, by decide, by decide, by decide⟩, HB4⟩
end Go.Proofs.Ytckdhahceelckaa.G
