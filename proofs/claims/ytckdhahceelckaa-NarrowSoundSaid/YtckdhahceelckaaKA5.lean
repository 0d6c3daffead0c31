/- What the laws of this claim lean on: contracts of the functions that they reach, and plain lemmas; no condition of its own (part 5 of 5; the texts XW36, XW37, XL2, XG8, XG5, XW38, XG9, XW39). -/
import Derived.Test.YtckdhahceelckaaKA4
namespace Go.Proofs.Ytckdhahceelckaa.G
open Go.RowKit Go.Proofs.YtckdhahceelckaaW.PrintWords Go.Proofs.YtckdhahceelckaaW.PrintLast Go.Proofs.YtckdhahceelckaaW.PrintMore
attribute [local go_sem] max2_mx min2_mn max_two min_two max_three min_three max_four min_four
attribute [local go_sem high] eqA23
set_option linter.unusedVariables false
set_option linter.unusedSimpArgs false
/-- a raw shape's numbers are Go's -/
structure RawOk (k r : Int) (h : P3) (l : List P3) : Prop where
  k : i64 k
  r : i64 r
  h : pI64 h
  len : l.length ≤ 4611686018427387904
  pts : ∀ p ∈ l, pI64 p
theorem RdB.setS {w : World} {A : Option Addr} {l : List P3} (h : RdB w A l) {g : Nat} {A0 A1 A2 : Option Addr} {n0 n1 n2 m0 m1 m2 : Nat} {x : Value} {t : TypeId} (hg : w.heap[g]? = some (.cells #[.slice A0 n0 m0, .slice A1 n1 m1, .slice A2 n2 m2, x] t (0, 0))) (u0 u1 u2 u3 : Value) :
    RdB ((((w.setCell ⟨g, 0, none⟩ u0).setCell ⟨g, 1, none⟩ u1).setCell ⟨g, 2, none⟩ u2).setCell ⟨g, 3, none⟩ u3) A l := by
  cases l with
  | nil => exact ⟨Rd.nil _ _, fun ad e => by simpa using h.2 ad e⟩
  | cons p l =>
    have ne : ∀ ad, A = some ad → ad.block ≠ g := by
      intro ad e hb
      obtain ⟨b, o, e', _, e0, e1, e2⟩ := h.1 0 p rfl
      rw [e'] at e
      cases e
      simp only at hb
      subst hb
      have q0 := (blk_cell hg (o + 0 * 3)).symm.trans e0
      have q1 := (blk_cell hg (o + 0 * 3 + 1)).symm.trans e1
      match o with
      | 0 => simp at q0
      | 1 => simp at q0
      | 2 => simp at q0
      | 3 => simp at q1
      | o + 4 => simp at q1
    exact (((h.setc ne 0 u0).setc ne 1 u1).setc ne 2 u2).setc ne 3 u3
def PlacedPost (s : Shp) (q : P7) (w : World) (en : Ending) (w' : World) : Prop := ∃ v p a e, en = .returned v ∧ CoreIs s p a e ∧ CoreV w' v (p.map (placePt (rowsF q.turn) q.at_)) (waysF (rowsF q.turn) a) (waysF (rowsF q.turn) e) s.radius ∧ Below w.heap.size w w'
set_option maxHeartbeats 8000000 in
set_option maxRecDepth 100000 in
theorem placed_calls (k r : Int) (h : P3) (l : List P3) (A : Option Addr) (c : Nat) (p7 : P7) (w : World) (hA : RdB w A l) (hr : RawOk k r h l) (hp : i64s p7) :
    Calls Try.prog 52 #[.agg (cS k r h A l.length c), .agg (cP7 p7)] w (PlacedPost (rightS k r h l) (rightPose p7) w) := by
  have HR5 := Lib.hid (fun (W : World) (hW : RdB W A l) => right5_calls k r h l A c W hW hr.len hr.k hr.r hr.h hr.pts)
  have HR6 := Lib.hid (fun (W : World) => right6_calls p7 W hp)
  have HQ : Hid (q32 (rightPose p7).turn ∧ atOk (rightPose p7).at_) := Lib.hid (by simp only [rightPose]; exact ⟨wholeF_q32 (partQ p7.turn), partV_at p7.at_⟩)
  have HS := Lib.hid (rightS_ok k r h l)
  have HAA := Lib.hid hA
  obtain ⟨s, hs⟩ : ∃ s, rightS k r h l = s := ⟨_, rfl⟩
  obtain ⟨q, hq⟩ : ∃ q, rightPose p7 = q := ⟨_, rfl⟩
  rw [hq] at HQ
  rw [hs] at HR5 HS ⊢
  rw [hq] at HR6 ⊢
  obtain ⟨N, hN⟩ : ∃ N, l.length = N := ⟨_, rfl⟩
  rw [hN] at HR5 ⊢
  clear hs hq hN hA hr hp
  obtain ⟨⟨ax, ay, az⟩, ⟨tw, tx, ty, tz⟩⟩ := p7
  (try simp only at HR6)
  go_enter Try.func52, Try.ntmps52
  go_wp2_with fail
  obtain ⟨w0, hw0⟩ : ∃ w0, ((w.alloc (.cells (cS k r h A N c) 26)).alloc (.cells #[.int .i64 ax, .int .i64 ay, .int .i64 az, .int .i64 tw, .int .i64 tx, .int .i64 ty, .int .i64 tz] 31)).alloc (.cells #[.slice none 0 0, .slice none 0 0, .slice none 0 0, .int .i64 0] 36) = w0 := ⟨_, rfl⟩
  have P0 : Hid (w0.heap[w.heap.size + 1]? = some (.cells #[.int .i64 ax, .int .i64 ay, .int .i64 az, .int .i64 tw, .int .i64 tx, .int .i64 ty, .int .i64 tz] 31 (0, 0))) := Lib.hid (by rw [← hw0]; exact three1 _ _ _ _)
  have R0 : Hid (w0.heap[w.heap.size + 1 + 1]? = some (.cells #[.slice none 0 0, .slice none 0 0, .slice none 0 0, .int .i64 0] 36 (0, 0))) := Lib.hid (by rw [← hw0]; exact three2 _ _ _ _)
  have W0 := Lib.hid (show Below w.heap.size w w0 by rw [← hw0]; exact (((Below.refl _ w).alloc (Nat.le_refl _) _).alloc (by simp) _).alloc (by simp; omega) _)
  rw [hw0]
  clear hw0
  refine (HR5.out w0 (HAA.out.below W0.out)).mono ?_
  rintro e w1 ⟨A5, c5, rfl, hrd, hc5, hb⟩
  have P1 := Lib.hid ((hb.block _ (blk_lt P0.out)).trans P0.out)
  have R1 := Lib.hid ((hb.block _ (blk_lt R0.out)).trans R0.out)
  have W1 := Lib.hid (bthen W0.out hb)
  have HC := Lib.hid (core_calls s A5 c5 HS.out w1 hrd)
  clear hb hrd hc5 W0 P0 R0
  go_wp2_with fail
  refine HC.out.mono ?_
  rintro e w2 ⟨p, a, e, hci, v, rfl, hv, hb⟩
  obtain ⟨A0, A1, A2, c0, c1, c2, rfl, g0, g1, g2, k0, k1, k2⟩ := hv.out
  have HCI := Lib.hid hci
  have hB := hci.bounds HS.out
  have P2 := Lib.hid ((hb.block _ (blk_lt P1.out)).trans P1.out)
  have R2 := Lib.hid ((hb.block _ (blk_lt R1.out)).trans R1.out)
  have W2 := Lib.hid (bthen W1.out hb)
  have HPL := Lib.hid (fun (W : World) (hW0 : RdB W A0 p) (hW1 : RdB W A1 a) (hW2 : RdB W A2 e) => place_in q p a e s.radius A0 A1 A2 c0 c1 c2 W hW0 hW1 hW2 k0 k1 k2 HQ.out.1.quat (rowsF q.turn) rfl (rows_mOk HQ.out.1) HQ.out.2 hB.p0 (by have := hB.p1; omega) (by have := hB.a1; omega) (by have := hB.e1; omega) hB.pin hB.ain hB.ein)
  obtain ⟨NP, hNP⟩ : ∃ n, p.length = n := ⟨_, rfl⟩
  obtain ⟨NA, hNA⟩ : ∃ n, a.length = n := ⟨_, rfl⟩
  obtain ⟨NE, hNE⟩ : ∃ n, e.length = n := ⟨_, rfl⟩
  rw [hNP, hNA, hNE] at HPL ⊢
  obtain ⟨ra, hra⟩ : ∃ n, s.radius = n := ⟨_, rfl⟩
  rw [hra] at HPL ⊢
  have HRA := Lib.hid hra
  obtain ⟨LP, hLP⟩ : ∃ L, p.map (placePt (rowsF q.turn) q.at_) = L := ⟨_, rfl⟩
  obtain ⟨LA, hLA⟩ : ∃ L, waysF (rowsF q.turn) a = L := ⟨_, rfl⟩
  obtain ⟨LE, hLE⟩ : ∃ L, waysF (rowsF q.turn) e = L := ⟨_, rfl⟩
  rw [hLP, hLA, hLE] at HPL
  have HLP := Lib.hid hLP
  have HLA := Lib.hid hLA
  have HLE := Lib.hid hLE
  have G0 := Lib.hid g0
  have G1 := Lib.hid g1
  have G2 := Lib.hid g2
  clear hNP hNA hNE hra hLP hLA hLE g0 g1 g2 k0 k1 k2 hB hci hv hb P1 R1 W1 HC HR5 HQ
  obtain ⟨CB, hCB⟩ : ∃ g, w2.heap.size = g := ⟨_, rfl⟩
  have zc := heap_alloc_new w2 (.cells #[.slice A0 NP c0, .slice A1 NA c1, .slice A2 NE c2, .int .i64 ra] 36)
  have bc := (Below.refl w2.heap.size w2).alloc (Nat.le_refl _) (.cells #[.slice A0 NP c0, .slice A1 NA c1, .slice A2 NE c2, .int .i64 ra] 36)
  obtain ⟨w3, hw3⟩ : ∃ V, w2.alloc (.cells #[.slice A0 NP c0, .slice A1 NA c1, .slice A2 NE c2, .int .i64 ra] 36) = V := ⟨_, rfl⟩
  rw [hw3] at zc bc
  rw [hCB] at zc
  have C3 := Lib.hid zc
  have P3_ := Lib.hid ((bc.block _ (blk_lt P2.out)).trans P2.out)
  have R3 := Lib.hid ((bc.block _ (blk_lt R2.out)).trans R2.out)
  have W3 := Lib.hid (bthen W2.out bc)
  have G0 := Lib.hid (G0.out.below bc)
  have G1 := Lib.hid (G1.out.below bc)
  have G2 := Lib.hid (G2.out.below bc)
  have hw3' := Lib.hid hw3
  have hCB' := Lib.hid hCB
  clear zc bc hw3 hCB P2 R2 W2
  go_wp2_with fail
  rw [hw3'.out, hCB'.out]
  clear hw3' hCB'
  have lC : CB < w3.heap.size := blk_lt C3.out
  have lP : w.heap.size + 1 < w3.heap.size := blk_lt P3_.out
  have x0 : w3.cell? ⟨CB, 0, none⟩ = some (.slice A0 NP c0) := (blk_cell C3.out 0).trans rfl
  have x1 : w3.cell? ⟨CB, 1, none⟩ = some (.slice A1 NA c1) := (blk_cell C3.out 1).trans rfl
  have x2 : w3.cell? ⟨CB, 2, none⟩ = some (.slice A2 NE c2) := (blk_cell C3.out 2).trans rfl
  have x3 : w3.cell? ⟨CB, 3, none⟩ = some (.int .i64 ra) := (blk_cell C3.out 3).trans rfl
  have y0 : w3.cell? ⟨w.heap.size + 1, 0, none⟩ = some (.int .i64 ax) := (blk_cell P3_.out 0).trans rfl
  have y1 : w3.cell? ⟨w.heap.size + 1, 1, none⟩ = some (.int .i64 ay) := (blk_cell P3_.out 1).trans rfl
  have y2 : w3.cell? ⟨w.heap.size + 1, 2, none⟩ = some (.int .i64 az) := (blk_cell P3_.out 2).trans rfl
  have y3 : w3.cell? ⟨w.heap.size + 1, 3, none⟩ = some (.int .i64 tw) := (blk_cell P3_.out 3).trans rfl
  have y4 : w3.cell? ⟨w.heap.size + 1, 4, none⟩ = some (.int .i64 tx) := (blk_cell P3_.out 4).trans rfl
  have y5 : w3.cell? ⟨w.heap.size + 1, 5, none⟩ = some (.int .i64 ty) := (blk_cell P3_.out 5).trans rfl
  have y6 : w3.cell? ⟨w.heap.size + 1, 6, none⟩ = some (.int .i64 tz) := (blk_cell P3_.out 6).trans rfl
  have HB := Lib.hid ((Below.refl (w3.heap.size) w3).drew)
  have FF := Lib.hid (show ∀ V, Hid (Below (w3.heap.size) w3 V) → V.cell? ⟨CB, 0, none⟩ = some (.slice A0 NP c0) ∧ V.cell? ⟨CB, 1, none⟩ = some (.slice A1 NA c1) ∧ V.cell? ⟨CB, 2, none⟩ = some (.slice A2 NE c2) ∧ V.cell? ⟨CB, 3, none⟩ = some (.int .i64 ra) ∧ V.cell? ⟨w.heap.size + 1, 0, none⟩ = some (.int .i64 ax) ∧ V.cell? ⟨w.heap.size + 1, 1, none⟩ = some (.int .i64 ay) ∧ V.cell? ⟨w.heap.size + 1, 2, none⟩ = some (.int .i64 az) ∧ V.cell? ⟨w.heap.size + 1, 3, none⟩ = some (.int .i64 tw) ∧ V.cell? ⟨w.heap.size + 1, 4, none⟩ = some (.int .i64 tx) ∧ V.cell? ⟨w.heap.size + 1, 5, none⟩ = some (.int .i64 ty) ∧ V.cell? ⟨w.heap.size + 1, 6, none⟩ = some (.int .i64 tz) from fun V HB => ⟨(HB.out.cell (p := ⟨CB, 0, none⟩) (lC)).trans x0, (HB.out.cell (p := ⟨CB, 1, none⟩) (lC)).trans x1, (HB.out.cell (p := ⟨CB, 2, none⟩) (lC)).trans x2, (HB.out.cell (p := ⟨CB, 3, none⟩) (lC)).trans x3, (HB.out.cell (p := ⟨w.heap.size + 1, 0, none⟩) (lP)).trans y0, (HB.out.cell (p := ⟨w.heap.size + 1, 1, none⟩) (lP)).trans y1, (HB.out.cell (p := ⟨w.heap.size + 1, 2, none⟩) (lP)).trans y2, (HB.out.cell (p := ⟨w.heap.size + 1, 3, none⟩) (lP)).trans y3, (HB.out.cell (p := ⟨w.heap.size + 1, 4, none⟩) (lP)).trans y4, (HB.out.cell (p := ⟨w.heap.size + 1, 5, none⟩) (lP)).trans y5, (HB.out.cell (p := ⟨w.heap.size + 1, 6, none⟩) (lP)).trans y6⟩)
  refine start_ (n := 10) (S := fun w' => w'.cell? ⟨CB, 0, none⟩ = some (.slice A0 NP c0) ∧ w'.cell? ⟨CB, 1, none⟩ = some (.slice A1 NA c1) ∧ w'.cell? ⟨CB, 2, none⟩ = some (.slice A2 NE c2) ∧ w'.cell? ⟨CB, 3, none⟩ = some (.int .i64 ra) ∧ w'.cell? ⟨w.heap.size + 1, 0, none⟩ = some (.int .i64 ax) ∧ w'.cell? ⟨w.heap.size + 1, 1, none⟩ = some (.int .i64 ay) ∧ w'.cell? ⟨w.heap.size + 1, 2, none⟩ = some (.int .i64 az) ∧ w'.cell? ⟨w.heap.size + 1, 3, none⟩ = some (.int .i64 tw) ∧ w'.cell? ⟨w.heap.size + 1, 4, none⟩ = some (.int .i64 tx) ∧ w'.cell? ⟨w.heap.size + 1, 5, none⟩ = some (.int .i64 ty) ∧ w'.cell? ⟨w.heap.size + 1, 6, none⟩ = some (.int .i64 tz)) (ds := []) (MT 0 10) (by kernel_rfl) rfl rfl (FF.out _ HB) (fun hHeld => ?_)
  obtain ⟨wd, hwd⟩ : ∃ x, w3.drew = x := ⟨_, rfl⟩
  rw [hwd] at HB hHeld ⊢
  clear hwd
  refine ta_ 0 16 hHeld (h := ?_)
  refine ta_ 1 17 hHeld (h := ?_)
  refine join_ (σ := Nat × Value) 2 (MT 8 2) (fun s => [(7, .pointer (some ⟨s.1, 0, none⟩)), (18, .agg (cP7 q)), (19, .tuple #[s.2, .bool true]), (15, .tuple #[s.2, .bool true]), (20, s.2), (21, .bool true)]) (fun (s : Nat × Value) w' => match s with | (s1, s2) => w3.heap.size ≤ s1 ∧ w'.heap[s1]? = some (.cells #[.slice none 0 0, .slice none 0 0, .slice none 0 0, .int .i64 0] 36 (0, 0)) ∧ Below (w3.heap.size) w3 w' ∧ CoreV w' s2 LP LA LE ra) ?_ ?_
  rotate_left
  · intro hCont
    refine two_ (i := 2) (j := 7) (Ni := some 18) (Nj := some 7) (MT 3 7) #[true, true, false, false, false, false, false, true, false, false] rfl rfl rfl rfl (by kernel_rfl) (by decide) (by decide) (fun K hK => ?_) (fun K hK => ?_)
    · skip
      refine goes_ Try.func55 (by kernel_rfl) rfl #[.agg #[.int .i64 ax, .int .i64 ay, .int .i64 az, .int .i64 tw, .int .i64 tx, .int .i64 ty, .int .i64 tz]] (by rfl) rfl rfl (by simp only [List.map_toArray, List.map_cons, List.map_nil]; rfl) ?_
      with_reducible refine (HR6.out _).mono ?_
      rintro e' w4 ⟨rfl, hb⟩
      have HB := Lib.hid (HB.out.trans (hb.mono (Nat.le_trans (Nat.le_refl _) HB.out.size)))
      clear hb
      refine ⟨_, rfl, ?_⟩
      refine hK.out _ _ (FF.out _ HB) (fun hHeld => ?_)
      clear hK K
      refine no_ (h := ?_)
      refine two_ (i := 3) (j := 7) (Ni := some 19) (Nj := some 7) (MT 4 6) #[true, true, true, false, false, false, false, true, false, false] rfl rfl rfl rfl (by kernel_rfl) (by decide) (by decide) (fun K hK => ?_) (fun K hK => ?_)
      · skip
        refine goes_ Try.func56 (by kernel_rfl) rfl #[.agg #[.slice A0 NP c0, .slice A1 NA c1, .slice A2 NE c2, .int .i64 ra], .agg (cP7 q)] (by rfl) rfl rfl (by simp only [List.map_toArray, List.map_cons, List.map_nil]; rfl) ?_
        with_reducible refine (HPL.out _ (G0.out.below HB.out) (G1.out.below HB.out) (G2.out.below HB.out)).mono ?_
        rintro e' w4 ⟨v, rfl, hv, hb⟩
        have HB := Lib.hid (HB.out.trans (hb.mono (Nat.le_trans (Nat.le_refl _) HB.out.size)))
        have HV := Lib.hid hv
        clear hv
        clear hb
        refine ⟨_, rfl, ?_⟩
        refine hK.out _ _ (FF.out _ HB) (fun hHeld => ?_)
        clear hK K
        refine no_ (h := ?_)
        refine pu_ 4 15 (h := ?_)
        refine pu_ 5 20 (h := ?_)
        refine pu_ 6 21 (h := ?_)
        refine on_ 7 (some 7) (h := fun K hK => ?_)
        refine value_ (w1 := ?_) (v := ?_) (by rfl) rfl ?_ ?_
        rotate_left 2
        · go_simp
          constructor
          · rfl
          · rfl
        have HA := Lib.hid (ha_new HB.out (.cells #[.slice none 0 0, .slice none 0 0, .slice none 0 0, .int .i64 0] 36))
        have hge := HB.out.size
        have HB := Lib.hid (HB.out.alloc (Nat.le_trans (Nat.le_refl _) HB.out.size) (.cells #[.slice none 0 0, .slice none 0 0, .slice none 0 0, .int .i64 0] 36))
        have HV := Lib.hid (HV.out.below ((Below.refl _ _).alloc (Nat.le_refl _) (.cells #[.slice none 0 0, .slice none 0 0, .slice none 0 0, .int .i64 0] 36)))
        refine hK.out _ _ (FF.out _ HB) (fun hHeld => ?_)
        clear hK K
        refine no_ (h := ?_)
        exact norm_ (by simp only [putAll, Act.put, List.setIfInBounds_toArray, List.set_cons_zero, List.set_cons_succ]) (hCont (_, _) _ ⟨hge, HA.out, HB.out, HV.out⟩)
      · skip
        refine value_ (w1 := ?_) (v := ?_) (by rfl) rfl ?_ ?_
        rotate_left 2
        · go_simp
          constructor
          · rfl
          · rfl
        have HA := Lib.hid (ha_new HB.out (.cells #[.slice none 0 0, .slice none 0 0, .slice none 0 0, .int .i64 0] 36))
        have hge := HB.out.size
        have HB := Lib.hid (HB.out.alloc (Nat.le_trans (Nat.le_refl _) HB.out.size) (.cells #[.slice none 0 0, .slice none 0 0, .slice none 0 0, .int .i64 0] 36))
        refine hK.out _ _ (FF.out _ HB) (fun hHeld => ?_)
        clear hK K
        refine no_ (h := ?_)
        refine on_ 3 (some 19) (h := fun K hK => ?_)
        refine goes_ Try.func56 (by kernel_rfl) rfl #[.agg #[.slice A0 NP c0, .slice A1 NA c1, .slice A2 NE c2, .int .i64 ra], .agg (cP7 q)] (by rfl) rfl rfl (by simp only [List.map_toArray, List.map_cons, List.map_nil]; rfl) ?_
        with_reducible refine (HPL.out _ (G0.out.below HB.out) (G1.out.below HB.out) (G2.out.below HB.out)).mono ?_
        rintro e' w4 ⟨v, rfl, hv, hb⟩
        have HB := Lib.hid (HB.out.trans (hb.mono (Nat.le_trans (Nat.le_refl _) HB.out.size)))
        have HA := Lib.hid ((hb.block _ (blk_lt HA.out)).trans HA.out)
        have HV := Lib.hid hv
        clear hv
        clear hb
        refine ⟨_, rfl, ?_⟩
        refine hK.out _ _ (FF.out _ HB) (fun hHeld => ?_)
        clear hK K
        refine no_ (h := ?_)
        refine pu_ 4 15 (h := ?_)
        refine pu_ 5 20 (h := ?_)
        refine pu_ 6 21 (h := ?_)
        exact norm_ (by simp only [putAll, Act.put, List.setIfInBounds_toArray, List.set_cons_zero, List.set_cons_succ]) (hCont (_, _) _ ⟨hge, HA.out, HB.out, HV.out⟩)
    · skip
      refine value_ (w1 := ?_) (v := ?_) (by rfl) rfl ?_ ?_
      rotate_left 2
      · go_simp
        constructor
        · rfl
        · rfl
      have HA := Lib.hid (ha_new HB.out (.cells #[.slice none 0 0, .slice none 0 0, .slice none 0 0, .int .i64 0] 36))
      have hge := HB.out.size
      have HB := Lib.hid (HB.out.alloc (Nat.le_trans (Nat.le_refl _) HB.out.size) (.cells #[.slice none 0 0, .slice none 0 0, .slice none 0 0, .int .i64 0] 36))
      refine hK.out _ _ (FF.out _ HB) (fun hHeld => ?_)
      clear hK K
      refine no_ (h := ?_)
      refine on_ 2 (some 18) (h := fun K hK => ?_)
      refine goes_ Try.func55 (by kernel_rfl) rfl #[.agg #[.int .i64 ax, .int .i64 ay, .int .i64 az, .int .i64 tw, .int .i64 tx, .int .i64 ty, .int .i64 tz]] (by rfl) rfl rfl (by simp only [List.map_toArray, List.map_cons, List.map_nil]; rfl) ?_
      with_reducible refine (HR6.out _).mono ?_
      rintro e' w4 ⟨rfl, hb⟩
      have HB := Lib.hid (HB.out.trans (hb.mono (Nat.le_trans (Nat.le_refl _) HB.out.size)))
      have HA := Lib.hid ((hb.block _ (blk_lt HA.out)).trans HA.out)
      clear hb
      refine ⟨_, rfl, ?_⟩
      refine hK.out _ _ (FF.out _ HB) (fun hHeld => ?_)
      clear hK K
      refine no_ (h := ?_)
      refine on_ 3 (some 19) (h := fun K hK => ?_)
      refine goes_ Try.func56 (by kernel_rfl) rfl #[.agg #[.slice A0 NP c0, .slice A1 NA c1, .slice A2 NE c2, .int .i64 ra], .agg (cP7 q)] (by rfl) rfl rfl (by simp only [List.map_toArray, List.map_cons, List.map_nil]; rfl) ?_
      with_reducible refine (HPL.out _ (G0.out.below HB.out) (G1.out.below HB.out) (G2.out.below HB.out)).mono ?_
      rintro e' w4 ⟨v, rfl, hv, hb⟩
      have HB := Lib.hid (HB.out.trans (hb.mono (Nat.le_trans (Nat.le_refl _) HB.out.size)))
      have HA := Lib.hid ((hb.block _ (blk_lt HA.out)).trans HA.out)
      have HV := Lib.hid hv
      clear hv
      clear hb
      refine ⟨_, rfl, ?_⟩
      refine hK.out _ _ (FF.out _ HB) (fun hHeld => ?_)
      clear hK K
      refine no_ (h := ?_)
      refine pu_ 4 15 (h := ?_)
      refine pu_ 5 20 (h := ?_)
      refine pu_ 6 21 (h := ?_)
      exact norm_ (by simp only [putAll, Act.put, List.setIfInBounds_toArray, List.set_cons_zero, List.set_cons_succ]) (hCont (_, _) _ ⟨hge, HA.out, HB.out, HV.out⟩)
  rintro ⟨AB, V⟩ wj ⟨hge, HA, HB, HV⟩
  have HA := Lib.hid HA
  have HB := Lib.hid HB
  (try simp only at hge HA HB HV)
  have HV := Lib.hid HV
  obtain ⟨B0, B1, B2, d0, d1, d2, hV, g0, g1, g2, k0, k1, k2⟩ := HV.out
  subst hV
  have G3 := Lib.hid g0
  have G4 := Lib.hid g1
  have G5 := Lib.hid g2
  have K0 := Lib.hid k0
  have K1 := Lib.hid k1
  have K2 := Lib.hid k2
  clear g0 g1 g2 k0 k1 k2
  have HA_ := HA
  have hHeld : wj.cell? ⟨CB, 0, none⟩ = some (.slice A0 NP c0) ∧ wj.cell? ⟨CB, 1, none⟩ = some (.slice A1 NA c1) ∧ wj.cell? ⟨CB, 2, none⟩ = some (.slice A2 NE c2) ∧ wj.cell? ⟨CB, 3, none⟩ = some (.int .i64 ra) ∧ wj.cell? ⟨w.heap.size + 1, 0, none⟩ = some (.int .i64 ax) ∧ wj.cell? ⟨w.heap.size + 1, 1, none⟩ = some (.int .i64 ay) ∧ wj.cell? ⟨w.heap.size + 1, 2, none⟩ = some (.int .i64 az) ∧ wj.cell? ⟨w.heap.size + 1, 3, none⟩ = some (.int .i64 tw) ∧ wj.cell? ⟨w.heap.size + 1, 4, none⟩ = some (.int .i64 tx) ∧ wj.cell? ⟨w.heap.size + 1, 5, none⟩ = some (.int .i64 ty) ∧ wj.cell? ⟨w.heap.size + 1, 6, none⟩ = some (.int .i64 tz) := (FF.out _ HB)
  refine no_ (h := ?_)
  refine on_ 8 (none) (h := fun K hK => ?_)
  have sc0 : World.cell? _ ⟨AB, 0, none⟩ = some (.slice none 0 0) := (blk_cell HA.out 0).trans rfl
  have sf0 := blk_frozen HA.out 0
  have sc1 : World.cell? _ ⟨AB, 1, none⟩ = some (.slice none 0 0) := (blk_cell HA.out 1).trans rfl
  have sf1 := blk_frozen HA.out 1
  have sc2 : World.cell? _ ⟨AB, 2, none⟩ = some (.slice none 0 0) := (blk_cell HA.out 2).trans rfl
  have sf2 := blk_frozen HA.out 2
  have sc3 : World.cell? _ ⟨AB, 3, none⟩ = some (.int .i64 0) := (blk_cell HA.out 3).trans rfl
  have sf3 := blk_frozen HA.out 3
  refine skip_ (w1 := ?_) (by rfl) rfl ?_ ?_
  rotate_left
  · go_simp
    rfl
  have HA := Lib.hid (bs4 HA.out (.slice B0 LP.length d0) (.slice B1 LA.length d1) (.slice B2 LE.length d2) (.int .i64 ra))
  have HB := Lib.hid (bb4 HB.out (Nat.le_trans (Nat.le_refl _) hge) (.slice B0 LP.length d0) (.slice B1 LA.length d1) (.slice B2 LE.length d2) (.int .i64 ra))
  clear sc0 sf0 sc1 sf1 sc2 sf2 sc3 sf3
  refine hK.out _ _ (FF.out _ HB) (fun hHeld => ?_)
  clear hK K
  refine pu_ 9 8 (h := ?_)
  refine done_ (by kernel_rfl) ?_
  have G35 := Lib.hid (G3.out.setS HA_.out (.slice B0 LP.length d0) (.slice B1 LA.length d1) (.slice B2 LE.length d2) (.int .i64 ra))
  have G45 := Lib.hid (G4.out.setS HA_.out (.slice B0 LP.length d0) (.slice B1 LA.length d1) (.slice B2 LE.length d2) (.int .i64 ra))
  have G55 := Lib.hid (G5.out.setS HA_.out (.slice B0 LP.length d0) (.slice B1 LA.length d1) (.slice B2 LE.length d2) (.int .i64 ra))
  obtain ⟨w5, hwn⟩ : ∃ V, ((((wj.setCell ⟨AB, 0, none⟩ (.slice B0 LP.length d0)).setCell ⟨AB, 1, none⟩ (.slice B1 LA.length d1)).setCell ⟨AB, 2, none⟩ (.slice B2 LE.length d2)).setCell ⟨AB, 3, none⟩ (.int .i64 ra)) = V := ⟨_, rfl⟩
  rw [hwn] at HA HB G35 G45 G55 ⊢
  clear hwn
  have HA5 := HA
  have R5 := Lib.hid ((HB.out.block _ (blk_lt R3.out)).trans R3.out)
  have W5 := Lib.hid (bthen W3.out HB.out)
  have lA : AB < w5.heap.size := blk_lt HA5.out
  have lR : w.heap.size + 1 + 1 < w5.heap.size := blk_lt R5.out
  have d0_ : w5.cell? ⟨AB, 0, none⟩ = some (.slice B0 LP.length d0) := (blk_cell HA5.out 0).trans rfl
  have r0 : w5.cell? ⟨w.heap.size + 1 + 1, 0, none⟩ = some (.slice none 0 0) := (blk_cell R5.out 0).trans rfl
  have f0 : w5.frozen? ⟨w.heap.size + 1 + 1, 0, none⟩ = false := blk_frozen R5.out 0
  have d1_ : w5.cell? ⟨AB, 1, none⟩ = some (.slice B1 LA.length d1) := (blk_cell HA5.out 1).trans rfl
  have r1 : w5.cell? ⟨w.heap.size + 1 + 1, 1, none⟩ = some (.slice none 0 0) := (blk_cell R5.out 1).trans rfl
  have f1 : w5.frozen? ⟨w.heap.size + 1 + 1, 1, none⟩ = false := blk_frozen R5.out 1
  have d2_ : w5.cell? ⟨AB, 2, none⟩ = some (.slice B2 LE.length d2) := (blk_cell HA5.out 2).trans rfl
  have r2 : w5.cell? ⟨w.heap.size + 1 + 1, 2, none⟩ = some (.slice none 0 0) := (blk_cell R5.out 2).trans rfl
  have f2 : w5.frozen? ⟨w.heap.size + 1 + 1, 2, none⟩ = false := blk_frozen R5.out 2
  have d3_ : w5.cell? ⟨AB, 3, none⟩ = some (.int .i64 ra) := (blk_cell HA5.out 3).trans rfl
  have r3 : w5.cell? ⟨w.heap.size + 1 + 1, 3, none⟩ = some (.int .i64 0) := (blk_cell R5.out 3).trans rfl
  have f3 : w5.frozen? ⟨w.heap.size + 1 + 1, 3, none⟩ = false := blk_frozen R5.out 3
  have T7 := bs4 R5.out (.slice B0 LP.length d0) (.slice B1 LA.length d1) (.slice B2 LE.length d2) (.int .i64 ra)
  have B7 := bb4 W5.out (show w.heap.size ≤ w.heap.size + 1 + 1 by omega) (.slice B0 LP.length d0) (.slice B1 LA.length d1) (.slice B2 LE.length d2) (.int .i64 ra)
  have p7 := G35.out.setS R5.out (.slice B0 LP.length d0) (.slice B1 LA.length d1) (.slice B2 LE.length d2) (.int .i64 ra)
  have a7 := G45.out.setS R5.out (.slice B0 LP.length d0) (.slice B1 LA.length d1) (.slice B2 LE.length d2) (.int .i64 ra)
  have e7 := G55.out.setS R5.out (.slice B0 LP.length d0) (.slice B1 LA.length d1) (.slice B2 LE.length d2) (.int .i64 ra)
  obtain ⟨w7, hw7⟩ : ∃ V, ((((w5.setCell ⟨w.heap.size + 1 + 1, 0, none⟩ (.slice B0 LP.length d0)).setCell ⟨w.heap.size + 1 + 1, 1, none⟩ (.slice B1 LA.length d1)).setCell ⟨w.heap.size + 1 + 1, 2, none⟩ (.slice B2 LE.length d2)).setCell ⟨w.heap.size + 1 + 1, 3, none⟩ (.int .i64 ra)) = V := ⟨_, rfl⟩
  rw [hw7] at T7 B7 p7 a7 e7
  have hv7 := Lib.hid hw7
  have T7 := Lib.hid T7
  have B7 := Lib.hid B7
  have HVF := Lib.hid (show CoreV w7 (.agg #[.slice B0 LP.length d0, .slice B1 LA.length d1, .slice B2 LE.length d2, .int .i64 ra]) LP LA LE ra from ⟨B0, B1, B2, d0, d1, d2, rfl, p7, a7, e7, K0.out, K1.out, K2.out⟩)
  clear hw7 p7 a7 e7 x0 x1 x2 x3 y0 y1 y2 y3 y4 y5 y6 lC lP hge
  go_wp2
  (try rw [hv7.out])
  have y0 : w7.cell? ⟨w.heap.size + 1 + 1, 0, none⟩ = some (.slice B0 LP.length d0) := (blk_cell T7.out 0).trans rfl
  have y1 : w7.cell? ⟨w.heap.size + 1 + 1, 1, none⟩ = some (.slice B1 LA.length d1) := (blk_cell T7.out 1).trans rfl
  have y2 : w7.cell? ⟨w.heap.size + 1 + 1, 2, none⟩ = some (.slice B2 LE.length d2) := (blk_cell T7.out 2).trans rfl
  have y3 : w7.cell? ⟨w.heap.size + 1 + 1, 3, none⟩ = some (.int .i64 ra) := (blk_cell T7.out 3).trans rfl
  exact bodyPost_ret (v := .agg #[.slice B0 LP.length d0, .slice B1 LA.length d1, .slice B2 LE.length d2, .int .i64 ra]) (by simp [results, Try.results52, go_sem, y0, y1, y2, y3]) rfl ⟨_, p, a, e, rfl, HCI.out, by rw [HLP.out, HLA.out, HLE.out, HRA.out]; exact HVF.out, B7.out⟩
end Go.Proofs.Ytckdhahceelckaa.G
namespace Go.Proofs.Ytckdhahceelckaa.G
open Go.RowKit Go.Proofs.YtckdhahceelckaaW.PrintWords Go.Proofs.YtckdhahceelckaaW.PrintLast Go.Proofs.YtckdhahceelckaaW.PrintMore
attribute [local go_sem] max2_mx min2_mn max_two min_two max_three min_three max_four min_four
attribute [local go_sem high] eqA23
set_option linter.unusedVariables false
set_option linter.unusedSimpArgs false
/-- the flat cells of a Two -/
abbrev cTwo (k1 r1 : Int) (h1 : P3) (A1 : Option Addr) (n1 c1 : Nat) (k2 r2 : Int) (h2 : P3) (A2 : Option Addr) (n2 c2 : Nat) (p q : P7) (near : Int) (way : P3) : Array Value :=
  #[.int .i64 k1, .int .i64 r1, .int .i64 h1.x, .int .i64 h1.y, .int .i64 h1.z, .slice A1 n1 c1, .int .i64 k2, .int .i64 r2, .int .i64 h2.x, .int .i64 h2.y, .int .i64 h2.z, .slice A2 n2 c2,
    .int .i64 p.at_.x, .int .i64 p.at_.y, .int .i64 p.at_.z, .int .i64 p.turn.w, .int .i64 p.turn.x, .int .i64 p.turn.y, .int .i64 p.turn.z,
    .int .i64 q.at_.x, .int .i64 q.at_.y, .int .i64 q.at_.z, .int .i64 q.turn.w, .int .i64 q.turn.x, .int .i64 q.turn.y, .int .i64 q.turn.z, .int .i64 near, .int .i64 way.x, .int .i64 way.y, .int .i64 way.z]
def CoreAt (s : Shp) (q : P7) (w : World) (v : Value) : Prop := ∃ p a e, CoreIs s p a e ∧ CoreV w v (p.map (placePt (rowsF q.turn) q.at_)) (waysF (rowsF q.turn) a) (waysF (rowsF q.turn) e) s.radius
theorem CoreAt.below {s : Shp} {q : P7} {w w1 : World} {v : Value} (h : CoreAt s q w v) (hb : Below w.heap.size w w1) : CoreAt s q w1 v := by
  obtain ⟨p, a, e, h1, h2⟩ := h
  exact ⟨p, a, e, h1, h2.below hb⟩
theorem CoreAt.setS {s : Shp} {q : P7} {w : World} {v : Value} (h : CoreAt s q w v) {g : Nat} {A0 A1 A2 : Option Addr} {n0 n1 n2 m0 m1 m2 : Nat} {x : Value} {t : TypeId} (hg : w.heap[g]? = some (.cells #[.slice A0 n0 m0, .slice A1 n1 m1, .slice A2 n2 m2, x] t (0, 0))) (u0 u1 u2 u3 : Value) :
    CoreAt s q ((((w.setCell ⟨g, 0, none⟩ u0).setCell ⟨g, 1, none⟩ u1).setCell ⟨g, 2, none⟩ u2).setCell ⟨g, 3, none⟩ u3) v := by
  obtain ⟨p, a, e, h1, h2⟩ := h
  obtain ⟨B0, B1, B2, c0, c1, c2, e1, g0, g1, g2, k⟩ := h2.out
  exact ⟨p, a, e, h1, ⟨B0, B1, B2, c0, c1, c2, e1, g0.setS hg u0 u1 u2 u3, g1.setS hg u0 u1 u2 u3, g2.setS hg u0 u1 u2 u3, k⟩⟩
theorem other4 {w : World} {g k : Nat} (h : k ≠ g) (u0 u1 u2 u3 : Value) : ((((w.setCell ⟨g, 0, none⟩ u0).setCell ⟨g, 1, none⟩ u1).setCell ⟨g, 2, none⟩ u2).setCell ⟨g, 3, none⟩ u3).heap[k]? = w.heap[k]? := by
  rw [Below.heap_setCell _ ⟨g, 3, none⟩ u3 k h, Below.heap_setCell _ ⟨g, 2, none⟩ u2 k h, Below.heap_setCell _ ⟨g, 1, none⟩ u1 k h, Below.heap_setCell _ ⟨g, 0, none⟩ u0 k h]
theorem blk7m {w : World} {g : Nat} {a b c d e f h : Value} {t : TypeId} (hh : w.heap[g]? = some (.cells #[a, b, c, d, e, f, h] t (0, 0))) (u v x : Value) : (((w.setCell ⟨g, 0, none⟩ u).setCell ⟨g, 1, none⟩ v).setCell ⟨g, 2, none⟩ x).heap[g]? = some (.cells #[u, v, x, d, e, f, h] t (0, 0)) := by
  have h8 := blk_set (blk_set (blk_set hh 0 u) 1 v) 2 x
  simp only [List.setIfInBounds_toArray, List.set_cons_zero, List.set_cons_succ] at h8
  exact h8
def nearF (near : Int) (way at_ : P3) : P3 := ⟨at_.x + (pickF way.x (2 * (1 + pickF near 131072)) - (1 + pickF near 131072)) * 1048576, at_.y + (pickF way.y (2 * (1 + pickF near 131072)) - (1 + pickF near 131072)) * 1048576, at_.z + (pickF way.z (2 * (1 + pickF near 131072)) - (1 + pickF near 131072)) * 1048576⟩
def CoresPost (s1 s2 : Shp) (p q : P7) (w : World) (en : Ending) (w' : World) : Prop := ∃ va vb, en = .returned (.tuple #[va, vb]) ∧ CoreAt s1 p w' va ∧ CoreAt s2 q w' vb ∧ Below w.heap.size w w'
set_option maxHeartbeats 8000000 in
set_option maxRecDepth 100000 in
theorem cores_calls (k1 r1 : Int) (h1 : P3) (l1 : List P3) (A1 : Option Addr) (c1 : Nat) (k2 r2 : Int) (h2 : P3) (l2 : List P3) (A2 : Option Addr) (c2 : Nat) (p q : P7) (near : Int) (way : P3) (w : World)
    (hA1 : RdB w A1 l1) (hr1 : RawOk k1 r1 h1 l1) (hA2 : RdB w A2 l2) (hr2 : RawOk k2 r2 h2 l2) (hp : i64s p) (hq : i64s q) (hne : i64 near) (hwa : pI64 way) :
    Calls Try.prog 19 #[.agg (cTwo k1 r1 h1 A1 l1.length c1 k2 r2 h2 A2 l2.length c2 p q near way)] w (CoresPost (rightS k1 r1 h1 l1) (rightS k2 r2 h2 l2) (rightPose p) ⟨nearF near way (rightPose p).at_, (rightPose q).turn⟩ w) := by
  have HP1 := Lib.hid (fun (W : World) (hW : RdB W A1 l1) => placed_calls k1 r1 h1 l1 A1 c1 p W hW hr1 hp)
  have HR2 := Lib.hid (fun (W : World) (hW : RdB W A2 l2) => right5_calls k2 r2 h2 l2 A2 c2 W hW hr2.len hr2.k hr2.r hr2.h hr2.pts)
  have HRP := Lib.hid (fun (W : World) => right6_calls p W hp)
  have HRQ := Lib.hid (fun (W : World) => right6_calls q W hq)
  have HQ : Hid (q32 (rightPose q).turn) := Lib.hid (by simp only [rightPose]; exact wholeF_q32 (partQ q.turn))
  have HS := Lib.hid (rightS_ok k2 r2 h2 l2)
  have HPA : -4398046511104 ≤ (rightPose p).at_.x ∧ (rightPose p).at_.x ≤ 4398046511104 ∧ -4398046511104 ≤ (rightPose p).at_.y ∧ (rightPose p).at_.y ≤ 4398046511104 ∧ -4398046511104 ≤ (rightPose p).at_.z ∧ (rightPose p).at_.z ≤ 4398046511104 := by
    have a := partF_bd p.at_.x 4398046511104 (by decide)
    have b := partF_bd p.at_.y 4398046511104 (by decide)
    have c := partF_bd p.at_.z 4398046511104 (by decide)
    simp only [rightPose, partV]
    exact ⟨a.1, a.2, b.1, b.2, c.1, c.2⟩
  have HPA := Lib.hid HPA
  have HNE := Lib.hid (fun (W : World) => pick_calls near 131072 hne.1 hne.2 (by decide) (by decide) W)
  have bn := pickF_bd near 131072 (by decide)
  have HNF : Hid (∀ a, nearF near way a = _) := Lib.hid (fun a => by unfold nearF; rfl)
  obtain ⟨qn, hqn⟩ : ∃ x, pickF near 131072 = x := ⟨_, rfl⟩
  rw [hqn] at HNE bn HNF
  have HWX := Lib.hid (fun (W : World) => pick_calls way.x (2 * (1 + qn)) hwa.1.1 hwa.1.2 (by omega) (by omega) W)
  have HWY := Lib.hid (fun (W : World) => pick_calls way.y (2 * (1 + qn)) hwa.2.1.1 hwa.2.1.2 (by omega) (by omega) W)
  have HWZ := Lib.hid (fun (W : World) => pick_calls way.z (2 * (1 + qn)) hwa.2.2.1 hwa.2.2.2 (by omega) (by omega) W)
  have bx := pickF_bd way.x (2 * (1 + qn)) (by omega)
  have by_ := pickF_bd way.y (2 * (1 + qn)) (by omega)
  have bz := pickF_bd way.z (2 * (1 + qn)) (by omega)
  have HA1 := Lib.hid hA1
  have HA2 := Lib.hid hA2
  obtain ⟨s1, hs1⟩ : ∃ s, rightS k1 r1 h1 l1 = s := ⟨_, rfl⟩
  obtain ⟨s2, hs2⟩ : ∃ s, rightS k2 r2 h2 l2 = s := ⟨_, rfl⟩
  obtain ⟨P, hP⟩ : ∃ s, rightPose p = s := ⟨_, rfl⟩
  obtain ⟨Q, hQ⟩ : ∃ s, rightPose q = s := ⟨_, rfl⟩
  rw [hs1, hP] at HP1
  rw [hs2] at HR2 HS
  rw [hP] at HRP HPA
  rw [hQ] at HRQ HQ
  rw [hs1, hs2, hP, hQ]
  obtain ⟨NF, hNF⟩ : ∃ s, nearF near way P.at_ = s := ⟨_, rfl⟩
  rw [hNF]
  have HNF2 := Lib.hid ((HNF.out P.at_).symm.trans hNF)
  obtain ⟨N1, hN1⟩ : ∃ N, l1.length = N := ⟨_, rfl⟩
  obtain ⟨N2, hN2⟩ : ∃ N, l2.length = N := ⟨_, rfl⟩
  rw [hN1] at HP1 ⊢
  rw [hN2] at HR2 ⊢
  clear hA1 hr1 hA2 hr2 hp hq hne hwa hs1 hs2 hP hQ hNF hN1 hN2 HNF hqn
  obtain ⟨h1x, h1y, h1z⟩ := h1
  obtain ⟨h2x, h2y, h2z⟩ := h2
  obtain ⟨⟨pax, pay, paz⟩, ⟨ptw, ptx, pty, ptz⟩⟩ := p
  obtain ⟨⟨qax, qay, qaz⟩, ⟨qtw, qtx, qty, qtz⟩⟩ := q
  obtain ⟨wx, wy, wz⟩ := way
  (try simp only at HWX HWY HWZ bx by_ bz HNF2)
  obtain ⟨⟨Px, Py, Pz⟩, ⟨Pw, Pi, Pj, Pk⟩⟩ := P
  obtain ⟨⟨Qx, Qy, Qz⟩, ⟨Qw, Qi, Qj, Qk_⟩⟩ := Q
  (try simp only at HPA HNF2 HQ)
  go_enter Try.func19, Try.ntmps19
  go_wp2_with fail
  obtain ⟨w0, hw0⟩ : ∃ w0, ((w.alloc (.cells #[.int .i64 k1, .int .i64 r1, .int .i64 h1x, .int .i64 h1y, .int .i64 h1z, .slice A1 N1 c1, .int .i64 k2, .int .i64 r2, .int .i64 h2x, .int .i64 h2y, .int .i64 h2z, .slice A2 N2 c2, .int .i64 pax, .int .i64 pay, .int .i64 paz, .int .i64 ptw, .int .i64 ptx, .int .i64 pty, .int .i64 ptz, .int .i64 qax, .int .i64 qay, .int .i64 qaz, .int .i64 qtw, .int .i64 qtx, .int .i64 qty, .int .i64 qtz, .int .i64 near, .int .i64 wx, .int .i64 wy, .int .i64 wz] 33)).alloc (.cells #[.slice none 0 0, .slice none 0 0, .slice none 0 0, .int .i64 0] 36)).alloc (.cells #[.slice none 0 0, .slice none 0 0, .slice none 0 0, .int .i64 0] 36) = w0 := ⟨_, rfl⟩
  have T0 : Hid (w0.heap[w.heap.size]? = some (.cells #[.int .i64 k1, .int .i64 r1, .int .i64 h1x, .int .i64 h1y, .int .i64 h1z, .slice A1 N1 c1, .int .i64 k2, .int .i64 r2, .int .i64 h2x, .int .i64 h2y, .int .i64 h2z, .slice A2 N2 c2, .int .i64 pax, .int .i64 pay, .int .i64 paz, .int .i64 ptw, .int .i64 ptx, .int .i64 pty, .int .i64 ptz, .int .i64 qax, .int .i64 qay, .int .i64 qaz, .int .i64 qtw, .int .i64 qtx, .int .i64 qty, .int .i64 qtz, .int .i64 near, .int .i64 wx, .int .i64 wy, .int .i64 wz] 33 (0, 0))) := Lib.hid (by rw [← hw0]; exact three0 _ _ _ _)
  have R1 : Hid (w0.heap[w.heap.size + 1]? = some (.cells #[.slice none 0 0, .slice none 0 0, .slice none 0 0, .int .i64 0] 36 (0, 0))) := Lib.hid (by rw [← hw0]; exact three1 _ _ _ _)
  have R2 : Hid (w0.heap[w.heap.size + 1 + 1]? = some (.cells #[.slice none 0 0, .slice none 0 0, .slice none 0 0, .int .i64 0] 36 (0, 0))) := Lib.hid (by rw [← hw0]; exact three2 _ _ _ _)
  have W := Lib.hid (show Below w.heap.size w w0 by rw [← hw0]; exact (((Below.refl _ w).alloc (Nat.le_refl _) _).alloc (by simp) _).alloc (by simp; omega) _)
  rw [hw0]
  clear hw0
  refine (HP1.out w0 (HA1.out.below W.out)).mono ?_
  rintro e w1 ⟨va, p1, a1, e1, rfl, hci1, hv1, hb⟩
  have HC1 : Hid (CoreAt s1 ⟨⟨Px, Py, Pz⟩, ⟨Pw, Pi, Pj, Pk⟩⟩ w1 va) := Lib.hid ⟨p1, a1, e1, hci1, hv1⟩
  have T0 := Lib.hid ((hb.block _ (blk_lt T0.out)).trans T0.out)
  have R1 := Lib.hid ((hb.block _ (blk_lt R1.out)).trans R1.out)
  have R2 := Lib.hid ((hb.block _ (blk_lt R2.out)).trans R2.out)
  have W := Lib.hid (bthen W.out hb)
  obtain ⟨B0, B1, B2, d0, d1, d2, hva, _⟩ := hv1.out
  obtain ⟨n0, hn0⟩ : ∃ n, (p1.map (placePt (rowsF (⟨⟨Px, Py, Pz⟩, ⟨Pw, Pi, Pj, Pk⟩⟩ : P7).turn) (⟨⟨Px, Py, Pz⟩, ⟨Pw, Pi, Pj, Pk⟩⟩ : P7).at_)).length = n := ⟨_, rfl⟩
  obtain ⟨n1, hn1⟩ : ∃ n, (waysF (rowsF (⟨⟨Px, Py, Pz⟩, ⟨Pw, Pi, Pj, Pk⟩⟩ : P7).turn) a1).length = n := ⟨_, rfl⟩
  obtain ⟨n2, hn2⟩ : ∃ n, (waysF (rowsF (⟨⟨Px, Py, Pz⟩, ⟨Pw, Pi, Pj, Pk⟩⟩ : P7).turn) e1).length = n := ⟨_, rfl⟩
  obtain ⟨ra1, hra1⟩ : ∃ n, s1.radius = n := ⟨_, rfl⟩
  rw [hn0, hn1, hn2, hra1] at hva
  subst hva
  clear hn0 hn1 hn2 hra1 hv1 hci1 hb
  have t6 : w1.cell? ⟨w.heap.size, 6, none⟩ = some (.int .i64 k2) := (blk_cell T0.out 6).trans rfl
  have t7 : w1.cell? ⟨w.heap.size, 7, none⟩ = some (.int .i64 r2) := (blk_cell T0.out 7).trans rfl
  have t8 : w1.cell? ⟨w.heap.size, 8, none⟩ = some (.int .i64 h2x) := (blk_cell T0.out 8).trans rfl
  have t9 : w1.cell? ⟨w.heap.size, 9, none⟩ = some (.int .i64 h2y) := (blk_cell T0.out 9).trans rfl
  have t10 : w1.cell? ⟨w.heap.size, 10, none⟩ = some (.int .i64 h2z) := (blk_cell T0.out 10).trans rfl
  have t11 : w1.cell? ⟨w.heap.size, 11, none⟩ = some (.slice A2 N2 c2) := (blk_cell T0.out 11).trans rfl
  have lT : w.heap.size < w1.heap.size := blk_lt T0.out
  have N41 := Lib.hid (blk_lt R1.out)
  obtain ⟨C4, hC4⟩ : ∃ g, w1.heap.size = g := ⟨_, rfl⟩
  have zc := heap_alloc_new w1 (.cells #[.slice B0 n0 d0, .slice B1 n1 d1, .slice B2 n2 d2, .int .i64 ra1] 36)
  have bc := (Below.refl w1.heap.size w1).alloc (Nat.le_refl _) (.cells #[.slice B0 n0 d0, .slice B1 n1 d1, .slice B2 n2 d2, .int .i64 ra1] 36)
  obtain ⟨w2, hw⟩ : ∃ V, w1.alloc (.cells #[.slice B0 n0 d0, .slice B1 n1 d1, .slice B2 n2 d2, .int .i64 ra1] 36) = V := ⟨_, rfl⟩
  rw [hw] at zc bc
  rw [hC4] at zc
  have C4b := Lib.hid zc
  have T0 := Lib.hid ((bc.block _ (blk_lt T0.out)).trans T0.out)
  have R1 := Lib.hid ((bc.block _ (blk_lt R1.out)).trans R1.out)
  have R2 := Lib.hid ((bc.block _ (blk_lt R2.out)).trans R2.out)
  have W := Lib.hid (bthen W.out bc)
  have HC1 := Lib.hid (HC1.out.below bc)
  have hw_w2 := Lib.hid hw
  have hC4_ := Lib.hid hC4
  clear zc bc hw hC4
  rw [hC4_.out] at N41
  go_wp2_with fail
  rw [hw_w2.out, hC4_.out]
  clear t6 t7 t8 t9 t10 t11 lT
  refine (HR2.out w2 (HA2.out.below W.out)).mono ?_
  rintro e w3 ⟨A5, c5, rfl, hrd, hc5, hb⟩
  have HC := Lib.hid (core_calls s2 A5 c5 HS.out w3 hrd)
  have T0 := Lib.hid ((hb.block _ (blk_lt T0.out)).trans T0.out)
  have R1 := Lib.hid ((hb.block _ (blk_lt R1.out)).trans R1.out)
  have R2 := Lib.hid ((hb.block _ (blk_lt R2.out)).trans R2.out)
  have C4b := Lib.hid ((hb.block _ (blk_lt C4b.out)).trans C4b.out)
  have W := Lib.hid (bthen W.out hb)
  have HC1 := Lib.hid (HC1.out.below hb)
  clear hb hrd hc5
  go_wp2_with fail
  refine HC.out.mono ?_
  rintro e w4 ⟨p2, a2, e2, hci2, v2, rfl, hv2, hb⟩
  have T0 := Lib.hid ((hb.block _ (blk_lt T0.out)).trans T0.out)
  have R1 := Lib.hid ((hb.block _ (blk_lt R1.out)).trans R1.out)
  have R2 := Lib.hid ((hb.block _ (blk_lt R2.out)).trans R2.out)
  have C4b := Lib.hid ((hb.block _ (blk_lt C4b.out)).trans C4b.out)
  have W := Lib.hid (bthen W.out hb)
  have HC1 := Lib.hid (HC1.out.below hb)
  obtain ⟨E0, E1, E2, f0, f1, f2, rfl, g0, g1, g2, k0, k1_, k2_⟩ := hv2.out
  have HCI := Lib.hid hci2
  have hB := hci2.bounds HS.out
  have HPL := Lib.hid (fun (AT : P3) (hAT : atOk AT) (W : World) (hW0 : RdB W E0 p2) (hW1 : RdB W E1 a2) (hW2 : RdB W E2 e2) => place_in ⟨AT, ⟨Qw, Qi, Qj, Qk_⟩⟩ p2 a2 e2 s2.radius E0 E1 E2 f0 f1 f2 W hW0 hW1 hW2 k0 k1_ k2_ HQ.out.quat (rowsF ⟨Qw, Qi, Qj, Qk_⟩) rfl (rows_mOk HQ.out) hAT hB.p0 (by have := hB.p1; omega) (by have := hB.a1; omega) (by have := hB.e1; omega) hB.pin hB.ain hB.ein)
  obtain ⟨NP, hNP⟩ : ∃ n, p2.length = n := ⟨_, rfl⟩
  obtain ⟨NA, hNA⟩ : ∃ n, a2.length = n := ⟨_, rfl⟩
  obtain ⟨NE, hNE⟩ : ∃ n, e2.length = n := ⟨_, rfl⟩
  rw [hNP, hNA, hNE] at HPL ⊢
  obtain ⟨ra, hra⟩ : ∃ n, s2.radius = n := ⟨_, rfl⟩
  rw [hra] at HPL ⊢
  have HRA := Lib.hid hra
  have G0 := Lib.hid g0
  have G1 := Lib.hid g1
  have G2 := Lib.hid g2
  clear hNP hNA hNE hra g0 g1 g2 k0 k1_ k2_ hB hci2 hv2 hb HC HR2 HP1
  have t12 : w4.cell? ⟨w.heap.size, 12, none⟩ = some (.int .i64 pax) := (blk_cell T0.out 12).trans rfl
  have t13 : w4.cell? ⟨w.heap.size, 13, none⟩ = some (.int .i64 pay) := (blk_cell T0.out 13).trans rfl
  have t14 : w4.cell? ⟨w.heap.size, 14, none⟩ = some (.int .i64 paz) := (blk_cell T0.out 14).trans rfl
  have t15 : w4.cell? ⟨w.heap.size, 15, none⟩ = some (.int .i64 ptw) := (blk_cell T0.out 15).trans rfl
  have t16 : w4.cell? ⟨w.heap.size, 16, none⟩ = some (.int .i64 ptx) := (blk_cell T0.out 16).trans rfl
  have t17 : w4.cell? ⟨w.heap.size, 17, none⟩ = some (.int .i64 pty) := (blk_cell T0.out 17).trans rfl
  have t18 : w4.cell? ⟨w.heap.size, 18, none⟩ = some (.int .i64 ptz) := (blk_cell T0.out 18).trans rfl
  have lT : w.heap.size < w4.heap.size := blk_lt T0.out
  obtain ⟨C5, hC5⟩ : ∃ g, w4.heap.size = g := ⟨_, rfl⟩
  have zc := heap_alloc_new w4 (.cells #[.slice E0 NP f0, .slice E1 NA f1, .slice E2 NE f2, .int .i64 ra] 36)
  have bc := (Below.refl w4.heap.size w4).alloc (Nat.le_refl _) (.cells #[.slice E0 NP f0, .slice E1 NA f1, .slice E2 NE f2, .int .i64 ra] 36)
  obtain ⟨w5, hw⟩ : ∃ V, w4.alloc (.cells #[.slice E0 NP f0, .slice E1 NA f1, .slice E2 NE f2, .int .i64 ra] 36) = V := ⟨_, rfl⟩
  rw [hw] at zc bc
  rw [hC5] at zc
  have C5b := Lib.hid zc
  have T0 := Lib.hid ((bc.block _ (blk_lt T0.out)).trans T0.out)
  have R1 := Lib.hid ((bc.block _ (blk_lt R1.out)).trans R1.out)
  have R2 := Lib.hid ((bc.block _ (blk_lt R2.out)).trans R2.out)
  have C4b := Lib.hid ((bc.block _ (blk_lt C4b.out)).trans C4b.out)
  have W := Lib.hid (bthen W.out bc)
  have HC1 := Lib.hid (HC1.out.below bc)
  have G0 := Lib.hid (G0.out.below bc)
  have G1 := Lib.hid (G1.out.below bc)
  have G2 := Lib.hid (G2.out.below bc)
  have hw_w5 := Lib.hid hw
  have hC5_ := Lib.hid hC5
  clear zc bc hw hC5
  go_wp2_with fail
  rw [hw_w5.out, hC5_.out]
  clear t12 t13 t14 t15 t16 t17 t18 lT
  refine (HRP.out w5).mono ?_
  rintro e w6 ⟨rfl, hb⟩
  have T0 := Lib.hid ((hb.block _ (blk_lt T0.out)).trans T0.out)
  have R1 := Lib.hid ((hb.block _ (blk_lt R1.out)).trans R1.out)
  have R2 := Lib.hid ((hb.block _ (blk_lt R2.out)).trans R2.out)
  have C4b := Lib.hid ((hb.block _ (blk_lt C4b.out)).trans C4b.out)
  have C5b := Lib.hid ((hb.block _ (blk_lt C5b.out)).trans C5b.out)
  have W := Lib.hid (bthen W.out hb)
  have HC1 := Lib.hid (HC1.out.below hb)
  have G0 := Lib.hid (G0.out.below hb)
  have G1 := Lib.hid (G1.out.below hb)
  have G2 := Lib.hid (G2.out.below hb)
  clear hb
  have t19 : w6.cell? ⟨w.heap.size, 19, none⟩ = some (.int .i64 qax) := (blk_cell T0.out 19).trans rfl
  have t20 : w6.cell? ⟨w.heap.size, 20, none⟩ = some (.int .i64 qay) := (blk_cell T0.out 20).trans rfl
  have t21 : w6.cell? ⟨w.heap.size, 21, none⟩ = some (.int .i64 qaz) := (blk_cell T0.out 21).trans rfl
  have t22 : w6.cell? ⟨w.heap.size, 22, none⟩ = some (.int .i64 qtw) := (blk_cell T0.out 22).trans rfl
  have t23 : w6.cell? ⟨w.heap.size, 23, none⟩ = some (.int .i64 qtx) := (blk_cell T0.out 23).trans rfl
  have t24 : w6.cell? ⟨w.heap.size, 24, none⟩ = some (.int .i64 qty) := (blk_cell T0.out 24).trans rfl
  have t25 : w6.cell? ⟨w.heap.size, 25, none⟩ = some (.int .i64 qtz) := (blk_cell T0.out 25).trans rfl
  have lT : w.heap.size < w6.heap.size := blk_lt T0.out
  obtain ⟨C7, hC7⟩ : ∃ g, w6.heap.size = g := ⟨_, rfl⟩
  have zc := heap_alloc_new w6 (.cells #[.int .i64 Px, .int .i64 Py, .int .i64 Pz, .int .i64 Pw, .int .i64 Pi, .int .i64 Pj, .int .i64 Pk] 92)
  have bc := (Below.refl w6.heap.size w6).alloc (Nat.le_refl _) (.cells #[.int .i64 Px, .int .i64 Py, .int .i64 Pz, .int .i64 Pw, .int .i64 Pi, .int .i64 Pj, .int .i64 Pk] 92)
  obtain ⟨w7, hw⟩ : ∃ V, w6.alloc (.cells #[.int .i64 Px, .int .i64 Py, .int .i64 Pz, .int .i64 Pw, .int .i64 Pi, .int .i64 Pj, .int .i64 Pk] 92) = V := ⟨_, rfl⟩
  rw [hw] at zc bc
  rw [hC7] at zc
  have C7b := Lib.hid zc
  have T0 := Lib.hid ((bc.block _ (blk_lt T0.out)).trans T0.out)
  have R1 := Lib.hid ((bc.block _ (blk_lt R1.out)).trans R1.out)
  have R2 := Lib.hid ((bc.block _ (blk_lt R2.out)).trans R2.out)
  have C4b := Lib.hid ((bc.block _ (blk_lt C4b.out)).trans C4b.out)
  have C5b := Lib.hid ((bc.block _ (blk_lt C5b.out)).trans C5b.out)
  have W := Lib.hid (bthen W.out bc)
  have HC1 := Lib.hid (HC1.out.below bc)
  have G0 := Lib.hid (G0.out.below bc)
  have G1 := Lib.hid (G1.out.below bc)
  have G2 := Lib.hid (G2.out.below bc)
  have hw_w7 := Lib.hid hw
  have hC7_ := Lib.hid hC7
  clear zc bc hw hC7
  go_wp2_with fail
  rw [hw_w7.out, hC7_.out]
  clear t19 t20 t21 t22 t23 t24 t25 lT
  refine (HRQ.out w7).mono ?_
  rintro e w8 ⟨rfl, hb⟩
  have T0 := Lib.hid ((hb.block _ (blk_lt T0.out)).trans T0.out)
  have R1 := Lib.hid ((hb.block _ (blk_lt R1.out)).trans R1.out)
  have R2 := Lib.hid ((hb.block _ (blk_lt R2.out)).trans R2.out)
  have C4b := Lib.hid ((hb.block _ (blk_lt C4b.out)).trans C4b.out)
  have C5b := Lib.hid ((hb.block _ (blk_lt C5b.out)).trans C5b.out)
  have C7b := Lib.hid ((hb.block _ (blk_lt C7b.out)).trans C7b.out)
  have W := Lib.hid (bthen W.out hb)
  have HC1 := Lib.hid (HC1.out.below hb)
  have G0 := Lib.hid (G0.out.below hb)
  have G1 := Lib.hid (G1.out.below hb)
  have G2 := Lib.hid (G2.out.below hb)
  clear hb
  have t26 : w8.cell? ⟨w.heap.size, 26, none⟩ = some (.int .i64 near) := (blk_cell T0.out 26).trans rfl
  have lT : w.heap.size < w8.heap.size := blk_lt T0.out
  have L78 := Lib.hid (blk_lt C7b.out)
  have LT8 := Lib.hid (blk_lt T0.out)
  have LR1 := Lib.hid (blk_lt R1.out)
  have LR2 := Lib.hid (blk_lt R2.out)
  have L48 := Lib.hid (blk_lt C4b.out)
  have L58 := Lib.hid (blk_lt C5b.out)
  have bc8 := Lib.hid ((Below.refl w8.heap.size w8).alloc (Nat.le_refl _) (.cells #[.int .i64 Qx, .int .i64 Qy, .int .i64 Qz, .int .i64 Qw, .int .i64 Qi, .int .i64 Qj, .int .i64 Qk_] 92))
  have HC18 := HC1
  have G08 := G0
  have G18 := G1
  have G28 := G2
  obtain ⟨C8, hC8⟩ : ∃ g, w8.heap.size = g := ⟨_, rfl⟩
  have zc := heap_alloc_new w8 (.cells #[.int .i64 Qx, .int .i64 Qy, .int .i64 Qz, .int .i64 Qw, .int .i64 Qi, .int .i64 Qj, .int .i64 Qk_] 92)
  have bc := (Below.refl w8.heap.size w8).alloc (Nat.le_refl _) (.cells #[.int .i64 Qx, .int .i64 Qy, .int .i64 Qz, .int .i64 Qw, .int .i64 Qi, .int .i64 Qj, .int .i64 Qk_] 92)
  obtain ⟨w9, hw⟩ : ∃ V, w8.alloc (.cells #[.int .i64 Qx, .int .i64 Qy, .int .i64 Qz, .int .i64 Qw, .int .i64 Qi, .int .i64 Qj, .int .i64 Qk_] 92) = V := ⟨_, rfl⟩
  rw [hw] at zc bc
  rw [hC8] at zc
  have C8b := Lib.hid zc
  have T0 := Lib.hid ((bc.block _ (blk_lt T0.out)).trans T0.out)
  have R1 := Lib.hid ((bc.block _ (blk_lt R1.out)).trans R1.out)
  have R2 := Lib.hid ((bc.block _ (blk_lt R2.out)).trans R2.out)
  have C4b := Lib.hid ((bc.block _ (blk_lt C4b.out)).trans C4b.out)
  have C5b := Lib.hid ((bc.block _ (blk_lt C5b.out)).trans C5b.out)
  have C7b := Lib.hid ((bc.block _ (blk_lt C7b.out)).trans C7b.out)
  have W := Lib.hid (bthen W.out bc)
  have HC1 := Lib.hid (HC1.out.below bc)
  have G0 := Lib.hid (G0.out.below bc)
  have G1 := Lib.hid (G1.out.below bc)
  have G2 := Lib.hid (G2.out.below bc)
  have hw_w9 := Lib.hid hw
  have hC8_ := Lib.hid hC8
  clear zc bc hw hC8
  rw [hw_w9.out] at bc8
  rw [hC8_.out] at L78 LT8 LR1 LR2 L48 L58
  go_wp2_with fail
  rw [hw_w9.out, hC8_.out]
  clear t26 lT
  obtain ⟨nn, hnn⟩ : ∃ x, 1 + qn = x := ⟨_, rfl⟩
  rw [hnn] at HWX HWY HWZ bx by_ bz HNF2
  have bnn : 1 ≤ nn ∧ nn ≤ 131072 := by omega
  have wnn : wrap64 nn = nn := by unfold wrap64; omega
  obtain ⟨mm, hmm⟩ : ∃ x, 2 * nn = x := ⟨_, rfl⟩
  rw [hmm] at HWX HWY HWZ bx by_ bz HNF2
  have wmm : wrap64 mm = mm := by unfold wrap64; omega
  have hpa := HPA.out
  obtain ⟨qx, hqx⟩ : ∃ x, pickF wx mm = x := ⟨_, rfl⟩
  rw [hqx] at HWX bx HNF2
  obtain ⟨ux, hux⟩ : ∃ x, qx - nn = x := ⟨_, rfl⟩
  rw [hux] at HNF2
  have bux : -131072 ≤ ux ∧ ux ≤ 131072 := by omega
  have wux : wrap64 ux = ux := by unfold wrap64; omega
  obtain ⟨vx, hvx⟩ : ∃ x, ux * 1048576 = x := ⟨_, rfl⟩
  rw [hvx] at HNF2
  have bvx : -137438953472 ≤ vx ∧ vx ≤ 137438953472 := by omega
  have wvx : wrap64 vx = vx := by unfold wrap64; omega
  obtain ⟨sx, hsx⟩ : ∃ x, Px + vx = x := ⟨_, rfl⟩
  rw [hsx] at HNF2
  have bsx : -4535485464576 ≤ sx ∧ sx ≤ 4535485464576 := by omega
  have wsx : wrap64 sx = sx := by unfold wrap64; omega
  obtain ⟨qy, hqy⟩ : ∃ x, pickF wy mm = x := ⟨_, rfl⟩
  rw [hqy] at HWY by_ HNF2
  obtain ⟨uy, huy⟩ : ∃ x, qy - nn = x := ⟨_, rfl⟩
  rw [huy] at HNF2
  have buy : -131072 ≤ uy ∧ uy ≤ 131072 := by omega
  have wuy : wrap64 uy = uy := by unfold wrap64; omega
  obtain ⟨vy, hvy⟩ : ∃ x, uy * 1048576 = x := ⟨_, rfl⟩
  rw [hvy] at HNF2
  have bvy : -137438953472 ≤ vy ∧ vy ≤ 137438953472 := by omega
  have wvy : wrap64 vy = vy := by unfold wrap64; omega
  obtain ⟨sy, hsy⟩ : ∃ x, Py + vy = x := ⟨_, rfl⟩
  rw [hsy] at HNF2
  have bsy : -4535485464576 ≤ sy ∧ sy ≤ 4535485464576 := by omega
  have wsy : wrap64 sy = sy := by unfold wrap64; omega
  obtain ⟨qz, hqz⟩ : ∃ x, pickF wz mm = x := ⟨_, rfl⟩
  rw [hqz] at HWZ bz HNF2
  obtain ⟨uz, huz⟩ : ∃ x, qz - nn = x := ⟨_, rfl⟩
  rw [huz] at HNF2
  have buz : -131072 ≤ uz ∧ uz ≤ 131072 := by omega
  have wuz : wrap64 uz = uz := by unfold wrap64; omega
  obtain ⟨vz, hvz⟩ : ∃ x, uz * 1048576 = x := ⟨_, rfl⟩
  rw [hvz] at HNF2
  have bvz : -137438953472 ≤ vz ∧ vz ≤ 137438953472 := by omega
  have wvz : wrap64 vz = vz := by unfold wrap64; omega
  obtain ⟨sz, hsz⟩ : ∃ x, Pz + vz = x := ⟨_, rfl⟩
  rw [hsz] at HNF2
  have bsz : -4535485464576 ≤ sz ∧ sz ≤ 4535485464576 := by omega
  have wsz : wrap64 sz = sz := by unfold wrap64; omega
  have HAT : atOk ⟨sx, sy, sz⟩ := by unfold atOk in3; simp only; omega
  have HAT := Lib.hid HAT
  have HWX := Lib.hid (fun W => (congrArg (fun z : Int => Calls Try.prog 22 #[.int .i64 wx, .int .i64 z] W fun e w' => e = .returned (.int .i64 qx) ∧ w' = W) wmm).mpr (HWX.out W))
  have HWY := Lib.hid (fun W => (congrArg (fun z : Int => Calls Try.prog 22 #[.int .i64 wy, .int .i64 z] W fun e w' => e = .returned (.int .i64 qy) ∧ w' = W) wmm).mpr (HWY.out W))
  have HWZ := Lib.hid (fun W => (congrArg (fun z : Int => Calls Try.prog 22 #[.int .i64 wz, .int .i64 z] W fun e w' => e = .returned (.int .i64 qz) ∧ w' = W) wmm).mpr (HWZ.out W))
  clear bn bnn hpa bx by_ bz bux buy buz bvx bvy bvz bsx bsy bsz hqx hqy hqz
  refine (HNE.out w9).mono ?_
  rintro e w9 ⟨rfl, rfl⟩
  go_wp2_with fail
  have lT : w.heap.size < w9.heap.size := blk_lt T0.out
  have l7 : C7 < w9.heap.size := blk_lt C7b.out
  have x0 : w9.cell? ⟨C7, 0, none⟩ = some (.int .i64 Px) := (blk_cell C7b.out 0).trans rfl
  have x1 : w9.cell? ⟨C7, 1, none⟩ = some (.int .i64 Py) := (blk_cell C7b.out 1).trans rfl
  have x2 : w9.cell? ⟨C7, 2, none⟩ = some (.int .i64 Pz) := (blk_cell C7b.out 2).trans rfl
  have t27 : w9.cell? ⟨w.heap.size, 27, none⟩ = some (.int .i64 wx) := (blk_cell T0.out 27).trans rfl
  have t28 : w9.cell? ⟨w.heap.size, 28, none⟩ = some (.int .i64 wy) := (blk_cell T0.out 28).trans rfl
  have t29 : w9.cell? ⟨w.heap.size, 29, none⟩ = some (.int .i64 wz) := (blk_cell T0.out 29).trans rfl
  have l7b : C7 < C8 := L78.out
  have lTb : w.heap.size < C8 := LT8.out
  have l8 : C8 ≤ w9.heap.size := Nat.le_of_lt (blk_lt C8b.out)
  have HB := Lib.hid ((Below.refl (C8) w9).drew)
  have HA := Lib.hid (show w9.drew.heap[C8]? = _ from C8b.out)
  have FF := Lib.hid (show ∀ V, Hid (Below (C8) w9 V) → V.cell? ⟨C7, 0, none⟩ = some (.int .i64 Px) ∧ V.cell? ⟨C7, 1, none⟩ = some (.int .i64 Py) ∧ V.cell? ⟨C7, 2, none⟩ = some (.int .i64 Pz) ∧ V.cell? ⟨w.heap.size, 27, none⟩ = some (.int .i64 wx) ∧ V.cell? ⟨w.heap.size, 28, none⟩ = some (.int .i64 wy) ∧ V.cell? ⟨w.heap.size, 29, none⟩ = some (.int .i64 wz) from fun V HB => ⟨(HB.out.cell (p := ⟨C7, 0, none⟩) (l7b)).trans x0, (HB.out.cell (p := ⟨C7, 1, none⟩) (l7b)).trans x1, (HB.out.cell (p := ⟨C7, 2, none⟩) (l7b)).trans x2, (HB.out.cell (p := ⟨w.heap.size, 27, none⟩) (lTb)).trans t27, (HB.out.cell (p := ⟨w.heap.size, 28, none⟩) (lTb)).trans t28, (HB.out.cell (p := ⟨w.heap.size, 29, none⟩) (lTb)).trans t29⟩)
  refine start_ (n := 42) (S := fun w' => w'.cell? ⟨C7, 0, none⟩ = some (.int .i64 Px) ∧ w'.cell? ⟨C7, 1, none⟩ = some (.int .i64 Py) ∧ w'.cell? ⟨C7, 2, none⟩ = some (.int .i64 Pz) ∧ w'.cell? ⟨w.heap.size, 27, none⟩ = some (.int .i64 wx) ∧ w'.cell? ⟨w.heap.size, 28, none⟩ = some (.int .i64 wy) ∧ w'.cell? ⟨w.heap.size, 29, none⟩ = some (.int .i64 wz)) (ds := []) (MT 0 42) (by kernel_rfl) rfl rfl (FF.out _ HB) (fun hHeld => ?_)
  obtain ⟨wd, hwd⟩ : ∃ x, w9.drew = x := ⟨_, rfl⟩
  rw [hwd] at HB hHeld HA ⊢
  clear hwd
  refine pu_ 0 34 (h := ?_)
  refine pu_ 1 35 (h := ?_)
  refine pu_ 3 37 (h := ?_)
  refine pu_ 4 38 (h := ?_)
  refine pu_ 6 40 (h := ?_)
  refine pu_ 7 41 (h := ?_)
  refine pu_ 9 43 (h := ?_)
  refine pu_ 13 47 (h := ?_)
  refine pu_ 14 48 (h := ?_)
  refine pu_ 16 50 (h := ?_)
  refine pu_ 17 51 (h := ?_)
  refine pu_ 19 53 (h := ?_)
  refine pu_ 20 54 (h := ?_)
  refine pu_ 22 56 (h := ?_)
  refine pu_ 26 60 (h := ?_)
  refine pu_ 27 61 (h := ?_)
  refine pu_ 29 63 (h := ?_)
  refine pu_ 30 64 (h := ?_)
  refine pu_ 32 66 (h := ?_)
  refine pu_ 33 67 (h := ?_)
  refine pu_ 35 69 (h := ?_)
  refine ta_ 2 36 hHeld (h := ?_)
  refine ta_ 5 39 hHeld (h := ?_)
  refine ta_ 15 49 hHeld (h := ?_)
  refine ta_ 18 52 hHeld (h := ?_)
  refine ta_ 28 62 hHeld (h := ?_)
  refine ta_ 31 65 hHeld (h := ?_)
  refine on_ 8 (some 42) (h := fun K hK => ?_)
  refine goes_ Try.func22 (by kernel_rfl) rfl #[.int .i64 wx, .int .i64 (wrap64 mm)] (by rfl) rfl rfl (by simp only [List.map_toArray, List.map_cons, List.map_nil]; rfl) ?_
  with_reducible refine (HWX.out _).mono ?_
  rintro e' w4x ⟨rfl, rfl⟩
  refine ⟨_, rfl, ?_⟩
  refine hK.out _ _ (FF.out _ HB) (fun hHeld => ?_)
  clear hK K
  refine no_ (h := ?_)
  refine pu_ 10 44 (h := ?_)
  refine pu_ 11 45 (h := ?_)
  refine pu_ 12 46 (h := ?_)
  refine on_ 21 (some 55) (h := fun K hK => ?_)
  refine goes_ Try.func22 (by kernel_rfl) rfl #[.int .i64 wy, .int .i64 (wrap64 mm)] (by rfl) rfl rfl (by simp only [List.map_toArray, List.map_cons, List.map_nil]; rfl) ?_
  with_reducible refine (HWY.out _).mono ?_
  rintro e' w4x ⟨rfl, rfl⟩
  refine ⟨_, rfl, ?_⟩
  refine hK.out _ _ (FF.out _ HB) (fun hHeld => ?_)
  clear hK K
  refine no_ (h := ?_)
  refine pu_ 23 57 (h := ?_)
  refine pu_ 24 58 (h := ?_)
  refine pu_ 25 59 (h := ?_)
  refine on_ 34 (some 68) (h := fun K hK => ?_)
  refine goes_ Try.func22 (by kernel_rfl) rfl #[.int .i64 wz, .int .i64 (wrap64 mm)] (by rfl) rfl rfl (by simp only [List.map_toArray, List.map_cons, List.map_nil]; rfl) ?_
  with_reducible refine (HWZ.out _).mono ?_
  rintro e' w4x ⟨rfl, rfl⟩
  refine ⟨_, rfl, ?_⟩
  refine hK.out _ _ (FF.out _ HB) (fun hHeld => ?_)
  clear hK K
  refine no_ (h := ?_)
  refine pu_ 36 70 (h := ?_)
  refine pu_ 37 71 (h := ?_)
  refine pu_ 38 72 (h := ?_)
  refine pu_ 39 73 (h := ?_)
  refine pu_ 40 74 (h := ?_)
  refine on_ 41 (none) (h := fun K hK => ?_)
  have sc0 : World.cell? _ ⟨C8, 0, none⟩ = some (.int .i64 Qx) := (blk_cell HA.out 0).trans rfl
  have sf0 := blk_frozen HA.out 0
  have sc1 : World.cell? _ ⟨C8, 1, none⟩ = some (.int .i64 Qy) := (blk_cell HA.out 1).trans rfl
  have sf1 := blk_frozen HA.out 1
  have sc2 : World.cell? _ ⟨C8, 2, none⟩ = some (.int .i64 Qz) := (blk_cell HA.out 2).trans rfl
  have sf2 := blk_frozen HA.out 2
  refine skip_ (w1 := ?_) (by rfl) rfl ?_ ?_
  rotate_left
  · go_simp
    rfl
  have HA := Lib.hid (blk7m HA.out (.int .i64 sx) (.int .i64 sy) (.int .i64 sz))
  have HB := Lib.hid (((HB.out.setCell (p := ⟨C8, 0, none⟩) (Nat.le_refl _) (.int .i64 sx)).setCell (p := ⟨C8, 1, none⟩) (Nat.le_refl _) (.int .i64 sy)).setCell (p := ⟨C8, 2, none⟩) (Nat.le_refl _) (.int .i64 sz))
  clear sc0 sc1 sc2 sf0 sf1 sf2
  refine hK.out _ _ (FF.out _ HB) (fun hHeld => ?_)
  clear hK K
  refine done_ (by kernel_rfl) ?_
  obtain ⟨wB, hwn⟩ : ∃ V, (((w4x.setCell ⟨C8, 0, none⟩ (.int .i64 sx)).setCell ⟨C8, 1, none⟩ (.int .i64 sy)).setCell ⟨C8, 2, none⟩ (.int .i64 sz)) = V := ⟨_, rfl⟩
  rw [hwn] at HA HB ⊢
  clear hwn hHeld
  have tot := Lib.hid (bc8.out.trans (HB.out.mono (Nat.le_of_eq hC8_.out)))
  have HC1 := Lib.hid (HC18.out.below tot.out)
  have G0 := Lib.hid (G08.out.below tot.out)
  have G1 := Lib.hid (G18.out.below tot.out)
  have G2 := Lib.hid (G28.out.below tot.out)
  have R1 := Lib.hid ((HB.out.block _ LR1.out).trans R1.out)
  have R2 := Lib.hid ((HB.out.block _ LR2.out).trans R2.out)
  have C4b := Lib.hid ((HB.out.block _ L48.out).trans C4b.out)
  have C5b := Lib.hid ((HB.out.block _ L58.out).trans C5b.out)
  have W := Lib.hid (W.out.trans (HB.out.mono (show w.heap.size ≤ C8 from Nat.le_of_lt LT8.out)))
  have l5 : C5 < wB.heap.size := blk_lt C5b.out
  have l8_ : C8 < wB.heap.size := blk_lt HA.out
  clear x0 x1 x2 t27 t28 t29 lT l7 l7b lTb l8 wnn wmm wux wuy wuz wvx wvy wvz wsx wsy wsz hux huy huz hvx hvy hvz hsx hsy hsz hnn hmm
  have x0 : wB.cell? ⟨C5, 0, none⟩ = some (.slice E0 NP f0) := (blk_cell C5b.out 0).trans rfl
  have x1 : wB.cell? ⟨C5, 1, none⟩ = some (.slice E1 NA f1) := (blk_cell C5b.out 1).trans rfl
  have x2 : wB.cell? ⟨C5, 2, none⟩ = some (.slice E2 NE f2) := (blk_cell C5b.out 2).trans rfl
  have x3 : wB.cell? ⟨C5, 3, none⟩ = some (.int .i64 ra) := (blk_cell C5b.out 3).trans rfl
  have y0 : wB.cell? ⟨C8, 0, none⟩ = some (.int .i64 sx) := (blk_cell HA.out 0).trans rfl
  have y1 : wB.cell? ⟨C8, 1, none⟩ = some (.int .i64 sy) := (blk_cell HA.out 1).trans rfl
  have y2 : wB.cell? ⟨C8, 2, none⟩ = some (.int .i64 sz) := (blk_cell HA.out 2).trans rfl
  have y3 : wB.cell? ⟨C8, 3, none⟩ = some (.int .i64 Qw) := (blk_cell HA.out 3).trans rfl
  have y4 : wB.cell? ⟨C8, 4, none⟩ = some (.int .i64 Qi) := (blk_cell HA.out 4).trans rfl
  have y5 : wB.cell? ⟨C8, 5, none⟩ = some (.int .i64 Qj) := (blk_cell HA.out 5).trans rfl
  have y6 : wB.cell? ⟨C8, 6, none⟩ = some (.int .i64 Qk_) := (blk_cell HA.out 6).trans rfl
  go_wp2_with fail
  refine (HPL.out ⟨sx, sy, sz⟩ HAT.out wB G0.out G1.out G2.out).mono ?_
  rintro e wC ⟨v2, rfl, hv2, hb⟩
  have R1 := Lib.hid ((hb.block _ (blk_lt R1.out)).trans R1.out)
  have R2 := Lib.hid ((hb.block _ (blk_lt R2.out)).trans R2.out)
  have C4b := Lib.hid ((hb.block _ (blk_lt C4b.out)).trans C4b.out)
  have W := Lib.hid (bthen W.out hb)
  have HC1 := Lib.hid (HC1.out.below hb)
  have HC2 : Hid (CoreAt s2 ⟨NF, ⟨Qw, Qi, Qj, Qk_⟩⟩ wC v2) := Lib.hid ⟨p2, a2, e2, HCI.out, by rw [HRA.out, ← HNF2.out]; exact hv2⟩
  obtain ⟨B3, B4, B5, d3, d4, d5, hv2e, _⟩ := hv2.out
  obtain ⟨n3, hn3⟩ : ∃ n, (p2.map (placePt (rowsF (⟨Qw, Qi, Qj, Qk_⟩ : Q4)) (⟨sx, sy, sz⟩ : P3))).length = n := ⟨_, rfl⟩
  obtain ⟨n4, hn4⟩ : ∃ n, (waysF (rowsF (⟨Qw, Qi, Qj, Qk_⟩ : Q4)) a2).length = n := ⟨_, rfl⟩
  obtain ⟨n5, hn5⟩ : ∃ n, (waysF (rowsF (⟨Qw, Qi, Qj, Qk_⟩ : Q4)) e2).length = n := ⟨_, rfl⟩
  (try simp only at hv2e)
  rw [hn3, hn4, hn5] at hv2e
  subst hv2e
  clear hn3 hn4 hn5 hv2 hb x0 x1 x2 x3 y0 y1 y2 y3 y4 y5 y6 l5 l8_
  have N101 := Lib.hid (blk_lt R1.out)
  obtain ⟨C10, hC10⟩ : ∃ g, wC.heap.size = g := ⟨_, rfl⟩
  have zc := heap_alloc_new wC (.cells #[.slice B3 n3 d3, .slice B4 n4 d4, .slice B5 n5 d5, .int .i64 ra] 36)
  have bc := (Below.refl wC.heap.size wC).alloc (Nat.le_refl _) (.cells #[.slice B3 n3 d3, .slice B4 n4 d4, .slice B5 n5 d5, .int .i64 ra] 36)
  obtain ⟨wD, hw⟩ : ∃ V, wC.alloc (.cells #[.slice B3 n3 d3, .slice B4 n4 d4, .slice B5 n5 d5, .int .i64 ra] 36) = V := ⟨_, rfl⟩
  rw [hw] at zc bc
  rw [hC10] at zc
  have C10b := Lib.hid zc
  have R1 := Lib.hid ((bc.block _ (blk_lt R1.out)).trans R1.out)
  have R2 := Lib.hid ((bc.block _ (blk_lt R2.out)).trans R2.out)
  have C4b := Lib.hid ((bc.block _ (blk_lt C4b.out)).trans C4b.out)
  have W := Lib.hid (bthen W.out bc)
  have HC1 := Lib.hid (HC1.out.below bc)
  have HC2 := Lib.hid (HC2.out.below bc)
  have hw_wD := Lib.hid hw
  have hC10_ := Lib.hid hC10
  clear zc bc hw hC10
  rw [hC10_.out] at N101
  go_wp2_with fail
  rw [hw_wD.out, hC10_.out]
  have l4 : C4 < wD.heap.size := blk_lt C4b.out
  have l10 : C10 < wD.heap.size := blk_lt C10b.out
  have x0 : wD.cell? ⟨C4, 0, none⟩ = some (.slice B0 n0 d0) := (blk_cell C4b.out 0).trans rfl
  have x1 : wD.cell? ⟨C4, 1, none⟩ = some (.slice B1 n1 d1) := (blk_cell C4b.out 1).trans rfl
  have x2 : wD.cell? ⟨C4, 2, none⟩ = some (.slice B2 n2 d2) := (blk_cell C4b.out 2).trans rfl
  have x3 : wD.cell? ⟨C4, 3, none⟩ = some (.int .i64 ra1) := (blk_cell C4b.out 3).trans rfl
  have y0 : wD.cell? ⟨C10, 0, none⟩ = some (.slice B3 n3 d3) := (blk_cell C10b.out 0).trans rfl
  have y1 : wD.cell? ⟨C10, 1, none⟩ = some (.slice B4 n4 d4) := (blk_cell C10b.out 1).trans rfl
  have y2 : wD.cell? ⟨C10, 2, none⟩ = some (.slice B5 n5 d5) := (blk_cell C10b.out 2).trans rfl
  have y3 : wD.cell? ⟨C10, 3, none⟩ = some (.int .i64 ra) := (blk_cell C10b.out 3).trans rfl
  have HB := Lib.hid ((Below.refl (wD.heap.size) wD).drew)
  have Q1 := Lib.hid (show wD.drew.heap[w.heap.size + 1]? = _ from R1.out)
  have Q2 := Lib.hid (show wD.drew.heap[w.heap.size + 1 + 1]? = _ from R2.out)
  have P4 := Lib.hid (show wD.drew.heap[C4]? = _ from C4b.out)
  have P10 := Lib.hid (show wD.drew.heap[C10]? = _ from C10b.out)
  refine start_ (n := 4) (S := fun w' => w'.cell? ⟨C4, 0, none⟩ = some (.slice B0 n0 d0) ∧ w'.cell? ⟨C4, 1, none⟩ = some (.slice B1 n1 d1) ∧ w'.cell? ⟨C4, 2, none⟩ = some (.slice B2 n2 d2) ∧ w'.cell? ⟨C4, 3, none⟩ = some (.int .i64 ra1) ∧ w'.cell? ⟨C10, 0, none⟩ = some (.slice B3 n3 d3) ∧ w'.cell? ⟨C10, 1, none⟩ = some (.slice B4 n4 d4) ∧ w'.cell? ⟨C10, 2, none⟩ = some (.slice B5 n5 d5) ∧ w'.cell? ⟨C10, 3, none⟩ = some (.int .i64 ra)) (ds := [3]) (MT 0 4) (by kernel_rfl) rfl rfl ⟨(HB.out.cell (p := ⟨C4, 0, none⟩) (l4)).trans x0, (HB.out.cell (p := ⟨C4, 1, none⟩) (l4)).trans x1, (HB.out.cell (p := ⟨C4, 2, none⟩) (l4)).trans x2, (HB.out.cell (p := ⟨C4, 3, none⟩) (l4)).trans x3, (HB.out.cell (p := ⟨C10, 0, none⟩) (l10)).trans y0, (HB.out.cell (p := ⟨C10, 1, none⟩) (l10)).trans y1, (HB.out.cell (p := ⟨C10, 2, none⟩) (l10)).trans y2, (HB.out.cell (p := ⟨C10, 3, none⟩) (l10)).trans y3⟩ (fun hHeld => ?_)
  obtain ⟨wd, hwd⟩ : ∃ x, wD.drew = x := ⟨_, rfl⟩
  rw [hwd] at HB hHeld Q1 Q2 P4 P10 ⊢
  clear hwd
  refine ta_ 0 81 hHeld (h := ?_)
  refine ta_ 1 82 hHeld (h := ?_)
  refine on_ 2 (none) (h := fun K hK => ?_)
  have sc0 : World.cell? _ ⟨w.heap.size + 1, 0, none⟩ = some (.slice none 0 0) := (blk_cell Q1.out 0).trans rfl
  have sf0 := blk_frozen Q1.out 0
  have sc1 : World.cell? _ ⟨w.heap.size + 1, 1, none⟩ = some (.slice none 0 0) := (blk_cell Q1.out 1).trans rfl
  have sf1 := blk_frozen Q1.out 1
  have sc2 : World.cell? _ ⟨w.heap.size + 1, 2, none⟩ = some (.slice none 0 0) := (blk_cell Q1.out 2).trans rfl
  have sf2 := blk_frozen Q1.out 2
  have sc3 : World.cell? _ ⟨w.heap.size + 1, 3, none⟩ = some (.int .i64 0) := (blk_cell Q1.out 3).trans rfl
  have sf3 := blk_frozen Q1.out 3
  refine skip_ (w1 := ?_) (by rfl) rfl ?_ ?_
  rotate_left
  · go_simp
    rfl
  clear sc0 sc1 sc2 sc3 sf0 sf1 sf2 sf3
  have Q2 := Lib.hid ((other4 (show w.heap.size + 1 + 1 ≠ w.heap.size + 1 by omega) (.slice B0 n0 d0) (.slice B1 n1 d1) (.slice B2 n2 d2) (.int .i64 ra1)).trans Q2.out)
  have P4 := Lib.hid ((other4 (show C4 ≠ w.heap.size + 1 by have := N41.out; omega) (.slice B0 n0 d0) (.slice B1 n1 d1) (.slice B2 n2 d2) (.int .i64 ra1)).trans P4.out)
  have P10 := Lib.hid ((other4 (show C10 ≠ w.heap.size + 1 by have := N101.out; omega) (.slice B0 n0 d0) (.slice B1 n1 d1) (.slice B2 n2 d2) (.int .i64 ra1)).trans P10.out)
  refine hK.out _ _ ⟨(blk_cell P4.out 0).trans rfl, (blk_cell P4.out 1).trans rfl, (blk_cell P4.out 2).trans rfl, (blk_cell P4.out 3).trans rfl, (blk_cell P10.out 0).trans rfl, (blk_cell P10.out 1).trans rfl, (blk_cell P10.out 2).trans rfl, (blk_cell P10.out 3).trans rfl⟩ (fun hHeld => ?_)
  clear hK K
  refine last_ (i := 3) (N := none) (MT 4 0) rfl rfl (by kernel_rfl) (by decide) (fun K hK => ?_)
  have sc0 : World.cell? _ ⟨w.heap.size + 1 + 1, 0, none⟩ = some (.slice none 0 0) := (blk_cell Q2.out 0).trans rfl
  have sf0 := blk_frozen Q2.out 0
  have sc1 : World.cell? _ ⟨w.heap.size + 1 + 1, 1, none⟩ = some (.slice none 0 0) := (blk_cell Q2.out 1).trans rfl
  have sf1 := blk_frozen Q2.out 1
  have sc2 : World.cell? _ ⟨w.heap.size + 1 + 1, 2, none⟩ = some (.slice none 0 0) := (blk_cell Q2.out 2).trans rfl
  have sf2 := blk_frozen Q2.out 2
  have sc3 : World.cell? _ ⟨w.heap.size + 1 + 1, 3, none⟩ = some (.int .i64 0) := (blk_cell Q2.out 3).trans rfl
  have sf3 := blk_frozen Q2.out 3
  refine skip_ (w1 := ?_) (by rfl) rfl ?_ ?_
  rotate_left
  · go_simp
    rfl
  clear sc0 sc1 sc2 sc3 sf0 sf1 sf2 sf3
  refine hK.out _ _ ?_
  clear hK K
  refine done_ (by kernel_rfl) ?_
  have Z1 := (HB.out.block _ (blk_lt R1.out)).trans R1.out
  have Z2 := (HB.out.block _ (blk_lt R2.out)).trans R2.out
  have A1_ := (HC1.out.below HB.out).setS Z1 (.slice B0 n0 d0) (.slice B1 n1 d1) (.slice B2 n2 d2) (.int .i64 ra1)
  have A2_ := (HC2.out.below HB.out).setS Z1 (.slice B0 n0 d0) (.slice B1 n1 d1) (.slice B2 n2 d2) (.int .i64 ra1)
  have WE := bb4 (W.out.trans (HB.out.mono (show w.heap.size ≤ wD.heap.size from W.out.size))) (show w.heap.size ≤ w.heap.size + 1 by omega) (.slice B0 n0 d0) (.slice B1 n1 d1) (.slice B2 n2 d2) (.int .i64 ra1)
  have Z3 := bs4 Z1 (.slice B0 n0 d0) (.slice B1 n1 d1) (.slice B2 n2 d2) (.int .i64 ra1)
  have Z4 := (other4 (show w.heap.size + 1 + 1 ≠ w.heap.size + 1 by omega) (.slice B0 n0 d0) (.slice B1 n1 d1) (.slice B2 n2 d2) (.int .i64 ra1)).trans Z2
  obtain ⟨wE, hwE⟩ : ∃ V, ((((wd.setCell ⟨w.heap.size + 1, 0, none⟩ (.slice B0 n0 d0)).setCell ⟨w.heap.size + 1, 1, none⟩ (.slice B1 n1 d1)).setCell ⟨w.heap.size + 1, 2, none⟩ (.slice B2 n2 d2)).setCell ⟨w.heap.size + 1, 3, none⟩ (.int .i64 ra1)) = V := ⟨_, rfl⟩
  rw [hwE] at A1_ A2_ WE Z3 Z4 ⊢
  have A3_ := A1_.setS Z4 (.slice B3 n3 d3) (.slice B4 n4 d4) (.slice B5 n5 d5) (.int .i64 ra)
  have A4_ := A2_.setS Z4 (.slice B3 n3 d3) (.slice B4 n4 d4) (.slice B5 n5 d5) (.int .i64 ra)
  have WF := bb4 WE (show w.heap.size ≤ w.heap.size + 1 + 1 by omega) (.slice B3 n3 d3) (.slice B4 n4 d4) (.slice B5 n5 d5) (.int .i64 ra)
  have Z5 := (other4 (show w.heap.size + 1 ≠ w.heap.size + 1 + 1 by omega) (.slice B3 n3 d3) (.slice B4 n4 d4) (.slice B5 n5 d5) (.int .i64 ra)).trans Z3
  have Z6 := bs4 Z4 (.slice B3 n3 d3) (.slice B4 n4 d4) (.slice B5 n5 d5) (.int .i64 ra)
  obtain ⟨wF, hwF⟩ : ∃ V, ((((wE.setCell ⟨w.heap.size + 1 + 1, 0, none⟩ (.slice B3 n3 d3)).setCell ⟨w.heap.size + 1 + 1, 1, none⟩ (.slice B4 n4 d4)).setCell ⟨w.heap.size + 1 + 1, 2, none⟩ (.slice B5 n5 d5)).setCell ⟨w.heap.size + 1 + 1, 3, none⟩ (.int .i64 ra)) = V := ⟨_, rfl⟩
  rw [hwF] at A3_ A4_ WF Z5 Z6 ⊢
  have r0 : wF.cell? ⟨w.heap.size + 1, 0, none⟩ = some (.slice B0 n0 d0) := (blk_cell Z5 0).trans rfl
  have r1 : wF.cell? ⟨w.heap.size + 1, 1, none⟩ = some (.slice B1 n1 d1) := (blk_cell Z5 1).trans rfl
  have r2 : wF.cell? ⟨w.heap.size + 1, 2, none⟩ = some (.slice B2 n2 d2) := (blk_cell Z5 2).trans rfl
  have r3 : wF.cell? ⟨w.heap.size + 1, 3, none⟩ = some (.int .i64 ra1) := (blk_cell Z5 3).trans rfl
  have q0 : wF.cell? ⟨w.heap.size + 1 + 1, 0, none⟩ = some (.slice B3 n3 d3) := (blk_cell Z6 0).trans rfl
  have q1 : wF.cell? ⟨w.heap.size + 1 + 1, 1, none⟩ = some (.slice B4 n4 d4) := (blk_cell Z6 1).trans rfl
  have q2 : wF.cell? ⟨w.heap.size + 1 + 1, 2, none⟩ = some (.slice B5 n5 d5) := (blk_cell Z6 2).trans rfl
  have q3 : wF.cell? ⟨w.heap.size + 1 + 1, 3, none⟩ = some (.int .i64 ra) := (blk_cell Z6 3).trans rfl
  have hA3 := Lib.hid A3_
  have hA4 := Lib.hid A4_
  have hWF := Lib.hid WF
  clear Z1 Z2 Z3 Z4 Z5 Z6 A1_ A2_ WE A3_ A4_ WF hwE hwF
  go_wp2
  exact bodyPost_ret (v := .tuple #[.agg #[.slice B0 n0 d0, .slice B1 n1 d1, .slice B2 n2 d2, .int .i64 ra1], .agg #[.slice B3 n3 d3, .slice B4 n4 d4, .slice B5 n5 d5, .int .i64 ra]]) (by simp [results, Try.results19, go_sem, r0, r1, r2, r3, q0, q1, q2, q3]) rfl ⟨_, _, rfl, hA3.out, hA4.out, hWF.out⟩
end Go.Proofs.Ytckdhahceelckaa.G
set_option maxRecDepth 100000
namespace Go.Proofs.Ytckdhahceelckaa.G
open Go.ChangeShapes Go.WideShapes Go.RowKit
set_option linter.unusedVariables false
set_option linter.unusedSimpArgs false
theorem cell_num {w : World} {r : Reach} {base : Nat} {v : Value} (h : Cell.okWide Try.prog w r base 3 v) : ∃ n, v = .int .i64 n ∧ i64 n := by
  simp only [Cell.okWide, Try.underlying3] at h
  cases v <;> simp_all [Cell.ok, Try.underlying3]
  obtain ⟨h1, h2⟩ := h.2
  exact ⟨h1, h2⟩
theorem cell_pts {w : World} {r : Reach} {base : Nat} {v : Value} (h : Cell.okWide Try.prog w r base 24 v) : ∃ A n c, v = .slice A n c ∧ ∀ a, A = some a → a.spot = none ∧ a.block < w.heap.size := by
  simp only [Cell.okWide, Try.underlying24] at h
  cases v with
  | slice A n c =>
    refine ⟨A, n, c, rfl, fun a e => ?_⟩
    subst e
    simp only [Cell.ok, Try.underlying24] at h
    obtain ⟨_, _, _, hs, row, cells, hsh, _⟩ := h
    refine ⟨hs, ?_⟩
    unfold World.shape? at hsh
    rcases Nat.lt_or_ge a.block w.heap.size with h' | h'
    · exact h'
    · rw [Array.getElem?_eq_none h'] at hsh; cases hsh
  | _ => simp [Cell.ok, Try.underlying24] at h
theorem list_of {α : Type} {Q : Nat → α → Prop} : ∀ (n : Nat), (∀ i, i < n → ∃ p, Q i p) → ∃ l : List α, l.length = n ∧ ∀ i p, l[i]? = some p → Q i p
  | 0, _ => ⟨[], rfl, fun i p h => by simp at h⟩
  | n + 1, H => by
    obtain ⟨l, hl, hq⟩ := list_of n fun i hi => H i (by omega)
    obtain ⟨p, hp⟩ := H n (by omega)
    refine ⟨l ++ [p], by simp [hl], fun i q h => ?_⟩
    rcases Nat.lt_or_ge i l.length with h' | h'
    · rw [List.getElem?_append_left h'] at h
      exact hq i q h
    · rw [List.getElem?_append_right h'] at h
      have : i - l.length = 0 := by
        rcases Nat.eq_zero_or_pos (i - l.length) with e | e
        · exact e
        · rw [List.getElem?_eq_none (by simp; omega)] at h; cases h
      rw [this] at h
      simp at h
      subst h
      have : i = n := by omega
      rwa [this]
section
variable {H : Type} {enc : TypeId × Value → H} {W : World} {base : Nat} {spare : Nat → Bool} {held : Bool}
set_option maxRecDepth 100000 in
/-- a slice of points that reads, read -/
theorem open_pts {fuel : Nat} {A : Option Addr} {n c : Nat} {y : DataW H × List MemPlace} (hA : ∀ a, A = some a → a.spot = none ∧ a.block < W.heap.size)
    (h : DataW.trod enc Try.prog W base spare held fuel 24 [.slice A n c] = some y) (hw : ∀ k ∈ y.1.weights Try.prog 24, k ≤ reachBytes) :
    ∃ l : List P3, l.length = n ∧ RdB W A l ∧ (∀ p ∈ l, pI64 p) ∧ l.length ≤ 4611686018427387904 := by
  rcases Go.Deep.open_slice Try.underlying24 h with ⟨e, _⟩ | ⟨a, len, cap, m, k, D, Pl, e, hb, hl, hc, hm, hx, hf⟩
  · simp only [List.cons.injEq, Value.slice.injEq, and_true] at e
    obtain ⟨rfl, rfl, rfl⟩ := e
    exact ⟨[], rfl, RdB.nil W, by simp, by simp⟩
  · simp only [List.cons.injEq, Value.slice.injEq, and_true] at e
    obtain ⟨rfl, rfl, rfl⟩ := e
    obtain ⟨hs, hlt⟩ := hA a rfl
    obtain ⟨b, o, s⟩ := a
    simp only at hs hlt
    subst hs
    have hlen : n ≤ 4611686018427387904 := by
      rw [hx] at hw
      have := hw _ (by rw [DataW.weights, Try.underlying24]; exact List.mem_cons_self)
      have hbs : Try.prog.bytesOf 23 = 24 := by kernel_rfl
      rw [hbs] at this
      simp [reachBytes] at this
      omega
    have hcells : Try.prog.cellsOf 23 = 3 := by kernel_rfl
    have each : ∀ i, i < n → ∃ p : P3, pI64 p ∧ W.cell? ⟨b, o + i * 3, none⟩ = some (.int .i64 p.x) ∧ W.cell? ⟨b, o + i * 3 + 1, none⟩ = some (.int .i64 p.y) ∧ W.cell? ⟨b, o + i * 3 + 2, none⟩ = some (.int .i64 p.z) := by
      intro i hi
      have him : i < m := by
        rw [hm]; split <;> omega
      obtain ⟨cs', h1, h2⟩ := hf i him
      rw [hcells] at h1
      obtain ⟨_, hl3, hg⟩ := World.cells?_some h1
      have ea : (⟨b, o, none⟩ : Addr).add (i * 3) = ⟨b, o + i * 3, none⟩ := by
        unfold Addr.add
        split
        · rename_i h0; rw [h0]; rfl
        · rfl
      rw [ea] at hg
      obtain ⟨v0, v1, v2, rfl⟩ : ∃ v0 v1 v2, cs' = [v0, v1, v2] := by
        match cs', hl3 with
        | [v0, v1, v2], _ => exact ⟨v0, v1, v2, rfl⟩
      obtain ⟨y0, y1, y2, n', _, _, t0, t1, t2⟩ := Go.Deep.trod_struct3 Try.underlying23 h2
      obtain ⟨x, hx', _, wx⟩ := DataW.trod_int (k := .i64) Try.underlying3 t0
      obtain ⟨y, hy', _, wy⟩ := DataW.trod_int (k := .i64) Try.underlying3 t1
      obtain ⟨z, hz', _, wz⟩ := DataW.trod_int (k := .i64) Try.underlying3 t2
      have k3 : Try.prog.cellsOf 3 = 1 := by kernel_rfl
      simp [k3] at hx' hy' hz'
      subst hx' hy' hz'
      exact ⟨⟨x, y, z⟩, ⟨i64_of_wf wx, i64_of_wf wy, i64_of_wf wz⟩, hg 0 (by decide), hg 1 (by decide), hg 2 (by decide)⟩
    obtain ⟨l, hll, hq⟩ := list_of n each
    refine ⟨l, hll, ⟨fun i p hp => ⟨b, o, rfl, hlt, (hq i p hp).2⟩, fun ad e => by cases e; exact hlt⟩, fun p hp => ?_, by omega⟩
    obtain ⟨i, hi⟩ := List.getElem?_of_mem hp
    exact (hq i p hi).1
theorem array30 {α : Type} {cs : Array α} (h : cs.size = 30) : ∃ c0 c1 c2 c3 c4 c5 c6 c7 c8 c9 c10 c11 c12 c13 c14 c15 c16 c17 c18 c19 c20 c21 c22 c23 c24 c25 c26 c27 c28 c29, cs = #[c0, c1, c2, c3, c4, c5, c6, c7, c8, c9, c10, c11, c12, c13, c14, c15, c16, c17, c18, c19, c20, c21, c22, c23, c24, c25, c26, c27, c28, c29] := by
  obtain ⟨l⟩ := cs
  match l, h with
  | [c0, c1, c2, c3, c4, c5, c6, c7, c8, c9, c10, c11, c12, c13, c14, c15, c16, c17, c18, c19, c20, c21, c22, c23, c24, c25, c26, c27, c28, c29], _ => exact ⟨c0, c1, c2, c3, c4, c5, c6, c7, c8, c9, c10, c11, c12, c13, c14, c15, c16, c17, c18, c19, c20, c21, c22, c23, c24, c25, c26, c27, c28, c29, rfl⟩
set_option maxRecDepth 100000 in
theorem types33 : Try.prog.cellTypes Try.prog.depth 33 = some [3, 3, 3, 3, 3, 24, 3, 3, 3, 3, 3, 24, 3, 3, 3, 3, 3, 3, 3, 3, 3, 3, 3, 3, 3, 3, 3, 3, 3, 3] := by kernel_rfl
set_option maxRecDepth 100000 in
set_option maxHeartbeats 4000000 in
theorem open_raw5 {fuel : Nat} {v0 v1 v2 v3 v4 v5 : Value} {y : DataW H × List MemPlace} (h : DataW.trod enc Try.prog W base spare held fuel 26 [v0, v1, v2, v3, v4, v5] = some y) (hw : ∀ k ∈ y.1.weights Try.prog 26, k ≤ reachBytes) :
    ∃ m y', DataW.trod enc Try.prog W base spare held m 24 [v5] = some y' ∧ ∀ k ∈ y'.1.weights Try.prog 24, k ≤ reachBytes := by
  obtain ⟨xs, n, _, rfl, _, hlen, hf⟩ := DataW.trod_struct Try.underlying26 h
  have h3 := hf 3 _ rfl
  have e : ((List.drop 5 [v0, v1, v2, v3, v4, v5]).take (Try.prog.cellsOf 24)) = [v5] := by
    have : Try.prog.cellsOf 24 = 1 := by kernel_rfl
    rw [this]; rfl
  obtain ⟨y', hy'⟩ : ∃ y', xs[3]? = some y' := ⟨_, List.getElem?_eq_getElem (by rw [hlen]; decide)⟩
  rw [hy'] at h3
  refine ⟨n, y', (congrArg _ e.symm).trans h3, fun k hk => hw k ?_⟩
  rw [DataW.weights, Try.underlying26]
  exact DataW.weights_mem_each (j := 3) (t := 24) (d := y'.1) rfl (by rw [List.getElem?_map, hy']; rfl) k hk
set_option maxRecDepth 100000 in
set_option maxHeartbeats 8000000 in
theorem open_two {r : Reach} {b0 : Nat} {v : Value} {d : DataW H} {p : List MemPlace} (hval : Value.okWide Try.prog W r b0 33 v) (h : DataW.Trod enc Try.prog W base spare held 33 v d p) (hw : ∀ k ∈ d.weights Try.prog 33, k ≤ reachBytes) :
    ∃ k1 r1 h1 l1 A1 c1 k2 r2 h2 l2 A2 c2 p q near way, v = .agg (cTwo k1 r1 h1 A1 (List.length l1) c1 k2 r2 h2 A2 (List.length l2) c2 p q near way) ∧ RdB W A1 l1 ∧ RawOk k1 r1 h1 l1 ∧ RdB W A2 l2 ∧ RawOk k2 r2 h2 l2 ∧ i64s p ∧ i64s q ∧ i64 near ∧ pI64 way := by
  simp only [Value.okWide, Try.underlying33] at hval
  obtain ⟨cs, rfl, hsz, ts, hts, _, hc⟩ := hval
  have hC : Try.prog.cellsOf 33 = 30 := by kernel_rfl
  rw [types33] at hts
  cases hts
  obtain ⟨c0, c1, c2, c3, c4, c5, c6, c7, c8, c9, c10, c11, c12, c13, c14, c15, c16, c17, c18, c19, c20, c21, c22, c23, c24, c25, c26, c27, c28, c29, rfl⟩ := array30 (hsz.trans hC)
  obtain ⟨k1, rfl, ik1⟩ : ∃ n, c0 = .int .i64 n ∧ i64 n := by
    obtain ⟨u, hu, hk⟩ := hc 0 _ rfl
    cases hu
    exact cell_num hk
  obtain ⟨r1, rfl, ir1⟩ : ∃ n, c1 = .int .i64 n ∧ i64 n := by
    obtain ⟨u, hu, hk⟩ := hc 1 _ rfl
    cases hu
    exact cell_num hk
  obtain ⟨x1, rfl, ix1⟩ : ∃ n, c2 = .int .i64 n ∧ i64 n := by
    obtain ⟨u, hu, hk⟩ := hc 2 _ rfl
    cases hu
    exact cell_num hk
  obtain ⟨y1', rfl, iy1'⟩ : ∃ n, c3 = .int .i64 n ∧ i64 n := by
    obtain ⟨u, hu, hk⟩ := hc 3 _ rfl
    cases hu
    exact cell_num hk
  obtain ⟨z1', rfl, iz1'⟩ : ∃ n, c4 = .int .i64 n ∧ i64 n := by
    obtain ⟨u, hu, hk⟩ := hc 4 _ rfl
    cases hu
    exact cell_num hk
  obtain ⟨A1, n1, cap1, rfl, hA1⟩ : ∃ A n c, c5 = .slice A n c ∧ ∀ a, A = some a → a.spot = none ∧ a.block < W.heap.size := by
    obtain ⟨u, hu, hk⟩ := hc 5 _ rfl
    cases hu
    exact cell_pts hk
  obtain ⟨k2, rfl, ik2⟩ : ∃ n, c6 = .int .i64 n ∧ i64 n := by
    obtain ⟨u, hu, hk⟩ := hc 6 _ rfl
    cases hu
    exact cell_num hk
  obtain ⟨r2, rfl, ir2⟩ : ∃ n, c7 = .int .i64 n ∧ i64 n := by
    obtain ⟨u, hu, hk⟩ := hc 7 _ rfl
    cases hu
    exact cell_num hk
  obtain ⟨x2, rfl, ix2⟩ : ∃ n, c8 = .int .i64 n ∧ i64 n := by
    obtain ⟨u, hu, hk⟩ := hc 8 _ rfl
    cases hu
    exact cell_num hk
  obtain ⟨y2, rfl, iy2⟩ : ∃ n, c9 = .int .i64 n ∧ i64 n := by
    obtain ⟨u, hu, hk⟩ := hc 9 _ rfl
    cases hu
    exact cell_num hk
  obtain ⟨z2, rfl, iz2⟩ : ∃ n, c10 = .int .i64 n ∧ i64 n := by
    obtain ⟨u, hu, hk⟩ := hc 10 _ rfl
    cases hu
    exact cell_num hk
  obtain ⟨A2, n2, cap2, rfl, hA2⟩ : ∃ A n c, c11 = .slice A n c ∧ ∀ a, A = some a → a.spot = none ∧ a.block < W.heap.size := by
    obtain ⟨u, hu, hk⟩ := hc 11 _ rfl
    cases hu
    exact cell_pts hk
  obtain ⟨pa, rfl, ipa⟩ : ∃ n, c12 = .int .i64 n ∧ i64 n := by
    obtain ⟨u, hu, hk⟩ := hc 12 _ rfl
    cases hu
    exact cell_num hk
  obtain ⟨pb, rfl, ipb⟩ : ∃ n, c13 = .int .i64 n ∧ i64 n := by
    obtain ⟨u, hu, hk⟩ := hc 13 _ rfl
    cases hu
    exact cell_num hk
  obtain ⟨pd, rfl, ipd⟩ : ∃ n, c14 = .int .i64 n ∧ i64 n := by
    obtain ⟨u, hu, hk⟩ := hc 14 _ rfl
    cases hu
    exact cell_num hk
  obtain ⟨pw, rfl, ipw⟩ : ∃ n, c15 = .int .i64 n ∧ i64 n := by
    obtain ⟨u, hu, hk⟩ := hc 15 _ rfl
    cases hu
    exact cell_num hk
  obtain ⟨px, rfl, ipx⟩ : ∃ n, c16 = .int .i64 n ∧ i64 n := by
    obtain ⟨u, hu, hk⟩ := hc 16 _ rfl
    cases hu
    exact cell_num hk
  obtain ⟨py, rfl, ipy⟩ : ∃ n, c17 = .int .i64 n ∧ i64 n := by
    obtain ⟨u, hu, hk⟩ := hc 17 _ rfl
    cases hu
    exact cell_num hk
  obtain ⟨pz, rfl, ipz⟩ : ∃ n, c18 = .int .i64 n ∧ i64 n := by
    obtain ⟨u, hu, hk⟩ := hc 18 _ rfl
    cases hu
    exact cell_num hk
  obtain ⟨qa, rfl, iqa⟩ : ∃ n, c19 = .int .i64 n ∧ i64 n := by
    obtain ⟨u, hu, hk⟩ := hc 19 _ rfl
    cases hu
    exact cell_num hk
  obtain ⟨qb, rfl, iqb⟩ : ∃ n, c20 = .int .i64 n ∧ i64 n := by
    obtain ⟨u, hu, hk⟩ := hc 20 _ rfl
    cases hu
    exact cell_num hk
  obtain ⟨qc, rfl, iqc⟩ : ∃ n, c21 = .int .i64 n ∧ i64 n := by
    obtain ⟨u, hu, hk⟩ := hc 21 _ rfl
    cases hu
    exact cell_num hk
  obtain ⟨qw, rfl, iqw⟩ : ∃ n, c22 = .int .i64 n ∧ i64 n := by
    obtain ⟨u, hu, hk⟩ := hc 22 _ rfl
    cases hu
    exact cell_num hk
  obtain ⟨qx, rfl, iqx⟩ : ∃ n, c23 = .int .i64 n ∧ i64 n := by
    obtain ⟨u, hu, hk⟩ := hc 23 _ rfl
    cases hu
    exact cell_num hk
  obtain ⟨qy, rfl, iqy⟩ : ∃ n, c24 = .int .i64 n ∧ i64 n := by
    obtain ⟨u, hu, hk⟩ := hc 24 _ rfl
    cases hu
    exact cell_num hk
  obtain ⟨qz, rfl, iqz⟩ : ∃ n, c25 = .int .i64 n ∧ i64 n := by
    obtain ⟨u, hu, hk⟩ := hc 25 _ rfl
    cases hu
    exact cell_num hk
  obtain ⟨ne, rfl, ine⟩ : ∃ n, c26 = .int .i64 n ∧ i64 n := by
    obtain ⟨u, hu, hk⟩ := hc 26 _ rfl
    cases hu
    exact cell_num hk
  obtain ⟨wx, rfl, iwx⟩ : ∃ n, c27 = .int .i64 n ∧ i64 n := by
    obtain ⟨u, hu, hk⟩ := hc 27 _ rfl
    cases hu
    exact cell_num hk
  obtain ⟨wy, rfl, iwy⟩ : ∃ n, c28 = .int .i64 n ∧ i64 n := by
    obtain ⟨u, hu, hk⟩ := hc 28 _ rfl
    cases hu
    exact cell_num hk
  obtain ⟨wz, rfl, iwz⟩ : ∃ n, c29 = .int .i64 n ∧ i64 n := by
    obtain ⟨u, hu, hk⟩ := hc 29 _ rfl
    cases hu
    exact cell_num hk
  clear hc hsz hC
  obtain ⟨fuel, hf0⟩ := h
  obtain ⟨xs, n, _, hx, _, hlen, hf⟩ := DataW.trod_struct Try.underlying33 hf0
  simp only [Prod.mk.injEq] at hx
  obtain ⟨rfl, _⟩ := hx
  have h0 := hf 0 _ rfl
  have h1 := hf 1 _ rfl
  have k26 : Try.prog.cellsOf 26 = 6 := by kernel_rfl
  obtain ⟨y0, hy0⟩ : ∃ y, xs[0]? = some y := ⟨_, List.getElem?_eq_getElem (by rw [hlen]; decide)⟩
  obtain ⟨y1, hy1⟩ : ∃ y, xs[1]? = some y := ⟨_, List.getElem?_eq_getElem (by rw [hlen]; decide)⟩
  rw [hy0] at h0
  rw [hy1] at h1
  have w0 : ∀ k ∈ y0.1.weights Try.prog 26, k ≤ reachBytes := fun k hk => hw k (by
    rw [DataW.weights, Try.underlying33]
    exact DataW.weights_mem_each (j := 0) (t := 26) (d := y0.1) rfl (by rw [List.getElem?_map, hy0]; rfl) k hk)
  have w1 : ∀ k ∈ y1.1.weights Try.prog 26, k ≤ reachBytes := fun k hk => hw k (by
    rw [DataW.weights, Try.underlying33]
    exact DataW.weights_mem_each (j := 1) (t := 26) (d := y1.1) rfl (by rw [List.getElem?_map, hy1]; rfl) k hk)
  have h0' : DataW.trod enc Try.prog W base spare held n 26 [.int .i64 k1, .int .i64 r1, .int .i64 x1, .int .i64 y1', .int .i64 z1', .slice A1 n1 cap1] = some y0 := by
    have e : ((List.drop 0 ([.int .i64 k1, .int .i64 r1, .int .i64 x1, .int .i64 y1', .int .i64 z1', .slice A1 n1 cap1, .int .i64 k2, .int .i64 r2, .int .i64 x2, .int .i64 y2, .int .i64 z2, .slice A2 n2 cap2, .int .i64 pa, .int .i64 pb, .int .i64 pd, .int .i64 pw, .int .i64 px, .int .i64 py, .int .i64 pz, .int .i64 qa, .int .i64 qb, .int .i64 qc, .int .i64 qw, .int .i64 qx, .int .i64 qy, .int .i64 qz, .int .i64 ne, .int .i64 wx, .int .i64 wy, .int .i64 wz] : List Value)).take (Try.prog.cellsOf 26)) = [.int .i64 k1, .int .i64 r1, .int .i64 x1, .int .i64 y1', .int .i64 z1', .slice A1 n1 cap1] := by rw [k26]; rfl
    exact (congrArg _ e.symm).trans h0
  have h1' : DataW.trod enc Try.prog W base spare held n 26 [.int .i64 k2, .int .i64 r2, .int .i64 x2, .int .i64 y2, .int .i64 z2, .slice A2 n2 cap2] = some y1 := by
    have e : ((List.drop 6 ([.int .i64 k1, .int .i64 r1, .int .i64 x1, .int .i64 y1', .int .i64 z1', .slice A1 n1 cap1, .int .i64 k2, .int .i64 r2, .int .i64 x2, .int .i64 y2, .int .i64 z2, .slice A2 n2 cap2, .int .i64 pa, .int .i64 pb, .int .i64 pd, .int .i64 pw, .int .i64 px, .int .i64 py, .int .i64 pz, .int .i64 qa, .int .i64 qb, .int .i64 qc, .int .i64 qw, .int .i64 qx, .int .i64 qy, .int .i64 qz, .int .i64 ne, .int .i64 wx, .int .i64 wy, .int .i64 wz] : List Value)).take (Try.prog.cellsOf 26)) = [.int .i64 k2, .int .i64 r2, .int .i64 x2, .int .i64 y2, .int .i64 z2, .slice A2 n2 cap2] := by rw [k26]; rfl
    exact (congrArg _ e.symm).trans h1
  obtain ⟨m0, z0, t0, u0⟩ := open_raw5 (W := W) (v5 := .slice A1 n1 cap1) h0' w0
  obtain ⟨m1, z1, t1, u1⟩ := open_raw5 (W := W) (v5 := .slice A2 n2 cap2) h1' w1
  obtain ⟨l1, hl1, R1, I1, L1⟩ := open_pts hA1 t0 u0
  obtain ⟨l2, hl2, R2, I2, L2⟩ := open_pts hA2 t1 u1
  subst hl1 hl2
  exact ⟨k1, r1, ⟨x1, y1', z1'⟩, l1, A1, cap1, k2, r2, ⟨x2, y2, z2⟩, l2, A2, cap2, ⟨⟨pa, pb, pd⟩, ⟨pw, px, py, pz⟩⟩, ⟨⟨qa, qb, qc⟩, ⟨qw, qx, qy, qz⟩⟩, ne, ⟨wx, wy, wz⟩, rfl, R1, ⟨ik1, ir1, ⟨ix1, iy1', iz1'⟩, L1, I1⟩, R2, ⟨ik2, ir2, ⟨ix2, iy2, iz2⟩, L2, I2⟩, ⟨ipa, ipb, ipd, ipw, ipx, ipy, ipz⟩, ⟨iqa, iqb, iqc, iqw, iqx, iqy, iqz⟩, ine, ⟨iwx, iwy, iwz⟩⟩
end
end Go.Proofs.Ytckdhahceelckaa.G
namespace Go.Proofs.Ytckdhahceelckaa.G
open Go.RowKit Go.Proofs.YtckdhahceelckaaW.PrintWords Go.Proofs.YtckdhahceelckaaW.PrintLast Go.Proofs.YtckdhahceelckaaW.PrintMore
set_option linter.unusedVariables false
set_option linter.unusedSimpArgs false
theorem any_far {n : Int} (h0 : 0 ≤ n) (h1 : n ≤ 9223372036854775807) {l : List P3} (h : ∀ x ∈ l, in3 n x) : l.any (far3 n) = false := by
  rw [List.any_eq_false]
  intro x hx
  rw [(far3_iff n x h0 h1).2 (h x hx)]
  decide
theorem place_in3 {m : M3} {at_ x : P3} (hm : mOk m) (ha : atOk at_) (hx : in3 65536 x) : in3 8388608 (placePt m at_ x) := by
  obtain ⟨_, _, _, h⟩ := turn_ok2 hm (times_in2 hx)
  obtain ⟨_, _, _, h2⟩ := add_in h ha
  exact down_in h2
theorem waysF_in (m : M3) (l : List P3) : ∀ x ∈ waysF m l, in3 1048576 x := by
  intro x hx
  unfold waysF at hx
  obtain ⟨h1, _⟩ := List.mem_filter.1 hx
  obtain ⟨y, _, rfl⟩ := List.mem_map.1 h1
  exact short3_in _
theorem CoreIs.may {s : Shp} (hs : ShpOk s) {p a e : List P3} (h : CoreIs s p a e) {q : P7} (hm : mOk (rowsF q.turn)) (ha : atOk q.at_) :
    MayP (p.map (placePt (rowsF q.turn) q.at_)) (waysF (rowsF q.turn) a) (waysF (rowsF q.turn) e) s.radius := by
  have hB := h.bounds hs
  refine ⟨fun e' => ?_, ?_, ?_, ?_, ?_, ?_, any_far (by decide) (by decide) fun x hx => ?_, any_far (by decide) (by decide) (waysF_in _ _), any_far (by decide) (by decide) (waysF_in _ _)⟩
  · have := hB.p0
    rw [List.map_eq_nil_iff] at e'
    rw [e'] at this
    simp at this
  · rw [List.length_map]; have := hB.p1; omega
  · have := hB.a1; have := waysF_len (rowsF q.turn) a; omega
  · have := hB.e1; have := waysF_len (rowsF q.turn) e; omega
  · have := hs.r0; omega
  · have := hs.r1; omega
  · obtain ⟨y, hy, rfl⟩ := List.mem_map.1 hx
    exact in3_le (by decide) (place_in3 hm ha (hB.pin y hy))
/-- both of Cores' answers may be -/
theorem rightPose_ok (p : P7) : mOk (rowsF (rightPose p).turn) ∧ atOk (rightPose p).at_ := by
  simp only [rightPose]
  exact ⟨rows_mOk (wholeF_q32 (partQ p.turn)), partV_at p.at_⟩
theorem nearF_ok (near : Int) (way : P3) (p : P7) : atOk (nearF near way (rightPose p).at_) := by
  have a := partF_bd p.at_.x 4398046511104 (by decide)
  have b := partF_bd p.at_.y 4398046511104 (by decide)
  have c := partF_bd p.at_.z 4398046511104 (by decide)
  have n := pickF_bd near 131072 (by decide)
  have x := pickF_bd way.x (2 * (1 + pickF near 131072)) (by omega)
  have y := pickF_bd way.y (2 * (1 + pickF near 131072)) (by omega)
  have z := pickF_bd way.z (2 * (1 + pickF near 131072)) (by omega)
  simp only [rightPose, partV, nearF, atOk, in3]
  omega
/-- what a value of Cores is for Apart -/
theorem CoreAt.may {s : Shp} (hs : ShpOk s) {q : P7} (hm : mOk (rowsF q.turn)) (ha : atOk q.at_) {w : World} {v : Value} (h : CoreAt s q w v) : ∃ p a e, CoreV w v p a e s.radius ∧ MayP p a e s.radius := by
  obtain ⟨p, a, e, h1, h2⟩ := h
  exact ⟨_, _, _, h2, h1.may hs hm ha⟩
end Go.Proofs.Ytckdhahceelckaa.G
namespace Go.Proofs.Ytckdhahceelckaa.G
open Go.RowKit Go.Proofs.YtckdhahceelckaaW.PrintWords
set_option linter.unusedVariables false
theorem gapV_more (s up down ra rb n : Int) : gapV s up down (ra + n) rb = gapV s up down ra rb - n := by unfold gapV; split <;> omega
def lessG (m : Int) (s : (P3 × Int) × Bool) : (P3 × Int) × Bool := ((s.1.1, s.1.2 - m), s.2)
theorem gapsF_more (n a0 : P3) (ar : List P3) (ra m : Int) (b0 : P3) (br : List P3) (rb : Int) : gapsF n a0 ar (ra + m) b0 br rb = ((gapsF n a0 ar ra b0 br rb).1 - m, (gapsF n a0 ar ra b0 br rb).2 - m) := by
  unfold gapsF; simp only [gapV_more]
theorem apStep_more (a0 : P3) (ar : List P3) (ra m : Int) (b0 : P3) (br : List P3) (rb : Int) (s : (P3 × Int) × Bool) (n : P3) :
    apStep a0 ar (ra + m) b0 br rb (lessG m s) n = lessG m (apStep a0 ar ra b0 br rb s n) := by
  obtain ⟨⟨ax, g⟩, f⟩ := s
  unfold apStep
  by_cases hl : long3 n = ⟨0, 0, 0⟩
  · simp only [hl, if_true]
  · rw [if_neg hl, if_neg hl, gapsF_more]
    generalize gapsF (long3 n) a0 ar ra b0 br rb = q
    obtain ⟨q1, q2⟩ := q
    simp only [lessG]
    cases f
    · by_cases h1 : g < q1
      · have h1' : g - m < q1 - m := by omega
        simp only [Bool.false_eq_true, false_or, h1, h1', if_true]
        by_cases h2 : q1 < q2
        · have h2' : q1 - m < q2 - m := by omega
          simp only [h2, h2', if_true]
        · have h2' : ¬ (q1 - m < q2 - m) := by omega
          simp only [h2, h2', if_false]
      · have h1' : ¬ (g - m < q1 - m) := by omega
        simp only [Bool.false_eq_true, false_or, h1, h1', if_false]
        by_cases h2 : g < q2
        · have h2' : g - m < q2 - m := by omega
          simp only [h2, h2', if_true]
        · have h2' : ¬ (g - m < q2 - m) := by omega
          simp only [h2, h2', if_false]
    · simp only [true_or, if_true]
      by_cases h2 : q1 < q2
      · have h2' : q1 - m < q2 - m := by omega
        simp only [h2, h2', if_true]
      · have h2' : ¬ (q1 - m < q2 - m) := by omega
        simp only [h2, h2', if_false]
theorem apF_more (a0 : P3) (ar : List P3) (ra m : Int) (b0 : P3) (br : List P3) (rb : Int) (l : List P3) : apF a0 ar (ra + m) b0 br rb l = lessG m (apF a0 ar ra b0 br rb l) := by
  have gen : ∀ (l : List P3) (s : (P3 × Int) × Bool), l.foldl (apStep a0 ar (ra + m) b0 br rb) (lessG m s) = lessG m (l.foldl (apStep a0 ar ra b0 br rb) s) := by
    intro l
    induction l with
    | nil => intro s; rfl
    | cons x l ih => intro s; rw [List.foldl_cons, List.foldl_cons, apStep_more]; exact ih _
  have h := gen l ((⟨0, 0, 1048576⟩, -ra - rb), true)
  unfold apF
  rw [← h]
  have e : lessG m ((⟨0, 0, 1048576⟩, -ra - rb), true) = (((⟨0, 0, 1048576⟩ : P3), -(ra + m) - rb), true) := by unfold lessG; simp only [Prod.mk.injEq, and_true, true_and]; omega
  rw [e]
theorem apartF_more (p a e : List P3) (r m : Int) (q b f : List P3) (s : Int) : apartF p a e (r + m) q b f s = ((apartF p a e r q b f s).1, (apartF p a e r q b f s).2 - m) := by
  unfold apartF; rw [apF_more]; rfl
theorem reachF_le (n p0 : P3) (r : List P3) : (reachF n p0 r).1 ≤ (reachF n p0 r).2 := by
  have gen : ∀ (l : List P3) (s : Int × Int), s.1 ≤ s.2 → (l.foldl (rstep n) s).1 ≤ (l.foldl (rstep n) s).2 := by
    intro l
    induction l with
    | nil => intro s h; exact h
    | cons p l ih =>
      intro s h
      obtain ⟨m1, m2, m3⟩ := mx_facts s.2 (dot3 n p)
      obtain ⟨k1, k2, k3⟩ := mn_facts s.1 (dot3 n p)
      exact ih _ (by unfold rstep; simp only; omega)
  exact gen r _ (Int.le_refl _)
theorem gapV_low (s up down ra rb : Int) (hs : s ≤ 0) (hd : 0 < down) : gapV s up down ra rb ≤ -ra - rb := by
  unfold gapV
  split
  · have : s = 0 := by omega
    subst this; rw [Int.zero_ediv]; omega
  · have := Int.ediv_nonneg (show 0 ≤ -s + down - 1 by omega) (Int.le_of_lt hd); omega
theorem apF_self (p0 : P3) (r : List P3) (ra : Int) (l : List P3) : (apF p0 r ra p0 r ra l).1.2 ≤ -2 * ra := by
  have gen : ∀ (l : List P3) (s : (P3 × Int) × Bool), s.1.2 ≤ -2 * ra → (l.foldl (apStep p0 r ra p0 r ra) s).1.2 ≤ -2 * ra := by
    intro l
    induction l with
    | nil => intro s h; exact h
    | cons x l ih =>
      intro s h
      rw [List.foldl_cons]
      apply ih
      unfold apStep
      by_cases hl : long3 x = ⟨0, 0, 0⟩
      · rw [if_pos hl]; exact h
      · rw [if_neg hl]
        have hd := fl3_pos _ hl
        have hr := reachF_le (long3 x) p0 r
        have g1 := gapV_low ((reachF (long3 x) p0 r).1 - (reachF (long3 x) p0 r).2) (ce3 (long3 x)) (fl3 (long3 x)) ra ra (by omega) (by omega)
        unfold gapsF
        simp only
        repeat' split
        all_goals ((try simp only); omega)
  exact gen l _ (by simp only; omega)
theorem apartF_self (p a e : List P3) (r : Int) : (apartF p a e r p a e r).2 ≤ -2 * r := apF_self _ _ _ _
end Go.Proofs.Ytckdhahceelckaa.G
namespace Go.Proofs.Ytckdhahceelckaa.G
open Go.RowKit Go.Proofs.YtckdhahceelckaaW.PrintWords Go.Proofs.YtckdhahceelckaaW.PrintLast Go.Proofs.YtckdhahceelckaaW.PrintMore
attribute [local go_sem] max2_mx min2_mn max_two min_two max_three min_three max_four min_four
attribute [local go_sem high] eqA23
set_option linter.unusedVariables false
set_option linter.unusedSimpArgs false
set_option maxHeartbeats 8000000 in
set_option maxRecDepth 100000 in
theorem self_calls (k1 r1 : Int) (h1 : P3) (l1 : List P3) (A1 : Option Addr) (c1 : Nat) (k2 r2 : Int) (h2 : P3) (l2 : List P3) (A2 : Option Addr) (c2 : Nat) (p q : P7) (near : Int) (way : P3) (w : World)
    (hA1 : RdB w A1 l1) (hr1 : RawOk k1 r1 h1 l1) (hA2 : RdB w A2 l2) (hr2 : RawOk k2 r2 h2 l2) (hp : i64s p) (hq : i64s q) (hne : i64 near) (hwa : pI64 way) :
    Calls Try.prog 6 #[.agg (cTwo k1 r1 h1 A1 l1.length c1 k2 r2 h2 A2 l2.length c2 p q near way)] w fun e w' => e = .returned (.bool true) ∧ Below w.heap.size w w' := by
  have HC := Lib.hid (fun (W : World) (hW1 : RdB W A1 l1) (hW2 : RdB W A2 l2) => cores_calls k1 r1 h1 l1 A1 c1 k2 r2 h2 l2 A2 c2 p q near way W hW1 hr1 hW2 hr2 hp hq hne hwa)
  have HM := Lib.hid (fun (W : World) (v : Value) (h : CoreAt (rightS k1 r1 h1 l1) (rightPose p) W v) => h.may (rightS_ok k1 r1 h1 l1) (rightPose_ok p).1 (rightPose_ok p).2)
  have HS := Lib.hid (rightS_ok k1 r1 h1 l1)
  have HA1 := Lib.hid hA1
  have HA2 := Lib.hid hA2
  obtain ⟨s1, hs1⟩ : ∃ s, rightS k1 r1 h1 l1 = s := ⟨_, rfl⟩
  obtain ⟨s2, hs2⟩ : ∃ s, rightS k2 r2 h2 l2 = s := ⟨_, rfl⟩
  obtain ⟨Qn, hQn⟩ : ∃ s, (⟨nearF near way (rightPose p).at_, (rightPose q).turn⟩ : P7) = s := ⟨_, rfl⟩
  rw [hs2, hQn] at HC
  obtain ⟨P, hP⟩ : ∃ s, rightPose p = s := ⟨_, rfl⟩
  rw [hs1] at HC HM HS
  rw [hP] at HC HM
  obtain ⟨N1, hN1⟩ : ∃ N, l1.length = N := ⟨_, rfl⟩
  obtain ⟨N2, hN2⟩ : ∃ N, l2.length = N := ⟨_, rfl⟩
  rw [hN1, hN2] at HC ⊢
  clear hA1 hr1 hA2 hr2 hp hq hne hwa hs1 hs2 hQn hP hN1 hN2
  obtain ⟨h1x, h1y, h1z⟩ := h1
  obtain ⟨h2x, h2y, h2z⟩ := h2
  obtain ⟨⟨pax, pay, paz⟩, ⟨ptw, ptx, pty, ptz⟩⟩ := p
  obtain ⟨⟨qax, qay, qaz⟩, ⟨qtw, qtx, qty, qtz⟩⟩ := q
  obtain ⟨wx, wy, wz⟩ := way
  have T0 := Lib.hid (heap_alloc_new w (.cells #[.int .i64 k1, .int .i64 r1, .int .i64 h1x, .int .i64 h1y, .int .i64 h1z, .slice A1 N1 c1, .int .i64 k2, .int .i64 r2, .int .i64 h2x, .int .i64 h2y, .int .i64 h2z, .slice A2 N2 c2, .int .i64 pax, .int .i64 pay, .int .i64 paz, .int .i64 ptw, .int .i64 ptx, .int .i64 pty, .int .i64 ptz, .int .i64 qax, .int .i64 qay, .int .i64 qaz, .int .i64 qtw, .int .i64 qtx, .int .i64 qty, .int .i64 qtz, .int .i64 near, .int .i64 wx, .int .i64 wy, .int .i64 wz] 33))
  have W := Lib.hid ((Below.refl _ w).alloc (Nat.le_refl _) (.cells #[.int .i64 k1, .int .i64 r1, .int .i64 h1x, .int .i64 h1y, .int .i64 h1z, .slice A1 N1 c1, .int .i64 k2, .int .i64 r2, .int .i64 h2x, .int .i64 h2y, .int .i64 h2z, .slice A2 N2 c2, .int .i64 pax, .int .i64 pay, .int .i64 paz, .int .i64 ptw, .int .i64 ptx, .int .i64 pty, .int .i64 ptz, .int .i64 qax, .int .i64 qay, .int .i64 qaz, .int .i64 qtw, .int .i64 qtx, .int .i64 qty, .int .i64 qtz, .int .i64 near, .int .i64 wx, .int .i64 wy, .int .i64 wz] 33))
  go_enter Try.func6, Try.ntmps6
  go_wp2_with fail
  refine (awake_calls _).mono ?_
  rintro e w1 ⟨rfl, hb⟩
  have T0 := Lib.hid ((hb.block _ (blk_lt T0.out)).trans T0.out)
  have W := Lib.hid (bthen W.out hb)
  clear hb
  go_wp2_with (refine wpList_load_row rfl 33 _ rfl w.heap.size rfl 33 _ (0, 0) _ T0.out Try.underlying33 rfl (by kernel_rfl) ?_)
  refine (HC.out w1 (HA1.out.below W.out) (HA2.out.below W.out)).mono ?_
  rintro e w2 ⟨va, vb, rfl, ha, hb_, hb⟩
  obtain ⟨p, a, e, hv, hm⟩ := HM.out w2 va ha
  obtain ⟨q', a', e', _, hvb⟩ := hb_
  obtain ⟨B0, B1, B2, d0, d1, d2, hva, _⟩ := hv.out
  obtain ⟨B3, B4, B5, d3, d4, d5, hvb', _⟩ := hvb.out
  have HV := Lib.hid hv
  have HAP := Lib.hid (fun (W : World) (hW : CoreV W va p a e s1.radius) => apart_calls p a e s1.radius p a e s1.radius va va W hW hW hm hm _ rfl)
  have hself := apartF_self p a e s1.radius
  have W := Lib.hid (bthen W.out hb)
  obtain ⟨R, hR⟩ : ∃ R, apartF p a e s1.radius p a e s1.radius = R := ⟨_, rfl⟩
  rw [hR] at HAP hself
  obtain ⟨⟨Rx, Ry, Rz⟩, Rg⟩ := R
  simp only at HAP hself
  have hra0 := HS.out.r0
  have hra1 := HS.out.r1
  obtain ⟨ra, hra⟩ : ∃ n, s1.radius = n := ⟨_, rfl⟩
  obtain ⟨n3, hn3⟩ : ∃ n, (q'.map (placePt (rowsF Qn.turn) Qn.at_)).length = n := ⟨_, rfl⟩
  obtain ⟨n4, hn4⟩ : ∃ n, (waysF (rowsF Qn.turn) a').length = n := ⟨_, rfl⟩
  obtain ⟨n5, hn5⟩ : ∃ n, (waysF (rowsF Qn.turn) e').length = n := ⟨_, rfl⟩
  obtain ⟨rb, hrb⟩ : ∃ n, s2.radius = n := ⟨_, rfl⟩
  rw [hn3, hn4, hn5, hrb] at hvb'
  rw [hra] at hva HV hself hra0 hra1 HAP
  obtain ⟨n0, hn0⟩ : ∃ n, p.length = n := ⟨_, rfl⟩
  obtain ⟨n1, hn1⟩ : ∃ n, a.length = n := ⟨_, rfl⟩
  obtain ⟨n2, hn2⟩ : ∃ n, e.length = n := ⟨_, rfl⟩
  rw [hn0, hn1, hn2] at hva
  subst hva hvb'
  clear hn3 hn4 hn5 hrb hn0 hn1 hn2 hra hR hv hvb ha hb hm
  have b2 := (Below.refl w2.heap.size w2).alloc (Nat.le_refl _) (.cells #[.slice B0 n0 d0, .slice B1 n1 d1, .slice B2 n2 d2, .int .i64 ra] 36)
  have b3 := b2.alloc (by simp) (.cells #[.slice B3 n3 d3, .slice B4 n4 d4, .slice B5 n5 d5, .int .i64 rb] 36)
  have zc := (Below.heap_alloc _ (.cells #[.slice B3 n3 d3, .slice B4 n4 d4, .slice B5 n5 d5, .int .i64 rb] 36) _ (by simp)).trans (heap_alloc_new w2 (.cells #[.slice B0 n0 d0, .slice B1 n1 d1, .slice B2 n2 d2, .int .i64 ra] 36))
  obtain ⟨w3, hw3⟩ : ∃ V, (w2.alloc (.cells #[.slice B0 n0 d0, .slice B1 n1 d1, .slice B2 n2 d2, .int .i64 ra] 36)).alloc (.cells #[.slice B3 n3 d3, .slice B4 n4 d4, .slice B5 n5 d5, .int .i64 rb] 36) = V := ⟨_, rfl⟩
  rw [hw3] at b3 zc
  have b3 := Lib.hid b3
  have zc := Lib.hid zc
  have hw3' := Lib.hid hw3
  clear hw3 b2
  obtain ⟨CB, hCB⟩ : ∃ g, w2.heap.size = g := ⟨_, rfl⟩
  have hCB' := Lib.hid hCB
  clear hCB
  go_wp2_with fail
  rw [hw3'.out]
  refine (HAP.out w3 (HV.out.below b3.out)).mono ?_
  rintro e w4 ⟨rfl, hb⟩
  have z4 := (hb.block _ (blk_lt zc.out)).trans zc.out
  have x3 : w4.cell? ⟨w2.heap.size, 3, none⟩ = some (.int .i64 ra) := (blk_cell z4 3).trans rfl
  have l4 : w2.heap.size < w4.heap.size := blk_lt z4
  have WF := Lib.hid (bthen (bthen W.out b3.out) hb)
  have hle : decide (Rg ≤ -2 * ra) = true := decide_eq_true hself
  have hw : wrap64 (-2 * ra) = -2 * ra := by unfold wrap64; omega
  clear hb z4
  go_wp2
  go_ret
  exact ⟨rfl, WF.out.alloc (Nat.le_of_lt (by have := W.out.size; omega)) _⟩
end Go.Proofs.Ytckdhahceelckaa.G
namespace Go.Proofs.Ytckdhahceelckaa.G
open Go.RowKit Go.Proofs.YtckdhahceelckaaW.PrintWords
set_option linter.unusedVariables false
theorem apF_inv (a0 : P3) (ar : List P3) (ra : Int) (b0 : P3) (br : List P3) (rb : Int) (l : List P3) :
    ((apF a0 ar ra b0 br rb l).2 = true ∧ (apF a0 ar ra b0 br rb l).1 = (⟨0, 0, 1048576⟩, -ra - rb) ∧ ∀ x ∈ l, long3 x = ⟨0, 0, 0⟩) ∨
    ((apF a0 ar ra b0 br rb l).2 = false ∧ ∃ x ∈ l, long3 x ≠ ⟨0, 0, 0⟩ ∧ ((apF a0 ar ra b0 br rb l).1 = (long3 x, (gapsF (long3 x) a0 ar ra b0 br rb).1) ∨ (apF a0 ar ra b0 br rb l).1 = (minus3 ⟨0, 0, 0⟩ (long3 x), (gapsF (long3 x) a0 ar ra b0 br rb).2))) := by
  have gen : ∀ (k : Nat), k ≤ l.length → ((apF a0 ar ra b0 br rb (l.take k)).2 = true ∧ (apF a0 ar ra b0 br rb (l.take k)).1 = (⟨0, 0, 1048576⟩, -ra - rb) ∧ ∀ x ∈ l.take k, long3 x = ⟨0, 0, 0⟩) ∨
    ((apF a0 ar ra b0 br rb (l.take k)).2 = false ∧ ∃ x ∈ l.take k, long3 x ≠ ⟨0, 0, 0⟩ ∧ ((apF a0 ar ra b0 br rb (l.take k)).1 = (long3 x, (gapsF (long3 x) a0 ar ra b0 br rb).1) ∨ (apF a0 ar ra b0 br rb (l.take k)).1 = (minus3 ⟨0, 0, 0⟩ (long3 x), (gapsF (long3 x) a0 ar ra b0 br rb).2))) := by
    intro k
    induction k with
    | zero => intro _; left; exact ⟨rfl, rfl, by simp⟩
    | succ k ih =>
      intro hk
      have e : l.take (k + 1) = l.take k ++ [l[k]] := by rw [List.take_succ_eq_append_getElem (by omega)]
      rw [e, apF_snoc]
      have ih := ih (by omega)
      generalize apF a0 ar ra b0 br rb (l.take k) = s at ih
      unfold apStep
      by_cases h : long3 l[k] = ⟨0, 0, 0⟩
      · rw [if_pos h]
        rcases ih with ⟨h1, h2, h3⟩ | ⟨h1, x, hx, h2⟩
        · left
          refine ⟨h1, h2, fun x hx => ?_⟩
          rcases List.mem_append.1 hx with hx | hx
          · exact h3 x hx
          · simp at hx; rw [hx]; exact h
        · right; exact ⟨h1, x, List.mem_append_left _ hx, h2⟩
      · rw [if_neg h]
        right
        refine ⟨rfl, ?_⟩
        have hm : l[k] ∈ l.take k ++ [l[k]] := List.mem_append_right _ (List.mem_singleton.2 rfl)
        simp only
        by_cases g2 : (if s.2 = true ∨ s.1.2 < (gapsF (long3 l[k]) a0 ar ra b0 br rb).1 then (long3 l[k], (gapsF (long3 l[k]) a0 ar ra b0 br rb).1) else s.1).2 < (gapsF (long3 l[k]) a0 ar ra b0 br rb).2
        · rw [if_pos g2]; exact ⟨l[k], hm, h, .inr rfl⟩
        · rw [if_neg g2]
          by_cases g1 : s.2 = true ∨ s.1.2 < (gapsF (long3 l[k]) a0 ar ra b0 br rb).1
          · rw [if_pos g1]; exact ⟨l[k], hm, h, .inl rfl⟩
          · rw [if_neg g1]
            rcases ih with ⟨h1, _⟩ | ⟨h1, x, hx, h2⟩
            · exact absurd (.inl h1) g1
            · exact ⟨x, List.mem_append_left _ hx, h2⟩
  have := gen l.length (Nat.le_refl _)
  rwa [List.take_length] at this
theorem gapV_bd (s up down ra rb : Int) (hs : -1125899906842624 ≤ s ∧ s ≤ 1125899906842624) (hd : 1 ≤ down) (hu : 1 ≤ up) (hra : 0 ≤ ra ∧ ra ≤ 131072) (hrb : 0 ≤ rb ∧ rb ≤ 131072) : -2251799813685248 ≤ gapV s up down ra rb ∧ gapV s up down ra rb ≤ 2251799813685248 := by
  unfold gapV
  split
  · have h1 := Int.ediv_nonneg (show 0 ≤ s by omega) (show 0 ≤ up by omega)
    have h2 := Int.ediv_le_self up (show 0 ≤ s by omega)
    omega
  · have h1 := Int.ediv_nonneg (show 0 ≤ -s + down - 1 by omega) (show 0 ≤ down by omega)
    have h2 : (-s + down - 1) / down ≤ -s := by
      apply Int.le_of_lt_add_one
      apply Int.ediv_lt_of_lt_mul (by omega)
      have : (-s + 1) * down = -s * (down - 1) + -s + down := by grind
      have := Int.mul_nonneg (show 0 ≤ -s by omega) (show 0 ≤ down - 1 by omega)
      omega
    omega
theorem reach_bd {n p0 : P3} {r : List P3} (hn : in3 1048576 n) (h : ∀ p ∈ p0 :: r, in3 16777216 p) : -52776558133248 ≤ (reachF n p0 r).1 ∧ (reachF n p0 r).1 ≤ 52776558133248 ∧ -52776558133248 ≤ (reachF n p0 r).2 ∧ (reachF n p0 r).2 ≤ 52776558133248 := by
  have each : ∀ p, in3 16777216 p → -52776558133248 ≤ dot3 n p ∧ dot3 n p ≤ 52776558133248 := by
    intro p hp
    rw [dot3_eq n p 1048576 16777216 hn hp (by decide)]
    have := dotI_bd n p 1048576 16777216 hn hp
    omega
  exact reachF_bd n p0 r 52776558133248 (each p0 (h p0 (by simp))) fun p hp => each p (h p (by simp [hp]))
theorem gapsF_bd {n a0 b0 : P3} {ar br : List P3} {ra rb : Int} (hn : in3 1048576 n) (h0 : n ≠ ⟨0, 0, 0⟩) (ha : ∀ p ∈ a0 :: ar, in3 16777216 p) (hb : ∀ p ∈ b0 :: br, in3 16777216 p) (hra : 0 ≤ ra ∧ ra ≤ 131072) (hrb : 0 ≤ rb ∧ rb ≤ 131072) :
    (-2251799813685248 ≤ (gapsF n a0 ar ra b0 br rb).1 ∧ (gapsF n a0 ar ra b0 br rb).1 ≤ 2251799813685248) ∧ -2251799813685248 ≤ (gapsF n a0 ar ra b0 br rb).2 ∧ (gapsF n a0 ar ra b0 br rb).2 ≤ 2251799813685248 := by
  have h1 := reach_bd hn ha
  have h2 := reach_bd hn hb
  have h3 := fl3_pos n h0
  have h4 := ce3_bd n
  unfold gapsF
  exact ⟨gapV_bd _ _ _ _ _ (by omega) h3 (by omega) hra hrb, gapV_bd _ _ _ _ _ (by omega) h3 (by omega) hra hrb⟩
theorem far_in {n : Int} (h0 : 0 ≤ n) (h1 : n ≤ 9223372036854775807) {l : List P3} (h : l.any (far3 n) = false) : ∀ x ∈ l, in3 n x := by
  intro x hx
  rw [List.any_eq_false] at h
  have := h x hx
  exact (far3_iff n x h0 h1).1 (by simpa using this)
theorem MayP.pts {p a e : List P3} {r : Int} (m : MayP p a e r) : ∃ p0 pr, p = p0 :: pr ∧ ∀ x ∈ p0 :: pr, in3 16777216 x := by
  obtain ⟨p0, pr, rfl⟩ := List.exists_cons_of_ne_nil m.p0
  exact ⟨p0, pr, rfl, far_in (by decide) (by decide) m.pf⟩
theorem apartF_bd {p a e : List P3} {r : Int} {q b f : List P3} {s : Int} (m : MayP p a e r) (k : MayP q b f s) : -2251799813685248 ≤ (apartF p a e r q b f s).2 ∧ (apartF p a e r q b f s).2 ≤ 2251799813685248 := by
  obtain ⟨p0, pr, rfl, hp⟩ := m.pts
  obtain ⟨q0, qr, rfl, hq⟩ := k.pts
  have m0 := m.r0
  have m1 := m.r1
  have k0 := k.r0
  have k1 := k.r1
  unfold apartF
  simp only [List.headD_cons, List.tail_cons]
  rcases apF_inv p0 pr r q0 qr s (rawC (p0 :: pr) a e (q0 :: qr) b f) with ⟨_, h, _⟩ | ⟨_, x, _, h0, h | h⟩
  · rw [h]; simp only; omega
  · rw [h]; exact (gapsF_bd (long3_in x) h0 hp hq (by omega) (by omega)).1
  · rw [h]; exact (gapsF_bd (long3_in x) h0 hp hq (by omega) (by omega)).2
end Go.Proofs.Ytckdhahceelckaa.G
namespace Go.Proofs.Ytckdhahceelckaa.G
open Go.RowKit Go.Proofs.YtckdhahceelckaaW.PrintWords Go.Proofs.YtckdhahceelckaaW.PrintLast Go.Proofs.YtckdhahceelckaaW.PrintMore
attribute [local go_sem] max2_mx min2_mn max_two min_two max_three min_three max_four min_four
attribute [local go_sem high] eqA23
set_option linter.unusedVariables false
set_option linter.unusedSimpArgs false
theorem CoreAt.may2 {s : Shp} (hs : ShpOk s) (A : P3) (t : Q4) (hm : mOk (rowsF t)) (ha : atOk A) {w : World} {v : Value} (h : CoreAt s ⟨A, t⟩ w v) : ∃ p a e, CoreV w v p a e s.radius ∧ MayP p a e s.radius := CoreAt.may (q := ⟨A, t⟩) hs hm ha h
set_option maxHeartbeats 8000000 in
set_option maxRecDepth 100000 in
theorem thick_calls (k1 r1 : Int) (h1 : P3) (l1 : List P3) (A1 : Option Addr) (c1 : Nat) (k2 r2 : Int) (h2 : P3) (l2 : List P3) (A2 : Option Addr) (c2 : Nat) (p q : P7) (near : Int) (way : P3) (w : World)
    (hA1 : RdB w A1 l1) (hr1 : RawOk k1 r1 h1 l1) (hA2 : RdB w A2 l2) (hr2 : RawOk k2 r2 h2 l2) (hp : i64s p) (hq : i64s q) (hne : i64 near) (hwa : pI64 way) (m : Int) (hmm : i64 m) :
    Calls Try.prog 5 #[.agg (cTwo k1 r1 h1 A1 l1.length c1 k2 r2 h2 A2 l2.length c2 p q near way), .int .i64 m] w fun e w' => e = .returned (.bool true) ∧ Below w.heap.size w w' := by
  have HC := Lib.hid (fun (W : World) (hW1 : RdB W A1 l1) (hW2 : RdB W A2 l2) => cores_calls k1 r1 h1 l1 A1 c1 k2 r2 h2 l2 A2 c2 p q near way W hW1 hr1 hW2 hr2 hp hq hne hwa)
  have HM := Lib.hid (fun (W : World) (v : Value) (h : CoreAt (rightS k1 r1 h1 l1) (rightPose p) W v) => h.may (rightS_ok k1 r1 h1 l1) (rightPose_ok p).1 (rightPose_ok p).2)
  have HS := Lib.hid (rightS_ok k1 r1 h1 l1)
  have HS2 := Lib.hid (rightS_ok k2 r2 h2 l2)
  have HM2 := Lib.hid (fun (W : World) (v : Value) (h : CoreAt (rightS k2 r2 h2 l2) ⟨nearF near way (rightPose p).at_, (rightPose q).turn⟩ W v) => CoreAt.may2 (rightS_ok k2 r2 h2 l2) (nearF near way (rightPose p).at_) (rightPose q).turn (rightPose_ok q).1 (nearF_ok near way p) h)
  have HPM := Lib.hid (fun W => pick_calls m 32768 hmm.1 hmm.2 (by decide) (by decide) W)
  have bm := pickF_bd m 32768 (by decide)
  obtain ⟨qm, hqm⟩ : ∃ x, pickF m 32768 = x := ⟨_, rfl⟩
  rw [hqm] at HPM bm
  have HA1 := Lib.hid hA1
  have HA2 := Lib.hid hA2
  obtain ⟨s1, hs1⟩ : ∃ s, rightS k1 r1 h1 l1 = s := ⟨_, rfl⟩
  obtain ⟨s2, hs2⟩ : ∃ s, rightS k2 r2 h2 l2 = s := ⟨_, rfl⟩
  obtain ⟨Qn, hQn⟩ : ∃ s, (⟨nearF near way (rightPose p).at_, (rightPose q).turn⟩ : P7) = s := ⟨_, rfl⟩
  rw [hs2, hQn] at HC HM2
  rw [hs2] at HS2
  obtain ⟨P, hP⟩ : ∃ s, rightPose p = s := ⟨_, rfl⟩
  rw [hs1] at HC HM HS
  rw [hP] at HC HM
  obtain ⟨N1, hN1⟩ : ∃ N, l1.length = N := ⟨_, rfl⟩
  obtain ⟨N2, hN2⟩ : ∃ N, l2.length = N := ⟨_, rfl⟩
  rw [hN1, hN2] at HC ⊢
  clear hqm hmm hA1 hr1 hA2 hr2 hp hq hne hwa hs1 hs2 hQn hP hN1 hN2
  obtain ⟨h1x, h1y, h1z⟩ := h1
  obtain ⟨h2x, h2y, h2z⟩ := h2
  obtain ⟨⟨pax, pay, paz⟩, ⟨ptw, ptx, pty, ptz⟩⟩ := p
  obtain ⟨⟨qax, qay, qaz⟩, ⟨qtw, qtx, qty, qtz⟩⟩ := q
  obtain ⟨wx, wy, wz⟩ := way
  have T0 := Lib.hid (heap_alloc_new w (.cells #[.int .i64 k1, .int .i64 r1, .int .i64 h1x, .int .i64 h1y, .int .i64 h1z, .slice A1 N1 c1, .int .i64 k2, .int .i64 r2, .int .i64 h2x, .int .i64 h2y, .int .i64 h2z, .slice A2 N2 c2, .int .i64 pax, .int .i64 pay, .int .i64 paz, .int .i64 ptw, .int .i64 ptx, .int .i64 pty, .int .i64 ptz, .int .i64 qax, .int .i64 qay, .int .i64 qaz, .int .i64 qtw, .int .i64 qtx, .int .i64 qty, .int .i64 qtz, .int .i64 near, .int .i64 wx, .int .i64 wy, .int .i64 wz] 33))
  have W := Lib.hid ((Below.refl _ w).alloc (Nat.le_refl _) (.cells #[.int .i64 k1, .int .i64 r1, .int .i64 h1x, .int .i64 h1y, .int .i64 h1z, .slice A1 N1 c1, .int .i64 k2, .int .i64 r2, .int .i64 h2x, .int .i64 h2y, .int .i64 h2z, .slice A2 N2 c2, .int .i64 pax, .int .i64 pay, .int .i64 paz, .int .i64 ptw, .int .i64 ptx, .int .i64 pty, .int .i64 ptz, .int .i64 qax, .int .i64 qay, .int .i64 qaz, .int .i64 qtw, .int .i64 qtx, .int .i64 qty, .int .i64 qtz, .int .i64 near, .int .i64 wx, .int .i64 wy, .int .i64 wz] 33))
  go_enter Try.func5, Try.ntmps5
  go_wp2_with fail
  refine (awake_calls _).mono ?_
  rintro e w1 ⟨rfl, hb⟩
  have T0 := Lib.hid ((hb.block _ (blk_lt T0.out)).trans T0.out)
  have W := Lib.hid (bthen W.out hb)
  clear hb
  go_wp2_with (refine wpList_load_row rfl 33 _ rfl w.heap.size rfl 33 _ (0, 0) _ T0.out Try.underlying33 rfl (by kernel_rfl) ?_)
  refine (HC.out w1 (HA1.out.below W.out) (HA2.out.below W.out)).mono ?_
  rintro e w2 ⟨va, vb, rfl, ha, hb_, hb⟩
  obtain ⟨p, a, e, hv, hm⟩ := HM.out w2 va ha
  obtain ⟨q', a', e', hvb, hm2⟩ := HM2.out w2 vb hb_
  have hra0 := HS.out.r0
  have hra1 := HS.out.r1
  obtain ⟨ra, hra⟩ : ∃ n, s1.radius = n := ⟨_, rfl⟩
  obtain ⟨rb, hrb⟩ : ∃ n, s2.radius = n := ⟨_, rfl⟩
  rw [hra] at hv hm hra0 hra1
  rw [hrb] at hvb hm2
  have hmq : MayP p a e (ra + qm) := ⟨hm.p0, hm.p1, hm.a1, hm.e1, by omega, by omega, hm.pf, hm.af, hm.ef⟩
  obtain ⟨B0, B1, B2, d0, d1, d2, hva, u0, u1, u2, u3⟩ := hv.out
  obtain ⟨B3, B4, B5, d3, d4, d5, hvb', _⟩ := hvb.out
  have HV := Lib.hid hv
  have HVB := Lib.hid hvb
  have HV2 := Lib.hid (show CoreV w2 (.agg #[.slice B0 p.length d0, .slice B1 a.length d1, .slice B2 e.length d2, .int .i64 (ra + qm)]) p a e (ra + qm) from ⟨B0, B1, B2, d0, d1, d2, rfl, u0, u1, u2, u3⟩)
  have HAP := Lib.hid (fun (W : World) (hW : CoreV W va p a e ra) (hU : CoreV W vb q' a' e' rb) => apart_calls p a e ra q' a' e' rb va vb W hW hU hm hm2 _ rfl)
  have HAP2 := Lib.hid (fun (W : World) (hW : CoreV W (.agg #[.slice B0 p.length d0, .slice B1 a.length d1, .slice B2 e.length d2, .int .i64 (ra + qm)]) p a e (ra + qm)) (hU : CoreV W vb q' a' e' rb) => apart_calls p a e (ra + qm) q' a' e' rb _ vb W hW hU hmq hm2 _ (apartF_more p a e ra qm q' a' e' rb))
  have W := Lib.hid (bthen W.out hb)
  obtain ⟨R, hR⟩ : ∃ R, apartF p a e ra q' a' e' rb = R := ⟨_, rfl⟩
  have hbd := apartF_bd hm hm2
  rw [hR] at HAP HAP2 hbd
  obtain ⟨⟨Rx, Ry, Rz⟩, Rg⟩ := R
  simp only at HAP HAP2 hbd
  obtain ⟨n0, hn0⟩ : ∃ n, p.length = n := ⟨_, rfl⟩
  obtain ⟨n1, hn1⟩ : ∃ n, a.length = n := ⟨_, rfl⟩
  obtain ⟨n2, hn2⟩ : ∃ n, e.length = n := ⟨_, rfl⟩
  obtain ⟨n3, hn3⟩ : ∃ n, q'.length = n := ⟨_, rfl⟩
  obtain ⟨n4, hn4⟩ : ∃ n, a'.length = n := ⟨_, rfl⟩
  obtain ⟨n5, hn5⟩ : ∃ n, e'.length = n := ⟨_, rfl⟩
  rw [hn0, hn1, hn2] at hva HV2 HAP2
  rw [hn3, hn4, hn5] at hvb'
  subst hva hvb'
  clear hn0 hn1 hn2 hn3 hn4 hn5 hra hrb hR hv hvb ha hb_ hb hm hm2 hmq u0 u1 u2 u3
  have b2 := (Below.refl w2.heap.size w2).alloc (Nat.le_refl _) (.cells #[.slice B0 n0 d0, .slice B1 n1 d1, .slice B2 n2 d2, .int .i64 ra] 36)
  have b3 := b2.alloc (by simp) (.cells #[.slice B3 n3 d3, .slice B4 n4 d4, .slice B5 n5 d5, .int .i64 rb] 36)
  have zc := (Below.heap_alloc _ (.cells #[.slice B3 n3 d3, .slice B4 n4 d4, .slice B5 n5 d5, .int .i64 rb] 36) _ (by simp)).trans (heap_alloc_new w2 (.cells #[.slice B0 n0 d0, .slice B1 n1 d1, .slice B2 n2 d2, .int .i64 ra] 36))
  have zd := heap_alloc_new (w2.alloc (.cells #[.slice B0 n0 d0, .slice B1 n1 d1, .slice B2 n2 d2, .int .i64 ra] 36)) (.cells #[.slice B3 n3 d3, .slice B4 n4 d4, .slice B5 n5 d5, .int .i64 rb] 36)
  rw [World.size_alloc] at zd
  obtain ⟨w3, hw3⟩ : ∃ V, (w2.alloc (.cells #[.slice B0 n0 d0, .slice B1 n1 d1, .slice B2 n2 d2, .int .i64 ra] 36)).alloc (.cells #[.slice B3 n3 d3, .slice B4 n4 d4, .slice B5 n5 d5, .int .i64 rb] 36) = V := ⟨_, rfl⟩
  rw [hw3] at b3 zc zd
  have b3 := Lib.hid b3
  have zc := Lib.hid zc
  have zd := Lib.hid zd
  have hw3' := Lib.hid hw3
  clear hw3 b2
  have wrq : wrap64 (ra + qm) = ra + qm := by unfold wrap64; omega
  go_wp2_with fail
  rw [hw3'.out]
  refine (HPM.out w3).mono ?_
  rintro e w3 ⟨rfl, rfl⟩
  have x0 : w3.cell? ⟨w2.heap.size, 0, none⟩ = some (.slice B0 n0 d0) := (blk_cell zc.out 0).trans rfl
  have y0 : w3.cell? ⟨w2.heap.size + 1, 0, none⟩ = some (.slice B3 n3 d3) := (blk_cell zd.out 0).trans rfl
  have x1 : w3.cell? ⟨w2.heap.size, 1, none⟩ = some (.slice B1 n1 d1) := (blk_cell zc.out 1).trans rfl
  have y1 : w3.cell? ⟨w2.heap.size + 1, 1, none⟩ = some (.slice B4 n4 d4) := (blk_cell zd.out 1).trans rfl
  have x2 : w3.cell? ⟨w2.heap.size, 2, none⟩ = some (.slice B2 n2 d2) := (blk_cell zc.out 2).trans rfl
  have y2 : w3.cell? ⟨w2.heap.size + 1, 2, none⟩ = some (.slice B5 n5 d5) := (blk_cell zd.out 2).trans rfl
  have x3 : w3.cell? ⟨w2.heap.size, 3, none⟩ = some (.int .i64 ra) := (blk_cell zc.out 3).trans rfl
  have y3 : w3.cell? ⟨w2.heap.size + 1, 3, none⟩ = some (.int .i64 rb) := (blk_cell zd.out 3).trans rfl
  have l0 : w2.heap.size < w3.heap.size := blk_lt zc.out
  have l1 : w2.heap.size + 1 < w3.heap.size := blk_lt zd.out
  go_wp2_with fail
  refine (HAP.out _ (HV.out.below b3.out) (HVB.out.below b3.out)).mono ?_
  rintro e w4 ⟨rfl, hb⟩
  have z4 := Lib.hid ((hb.block _ (blk_lt zc.out)).trans zc.out)
  have y4 := Lib.hid ((hb.block _ (blk_lt zd.out)).trans zd.out)
  have f3 : w4.frozen? ⟨w2.heap.size, 3, none⟩ = false := blk_frozen z4.out 3
  clear x0 x1 x2 x3 y0 y1 y2 y3 l0 l1
  have x0 : w4.cell? ⟨w2.heap.size, 0, none⟩ = some (.slice B0 n0 d0) := (blk_cell z4.out 0).trans rfl
  have y0 : w4.cell? ⟨w2.heap.size + 1, 0, none⟩ = some (.slice B3 n3 d3) := (blk_cell y4.out 0).trans rfl
  have x1 : w4.cell? ⟨w2.heap.size, 1, none⟩ = some (.slice B1 n1 d1) := (blk_cell z4.out 1).trans rfl
  have y1 : w4.cell? ⟨w2.heap.size + 1, 1, none⟩ = some (.slice B4 n4 d4) := (blk_cell y4.out 1).trans rfl
  have x2 : w4.cell? ⟨w2.heap.size, 2, none⟩ = some (.slice B2 n2 d2) := (blk_cell z4.out 2).trans rfl
  have y2 : w4.cell? ⟨w2.heap.size + 1, 2, none⟩ = some (.slice B5 n5 d5) := (blk_cell y4.out 2).trans rfl
  have x3 : w4.cell? ⟨w2.heap.size, 3, none⟩ = some (.int .i64 ra) := (blk_cell z4.out 3).trans rfl
  have y3 : w4.cell? ⟨w2.heap.size + 1, 3, none⟩ = some (.int .i64 rb) := (blk_cell y4.out 3).trans rfl
  have l0 : w2.heap.size < w4.heap.size := blk_lt z4.out
  have l1 : w2.heap.size + 1 < w4.heap.size := blk_lt y4.out
  go_wp2_with fail
  have HBq := Lib.hid (bthen b3.out hb)
  have Wq := Lib.hid (bthen W.out HBq.out)
  have hb5 := (HBq.out.setCell (p := ⟨w2.heap.size, 3, none⟩) (Nat.le_refl _) (.int .i64 (ra + qm))).alloc (by simpa using HBq.out.size) (.cells #[.int .i64 Rx, .int .i64 Ry, .int .i64 Rz, .int .i64 Rg] 40)
  have r5 := heap_alloc_new (w4.setCell ⟨w2.heap.size, 3, none⟩ (.int .i64 (ra + qm))) (.cells #[.int .i64 Rx, .int .i64 Ry, .int .i64 Rz, .int .i64 Rg] 40)
  rw [World.size_setCell] at r5
  obtain ⟨w5, hw5⟩ : ∃ V, (w4.setCell ⟨w2.heap.size, 3, none⟩ (.int .i64 (ra + qm))).alloc (.cells #[.int .i64 Rx, .int .i64 Ry, .int .i64 Rz, .int .i64 Rg] 40) = V := ⟨_, rfl⟩
  rw [hw5] at hb5 r5 ⊢
  refine (HAP2.out w5 (HV2.out.below hb5) (HVB.out.below hb5)).mono ?_
  rintro e w6 ⟨rfl, hb6⟩
  have hb6' := bthen (bthen W.out hb5) hb6
  have r6 := (hb6.block _ (blk_lt r5)).trans r5
  obtain ⟨g4, hg4⟩ : ∃ g, w4.heap.size = g := ⟨_, rfl⟩
  rw [hg4] at r6 ⊢
  clear x0 x1 x2 x3 y0 y1 y2 y3 l0 l1 f3 z4 y4 hb5 r5 hw5 hb6 hg4 HAP HAP2 HV HV2 HVB HBq Wq hb HC HM HM2 HPM T0 W
  have l4 : g4 < w6.heap.size := blk_lt r6
  have wrg : wrap64 (Rg - qm) = Rg - qm := by unfold wrap64; omega
  have x0 : w6.cell? ⟨g4, 0, none⟩ = some (.int .i64 Rx) := (blk_cell r6 0).trans rfl
  have x1 : w6.cell? ⟨g4, 1, none⟩ = some (.int .i64 Ry) := (blk_cell r6 1).trans rfl
  have x2 : w6.cell? ⟨g4, 2, none⟩ = some (.int .i64 Rz) := (blk_cell r6 2).trans rfl
  have x3 : w6.cell? ⟨g4, 3, none⟩ = some (.int .i64 Rg) := (blk_cell r6 3).trans rfl
  have heq : eqP Rx Ry Rz Rx Ry Rz = true := eqP_yes rfl
  have W6 := Lib.hid (hb6'.alloc (by have := hb6'.size; omega) (.cells #[.int .i64 Rx, .int .i64 Ry, .int .i64 Rz, .int .i64 (Rg - qm)] 40))
  clear r6 hb6'
  go_wp2
  go_ret
  exact ⟨rfl, W6.out⟩
end Go.Proofs.Ytckdhahceelckaa.G
