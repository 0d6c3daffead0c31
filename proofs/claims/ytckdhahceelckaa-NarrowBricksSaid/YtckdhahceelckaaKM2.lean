/- What the laws of this claim lean on: contracts of the functions that they reach, and plain lemmas; no condition of its own (part 2 of 3; the texts XW36, XW37, XL2, XR1, XR2, XS1, XG8, XG5, XG9, XG10, XG11, XG12, XG13, XG14, XG15, XG16, XR4, XR5, XR3, XR10, XM1, XM2). -/
import Derived.Test.YtckdhahceelckaaKM1
import Derived.BigQuiet
import Derived.Lib.SmallJoins
import Derived.Maps.AppendAt
namespace Go.Proofs.Ytckdhahceelckaa.G
open Go.RowKit Go.Proofs.YtckdhahceelckaaW.PrintWords Go.Proofs.YtckdhahceelckaaW.PrintLast Go.Proofs.YtckdhahceelckaaW.PrintMore
attribute [local go_sem] max2_mx min2_mn max_two min_two max_three min_three max_four min_four
attribute [local go_sem high] eqA23
set_option linter.unusedVariables false
set_option linter.unusedSimpArgs false
/-- a raw shape's numbers are Go's -/
structure RawOk (k r : Int) (h : P3) (l : List P3) : Prop where
  k : i64 k
  r : i64 r
  h : pI64 h
  len : l.length ≤ 4611686018427387904
  pts : ∀ p ∈ l, pI64 p
theorem RdB.setS {w : World} {A : Option Addr} {l : List P3} (h : RdB w A l) {g : Nat} {A0 A1 A2 : Option Addr} {n0 n1 n2 m0 m1 m2 : Nat} {x : Value} {t : TypeId} (hg : w.heap[g]? = some (.cells #[.slice A0 n0 m0, .slice A1 n1 m1, .slice A2 n2 m2, x] t (0, 0))) (u0 u1 u2 u3 : Value) :
    RdB ((((w.setCell ⟨g, 0, none⟩ u0).setCell ⟨g, 1, none⟩ u1).setCell ⟨g, 2, none⟩ u2).setCell ⟨g, 3, none⟩ u3) A l := by
  cases l with
  | nil => exact ⟨Rd.nil _ _, fun ad e => by simpa using h.2 ad e⟩
  | cons p l =>
    have ne : ∀ ad, A = some ad → ad.block ≠ g := by
      intro ad e hb
      obtain ⟨b, o, e', _, e0, e1, e2⟩ := h.1 0 p rfl
      rw [e'] at e
      cases e
      simp only at hb
      subst hb
      have q0 := (blk_cell hg (o + 0 * 3)).symm.trans e0
      have q1 := (blk_cell hg (o + 0 * 3 + 1)).symm.trans e1
      match o with
      | 0 => simp at q0
      | 1 => simp at q0
      | 2 => simp at q0
      | 3 => simp at q1
      | o + 4 => simp at q1
    exact (((h.setc ne 0 u0).setc ne 1 u1).setc ne 2 u2).setc ne 3 u3
/-- a core whose lists lie from b on -/
structure CoreVF (b : Nat) (w : World) (v : Value) (p a e : List P3) (r : Int) : Prop where
  c : CoreV w v p a e r
  fr : Fresh b v
theorem CoreVF.below {b : Nat} {w w1 : World} {v : Value} {p a e : List P3} {r : Int} (h : CoreVF b w v p a e r) (hb : Below w.heap.size w w1) : CoreVF b w1 v p a e r := ⟨h.c.below hb, h.fr⟩
def PlacePostB (b : Nat) (p a e : List P3) (r : Int) (w : World) (en : Ending) (w' : World) : Prop := ∃ v, en = .returned (.tuple #[v, .bool true]) ∧ CoreVF b w' v p a e r ∧ Below w.heap.size w w'
theorem PlacePostF.toB {b b' : Nat} {p a e : List P3} {r : Int} {w : World} {en : Ending} {w' : World} (h : PlacePostF b p a e r w en w') (hb : b' ≤ b) : PlacePostB b' p a e r w en w' := by
  obtain ⟨v, e1, e2, e3, e4⟩ := h
  exact ⟨v, e1, ⟨e2, e4.mono hb⟩, e3⟩
def PlacedPostF (b : Nat) (s : Shp) (q : P7) (w : World) (en : Ending) (w' : World) : Prop := ∃ v p a e, en = .returned v ∧ CoreIs s p a e ∧ CoreV w' v (p.map (placePt (rowsF q.turn) q.at_)) (waysF (rowsF q.turn) a) (waysF (rowsF q.turn) e) s.radius ∧ Below w.heap.size w w' ∧ Fresh b v
def PlacedPost (s : Shp) (q : P7) (w : World) (en : Ending) (w' : World) : Prop := ∃ v p a e, en = .returned v ∧ CoreIs s p a e ∧ CoreV w' v (p.map (placePt (rowsF q.turn) q.at_)) (waysF (rowsF q.turn) a) (waysF (rowsF q.turn) e) s.radius ∧ Below w.heap.size w w'
set_option maxHeartbeats 8000000 in
set_option maxRecDepth 100000 in
theorem placed_calls2 (k r : Int) (h : P3) (l : List P3) (A : Option Addr) (c : Nat) (p7 : P7) (w : World) (hA : RdB w A l) (hr : RawOk k r h l) (hp : i64s p7) :
    Calls Try.prog 52 #[.agg (cS k r h A l.length c), .agg (cP7 p7)] w (PlacedPostF w.heap.size (rightS k r h l) (rightPose p7) w) := by
  have HR5 := Lib.hid (fun (W : World) (hW : RdB W A l) => right5_calls k r h l A c W hW hr.len hr.k hr.r hr.h hr.pts)
  have HR6 := Lib.hid (fun (W : World) => right6_calls p7 W hp)
  have HQ : Hid (q32 (rightPose p7).turn ∧ atOk (rightPose p7).at_) := Lib.hid (by simp only [rightPose]; exact ⟨wholeF_q32 (partQ p7.turn), partV_at p7.at_⟩)
  have HS := Lib.hid (rightS_ok k r h l)
  have HAA := Lib.hid hA
  obtain ⟨s, hs⟩ : ∃ s, rightS k r h l = s := ⟨_, rfl⟩
  obtain ⟨q, hq⟩ : ∃ q, rightPose p7 = q := ⟨_, rfl⟩
  rw [hq] at HQ
  rw [hs] at HR5 HS ⊢
  rw [hq] at HR6 ⊢
  obtain ⟨N, hN⟩ : ∃ N, l.length = N := ⟨_, rfl⟩
  rw [hN] at HR5 ⊢
  clear hs hq hN hA hr hp
  obtain ⟨⟨ax, ay, az⟩, ⟨tw, tx, ty, tz⟩⟩ := p7
  (try simp only at HR6)
  go_enter Try.func52, Try.ntmps52
  go_wp2_with fail
  obtain ⟨w0, hw0⟩ : ∃ w0, ((w.alloc (.cells (cS k r h A N c) 26)).alloc (.cells #[.int .i64 ax, .int .i64 ay, .int .i64 az, .int .i64 tw, .int .i64 tx, .int .i64 ty, .int .i64 tz] 31)).alloc (.cells #[.slice none 0 0, .slice none 0 0, .slice none 0 0, .int .i64 0] 36) = w0 := ⟨_, rfl⟩
  have P0 : Hid (w0.heap[w.heap.size + 1]? = some (.cells #[.int .i64 ax, .int .i64 ay, .int .i64 az, .int .i64 tw, .int .i64 tx, .int .i64 ty, .int .i64 tz] 31 (0, 0))) := Lib.hid (by rw [← hw0]; exact three1 _ _ _ _)
  have R0 : Hid (w0.heap[w.heap.size + 1 + 1]? = some (.cells #[.slice none 0 0, .slice none 0 0, .slice none 0 0, .int .i64 0] 36 (0, 0))) := Lib.hid (by rw [← hw0]; exact three2 _ _ _ _)
  have W0 := Lib.hid (show Below w.heap.size w w0 by rw [← hw0]; exact (((Below.refl _ w).alloc (Nat.le_refl _) _).alloc (by simp) _).alloc (by simp; omega) _)
  rw [hw0]
  clear hw0
  refine (HR5.out w0 (HAA.out.below W0.out)).mono ?_
  rintro e w1 ⟨A5, c5, rfl, hrd, hc5, hb⟩
  have P1 := Lib.hid ((hb.block _ (blk_lt P0.out)).trans P0.out)
  have R1 := Lib.hid ((hb.block _ (blk_lt R0.out)).trans R0.out)
  have W1 := Lib.hid (bthen W0.out hb)
  have HC := Lib.hid (core_calls s A5 c5 HS.out w1 hrd)
  clear hb hrd hc5 W0 P0 R0
  go_wp2_with fail
  refine HC.out.mono ?_
  rintro e w2 ⟨p, a, e, hci, v, rfl, hv, hb⟩
  obtain ⟨A0, A1, A2, c0, c1, c2, rfl, g0, g1, g2, k0, k1, k2⟩ := hv.out
  have HCI := Lib.hid hci
  have hB := hci.bounds HS.out
  have P2 := Lib.hid ((hb.block _ (blk_lt P1.out)).trans P1.out)
  have R2 := Lib.hid ((hb.block _ (blk_lt R1.out)).trans R1.out)
  have W2 := Lib.hid (bthen W1.out hb)
  have HPL := Lib.hid (fun (W : World) (hW0 : RdB W A0 p) (hW1 : RdB W A1 a) (hW2 : RdB W A2 e) (hsz : w.heap.size ≤ W.heap.size) => (place_in2 q p a e s.radius A0 A1 A2 c0 c1 c2 W hW0 hW1 hW2 k0 k1 k2 HQ.out.1.quat (rowsF q.turn) rfl (rows_mOk HQ.out.1) HQ.out.2 hB.p0 (by have := hB.p1; omega) (by have := hB.a1; omega) (by have := hB.e1; omega) hB.pin hB.ain hB.ein).mono (fun en w' h => h.toB hsz))
  obtain ⟨NP, hNP⟩ : ∃ n, p.length = n := ⟨_, rfl⟩
  obtain ⟨NA, hNA⟩ : ∃ n, a.length = n := ⟨_, rfl⟩
  obtain ⟨NE, hNE⟩ : ∃ n, e.length = n := ⟨_, rfl⟩
  rw [hNP, hNA, hNE] at HPL ⊢
  obtain ⟨ra, hra⟩ : ∃ n, s.radius = n := ⟨_, rfl⟩
  rw [hra] at HPL ⊢
  have HRA := Lib.hid hra
  obtain ⟨LP, hLP⟩ : ∃ L, p.map (placePt (rowsF q.turn) q.at_) = L := ⟨_, rfl⟩
  obtain ⟨LA, hLA⟩ : ∃ L, waysF (rowsF q.turn) a = L := ⟨_, rfl⟩
  obtain ⟨LE, hLE⟩ : ∃ L, waysF (rowsF q.turn) e = L := ⟨_, rfl⟩
  rw [hLP, hLA, hLE] at HPL
  have HLP := Lib.hid hLP
  have HLA := Lib.hid hLA
  have HLE := Lib.hid hLE
  have G0 := Lib.hid g0
  have G1 := Lib.hid g1
  have G2 := Lib.hid g2
  clear hNP hNA hNE hra hLP hLA hLE g0 g1 g2 k0 k1 k2 hB hci hv hb P1 R1 W1 HC HR5 HQ
  obtain ⟨CB, hCB⟩ : ∃ g, w2.heap.size = g := ⟨_, rfl⟩
  have zc := heap_alloc_new w2 (.cells #[.slice A0 NP c0, .slice A1 NA c1, .slice A2 NE c2, .int .i64 ra] 36)
  have bc := (Below.refl w2.heap.size w2).alloc (Nat.le_refl _) (.cells #[.slice A0 NP c0, .slice A1 NA c1, .slice A2 NE c2, .int .i64 ra] 36)
  obtain ⟨w3, hw3⟩ : ∃ V, w2.alloc (.cells #[.slice A0 NP c0, .slice A1 NA c1, .slice A2 NE c2, .int .i64 ra] 36) = V := ⟨_, rfl⟩
  rw [hw3] at zc bc
  rw [hCB] at zc
  have C3 := Lib.hid zc
  have P3_ := Lib.hid ((bc.block _ (blk_lt P2.out)).trans P2.out)
  have R3 := Lib.hid ((bc.block _ (blk_lt R2.out)).trans R2.out)
  have W3 := Lib.hid (bthen W2.out bc)
  have G0 := Lib.hid (G0.out.below bc)
  have G1 := Lib.hid (G1.out.below bc)
  have G2 := Lib.hid (G2.out.below bc)
  have hw3' := Lib.hid hw3
  have hCB' := Lib.hid hCB
  clear zc bc hw3 hCB P2 R2 W2
  go_wp2_with fail
  rw [hw3'.out, hCB'.out]
  clear hw3' hCB'
  have lC : CB < w3.heap.size := blk_lt C3.out
  have lP : w.heap.size + 1 < w3.heap.size := blk_lt P3_.out
  have x0 : w3.cell? ⟨CB, 0, none⟩ = some (.slice A0 NP c0) := (blk_cell C3.out 0).trans rfl
  have x1 : w3.cell? ⟨CB, 1, none⟩ = some (.slice A1 NA c1) := (blk_cell C3.out 1).trans rfl
  have x2 : w3.cell? ⟨CB, 2, none⟩ = some (.slice A2 NE c2) := (blk_cell C3.out 2).trans rfl
  have x3 : w3.cell? ⟨CB, 3, none⟩ = some (.int .i64 ra) := (blk_cell C3.out 3).trans rfl
  have y0 : w3.cell? ⟨w.heap.size + 1, 0, none⟩ = some (.int .i64 ax) := (blk_cell P3_.out 0).trans rfl
  have y1 : w3.cell? ⟨w.heap.size + 1, 1, none⟩ = some (.int .i64 ay) := (blk_cell P3_.out 1).trans rfl
  have y2 : w3.cell? ⟨w.heap.size + 1, 2, none⟩ = some (.int .i64 az) := (blk_cell P3_.out 2).trans rfl
  have y3 : w3.cell? ⟨w.heap.size + 1, 3, none⟩ = some (.int .i64 tw) := (blk_cell P3_.out 3).trans rfl
  have y4 : w3.cell? ⟨w.heap.size + 1, 4, none⟩ = some (.int .i64 tx) := (blk_cell P3_.out 4).trans rfl
  have y5 : w3.cell? ⟨w.heap.size + 1, 5, none⟩ = some (.int .i64 ty) := (blk_cell P3_.out 5).trans rfl
  have y6 : w3.cell? ⟨w.heap.size + 1, 6, none⟩ = some (.int .i64 tz) := (blk_cell P3_.out 6).trans rfl
  have HB := Lib.hid ((Below.refl (w3.heap.size) w3).drew)
  have FF := Lib.hid (show ∀ V, Hid (Below (w3.heap.size) w3 V) → V.cell? ⟨CB, 0, none⟩ = some (.slice A0 NP c0) ∧ V.cell? ⟨CB, 1, none⟩ = some (.slice A1 NA c1) ∧ V.cell? ⟨CB, 2, none⟩ = some (.slice A2 NE c2) ∧ V.cell? ⟨CB, 3, none⟩ = some (.int .i64 ra) ∧ V.cell? ⟨w.heap.size + 1, 0, none⟩ = some (.int .i64 ax) ∧ V.cell? ⟨w.heap.size + 1, 1, none⟩ = some (.int .i64 ay) ∧ V.cell? ⟨w.heap.size + 1, 2, none⟩ = some (.int .i64 az) ∧ V.cell? ⟨w.heap.size + 1, 3, none⟩ = some (.int .i64 tw) ∧ V.cell? ⟨w.heap.size + 1, 4, none⟩ = some (.int .i64 tx) ∧ V.cell? ⟨w.heap.size + 1, 5, none⟩ = some (.int .i64 ty) ∧ V.cell? ⟨w.heap.size + 1, 6, none⟩ = some (.int .i64 tz) from fun V HB => ⟨(HB.out.cell (p := ⟨CB, 0, none⟩) (lC)).trans x0, (HB.out.cell (p := ⟨CB, 1, none⟩) (lC)).trans x1, (HB.out.cell (p := ⟨CB, 2, none⟩) (lC)).trans x2, (HB.out.cell (p := ⟨CB, 3, none⟩) (lC)).trans x3, (HB.out.cell (p := ⟨w.heap.size + 1, 0, none⟩) (lP)).trans y0, (HB.out.cell (p := ⟨w.heap.size + 1, 1, none⟩) (lP)).trans y1, (HB.out.cell (p := ⟨w.heap.size + 1, 2, none⟩) (lP)).trans y2, (HB.out.cell (p := ⟨w.heap.size + 1, 3, none⟩) (lP)).trans y3, (HB.out.cell (p := ⟨w.heap.size + 1, 4, none⟩) (lP)).trans y4, (HB.out.cell (p := ⟨w.heap.size + 1, 5, none⟩) (lP)).trans y5, (HB.out.cell (p := ⟨w.heap.size + 1, 6, none⟩) (lP)).trans y6⟩)
  refine start_ (n := 10) (S := fun w' => w'.cell? ⟨CB, 0, none⟩ = some (.slice A0 NP c0) ∧ w'.cell? ⟨CB, 1, none⟩ = some (.slice A1 NA c1) ∧ w'.cell? ⟨CB, 2, none⟩ = some (.slice A2 NE c2) ∧ w'.cell? ⟨CB, 3, none⟩ = some (.int .i64 ra) ∧ w'.cell? ⟨w.heap.size + 1, 0, none⟩ = some (.int .i64 ax) ∧ w'.cell? ⟨w.heap.size + 1, 1, none⟩ = some (.int .i64 ay) ∧ w'.cell? ⟨w.heap.size + 1, 2, none⟩ = some (.int .i64 az) ∧ w'.cell? ⟨w.heap.size + 1, 3, none⟩ = some (.int .i64 tw) ∧ w'.cell? ⟨w.heap.size + 1, 4, none⟩ = some (.int .i64 tx) ∧ w'.cell? ⟨w.heap.size + 1, 5, none⟩ = some (.int .i64 ty) ∧ w'.cell? ⟨w.heap.size + 1, 6, none⟩ = some (.int .i64 tz)) (ds := []) (MT 0 10) (by kernel_rfl) rfl rfl (FF.out _ HB) (fun hHeld => ?_)
  obtain ⟨wd, hwd⟩ : ∃ x, w3.drew = x := ⟨_, rfl⟩
  rw [hwd] at HB hHeld ⊢
  clear hwd
  refine ta_ 0 16 hHeld (h := ?_)
  refine ta_ 1 17 hHeld (h := ?_)
  refine join_ (σ := Nat × Value) 2 (MT 8 2) (fun s => [(7, .pointer (some ⟨s.1, 0, none⟩)), (18, .agg (cP7 q)), (19, .tuple #[s.2, .bool true]), (15, .tuple #[s.2, .bool true]), (20, s.2), (21, .bool true)]) (fun (s : Nat × Value) w' => match s with | (s1, s2) => w3.heap.size ≤ s1 ∧ w'.heap[s1]? = some (.cells #[.slice none 0 0, .slice none 0 0, .slice none 0 0, .int .i64 0] 36 (0, 0)) ∧ Below (w3.heap.size) w3 w' ∧ CoreVF w.heap.size w' s2 LP LA LE ra) ?_ ?_
  rotate_left
  · intro hCont
    refine two_ (i := 2) (j := 7) (Ni := some 18) (Nj := some 7) (MT 3 7) #[true, true, false, false, false, false, false, true, false, false] rfl rfl rfl rfl (by kernel_rfl) (by decide) (by decide) (fun K hK => ?_) (fun K hK => ?_)
    · skip
      refine goes_ Try.func55 (by kernel_rfl) rfl #[.agg #[.int .i64 ax, .int .i64 ay, .int .i64 az, .int .i64 tw, .int .i64 tx, .int .i64 ty, .int .i64 tz]] (by rfl) rfl rfl (by simp only [List.map_toArray, List.map_cons, List.map_nil]; rfl) ?_
      with_reducible refine (HR6.out _).mono ?_
      rintro e' w4 ⟨rfl, hb⟩
      have HB := Lib.hid (HB.out.trans (hb.mono (Nat.le_trans (Nat.le_refl _) HB.out.size)))
      clear hb
      refine ⟨_, rfl, ?_⟩
      refine hK.out _ _ (FF.out _ HB) (fun hHeld => ?_)
      clear hK K
      refine no_ (h := ?_)
      refine two_ (i := 3) (j := 7) (Ni := some 19) (Nj := some 7) (MT 4 6) #[true, true, true, false, false, false, false, true, false, false] rfl rfl rfl rfl (by kernel_rfl) (by decide) (by decide) (fun K hK => ?_) (fun K hK => ?_)
      · skip
        refine goes_ Try.func56 (by kernel_rfl) rfl #[.agg #[.slice A0 NP c0, .slice A1 NA c1, .slice A2 NE c2, .int .i64 ra], .agg (cP7 q)] (by rfl) rfl rfl (by simp only [List.map_toArray, List.map_cons, List.map_nil]; rfl) ?_
        with_reducible refine (HPL.out _ (G0.out.below HB.out) (G1.out.below HB.out) (G2.out.below HB.out) (Nat.le_trans W3.out.size HB.out.size)).mono ?_
        rintro e' w4 ⟨v, rfl, hv, hb⟩
        have HB := Lib.hid (HB.out.trans (hb.mono (Nat.le_trans (Nat.le_refl _) HB.out.size)))
        have HV := Lib.hid hv
        clear hv
        clear hb
        refine ⟨_, rfl, ?_⟩
        refine hK.out _ _ (FF.out _ HB) (fun hHeld => ?_)
        clear hK K
        refine no_ (h := ?_)
        refine pu_ 4 15 (h := ?_)
        refine pu_ 5 20 (h := ?_)
        refine pu_ 6 21 (h := ?_)
        refine on_ 7 (some 7) (h := fun K hK => ?_)
        refine value_ (w1 := ?_) (v := ?_) (by rfl) rfl ?_ ?_
        rotate_left 2
        · go_simp
          constructor
          · rfl
          · rfl
        have HA := Lib.hid (ha_new HB.out (.cells #[.slice none 0 0, .slice none 0 0, .slice none 0 0, .int .i64 0] 36))
        have hge := HB.out.size
        have HB := Lib.hid (HB.out.alloc (Nat.le_trans (Nat.le_refl _) HB.out.size) (.cells #[.slice none 0 0, .slice none 0 0, .slice none 0 0, .int .i64 0] 36))
        have HV := Lib.hid (HV.out.below ((Below.refl _ _).alloc (Nat.le_refl _) (.cells #[.slice none 0 0, .slice none 0 0, .slice none 0 0, .int .i64 0] 36)))
        refine hK.out _ _ (FF.out _ HB) (fun hHeld => ?_)
        clear hK K
        refine no_ (h := ?_)
        exact norm_ (by simp only [putAll, Act.put, List.setIfInBounds_toArray, List.set_cons_zero, List.set_cons_succ]) (hCont (_, _) _ ⟨hge, HA.out, HB.out, HV.out⟩)
      · skip
        refine value_ (w1 := ?_) (v := ?_) (by rfl) rfl ?_ ?_
        rotate_left 2
        · go_simp
          constructor
          · rfl
          · rfl
        have HA := Lib.hid (ha_new HB.out (.cells #[.slice none 0 0, .slice none 0 0, .slice none 0 0, .int .i64 0] 36))
        have hge := HB.out.size
        have HB := Lib.hid (HB.out.alloc (Nat.le_trans (Nat.le_refl _) HB.out.size) (.cells #[.slice none 0 0, .slice none 0 0, .slice none 0 0, .int .i64 0] 36))
        refine hK.out _ _ (FF.out _ HB) (fun hHeld => ?_)
        clear hK K
        refine no_ (h := ?_)
        refine on_ 3 (some 19) (h := fun K hK => ?_)
        refine goes_ Try.func56 (by kernel_rfl) rfl #[.agg #[.slice A0 NP c0, .slice A1 NA c1, .slice A2 NE c2, .int .i64 ra], .agg (cP7 q)] (by rfl) rfl rfl (by simp only [List.map_toArray, List.map_cons, List.map_nil]; rfl) ?_
        with_reducible refine (HPL.out _ (G0.out.below HB.out) (G1.out.below HB.out) (G2.out.below HB.out) (Nat.le_trans W3.out.size HB.out.size)).mono ?_
        rintro e' w4 ⟨v, rfl, hv, hb⟩
        have HB := Lib.hid (HB.out.trans (hb.mono (Nat.le_trans (Nat.le_refl _) HB.out.size)))
        have HA := Lib.hid ((hb.block _ (blk_lt HA.out)).trans HA.out)
        have HV := Lib.hid hv
        clear hv
        clear hb
        refine ⟨_, rfl, ?_⟩
        refine hK.out _ _ (FF.out _ HB) (fun hHeld => ?_)
        clear hK K
        refine no_ (h := ?_)
        refine pu_ 4 15 (h := ?_)
        refine pu_ 5 20 (h := ?_)
        refine pu_ 6 21 (h := ?_)
        exact norm_ (by simp only [putAll, Act.put, List.setIfInBounds_toArray, List.set_cons_zero, List.set_cons_succ]) (hCont (_, _) _ ⟨hge, HA.out, HB.out, HV.out⟩)
    · skip
      refine value_ (w1 := ?_) (v := ?_) (by rfl) rfl ?_ ?_
      rotate_left 2
      · go_simp
        constructor
        · rfl
        · rfl
      have HA := Lib.hid (ha_new HB.out (.cells #[.slice none 0 0, .slice none 0 0, .slice none 0 0, .int .i64 0] 36))
      have hge := HB.out.size
      have HB := Lib.hid (HB.out.alloc (Nat.le_trans (Nat.le_refl _) HB.out.size) (.cells #[.slice none 0 0, .slice none 0 0, .slice none 0 0, .int .i64 0] 36))
      refine hK.out _ _ (FF.out _ HB) (fun hHeld => ?_)
      clear hK K
      refine no_ (h := ?_)
      refine on_ 2 (some 18) (h := fun K hK => ?_)
      refine goes_ Try.func55 (by kernel_rfl) rfl #[.agg #[.int .i64 ax, .int .i64 ay, .int .i64 az, .int .i64 tw, .int .i64 tx, .int .i64 ty, .int .i64 tz]] (by rfl) rfl rfl (by simp only [List.map_toArray, List.map_cons, List.map_nil]; rfl) ?_
      with_reducible refine (HR6.out _).mono ?_
      rintro e' w4 ⟨rfl, hb⟩
      have HB := Lib.hid (HB.out.trans (hb.mono (Nat.le_trans (Nat.le_refl _) HB.out.size)))
      have HA := Lib.hid ((hb.block _ (blk_lt HA.out)).trans HA.out)
      clear hb
      refine ⟨_, rfl, ?_⟩
      refine hK.out _ _ (FF.out _ HB) (fun hHeld => ?_)
      clear hK K
      refine no_ (h := ?_)
      refine on_ 3 (some 19) (h := fun K hK => ?_)
      refine goes_ Try.func56 (by kernel_rfl) rfl #[.agg #[.slice A0 NP c0, .slice A1 NA c1, .slice A2 NE c2, .int .i64 ra], .agg (cP7 q)] (by rfl) rfl rfl (by simp only [List.map_toArray, List.map_cons, List.map_nil]; rfl) ?_
      with_reducible refine (HPL.out _ (G0.out.below HB.out) (G1.out.below HB.out) (G2.out.below HB.out) (Nat.le_trans W3.out.size HB.out.size)).mono ?_
      rintro e' w4 ⟨v, rfl, hv, hb⟩
      have HB := Lib.hid (HB.out.trans (hb.mono (Nat.le_trans (Nat.le_refl _) HB.out.size)))
      have HA := Lib.hid ((hb.block _ (blk_lt HA.out)).trans HA.out)
      have HV := Lib.hid hv
      clear hv
      clear hb
      refine ⟨_, rfl, ?_⟩
      refine hK.out _ _ (FF.out _ HB) (fun hHeld => ?_)
      clear hK K
      refine no_ (h := ?_)
      refine pu_ 4 15 (h := ?_)
      refine pu_ 5 20 (h := ?_)
      refine pu_ 6 21 (h := ?_)
      exact norm_ (by simp only [putAll, Act.put, List.setIfInBounds_toArray, List.set_cons_zero, List.set_cons_succ]) (hCont (_, _) _ ⟨hge, HA.out, HB.out, HV.out⟩)
  rintro ⟨AB, V⟩ wj ⟨hge, HA, HB, HV⟩
  have HA := Lib.hid HA
  have HB := Lib.hid HB
  (try simp only at hge HA HB HV)
  have HV := Lib.hid HV
  obtain ⟨B0, B1, B2, d0, d1, d2, hV, g0, g1, g2, k0, k1, k2⟩ := HV.out.c.out
  have HFR := Lib.hid HV.out.fr
  rw [hV] at HFR
  subst hV
  have G3 := Lib.hid g0
  have G4 := Lib.hid g1
  have G5 := Lib.hid g2
  have K0 := Lib.hid k0
  have K1 := Lib.hid k1
  have K2 := Lib.hid k2
  clear g0 g1 g2 k0 k1 k2
  have HA_ := HA
  have hHeld : wj.cell? ⟨CB, 0, none⟩ = some (.slice A0 NP c0) ∧ wj.cell? ⟨CB, 1, none⟩ = some (.slice A1 NA c1) ∧ wj.cell? ⟨CB, 2, none⟩ = some (.slice A2 NE c2) ∧ wj.cell? ⟨CB, 3, none⟩ = some (.int .i64 ra) ∧ wj.cell? ⟨w.heap.size + 1, 0, none⟩ = some (.int .i64 ax) ∧ wj.cell? ⟨w.heap.size + 1, 1, none⟩ = some (.int .i64 ay) ∧ wj.cell? ⟨w.heap.size + 1, 2, none⟩ = some (.int .i64 az) ∧ wj.cell? ⟨w.heap.size + 1, 3, none⟩ = some (.int .i64 tw) ∧ wj.cell? ⟨w.heap.size + 1, 4, none⟩ = some (.int .i64 tx) ∧ wj.cell? ⟨w.heap.size + 1, 5, none⟩ = some (.int .i64 ty) ∧ wj.cell? ⟨w.heap.size + 1, 6, none⟩ = some (.int .i64 tz) := (FF.out _ HB)
  refine no_ (h := ?_)
  refine on_ 8 (none) (h := fun K hK => ?_)
  have sc0 : World.cell? _ ⟨AB, 0, none⟩ = some (.slice none 0 0) := (blk_cell HA.out 0).trans rfl
  have sf0 := blk_frozen HA.out 0
  have sc1 : World.cell? _ ⟨AB, 1, none⟩ = some (.slice none 0 0) := (blk_cell HA.out 1).trans rfl
  have sf1 := blk_frozen HA.out 1
  have sc2 : World.cell? _ ⟨AB, 2, none⟩ = some (.slice none 0 0) := (blk_cell HA.out 2).trans rfl
  have sf2 := blk_frozen HA.out 2
  have sc3 : World.cell? _ ⟨AB, 3, none⟩ = some (.int .i64 0) := (blk_cell HA.out 3).trans rfl
  have sf3 := blk_frozen HA.out 3
  refine skip_ (w1 := ?_) (by rfl) rfl ?_ ?_
  rotate_left
  · go_simp
    rfl
  have HA := Lib.hid (bs4 HA.out (.slice B0 LP.length d0) (.slice B1 LA.length d1) (.slice B2 LE.length d2) (.int .i64 ra))
  have HB := Lib.hid (bb4 HB.out (Nat.le_trans (Nat.le_refl _) hge) (.slice B0 LP.length d0) (.slice B1 LA.length d1) (.slice B2 LE.length d2) (.int .i64 ra))
  clear sc0 sf0 sc1 sf1 sc2 sf2 sc3 sf3
  refine hK.out _ _ (FF.out _ HB) (fun hHeld => ?_)
  clear hK K
  refine pu_ 9 8 (h := ?_)
  refine done_ (by kernel_rfl) ?_
  have G35 := Lib.hid (G3.out.setS HA_.out (.slice B0 LP.length d0) (.slice B1 LA.length d1) (.slice B2 LE.length d2) (.int .i64 ra))
  have G45 := Lib.hid (G4.out.setS HA_.out (.slice B0 LP.length d0) (.slice B1 LA.length d1) (.slice B2 LE.length d2) (.int .i64 ra))
  have G55 := Lib.hid (G5.out.setS HA_.out (.slice B0 LP.length d0) (.slice B1 LA.length d1) (.slice B2 LE.length d2) (.int .i64 ra))
  obtain ⟨w5, hwn⟩ : ∃ V, ((((wj.setCell ⟨AB, 0, none⟩ (.slice B0 LP.length d0)).setCell ⟨AB, 1, none⟩ (.slice B1 LA.length d1)).setCell ⟨AB, 2, none⟩ (.slice B2 LE.length d2)).setCell ⟨AB, 3, none⟩ (.int .i64 ra)) = V := ⟨_, rfl⟩
  rw [hwn] at HA HB G35 G45 G55 ⊢
  clear hwn
  have HA5 := HA
  have R5 := Lib.hid ((HB.out.block _ (blk_lt R3.out)).trans R3.out)
  have W5 := Lib.hid (bthen W3.out HB.out)
  have lA : AB < w5.heap.size := blk_lt HA5.out
  have lR : w.heap.size + 1 + 1 < w5.heap.size := blk_lt R5.out
  have d0_ : w5.cell? ⟨AB, 0, none⟩ = some (.slice B0 LP.length d0) := (blk_cell HA5.out 0).trans rfl
  have r0 : w5.cell? ⟨w.heap.size + 1 + 1, 0, none⟩ = some (.slice none 0 0) := (blk_cell R5.out 0).trans rfl
  have f0 : w5.frozen? ⟨w.heap.size + 1 + 1, 0, none⟩ = false := blk_frozen R5.out 0
  have d1_ : w5.cell? ⟨AB, 1, none⟩ = some (.slice B1 LA.length d1) := (blk_cell HA5.out 1).trans rfl
  have r1 : w5.cell? ⟨w.heap.size + 1 + 1, 1, none⟩ = some (.slice none 0 0) := (blk_cell R5.out 1).trans rfl
  have f1 : w5.frozen? ⟨w.heap.size + 1 + 1, 1, none⟩ = false := blk_frozen R5.out 1
  have d2_ : w5.cell? ⟨AB, 2, none⟩ = some (.slice B2 LE.length d2) := (blk_cell HA5.out 2).trans rfl
  have r2 : w5.cell? ⟨w.heap.size + 1 + 1, 2, none⟩ = some (.slice none 0 0) := (blk_cell R5.out 2).trans rfl
  have f2 : w5.frozen? ⟨w.heap.size + 1 + 1, 2, none⟩ = false := blk_frozen R5.out 2
  have d3_ : w5.cell? ⟨AB, 3, none⟩ = some (.int .i64 ra) := (blk_cell HA5.out 3).trans rfl
  have r3 : w5.cell? ⟨w.heap.size + 1 + 1, 3, none⟩ = some (.int .i64 0) := (blk_cell R5.out 3).trans rfl
  have f3 : w5.frozen? ⟨w.heap.size + 1 + 1, 3, none⟩ = false := blk_frozen R5.out 3
  have T7 := bs4 R5.out (.slice B0 LP.length d0) (.slice B1 LA.length d1) (.slice B2 LE.length d2) (.int .i64 ra)
  have B7 := bb4 W5.out (show w.heap.size ≤ w.heap.size + 1 + 1 by omega) (.slice B0 LP.length d0) (.slice B1 LA.length d1) (.slice B2 LE.length d2) (.int .i64 ra)
  have p7 := G35.out.setS R5.out (.slice B0 LP.length d0) (.slice B1 LA.length d1) (.slice B2 LE.length d2) (.int .i64 ra)
  have a7 := G45.out.setS R5.out (.slice B0 LP.length d0) (.slice B1 LA.length d1) (.slice B2 LE.length d2) (.int .i64 ra)
  have e7 := G55.out.setS R5.out (.slice B0 LP.length d0) (.slice B1 LA.length d1) (.slice B2 LE.length d2) (.int .i64 ra)
  obtain ⟨w7, hw7⟩ : ∃ V, ((((w5.setCell ⟨w.heap.size + 1 + 1, 0, none⟩ (.slice B0 LP.length d0)).setCell ⟨w.heap.size + 1 + 1, 1, none⟩ (.slice B1 LA.length d1)).setCell ⟨w.heap.size + 1 + 1, 2, none⟩ (.slice B2 LE.length d2)).setCell ⟨w.heap.size + 1 + 1, 3, none⟩ (.int .i64 ra)) = V := ⟨_, rfl⟩
  rw [hw7] at T7 B7 p7 a7 e7
  have hv7 := Lib.hid hw7
  have T7 := Lib.hid T7
  have B7 := Lib.hid B7
  have HVF := Lib.hid (show CoreV w7 (.agg #[.slice B0 LP.length d0, .slice B1 LA.length d1, .slice B2 LE.length d2, .int .i64 ra]) LP LA LE ra from ⟨B0, B1, B2, d0, d1, d2, rfl, p7, a7, e7, K0.out, K1.out, K2.out⟩)
  clear hw7 p7 a7 e7 x0 x1 x2 x3 y0 y1 y2 y3 y4 y5 y6 lC lP hge
  go_wp2
  (try rw [hv7.out])
  have y0 : w7.cell? ⟨w.heap.size + 1 + 1, 0, none⟩ = some (.slice B0 LP.length d0) := (blk_cell T7.out 0).trans rfl
  have y1 : w7.cell? ⟨w.heap.size + 1 + 1, 1, none⟩ = some (.slice B1 LA.length d1) := (blk_cell T7.out 1).trans rfl
  have y2 : w7.cell? ⟨w.heap.size + 1 + 1, 2, none⟩ = some (.slice B2 LE.length d2) := (blk_cell T7.out 2).trans rfl
  have y3 : w7.cell? ⟨w.heap.size + 1 + 1, 3, none⟩ = some (.int .i64 ra) := (blk_cell T7.out 3).trans rfl
  exact bodyPost_ret (v := .agg #[.slice B0 LP.length d0, .slice B1 LA.length d1, .slice B2 LE.length d2, .int .i64 ra]) (by simp [results, Try.results52, go_sem, y0, y1, y2, y3]) rfl ⟨_, p, a, e, rfl, HCI.out, by rw [HLP.out, HLA.out, HLE.out, HRA.out]; exact HVF.out, B7.out, HFR.out⟩
theorem placed_calls (k r : Int) (h : P3) (l : List P3) (A : Option Addr) (c : Nat) (p7 : P7) (w : World) (hA : RdB w A l) (hr : RawOk k r h l) (hp : i64s p7) :
    Calls Try.prog 52 #[.agg (cS k r h A l.length c), .agg (cP7 p7)] w (PlacedPost (rightS k r h l) (rightPose p7) w) :=
  (placed_calls2 k r h l A c p7 w hA hr hp).mono fun en w' ⟨v, p, a, e, e1, e2, e3, e4, _⟩ => ⟨v, p, a, e, e1, e2, e3, e4⟩
end Go.Proofs.Ytckdhahceelckaa.G
namespace Go.Proofs.Ytckdhahceelckaa.G
open Go.RowKit Go.Proofs.YtckdhahceelckaaW.PrintWords Go.Proofs.YtckdhahceelckaaW.PrintLast Go.Proofs.YtckdhahceelckaaW.PrintMore
attribute [local go_sem] max2_mx min2_mn max_two min_two max_three min_three max_four min_four
attribute [local go_sem high] eqA23
set_option linter.unusedVariables false
set_option linter.unusedSimpArgs false
/-- the flat cells of a Two -/
abbrev cTwo (k1 r1 : Int) (h1 : P3) (A1 : Option Addr) (n1 c1 : Nat) (k2 r2 : Int) (h2 : P3) (A2 : Option Addr) (n2 c2 : Nat) (p q : P7) (near : Int) (way : P3) : Array Value :=
  #[.int .i64 k1, .int .i64 r1, .int .i64 h1.x, .int .i64 h1.y, .int .i64 h1.z, .slice A1 n1 c1, .int .i64 k2, .int .i64 r2, .int .i64 h2.x, .int .i64 h2.y, .int .i64 h2.z, .slice A2 n2 c2,
    .int .i64 p.at_.x, .int .i64 p.at_.y, .int .i64 p.at_.z, .int .i64 p.turn.w, .int .i64 p.turn.x, .int .i64 p.turn.y, .int .i64 p.turn.z,
    .int .i64 q.at_.x, .int .i64 q.at_.y, .int .i64 q.at_.z, .int .i64 q.turn.w, .int .i64 q.turn.x, .int .i64 q.turn.y, .int .i64 q.turn.z, .int .i64 near, .int .i64 way.x, .int .i64 way.y, .int .i64 way.z]
def CoreAt (s : Shp) (q : P7) (w : World) (v : Value) : Prop := ∃ p a e, CoreIs s p a e ∧ CoreV w v (p.map (placePt (rowsF q.turn) q.at_)) (waysF (rowsF q.turn) a) (waysF (rowsF q.turn) e) s.radius
theorem CoreAt.below {s : Shp} {q : P7} {w w1 : World} {v : Value} (h : CoreAt s q w v) (hb : Below w.heap.size w w1) : CoreAt s q w1 v := by
  obtain ⟨p, a, e, h1, h2⟩ := h
  exact ⟨p, a, e, h1, h2.below hb⟩
theorem CoreAt.setS {s : Shp} {q : P7} {w : World} {v : Value} (h : CoreAt s q w v) {g : Nat} {A0 A1 A2 : Option Addr} {n0 n1 n2 m0 m1 m2 : Nat} {x : Value} {t : TypeId} (hg : w.heap[g]? = some (.cells #[.slice A0 n0 m0, .slice A1 n1 m1, .slice A2 n2 m2, x] t (0, 0))) (u0 u1 u2 u3 : Value) :
    CoreAt s q ((((w.setCell ⟨g, 0, none⟩ u0).setCell ⟨g, 1, none⟩ u1).setCell ⟨g, 2, none⟩ u2).setCell ⟨g, 3, none⟩ u3) v := by
  obtain ⟨p, a, e, h1, h2⟩ := h
  obtain ⟨B0, B1, B2, c0, c1, c2, e1, g0, g1, g2, k⟩ := h2.out
  exact ⟨p, a, e, h1, ⟨B0, B1, B2, c0, c1, c2, e1, g0.setS hg u0 u1 u2 u3, g1.setS hg u0 u1 u2 u3, g2.setS hg u0 u1 u2 u3, k⟩⟩
theorem other4 {w : World} {g k : Nat} (h : k ≠ g) (u0 u1 u2 u3 : Value) : ((((w.setCell ⟨g, 0, none⟩ u0).setCell ⟨g, 1, none⟩ u1).setCell ⟨g, 2, none⟩ u2).setCell ⟨g, 3, none⟩ u3).heap[k]? = w.heap[k]? := by
  rw [Below.heap_setCell _ ⟨g, 3, none⟩ u3 k h, Below.heap_setCell _ ⟨g, 2, none⟩ u2 k h, Below.heap_setCell _ ⟨g, 1, none⟩ u1 k h, Below.heap_setCell _ ⟨g, 0, none⟩ u0 k h]
theorem blk7m {w : World} {g : Nat} {a b c d e f h : Value} {t : TypeId} (hh : w.heap[g]? = some (.cells #[a, b, c, d, e, f, h] t (0, 0))) (u v x : Value) : (((w.setCell ⟨g, 0, none⟩ u).setCell ⟨g, 1, none⟩ v).setCell ⟨g, 2, none⟩ x).heap[g]? = some (.cells #[u, v, x, d, e, f, h] t (0, 0)) := by
  have h8 := blk_set (blk_set (blk_set hh 0 u) 1 v) 2 x
  simp only [List.setIfInBounds_toArray, List.set_cons_zero, List.set_cons_succ] at h8
  exact h8
def nearF (near : Int) (way at_ : P3) : P3 := ⟨at_.x + (pickF way.x (2 * (1 + pickF near 131072)) - (1 + pickF near 131072)) * 1048576, at_.y + (pickF way.y (2 * (1 + pickF near 131072)) - (1 + pickF near 131072)) * 1048576, at_.z + (pickF way.z (2 * (1 + pickF near 131072)) - (1 + pickF near 131072)) * 1048576⟩
def CoresPostF (b : Nat) (s1 s2 : Shp) (p q : P7) (w : World) (en : Ending) (w' : World) : Prop := ∃ va vb, en = .returned (.tuple #[va, vb]) ∧ CoreAt s1 p w' va ∧ CoreAt s2 q w' vb ∧ Below w.heap.size w w' ∧ Fresh b va ∧ Fresh b vb
def CoresPost (s1 s2 : Shp) (p q : P7) (w : World) (en : Ending) (w' : World) : Prop := ∃ va vb, en = .returned (.tuple #[va, vb]) ∧ CoreAt s1 p w' va ∧ CoreAt s2 q w' vb ∧ Below w.heap.size w w'
set_option maxHeartbeats 8000000 in
set_option maxRecDepth 100000 in
theorem cores_calls2 (k1 r1 : Int) (h1 : P3) (l1 : List P3) (A1 : Option Addr) (c1 : Nat) (k2 r2 : Int) (h2 : P3) (l2 : List P3) (A2 : Option Addr) (c2 : Nat) (p q : P7) (near : Int) (way : P3) (w : World)
    (hA1 : RdB w A1 l1) (hr1 : RawOk k1 r1 h1 l1) (hA2 : RdB w A2 l2) (hr2 : RawOk k2 r2 h2 l2) (hp : i64s p) (hq : i64s q) (hne : i64 near) (hwa : pI64 way) :
    Calls Try.prog 19 #[.agg (cTwo k1 r1 h1 A1 l1.length c1 k2 r2 h2 A2 l2.length c2 p q near way)] w (CoresPostF w.heap.size (rightS k1 r1 h1 l1) (rightS k2 r2 h2 l2) (rightPose p) ⟨nearF near way (rightPose p).at_, (rightPose q).turn⟩ w) := by
  have HP1 := Lib.hid (fun (W : World) (hW : RdB W A1 l1) => placed_calls2 k1 r1 h1 l1 A1 c1 p W hW hr1 hp)
  have HR2 := Lib.hid (fun (W : World) (hW : RdB W A2 l2) => right5_calls k2 r2 h2 l2 A2 c2 W hW hr2.len hr2.k hr2.r hr2.h hr2.pts)
  have HRP := Lib.hid (fun (W : World) => right6_calls p W hp)
  have HRQ := Lib.hid (fun (W : World) => right6_calls q W hq)
  have HQ : Hid (q32 (rightPose q).turn) := Lib.hid (by simp only [rightPose]; exact wholeF_q32 (partQ q.turn))
  have HS := Lib.hid (rightS_ok k2 r2 h2 l2)
  have HPA : -4398046511104 ≤ (rightPose p).at_.x ∧ (rightPose p).at_.x ≤ 4398046511104 ∧ -4398046511104 ≤ (rightPose p).at_.y ∧ (rightPose p).at_.y ≤ 4398046511104 ∧ -4398046511104 ≤ (rightPose p).at_.z ∧ (rightPose p).at_.z ≤ 4398046511104 := by
    have a := partF_bd p.at_.x 4398046511104 (by decide)
    have b := partF_bd p.at_.y 4398046511104 (by decide)
    have c := partF_bd p.at_.z 4398046511104 (by decide)
    simp only [rightPose, partV]
    exact ⟨a.1, a.2, b.1, b.2, c.1, c.2⟩
  have HPA := Lib.hid HPA
  have HNE := Lib.hid (fun (W : World) => pick_calls near 131072 hne.1 hne.2 (by decide) (by decide) W)
  have bn := pickF_bd near 131072 (by decide)
  have HNF : Hid (∀ a, nearF near way a = _) := Lib.hid (fun a => by unfold nearF; rfl)
  obtain ⟨qn, hqn⟩ : ∃ x, pickF near 131072 = x := ⟨_, rfl⟩
  rw [hqn] at HNE bn HNF
  have HWX := Lib.hid (fun (W : World) => pick_calls way.x (2 * (1 + qn)) hwa.1.1 hwa.1.2 (by omega) (by omega) W)
  have HWY := Lib.hid (fun (W : World) => pick_calls way.y (2 * (1 + qn)) hwa.2.1.1 hwa.2.1.2 (by omega) (by omega) W)
  have HWZ := Lib.hid (fun (W : World) => pick_calls way.z (2 * (1 + qn)) hwa.2.2.1 hwa.2.2.2 (by omega) (by omega) W)
  have bx := pickF_bd way.x (2 * (1 + qn)) (by omega)
  have by_ := pickF_bd way.y (2 * (1 + qn)) (by omega)
  have bz := pickF_bd way.z (2 * (1 + qn)) (by omega)
  have HA1 := Lib.hid hA1
  have HA2 := Lib.hid hA2
  obtain ⟨s1, hs1⟩ : ∃ s, rightS k1 r1 h1 l1 = s := ⟨_, rfl⟩
  obtain ⟨s2, hs2⟩ : ∃ s, rightS k2 r2 h2 l2 = s := ⟨_, rfl⟩
  obtain ⟨P, hP⟩ : ∃ s, rightPose p = s := ⟨_, rfl⟩
  obtain ⟨Q, hQ⟩ : ∃ s, rightPose q = s := ⟨_, rfl⟩
  rw [hs1, hP] at HP1
  rw [hs2] at HR2 HS
  rw [hP] at HRP HPA
  rw [hQ] at HRQ HQ
  rw [hs1, hs2, hP, hQ]
  obtain ⟨NF, hNF⟩ : ∃ s, nearF near way P.at_ = s := ⟨_, rfl⟩
  rw [hNF]
  have HNF2 := Lib.hid ((HNF.out P.at_).symm.trans hNF)
  obtain ⟨N1, hN1⟩ : ∃ N, l1.length = N := ⟨_, rfl⟩
  obtain ⟨N2, hN2⟩ : ∃ N, l2.length = N := ⟨_, rfl⟩
  rw [hN1] at HP1 ⊢
  rw [hN2] at HR2 ⊢
  clear hA1 hr1 hA2 hr2 hp hq hne hwa hs1 hs2 hP hQ hNF hN1 hN2 HNF hqn
  obtain ⟨h1x, h1y, h1z⟩ := h1
  obtain ⟨h2x, h2y, h2z⟩ := h2
  obtain ⟨⟨pax, pay, paz⟩, ⟨ptw, ptx, pty, ptz⟩⟩ := p
  obtain ⟨⟨qax, qay, qaz⟩, ⟨qtw, qtx, qty, qtz⟩⟩ := q
  obtain ⟨wx, wy, wz⟩ := way
  (try simp only at HWX HWY HWZ bx by_ bz HNF2)
  obtain ⟨⟨Px, Py, Pz⟩, ⟨Pw, Pi, Pj, Pk⟩⟩ := P
  obtain ⟨⟨Qx, Qy, Qz⟩, ⟨Qw, Qi, Qj, Qk_⟩⟩ := Q
  (try simp only at HPA HNF2 HQ)
  go_enter Try.func19, Try.ntmps19
  go_wp2_with fail
  obtain ⟨w0, hw0⟩ : ∃ w0, ((w.alloc (.cells #[.int .i64 k1, .int .i64 r1, .int .i64 h1x, .int .i64 h1y, .int .i64 h1z, .slice A1 N1 c1, .int .i64 k2, .int .i64 r2, .int .i64 h2x, .int .i64 h2y, .int .i64 h2z, .slice A2 N2 c2, .int .i64 pax, .int .i64 pay, .int .i64 paz, .int .i64 ptw, .int .i64 ptx, .int .i64 pty, .int .i64 ptz, .int .i64 qax, .int .i64 qay, .int .i64 qaz, .int .i64 qtw, .int .i64 qtx, .int .i64 qty, .int .i64 qtz, .int .i64 near, .int .i64 wx, .int .i64 wy, .int .i64 wz] 33)).alloc (.cells #[.slice none 0 0, .slice none 0 0, .slice none 0 0, .int .i64 0] 36)).alloc (.cells #[.slice none 0 0, .slice none 0 0, .slice none 0 0, .int .i64 0] 36) = w0 := ⟨_, rfl⟩
  have T0 : Hid (w0.heap[w.heap.size]? = some (.cells #[.int .i64 k1, .int .i64 r1, .int .i64 h1x, .int .i64 h1y, .int .i64 h1z, .slice A1 N1 c1, .int .i64 k2, .int .i64 r2, .int .i64 h2x, .int .i64 h2y, .int .i64 h2z, .slice A2 N2 c2, .int .i64 pax, .int .i64 pay, .int .i64 paz, .int .i64 ptw, .int .i64 ptx, .int .i64 pty, .int .i64 ptz, .int .i64 qax, .int .i64 qay, .int .i64 qaz, .int .i64 qtw, .int .i64 qtx, .int .i64 qty, .int .i64 qtz, .int .i64 near, .int .i64 wx, .int .i64 wy, .int .i64 wz] 33 (0, 0))) := Lib.hid (by rw [← hw0]; exact three0 _ _ _ _)
  have R1 : Hid (w0.heap[w.heap.size + 1]? = some (.cells #[.slice none 0 0, .slice none 0 0, .slice none 0 0, .int .i64 0] 36 (0, 0))) := Lib.hid (by rw [← hw0]; exact three1 _ _ _ _)
  have R2 : Hid (w0.heap[w.heap.size + 1 + 1]? = some (.cells #[.slice none 0 0, .slice none 0 0, .slice none 0 0, .int .i64 0] 36 (0, 0))) := Lib.hid (by rw [← hw0]; exact three2 _ _ _ _)
  have W := Lib.hid (show Below w.heap.size w w0 by rw [← hw0]; exact (((Below.refl _ w).alloc (Nat.le_refl _) _).alloc (by simp) _).alloc (by simp; omega) _)
  rw [hw0]
  clear hw0
  refine (HP1.out w0 (HA1.out.below W.out)).mono ?_
  rintro e w1 ⟨va, p1, a1, e1, rfl, hci1, hv1, hb, hfa⟩
  have HFA := Lib.hid (hfa.mono W.out.size)
  clear hfa
  have HC1 : Hid (CoreAt s1 ⟨⟨Px, Py, Pz⟩, ⟨Pw, Pi, Pj, Pk⟩⟩ w1 va) := Lib.hid ⟨p1, a1, e1, hci1, hv1⟩
  have T0 := Lib.hid ((hb.block _ (blk_lt T0.out)).trans T0.out)
  have R1 := Lib.hid ((hb.block _ (blk_lt R1.out)).trans R1.out)
  have R2 := Lib.hid ((hb.block _ (blk_lt R2.out)).trans R2.out)
  have W := Lib.hid (bthen W.out hb)
  obtain ⟨B0, B1, B2, d0, d1, d2, hva, _⟩ := hv1.out
  obtain ⟨n0, hn0⟩ : ∃ n, (p1.map (placePt (rowsF (⟨⟨Px, Py, Pz⟩, ⟨Pw, Pi, Pj, Pk⟩⟩ : P7).turn) (⟨⟨Px, Py, Pz⟩, ⟨Pw, Pi, Pj, Pk⟩⟩ : P7).at_)).length = n := ⟨_, rfl⟩
  obtain ⟨n1, hn1⟩ : ∃ n, (waysF (rowsF (⟨⟨Px, Py, Pz⟩, ⟨Pw, Pi, Pj, Pk⟩⟩ : P7).turn) a1).length = n := ⟨_, rfl⟩
  obtain ⟨n2, hn2⟩ : ∃ n, (waysF (rowsF (⟨⟨Px, Py, Pz⟩, ⟨Pw, Pi, Pj, Pk⟩⟩ : P7).turn) e1).length = n := ⟨_, rfl⟩
  obtain ⟨ra1, hra1⟩ : ∃ n, s1.radius = n := ⟨_, rfl⟩
  rw [hn0, hn1, hn2, hra1] at hva
  subst hva
  clear hn0 hn1 hn2 hra1 hv1 hci1 hb
  have t6 : w1.cell? ⟨w.heap.size, 6, none⟩ = some (.int .i64 k2) := (blk_cell T0.out 6).trans rfl
  have t7 : w1.cell? ⟨w.heap.size, 7, none⟩ = some (.int .i64 r2) := (blk_cell T0.out 7).trans rfl
  have t8 : w1.cell? ⟨w.heap.size, 8, none⟩ = some (.int .i64 h2x) := (blk_cell T0.out 8).trans rfl
  have t9 : w1.cell? ⟨w.heap.size, 9, none⟩ = some (.int .i64 h2y) := (blk_cell T0.out 9).trans rfl
  have t10 : w1.cell? ⟨w.heap.size, 10, none⟩ = some (.int .i64 h2z) := (blk_cell T0.out 10).trans rfl
  have t11 : w1.cell? ⟨w.heap.size, 11, none⟩ = some (.slice A2 N2 c2) := (blk_cell T0.out 11).trans rfl
  have lT : w.heap.size < w1.heap.size := blk_lt T0.out
  have N41 := Lib.hid (blk_lt R1.out)
  obtain ⟨C4, hC4⟩ : ∃ g, w1.heap.size = g := ⟨_, rfl⟩
  have zc := heap_alloc_new w1 (.cells #[.slice B0 n0 d0, .slice B1 n1 d1, .slice B2 n2 d2, .int .i64 ra1] 36)
  have bc := (Below.refl w1.heap.size w1).alloc (Nat.le_refl _) (.cells #[.slice B0 n0 d0, .slice B1 n1 d1, .slice B2 n2 d2, .int .i64 ra1] 36)
  obtain ⟨w2, hw⟩ : ∃ V, w1.alloc (.cells #[.slice B0 n0 d0, .slice B1 n1 d1, .slice B2 n2 d2, .int .i64 ra1] 36) = V := ⟨_, rfl⟩
  rw [hw] at zc bc
  rw [hC4] at zc
  have C4b := Lib.hid zc
  have T0 := Lib.hid ((bc.block _ (blk_lt T0.out)).trans T0.out)
  have R1 := Lib.hid ((bc.block _ (blk_lt R1.out)).trans R1.out)
  have R2 := Lib.hid ((bc.block _ (blk_lt R2.out)).trans R2.out)
  have W := Lib.hid (bthen W.out bc)
  have HC1 := Lib.hid (HC1.out.below bc)
  have hw_w2 := Lib.hid hw
  have hC4_ := Lib.hid hC4
  clear zc bc hw hC4
  rw [hC4_.out] at N41
  go_wp2_with fail
  rw [hw_w2.out, hC4_.out]
  clear t6 t7 t8 t9 t10 t11 lT
  refine (HR2.out w2 (HA2.out.below W.out)).mono ?_
  rintro e w3 ⟨A5, c5, rfl, hrd, hc5, hb⟩
  have HC := Lib.hid (core_calls s2 A5 c5 HS.out w3 hrd)
  have T0 := Lib.hid ((hb.block _ (blk_lt T0.out)).trans T0.out)
  have R1 := Lib.hid ((hb.block _ (blk_lt R1.out)).trans R1.out)
  have R2 := Lib.hid ((hb.block _ (blk_lt R2.out)).trans R2.out)
  have C4b := Lib.hid ((hb.block _ (blk_lt C4b.out)).trans C4b.out)
  have W := Lib.hid (bthen W.out hb)
  have HC1 := Lib.hid (HC1.out.below hb)
  clear hb hrd hc5
  go_wp2_with fail
  refine HC.out.mono ?_
  rintro e w4 ⟨p2, a2, e2, hci2, v2, rfl, hv2, hb⟩
  have T0 := Lib.hid ((hb.block _ (blk_lt T0.out)).trans T0.out)
  have R1 := Lib.hid ((hb.block _ (blk_lt R1.out)).trans R1.out)
  have R2 := Lib.hid ((hb.block _ (blk_lt R2.out)).trans R2.out)
  have C4b := Lib.hid ((hb.block _ (blk_lt C4b.out)).trans C4b.out)
  have W := Lib.hid (bthen W.out hb)
  have HC1 := Lib.hid (HC1.out.below hb)
  obtain ⟨E0, E1, E2, f0, f1, f2, rfl, g0, g1, g2, k0, k1_, k2_⟩ := hv2.out
  have HCI := Lib.hid hci2
  have hB := hci2.bounds HS.out
  have HPL := Lib.hid (fun (AT : P3) (hAT : atOk AT) (W : World) (hW0 : RdB W E0 p2) (hW1 : RdB W E1 a2) (hW2 : RdB W E2 e2) => place_in2 ⟨AT, ⟨Qw, Qi, Qj, Qk_⟩⟩ p2 a2 e2 s2.radius E0 E1 E2 f0 f1 f2 W hW0 hW1 hW2 k0 k1_ k2_ HQ.out.quat (rowsF ⟨Qw, Qi, Qj, Qk_⟩) rfl (rows_mOk HQ.out) hAT hB.p0 (by have := hB.p1; omega) (by have := hB.a1; omega) (by have := hB.e1; omega) hB.pin hB.ain hB.ein)
  obtain ⟨NP, hNP⟩ : ∃ n, p2.length = n := ⟨_, rfl⟩
  obtain ⟨NA, hNA⟩ : ∃ n, a2.length = n := ⟨_, rfl⟩
  obtain ⟨NE, hNE⟩ : ∃ n, e2.length = n := ⟨_, rfl⟩
  rw [hNP, hNA, hNE] at HPL ⊢
  obtain ⟨ra, hra⟩ : ∃ n, s2.radius = n := ⟨_, rfl⟩
  rw [hra] at HPL ⊢
  have HRA := Lib.hid hra
  have G0 := Lib.hid g0
  have G1 := Lib.hid g1
  have G2 := Lib.hid g2
  clear hNP hNA hNE hra g0 g1 g2 k0 k1_ k2_ hB hci2 hv2 hb HC HR2 HP1
  have t12 : w4.cell? ⟨w.heap.size, 12, none⟩ = some (.int .i64 pax) := (blk_cell T0.out 12).trans rfl
  have t13 : w4.cell? ⟨w.heap.size, 13, none⟩ = some (.int .i64 pay) := (blk_cell T0.out 13).trans rfl
  have t14 : w4.cell? ⟨w.heap.size, 14, none⟩ = some (.int .i64 paz) := (blk_cell T0.out 14).trans rfl
  have t15 : w4.cell? ⟨w.heap.size, 15, none⟩ = some (.int .i64 ptw) := (blk_cell T0.out 15).trans rfl
  have t16 : w4.cell? ⟨w.heap.size, 16, none⟩ = some (.int .i64 ptx) := (blk_cell T0.out 16).trans rfl
  have t17 : w4.cell? ⟨w.heap.size, 17, none⟩ = some (.int .i64 pty) := (blk_cell T0.out 17).trans rfl
  have t18 : w4.cell? ⟨w.heap.size, 18, none⟩ = some (.int .i64 ptz) := (blk_cell T0.out 18).trans rfl
  have lT : w.heap.size < w4.heap.size := blk_lt T0.out
  obtain ⟨C5, hC5⟩ : ∃ g, w4.heap.size = g := ⟨_, rfl⟩
  have zc := heap_alloc_new w4 (.cells #[.slice E0 NP f0, .slice E1 NA f1, .slice E2 NE f2, .int .i64 ra] 36)
  have bc := (Below.refl w4.heap.size w4).alloc (Nat.le_refl _) (.cells #[.slice E0 NP f0, .slice E1 NA f1, .slice E2 NE f2, .int .i64 ra] 36)
  obtain ⟨w5, hw⟩ : ∃ V, w4.alloc (.cells #[.slice E0 NP f0, .slice E1 NA f1, .slice E2 NE f2, .int .i64 ra] 36) = V := ⟨_, rfl⟩
  rw [hw] at zc bc
  rw [hC5] at zc
  have C5b := Lib.hid zc
  have T0 := Lib.hid ((bc.block _ (blk_lt T0.out)).trans T0.out)
  have R1 := Lib.hid ((bc.block _ (blk_lt R1.out)).trans R1.out)
  have R2 := Lib.hid ((bc.block _ (blk_lt R2.out)).trans R2.out)
  have C4b := Lib.hid ((bc.block _ (blk_lt C4b.out)).trans C4b.out)
  have W := Lib.hid (bthen W.out bc)
  have HC1 := Lib.hid (HC1.out.below bc)
  have G0 := Lib.hid (G0.out.below bc)
  have G1 := Lib.hid (G1.out.below bc)
  have G2 := Lib.hid (G2.out.below bc)
  have hw_w5 := Lib.hid hw
  have hC5_ := Lib.hid hC5
  clear zc bc hw hC5
  go_wp2_with fail
  rw [hw_w5.out, hC5_.out]
  clear t12 t13 t14 t15 t16 t17 t18 lT
  refine (HRP.out w5).mono ?_
  rintro e w6 ⟨rfl, hb⟩
  have T0 := Lib.hid ((hb.block _ (blk_lt T0.out)).trans T0.out)
  have R1 := Lib.hid ((hb.block _ (blk_lt R1.out)).trans R1.out)
  have R2 := Lib.hid ((hb.block _ (blk_lt R2.out)).trans R2.out)
  have C4b := Lib.hid ((hb.block _ (blk_lt C4b.out)).trans C4b.out)
  have C5b := Lib.hid ((hb.block _ (blk_lt C5b.out)).trans C5b.out)
  have W := Lib.hid (bthen W.out hb)
  have HC1 := Lib.hid (HC1.out.below hb)
  have G0 := Lib.hid (G0.out.below hb)
  have G1 := Lib.hid (G1.out.below hb)
  have G2 := Lib.hid (G2.out.below hb)
  clear hb
  have t19 : w6.cell? ⟨w.heap.size, 19, none⟩ = some (.int .i64 qax) := (blk_cell T0.out 19).trans rfl
  have t20 : w6.cell? ⟨w.heap.size, 20, none⟩ = some (.int .i64 qay) := (blk_cell T0.out 20).trans rfl
  have t21 : w6.cell? ⟨w.heap.size, 21, none⟩ = some (.int .i64 qaz) := (blk_cell T0.out 21).trans rfl
  have t22 : w6.cell? ⟨w.heap.size, 22, none⟩ = some (.int .i64 qtw) := (blk_cell T0.out 22).trans rfl
  have t23 : w6.cell? ⟨w.heap.size, 23, none⟩ = some (.int .i64 qtx) := (blk_cell T0.out 23).trans rfl
  have t24 : w6.cell? ⟨w.heap.size, 24, none⟩ = some (.int .i64 qty) := (blk_cell T0.out 24).trans rfl
  have t25 : w6.cell? ⟨w.heap.size, 25, none⟩ = some (.int .i64 qtz) := (blk_cell T0.out 25).trans rfl
  have lT : w.heap.size < w6.heap.size := blk_lt T0.out
  obtain ⟨C7, hC7⟩ : ∃ g, w6.heap.size = g := ⟨_, rfl⟩
  have zc := heap_alloc_new w6 (.cells #[.int .i64 Px, .int .i64 Py, .int .i64 Pz, .int .i64 Pw, .int .i64 Pi, .int .i64 Pj, .int .i64 Pk] 92)
  have bc := (Below.refl w6.heap.size w6).alloc (Nat.le_refl _) (.cells #[.int .i64 Px, .int .i64 Py, .int .i64 Pz, .int .i64 Pw, .int .i64 Pi, .int .i64 Pj, .int .i64 Pk] 92)
  obtain ⟨w7, hw⟩ : ∃ V, w6.alloc (.cells #[.int .i64 Px, .int .i64 Py, .int .i64 Pz, .int .i64 Pw, .int .i64 Pi, .int .i64 Pj, .int .i64 Pk] 92) = V := ⟨_, rfl⟩
  rw [hw] at zc bc
  rw [hC7] at zc
  have C7b := Lib.hid zc
  have T0 := Lib.hid ((bc.block _ (blk_lt T0.out)).trans T0.out)
  have R1 := Lib.hid ((bc.block _ (blk_lt R1.out)).trans R1.out)
  have R2 := Lib.hid ((bc.block _ (blk_lt R2.out)).trans R2.out)
  have C4b := Lib.hid ((bc.block _ (blk_lt C4b.out)).trans C4b.out)
  have C5b := Lib.hid ((bc.block _ (blk_lt C5b.out)).trans C5b.out)
  have W := Lib.hid (bthen W.out bc)
  have HC1 := Lib.hid (HC1.out.below bc)
  have G0 := Lib.hid (G0.out.below bc)
  have G1 := Lib.hid (G1.out.below bc)
  have G2 := Lib.hid (G2.out.below bc)
  have hw_w7 := Lib.hid hw
  have hC7_ := Lib.hid hC7
  clear zc bc hw hC7
  go_wp2_with fail
  rw [hw_w7.out, hC7_.out]
  clear t19 t20 t21 t22 t23 t24 t25 lT
  refine (HRQ.out w7).mono ?_
  rintro e w8 ⟨rfl, hb⟩
  have T0 := Lib.hid ((hb.block _ (blk_lt T0.out)).trans T0.out)
  have R1 := Lib.hid ((hb.block _ (blk_lt R1.out)).trans R1.out)
  have R2 := Lib.hid ((hb.block _ (blk_lt R2.out)).trans R2.out)
  have C4b := Lib.hid ((hb.block _ (blk_lt C4b.out)).trans C4b.out)
  have C5b := Lib.hid ((hb.block _ (blk_lt C5b.out)).trans C5b.out)
  have C7b := Lib.hid ((hb.block _ (blk_lt C7b.out)).trans C7b.out)
  have W := Lib.hid (bthen W.out hb)
  have HC1 := Lib.hid (HC1.out.below hb)
  have G0 := Lib.hid (G0.out.below hb)
  have G1 := Lib.hid (G1.out.below hb)
  have G2 := Lib.hid (G2.out.below hb)
  clear hb
  have t26 : w8.cell? ⟨w.heap.size, 26, none⟩ = some (.int .i64 near) := (blk_cell T0.out 26).trans rfl
  have lT : w.heap.size < w8.heap.size := blk_lt T0.out
  have L78 := Lib.hid (blk_lt C7b.out)
  have LT8 := Lib.hid (blk_lt T0.out)
  have LR1 := Lib.hid (blk_lt R1.out)
  have LR2 := Lib.hid (blk_lt R2.out)
  have L48 := Lib.hid (blk_lt C4b.out)
  have L58 := Lib.hid (blk_lt C5b.out)
  have bc8 := Lib.hid ((Below.refl w8.heap.size w8).alloc (Nat.le_refl _) (.cells #[.int .i64 Qx, .int .i64 Qy, .int .i64 Qz, .int .i64 Qw, .int .i64 Qi, .int .i64 Qj, .int .i64 Qk_] 92))
  have HC18 := HC1
  have G08 := G0
  have G18 := G1
  have G28 := G2
  obtain ⟨C8, hC8⟩ : ∃ g, w8.heap.size = g := ⟨_, rfl⟩
  have zc := heap_alloc_new w8 (.cells #[.int .i64 Qx, .int .i64 Qy, .int .i64 Qz, .int .i64 Qw, .int .i64 Qi, .int .i64 Qj, .int .i64 Qk_] 92)
  have bc := (Below.refl w8.heap.size w8).alloc (Nat.le_refl _) (.cells #[.int .i64 Qx, .int .i64 Qy, .int .i64 Qz, .int .i64 Qw, .int .i64 Qi, .int .i64 Qj, .int .i64 Qk_] 92)
  obtain ⟨w9, hw⟩ : ∃ V, w8.alloc (.cells #[.int .i64 Qx, .int .i64 Qy, .int .i64 Qz, .int .i64 Qw, .int .i64 Qi, .int .i64 Qj, .int .i64 Qk_] 92) = V := ⟨_, rfl⟩
  rw [hw] at zc bc
  rw [hC8] at zc
  have C8b := Lib.hid zc
  have T0 := Lib.hid ((bc.block _ (blk_lt T0.out)).trans T0.out)
  have R1 := Lib.hid ((bc.block _ (blk_lt R1.out)).trans R1.out)
  have R2 := Lib.hid ((bc.block _ (blk_lt R2.out)).trans R2.out)
  have C4b := Lib.hid ((bc.block _ (blk_lt C4b.out)).trans C4b.out)
  have C5b := Lib.hid ((bc.block _ (blk_lt C5b.out)).trans C5b.out)
  have C7b := Lib.hid ((bc.block _ (blk_lt C7b.out)).trans C7b.out)
  have W := Lib.hid (bthen W.out bc)
  have HC1 := Lib.hid (HC1.out.below bc)
  have G0 := Lib.hid (G0.out.below bc)
  have G1 := Lib.hid (G1.out.below bc)
  have G2 := Lib.hid (G2.out.below bc)
  have hw_w9 := Lib.hid hw
  have hC8_ := Lib.hid hC8
  clear zc bc hw hC8
  rw [hw_w9.out] at bc8
  rw [hC8_.out] at L78 LT8 LR1 LR2 L48 L58
  go_wp2_with fail
  rw [hw_w9.out, hC8_.out]
  clear t26 lT
  obtain ⟨nn, hnn⟩ : ∃ x, 1 + qn = x := ⟨_, rfl⟩
  rw [hnn] at HWX HWY HWZ bx by_ bz HNF2
  have bnn : 1 ≤ nn ∧ nn ≤ 131072 := by omega
  have wnn : wrap64 nn = nn := by unfold wrap64; omega
  obtain ⟨mm, hmm⟩ : ∃ x, 2 * nn = x := ⟨_, rfl⟩
  rw [hmm] at HWX HWY HWZ bx by_ bz HNF2
  have wmm : wrap64 mm = mm := by unfold wrap64; omega
  have hpa := HPA.out
  obtain ⟨qx, hqx⟩ : ∃ x, pickF wx mm = x := ⟨_, rfl⟩
  rw [hqx] at HWX bx HNF2
  obtain ⟨ux, hux⟩ : ∃ x, qx - nn = x := ⟨_, rfl⟩
  rw [hux] at HNF2
  have bux : -131072 ≤ ux ∧ ux ≤ 131072 := by omega
  have wux : wrap64 ux = ux := by unfold wrap64; omega
  obtain ⟨vx, hvx⟩ : ∃ x, ux * 1048576 = x := ⟨_, rfl⟩
  rw [hvx] at HNF2
  have bvx : -137438953472 ≤ vx ∧ vx ≤ 137438953472 := by omega
  have wvx : wrap64 vx = vx := by unfold wrap64; omega
  obtain ⟨sx, hsx⟩ : ∃ x, Px + vx = x := ⟨_, rfl⟩
  rw [hsx] at HNF2
  have bsx : -4535485464576 ≤ sx ∧ sx ≤ 4535485464576 := by omega
  have wsx : wrap64 sx = sx := by unfold wrap64; omega
  obtain ⟨qy, hqy⟩ : ∃ x, pickF wy mm = x := ⟨_, rfl⟩
  rw [hqy] at HWY by_ HNF2
  obtain ⟨uy, huy⟩ : ∃ x, qy - nn = x := ⟨_, rfl⟩
  rw [huy] at HNF2
  have buy : -131072 ≤ uy ∧ uy ≤ 131072 := by omega
  have wuy : wrap64 uy = uy := by unfold wrap64; omega
  obtain ⟨vy, hvy⟩ : ∃ x, uy * 1048576 = x := ⟨_, rfl⟩
  rw [hvy] at HNF2
  have bvy : -137438953472 ≤ vy ∧ vy ≤ 137438953472 := by omega
  have wvy : wrap64 vy = vy := by unfold wrap64; omega
  obtain ⟨sy, hsy⟩ : ∃ x, Py + vy = x := ⟨_, rfl⟩
  rw [hsy] at HNF2
  have bsy : -4535485464576 ≤ sy ∧ sy ≤ 4535485464576 := by omega
  have wsy : wrap64 sy = sy := by unfold wrap64; omega
  obtain ⟨qz, hqz⟩ : ∃ x, pickF wz mm = x := ⟨_, rfl⟩
  rw [hqz] at HWZ bz HNF2
  obtain ⟨uz, huz⟩ : ∃ x, qz - nn = x := ⟨_, rfl⟩
  rw [huz] at HNF2
  have buz : -131072 ≤ uz ∧ uz ≤ 131072 := by omega
  have wuz : wrap64 uz = uz := by unfold wrap64; omega
  obtain ⟨vz, hvz⟩ : ∃ x, uz * 1048576 = x := ⟨_, rfl⟩
  rw [hvz] at HNF2
  have bvz : -137438953472 ≤ vz ∧ vz ≤ 137438953472 := by omega
  have wvz : wrap64 vz = vz := by unfold wrap64; omega
  obtain ⟨sz, hsz⟩ : ∃ x, Pz + vz = x := ⟨_, rfl⟩
  rw [hsz] at HNF2
  have bsz : -4535485464576 ≤ sz ∧ sz ≤ 4535485464576 := by omega
  have wsz : wrap64 sz = sz := by unfold wrap64; omega
  have HAT : atOk ⟨sx, sy, sz⟩ := by unfold atOk in3; simp only; omega
  have HAT := Lib.hid HAT
  have HWX := Lib.hid (fun W => (congrArg (fun z : Int => Calls Try.prog 22 #[.int .i64 wx, .int .i64 z] W fun e w' => e = .returned (.int .i64 qx) ∧ w' = W) wmm).mpr (HWX.out W))
  have HWY := Lib.hid (fun W => (congrArg (fun z : Int => Calls Try.prog 22 #[.int .i64 wy, .int .i64 z] W fun e w' => e = .returned (.int .i64 qy) ∧ w' = W) wmm).mpr (HWY.out W))
  have HWZ := Lib.hid (fun W => (congrArg (fun z : Int => Calls Try.prog 22 #[.int .i64 wz, .int .i64 z] W fun e w' => e = .returned (.int .i64 qz) ∧ w' = W) wmm).mpr (HWZ.out W))
  clear bn bnn hpa bx by_ bz bux buy buz bvx bvy bvz bsx bsy bsz hqx hqy hqz
  refine (HNE.out w9).mono ?_
  rintro e w9 ⟨rfl, rfl⟩
  go_wp2_with fail
  have lT : w.heap.size < w9.heap.size := blk_lt T0.out
  have l7 : C7 < w9.heap.size := blk_lt C7b.out
  have x0 : w9.cell? ⟨C7, 0, none⟩ = some (.int .i64 Px) := (blk_cell C7b.out 0).trans rfl
  have x1 : w9.cell? ⟨C7, 1, none⟩ = some (.int .i64 Py) := (blk_cell C7b.out 1).trans rfl
  have x2 : w9.cell? ⟨C7, 2, none⟩ = some (.int .i64 Pz) := (blk_cell C7b.out 2).trans rfl
  have t27 : w9.cell? ⟨w.heap.size, 27, none⟩ = some (.int .i64 wx) := (blk_cell T0.out 27).trans rfl
  have t28 : w9.cell? ⟨w.heap.size, 28, none⟩ = some (.int .i64 wy) := (blk_cell T0.out 28).trans rfl
  have t29 : w9.cell? ⟨w.heap.size, 29, none⟩ = some (.int .i64 wz) := (blk_cell T0.out 29).trans rfl
  have l7b : C7 < C8 := L78.out
  have lTb : w.heap.size < C8 := LT8.out
  have l8 : C8 ≤ w9.heap.size := Nat.le_of_lt (blk_lt C8b.out)
  have HB := Lib.hid ((Below.refl (C8) w9).drew)
  have HA := Lib.hid (show w9.drew.heap[C8]? = _ from C8b.out)
  have FF := Lib.hid (show ∀ V, Hid (Below (C8) w9 V) → V.cell? ⟨C7, 0, none⟩ = some (.int .i64 Px) ∧ V.cell? ⟨C7, 1, none⟩ = some (.int .i64 Py) ∧ V.cell? ⟨C7, 2, none⟩ = some (.int .i64 Pz) ∧ V.cell? ⟨w.heap.size, 27, none⟩ = some (.int .i64 wx) ∧ V.cell? ⟨w.heap.size, 28, none⟩ = some (.int .i64 wy) ∧ V.cell? ⟨w.heap.size, 29, none⟩ = some (.int .i64 wz) from fun V HB => ⟨(HB.out.cell (p := ⟨C7, 0, none⟩) (l7b)).trans x0, (HB.out.cell (p := ⟨C7, 1, none⟩) (l7b)).trans x1, (HB.out.cell (p := ⟨C7, 2, none⟩) (l7b)).trans x2, (HB.out.cell (p := ⟨w.heap.size, 27, none⟩) (lTb)).trans t27, (HB.out.cell (p := ⟨w.heap.size, 28, none⟩) (lTb)).trans t28, (HB.out.cell (p := ⟨w.heap.size, 29, none⟩) (lTb)).trans t29⟩)
  refine start_ (n := 42) (S := fun w' => w'.cell? ⟨C7, 0, none⟩ = some (.int .i64 Px) ∧ w'.cell? ⟨C7, 1, none⟩ = some (.int .i64 Py) ∧ w'.cell? ⟨C7, 2, none⟩ = some (.int .i64 Pz) ∧ w'.cell? ⟨w.heap.size, 27, none⟩ = some (.int .i64 wx) ∧ w'.cell? ⟨w.heap.size, 28, none⟩ = some (.int .i64 wy) ∧ w'.cell? ⟨w.heap.size, 29, none⟩ = some (.int .i64 wz)) (ds := []) (MT 0 42) (by kernel_rfl) rfl rfl (FF.out _ HB) (fun hHeld => ?_)
  obtain ⟨wd, hwd⟩ : ∃ x, w9.drew = x := ⟨_, rfl⟩
  rw [hwd] at HB hHeld HA ⊢
  clear hwd
  refine pu_ 0 34 (h := ?_)
  refine pu_ 1 35 (h := ?_)
  refine pu_ 3 37 (h := ?_)
  refine pu_ 4 38 (h := ?_)
  refine pu_ 6 40 (h := ?_)
  refine pu_ 7 41 (h := ?_)
  refine pu_ 9 43 (h := ?_)
  refine pu_ 13 47 (h := ?_)
  refine pu_ 14 48 (h := ?_)
  refine pu_ 16 50 (h := ?_)
  refine pu_ 17 51 (h := ?_)
  refine pu_ 19 53 (h := ?_)
  refine pu_ 20 54 (h := ?_)
  refine pu_ 22 56 (h := ?_)
  refine pu_ 26 60 (h := ?_)
  refine pu_ 27 61 (h := ?_)
  refine pu_ 29 63 (h := ?_)
  refine pu_ 30 64 (h := ?_)
  refine pu_ 32 66 (h := ?_)
  refine pu_ 33 67 (h := ?_)
  refine pu_ 35 69 (h := ?_)
  refine ta_ 2 36 hHeld (h := ?_)
  refine ta_ 5 39 hHeld (h := ?_)
  refine ta_ 15 49 hHeld (h := ?_)
  refine ta_ 18 52 hHeld (h := ?_)
  refine ta_ 28 62 hHeld (h := ?_)
  refine ta_ 31 65 hHeld (h := ?_)
  refine on_ 8 (some 42) (h := fun K hK => ?_)
  refine goes_ Try.func22 (by kernel_rfl) rfl #[.int .i64 wx, .int .i64 (wrap64 mm)] (by rfl) rfl rfl (by simp only [List.map_toArray, List.map_cons, List.map_nil]; rfl) ?_
  with_reducible refine (HWX.out _).mono ?_
  rintro e' w4x ⟨rfl, rfl⟩
  refine ⟨_, rfl, ?_⟩
  refine hK.out _ _ (FF.out _ HB) (fun hHeld => ?_)
  clear hK K
  refine no_ (h := ?_)
  refine pu_ 10 44 (h := ?_)
  refine pu_ 11 45 (h := ?_)
  refine pu_ 12 46 (h := ?_)
  refine on_ 21 (some 55) (h := fun K hK => ?_)
  refine goes_ Try.func22 (by kernel_rfl) rfl #[.int .i64 wy, .int .i64 (wrap64 mm)] (by rfl) rfl rfl (by simp only [List.map_toArray, List.map_cons, List.map_nil]; rfl) ?_
  with_reducible refine (HWY.out _).mono ?_
  rintro e' w4x ⟨rfl, rfl⟩
  refine ⟨_, rfl, ?_⟩
  refine hK.out _ _ (FF.out _ HB) (fun hHeld => ?_)
  clear hK K
  refine no_ (h := ?_)
  refine pu_ 23 57 (h := ?_)
  refine pu_ 24 58 (h := ?_)
  refine pu_ 25 59 (h := ?_)
  refine on_ 34 (some 68) (h := fun K hK => ?_)
  refine goes_ Try.func22 (by kernel_rfl) rfl #[.int .i64 wz, .int .i64 (wrap64 mm)] (by rfl) rfl rfl (by simp only [List.map_toArray, List.map_cons, List.map_nil]; rfl) ?_
  with_reducible refine (HWZ.out _).mono ?_
  rintro e' w4x ⟨rfl, rfl⟩
  refine ⟨_, rfl, ?_⟩
  refine hK.out _ _ (FF.out _ HB) (fun hHeld => ?_)
  clear hK K
  refine no_ (h := ?_)
  refine pu_ 36 70 (h := ?_)
  refine pu_ 37 71 (h := ?_)
  refine pu_ 38 72 (h := ?_)
  refine pu_ 39 73 (h := ?_)
  refine pu_ 40 74 (h := ?_)
  refine on_ 41 (none) (h := fun K hK => ?_)
  have sc0 : World.cell? _ ⟨C8, 0, none⟩ = some (.int .i64 Qx) := (blk_cell HA.out 0).trans rfl
  have sf0 := blk_frozen HA.out 0
  have sc1 : World.cell? _ ⟨C8, 1, none⟩ = some (.int .i64 Qy) := (blk_cell HA.out 1).trans rfl
  have sf1 := blk_frozen HA.out 1
  have sc2 : World.cell? _ ⟨C8, 2, none⟩ = some (.int .i64 Qz) := (blk_cell HA.out 2).trans rfl
  have sf2 := blk_frozen HA.out 2
  refine skip_ (w1 := ?_) (by rfl) rfl ?_ ?_
  rotate_left
  · go_simp
    rfl
  have HA := Lib.hid (blk7m HA.out (.int .i64 sx) (.int .i64 sy) (.int .i64 sz))
  have HB := Lib.hid (((HB.out.setCell (p := ⟨C8, 0, none⟩) (Nat.le_refl _) (.int .i64 sx)).setCell (p := ⟨C8, 1, none⟩) (Nat.le_refl _) (.int .i64 sy)).setCell (p := ⟨C8, 2, none⟩) (Nat.le_refl _) (.int .i64 sz))
  clear sc0 sc1 sc2 sf0 sf1 sf2
  refine hK.out _ _ (FF.out _ HB) (fun hHeld => ?_)
  clear hK K
  refine done_ (by kernel_rfl) ?_
  obtain ⟨wB, hwn⟩ : ∃ V, (((w4x.setCell ⟨C8, 0, none⟩ (.int .i64 sx)).setCell ⟨C8, 1, none⟩ (.int .i64 sy)).setCell ⟨C8, 2, none⟩ (.int .i64 sz)) = V := ⟨_, rfl⟩
  rw [hwn] at HA HB ⊢
  clear hwn hHeld
  have tot := Lib.hid (bc8.out.trans (HB.out.mono (Nat.le_of_eq hC8_.out)))
  have HC1 := Lib.hid (HC18.out.below tot.out)
  have G0 := Lib.hid (G08.out.below tot.out)
  have G1 := Lib.hid (G18.out.below tot.out)
  have G2 := Lib.hid (G28.out.below tot.out)
  have R1 := Lib.hid ((HB.out.block _ LR1.out).trans R1.out)
  have R2 := Lib.hid ((HB.out.block _ LR2.out).trans R2.out)
  have C4b := Lib.hid ((HB.out.block _ L48.out).trans C4b.out)
  have C5b := Lib.hid ((HB.out.block _ L58.out).trans C5b.out)
  have W := Lib.hid (W.out.trans (HB.out.mono (show w.heap.size ≤ C8 from Nat.le_of_lt LT8.out)))
  have l5 : C5 < wB.heap.size := blk_lt C5b.out
  have l8_ : C8 < wB.heap.size := blk_lt HA.out
  clear x0 x1 x2 t27 t28 t29 lT l7 l7b lTb l8 wnn wmm wux wuy wuz wvx wvy wvz wsx wsy wsz hux huy huz hvx hvy hvz hsx hsy hsz hnn hmm
  have x0 : wB.cell? ⟨C5, 0, none⟩ = some (.slice E0 NP f0) := (blk_cell C5b.out 0).trans rfl
  have x1 : wB.cell? ⟨C5, 1, none⟩ = some (.slice E1 NA f1) := (blk_cell C5b.out 1).trans rfl
  have x2 : wB.cell? ⟨C5, 2, none⟩ = some (.slice E2 NE f2) := (blk_cell C5b.out 2).trans rfl
  have x3 : wB.cell? ⟨C5, 3, none⟩ = some (.int .i64 ra) := (blk_cell C5b.out 3).trans rfl
  have y0 : wB.cell? ⟨C8, 0, none⟩ = some (.int .i64 sx) := (blk_cell HA.out 0).trans rfl
  have y1 : wB.cell? ⟨C8, 1, none⟩ = some (.int .i64 sy) := (blk_cell HA.out 1).trans rfl
  have y2 : wB.cell? ⟨C8, 2, none⟩ = some (.int .i64 sz) := (blk_cell HA.out 2).trans rfl
  have y3 : wB.cell? ⟨C8, 3, none⟩ = some (.int .i64 Qw) := (blk_cell HA.out 3).trans rfl
  have y4 : wB.cell? ⟨C8, 4, none⟩ = some (.int .i64 Qi) := (blk_cell HA.out 4).trans rfl
  have y5 : wB.cell? ⟨C8, 5, none⟩ = some (.int .i64 Qj) := (blk_cell HA.out 5).trans rfl
  have y6 : wB.cell? ⟨C8, 6, none⟩ = some (.int .i64 Qk_) := (blk_cell HA.out 6).trans rfl
  go_wp2_with fail
  refine (HPL.out ⟨sx, sy, sz⟩ HAT.out wB G0.out G1.out G2.out).mono ?_
  rintro e wC ⟨v2, rfl, hv2, hb, hfb⟩
  have HFB := Lib.hid (hfb.mono W.out.size)
  clear hfb
  have R1 := Lib.hid ((hb.block _ (blk_lt R1.out)).trans R1.out)
  have R2 := Lib.hid ((hb.block _ (blk_lt R2.out)).trans R2.out)
  have C4b := Lib.hid ((hb.block _ (blk_lt C4b.out)).trans C4b.out)
  have W := Lib.hid (bthen W.out hb)
  have HC1 := Lib.hid (HC1.out.below hb)
  have HC2 : Hid (CoreAt s2 ⟨NF, ⟨Qw, Qi, Qj, Qk_⟩⟩ wC v2) := Lib.hid ⟨p2, a2, e2, HCI.out, by rw [HRA.out, ← HNF2.out]; exact hv2⟩
  obtain ⟨B3, B4, B5, d3, d4, d5, hv2e, _⟩ := hv2.out
  obtain ⟨n3, hn3⟩ : ∃ n, (p2.map (placePt (rowsF (⟨Qw, Qi, Qj, Qk_⟩ : Q4)) (⟨sx, sy, sz⟩ : P3))).length = n := ⟨_, rfl⟩
  obtain ⟨n4, hn4⟩ : ∃ n, (waysF (rowsF (⟨Qw, Qi, Qj, Qk_⟩ : Q4)) a2).length = n := ⟨_, rfl⟩
  obtain ⟨n5, hn5⟩ : ∃ n, (waysF (rowsF (⟨Qw, Qi, Qj, Qk_⟩ : Q4)) e2).length = n := ⟨_, rfl⟩
  (try simp only at hv2e)
  rw [hn3, hn4, hn5] at hv2e
  subst hv2e
  clear hn3 hn4 hn5 hv2 hb x0 x1 x2 x3 y0 y1 y2 y3 y4 y5 y6 l5 l8_
  have N101 := Lib.hid (blk_lt R1.out)
  obtain ⟨C10, hC10⟩ : ∃ g, wC.heap.size = g := ⟨_, rfl⟩
  have zc := heap_alloc_new wC (.cells #[.slice B3 n3 d3, .slice B4 n4 d4, .slice B5 n5 d5, .int .i64 ra] 36)
  have bc := (Below.refl wC.heap.size wC).alloc (Nat.le_refl _) (.cells #[.slice B3 n3 d3, .slice B4 n4 d4, .slice B5 n5 d5, .int .i64 ra] 36)
  obtain ⟨wD, hw⟩ : ∃ V, wC.alloc (.cells #[.slice B3 n3 d3, .slice B4 n4 d4, .slice B5 n5 d5, .int .i64 ra] 36) = V := ⟨_, rfl⟩
  rw [hw] at zc bc
  rw [hC10] at zc
  have C10b := Lib.hid zc
  have R1 := Lib.hid ((bc.block _ (blk_lt R1.out)).trans R1.out)
  have R2 := Lib.hid ((bc.block _ (blk_lt R2.out)).trans R2.out)
  have C4b := Lib.hid ((bc.block _ (blk_lt C4b.out)).trans C4b.out)
  have W := Lib.hid (bthen W.out bc)
  have HC1 := Lib.hid (HC1.out.below bc)
  have HC2 := Lib.hid (HC2.out.below bc)
  have hw_wD := Lib.hid hw
  have hC10_ := Lib.hid hC10
  clear zc bc hw hC10
  rw [hC10_.out] at N101
  go_wp2_with fail
  rw [hw_wD.out, hC10_.out]
  have l4 : C4 < wD.heap.size := blk_lt C4b.out
  have l10 : C10 < wD.heap.size := blk_lt C10b.out
  have x0 : wD.cell? ⟨C4, 0, none⟩ = some (.slice B0 n0 d0) := (blk_cell C4b.out 0).trans rfl
  have x1 : wD.cell? ⟨C4, 1, none⟩ = some (.slice B1 n1 d1) := (blk_cell C4b.out 1).trans rfl
  have x2 : wD.cell? ⟨C4, 2, none⟩ = some (.slice B2 n2 d2) := (blk_cell C4b.out 2).trans rfl
  have x3 : wD.cell? ⟨C4, 3, none⟩ = some (.int .i64 ra1) := (blk_cell C4b.out 3).trans rfl
  have y0 : wD.cell? ⟨C10, 0, none⟩ = some (.slice B3 n3 d3) := (blk_cell C10b.out 0).trans rfl
  have y1 : wD.cell? ⟨C10, 1, none⟩ = some (.slice B4 n4 d4) := (blk_cell C10b.out 1).trans rfl
  have y2 : wD.cell? ⟨C10, 2, none⟩ = some (.slice B5 n5 d5) := (blk_cell C10b.out 2).trans rfl
  have y3 : wD.cell? ⟨C10, 3, none⟩ = some (.int .i64 ra) := (blk_cell C10b.out 3).trans rfl
  have HB := Lib.hid ((Below.refl (wD.heap.size) wD).drew)
  have Q1 := Lib.hid (show wD.drew.heap[w.heap.size + 1]? = _ from R1.out)
  have Q2 := Lib.hid (show wD.drew.heap[w.heap.size + 1 + 1]? = _ from R2.out)
  have P4 := Lib.hid (show wD.drew.heap[C4]? = _ from C4b.out)
  have P10 := Lib.hid (show wD.drew.heap[C10]? = _ from C10b.out)
  refine start_ (n := 4) (S := fun w' => w'.cell? ⟨C4, 0, none⟩ = some (.slice B0 n0 d0) ∧ w'.cell? ⟨C4, 1, none⟩ = some (.slice B1 n1 d1) ∧ w'.cell? ⟨C4, 2, none⟩ = some (.slice B2 n2 d2) ∧ w'.cell? ⟨C4, 3, none⟩ = some (.int .i64 ra1) ∧ w'.cell? ⟨C10, 0, none⟩ = some (.slice B3 n3 d3) ∧ w'.cell? ⟨C10, 1, none⟩ = some (.slice B4 n4 d4) ∧ w'.cell? ⟨C10, 2, none⟩ = some (.slice B5 n5 d5) ∧ w'.cell? ⟨C10, 3, none⟩ = some (.int .i64 ra)) (ds := [3]) (MT 0 4) (by kernel_rfl) rfl rfl ⟨(HB.out.cell (p := ⟨C4, 0, none⟩) (l4)).trans x0, (HB.out.cell (p := ⟨C4, 1, none⟩) (l4)).trans x1, (HB.out.cell (p := ⟨C4, 2, none⟩) (l4)).trans x2, (HB.out.cell (p := ⟨C4, 3, none⟩) (l4)).trans x3, (HB.out.cell (p := ⟨C10, 0, none⟩) (l10)).trans y0, (HB.out.cell (p := ⟨C10, 1, none⟩) (l10)).trans y1, (HB.out.cell (p := ⟨C10, 2, none⟩) (l10)).trans y2, (HB.out.cell (p := ⟨C10, 3, none⟩) (l10)).trans y3⟩ (fun hHeld => ?_)
  obtain ⟨wd, hwd⟩ : ∃ x, wD.drew = x := ⟨_, rfl⟩
  rw [hwd] at HB hHeld Q1 Q2 P4 P10 ⊢
  clear hwd
  refine ta_ 0 81 hHeld (h := ?_)
  refine ta_ 1 82 hHeld (h := ?_)
  refine on_ 2 (none) (h := fun K hK => ?_)
  have sc0 : World.cell? _ ⟨w.heap.size + 1, 0, none⟩ = some (.slice none 0 0) := (blk_cell Q1.out 0).trans rfl
  have sf0 := blk_frozen Q1.out 0
  have sc1 : World.cell? _ ⟨w.heap.size + 1, 1, none⟩ = some (.slice none 0 0) := (blk_cell Q1.out 1).trans rfl
  have sf1 := blk_frozen Q1.out 1
  have sc2 : World.cell? _ ⟨w.heap.size + 1, 2, none⟩ = some (.slice none 0 0) := (blk_cell Q1.out 2).trans rfl
  have sf2 := blk_frozen Q1.out 2
  have sc3 : World.cell? _ ⟨w.heap.size + 1, 3, none⟩ = some (.int .i64 0) := (blk_cell Q1.out 3).trans rfl
  have sf3 := blk_frozen Q1.out 3
  refine skip_ (w1 := ?_) (by rfl) rfl ?_ ?_
  rotate_left
  · go_simp
    rfl
  clear sc0 sc1 sc2 sc3 sf0 sf1 sf2 sf3
  have Q2 := Lib.hid ((other4 (show w.heap.size + 1 + 1 ≠ w.heap.size + 1 by omega) (.slice B0 n0 d0) (.slice B1 n1 d1) (.slice B2 n2 d2) (.int .i64 ra1)).trans Q2.out)
  have P4 := Lib.hid ((other4 (show C4 ≠ w.heap.size + 1 by have := N41.out; omega) (.slice B0 n0 d0) (.slice B1 n1 d1) (.slice B2 n2 d2) (.int .i64 ra1)).trans P4.out)
  have P10 := Lib.hid ((other4 (show C10 ≠ w.heap.size + 1 by have := N101.out; omega) (.slice B0 n0 d0) (.slice B1 n1 d1) (.slice B2 n2 d2) (.int .i64 ra1)).trans P10.out)
  refine hK.out _ _ ⟨(blk_cell P4.out 0).trans rfl, (blk_cell P4.out 1).trans rfl, (blk_cell P4.out 2).trans rfl, (blk_cell P4.out 3).trans rfl, (blk_cell P10.out 0).trans rfl, (blk_cell P10.out 1).trans rfl, (blk_cell P10.out 2).trans rfl, (blk_cell P10.out 3).trans rfl⟩ (fun hHeld => ?_)
  clear hK K
  refine last_ (i := 3) (N := none) (MT 4 0) rfl rfl (by kernel_rfl) (by decide) (fun K hK => ?_)
  have sc0 : World.cell? _ ⟨w.heap.size + 1 + 1, 0, none⟩ = some (.slice none 0 0) := (blk_cell Q2.out 0).trans rfl
  have sf0 := blk_frozen Q2.out 0
  have sc1 : World.cell? _ ⟨w.heap.size + 1 + 1, 1, none⟩ = some (.slice none 0 0) := (blk_cell Q2.out 1).trans rfl
  have sf1 := blk_frozen Q2.out 1
  have sc2 : World.cell? _ ⟨w.heap.size + 1 + 1, 2, none⟩ = some (.slice none 0 0) := (blk_cell Q2.out 2).trans rfl
  have sf2 := blk_frozen Q2.out 2
  have sc3 : World.cell? _ ⟨w.heap.size + 1 + 1, 3, none⟩ = some (.int .i64 0) := (blk_cell Q2.out 3).trans rfl
  have sf3 := blk_frozen Q2.out 3
  refine skip_ (w1 := ?_) (by rfl) rfl ?_ ?_
  rotate_left
  · go_simp
    rfl
  clear sc0 sc1 sc2 sc3 sf0 sf1 sf2 sf3
  refine hK.out _ _ ?_
  clear hK K
  refine done_ (by kernel_rfl) ?_
  have Z1 := (HB.out.block _ (blk_lt R1.out)).trans R1.out
  have Z2 := (HB.out.block _ (blk_lt R2.out)).trans R2.out
  have A1_ := (HC1.out.below HB.out).setS Z1 (.slice B0 n0 d0) (.slice B1 n1 d1) (.slice B2 n2 d2) (.int .i64 ra1)
  have A2_ := (HC2.out.below HB.out).setS Z1 (.slice B0 n0 d0) (.slice B1 n1 d1) (.slice B2 n2 d2) (.int .i64 ra1)
  have WE := bb4 (W.out.trans (HB.out.mono (show w.heap.size ≤ wD.heap.size from W.out.size))) (show w.heap.size ≤ w.heap.size + 1 by omega) (.slice B0 n0 d0) (.slice B1 n1 d1) (.slice B2 n2 d2) (.int .i64 ra1)
  have Z3 := bs4 Z1 (.slice B0 n0 d0) (.slice B1 n1 d1) (.slice B2 n2 d2) (.int .i64 ra1)
  have Z4 := (other4 (show w.heap.size + 1 + 1 ≠ w.heap.size + 1 by omega) (.slice B0 n0 d0) (.slice B1 n1 d1) (.slice B2 n2 d2) (.int .i64 ra1)).trans Z2
  obtain ⟨wE, hwE⟩ : ∃ V, ((((wd.setCell ⟨w.heap.size + 1, 0, none⟩ (.slice B0 n0 d0)).setCell ⟨w.heap.size + 1, 1, none⟩ (.slice B1 n1 d1)).setCell ⟨w.heap.size + 1, 2, none⟩ (.slice B2 n2 d2)).setCell ⟨w.heap.size + 1, 3, none⟩ (.int .i64 ra1)) = V := ⟨_, rfl⟩
  rw [hwE] at A1_ A2_ WE Z3 Z4 ⊢
  have A3_ := A1_.setS Z4 (.slice B3 n3 d3) (.slice B4 n4 d4) (.slice B5 n5 d5) (.int .i64 ra)
  have A4_ := A2_.setS Z4 (.slice B3 n3 d3) (.slice B4 n4 d4) (.slice B5 n5 d5) (.int .i64 ra)
  have WF := bb4 WE (show w.heap.size ≤ w.heap.size + 1 + 1 by omega) (.slice B3 n3 d3) (.slice B4 n4 d4) (.slice B5 n5 d5) (.int .i64 ra)
  have Z5 := (other4 (show w.heap.size + 1 ≠ w.heap.size + 1 + 1 by omega) (.slice B3 n3 d3) (.slice B4 n4 d4) (.slice B5 n5 d5) (.int .i64 ra)).trans Z3
  have Z6 := bs4 Z4 (.slice B3 n3 d3) (.slice B4 n4 d4) (.slice B5 n5 d5) (.int .i64 ra)
  obtain ⟨wF, hwF⟩ : ∃ V, ((((wE.setCell ⟨w.heap.size + 1 + 1, 0, none⟩ (.slice B3 n3 d3)).setCell ⟨w.heap.size + 1 + 1, 1, none⟩ (.slice B4 n4 d4)).setCell ⟨w.heap.size + 1 + 1, 2, none⟩ (.slice B5 n5 d5)).setCell ⟨w.heap.size + 1 + 1, 3, none⟩ (.int .i64 ra)) = V := ⟨_, rfl⟩
  rw [hwF] at A3_ A4_ WF Z5 Z6 ⊢
  have r0 : wF.cell? ⟨w.heap.size + 1, 0, none⟩ = some (.slice B0 n0 d0) := (blk_cell Z5 0).trans rfl
  have r1 : wF.cell? ⟨w.heap.size + 1, 1, none⟩ = some (.slice B1 n1 d1) := (blk_cell Z5 1).trans rfl
  have r2 : wF.cell? ⟨w.heap.size + 1, 2, none⟩ = some (.slice B2 n2 d2) := (blk_cell Z5 2).trans rfl
  have r3 : wF.cell? ⟨w.heap.size + 1, 3, none⟩ = some (.int .i64 ra1) := (blk_cell Z5 3).trans rfl
  have q0 : wF.cell? ⟨w.heap.size + 1 + 1, 0, none⟩ = some (.slice B3 n3 d3) := (blk_cell Z6 0).trans rfl
  have q1 : wF.cell? ⟨w.heap.size + 1 + 1, 1, none⟩ = some (.slice B4 n4 d4) := (blk_cell Z6 1).trans rfl
  have q2 : wF.cell? ⟨w.heap.size + 1 + 1, 2, none⟩ = some (.slice B5 n5 d5) := (blk_cell Z6 2).trans rfl
  have q3 : wF.cell? ⟨w.heap.size + 1 + 1, 3, none⟩ = some (.int .i64 ra) := (blk_cell Z6 3).trans rfl
  have hA3 := Lib.hid A3_
  have hA4 := Lib.hid A4_
  have hWF := Lib.hid WF
  clear Z1 Z2 Z3 Z4 Z5 Z6 A1_ A2_ WE A3_ A4_ WF hwE hwF
  go_wp2
  exact bodyPost_ret (v := .tuple #[.agg #[.slice B0 n0 d0, .slice B1 n1 d1, .slice B2 n2 d2, .int .i64 ra1], .agg #[.slice B3 n3 d3, .slice B4 n4 d4, .slice B5 n5 d5, .int .i64 ra]]) (by simp [results, Try.results19, go_sem, r0, r1, r2, r3, q0, q1, q2, q3]) rfl ⟨_, _, rfl, hA3.out, hA4.out, hWF.out, HFA.out, HFB.out⟩
theorem cores_calls (k1 r1 : Int) (h1 : P3) (l1 : List P3) (A1 : Option Addr) (c1 : Nat) (k2 r2 : Int) (h2 : P3) (l2 : List P3) (A2 : Option Addr) (c2 : Nat) (p q : P7) (near : Int) (way : P3) (w : World)
    (hA1 : RdB w A1 l1) (hr1 : RawOk k1 r1 h1 l1) (hA2 : RdB w A2 l2) (hr2 : RawOk k2 r2 h2 l2) (hp : i64s p) (hq : i64s q) (hne : i64 near) (hwa : pI64 way) :
    Calls Try.prog 19 #[.agg (cTwo k1 r1 h1 A1 l1.length c1 k2 r2 h2 A2 l2.length c2 p q near way)] w (CoresPost (rightS k1 r1 h1 l1) (rightS k2 r2 h2 l2) (rightPose p) ⟨nearF near way (rightPose p).at_, (rightPose q).turn⟩ w) :=
  (cores_calls2 k1 r1 h1 l1 A1 c1 k2 r2 h2 l2 A2 c2 p q near way w hA1 hr1 hA2 hr2 hp hq hne hwa).mono fun en w' ⟨va, vb, e1, e2, e3, e4, _⟩ => ⟨va, vb, e1, e2, e3, e4⟩
end Go.Proofs.Ytckdhahceelckaa.G
set_option maxRecDepth 100000
namespace Go.Proofs.Ytckdhahceelckaa.G
open Go.ChangeShapes Go.WideShapes Go.RowKit
set_option linter.unusedVariables false
set_option linter.unusedSimpArgs false
theorem cell_num {w : World} {r : Reach} {base : Nat} {v : Value} (h : Cell.okWide Try.prog w r base 3 v) : ∃ n, v = .int .i64 n ∧ i64 n := by
  simp only [Cell.okWide, Try.underlying3] at h
  cases v <;> simp_all [Cell.ok, Try.underlying3]
  obtain ⟨h1, h2⟩ := h.2
  exact ⟨h1, h2⟩
theorem cell_pts {w : World} {r : Reach} {base : Nat} {v : Value} (h : Cell.okWide Try.prog w r base 24 v) : ∃ A n c, v = .slice A n c ∧ ∀ a, A = some a → a.spot = none ∧ a.block < w.heap.size := by
  simp only [Cell.okWide, Try.underlying24] at h
  cases v with
  | slice A n c =>
    refine ⟨A, n, c, rfl, fun a e => ?_⟩
    subst e
    simp only [Cell.ok, Try.underlying24] at h
    obtain ⟨_, _, _, hs, row, cells, hsh, _⟩ := h
    refine ⟨hs, ?_⟩
    unfold World.shape? at hsh
    rcases Nat.lt_or_ge a.block w.heap.size with h' | h'
    · exact h'
    · rw [Array.getElem?_eq_none h'] at hsh; cases hsh
  | _ => simp [Cell.ok, Try.underlying24] at h
theorem list_of {α : Type} {Q : Nat → α → Prop} : ∀ (n : Nat), (∀ i, i < n → ∃ p, Q i p) → ∃ l : List α, l.length = n ∧ ∀ i p, l[i]? = some p → Q i p
  | 0, _ => ⟨[], rfl, fun i p h => by simp at h⟩
  | n + 1, H => by
    obtain ⟨l, hl, hq⟩ := list_of n fun i hi => H i (by omega)
    obtain ⟨p, hp⟩ := H n (by omega)
    refine ⟨l ++ [p], by simp [hl], fun i q h => ?_⟩
    rcases Nat.lt_or_ge i l.length with h' | h'
    · rw [List.getElem?_append_left h'] at h
      exact hq i q h
    · rw [List.getElem?_append_right h'] at h
      have : i - l.length = 0 := by
        rcases Nat.eq_zero_or_pos (i - l.length) with e | e
        · exact e
        · rw [List.getElem?_eq_none (by simp; omega)] at h; cases h
      rw [this] at h
      simp at h
      subst h
      have : i = n := by omega
      rwa [this]
section
variable {H : Type} {enc : TypeId × Value → H} {W : World} {base : Nat} {spare : Nat → Bool} {held : Bool}
set_option maxRecDepth 100000 in
/-- a slice of points that reads, read -/
theorem open_pts {fuel : Nat} {A : Option Addr} {n c : Nat} {y : DataW H × List MemPlace} (hA : ∀ a, A = some a → a.spot = none ∧ a.block < W.heap.size)
    (h : DataW.trod enc Try.prog W base spare held fuel 24 [.slice A n c] = some y) (hw : ∀ k ∈ y.1.weights Try.prog 24, k ≤ reachBytes) :
    ∃ l : List P3, l.length = n ∧ RdB W A l ∧ (∀ p ∈ l, pI64 p) ∧ l.length ≤ 4611686018427387904 := by
  rcases Go.Deep.open_slice Try.underlying24 h with ⟨e, _⟩ | ⟨a, len, cap, m, k, D, Pl, e, hb, hl, hc, hm, hx, hf⟩
  · simp only [List.cons.injEq, Value.slice.injEq, and_true] at e
    obtain ⟨rfl, rfl, rfl⟩ := e
    exact ⟨[], rfl, RdB.nil W, by simp, by simp⟩
  · simp only [List.cons.injEq, Value.slice.injEq, and_true] at e
    obtain ⟨rfl, rfl, rfl⟩ := e
    obtain ⟨hs, hlt⟩ := hA a rfl
    obtain ⟨b, o, s⟩ := a
    simp only at hs hlt
    subst hs
    have hlen : n ≤ 4611686018427387904 := by
      rw [hx] at hw
      have := hw _ (by rw [DataW.weights, Try.underlying24]; exact List.mem_cons_self)
      have hbs : Try.prog.bytesOf 23 = 24 := by kernel_rfl
      rw [hbs] at this
      simp [reachBytes] at this
      omega
    have hcells : Try.prog.cellsOf 23 = 3 := by kernel_rfl
    have each : ∀ i, i < n → ∃ p : P3, pI64 p ∧ W.cell? ⟨b, o + i * 3, none⟩ = some (.int .i64 p.x) ∧ W.cell? ⟨b, o + i * 3 + 1, none⟩ = some (.int .i64 p.y) ∧ W.cell? ⟨b, o + i * 3 + 2, none⟩ = some (.int .i64 p.z) := by
      intro i hi
      have him : i < m := by
        rw [hm]; split <;> omega
      obtain ⟨cs', h1, h2⟩ := hf i him
      rw [hcells] at h1
      obtain ⟨_, hl3, hg⟩ := World.cells?_some h1
      have ea : (⟨b, o, none⟩ : Addr).add (i * 3) = ⟨b, o + i * 3, none⟩ := by
        unfold Addr.add
        split
        · rename_i h0; rw [h0]; rfl
        · rfl
      rw [ea] at hg
      obtain ⟨v0, v1, v2, rfl⟩ : ∃ v0 v1 v2, cs' = [v0, v1, v2] := by
        match cs', hl3 with
        | [v0, v1, v2], _ => exact ⟨v0, v1, v2, rfl⟩
      obtain ⟨y0, y1, y2, n', _, _, t0, t1, t2⟩ := Go.Deep.trod_struct3 Try.underlying23 h2
      obtain ⟨x, hx', _, wx⟩ := DataW.trod_int (k := .i64) Try.underlying3 t0
      obtain ⟨y, hy', _, wy⟩ := DataW.trod_int (k := .i64) Try.underlying3 t1
      obtain ⟨z, hz', _, wz⟩ := DataW.trod_int (k := .i64) Try.underlying3 t2
      have k3 : Try.prog.cellsOf 3 = 1 := by kernel_rfl
      simp [k3] at hx' hy' hz'
      subst hx' hy' hz'
      exact ⟨⟨x, y, z⟩, ⟨i64_of_wf wx, i64_of_wf wy, i64_of_wf wz⟩, hg 0 (by decide), hg 1 (by decide), hg 2 (by decide)⟩
    obtain ⟨l, hll, hq⟩ := list_of n each
    refine ⟨l, hll, ⟨fun i p hp => ⟨b, o, rfl, hlt, (hq i p hp).2⟩, fun ad e => by cases e; exact hlt⟩, fun p hp => ?_, by omega⟩
    obtain ⟨i, hi⟩ := List.getElem?_of_mem hp
    exact (hq i p hi).1
theorem array30 {α : Type} {cs : Array α} (h : cs.size = 30) : ∃ c0 c1 c2 c3 c4 c5 c6 c7 c8 c9 c10 c11 c12 c13 c14 c15 c16 c17 c18 c19 c20 c21 c22 c23 c24 c25 c26 c27 c28 c29, cs = #[c0, c1, c2, c3, c4, c5, c6, c7, c8, c9, c10, c11, c12, c13, c14, c15, c16, c17, c18, c19, c20, c21, c22, c23, c24, c25, c26, c27, c28, c29] := by
  obtain ⟨l⟩ := cs
  match l, h with
  | [c0, c1, c2, c3, c4, c5, c6, c7, c8, c9, c10, c11, c12, c13, c14, c15, c16, c17, c18, c19, c20, c21, c22, c23, c24, c25, c26, c27, c28, c29], _ => exact ⟨c0, c1, c2, c3, c4, c5, c6, c7, c8, c9, c10, c11, c12, c13, c14, c15, c16, c17, c18, c19, c20, c21, c22, c23, c24, c25, c26, c27, c28, c29, rfl⟩
set_option maxRecDepth 100000 in
theorem types33 : Try.prog.cellTypes Try.prog.depth 33 = some [3, 3, 3, 3, 3, 24, 3, 3, 3, 3, 3, 24, 3, 3, 3, 3, 3, 3, 3, 3, 3, 3, 3, 3, 3, 3, 3, 3, 3, 3] := by kernel_rfl
set_option maxRecDepth 100000 in
set_option maxHeartbeats 4000000 in
theorem open_raw5 {fuel : Nat} {v0 v1 v2 v3 v4 v5 : Value} {y : DataW H × List MemPlace} (h : DataW.trod enc Try.prog W base spare held fuel 26 [v0, v1, v2, v3, v4, v5] = some y) (hw : ∀ k ∈ y.1.weights Try.prog 26, k ≤ reachBytes) :
    ∃ m y', DataW.trod enc Try.prog W base spare held m 24 [v5] = some y' ∧ ∀ k ∈ y'.1.weights Try.prog 24, k ≤ reachBytes := by
  obtain ⟨xs, n, _, rfl, _, hlen, hf⟩ := DataW.trod_struct Try.underlying26 h
  have h3 := hf 3 _ rfl
  have e : ((List.drop 5 [v0, v1, v2, v3, v4, v5]).take (Try.prog.cellsOf 24)) = [v5] := by
    have : Try.prog.cellsOf 24 = 1 := by kernel_rfl
    rw [this]; rfl
  obtain ⟨y', hy'⟩ : ∃ y', xs[3]? = some y' := ⟨_, List.getElem?_eq_getElem (by rw [hlen]; decide)⟩
  rw [hy'] at h3
  refine ⟨n, y', (congrArg _ e.symm).trans h3, fun k hk => hw k ?_⟩
  rw [DataW.weights, Try.underlying26]
  exact DataW.weights_mem_each (j := 3) (t := 24) (d := y'.1) rfl (by rw [List.getElem?_map, hy']; rfl) k hk
set_option maxRecDepth 100000 in
set_option maxHeartbeats 8000000 in
theorem open_two {r : Reach} {b0 : Nat} {v : Value} {d : DataW H} {p : List MemPlace} (hval : Value.okWide Try.prog W r b0 33 v) (h : DataW.Trod enc Try.prog W base spare held 33 v d p) (hw : ∀ k ∈ d.weights Try.prog 33, k ≤ reachBytes) :
    ∃ k1 r1 h1 l1 A1 c1 k2 r2 h2 l2 A2 c2 p q near way, v = .agg (cTwo k1 r1 h1 A1 (List.length l1) c1 k2 r2 h2 A2 (List.length l2) c2 p q near way) ∧ RdB W A1 l1 ∧ RawOk k1 r1 h1 l1 ∧ RdB W A2 l2 ∧ RawOk k2 r2 h2 l2 ∧ i64s p ∧ i64s q ∧ i64 near ∧ pI64 way := by
  simp only [Value.okWide, Try.underlying33] at hval
  obtain ⟨cs, rfl, hsz, ts, hts, _, hc⟩ := hval
  have hC : Try.prog.cellsOf 33 = 30 := by kernel_rfl
  rw [types33] at hts
  cases hts
  obtain ⟨c0, c1, c2, c3, c4, c5, c6, c7, c8, c9, c10, c11, c12, c13, c14, c15, c16, c17, c18, c19, c20, c21, c22, c23, c24, c25, c26, c27, c28, c29, rfl⟩ := array30 (hsz.trans hC)
  obtain ⟨k1, rfl, ik1⟩ : ∃ n, c0 = .int .i64 n ∧ i64 n := by
    obtain ⟨u, hu, hk⟩ := hc 0 _ rfl
    cases hu
    exact cell_num hk
  obtain ⟨r1, rfl, ir1⟩ : ∃ n, c1 = .int .i64 n ∧ i64 n := by
    obtain ⟨u, hu, hk⟩ := hc 1 _ rfl
    cases hu
    exact cell_num hk
  obtain ⟨x1, rfl, ix1⟩ : ∃ n, c2 = .int .i64 n ∧ i64 n := by
    obtain ⟨u, hu, hk⟩ := hc 2 _ rfl
    cases hu
    exact cell_num hk
  obtain ⟨y1', rfl, iy1'⟩ : ∃ n, c3 = .int .i64 n ∧ i64 n := by
    obtain ⟨u, hu, hk⟩ := hc 3 _ rfl
    cases hu
    exact cell_num hk
  obtain ⟨z1', rfl, iz1'⟩ : ∃ n, c4 = .int .i64 n ∧ i64 n := by
    obtain ⟨u, hu, hk⟩ := hc 4 _ rfl
    cases hu
    exact cell_num hk
  obtain ⟨A1, n1, cap1, rfl, hA1⟩ : ∃ A n c, c5 = .slice A n c ∧ ∀ a, A = some a → a.spot = none ∧ a.block < W.heap.size := by
    obtain ⟨u, hu, hk⟩ := hc 5 _ rfl
    cases hu
    exact cell_pts hk
  obtain ⟨k2, rfl, ik2⟩ : ∃ n, c6 = .int .i64 n ∧ i64 n := by
    obtain ⟨u, hu, hk⟩ := hc 6 _ rfl
    cases hu
    exact cell_num hk
  obtain ⟨r2, rfl, ir2⟩ : ∃ n, c7 = .int .i64 n ∧ i64 n := by
    obtain ⟨u, hu, hk⟩ := hc 7 _ rfl
    cases hu
    exact cell_num hk
  obtain ⟨x2, rfl, ix2⟩ : ∃ n, c8 = .int .i64 n ∧ i64 n := by
    obtain ⟨u, hu, hk⟩ := hc 8 _ rfl
    cases hu
    exact cell_num hk
  obtain ⟨y2, rfl, iy2⟩ : ∃ n, c9 = .int .i64 n ∧ i64 n := by
    obtain ⟨u, hu, hk⟩ := hc 9 _ rfl
    cases hu
    exact cell_num hk
  obtain ⟨z2, rfl, iz2⟩ : ∃ n, c10 = .int .i64 n ∧ i64 n := by
    obtain ⟨u, hu, hk⟩ := hc 10 _ rfl
    cases hu
    exact cell_num hk
  obtain ⟨A2, n2, cap2, rfl, hA2⟩ : ∃ A n c, c11 = .slice A n c ∧ ∀ a, A = some a → a.spot = none ∧ a.block < W.heap.size := by
    obtain ⟨u, hu, hk⟩ := hc 11 _ rfl
    cases hu
    exact cell_pts hk
  obtain ⟨pa, rfl, ipa⟩ : ∃ n, c12 = .int .i64 n ∧ i64 n := by
    obtain ⟨u, hu, hk⟩ := hc 12 _ rfl
    cases hu
    exact cell_num hk
  obtain ⟨pb, rfl, ipb⟩ : ∃ n, c13 = .int .i64 n ∧ i64 n := by
    obtain ⟨u, hu, hk⟩ := hc 13 _ rfl
    cases hu
    exact cell_num hk
  obtain ⟨pd, rfl, ipd⟩ : ∃ n, c14 = .int .i64 n ∧ i64 n := by
    obtain ⟨u, hu, hk⟩ := hc 14 _ rfl
    cases hu
    exact cell_num hk
  obtain ⟨pw, rfl, ipw⟩ : ∃ n, c15 = .int .i64 n ∧ i64 n := by
    obtain ⟨u, hu, hk⟩ := hc 15 _ rfl
    cases hu
    exact cell_num hk
  obtain ⟨px, rfl, ipx⟩ : ∃ n, c16 = .int .i64 n ∧ i64 n := by
    obtain ⟨u, hu, hk⟩ := hc 16 _ rfl
    cases hu
    exact cell_num hk
  obtain ⟨py, rfl, ipy⟩ : ∃ n, c17 = .int .i64 n ∧ i64 n := by
    obtain ⟨u, hu, hk⟩ := hc 17 _ rfl
    cases hu
    exact cell_num hk
  obtain ⟨pz, rfl, ipz⟩ : ∃ n, c18 = .int .i64 n ∧ i64 n := by
    obtain ⟨u, hu, hk⟩ := hc 18 _ rfl
    cases hu
    exact cell_num hk
  obtain ⟨qa, rfl, iqa⟩ : ∃ n, c19 = .int .i64 n ∧ i64 n := by
    obtain ⟨u, hu, hk⟩ := hc 19 _ rfl
    cases hu
    exact cell_num hk
  obtain ⟨qb, rfl, iqb⟩ : ∃ n, c20 = .int .i64 n ∧ i64 n := by
    obtain ⟨u, hu, hk⟩ := hc 20 _ rfl
    cases hu
    exact cell_num hk
  obtain ⟨qc, rfl, iqc⟩ : ∃ n, c21 = .int .i64 n ∧ i64 n := by
    obtain ⟨u, hu, hk⟩ := hc 21 _ rfl
    cases hu
    exact cell_num hk
  obtain ⟨qw, rfl, iqw⟩ : ∃ n, c22 = .int .i64 n ∧ i64 n := by
    obtain ⟨u, hu, hk⟩ := hc 22 _ rfl
    cases hu
    exact cell_num hk
  obtain ⟨qx, rfl, iqx⟩ : ∃ n, c23 = .int .i64 n ∧ i64 n := by
    obtain ⟨u, hu, hk⟩ := hc 23 _ rfl
    cases hu
    exact cell_num hk
  obtain ⟨qy, rfl, iqy⟩ : ∃ n, c24 = .int .i64 n ∧ i64 n := by
    obtain ⟨u, hu, hk⟩ := hc 24 _ rfl
    cases hu
    exact cell_num hk
  obtain ⟨qz, rfl, iqz⟩ : ∃ n, c25 = .int .i64 n ∧ i64 n := by
    obtain ⟨u, hu, hk⟩ := hc 25 _ rfl
    cases hu
    exact cell_num hk
  obtain ⟨ne, rfl, ine⟩ : ∃ n, c26 = .int .i64 n ∧ i64 n := by
    obtain ⟨u, hu, hk⟩ := hc 26 _ rfl
    cases hu
    exact cell_num hk
  obtain ⟨wx, rfl, iwx⟩ : ∃ n, c27 = .int .i64 n ∧ i64 n := by
    obtain ⟨u, hu, hk⟩ := hc 27 _ rfl
    cases hu
    exact cell_num hk
  obtain ⟨wy, rfl, iwy⟩ : ∃ n, c28 = .int .i64 n ∧ i64 n := by
    obtain ⟨u, hu, hk⟩ := hc 28 _ rfl
    cases hu
    exact cell_num hk
  obtain ⟨wz, rfl, iwz⟩ : ∃ n, c29 = .int .i64 n ∧ i64 n := by
    obtain ⟨u, hu, hk⟩ := hc 29 _ rfl
    cases hu
    exact cell_num hk
  clear hc hsz hC
  obtain ⟨fuel, hf0⟩ := h
  obtain ⟨xs, n, _, hx, _, hlen, hf⟩ := DataW.trod_struct Try.underlying33 hf0
  simp only [Prod.mk.injEq] at hx
  obtain ⟨rfl, _⟩ := hx
  have h0 := hf 0 _ rfl
  have h1 := hf 1 _ rfl
  have k26 : Try.prog.cellsOf 26 = 6 := by kernel_rfl
  obtain ⟨y0, hy0⟩ : ∃ y, xs[0]? = some y := ⟨_, List.getElem?_eq_getElem (by rw [hlen]; decide)⟩
  obtain ⟨y1, hy1⟩ : ∃ y, xs[1]? = some y := ⟨_, List.getElem?_eq_getElem (by rw [hlen]; decide)⟩
  rw [hy0] at h0
  rw [hy1] at h1
  have w0 : ∀ k ∈ y0.1.weights Try.prog 26, k ≤ reachBytes := fun k hk => hw k (by
    rw [DataW.weights, Try.underlying33]
    exact DataW.weights_mem_each (j := 0) (t := 26) (d := y0.1) rfl (by rw [List.getElem?_map, hy0]; rfl) k hk)
  have w1 : ∀ k ∈ y1.1.weights Try.prog 26, k ≤ reachBytes := fun k hk => hw k (by
    rw [DataW.weights, Try.underlying33]
    exact DataW.weights_mem_each (j := 1) (t := 26) (d := y1.1) rfl (by rw [List.getElem?_map, hy1]; rfl) k hk)
  have h0' : DataW.trod enc Try.prog W base spare held n 26 [.int .i64 k1, .int .i64 r1, .int .i64 x1, .int .i64 y1', .int .i64 z1', .slice A1 n1 cap1] = some y0 := by
    have e : ((List.drop 0 ([.int .i64 k1, .int .i64 r1, .int .i64 x1, .int .i64 y1', .int .i64 z1', .slice A1 n1 cap1, .int .i64 k2, .int .i64 r2, .int .i64 x2, .int .i64 y2, .int .i64 z2, .slice A2 n2 cap2, .int .i64 pa, .int .i64 pb, .int .i64 pd, .int .i64 pw, .int .i64 px, .int .i64 py, .int .i64 pz, .int .i64 qa, .int .i64 qb, .int .i64 qc, .int .i64 qw, .int .i64 qx, .int .i64 qy, .int .i64 qz, .int .i64 ne, .int .i64 wx, .int .i64 wy, .int .i64 wz] : List Value)).take (Try.prog.cellsOf 26)) = [.int .i64 k1, .int .i64 r1, .int .i64 x1, .int .i64 y1', .int .i64 z1', .slice A1 n1 cap1] := by rw [k26]; rfl
    exact (congrArg _ e.symm).trans h0
  have h1' : DataW.trod enc Try.prog W base spare held n 26 [.int .i64 k2, .int .i64 r2, .int .i64 x2, .int .i64 y2, .int .i64 z2, .slice A2 n2 cap2] = some y1 := by
    have e : ((List.drop 6 ([.int .i64 k1, .int .i64 r1, .int .i64 x1, .int .i64 y1', .int .i64 z1', .slice A1 n1 cap1, .int .i64 k2, .int .i64 r2, .int .i64 x2, .int .i64 y2, .int .i64 z2, .slice A2 n2 cap2, .int .i64 pa, .int .i64 pb, .int .i64 pd, .int .i64 pw, .int .i64 px, .int .i64 py, .int .i64 pz, .int .i64 qa, .int .i64 qb, .int .i64 qc, .int .i64 qw, .int .i64 qx, .int .i64 qy, .int .i64 qz, .int .i64 ne, .int .i64 wx, .int .i64 wy, .int .i64 wz] : List Value)).take (Try.prog.cellsOf 26)) = [.int .i64 k2, .int .i64 r2, .int .i64 x2, .int .i64 y2, .int .i64 z2, .slice A2 n2 cap2] := by rw [k26]; rfl
    exact (congrArg _ e.symm).trans h1
  obtain ⟨m0, z0, t0, u0⟩ := open_raw5 (W := W) (v5 := .slice A1 n1 cap1) h0' w0
  obtain ⟨m1, z1, t1, u1⟩ := open_raw5 (W := W) (v5 := .slice A2 n2 cap2) h1' w1
  obtain ⟨l1, hl1, R1, I1, L1⟩ := open_pts hA1 t0 u0
  obtain ⟨l2, hl2, R2, I2, L2⟩ := open_pts hA2 t1 u1
  subst hl1 hl2
  exact ⟨k1, r1, ⟨x1, y1', z1'⟩, l1, A1, cap1, k2, r2, ⟨x2, y2, z2⟩, l2, A2, cap2, ⟨⟨pa, pb, pd⟩, ⟨pw, px, py, pz⟩⟩, ⟨⟨qa, qb, qc⟩, ⟨qw, qx, qy, qz⟩⟩, ne, ⟨wx, wy, wz⟩, rfl, R1, ⟨ik1, ir1, ⟨ix1, iy1', iz1'⟩, L1, I1⟩, R2, ⟨ik2, ir2, ⟨ix2, iy2, iz2⟩, L2, I2⟩, ⟨ipa, ipb, ipd, ipw, ipx, ipy, ipz⟩, ⟨iqa, iqb, iqc, iqw, iqx, iqy, iqz⟩, ine, ⟨iwx, iwy, iwz⟩⟩
end
end Go.Proofs.Ytckdhahceelckaa.G
namespace Go.Proofs.Ytckdhahceelckaa.G
open Go.RowKit Go.Proofs.YtckdhahceelckaaW.PrintWords Go.Proofs.YtckdhahceelckaaW.PrintLast Go.Proofs.YtckdhahceelckaaW.PrintMore
attribute [local go_sem] max2_mx min2_mn max_two min_two max_three min_three max_four min_four
attribute [local go_sem high] eqA23
set_option linter.unusedVariables false
set_option linter.unusedSimpArgs false
set_option maxHeartbeats 4000000 in
theorem rin_calls (p : P3) (n : Int) (r : Bool) (hr : decide (in3 n p) = r) (h0 : 0 ≤ n) (h1 : n ≤ 4611686018427387904) (w : World) :
    Calls Try.prog 67 #[aP p, .int .i64 n] w fun e w' => e = .returned (.bool r) ∧ Below w.heap.size w w' := by
  obtain ⟨x, y, z⟩ := p
  have ew : IntKind.i64.wrap (-n) = -n := iw_id _ (by omega) (by omega)
  by_cases t0 : -n ≤ x
  rotate_left
  · have E : Hid (r = false) := Lib.hid (by rw [← hr]; apply decide_eq_false; rintro ⟨k1, k2, k3, k4, k5, k6⟩; simp only at k1 k2 k3 k4 k5 k6; omega)
    have d0 : decide (-n ≤ x) = false := by simpa using t0
    clear hr t0
    go_enter Try.func67, Try.ntmps67
    go_wp2
    go_ret
    exact ⟨by rw [E.out]; rfl, (Below.refl _ w).alloc (Nat.le_refl _) _⟩
  by_cases t1 : x ≤ n
  rotate_left
  · have E : Hid (r = false) := Lib.hid (by rw [← hr]; apply decide_eq_false; rintro ⟨k1, k2, k3, k4, k5, k6⟩; simp only at k1 k2 k3 k4 k5 k6; omega)
    have d0 : decide (-n ≤ x) = true := by simpa using t0
    have d1 : decide (x ≤ n) = false := by simpa using t1
    clear hr t0 t1
    go_enter Try.func67, Try.ntmps67
    go_wp2
    go_ret
    exact ⟨by rw [E.out]; rfl, (Below.refl _ w).alloc (Nat.le_refl _) _⟩
  by_cases t2 : -n ≤ y
  rotate_left
  · have E : Hid (r = false) := Lib.hid (by rw [← hr]; apply decide_eq_false; rintro ⟨k1, k2, k3, k4, k5, k6⟩; simp only at k1 k2 k3 k4 k5 k6; omega)
    have d0 : decide (-n ≤ x) = true := by simpa using t0
    have d1 : decide (x ≤ n) = true := by simpa using t1
    have d2 : decide (-n ≤ y) = false := by simpa using t2
    clear hr t0 t1 t2
    go_enter Try.func67, Try.ntmps67
    go_wp2
    go_ret
    exact ⟨by rw [E.out]; rfl, (Below.refl _ w).alloc (Nat.le_refl _) _⟩
  by_cases t3 : y ≤ n
  rotate_left
  · have E : Hid (r = false) := Lib.hid (by rw [← hr]; apply decide_eq_false; rintro ⟨k1, k2, k3, k4, k5, k6⟩; simp only at k1 k2 k3 k4 k5 k6; omega)
    have d0 : decide (-n ≤ x) = true := by simpa using t0
    have d1 : decide (x ≤ n) = true := by simpa using t1
    have d2 : decide (-n ≤ y) = true := by simpa using t2
    have d3 : decide (y ≤ n) = false := by simpa using t3
    clear hr t0 t1 t2 t3
    go_enter Try.func67, Try.ntmps67
    go_wp2
    go_ret
    exact ⟨by rw [E.out]; rfl, (Below.refl _ w).alloc (Nat.le_refl _) _⟩
  by_cases t4 : -n ≤ z
  rotate_left
  · have E : Hid (r = false) := Lib.hid (by rw [← hr]; apply decide_eq_false; rintro ⟨k1, k2, k3, k4, k5, k6⟩; simp only at k1 k2 k3 k4 k5 k6; omega)
    have d0 : decide (-n ≤ x) = true := by simpa using t0
    have d1 : decide (x ≤ n) = true := by simpa using t1
    have d2 : decide (-n ≤ y) = true := by simpa using t2
    have d3 : decide (y ≤ n) = true := by simpa using t3
    have d4 : decide (-n ≤ z) = false := by simpa using t4
    clear hr t0 t1 t2 t3 t4
    go_enter Try.func67, Try.ntmps67
    go_wp2
    go_ret
    exact ⟨by rw [E.out]; rfl, (Below.refl _ w).alloc (Nat.le_refl _) _⟩
  by_cases t5 : z ≤ n
  rotate_left
  · have E : Hid (r = false) := Lib.hid (by rw [← hr]; apply decide_eq_false; rintro ⟨k1, k2, k3, k4, k5, k6⟩; simp only at k1 k2 k3 k4 k5 k6; omega)
    have d0 : decide (-n ≤ x) = true := by simpa using t0
    have d1 : decide (x ≤ n) = true := by simpa using t1
    have d2 : decide (-n ≤ y) = true := by simpa using t2
    have d3 : decide (y ≤ n) = true := by simpa using t3
    have d4 : decide (-n ≤ z) = true := by simpa using t4
    have d5 : decide (z ≤ n) = false := by simpa using t5
    clear hr t0 t1 t2 t3 t4 t5
    go_enter Try.func67, Try.ntmps67
    go_wp2
    go_ret
    exact ⟨by rw [E.out]; rfl, (Below.refl _ w).alloc (Nat.le_refl _) _⟩
  have E : Hid (r = true) := Lib.hid (by rw [← hr]; apply decide_eq_true; refine ⟨?_, ?_, ?_, ?_, ?_, ?_⟩ <;> simp only <;> omega)
  have d0 : decide (-n ≤ x) = true := by simpa using t0
  have d1 : decide (x ≤ n) = true := by simpa using t1
  have d2 : decide (-n ≤ y) = true := by simpa using t2
  have d3 : decide (y ≤ n) = true := by simpa using t3
  have d4 : decide (-n ≤ z) = true := by simpa using t4
  have d5 : decide (z ≤ n) = true := by simpa using t5
  clear hr t0 t1 t2 t3 t4 t5
  go_enter Try.func67, Try.ntmps67
  go_wp2
  go_ret
  exact ⟨by rw [E.out]; rfl, (Below.refl _ w).alloc (Nat.le_refl _) _⟩
/-- are all of these at most so far out? -/
def allIn (n : Int) (l : List P3) : Bool := l.all fun p => decide (in3 n p)
theorem allIn_iff (n : Int) (l : List P3) : allIn n l = true ↔ ∀ p ∈ l, in3 n p := by unfold allIn; rw [List.all_eq_true]; exact ⟨fun h p hp => of_decide_eq_true (h p hp), fun h p hp => decide_eq_true (h p hp)⟩
theorem allIn_far (n : Int) (h0 : 0 ≤ n) (h1 : n ≤ 9223372036854775807) (l : List P3) : allIn n l = !(l.any (far3 n)) := by
  cases h : l.any (far3 n) with
  | false => rw [List.any_eq_false] at h; exact (allIn_iff n l).2 fun p hp => (far3_iff n p h0 h1).1 (by simpa using h p hp)
  | true =>
    rw [List.any_eq_true] at h
    obtain ⟨p, hp, h2⟩ := h
    cases e : allIn n l with
    | false => rfl
    | true => have := (far3_iff n p h0 h1).2 ((allIn_iff n l).1 e p hp); rw [this] at h2; cases h2
set_option maxHeartbeats 2000000 in
theorem all_calls (l : List P3) (A : Option Addr) (c : Nat) (n : Int) (w : World) (hr : Rd w A l) (hm : l.length < 9223372036854775807) (h0 : 0 ≤ n) (h1 : n ≤ 4611686018427387904) :
    Calls Try.prog 70 #[.slice A l.length c, .int .i64 n] w fun e w' => e = .returned (.bool (allIn n l)) ∧ Below w.heap.size w w' := by
  have HR := Lib.hid hr
  obtain ⟨r, hR⟩ : ∃ r, allIn n l = r := ⟨_, rfl⟩
  have HA := Lib.hid hR
  rw [hR]
  obtain ⟨N, hN⟩ : ∃ N, l.length = N := ⟨_, rfl⟩
  have HN := Lib.hid hN
  rw [hN] at hm ⊢
  clear hr hR hN
  go_enter Try.func70, Try.ntmps70
  go_wp2
  go_loopw [5, 6] (fun v5 v6 wr => ∃ k : Nat, k ≤ N ∧ v5 = .int .i64 k ∧ Hid (∀ p ∈ l.take k, in3 n p) ∧ Below w.heap.size w wr) (fun i _ _ => N - (intOf i).toNat)
  case atStart => exact ⟨0, Nat.zero_le _, rfl, Lib.hid (by simp), Below.refl _ _⟩
  case round =>
    obtain ⟨k, hk, rfl, hno, hbr⟩ := hrel
    by_cases hlt : k < N
    · have hkl : k < l.length := by rw [HN.out]; exact hlt
      obtain ⟨b, o, rfl, hbl, e1, e2, e3⟩ := (HR.out.below hbr).get k hkl
      obtain ⟨p, hp⟩ : ∃ p, l[k] = p := ⟨_, rfl⟩
      rw [hp] at e1 e2 e3
      have HP := Lib.hid hp
      have HT := Lib.hid (show l.take (k + 1) = l.take k ++ [l[k]] from List.take_succ_eq_append_getElem hkl)
      have HM := Lib.hid (show p ∈ l from hp ▸ List.getElem_mem hkl)
      obtain ⟨t, ht⟩ : ∃ t, decide (in3 n p) = t := ⟨_, rfl⟩
      have HI := Lib.hid (fun W => rin_calls p n t ht h0 h1 W)
      have HTT := Lib.hid ht
      clear hp ht
      obtain ⟨px, py, pz⟩ := p
      dsimp only at e1 e2 e3
      have hZ := hbr.size
      cases t with
      | false =>
        go_wp2_with fail
        refine (HI.out _).mono ?_
        rintro e w3 ⟨rfl, hb3⟩
        go_wp2
        go_ret
        refine ⟨?_, bthen hbr hb3⟩
        have : r = false := by
          rw [← HA.out]
          cases e : allIn n l with
          | false => rfl
          | true => exact absurd ((allIn_iff n l).1 e _ HM.out) (of_decide_eq_false HTT.out)
        rw [this]; rfl
      | true =>
        go_wp2_with fail
        refine (HI.out _).mono ?_
        rintro e w3 ⟨rfl, hb3⟩
        go_wp2
        go_roundw
        case rel =>
          refine ⟨k + 1, by omega, by go_num, Lib.hid fun p' hp' => ?_, bthen hbr hb3⟩
          rw [HT.out, HP.out] at hp'
          rcases List.mem_append.1 hp' with h | h
          · exact hno.out p' h
          · simp at h; rw [h]; exact of_decide_eq_true HTT.out
        case measure => simp [intOf]; omega
    · obtain rfl : k = N := by omega
      go_wp2
      go_ret
      refine ⟨?_, hbr⟩
      have : r = true := by
        rw [← HA.out]
        refine (allIn_iff n l).2 fun p hp => hno.out p ?_
        rwa [List.take_of_length_le (by rw [HN.out]; exact Nat.le_refl _)]
      rw [this]; rfl
end Go.Proofs.Ytckdhahceelckaa.G
namespace Go.Proofs.Ytckdhahceelckaa.G
open Go.RowKit Go.Proofs.YtckdhahceelckaaW.PrintWords Go.Proofs.YtckdhahceelckaaW.PrintLast Go.Proofs.YtckdhahceelckaaW.PrintMore
attribute [local go_sem] max2_mx min2_mn max_two min_two max_three min_three max_four min_four
attribute [local go_sem high] eqA23
set_option linter.unusedVariables false
set_option linter.unusedSimpArgs false
structure BsInv (s low high : Nat) : Prop where
  a : low * low ≤ s
  b : s < high * high
  c : low < high
  d : high ≤ 67108864
theorem BsInv.done {s low high : Nat} (h : BsInv s low high) (h1 : high ≤ low + 1) : isq s = low := by
  have e : high = low + 1 := by have := h.c; omega
  have := h.b
  rw [e] at this
  exact (isq_unique s low h.a this).symm
set_option maxHeartbeats 2000000 in
theorem rsizes_calls (p : P3) (w : World) :
    Calls Try.prog 27 #[aP p] w fun e w' => e = .returned (.tuple #[.int .i64 (sz3 p).1, .int .i64 (sz3 p).2]) ∧ Below w.heap.size w w' := by
  obtain ⟨x, y, z⟩ := p
  have hff := allIn_far 16777216 (by decide) (by decide) [⟨x, y, z⟩]
  cases hf : far3 16777216 ⟨x, y, z⟩ with
  | true =>
    have hs : sz3 ⟨x, y, z⟩ = (0, 0) := by unfold sz3; rw [hf]; rfl
    rw [hs]
    have hi : decide (in3 16777216 ⟨x, y, z⟩) = false := by
      apply decide_eq_false; intro h; rw [(far3_iff _ _ (by decide) (by decide)).2 h] at hf; cases hf
    have HI := Lib.hid (fun W => rin_calls ⟨x, y, z⟩ 16777216 false hi (by decide) (by decide) W)
    clear hs hf hi hff
    go_enter Try.func27, Try.ntmps27
    go_wp2_with fail
    refine (HI.out _).mono ?_
    rintro e w1 ⟨rfl, hb⟩
    go_wp2
    go_ret2
    exact ⟨rfl, ((Below.refl _ w).alloc (Nat.le_refl _) _).trans (hb.mono (by simp))⟩
  | false =>
    have hin := (far3_iff _ _ (by decide) (by decide)).1 hf
    have hd := dot3_eq ⟨x, y, z⟩ ⟨x, y, z⟩ 16777216 16777216 hin hin (by decide)
    have hd1 := dotI_bd ⟨x, y, z⟩ ⟨x, y, z⟩ 16777216 16777216 hin hin
    have hd2 := dotI_self ⟨x, y, z⟩
    have hs : sz3 ⟨x, y, z⟩ = (fl3 ⟨x, y, z⟩, ce3 ⟨x, y, z⟩) := by unfold sz3; rw [hf]; rfl
    rw [hs]
    clear hs
    unfold ce3 fl3
    obtain ⟨s, hs⟩ : ∃ s : Nat, dotI ⟨x, y, z⟩ ⟨x, y, z⟩ = s := ⟨_, (Int.toNat_of_nonneg hd2).symm⟩
    rw [hs] at hd hd1 hd2 ⊢
    rw [Int.toNat_natCast]
    have hsb : s ≤ 844424930131968 := by omega
    have HD := Lib.hid hd
    have HI := Lib.hid (fun W => rin_calls ⟨x, y, z⟩ 16777216 true (decide_eq_true hin) (by decide) (by decide) W)
    clear hd hd1 hd2 hs hin hf hff
    obtain ⟨U, hU⟩ : ∃ U : Int, (if (isq s : Int) * (isq s : Int) < (s : Int) then (isq s : Int) + 1 else (isq s : Int)) = U := ⟨_, rfl⟩
    rw [hU]
    have HU := Lib.hid hU
    clear hU
    go_enter Try.func27, Try.ntmps27
    go_wp2_with fail
    refine (HI.out _).mono ?_
    rintro e w1 ⟨rfl, hb⟩
    have z1 := (hb.block _ (show w.heap.size < (w.alloc (.cells #[.int .i64 x, .int .i64 y, .int .i64 z] 23)).heap.size by simp)).trans (heap_alloc_new w (.cells #[.int .i64 x, .int .i64 y, .int .i64 z] 23))
    have x0 : w1.cell? ⟨w.heap.size, 0, none⟩ = some (.int .i64 x) := (blk_cell z1 0).trans rfl
    have x1 : w1.cell? ⟨w.heap.size, 1, none⟩ = some (.int .i64 y) := (blk_cell z1 1).trans rfl
    have x2 : w1.cell? ⟨w.heap.size, 2, none⟩ = some (.int .i64 z) := (blk_cell z1 2).trans rfl
    have hB := Lib.hid (((Below.refl _ w).alloc (Nat.le_refl _) _).trans (hb.mono (by simp)))
    clear hb z1
    go_wp2_with fail
    refine (rdot_calls _ _ _ _ _ _ _).mono ?_
    rintro e w2 ⟨rfl, hb⟩
    rw [HD.out]
    have hB := bthen hB.out hb
    clear hb x0 x1 x2 HD HI
    go_wp2
    go_loopw [6, 7, 8] (fun v6 v7 v8 wr => ∃ (low high : Nat), v6 = .int .i64 low ∧ v7 = .int .i64 high ∧ Hid (BsInv s low high) ∧ wr = w2) (fun a b _ _ => (intOf b).toNat - (intOf a).toNat)
    case atStart => exact ⟨0, 67108864, rfl, rfl, Lib.hid ⟨by omega, by omega, by decide, by decide⟩, rfl⟩
    case round =>
      obtain ⟨low, high, rfl, rfl, hi, rfl⟩ := hrel
      have hc := hi.out.c
      have hd := hi.out.d
      by_cases hg : high ≤ low + 1
      · have hdone := Lib.hid (hi.out.done hg)
        have ha := hi.out.a
        have hp : (low : Int) * low = (low * low : Nat) := by simp
        obtain ⟨m, hm⟩ : ∃ m : Nat, low * low = m := ⟨_, rfl⟩
        rw [hm] at hp ha
        have t0 : decide (1 < (high : Int) - (low : Int)) = false := decide_eq_false (by omega)
        rcases Nat.lt_or_ge m s with hlt | hge
        · have t1 : (((m : Nat) : Int) == ((s : Nat) : Int)) = false := by simp; omega
          clear hm hg ha
          go_wp2
          go_ret2
          refine ⟨ret_two (by rw [hdone.out]) ?_, hB⟩
          rw [← HU.out, hdone.out, hp, if_pos (by omega)]
        · have t1 : (((m : Nat) : Int) == ((s : Nat) : Int)) = true := by simp; omega
          clear hm hg
          go_wp2
          go_ret2
          refine ⟨ret_two (by rw [hdone.out]) ?_, hB⟩
          rw [← HU.out, hdone.out, hp, if_neg (by omega)]
      · have t0 : decide (1 < (high : Int) - (low : Int)) = true := decide_eq_true (by omega)
        obtain ⟨t, ht⟩ : ∃ t : Nat, (low + high) / 2 = t := ⟨_, rfl⟩
        have htb : t ≤ 67108864 := by omega
        have hq : ((low : Int) + (high : Int)).tdiv 2 = (t : Int) := by
          rw [Int.tdiv_eq_ediv_of_nonneg (by omega)]; omega
        have hq2 : ((low : Int) + (high : Int)) / 2 = (t : Int) := by omega
        have htt : t * t ≤ 67108864 * 67108864 := Nat.mul_le_mul htb htb
        obtain ⟨m, hm⟩ : ∃ m : Nat, t * t = m := ⟨_, rfl⟩
        have hp : (t : Int) * t = (m : Int) := by rw [← hm]; simp
        rw [hm] at htt
        have h3 : m ≤ s → BsInv s t high := fun h => ⟨by rw [hm]; exact h, hi.out.b, by omega, hd⟩
        have h4 : s < m → BsInv s low t := fun h => ⟨hi.out.a, by rw [hm]; exact h, by omega, htb⟩
        have H3 := Lib.hid h3
        have H4 := Lib.hid h4
        have htl : low < t := by omega
        have hth : t < high := by omega
        clear h3 h4 ht hm hg
        rcases Nat.lt_or_ge s m with hlt | hge
        · go_wp2
          go_roundw
          case rel => exact ⟨low, t, by go_num, by go_num, Lib.hid (H4.out hlt), trivial⟩
          case measure => simp [intOf]; omega
        · go_wp2
          go_roundw
          case rel => exact ⟨t, high, by go_num, by go_num, Lib.hid (H3.out hge), trivial⟩
          case measure => simp [intOf]; omega
end Go.Proofs.Ytckdhahceelckaa.G
namespace Go.Proofs.Ytckdhahceelckaa.G
open Go.RowKit Go.Proofs.YtckdhahceelckaaW.PrintWords Go.Proofs.YtckdhahceelckaaW.PrintLast Go.Proofs.YtckdhahceelckaaW.PrintMore
attribute [local go_sem] max2_mx min2_mn max_two min_two max_three min_three max_four min_four
attribute [local go_sem high] eqA23
set_option linter.unusedVariables false
set_option linter.unusedSimpArgs false
set_option maxHeartbeats 8000000 in
set_option maxRecDepth 100000 in
theorem sound_calls {w : World} {v u : Value} {p a e : List P3} {r : Int} {q b f : List P3} {s : Int} (hv : CoreV w v p a e r) (hu : CoreV w u q b f s) (hl : p.length ≤ 1000) (hk : q.length ≤ 1000) (X : P3) (G g by_ B : Int)
    (hg : wrap64 (wrap64 (G + r) + s) = g) (hf : (sz3 X).1 ≠ 0) (hby : (if 0 ≤ g then (sz3 X).2 else (sz3 X).1) = by_) (hB : wrap64 (g * by_) = B) (hall : ∀ P ∈ p, ∀ Q ∈ q, B ≤ dot3 X (minus3 Q P)) :
    Calls Try.prog 21 #[v, u, .agg #[.int .i64 X.x, .int .i64 X.y, .int .i64 X.z, .int .i64 G]] w fun en w' => en = .returned (.bool true) ∧ Below w.heap.size w w' := by
  have HS := Lib.hid (fun W => rsizes_calls X W)
  have HALL := Lib.hid hall
  obtain ⟨U, hU⟩ : ∃ U, sz3 X = U := ⟨_, rfl⟩
  rw [hU] at HS hf hby
  obtain ⟨fl, ce⟩ := U
  simp only at HS hf hby
  obtain ⟨X1, X2, X3⟩ := X
  have HV := Lib.hid hv
  have HU := Lib.hid hu
  obtain ⟨A0, A1, A2, c0, c1, c2, rfl, a0, _⟩ := hv.out
  obtain ⟨B0, B1, B2, d0, d1, d2, rfl, b0, _⟩ := hu.out
  have A0_ := Lib.hid a0
  have B0_ := Lib.hid b0
  obtain ⟨np, hnp⟩ : ∃ n, p.length = n := ⟨_, rfl⟩
  obtain ⟨na, hna⟩ : ∃ n, a.length = n := ⟨_, rfl⟩
  obtain ⟨ne, hne⟩ : ∃ n, e.length = n := ⟨_, rfl⟩
  obtain ⟨mp, hmp⟩ : ∃ n, q.length = n := ⟨_, rfl⟩
  obtain ⟨ma, hma⟩ : ∃ n, b.length = n := ⟨_, rfl⟩
  obtain ⟨me, hme⟩ : ∃ n, f.length = n := ⟨_, rfl⟩
  rw [hnp] at hl ⊢
  rw [hmp] at hk ⊢
  rw [hna, hne, hma, hme]
  have NP := Lib.hid hnp
  have MP := Lib.hid hmp
  have hf0 : (fl == 0) = false := by simpa using hf
  clear hv hu hnp hna hne hmp hma hme hU hf hall a0 b0
  have Z0 := Lib.hid (three0 w (.cells #[.slice A0 np c0, .slice A1 na c1, .slice A2 ne c2, .int .i64 r] 36) (.cells #[.slice B0 mp d0, .slice B1 ma d1, .slice B2 me d2, .int .i64 s] 36) (.cells #[.int .i64 X1, .int .i64 X2, .int .i64 X3, .int .i64 G] 40))
  have Z1 := Lib.hid (three1 w (.cells #[.slice A0 np c0, .slice A1 na c1, .slice A2 ne c2, .int .i64 r] 36) (.cells #[.slice B0 mp d0, .slice B1 ma d1, .slice B2 me d2, .int .i64 s] 36) (.cells #[.int .i64 X1, .int .i64 X2, .int .i64 X3, .int .i64 G] 40))
  have Z2 := Lib.hid (three2 w (.cells #[.slice A0 np c0, .slice A1 na c1, .slice A2 ne c2, .int .i64 r] 36) (.cells #[.slice B0 mp d0, .slice B1 ma d1, .slice B2 me d2, .int .i64 s] 36) (.cells #[.int .i64 X1, .int .i64 X2, .int .i64 X3, .int .i64 G] 40))
  have ZB := Lib.hid (Go.Joins.below_alloc3 w (.cells #[.slice A0 np c0, .slice A1 na c1, .slice A2 ne c2, .int .i64 r] 36) (.cells #[.slice B0 mp d0, .slice B1 ma d1, .slice B2 me d2, .int .i64 s] 36) (.cells #[.int .i64 X1, .int .i64 X2, .int .i64 X3, .int .i64 G] 40))
  obtain ⟨w1, hw1⟩ : ∃ V, ((w.alloc (.cells #[.slice A0 np c0, .slice A1 na c1, .slice A2 ne c2, .int .i64 r] 36)).alloc (.cells #[.slice B0 mp d0, .slice B1 ma d1, .slice B2 me d2, .int .i64 s] 36)).alloc (.cells #[.int .i64 X1, .int .i64 X2, .int .i64 X3, .int .i64 G] 40) = V := ⟨_, rfl⟩
  rw [hw1] at Z0 Z1 Z2 ZB
  have hw1' := Lib.hid hw1
  have hg' : IntKind.i64.wrap (IntKind.i64.wrap (G + r) + s) = g := by rw [i64_w, i64_w]; exact hg
  obtain ⟨h1, hh1⟩ : ∃ x, wrap64 (G + r) = x := ⟨_, rfl⟩
  have hh1' : IntKind.i64.wrap (G + r) = h1 := (i64_w _).trans hh1
  rw [hh1] at hg
  rw [hh1'] at hg'
  have hB' : IntKind.i64.wrap (g * by_) = B := (i64_w _).trans hB
  have HBY := Lib.hid hby
  clear hw1 hby
  go_enter Try.func21, Try.ntmps21
  go_wp2_with fail
  rw [hw1'.out]
  refine (HS.out w1).mono ?_
  rintro en w2 ⟨rfl, hb⟩
  have Z0 := Lib.hid ((hb.block _ (blk_lt Z0.out)).trans Z0.out)
  have Z1 := Lib.hid ((hb.block _ (blk_lt Z1.out)).trans Z1.out)
  have Z2 := Lib.hid ((hb.block _ (blk_lt Z2.out)).trans Z2.out)
  have ZB := Lib.hid (bthen ZB.out hb)
  clear hb HS hw1' HV HU hg hg' hh1 hh1'
  have A0_ := Lib.hid (A0_.out.below ZB.out)
  have B0_ := Lib.hid (B0_.out.below ZB.out)
  go_upto_if 32 with fail
  go_cut [10] (fun s10 wx => s10 = .int .i64 by_ ∧ wx = w2)
  case first =>
    by_cases hg0 : 0 ≤ g
    · have e := HBY.out
      rw [if_pos hg0] at e
      have E := Lib.hid e
      have d0 : decide (0 ≤ g) = true := decide_eq_true hg0
      clear e
      go_wp2
      go_meet
      exact ⟨by rw [← E.out], rfl⟩
    · have e := HBY.out
      rw [if_neg hg0] at e
      have E := Lib.hid e
      have d0 : decide (0 ≤ g) = false := decide_eq_false hg0
      clear e
      go_wp2
      go_meet
      exact ⟨by rw [← E.out], rfl⟩
  case rest =>
    obtain ⟨rfl, hwc⟩ := hcut
    subst hwc
    clear HBY
    go_wp2
    go_loopw [11, 12, 13] (fun v11 v12 v13 wr => ∃ i : Nat, i ≤ np ∧ v11 = .int .i64 i ∧ Hid (Below wc.heap.size wc wr)) (fun i _ _ _ => np - (intOf i).toNat)
    case atStart => exact ⟨0, by omega, rfl, Lib.hid (Below.refl _ _)⟩
    case round =>
      obtain ⟨i, hi, rfl, hb⟩ := hrel
      obtain ⟨wq, hwq⟩ : ∃ x : World, x = wr := ⟨_, rfl⟩
      subst hwq
      have x0 : wq.cell? ⟨w.heap.size, 0, none⟩ = some (.slice A0 np c0) := (blk_cell ((hb.out.block _ (blk_lt Z0.out)).trans Z0.out) 0).trans rfl
      have l0 : w.heap.size < wq.heap.size := blk_lt ((hb.out.block _ (blk_lt Z0.out)).trans Z0.out)
      by_cases hli : i < np
      · have hil : i < p.length := by rw [NP.out]; exact hli
        obtain ⟨ga, oa, rfl, _, _, _, _⟩ := A0_.out.1.get i hil
        go_wp2_with fail
        go_loopw [12, 13] (fun v12 v13 wr => ∃ j : Nat, j ≤ mp ∧ v12 = .int .i64 j ∧ Hid (Below wc.heap.size wc wr)) (fun i _ _ => mp - (intOf i).toNat)
        case atStart => exact ⟨0, by omega, rfl, hb⟩
        case round =>
          clear hb x0 l0
          obtain ⟨j, hj, rfl, hb⟩ := hrel
          obtain ⟨wq, hwq⟩ : ∃ x : World, x = wr := ⟨_, rfl⟩
          subst hwq
          have Y0 := Lib.hid ((hb.out.block _ (blk_lt Z0.out)).trans Z0.out)
          have Y1 := Lib.hid ((hb.out.block _ (blk_lt Z1.out)).trans Z1.out)
          have Y2 := Lib.hid ((hb.out.block _ (blk_lt Z2.out)).trans Z2.out)
          have x0 : wq.cell? ⟨w.heap.size, 0, none⟩ = some (.slice (some ⟨ga, oa, none⟩) np c0) := (blk_cell Y0.out 0).trans rfl
          have l0 : w.heap.size < wq.heap.size := blk_lt Y0.out
          have y0 : wq.cell? ⟨w.heap.size + 1, 0, none⟩ = some (.slice B0 mp d0) := (blk_cell Y1.out 0).trans rfl
          have l1 : w.heap.size + 1 < wq.heap.size := blk_lt Y1.out
          by_cases hlj : j < mp
          · have hjl : j < q.length := by rw [MP.out]; exact hlj
            obtain ⟨gb, ob, rfl, lgb, f0, f1, f2⟩ := (B0_.out.below hb.out).1.get j hjl
            obtain ⟨ga', oa', hA, lga, e0, e1, e2⟩ := (A0_.out.below hb.out).1.get i hil
            simp only [Option.some.injEq, Addr.mk.injEq, and_true] at hA
            obtain ⟨rfl, rfl⟩ := hA
            have hle := HALL.out _ (List.getElem_mem hil) _ (List.getElem_mem hjl)
            obtain ⟨P, hP⟩ : ∃ e, p[i] = e := ⟨_, rfl⟩
            obtain ⟨Q, hQ⟩ : ∃ e, q[j] = e := ⟨_, rfl⟩
            rw [hP] at e0 e1 e2 hle
            rw [hQ] at f0 f1 f2 hle
            obtain ⟨px, py, pz⟩ := P
            obtain ⟨qx, qy, qz⟩ := Q
            simp only at e0 e1 e2 f0 f1 f2
            have HM := (fun W => rminus_calls qx qy qz px py pz W)
            obtain ⟨D, hD⟩ : ∃ u, minus3 ⟨qx, qy, qz⟩ ⟨px, py, pz⟩ = u := ⟨_, rfl⟩
            rw [hD] at HM hle
            obtain ⟨dx, dy, dz⟩ := D
            simp only at HM
            have HD := (fun W => rdot_calls X1 X2 X3 dx dy dz W)
            obtain ⟨t, ht⟩ : ∃ t, dot3 ⟨X1, X2, X3⟩ ⟨dx, dy, dz⟩ = t := ⟨_, rfl⟩
            rw [ht] at HD hle
            have HM := Lib.hid HM
            have HD := Lib.hid HD
            have d1 : decide (t < B) = false := decide_eq_false (by omega)
            have t1 : (i : Int) < (np : Int) := by omega
            have t2 : (j : Int) < (mp : Int) := by omega
            clear hP hQ hD ht hle
            go_wp2
            have HB := Lib.hid ((Below.refl (wq.heap.size) wq).drew)
            have FF := Lib.hid (show ∀ V, Hid (Below (wq.heap.size) wq V) → V.cell? ⟨w.heap.size, 0, none⟩ = some (.slice (some ⟨ga, oa, none⟩) np c0) ∧ V.cell? ⟨w.heap.size + 1, 0, none⟩ = some (.slice (some ⟨gb, ob, none⟩) mp d0) ∧ V.cell? ⟨ga, oa + i * 3, none⟩ = some (.int .i64 px) ∧ V.cell? ⟨ga, oa + i * 3 + 1, none⟩ = some (.int .i64 py) ∧ V.cell? ⟨ga, oa + i * 3 + 2, none⟩ = some (.int .i64 pz) ∧ V.cell? ⟨gb, ob + j * 3, none⟩ = some (.int .i64 qx) ∧ V.cell? ⟨gb, ob + j * 3 + 1, none⟩ = some (.int .i64 qy) ∧ V.cell? ⟨gb, ob + j * 3 + 2, none⟩ = some (.int .i64 qz) from fun V HB => ⟨(HB.out.cell (p := ⟨w.heap.size, 0, none⟩) (l0)).trans x0, (HB.out.cell (p := ⟨w.heap.size + 1, 0, none⟩) (l1)).trans y0, (HB.out.cell (p := ⟨ga, oa + i * 3, none⟩) (lga)).trans e0, (HB.out.cell (p := ⟨ga, oa + i * 3 + 1, none⟩) (lga)).trans e1, (HB.out.cell (p := ⟨ga, oa + i * 3 + 2, none⟩) (lga)).trans e2, (HB.out.cell (p := ⟨gb, ob + j * 3, none⟩) (lgb)).trans f0, (HB.out.cell (p := ⟨gb, ob + j * 3 + 1, none⟩) (lgb)).trans f1, (HB.out.cell (p := ⟨gb, ob + j * 3 + 2, none⟩) (lgb)).trans f2⟩)
            refine start_ (n := 13) (S := fun w' => w'.cell? ⟨w.heap.size, 0, none⟩ = some (.slice (some ⟨ga, oa, none⟩) np c0) ∧ w'.cell? ⟨w.heap.size + 1, 0, none⟩ = some (.slice (some ⟨gb, ob, none⟩) mp d0) ∧ w'.cell? ⟨ga, oa + i * 3, none⟩ = some (.int .i64 px) ∧ w'.cell? ⟨ga, oa + i * 3 + 1, none⟩ = some (.int .i64 py) ∧ w'.cell? ⟨ga, oa + i * 3 + 2, none⟩ = some (.int .i64 pz) ∧ w'.cell? ⟨gb, ob + j * 3, none⟩ = some (.int .i64 qx) ∧ w'.cell? ⟨gb, ob + j * 3 + 1, none⟩ = some (.int .i64 qy) ∧ w'.cell? ⟨gb, ob + j * 3 + 2, none⟩ = some (.int .i64 qz)) (ds := []) (MT 0 13) (by kernel_rfl) rfl rfl (FF.out _ HB) (fun hHeld => ?_)
            obtain ⟨wd, hwd⟩ : ∃ x, wq.drew = x := ⟨_, rfl⟩
            rw [hwd] at HB hHeld ⊢
            clear hwd
            refine pu_ 0 48 (h := ?_)
            refine pu_ 2 50 (h := ?_)
            refine pu_ 5 53 (h := ?_)
            refine pu_ 7 55 (h := ?_)
            refine ta_ 1 49 hHeld (h := ?_)
            refine pu_ 3 51 (h := ?_)
            refine ta_ 4 52 hHeld (h := ?_)
            refine ta_ 6 54 hHeld (h := ?_)
            refine pu_ 8 56 (h := ?_)
            refine ta_ 9 57 hHeld (h := ?_)
            refine join_ (σ := Nat) 1 (MT 12 1) (fun s => [(13, .pointer (some ⟨s, 0, none⟩)), (58, aP ⟨dx, dy, dz⟩)]) (fun s w' => wq.heap.size ≤ s ∧ w'.heap[s]? = some (.cells #[.int .i64 0, .int .i64 0, .int .i64 0] 23 (0, 0)) ∧ Below (wq.heap.size) wq w') ?_ ?_
            rotate_left
            · intro hCont
              refine two_ (i := 10) (j := 11) (Ni := some 58) (Nj := some 13) (MT 11 2) #[true, true, true, true, true, true, true, true, true, true, false, true, false] rfl rfl rfl rfl (by kernel_rfl) (by decide) (by decide) (fun K hK => ?_) (fun K hK => ?_)
              · skip
                refine goes_ Try.func23 (by kernel_rfl) rfl #[aP ⟨qx, qy, qz⟩, aP ⟨px, py, pz⟩] (by rfl) rfl rfl (by simp only [List.map_toArray, List.map_cons, List.map_nil]; rfl) ?_
                with_reducible refine (HM.out _).mono ?_
                rintro en w7 ⟨rfl, hb⟩
                have HB := Lib.hid (HB.out.trans (hb.mono (Nat.le_trans (Nat.le_refl _) HB.out.size)))
                clear hb
                refine ⟨_, rfl, ?_⟩
                refine hK.out _ _ (FF.out _ HB) (fun hHeld => ?_)
                clear hK K
                refine no_ (h := ?_)
                refine on_ 11 (some 13) (h := fun K hK => ?_)
                refine value_ (w1 := ?_) (v := ?_) (by rfl) rfl ?_ ?_
                rotate_left 2
                · go_simp
                  constructor
                  · rfl
                  · rfl
                have HA := Lib.hid (ha_new HB.out (.cells #[.int .i64 0, .int .i64 0, .int .i64 0] 23))
                have hge := HB.out.size
                have HB := Lib.hid (HB.out.alloc (Nat.le_trans (Nat.le_refl _) HB.out.size) (.cells #[.int .i64 0, .int .i64 0, .int .i64 0] 23))
                refine hK.out _ _ (FF.out _ HB) (fun hHeld => ?_)
                clear hK K
                refine no_ (h := ?_)
                exact norm_ (by simp only [putAll, Act.put, List.setIfInBounds_toArray, List.set_cons_zero, List.set_cons_succ]) (hCont _ _ ⟨hge, HA.out, HB.out⟩)
              · skip
                refine value_ (w1 := ?_) (v := ?_) (by rfl) rfl ?_ ?_
                rotate_left 2
                · go_simp
                  constructor
                  · rfl
                  · rfl
                have HA := Lib.hid (ha_new HB.out (.cells #[.int .i64 0, .int .i64 0, .int .i64 0] 23))
                have hge := HB.out.size
                have HB := Lib.hid (HB.out.alloc (Nat.le_trans (Nat.le_refl _) HB.out.size) (.cells #[.int .i64 0, .int .i64 0, .int .i64 0] 23))
                refine hK.out _ _ (FF.out _ HB) (fun hHeld => ?_)
                clear hK K
                refine no_ (h := ?_)
                refine on_ 10 (some 58) (h := fun K hK => ?_)
                refine goes_ Try.func23 (by kernel_rfl) rfl #[aP ⟨qx, qy, qz⟩, aP ⟨px, py, pz⟩] (by rfl) rfl rfl (by simp only [List.map_toArray, List.map_cons, List.map_nil]; rfl) ?_
                with_reducible refine (HM.out _).mono ?_
                rintro en w7 ⟨rfl, hb⟩
                have HB := Lib.hid (HB.out.trans (hb.mono (Nat.le_trans (Nat.le_refl _) HB.out.size)))
                have HA := Lib.hid ((hb.block _ (blk_lt HA.out)).trans HA.out)
                clear hb
                refine ⟨_, rfl, ?_⟩
                refine hK.out _ _ (FF.out _ HB) (fun hHeld => ?_)
                clear hK K
                refine no_ (h := ?_)
                exact norm_ (by simp only [putAll, Act.put, List.setIfInBounds_toArray, List.set_cons_zero, List.set_cons_succ]) (hCont _ _ ⟨hge, HA.out, HB.out⟩)
            rintro AB wj ⟨hge, HA, HB⟩
            have HA := Lib.hid HA
            have HB := Lib.hid HB
            have hHeld : wj.cell? ⟨w.heap.size, 0, none⟩ = some (.slice (some ⟨ga, oa, none⟩) np c0) ∧ wj.cell? ⟨w.heap.size + 1, 0, none⟩ = some (.slice (some ⟨gb, ob, none⟩) mp d0) ∧ wj.cell? ⟨ga, oa + i * 3, none⟩ = some (.int .i64 px) ∧ wj.cell? ⟨ga, oa + i * 3 + 1, none⟩ = some (.int .i64 py) ∧ wj.cell? ⟨ga, oa + i * 3 + 2, none⟩ = some (.int .i64 pz) ∧ wj.cell? ⟨gb, ob + j * 3, none⟩ = some (.int .i64 qx) ∧ wj.cell? ⟨gb, ob + j * 3 + 1, none⟩ = some (.int .i64 qy) ∧ wj.cell? ⟨gb, ob + j * 3 + 2, none⟩ = some (.int .i64 qz) := (FF.out _ HB)
            refine no_ (h := ?_)
            refine on_ 12 (none) (h := fun K hK => ?_)
            have sc0 : World.cell? _ ⟨AB, 0, none⟩ = some (.int .i64 0) := (blk_cell HA.out 0).trans rfl
            have sf0 := blk_frozen HA.out 0
            have sc1 : World.cell? _ ⟨AB, 1, none⟩ = some (.int .i64 0) := (blk_cell HA.out 1).trans rfl
            have sf1 := blk_frozen HA.out 1
            have sc2 : World.cell? _ ⟨AB, 2, none⟩ = some (.int .i64 0) := (blk_cell HA.out 2).trans rfl
            have sf2 := blk_frozen HA.out 2
            refine skip_ (w1 := ?_) (by rfl) rfl ?_ ?_
            rotate_left
            · go_simp
              rfl
            have HA := Lib.hid (bs3 HA.out (.int .i64 dx) (.int .i64 dy) (.int .i64 dz))
            have HB := Lib.hid (bb3 HB.out (Nat.le_trans (Nat.le_refl _) hge) (.int .i64 dx) (.int .i64 dy) (.int .i64 dz))
            clear sc0 sf0 sc1 sf1 sc2 sf2
            refine hK.out _ _ (FF.out _ HB) (fun hHeld => ?_)
            clear hK K
            refine done_ (by kernel_rfl) ?_
            obtain ⟨w6, hwn⟩ : ∃ V, (((wj.setCell ⟨AB, 0, none⟩ (.int .i64 dx)).setCell ⟨AB, 1, none⟩ (.int .i64 dy)).setCell ⟨AB, 2, none⟩ (.int .i64 dz)) = V := ⟨_, rfl⟩
            rw [hwn] at HA HB ⊢
            clear hwn
            have Y2 := Lib.hid ((HB.out.block _ (blk_lt Y2.out)).trans Y2.out)
            have hb6 := Lib.hid (bthen hb.out HB.out)
            have HA6 := HA
            clear x0 l0 y0 l1 e0 e1 e2 f0 f1 f2 lga lgb t1 t2 hb HB HA hge hHeld Y0 Y1 HM
            have x0 : w6.cell? ⟨w.heap.size + 2, 0, none⟩ = some (.int .i64 X1) := (blk_cell Y2.out 0).trans rfl
            have x1 : w6.cell? ⟨w.heap.size + 2, 1, none⟩ = some (.int .i64 X2) := (blk_cell Y2.out 1).trans rfl
            have x2 : w6.cell? ⟨w.heap.size + 2, 2, none⟩ = some (.int .i64 X3) := (blk_cell Y2.out 2).trans rfl
            have l2 : w.heap.size + 2 < w6.heap.size := blk_lt Y2.out
            have y0 : w6.cell? ⟨AB, 0, none⟩ = some (.int .i64 dx) := (blk_cell HA6.out 0).trans rfl
            have y1 : w6.cell? ⟨AB, 1, none⟩ = some (.int .i64 dy) := (blk_cell HA6.out 1).trans rfl
            have y2 : w6.cell? ⟨AB, 2, none⟩ = some (.int .i64 dz) := (blk_cell HA6.out 2).trans rfl
            have lAB : AB < w6.heap.size := blk_lt HA6.out
            go_wp2_with fail
            refine (HD.out _).mono ?_
            rintro en w7 ⟨rfl, hb⟩
            have hb7 := Lib.hid (bthen hb6.out hb)
            clear x0 x1 x2 l2 y0 y1 y2 lAB hb hb6 HA6 HD
            go_wp2
            go_roundw
            case rel => exact ⟨j + 1, by omega, by go_num, hb7⟩
            case measure => simp [intOf]; omega
          · obtain rfl : j = mp := by omega
            clear x0 l0
            go_wp2
            go_roundw
            case rel => exact ⟨i + 1, by omega, by go_num, hb⟩
            case measure => simp [intOf]; omega
      · obtain rfl : i = np := by omega
        go_wp2
        go_ret
        exact ⟨rfl, bthen ZB.out hb.out⟩
end Go.Proofs.Ytckdhahceelckaa.G
namespace Go.Proofs.Ytckdhahceelckaa.G
open Go.RowKit Go.Proofs.YtckdhahceelckaaW.PrintWords Go.Proofs.YtckdhahceelckaaW.PrintLast Go.Proofs.YtckdhahceelckaaW.PrintMore
set_option linter.unusedVariables false
set_option linter.unusedSimpArgs false
theorem any_far {n : Int} (h0 : 0 ≤ n) (h1 : n ≤ 9223372036854775807) {l : List P3} (h : ∀ x ∈ l, in3 n x) : l.any (far3 n) = false := by
  rw [List.any_eq_false]
  intro x hx
  rw [(far3_iff n x h0 h1).2 (h x hx)]
  decide
theorem place_in3 {m : M3} {at_ x : P3} (hm : mOk m) (ha : atOk at_) (hx : in3 65536 x) : in3 8388608 (placePt m at_ x) := by
  obtain ⟨_, _, _, h⟩ := turn_ok2 hm (times_in2 hx)
  obtain ⟨_, _, _, h2⟩ := add_in h ha
  exact down_in h2
theorem waysF_in (m : M3) (l : List P3) : ∀ x ∈ waysF m l, in3 1048576 x := by
  intro x hx
  unfold waysF at hx
  obtain ⟨h1, _⟩ := List.mem_filter.1 hx
  obtain ⟨y, _, rfl⟩ := List.mem_map.1 h1
  exact short3_in _
theorem CoreIs.may {s : Shp} (hs : ShpOk s) {p a e : List P3} (h : CoreIs s p a e) {q : P7} (hm : mOk (rowsF q.turn)) (ha : atOk q.at_) :
    MayP (p.map (placePt (rowsF q.turn) q.at_)) (waysF (rowsF q.turn) a) (waysF (rowsF q.turn) e) s.radius := by
  have hB := h.bounds hs
  refine ⟨fun e' => ?_, ?_, ?_, ?_, ?_, ?_, any_far (by decide) (by decide) fun x hx => ?_, any_far (by decide) (by decide) (waysF_in _ _), any_far (by decide) (by decide) (waysF_in _ _)⟩
  · have := hB.p0
    rw [List.map_eq_nil_iff] at e'
    rw [e'] at this
    simp at this
  · rw [List.length_map]; have := hB.p1; omega
  · have := hB.a1; have := waysF_len (rowsF q.turn) a; omega
  · have := hB.e1; have := waysF_len (rowsF q.turn) e; omega
  · have := hs.r0; omega
  · have := hs.r1; omega
  · obtain ⟨y, hy, rfl⟩ := List.mem_map.1 hx
    exact in3_le (by decide) (place_in3 hm ha (hB.pin y hy))
/-- both of Cores' answers may be -/
theorem rightPose_ok (p : P7) : mOk (rowsF (rightPose p).turn) ∧ atOk (rightPose p).at_ := by
  simp only [rightPose]
  exact ⟨rows_mOk (wholeF_q32 (partQ p.turn)), partV_at p.at_⟩
theorem nearF_ok (near : Int) (way : P3) (p : P7) : atOk (nearF near way (rightPose p).at_) := by
  have a := partF_bd p.at_.x 4398046511104 (by decide)
  have b := partF_bd p.at_.y 4398046511104 (by decide)
  have c := partF_bd p.at_.z 4398046511104 (by decide)
  have n := pickF_bd near 131072 (by decide)
  have x := pickF_bd way.x (2 * (1 + pickF near 131072)) (by omega)
  have y := pickF_bd way.y (2 * (1 + pickF near 131072)) (by omega)
  have z := pickF_bd way.z (2 * (1 + pickF near 131072)) (by omega)
  simp only [rightPose, partV, nearF, atOk, in3]
  omega
/-- what a value of Cores is for Apart -/
theorem CoreAt.may {s : Shp} (hs : ShpOk s) {q : P7} (hm : mOk (rowsF q.turn)) (ha : atOk q.at_) {w : World} {v : Value} (h : CoreAt s q w v) : ∃ p a e, CoreV w v p a e s.radius ∧ MayP p a e s.radius := by
  obtain ⟨p, a, e, h1, h2⟩ := h
  exact ⟨_, _, _, h2, h1.may hs hm ha⟩
end Go.Proofs.Ytckdhahceelckaa.G
namespace Go.Proofs.Ytckdhahceelckaa.G
open Go.RowKit Go.Proofs.YtckdhahceelckaaW.PrintWords
set_option linter.unusedVariables false
theorem gapV_more (s up down ra rb n : Int) : gapV s up down (ra + n) rb = gapV s up down ra rb - n := by unfold gapV; split <;> omega
def lessG (m : Int) (s : (P3 × Int) × Bool) : (P3 × Int) × Bool := ((s.1.1, s.1.2 - m), s.2)
theorem gapsF_more (n a0 : P3) (ar : List P3) (ra m : Int) (b0 : P3) (br : List P3) (rb : Int) : gapsF n a0 ar (ra + m) b0 br rb = ((gapsF n a0 ar ra b0 br rb).1 - m, (gapsF n a0 ar ra b0 br rb).2 - m) := by
  unfold gapsF; simp only [gapV_more]
theorem apStep_more (a0 : P3) (ar : List P3) (ra m : Int) (b0 : P3) (br : List P3) (rb : Int) (s : (P3 × Int) × Bool) (n : P3) :
    apStep a0 ar (ra + m) b0 br rb (lessG m s) n = lessG m (apStep a0 ar ra b0 br rb s n) := by
  obtain ⟨⟨ax, g⟩, f⟩ := s
  unfold apStep
  by_cases hl : long3 n = ⟨0, 0, 0⟩
  · simp only [hl, if_true]
  · rw [if_neg hl, if_neg hl, gapsF_more]
    generalize gapsF (long3 n) a0 ar ra b0 br rb = q
    obtain ⟨q1, q2⟩ := q
    simp only [lessG]
    cases f
    · by_cases h1 : g < q1
      · have h1' : g - m < q1 - m := by omega
        simp only [Bool.false_eq_true, false_or, h1, h1', if_true]
        by_cases h2 : q1 < q2
        · have h2' : q1 - m < q2 - m := by omega
          simp only [h2, h2', if_true]
        · have h2' : ¬ (q1 - m < q2 - m) := by omega
          simp only [h2, h2', if_false]
      · have h1' : ¬ (g - m < q1 - m) := by omega
        simp only [Bool.false_eq_true, false_or, h1, h1', if_false]
        by_cases h2 : g < q2
        · have h2' : g - m < q2 - m := by omega
          simp only [h2, h2', if_true]
        · have h2' : ¬ (g - m < q2 - m) := by omega
          simp only [h2, h2', if_false]
    · simp only [true_or, if_true]
      by_cases h2 : q1 < q2
      · have h2' : q1 - m < q2 - m := by omega
        simp only [h2, h2', if_true]
      · have h2' : ¬ (q1 - m < q2 - m) := by omega
        simp only [h2, h2', if_false]
theorem apF_more (a0 : P3) (ar : List P3) (ra m : Int) (b0 : P3) (br : List P3) (rb : Int) (l : List P3) : apF a0 ar (ra + m) b0 br rb l = lessG m (apF a0 ar ra b0 br rb l) := by
  have gen : ∀ (l : List P3) (s : (P3 × Int) × Bool), l.foldl (apStep a0 ar (ra + m) b0 br rb) (lessG m s) = lessG m (l.foldl (apStep a0 ar ra b0 br rb) s) := by
    intro l
    induction l with
    | nil => intro s; rfl
    | cons x l ih => intro s; rw [List.foldl_cons, List.foldl_cons, apStep_more]; exact ih _
  have h := gen l ((⟨0, 0, 1048576⟩, -ra - rb), true)
  unfold apF
  rw [← h]
  have e : lessG m ((⟨0, 0, 1048576⟩, -ra - rb), true) = (((⟨0, 0, 1048576⟩ : P3), -(ra + m) - rb), true) := by unfold lessG; simp only [Prod.mk.injEq, and_true, true_and]; omega
  rw [e]
theorem apartF_more (p a e : List P3) (r m : Int) (q b f : List P3) (s : Int) : apartF p a e (r + m) q b f s = ((apartF p a e r q b f s).1, (apartF p a e r q b f s).2 - m) := by
  unfold apartF; rw [apF_more]; rfl
theorem reachF_le (n p0 : P3) (r : List P3) : (reachF n p0 r).1 ≤ (reachF n p0 r).2 := by
  have gen : ∀ (l : List P3) (s : Int × Int), s.1 ≤ s.2 → (l.foldl (rstep n) s).1 ≤ (l.foldl (rstep n) s).2 := by
    intro l
    induction l with
    | nil => intro s h; exact h
    | cons p l ih =>
      intro s h
      obtain ⟨m1, m2, m3⟩ := mx_facts s.2 (dot3 n p)
      obtain ⟨k1, k2, k3⟩ := mn_facts s.1 (dot3 n p)
      exact ih _ (by unfold rstep; simp only; omega)
  exact gen r _ (Int.le_refl _)
theorem gapV_low (s up down ra rb : Int) (hs : s ≤ 0) (hd : 0 < down) : gapV s up down ra rb ≤ -ra - rb := by
  unfold gapV
  split
  · have : s = 0 := by omega
    subst this; rw [Int.zero_ediv]; omega
  · have := Int.ediv_nonneg (show 0 ≤ -s + down - 1 by omega) (Int.le_of_lt hd); omega
theorem apF_self (p0 : P3) (r : List P3) (ra : Int) (l : List P3) : (apF p0 r ra p0 r ra l).1.2 ≤ -2 * ra := by
  have gen : ∀ (l : List P3) (s : (P3 × Int) × Bool), s.1.2 ≤ -2 * ra → (l.foldl (apStep p0 r ra p0 r ra) s).1.2 ≤ -2 * ra := by
    intro l
    induction l with
    | nil => intro s h; exact h
    | cons x l ih =>
      intro s h
      rw [List.foldl_cons]
      apply ih
      unfold apStep
      by_cases hl : long3 x = ⟨0, 0, 0⟩
      · rw [if_pos hl]; exact h
      · rw [if_neg hl]
        have hd := fl3_pos _ hl
        have hr := reachF_le (long3 x) p0 r
        have g1 := gapV_low ((reachF (long3 x) p0 r).1 - (reachF (long3 x) p0 r).2) (ce3 (long3 x)) (fl3 (long3 x)) ra ra (by omega) (by omega)
        unfold gapsF
        simp only
        repeat' split
        all_goals ((try simp only); omega)
  exact gen l _ (by simp only; omega)
theorem apartF_self (p a e : List P3) (r : Int) : (apartF p a e r p a e r).2 ≤ -2 * r := apF_self _ _ _ _
end Go.Proofs.Ytckdhahceelckaa.G
namespace Go.Proofs.Ytckdhahceelckaa.G
open Go.RowKit Go.Proofs.YtckdhahceelckaaW.PrintWords
set_option linter.unusedVariables false
theorem apF_inv (a0 : P3) (ar : List P3) (ra : Int) (b0 : P3) (br : List P3) (rb : Int) (l : List P3) :
    ((apF a0 ar ra b0 br rb l).2 = true ∧ (apF a0 ar ra b0 br rb l).1 = (⟨0, 0, 1048576⟩, -ra - rb) ∧ ∀ x ∈ l, long3 x = ⟨0, 0, 0⟩) ∨
    ((apF a0 ar ra b0 br rb l).2 = false ∧ ∃ x ∈ l, long3 x ≠ ⟨0, 0, 0⟩ ∧ ((apF a0 ar ra b0 br rb l).1 = (long3 x, (gapsF (long3 x) a0 ar ra b0 br rb).1) ∨ (apF a0 ar ra b0 br rb l).1 = (minus3 ⟨0, 0, 0⟩ (long3 x), (gapsF (long3 x) a0 ar ra b0 br rb).2))) := by
  have gen : ∀ (k : Nat), k ≤ l.length → ((apF a0 ar ra b0 br rb (l.take k)).2 = true ∧ (apF a0 ar ra b0 br rb (l.take k)).1 = (⟨0, 0, 1048576⟩, -ra - rb) ∧ ∀ x ∈ l.take k, long3 x = ⟨0, 0, 0⟩) ∨
    ((apF a0 ar ra b0 br rb (l.take k)).2 = false ∧ ∃ x ∈ l.take k, long3 x ≠ ⟨0, 0, 0⟩ ∧ ((apF a0 ar ra b0 br rb (l.take k)).1 = (long3 x, (gapsF (long3 x) a0 ar ra b0 br rb).1) ∨ (apF a0 ar ra b0 br rb (l.take k)).1 = (minus3 ⟨0, 0, 0⟩ (long3 x), (gapsF (long3 x) a0 ar ra b0 br rb).2))) := by
    intro k
    induction k with
    | zero => intro _; left; exact ⟨rfl, rfl, by simp⟩
    | succ k ih =>
      intro hk
      have e : l.take (k + 1) = l.take k ++ [l[k]] := by rw [List.take_succ_eq_append_getElem (by omega)]
      rw [e, apF_snoc]
      have ih := ih (by omega)
      generalize apF a0 ar ra b0 br rb (l.take k) = s at ih
      unfold apStep
      by_cases h : long3 l[k] = ⟨0, 0, 0⟩
      · rw [if_pos h]
        rcases ih with ⟨h1, h2, h3⟩ | ⟨h1, x, hx, h2⟩
        · left
          refine ⟨h1, h2, fun x hx => ?_⟩
          rcases List.mem_append.1 hx with hx | hx
          · exact h3 x hx
          · simp at hx; rw [hx]; exact h
        · right; exact ⟨h1, x, List.mem_append_left _ hx, h2⟩
      · rw [if_neg h]
        right
        refine ⟨rfl, ?_⟩
        have hm : l[k] ∈ l.take k ++ [l[k]] := List.mem_append_right _ (List.mem_singleton.2 rfl)
        simp only
        by_cases g2 : (if s.2 = true ∨ s.1.2 < (gapsF (long3 l[k]) a0 ar ra b0 br rb).1 then (long3 l[k], (gapsF (long3 l[k]) a0 ar ra b0 br rb).1) else s.1).2 < (gapsF (long3 l[k]) a0 ar ra b0 br rb).2
        · rw [if_pos g2]; exact ⟨l[k], hm, h, .inr rfl⟩
        · rw [if_neg g2]
          by_cases g1 : s.2 = true ∨ s.1.2 < (gapsF (long3 l[k]) a0 ar ra b0 br rb).1
          · rw [if_pos g1]; exact ⟨l[k], hm, h, .inl rfl⟩
          · rw [if_neg g1]
            rcases ih with ⟨h1, _⟩ | ⟨h1, x, hx, h2⟩
            · exact absurd (.inl h1) g1
            · exact ⟨x, List.mem_append_left _ hx, h2⟩
  have := gen l.length (Nat.le_refl _)
  rwa [List.take_length] at this
theorem gapV_bd (s up down ra rb : Int) (hs : -1125899906842624 ≤ s ∧ s ≤ 1125899906842624) (hd : 1 ≤ down) (hu : 1 ≤ up) (hra : 0 ≤ ra ∧ ra ≤ 131072) (hrb : 0 ≤ rb ∧ rb ≤ 131072) : -2251799813685248 ≤ gapV s up down ra rb ∧ gapV s up down ra rb ≤ 2251799813685248 := by
  unfold gapV
  split
  · have h1 := Int.ediv_nonneg (show 0 ≤ s by omega) (show 0 ≤ up by omega)
    have h2 := Int.ediv_le_self up (show 0 ≤ s by omega)
    omega
  · have h1 := Int.ediv_nonneg (show 0 ≤ -s + down - 1 by omega) (show 0 ≤ down by omega)
    have h2 : (-s + down - 1) / down ≤ -s := by
      apply Int.le_of_lt_add_one
      apply Int.ediv_lt_of_lt_mul (by omega)
      have : (-s + 1) * down = -s * (down - 1) + -s + down := by grind
      have := Int.mul_nonneg (show 0 ≤ -s by omega) (show 0 ≤ down - 1 by omega)
      omega
    omega
theorem reach_bd {n p0 : P3} {r : List P3} (hn : in3 1048576 n) (h : ∀ p ∈ p0 :: r, in3 16777216 p) : -52776558133248 ≤ (reachF n p0 r).1 ∧ (reachF n p0 r).1 ≤ 52776558133248 ∧ -52776558133248 ≤ (reachF n p0 r).2 ∧ (reachF n p0 r).2 ≤ 52776558133248 := by
  have each : ∀ p, in3 16777216 p → -52776558133248 ≤ dot3 n p ∧ dot3 n p ≤ 52776558133248 := by
    intro p hp
    rw [dot3_eq n p 1048576 16777216 hn hp (by decide)]
    have := dotI_bd n p 1048576 16777216 hn hp
    omega
  exact reachF_bd n p0 r 52776558133248 (each p0 (h p0 (by simp))) fun p hp => each p (h p (by simp [hp]))
theorem gapsF_bd {n a0 b0 : P3} {ar br : List P3} {ra rb : Int} (hn : in3 1048576 n) (h0 : n ≠ ⟨0, 0, 0⟩) (ha : ∀ p ∈ a0 :: ar, in3 16777216 p) (hb : ∀ p ∈ b0 :: br, in3 16777216 p) (hra : 0 ≤ ra ∧ ra ≤ 131072) (hrb : 0 ≤ rb ∧ rb ≤ 131072) :
    (-2251799813685248 ≤ (gapsF n a0 ar ra b0 br rb).1 ∧ (gapsF n a0 ar ra b0 br rb).1 ≤ 2251799813685248) ∧ -2251799813685248 ≤ (gapsF n a0 ar ra b0 br rb).2 ∧ (gapsF n a0 ar ra b0 br rb).2 ≤ 2251799813685248 := by
  have h1 := reach_bd hn ha
  have h2 := reach_bd hn hb
  have h3 := fl3_pos n h0
  have h4 := ce3_bd n
  unfold gapsF
  exact ⟨gapV_bd _ _ _ _ _ (by omega) h3 (by omega) hra hrb, gapV_bd _ _ _ _ _ (by omega) h3 (by omega) hra hrb⟩
theorem far_in {n : Int} (h0 : 0 ≤ n) (h1 : n ≤ 9223372036854775807) {l : List P3} (h : l.any (far3 n) = false) : ∀ x ∈ l, in3 n x := by
  intro x hx
  rw [List.any_eq_false] at h
  have := h x hx
  exact (far3_iff n x h0 h1).1 (by simpa using this)
theorem MayP.pts {p a e : List P3} {r : Int} (m : MayP p a e r) : ∃ p0 pr, p = p0 :: pr ∧ ∀ x ∈ p0 :: pr, in3 16777216 x := by
  obtain ⟨p0, pr, rfl⟩ := List.exists_cons_of_ne_nil m.p0
  exact ⟨p0, pr, rfl, far_in (by decide) (by decide) m.pf⟩
theorem apartF_bd {p a e : List P3} {r : Int} {q b f : List P3} {s : Int} (m : MayP p a e r) (k : MayP q b f s) : -2251799813685248 ≤ (apartF p a e r q b f s).2 ∧ (apartF p a e r q b f s).2 ≤ 2251799813685248 := by
  obtain ⟨p0, pr, rfl, hp⟩ := m.pts
  obtain ⟨q0, qr, rfl, hq⟩ := k.pts
  have m0 := m.r0
  have m1 := m.r1
  have k0 := k.r0
  have k1 := k.r1
  unfold apartF
  simp only [List.headD_cons, List.tail_cons]
  rcases apF_inv p0 pr r q0 qr s (rawC (p0 :: pr) a e (q0 :: qr) b f) with ⟨_, h, _⟩ | ⟨_, x, _, h0, h | h⟩
  · rw [h]; simp only; omega
  · rw [h]; exact (gapsF_bd (long3_in x) h0 hp hq (by omega) (by omega)).1
  · rw [h]; exact (gapsF_bd (long3_in x) h0 hp hq (by omega) (by omega)).2
end Go.Proofs.Ytckdhahceelckaa.G
namespace Go.Proofs.Ytckdhahceelckaa.G
open Go.RowKit Go.Proofs.YtckdhahceelckaaW.PrintWords
set_option linter.unusedVariables false
theorem dot3_negI (n p : P3) (hn : in3 1048576 n) (hp : in3 16777216 p) : dot3 (negI n) p = -dot3 n p := by
  have hn' : in3 1048576 (negI n) := by unfold in3 negI at *; simp only; omega
  rw [dot3_eq n p 1048576 16777216 hn hp (by decide), dot3_eq _ p 1048576 16777216 hn' hp (by decide)]
  unfold dotI negI
  simp only [Int.neg_mul]
  omega
theorem negI_in {n : P3} {m : Int} (h : in3 m n) : in3 m (negI n) := by unfold in3 negI at *; simp only; omega
theorem negI_ne {n : P3} (h : n ≠ ⟨0, 0, 0⟩) : negI n ≠ ⟨0, 0, 0⟩ := fun e => h (by
  unfold negI at e
  simp only [P3.mk.injEq] at e
  cases n
  simp only [P3.mk.injEq]
  simp only at e
  omega)
theorem sizes_negI (n : P3) : fl3 (negI n) = fl3 n ∧ ce3 (negI n) = ce3 n := by
  have e : dotI (negI n) (negI n) = dotI n n := by unfold dotI negI; simp only [Int.neg_mul_neg]
  unfold ce3 fl3
  rw [e]
  exact ⟨rfl, rfl⟩
theorem reach_negI {n p0 : P3} {r : List P3} (hn : in3 1048576 n) (hp : ∀ p ∈ p0 :: r, in3 16777216 p) : (reachF (negI n) p0 r).1 = -(reachF n p0 r).2 ∧ (reachF (negI n) p0 r).2 = -(reachF n p0 r).1 := by
  have gen : ∀ (l : List P3) (s t : Int × Int), (∀ p ∈ l, in3 16777216 p) → t.1 = -s.2 → t.2 = -s.1 → (l.foldl (rstep (negI n)) t).1 = -(l.foldl (rstep n) s).2 ∧ (l.foldl (rstep (negI n)) t).2 = -(l.foldl (rstep n) s).1 := by
    intro l
    induction l with
    | nil => intro s t _ h1 h2; exact ⟨h1, h2⟩
    | cons p l ih =>
      intro s t h h1 h2
      rw [List.foldl_cons, List.foldl_cons]
      refine ih _ _ (fun q hq => h q (by simp [hq])) ?_ ?_
      · unfold rstep mn mx
        simp only
        rw [dot3_negI n p hn (h p (by simp)), h1]
        split <;> split <;> omega
      · unfold rstep mn mx
        simp only
        rw [dot3_negI n p hn (h p (by simp)), h2]
        split <;> split <;> omega
  unfold reachF
  exact gen r _ _ (fun q hq => hp q (by simp [hq])) (dot3_negI n p0 hn (hp p0 (by simp))) (dot3_negI n p0 hn (hp p0 (by simp)))
theorem gaps_negI {n a0 b0 : P3} {ar br : List P3} (ra rb : Int) (hn : in3 1048576 n) (ha : ∀ p ∈ a0 :: ar, in3 16777216 p) (hb : ∀ p ∈ b0 :: br, in3 16777216 p) : (gapsF (negI n) a0 ar ra b0 br rb).1 = (gapsF n a0 ar ra b0 br rb).2 := by
  unfold gapsF
  simp only
  rw [(reach_negI hn ha).2, (reach_negI hn hb).1, (sizes_negI n).1, (sizes_negI n).2]
  congr 1
  omega
theorem minus_zeroI {n : P3} (h : in3 1048576 n) : minus3 ⟨0, 0, 0⟩ n = negI n := by
  rw [minus3_eq _ _ (by unfold in3; simp) (in3_le (by decide) h)]
  unfold negI
  simp
theorem reach_at (n p0 : P3) (r : List P3) : ∀ p ∈ p0 :: r, (reachF n p0 r).1 ≤ dot3 n p ∧ dot3 n p ≤ (reachF n p0 r).2 := by
  have gen : ∀ (l : List P3) (s : Int × Int), (l.foldl (rstep n) s).1 ≤ s.1 ∧ s.2 ≤ (l.foldl (rstep n) s).2 ∧ ∀ p ∈ l, (l.foldl (rstep n) s).1 ≤ dot3 n p ∧ dot3 n p ≤ (l.foldl (rstep n) s).2 := by
    intro l
    induction l with
    | nil => intro s; exact ⟨Int.le_refl _, Int.le_refl _, by simp⟩
    | cons p l ih =>
      intro s
      rw [List.foldl_cons]
      obtain ⟨h1, h2, h3⟩ := ih (rstep n s p)
      obtain ⟨m1, m2, _⟩ := mx_facts s.2 (dot3 n p)
      obtain ⟨k1, k2, _⟩ := mn_facts s.1 (dot3 n p)
      have e1 : (rstep n s p).1 = mn s.1 (dot3 n p) := rfl
      have e2 : (rstep n s p).2 = mx s.2 (dot3 n p) := rfl
      rw [e1] at h1
      rw [e2] at h2
      refine ⟨by omega, by omega, fun q hq => ?_⟩
      rcases List.mem_cons.1 hq with rfl | hq
      · omega
      · exact h3 q hq
  obtain ⟨h1, h2, h3⟩ := gen r (dot3 n p0, dot3 n p0)
  intro p hp
  rcases List.mem_cons.1 hp with rfl | hp
  · exact ⟨h1, h2⟩
  · exact h3 p hp
theorem dot3_minus {n P Q : P3} (hn : in3 1048576 n) (hP : in3 16777216 P) (hQ : in3 16777216 Q) : dot3 n (minus3 Q P) = dot3 n Q - dot3 n P := by
  rw [minus3_eq Q P (in3_le (by decide) hQ) (in3_le (by decide) hP)]
  have hd : in3 33554432 (⟨Q.x - P.x, Q.y - P.y, Q.z - P.z⟩ : P3) := by unfold in3 at *; simp only; omega
  rw [dot3_eq n _ 1048576 33554432 hn hd (by decide), dot3_eq n Q 1048576 16777216 hn hQ (by decide), dot3_eq n P 1048576 16777216 hn hP (by decide)]
  unfold dotI
  simp only
  grind
/-- what Sound asks -/
structure SoundP (p q : List P3) (r s : Int) (X : P3) (G : Int) (g by_ B : Int) : Prop where
  hg : wrap64 (wrap64 (G + r) + s) = g
  hf : (sz3 X).1 ≠ 0
  hby : (if 0 ≤ g then (sz3 X).2 else (sz3 X).1) = by_
  hB : wrap64 (g * by_) = B
  all : ∀ P ∈ p, ∀ Q ∈ q, B ≤ dot3 X (minus3 Q P)
theorem sz3_in {n : P3} (hn : in3 1048576 n) : sz3 n = (fl3 n, ce3 n) := by
  unfold sz3
  rw [(far3_iff _ n (by decide) (by decide)).2 (in3_le (by decide) hn)]
  rfl
theorem w64I {x : Int} (h : -9223372036854775808 ≤ x ∧ x ≤ 9223372036854775807) : wrap64 x = x := by unfold wrap64; omega
theorem gap_arith (t ce fl r s : Int) (ht : -1125899906842624 ≤ t ∧ t ≤ 1125899906842624) (hf : 1 ≤ fl) (hfl : fl ≤ 16777216) (hc : fl ≤ ce ∧ ce ≤ fl + 1) (hr : 0 ≤ r ∧ r ≤ 65536) (hs : 0 ≤ s ∧ s ≤ 65536) :
    ∃ g B, wrap64 (wrap64 (gapV t ce fl r s + r) + s) = g ∧ wrap64 (g * (if 0 ≤ g then ce else fl)) = B ∧ B ≤ t := by
  unfold gapV
  by_cases h : 0 ≤ t
  · rw [if_pos h]
    have q1 : 0 ≤ t / ce := Int.ediv_nonneg h (by omega)
    have q2 : t / ce ≤ t := Int.ediv_le_self _ h
    have q3 : t / ce * ce ≤ t := Int.ediv_mul_le t (by omega)
    have q4 := Int.mul_nonneg q1 (show 0 ≤ ce by omega)
    refine ⟨t / ce, t / ce * ce, ?_, ?_, q3⟩
    · rw [w64I (x := t / ce - r - s + r) (by omega), w64I (by omega)]; omega
    · rw [if_pos q1]; exact w64I (by omega)
  · rw [if_neg h]
    have p0 : 0 ≤ -t + fl - 1 := by omega
    have q1 : 0 ≤ (-t + fl - 1) / fl := Int.ediv_nonneg p0 (by omega)
    have q2 : (-t + fl - 1) / fl ≤ -t + fl - 1 := Int.ediv_le_self _ p0
    have q3 : (-t + fl - 1) / fl * fl ≤ -t + fl - 1 := Int.ediv_mul_le _ (by omega)
    have q4 : -t + fl - 1 < ((-t + fl - 1) / fl + 1) * fl := Int.lt_ediv_add_one_mul_self _ (by omega)
    rw [Int.add_mul, Int.one_mul] at q4
    generalize (-t + fl - 1) / fl = k at q1 q2 q3 q4
    have q5 := Int.mul_nonneg q1 (show 0 ≤ fl by omega)
    have q6 : k ≠ 0 := by
      intro e
      rw [e, Int.zero_mul] at q4
      omega
    refine ⟨-k, -(k * fl), ?_, ?_, by omega⟩
    · rw [w64I (x := -k - r - s + r) (by omega), w64I (by omega)]; omega
    · rw [if_neg (by omega), Int.neg_mul]; exact w64I (by omega)
/-- a direction's own gap is proved by it -/
theorem sound_told {n p0 q0 : P3} {pr qr : List P3} {r s : Int} (hn : in3 1048576 n) (h0 : n ≠ ⟨0, 0, 0⟩) (hp : ∀ p ∈ p0 :: pr, in3 16777216 p) (hq : ∀ p ∈ q0 :: qr, in3 16777216 p) (hr : 0 ≤ r ∧ r ≤ 65536) (hs : 0 ≤ s ∧ s ≤ 65536) :
    ∃ g by_ B, SoundP (p0 :: pr) (q0 :: qr) r s n (gapsF n p0 pr r q0 qr s).1 g by_ B := by
  have h1 := reach_bd hn hp
  have h2 := reach_bd hn hq
  have hf := fl3_pos n h0
  have hfl := fl3_le n hn
  have hc := ce3_bd n
  have hd : ∀ P ∈ p0 :: pr, ∀ Q ∈ q0 :: qr, (reachF n q0 qr).1 - (reachF n p0 pr).2 ≤ dot3 n (minus3 Q P) := fun P hP Q hQ => by
    rw [dot3_minus hn (hp P hP) (hq Q hQ)]
    have := (reach_at n p0 pr P hP).2
    have := (reach_at n q0 qr Q hQ).1
    omega
  have hsz := sz3_in hn
  obtain ⟨g, B, e1, e2, e3⟩ := gap_arith ((reachF n q0 qr).1 - (reachF n p0 pr).2) (ce3 n) (fl3 n) r s (by omega) hf hfl hc hr hs
  refine ⟨g, _, B, ⟨e1, by rw [hsz]; simp only; omega, by rw [hsz], e2, fun P hP Q hQ => Int.le_trans e3 (hd P hP Q hQ)⟩⟩
/-- a core has a way of its own, or two points at most -/
def Ways (p a : List P3) : Prop := p.length ≤ 2 ∨ ∃ x ∈ a, long3 x ≠ ⟨0, 0, 0⟩
theorem sound_plain {p a e q b f : List P3} {r s : Int} (m : MayP p a e r) (k : MayP q b f s) (ha : Ways p a) (hb : Ways q b) (R : P3 × Int) (hR : apartF p a e r q b f s = R) : ∃ g by_ B, SoundP p q r s R.1 R.2 g by_ B := by
  obtain ⟨p0, pr, rfl, hp⟩ := m.pts
  obtain ⟨q0, qr, rfl, hq⟩ := k.pts
  have hr := And.intro m.r0 m.r1
  have hs := And.intro k.r0 k.r1
  subst hR
  unfold apartF
  simp only [List.headD_cons, List.tail_cons]
  rcases apF_inv p0 pr r q0 qr s (rawC (p0 :: pr) a e (q0 :: qr) b f) with ⟨_, h, hno⟩ | ⟨_, x, _, h0, h | h⟩
  · rw [h]
    simp only
    have two : (p0 :: pr).length ≤ 2 ∧ (q0 :: qr).length ≤ 2 := by
      refine ⟨ha.resolve_right ?_, hb.resolve_right ?_⟩
      · rintro ⟨x, hx, hx0⟩
        exact hx0 (hno x (by unfold rawC; simp [hx]))
      · rintro ⟨x, hx, hx0⟩
        exact hx0 (hno x (by unfold rawC; simp [hx]))
    have eq : ∀ P ∈ p0 :: pr, ∀ Q ∈ q0 :: qr, minus3 Q P = ⟨0, 0, 0⟩ := by
      intro P hP Q hQ
      have hd : in3 4398046511104 (minus3 Q P) := by
        have h1 := hp P hP
        have h2 := hq Q hQ
        rw [minus3_eq Q P (in3_le (by decide) h2) (in3_le (by decide) h1)]
        unfold in3 at *
        simp only
        omega
      have hz := hno (short3 (minus3 Q P)) (by
        unfold rawC
        rw [if_neg (by unfold mn; split <;> omega)]
        refine List.mem_append_right _ (List.mem_append_right _ ?_)
        unfold pointW
        refine List.mem_flatMap.2 ⟨P, hP, List.mem_flatMap.2 ⟨Q, hQ, ?_⟩⟩
        unfold roundW
        exact List.mem_cons_self)
      by_cases hz0 : minus3 Q P = ⟨0, 0, 0⟩
      · exact hz0
      · exact absurd hz (way_near _ hd hz0).1
    have e1 : wrap64 (wrap64 (-r - s + r) + s) = 0 := by
      rw [w64I (x := -r - s + r) (by omega), w64I (by omega)]; omega
    have z : wrap64 0 = 0 := w64I (by omega)
    have hz1 := sz3_in (n := ⟨0, 0, 1048576⟩) (by unfold in3; simp)
    have hz2 := fl3_pos ⟨0, 0, 1048576⟩ (fun h => absurd (congrArg P3.z h) (by simp))
    refine ⟨0, _, 0, ⟨e1, by rw [hz1]; simp only; omega, rfl, by rw [Int.zero_mul]; exact z, fun P hP Q hQ => ?_⟩⟩
    rw [eq P hP Q hQ]
    unfold dot3
    simp only [Int.mul_zero, z, Int.add_zero, Int.le_refl]
  · rw [h]
    exact sound_told (long3_in x) h0 hp hq hr hs
  · rw [h, minus_zeroI (long3_in x)]
    simp only
    rw [← gaps_negI r s (long3_in x) hp hq]
    exact sound_told (negI_in (long3_in x)) (negI_ne h0) hp hq hr hs
end Go.Proofs.Ytckdhahceelckaa.G
namespace Go.Proofs.Ytckdhahceelckaa.G
open Go.RowKit Go.Proofs.YtckdhahceelckaaW.PrintWords
set_option linter.unusedVariables false
theorem min_ratio (f g : P3 → Int) : ∀ (l : List P3), (∀ p ∈ l, 0 ≤ f p) → (∃ p ∈ l, g p < 0) → ∃ p ∈ l, g p < 0 ∧ ∀ o ∈ l, g o < 0 → f p * (-(g o)) ≤ f o * (-(g p))
  | [], _, h => by obtain ⟨p, hp, _⟩ := h; simp at hp
  | x :: l, hf, h => by
    have hf' : ∀ p ∈ l, 0 ≤ f p := fun p hp => hf p (List.mem_cons_of_mem _ hp)
    by_cases hl : ∃ p ∈ l, g p < 0
    · obtain ⟨p, hp, gp, hmin⟩ := min_ratio f g l hf' hl
      by_cases hx : g x < 0 ∧ f x * (-(g p)) ≤ f p * (-(g x))
      · refine ⟨x, List.mem_cons_self, hx.1, fun o ho go => ?_⟩
        rcases List.mem_cons.1 ho with rfl | ho
        · exact Int.le_refl _
        · have h1 := Int.mul_le_mul_of_nonneg_right hx.2 (show 0 ≤ -(g o) by omega)
          have h2 := Int.mul_le_mul_of_nonneg_right (hmin o ho go) (show 0 ≤ -(g x) by omega)
          refine Int.le_of_mul_le_mul_right (a := -(g p)) ?_ (by omega)
          have e1 : f x * -(g o) * -(g p) = f x * -(g p) * -(g o) := by grind
          have e2 : f p * -(g x) * -(g o) = f p * -(g o) * -(g x) := by grind
          have e3 : f o * -(g x) * -(g p) = f o * -(g p) * -(g x) := by grind
          omega
      · refine ⟨p, List.mem_cons_of_mem _ hp, gp, fun o ho go => ?_⟩
        rcases List.mem_cons.1 ho with rfl | ho
        · have : ¬ (f o * (-(g p)) ≤ f p * (-(g o))) := fun h' => hx ⟨go, h'⟩
          omega
        · exact hmin o ho go
    · obtain ⟨p, hp, gp⟩ := h
      rcases List.mem_cons.1 hp with rfl | hp
      · refine ⟨p, List.mem_cons_self, gp, fun o ho go => ?_⟩
        rcases List.mem_cons.1 ho with rfl | ho
        · exact Int.le_refl _
        · exact absurd ⟨o, ho, go⟩ hl
      · exact absurd ⟨p, hp, gp⟩ hl
def combI (α β : Int) (n m : P3) : P3 := ⟨α * n.x + β * m.x, α * n.y + β * m.y, α * n.z + β * m.z⟩
theorem dot_comb (α β : Int) (n m v : P3) : dotI (combI α β n m) v = α * dotI n v + β * dotI m v := by unfold dotI combI; grind
theorem rotate_ (l : List P3) (a n m : P3) (hn : ∀ p ∈ l, 0 ≤ dotI n (subI p a)) (hz : ∀ p ∈ l, dotI n (subI p a) = 0 → dotI m (subI p a) = 0) (hex : ∃ p ∈ l, dotI m (subI p a) ≠ 0) :
    ∃ α β p, 0 < α ∧ p ∈ l ∧ dotI m (subI p a) ≠ 0 ∧ (∀ o ∈ l, 0 ≤ dotI (combI α β n m) (subI o a)) ∧ dotI (combI α β n m) (subI p a) = 0 := by
  obtain ⟨t, ht, hneg⟩ : ∃ t : Int, (t = 1 ∨ t = -1) ∧ ∃ p ∈ l, t * dotI m (subI p a) < 0 := by
    obtain ⟨p, hp, h⟩ := hex
    rcases Int.lt_or_gt_of_ne h with h | h
    · exact ⟨1, .inl rfl, p, hp, by omega⟩
    · exact ⟨-1, .inr rfl, p, hp, by omega⟩
  obtain ⟨p, hp, gp, hmin⟩ := min_ratio (fun o => dotI n (subI o a)) (fun o => t * dotI m (subI o a)) l hn hneg
  (try simp only at gp hmin)
  refine ⟨-(t * dotI m (subI p a)), t * dotI n (subI p a), p, by omega, hp, ?_, ?_, ?_⟩
  · intro e
    rw [e, Int.mul_zero] at gp
    omega
  · intro o ho
    rw [dot_comb]
    have hfo := hn o ho
    have hfp := hn p hp
    by_cases hg : t * dotI m (subI o a) < 0
    · have := hmin o ho hg
      have e1 : -(t * dotI m (subI p a)) * dotI n (subI o a) = dotI n (subI o a) * -(t * dotI m (subI p a)) := by grind
      have e2 : t * dotI n (subI p a) * dotI m (subI o a) = -(dotI n (subI p a) * -(t * dotI m (subI o a))) := by grind
      rw [e1, e2]
      omega
    · have h1 := Int.mul_nonneg (show 0 ≤ -(t * dotI m (subI p a)) by omega) hfo
      have h2 := Int.mul_nonneg hfp (show 0 ≤ t * dotI m (subI o a) by omega)
      have e2 : t * dotI n (subI p a) * dotI m (subI o a) = dotI n (subI p a) * (t * dotI m (subI o a)) := by grind
      rw [e2]
      omega
  · rw [dot_comb]
    grind
theorem min_at (f : P3 → Int) : ∀ (l : List P3), l ≠ [] → ∃ p ∈ l, ∀ o ∈ l, f p ≤ f o
  | [], h => absurd rfl h
  | [x], _ => ⟨x, by simp, fun o ho => by simp at ho; rw [ho]; exact Int.le_refl _⟩
  | x :: y :: l, _ => by
    obtain ⟨p, hp, h⟩ := min_at f (y :: l) (by simp)
    by_cases hx : f x ≤ f p
    · refine ⟨x, List.mem_cons_self, fun o ho => ?_⟩
      rcases List.mem_cons.1 ho with rfl | ho
      · exact Int.le_refl _
      · exact Int.le_trans hx (h o ho)
    · refine ⟨p, List.mem_cons_of_mem _ hp, fun o ho => ?_⟩
      rcases List.mem_cons.1 ho with rfl | ho
      · omega
      · exact h o ho
theorem sub_ne {a b : P3} (h : b ≠ a) : subI b a ≠ ⟨0, 0, 0⟩ := fun e => h (by
  unfold subI at e
  simp only [P3.mk.injEq] at e
  cases a; cases b
  simp only [P3.mk.injEq]
  simp only at e
  omega)
theorem dotI_ne {n : P3} (h : n ≠ ⟨0, 0, 0⟩) : 0 < dotI n n := dotI_pos n h
/-- a plane that all points lie on one side of, and three points in it -/
theorem support {l : List P3} (hin : ∀ p ∈ l, in3 65536 p) (hf : ¬ FlatP l) : ∃ a b c n, a ∈ l ∧ b ∈ l ∧ c ∈ l ∧ n ≠ ⟨0, 0, 0⟩ ∧ (∀ p ∈ l, 0 ≤ dotI n (subI p a)) ∧ dotI n (subI b a) = 0 ∧ dotI n (subI c a) = 0 ∧ crossI (subI b a) (subI c a) ≠ ⟨0, 0, 0⟩ := by
  have hne : l ≠ [] := by
    rintro rfl
    exact hf (flat_of (l := []) (n := ⟨1, 0, 0⟩) (a := ⟨0, 0, 0⟩) (by simp) (by simp) (by simp))
  obtain ⟨a, ha, hmin⟩ := min_at (fun p => p.x) l hne
  (try simp only at hmin)
  obtain ⟨n1, b, hn1, hb, hba, hs1, hz1⟩ : ∃ n1 b, n1 ≠ (⟨0, 0, 0⟩ : P3) ∧ b ∈ l ∧ b ≠ a ∧ (∀ p ∈ l, 0 ≤ dotI n1 (subI p a)) ∧ dotI n1 (subI b a) = 0 := by
    have d0 : ∀ p : P3, dotI ⟨1, 0, 0⟩ (subI p a) = p.x - a.x := fun p => by unfold dotI subI; simp only; omega
    have d1 : ∀ p : P3, dotI ⟨0, 1, 0⟩ (subI p a) = p.y - a.y := fun p => by unfold dotI subI; simp only; omega
    by_cases h : ∃ b ∈ l, b ≠ a ∧ dotI ⟨1, 0, 0⟩ (subI b a) = 0
    · obtain ⟨b, hb, hba, hz⟩ := h
      exact ⟨⟨1, 0, 0⟩, b, by simp, hb, hba, fun p hp => by rw [d0]; have := hmin p hp; omega, hz⟩
    · obtain ⟨α, β, b, hα, hb, hm, hs, hz⟩ := rotate_ l a ⟨1, 0, 0⟩ ⟨0, 1, 0⟩ (fun p hp => by rw [d0]; have := hmin p hp; omega)
        (fun p hp h0 => by
          by_cases e : p = a
          · rw [e, d1]; omega
          · exact absurd ⟨p, hp, e, h0⟩ h)
        (by
          by_cases hx : ∃ p ∈ l, dotI ⟨0, 1, 0⟩ (subI p a) ≠ 0
          · exact hx
          · refine absurd (flat_of hin (n := ⟨0, 1, 0⟩) (a := a) (by simp) fun o ho => ?_) hf
            by_cases e : dotI ⟨0, 1, 0⟩ (subI o a) = 0
            · exact e
            · exact absurd ⟨o, ho, e⟩ hx)
      refine ⟨combI α β ⟨1, 0, 0⟩ ⟨0, 1, 0⟩, b, ?_, hb, ?_, hs, hz⟩
      · intro e
        unfold combI at e
        simp only [P3.mk.injEq] at e
        omega
      · rintro rfl
        rw [d1] at hm
        omega
  have hU := sub_ne hba
  by_cases h : ∃ c ∈ l, dotI n1 (subI c a) = 0 ∧ crossI (subI b a) (subI c a) ≠ ⟨0, 0, 0⟩
  · obtain ⟨c, hc, hz, hx⟩ := h
    exact ⟨a, b, c, n1, ha, hb, hc, hn1, hs1, hz1, hz, hx⟩
  · have hm : ∀ v, dotI (crossI n1 (subI b a)) v = dotI n1 (crossI (subI b a) v) := fun v => by unfold dotI crossI; grind
    have z0 : ∀ n : P3, dotI n ⟨0, 0, 0⟩ = 0 := fun n => by unfold dotI; simp
    have hmn : crossI n1 (subI b a) ≠ ⟨0, 0, 0⟩ := by
      intro e
      have h1 := lagI n1 (subI b a)
      rw [crI_cross, e, z0, hz1] at h1
      have h2 := Int.mul_pos (dotI_pos _ hn1) (dotI_pos _ hU)
      omega
    obtain ⟨α, β, c, hα, hc, hmc, hs, hz⟩ := rotate_ l a n1 (crossI n1 (subI b a)) hs1
      (fun p hp h0 => by
        rw [hm]
        by_cases e : crossI (subI b a) (subI p a) = ⟨0, 0, 0⟩
        · rw [e, z0]
        · exact absurd ⟨p, hp, h0, e⟩ h)
      (by
        by_cases hx : ∃ p ∈ l, dotI (crossI n1 (subI b a)) (subI p a) ≠ 0
        · exact hx
        · refine absurd (flat_of hin (a := a) hmn fun o ho => ?_) hf
          by_cases e : dotI (crossI n1 (subI b a)) (subI o a) = 0
          · exact e
          · exact absurd ⟨o, ho, e⟩ hx)
    refine ⟨a, b, c, combI α β n1 (crossI n1 (subI b a)), ha, hb, hc, ?_, hs, ?_, hz, ?_⟩
    · intro e
      have h1 := dot_comb α β n1 (crossI n1 (subI b a)) n1
      have h2 : dotI (crossI n1 (subI b a)) n1 = 0 := by unfold dotI crossI; grind
      rw [e, h2, Int.mul_zero, Int.add_zero] at h1
      have h3 : dotI (⟨0, 0, 0⟩ : P3) n1 = 0 := by unfold dotI; simp
      have h4 := Int.mul_pos hα (dotI_pos _ hn1)
      omega
    · rw [dot_comb, hz1]
      have h2 : dotI (crossI n1 (subI b a)) (subI b a) = 0 := by unfold dotI crossI; grind
      rw [h2]
      simp
    · intro e
      rw [hm, e, z0] at hmc
      exact hmc rfl
theorem fold_side (n a : P3) : ∀ (l : List P3) (s : Int × Int), ((∀ o ∈ l, 0 ≤ dot3 n (minus3 o a)) → 0 ≤ s.1 → 0 ≤ (l.foldl (sdStep n a) s).1) ∧ ((∀ o ∈ l, dot3 n (minus3 o a) ≤ 0) → s.2 ≤ 0 → (l.foldl (sdStep n a) s).2 ≤ 0)
  | [], s => ⟨fun _ h => h, fun _ h => h⟩
  | x :: l, s => by
    obtain ⟨h1, h2⟩ := fold_side n a l (sdStep n a s x)
    rw [List.foldl_cons]
    refine ⟨fun h hs => h1 (fun o ho => h o (List.mem_cons_of_mem _ ho)) ?_, fun h hs => h2 (fun o ho => h o (List.mem_cons_of_mem _ ho)) ?_⟩
    · have := h x List.mem_cons_self
      unfold sdStep mn
      simp only
      split <;> omega
    · have := h x List.mem_cons_self
      unfold sdStep mx
      simp only
      split <;> omega
theorem side_of {l : List P3} (hin : ∀ p ∈ l, in3 65536 p) {a n x y z : P3} (hn : n ≠ ⟨0, 0, 0⟩) (hs : ∀ p ∈ l, 0 ≤ dotI n (subI p a)) (mx_ : x ∈ l) (my_ : y ∈ l) (mz_ : z ∈ l) (hx : dotI n (subI x a) = 0) (hy : dotI n (subI y a) = 0) (hz : dotI n (subI z a) = 0) : sideF l (nrm3 x y z) x ≠ 0 := by
  obtain ⟨e, i1⟩ := nrm_at (hin _ mx_) (hin _ my_) (hin _ mz_)
  rw [e]
  have hv : ∀ o, dotI n (subI o x) = dotI n (subI o a) := fun o => by unfold dotI subI at *; grind
  have key : ∀ v, dotI n n * dotI (crossI (subI y x) (subI z x)) v = dotI n (crossI (subI y x) (subI z x)) * dotI n v := fun v => by
    have h1 := hv y
    have h2 := hv z
    rw [hy] at h1
    rw [hz] at h2
    generalize subI y x = Y at h1 h2
    generalize subI z x = Z at h1 h2
    unfold dotI crossI at *
    grind
  have hpos := dotI_pos n hn
  have hd : ∀ o ∈ l, dot3 (crossI (subI y x) (subI z x)) (minus3 o x) = dotI (crossI (subI y x) (subI z x)) (subI o x) := fun o ho => dot_in i1 (hin _ ho) (hin _ mx_)
  generalize crossI (subI y x) (subI z x) = N at key hd
  have h0 : ∀ o ∈ l, 0 ≤ dotI n (subI o x) := fun o ho => by rw [hv]; exact hs o ho
  unfold sideF sdF sideV
  obtain ⟨f1, f2⟩ := fold_side N x l (0, 0)
  rcases Int.le_total 0 (dotI n N) with hN | hN
  · have := f1 (fun o ho => by
      rw [hd o ho]
      have k := key (subI o x)
      have p := Int.mul_nonneg hN (h0 o ho)
      rw [← k] at p
      rcases Int.lt_or_le (dotI N (subI o x)) 0 with q | q
      · have := Int.mul_neg_of_pos_of_neg hpos q
        omega
      · exact q) (Int.le_refl _)
    split
    · decide
    · (try rw [if_pos this]); decide
  · have := f2 (fun o ho => by
      rw [hd o ho]
      have k := key (subI o x)
      have p := Int.mul_nonpos_of_nonpos_of_nonneg hN (h0 o ho)
      rw [← k] at p
      rcases Int.lt_or_le 0 (dotI N (subI o x)) with q | q
      · have := Int.mul_pos hpos q
        omega
      · exact q) (Int.le_refl _)
    rw [if_pos this]; decide
end Go.Proofs.Ytckdhahceelckaa.G
namespace Go.Proofs.Ytckdhahceelckaa.G
open Go.RowKit Go.Proofs.YtckdhahceelckaaW.PrintWords
set_option linter.unusedVariables false
theorem sort3 {l : List P3} {Q : P3 → P3 → P3 → Prop} (s12 : ∀ x y z, Q x y z → Q y x z) (s23 : ∀ x y z, Q x y z → Q x z y) (hne : ∀ x y z, Q x y z → x ≠ y) {a b c : P3} {i j k : Nat} (ha : l[i]? = some a) (hb : l[j]? = some b) (hc : l[k]? = some c) (h : Q a b c) :
    ∃ (i j k : Nat) (x y z : P3), i < j ∧ j < k ∧ l[i]? = some x ∧ l[j]? = some y ∧ l[k]? = some z ∧ Q x y z := by
  have hij : i ≠ j := fun e => by rw [e, hb] at ha; cases ha; exact hne _ _ _ h rfl
  have hik : i ≠ k := fun e => by rw [e, hc] at ha; cases ha; exact hne _ _ _ (s23 _ _ _ h) rfl
  have hjk : j ≠ k := fun e => by rw [e, hc] at hb; cases hb; exact hne _ _ _ (s23 _ _ _ (s12 _ _ _ h)) rfl
  rcases Nat.lt_or_gt_of_ne hij with h1 | h1 <;> rcases Nat.lt_or_gt_of_ne hik with h2 | h2 <;> rcases Nat.lt_or_gt_of_ne hjk with h3 | h3
  · exact ⟨i, j, k, a, b, c, h1, h3, ha, hb, hc, h⟩
  · exact ⟨i, k, j, a, c, b, h2, h3, ha, hc, hb, s23 _ _ _ h⟩
  · omega
  · exact ⟨k, i, j, c, a, b, h2, h1, hc, ha, hb, s12 _ _ _ (s23 _ _ _ h)⟩
  · exact ⟨j, i, k, b, a, c, h1, h2, hb, ha, hc, s12 _ _ _ h⟩
  · omega
  · exact ⟨j, k, i, b, c, a, h3, h2, hb, hc, ha, s23 _ _ _ (s12 _ _ _ h)⟩
  · exact ⟨k, j, i, c, b, a, h3, h1, hc, hb, ha, s23 _ _ _ (s12 _ _ _ (s23 _ _ _ h))⟩
theorem cross12 {x y z : P3} (h : crossI (subI y x) (subI z x) ≠ ⟨0, 0, 0⟩) : crossI (subI x y) (subI z y) ≠ ⟨0, 0, 0⟩ := fun e => h (by
  unfold crossI subI at *
  simp only [P3.mk.injEq] at *
  refine ⟨?_, ?_, ?_⟩ <;> grind)
theorem cross23 {x y z : P3} (h : crossI (subI y x) (subI z x) ≠ ⟨0, 0, 0⟩) : crossI (subI z x) (subI y x) ≠ ⟨0, 0, 0⟩ := fun e => h (by
  unfold crossI subI at *
  simp only [P3.mk.injEq] at *
  refine ⟨?_, ?_, ?_⟩ <;> grind)
theorem hull_axis {l axes edges : List P3} (hin : ∀ p ∈ l, in3 65536 p) (hf : ¬ FlatP l) (h : HullOk l axes edges) : ∃ x ∈ axes, x ≠ ⟨0, 0, 0⟩ ∧ in3 1048576 x := by
  obtain ⟨a, b, c, n, ha, hb, hc, hn, hs, hzb, hzc, hx⟩ := support hin hf
  have hza : dotI n (subI a a) = 0 := by unfold dotI subI; simp
  obtain ⟨ia, hia⟩ := List.getElem?_of_mem ha
  obtain ⟨ib, hib⟩ := List.getElem?_of_mem hb
  obtain ⟨ic, hic⟩ := List.getElem?_of_mem hc
  obtain ⟨i, j, k, x, y, z, hij, hjk, hxi, hyj, hzk, ⟨zx, zy, zz⟩, hcr⟩ := sort3 (l := l) (Q := fun x y z => (dotI n (subI x a) = 0 ∧ dotI n (subI y a) = 0 ∧ dotI n (subI z a) = 0) ∧ crossI (subI y x) (subI z x) ≠ ⟨0, 0, 0⟩)
    (fun x y z h => ⟨⟨h.1.2.1, h.1.1, h.1.2.2⟩, cross12 h.2⟩) (fun x y z h => ⟨⟨h.1.1, h.1.2.2, h.1.2.1⟩, cross23 h.2⟩)
    (fun x y z h e => h.2 (by subst e; unfold crossI subI; simp)) hia hib hic ⟨⟨hza, hzb, hzc⟩, hx⟩
  have mx_ := List.mem_of_getElem? hxi
  have my_ := List.mem_of_getElem? hyj
  have mz_ := List.mem_of_getElem? hzk
  have hsd := side_of hin hn hs mx_ my_ mz_ zx zy zz
  obtain ⟨e, i1⟩ := nrm_at (hin _ mx_) (hin _ my_) (hin _ mz_)
  have hnn : nrm3 x y z ≠ ⟨0, 0, 0⟩ := by rw [e]; exact hcr
  have hil : i < l.length := (List.getElem?_eq_some_iff.1 hxi).1
  have hmem := h.done i j k _ hij hjk (.inl hil) ⟨x, y, z, hxi, hyj, hzk, hnn, hsd, rfl⟩
  obtain ⟨hs1, _⟩ := side_spec hsd
  refine ⟨_, hmem, ?_, ?_⟩
  · unfold axisF
    refine short3_ne _ ?_ (sgn_ne hs1 hnn)
    rw [e]
    exact sgn_in (by rw [← e]; exact hs1) i1
  · unfold axisF
    exact short3_in _
end Go.Proofs.Ytckdhahceelckaa.G
namespace Go.Proofs.Ytckdhahceelckaa.G
open Go.RowKit Go.Proofs.YtckdhahceelckaaW.PrintWords
set_option linter.unusedVariables false
theorem abs_mul {a b A B : Int} (ha : -A ≤ a ∧ a ≤ A) (hb : -B ≤ b ∧ b ≤ B) : -(A * B) ≤ a * b ∧ a * b ≤ A * B := by
  have h : (a * b).natAbs ≤ A.natAbs * B.natAbs := by rw [Int.natAbs_mul]; exact Nat.mul_le_mul (by omega) (by omega)
  have e : ((A.natAbs * B.natAbs : Nat) : Int) = A * B := by rw [Int.natCast_mul, Int.natAbs_of_nonneg (by omega), Int.natAbs_of_nonneg (by omega)]
  omega
/-- one row of the rounded turn and of the turn itself -/
theorem row_bd {a1 a2 a3 c1 c2 c3 X Y Z : Int} (h1 : -4294967296 ≤ 4294967296 * a1 - c1 ∧ 4294967296 * a1 - c1 ≤ 4294967296) (h2 : -4294967296 ≤ 4294967296 * a2 - c2 ∧ 4294967296 * a2 - c2 ≤ 4294967296) (h3 : -4294967296 ≤ 4294967296 * a3 - c3 ∧ 4294967296 * a3 - c3 ≤ 4294967296)
    (hX : -4294967296 ≤ X ∧ X ≤ 4294967296) (hY : -4294967296 ≤ Y ∧ Y ≤ 4294967296) (hZ : -4294967296 ≤ Z ∧ Z ≤ 4294967296) (hv : -4096 < (a1 * X + a2 * Y + a3 * Z) / 4294967296 ∧ (a1 * X + a2 * Y + a3 * Z) / 4294967296 < 4096) :
    -75613203958135452073984 ≤ c1 * X + c2 * Y + c3 * Z ∧ c1 * X + c2 * Y + c3 * Z ≤ 75613203958135452073984 := by
  have k1 := abs_mul h1 hX
  have k2 := abs_mul h2 hY
  have k3 := abs_mul h3 hZ
  have e : c1 * X + c2 * Y + c3 * Z = 4294967296 * (a1 * X + a2 * Y + a3 * Z) - ((4294967296 * a1 - c1) * X + (4294967296 * a2 - c2) * Y + (4294967296 * a3 - c3) * Z) := by grind
  rw [e]
  generalize (4294967296 * a1 - c1) * X = e1 at k1
  generalize (4294967296 * a2 - c2) * Y = e2 at k2
  generalize (4294967296 * a3 - c3) * Z = e3 at k3
  generalize a1 * X + a2 * Y + a3 * Z = r at hv
  omega
theorem rot_norm (w x y z X Y Z T : Int) :
    ((T - ((y + y) * y + (z + z) * z)) * X + ((x + x) * y + (w + w) * -z) * Y + ((x + x) * z + (w + w) * y) * Z - (T - (w * w + x * x + y * y + z * z)) * X) * ((T - ((y + y) * y + (z + z) * z)) * X + ((x + x) * y + (w + w) * -z) * Y + ((x + x) * z + (w + w) * y) * Z - (T - (w * w + x * x + y * y + z * z)) * X) +
    (((x + x) * y + (w + w) * z) * X + (T - ((x + x) * x + (z + z) * z)) * Y + ((y + y) * z + (w + w) * -x) * Z - (T - (w * w + x * x + y * y + z * z)) * Y) * (((x + x) * y + (w + w) * z) * X + (T - ((x + x) * x + (z + z) * z)) * Y + ((y + y) * z + (w + w) * -x) * Z - (T - (w * w + x * x + y * y + z * z)) * Y) +
    (((x + x) * z + (w + w) * -y) * X + ((y + y) * z + (w + w) * x) * Y + (T - ((x + x) * x + (y + y) * y)) * Z - (T - (w * w + x * x + y * y + z * z)) * Z) * (((x + x) * z + (w + w) * -y) * X + ((y + y) * z + (w + w) * x) * Y + (T - ((x + x) * x + (y + y) * y)) * Z - (T - (w * w + x * x + y * y + z * z)) * Z) =
    (w * w + x * x + y * y + z * z) * (w * w + x * x + y * y + z * z) * (X * X + Y * Y + Z * Z) := by grind
theorem rot_alg (S T m1 m2 m3 X Y Z : Int) (h : (m1 - (T - S) * X) * (m1 - (T - S) * X) + (m2 - (T - S) * Y) * (m2 - (T - S) * Y) + (m3 - (T - S) * Z) * (m3 - (T - S) * Z) = S * S * (X * X + Y * Y + Z * Z)) :
    T * (2 * S - T) * (X * X + Y * Y + Z * Z) = m1 * m1 + m2 * m2 + m3 * m3 - 2 * ((T - S) * (m1 * X + m2 * Y + m3 * Z)) := by grind
theorem d2_near (a b c d : Int) : -4294967296 ≤ 4294967296 * D2 a b c d - (a * c + b * d) ∧ 4294967296 * D2 a b c d - (a * c + b * d) ≤ 4294967296 := by
  unfold D2
  generalize a * c + b * d = n
  omega
theorem d2_near' (a b c d : Int) : -4294967296 ≤ 4294967296 * (4294967296 - D2 a b c d) - (18446744073709551616 - (a * c + b * d)) ∧ 4294967296 * (4294967296 - D2 a b c d) - (18446744073709551616 - (a * c + b * d)) ≤ 4294967296 := by
  unfold D2
  generalize a * c + b * d = n
  omega
/-- a unit quaternion turns a long vector into one that is not short -/
theorem turn_long {q : Q4} (hq : q32 q) (hS : 18446744039349813248 ≤ q.w * q.w + q.x * q.x + q.y * q.y + q.z * q.z) {V : P3} (hV : in3 4294967296 V) (hN : 4611686018427387904 ≤ dotI V V)
    (h1 : -4096 < vdotF (rowsF q).a V ∧ vdotF (rowsF q).a V < 4096) (h2 : -4096 < vdotF (rowsF q).b V ∧ vdotF (rowsF q).b V < 4096) (h3 : -4096 < vdotF (rowsF q).c V ∧ vdotF (rowsF q).c V < 4096) : False := by
  obtain ⟨w, x, y, z⟩ := q
  obtain ⟨X, Y, Z⟩ := V
  obtain ⟨v1, v2, v3, v4, v5, v6⟩ := hV
  obtain ⟨bw, bx, by_, bz⟩ := hq
  simp only at hS v1 v2 v3 v4 v5 v6 bw bx by_ bz
  unfold vdotF dotI rowsF at h1 h2 h3
  unfold dotI at hN
  simp only at h1 h2 h3 hN
  have r1 := row_bd (d2_near' (y + y) (z + z) y z) (d2_near (x + x) (w + w) y (-z)) (d2_near (x + x) (w + w) z y) ⟨v1, v2⟩ ⟨v3, v4⟩ ⟨v5, v6⟩ h1
  have r2 := row_bd (d2_near (x + x) (w + w) y z) (d2_near' (x + x) (z + z) x z) (d2_near (y + y) (w + w) z (-x)) ⟨v1, v2⟩ ⟨v3, v4⟩ ⟨v5, v6⟩ h2
  have r3 := row_bd (d2_near (x + x) (w + w) z (-y)) (d2_near (y + y) (w + w) z x) (d2_near' (x + x) (y + y) x y) ⟨v1, v2⟩ ⟨v3, v4⟩ ⟨v5, v6⟩ h3
  have hn := rot_norm w x y z X Y Z 18446744073709551616
  have sw := abs_mul bw bw
  have sx := abs_mul bx bx
  have sy := abs_mul by_ by_
  have sz := abs_mul bz bz
  have hSu : w * w + x * x + y * y + z * z ≤ 73786976294838206464 := by omega
  clear sw sx sy sz
  generalize w * w + x * x + y * y + z * z = S at hS hSu hn
  generalize (18446744073709551616 - ((y + y) * y + (z + z) * z)) * X + ((x + x) * y + (w + w) * -z) * Y + ((x + x) * z + (w + w) * y) * Z = m1 at r1 hn
  generalize ((x + x) * y + (w + w) * z) * X + (18446744073709551616 - ((x + x) * x + (z + z) * z)) * Y + ((y + y) * z + (w + w) * -x) * Z = m2 at r2 hn
  generalize ((x + x) * z + (w + w) * -y) * X + ((y + y) * z + (w + w) * x) * Y + (18446744073709551616 - ((x + x) * x + (y + y) * y)) * Z = m3 at r3 hn
  have alg := rot_alg S 18446744073709551616 m1 m2 m3 X Y Z hn
  generalize X * X + Y * Y + Z * Z = N at hN alg
  have k1 := Int.mul_le_mul_of_nonneg_right (show (170141183460469231731687303715884105728 : Int) ≤ 18446744073709551616 * (2 * S - 18446744073709551616) by omega) (show 0 ≤ N by omega)
  have q1 := abs_mul r1 r1
  have q2 := abs_mul r2 r2
  have q3 := abs_mul r3 r3
  have p1 := abs_mul r1 (⟨v1, v2⟩ : -4294967296 ≤ X ∧ X ≤ 4294967296)
  have p2 := abs_mul r2 (⟨v3, v4⟩ : -4294967296 ≤ Y ∧ Y ≤ 4294967296)
  have p3 := abs_mul r3 (⟨v5, v6⟩ : -4294967296 ≤ Z ∧ Z ≤ 4294967296)
  have p4 : -(3 * (75613203958135452073984 * 4294967296)) ≤ m1 * X + m2 * Y + m3 * Z ∧ m1 * X + m2 * Y + m3 * Z ≤ 3 * (75613203958135452073984 * 4294967296) := by omega
  have p5 := abs_mul (⟨by omega, by omega⟩ : -(55340232221128654848 : Int) ≤ 18446744073709551616 - S ∧ 18446744073709551616 - S ≤ 55340232221128654848) p4
  generalize (18446744073709551616 - S) * (m1 * X + m2 * Y + m3 * Z) = D at alg p5
  generalize 18446744073709551616 * (2 * S - 18446744073709551616) * N = E at alg k1
  generalize m1 * m1 = M1 at alg q1
  generalize m2 * m2 = M2 at alg q2
  generalize m3 * m3 = M3 at alg q3
  clear p1 p2 p3 p4 r1 r2 r3 hn h1 h2 h3 bw bx by_ bz
  omega
theorem unit_norm (q : Q4) (h : 0 < lenF q) : 18446744039349813248 ≤ (unitF q).w * (unitF q).w + (unitF q).x * (unitF q).x + (unitF q).y * (unitF q).y + (unitF q).z * (unitF q).z := by
  obtain ⟨w, x, y, z⟩ := q
  have hw := sq_nonneg w
  have hx := sq_nonneg x
  have hy := sq_nonneg y
  have hz := sq_nonneg z
  obtain ⟨h0, h2, h1⟩ := rtI_spec (v := w * w + x * x + y * y + z * z) (by omega)
  have e : lenF ⟨w, x, y, z⟩ = rtI (w * w + x * x + y * y + z * z) := rfl
  rw [← e] at h0 h1 h2
  have bw := sq_le_bd (a := w) h0 (by omega)
  have bx := sq_le_bd (a := x) h0 (by omega)
  have by_ := sq_le_bd (a := y) h0 (by omega)
  have bz := sq_le_bd (a := z) h0 (by omega)
  unfold unitF
  simp only
  generalize lenF ⟨w, x, y, z⟩ = L at h h0 h1 h2 bw bx by_ bz
  have one : ∀ a : Int, -L ≤ a → a ≤ L → 18446744073709551616 * (a * a) - 8589934592 * (L * L) ≤ L * L * ((a * 4294967296 / L) * (a * 4294967296 / L)) := by
    intro a ha1 ha2
    have d1 := Int.emod_add_mul_ediv (a * 4294967296) L
    have d2 := Int.emod_nonneg (a * 4294967296) (show L ≠ 0 by omega)
    have d3 := Int.emod_lt_of_pos (a * 4294967296) h
    generalize a * 4294967296 / L = c at d1
    generalize a * 4294967296 % L = r at d1 d2 d3
    have e1 : L * c = 4294967296 * a - r := by omega
    have e2 : L * L * (c * c) = (4294967296 * a - r) * (4294967296 * a - r) := by rw [← e1]; grind
    have e3 : (4294967296 * a - r) * (4294967296 * a - r) = 18446744073709551616 * (a * a) - 8589934592 * (a * r) + r * r := by grind
    have k1 := abs_mul (⟨ha1, ha2⟩ : -L ≤ a ∧ a ≤ L) (⟨by omega, by omega⟩ : -L ≤ r ∧ r ≤ L)
    have k2 := sq_nonneg r
    rw [e2, e3]
    omega
  have o1 := one w bw.1 bw.2
  have o2 := one x bx.1 bx.2
  have o3 := one y by_.1 by_.2
  have o4 := one z bz.1 bz.2
  generalize w * 4294967296 / L = c1 at o1
  generalize x * 4294967296 / L = c2 at o2
  generalize y * 4294967296 / L = c3 at o3
  generalize z * 4294967296 / L = c4 at o4
  refine Int.le_of_mul_le_mul_left (a := L * L) ?_ (Int.mul_pos h h)
  have e1 : L * L * (c1 * c1 + c2 * c2 + c3 * c3 + c4 * c4) = L * L * (c1 * c1) + L * L * (c2 * c2) + L * L * (c3 * c3) + L * L * (c4 * c4) := by grind
  have e2 : L * L * 18446744039349813248 = 18446744039349813248 * (L * L) := Int.mul_comm _ _
  rw [e1, e2]
  omega
theorem whole_norm (q : Q4) : 18446744039349813248 ≤ (wholeF q).w * (wholeF q).w + (wholeF q).x * (wholeF q).x + (wholeF q).y * (wholeF q).y + (wholeF q).z * (wholeF q).z := by
  unfold wholeF
  split
  · simp
  · exact unit_norm q (by omega)
/-- a right pose turns no way into nought -/
theorem way_turned (p : P7) (x : P3) (hx : in3 1048576 x) (h0 : x ≠ ⟨0, 0, 0⟩) : wayF (rowsF (rightPose p).turn) x ≠ ⟨0, 0, 0⟩ := by
  have hq := wholeF_q32 (partQ p.turn)
  have hS := whole_norm (partQ p.turn)
  have hm := rows_mOk hq
  have hD := dbl3_in x hx
  have hf := dbl3_far x h0
  simp only [rightPose]
  generalize wholeF (partQ p.turn) = q at hq hS hm
  unfold wayF
  generalize dbl3 x = D at hD hf
  have hV := times_in hD
  obtain ⟨_, _, _, ht⟩ := turn_ok hm hV
  have hfar : ¬ in3 524288 D := fun h => by rw [(far3_iff _ _ (by decide) (by decide)).2 h] at hf; cases hf
  have hd := dotI_far D 524288 (by decide) (by unfold in3 at hfar; omega)
  have hN : 4611686018427387904 ≤ dotI (timesF D 4096) (timesF D 4096) := by
    have e : dotI (timesF D 4096) (timesF D 4096) = 16777216 * dotI D D := by unfold dotI timesF; grind
    rw [e]
    omega
  refine short3_ne _ (tdv_in ht) fun e => ?_
  unfold tdv3 at e
  simp only [P3.mk.injEq] at e
  obtain ⟨e1, e2, e3⟩ := e
  have zero : ∀ a : Int, a.tdiv 4096 = 0 → -4096 < a ∧ a < 4096 := fun a ha => by
    rcases Int.le_total 0 a with h | h
    · rw [Int.tdiv_eq_ediv_of_nonneg h] at ha; omega
    · have : a.tdiv 4096 = -((-a).tdiv 4096) := by rw [Int.neg_tdiv, Int.neg_neg]
      rw [this, Int.tdiv_eq_ediv_of_nonneg (by omega)] at ha
      omega
  exact turn_long hq hS hV hN (zero _ e1) (zero _ e2) (zero _ e3)
end Go.Proofs.Ytckdhahceelckaa.G
namespace Go.Proofs.Ytckdhahceelckaa.G
open Go.RowKit Go.Proofs.YtckdhahceelckaaW.PrintWords
set_option linter.unusedVariables false
theorem ways_turned (p : P7) {l : List P3} {x : P3} (hx : x ∈ l) (hi : in3 1048576 x) (h0 : x ≠ ⟨0, 0, 0⟩) : ∃ y ∈ waysF (rowsF (rightPose p).turn) l, long3 y ≠ ⟨0, 0, 0⟩ := by
  have h1 := way_turned p x hi h0
  refine ⟨wayF (rowsF (rightPose p).turn) x, ?_, ?_⟩
  · unfold waysF
    exact List.mem_filter.2 ⟨List.mem_map_of_mem hx, by simpa using h1⟩
  · exact (long3_short _ (by unfold wayF; exact short3_in _) h1).2.1
/-- what a value of Cores is for Sound -/
theorem CoreAt.way {s : Shp} (hs : ShpOk s) (A : P3) (p7 : P7) (ha : atOk A) {w : World} {v : Value} (h : CoreAt s ⟨A, (rightPose p7).turn⟩ w v) : ∃ p a e, CoreV w v p a e s.radius ∧ MayP p a e s.radius ∧ Ways p a := by
  have hm := (rightPose_ok p7).1
  have hw : ∀ (l : List P3) (x : P3), x ∈ l → in3 1048576 x → x ≠ ⟨0, 0, 0⟩ → ∃ y ∈ waysF (rowsF (rightPose p7).turn) l, long3 y ≠ ⟨0, 0, 0⟩ := fun l x hx hi h0 => ways_turned p7 hx hi h0
  obtain ⟨t, ht⟩ : ∃ t, (rightPose p7).turn = t := ⟨_, rfl⟩
  rw [ht] at h hm hw
  obtain ⟨p, a, e, h1, h2⟩ := h
  refine ⟨p.map (placePt (rowsF t) A), waysF (rowsF t) a, waysF (rowsF t) e, h2, CoreIs.may (q := ⟨A, t⟩) hs h1 hm ha, ?_⟩
  unfold Ways
  rcases h1 with ⟨_, rfl, rfl, rfl⟩ | ⟨_, rfl, rfl, rfl⟩ | ⟨_, rfl, rfl, rfl⟩ | ⟨hk, rfl, hh⟩
  · left; simp
  · left; simp
  · right
    exact hw _ ⟨1, 0, 0⟩ (by simp) (by unfold in3; simp) (by simp)
  · right
    obtain ⟨x, hx, h0, hi⟩ := hull_axis hs.pts (hs.hull hk).2 hh
    exact hw _ x hx hi h0
theorem CoreAt.wayQ {s : Shp} (hs : ShpOk s) (q : P7) (hm : mOk (rowsF q.turn)) (ha : atOk q.at_) (hw : ∀ (l : List P3) (x : P3), x ∈ l → in3 1048576 x → x ≠ ⟨0, 0, 0⟩ → ∃ y ∈ waysF (rowsF q.turn) l, long3 y ≠ ⟨0, 0, 0⟩)
    {w : World} {v : Value} (h : CoreAt s q w v) : ∃ p a e, CoreV w v p a e s.radius ∧ MayP p a e s.radius ∧ Ways p a := by
  obtain ⟨p, a, e, h1, h2⟩ := h
  refine ⟨_, _, _, h2, h1.may hs hm ha, ?_⟩
  unfold Ways
  rcases h1 with ⟨_, rfl, rfl, rfl⟩ | ⟨_, rfl, rfl, rfl⟩ | ⟨_, rfl, rfl, rfl⟩ | ⟨hk, rfl, hh⟩
  · left; simp
  · left; simp
  · right
    exact hw _ ⟨1, 0, 0⟩ (by simp) (by unfold in3; simp) (by simp)
  · right
    obtain ⟨x, hx, h0, hi⟩ := hull_axis hs.pts (hs.hull hk).2 hh
    exact hw _ x hx hi h0
end Go.Proofs.Ytckdhahceelckaa.G
namespace Go.Proofs.Ytckdhahceelckaa.G
open Go.RowKit Go.Proofs.YtckdhahceelckaaW.PrintWords
set_option linter.unusedVariables false
theorem negI_zero_iff (p : P3) : negI p = ⟨0, 0, 0⟩ ↔ p = ⟨0, 0, 0⟩ := by
  cases p; unfold negI; simp only [P3.mk.injEq]; omega
theorem in3_negI {n : Int} {p : P3} : in3 n (negI p) ↔ in3 n p := by unfold in3 negI; simp only; omega
theorem far3_negI (n : Int) (p : P3) (h0 : 0 ≤ n) (h1 : n ≤ 9223372036854775807) : far3 n (negI p) = far3 n p := by
  have a := far3_iff n p h0 h1
  have b := far3_iff n (negI p) h0 h1
  rw [in3_negI] at b
  cases h : far3 n p <;> cases h' : far3 n (negI p) <;> simp_all
theorem gcd3_negI (p : P3) : gcd3 (negI p) = gcd3 p := by
  unfold gcd3 negI; simp only [Int.gcd_neg, Int.neg_gcd]
theorem div3_negI (n : Int) (p : P3) : div3 n (negI p) = negI (div3 n p) := by
  unfold div3 negI; simp only [Int.neg_tdiv]
theorem bare3_negI (p : P3) : bare3 (negI p) = negI (bare3 p) := by
  unfold bare3; rw [gcd3_negI, div3_negI]
theorem halve3_negI (p : P3) : halve3 (negI p) = negI (halve3 p) := by
  induction p using halve3.induct with
  | case1 p h ih =>
    rw [halve3, dif_pos (by rw [far3_negI _ _ (by decide) (by decide)]; exact h), div3_negI, ih]
    conv => rhs; rw [halve3, dif_pos h]
  | case2 p h =>
    rw [halve3, dif_neg (by rw [far3_negI _ _ (by decide) (by decide)]; exact h)]
    conv => rhs; rw [halve3, dif_neg h]
theorem short3_negI (p : P3) : short3 (negI p) = negI (short3 p) := by
  unfold short3
  have e : (far3 4398046511104 (negI p) = true ∨ negI p = ⟨0, 0, 0⟩) ↔ (far3 4398046511104 p = true ∨ p = ⟨0, 0, 0⟩) := by
    rw [far3_negI _ _ (by decide) (by decide), negI_zero_iff]
  by_cases h : far3 4398046511104 p = true ∨ p = ⟨0, 0, 0⟩
  · rw [if_pos (e.2 h), if_pos h]; rfl
  · rw [if_neg (fun k => h (e.1 k)), if_neg h, bare3_negI, halve3_negI, bare3_negI]
theorem two3_negI (p : P3) : two3 (negI p) = negI (two3 p) := by
  unfold two3 negI; simp only [Int.mul_neg]
theorem dbl3_negI (p : P3) : dbl3 (negI p) = negI (dbl3 p) := by
  induction p using dbl3.induct with
  | case1 p h =>
    rw [dbl3, dif_pos (by rw [far3_negI _ _ (by decide) (by decide), negI_zero_iff]; exact h)]
    conv => rhs; rw [dbl3, dif_pos h]
  | case2 p h ih =>
    rw [dbl3, dif_neg (by rw [far3_negI _ _ (by decide) (by decide), negI_zero_iff]; exact h), two3_negI, ih]
    conv => rhs; rw [dbl3, dif_neg h]
theorem long3_negI (p : P3) : long3 (negI p) = negI (long3 p) := by unfold long3; rw [short3_negI, dbl3_negI]
theorem cross3_negI {p q : P3} (hp : in3 1048576 p) (hq : in3 1048576 q) : cross3 (negI p) q = negI (cross3 p q) ∧ cross3 p (negI q) = negI (cross3 p q) ∧ cross3 q p = negI (cross3 p q) := by
  rw [(cross3_eq p q 1048576 1048576 hp hq (by decide)).1, (cross3_eq (negI p) q 1048576 1048576 (in3_negI.2 hp) hq (by decide)).1, (cross3_eq p (negI q) 1048576 1048576 hp (in3_negI.2 hq) (by decide)).1, (cross3_eq q p 1048576 1048576 hq hp (by decide)).1]
  unfold crossI negI
  simp only [P3.mk.injEq]
  refine ⟨⟨?_, ?_, ?_⟩, ⟨?_, ?_, ?_⟩, ⟨?_, ?_, ?_⟩⟩ <;> grind
theorem minus3_swap {p q : P3} (hp : in3 1073741824 p) (hq : in3 1073741824 q) : minus3 q p = negI (minus3 p q) := by
  rw [minus3_eq _ _ hp hq, minus3_eq _ _ hq hp]
  unfold negI
  simp only [P3.mk.injEq]
  omega
/-- each way there is a way back -/
theorem rawC_mirror {p a e q b f : List P3} {r s : Int} (m : MayP p a e r) (k : MayP q b f s) : ∀ x ∈ rawC p a e q b f, ∃ y ∈ rawC q b f p a e, y = x ∨ y = negI x := by
  have pI := far_in (by decide) (by decide) m.pf
  have qI := far_in (by decide) (by decide) k.pf
  have eI := far_in (by decide) (by decide) m.ef
  have fI := far_in (by decide) (by decide) k.ef
  intro x hx
  unfold rawC at hx
  rcases List.mem_append.1 hx with h | h
  · refine ⟨x, ?_, .inl rfl⟩
    unfold rawC
    rcases List.mem_append.1 h with h | h
    · exact List.mem_append_left _ (List.mem_append_right _ h)
    · exact List.mem_append_left _ (List.mem_append_left _ h)
  · rcases List.mem_append.1 h with h | h
    · unfold edgeW at h
      obtain ⟨u, hu, h⟩ := List.mem_flatMap.1 h
      obtain ⟨v, hv, rfl⟩ := List.mem_map.1 h
      refine ⟨cross3 v u, ?_, .inr (cross3_negI (eI u hu) (fI v hv)).2.2⟩
      unfold rawC edgeW
      exact List.mem_append_right _ (List.mem_append_left _ (List.mem_flatMap.2 ⟨v, hv, List.mem_map.2 ⟨u, hu, rfl⟩⟩))
    · by_cases hmn : mn p.length q.length > 2
      · rw [if_pos hmn] at h; simp at h
      · rw [if_neg hmn] at h
        have hmn' : ¬ mn q.length p.length > 2 := by
          have a1 := mn_facts (p.length : Int) q.length
          have a2 := mn_facts (q.length : Int) p.length
          omega
        unfold pointW at h
        obtain ⟨P, hP, h⟩ := List.mem_flatMap.1 h
        obtain ⟨Q, hQ, h⟩ := List.mem_flatMap.1 h
        have hin : ∀ y ∈ roundW (f ++ e) Q P, y ∈ rawC q b f p a e := fun y hy => by
          unfold rawC
          rw [if_neg hmn']
          exact List.mem_append_right _ (List.mem_append_right _ (by
            unfold pointW
            exact List.mem_flatMap.2 ⟨Q, hQ, List.mem_flatMap.2 ⟨P, hP, hy⟩⟩))
        have hsw := minus3_swap (in3_le (m := 1073741824) (by decide) (qI Q hQ)) (in3_le (m := 1073741824) (by decide) (pI P hP))
        unfold roundW at h
        rcases List.mem_cons.1 h with rfl | h
        · refine ⟨short3 (minus3 P Q), hin _ (by unfold roundW; exact List.mem_cons_self ..), .inr ?_⟩
          rw [hsw, short3_negI]
        · obtain ⟨u, hu, rfl⟩ := List.mem_map.1 h
          have uI : in3 1048576 u := by
            rcases List.mem_append.1 hu with hu | hu
            · exact eI u hu
            · exact fI u hu
          refine ⟨cross3 (short3 (cross3 u (short3 (minus3 P Q)))) u, hin _ (by
            unfold roundW
            refine List.mem_cons_of_mem _ (List.mem_map.2 ⟨u, ?_, rfl⟩)
            rcases List.mem_append.1 hu with hu | hu
            · exact List.mem_append_right _ hu
            · exact List.mem_append_left _ hu), .inr ?_⟩
          rw [hsw, short3_negI, (cross3_negI uI (short3_in _)).2.1, short3_negI, (cross3_negI (short3_in _) uI).1]
/-- the told gap is the widest -/
theorem apF_top (a0 : P3) (ar : List P3) (ra : Int) (b0 : P3) (br : List P3) (rb : Int) (l : List P3) :
    ∀ x ∈ l, long3 x ≠ ⟨0, 0, 0⟩ → (gapsF (long3 x) a0 ar ra b0 br rb).1 ≤ (apF a0 ar ra b0 br rb l).1.2 ∧ (gapsF (long3 x) a0 ar ra b0 br rb).2 ≤ (apF a0 ar ra b0 br rb l).1.2 := by
  have st : ∀ (s : (P3 × Int) × Bool) (n : P3), long3 n ≠ ⟨0, 0, 0⟩ → (apStep a0 ar ra b0 br rb s n).2 = false ∧ (s.2 = false → s.1.2 ≤ (apStep a0 ar ra b0 br rb s n).1.2) ∧
      (gapsF (long3 n) a0 ar ra b0 br rb).1 ≤ (apStep a0 ar ra b0 br rb s n).1.2 ∧ (gapsF (long3 n) a0 ar ra b0 br rb).2 ≤ (apStep a0 ar ra b0 br rb s n).1.2 := by
    intro s n h
    unfold apStep
    rw [if_neg h]
    obtain ⟨⟨ax, g⟩, fl⟩ := s
    generalize gapsF (long3 n) a0 ar ra b0 br rb = t
    obtain ⟨t1, t2⟩ := t
    simp only
    by_cases h1 : fl = true ∨ g < t1
    · simp only [h1, if_true]
      by_cases h2 : t1 < t2
      · simp only [h2, if_true]
        refine ⟨trivial, fun hf => ?_, ?_, ?_⟩
        · rcases h1 with h1 | h1
          · rw [hf] at h1; cases h1
          · omega
        · omega
        · omega
      · simp only [h2, if_false]
        refine ⟨trivial, fun hf => ?_, ?_, ?_⟩
        · rcases h1 with h1 | h1
          · rw [hf] at h1; cases h1
          · omega
        · omega
        · omega
    · simp only [h1, if_false]
      have h1' : ¬ g < t1 := fun e => h1 (.inr e)
      by_cases h2 : g < t2
      · simp only [h2, if_true]
        exact ⟨trivial, fun _ => by omega, by omega, by omega⟩
      · simp only [h2, if_false]
        exact ⟨trivial, fun _ => by omega, by omega, by omega⟩
  have gen : ∀ (l : List P3) (s : (P3 × Int) × Bool), (s.2 = false → s.1.2 ≤ (l.foldl (apStep a0 ar ra b0 br rb) s).1.2) ∧ ∀ x ∈ l, long3 x ≠ ⟨0, 0, 0⟩ →
      (gapsF (long3 x) a0 ar ra b0 br rb).1 ≤ (l.foldl (apStep a0 ar ra b0 br rb) s).1.2 ∧ (gapsF (long3 x) a0 ar ra b0 br rb).2 ≤ (l.foldl (apStep a0 ar ra b0 br rb) s).1.2 := by
    intro l
    induction l with
    | nil => intro s; exact ⟨fun _ => Int.le_refl _, fun x hx => by simp at hx⟩
    | cons n l ih =>
      intro s
      rw [List.foldl_cons]
      obtain ⟨i1, i2⟩ := ih (apStep a0 ar ra b0 br rb s n)
      by_cases h : long3 n = ⟨0, 0, 0⟩
      · have e : apStep a0 ar ra b0 br rb s n = s := by unfold apStep; rw [if_pos h]
        rw [e] at i1 i2 ⊢
        refine ⟨i1, fun x hx h0 => ?_⟩
        rcases List.mem_cons.1 hx with rfl | hx
        · exact absurd h h0
        · exact i2 x hx h0
      · obtain ⟨s1, s2, s3, s4⟩ := st s n h
        have i1 := i1 s1
        refine ⟨fun hf => Int.le_trans (s2 hf) i1, fun x hx h0 => ?_⟩
        rcases List.mem_cons.1 hx with rfl | hx
        · exact ⟨Int.le_trans s3 i1, Int.le_trans s4 i1⟩
        · exact i2 x hx h0
  exact (gen l _).2
theorem gapV_swap (s up down ra rb : Int) : gapV s up down ra rb = gapV s up down rb ra := by unfold gapV; split <;> omega
theorem gaps_swap (n a0 : P3) (ar : List P3) (ra : Int) (b0 : P3) (br : List P3) (rb : Int) : gapsF n b0 br rb a0 ar ra = ((gapsF n a0 ar ra b0 br rb).2, (gapsF n a0 ar ra b0 br rb).1) := by
  unfold gapsF
  simp only
  rw [gapV_swap _ _ _ rb ra, gapV_swap _ _ _ rb ra]
theorem gaps_negI2 {n a0 b0 : P3} {ar br : List P3} (ra rb : Int) (hn : in3 1048576 n) (ha : ∀ p ∈ a0 :: ar, in3 16777216 p) (hb : ∀ p ∈ b0 :: br, in3 16777216 p) : (gapsF (negI n) a0 ar ra b0 br rb).2 = (gapsF n a0 ar ra b0 br rb).1 := by
  have h := gaps_negI ra rb (negI_in hn) ha hb
  have e : negI (negI n) = n := by cases n; unfold negI; simp
  rw [e] at h
  exact h.symm
theorem apart_le {p a e q b f : List P3} {r s : Int} (m : MayP p a e r) (k : MayP q b f s) : (apartF p a e r q b f s).2 ≤ (apartF q b f s p a e r).2 := by
  obtain ⟨p0, pr, hp, hpI⟩ := m.pts
  obtain ⟨q0, qr, hq, hqI⟩ := k.pts
  have hmir := rawC_mirror m k
  have hmir2 := rawC_mirror k m
  unfold apartF
  subst hp hq
  simp only [List.headD_cons, List.tail_cons]
  rcases apF_inv p0 pr r q0 qr s (rawC (p0 :: pr) a e (q0 :: qr) b f) with ⟨_, h2, h3⟩ | ⟨_, x, hx, h0, h⟩
  · rcases apF_inv q0 qr s p0 pr r (rawC (q0 :: qr) b f (p0 :: pr) a e) with ⟨_, k2, _⟩ | ⟨_, y, hy, g0, _⟩
    · rw [h2, k2]; simp only; omega
    · exfalso
      obtain ⟨x, hx, hxy⟩ := hmir2 y hy
      have := h3 x hx
      rcases hxy with rfl | rfl
      · exact g0 this
      · rw [long3_negI, negI_zero_iff] at this; exact g0 this
  · obtain ⟨y, hy, hxy⟩ := hmir x hx
    have y0 : long3 y ≠ ⟨0, 0, 0⟩ := by
      rcases hxy with rfl | rfl
      · exact h0
      · rw [long3_negI]; exact negI_ne h0
    have ht := apF_top q0 qr s p0 pr r (rawC (q0 :: qr) b f (p0 :: pr) a e) y hy y0
    rw [gaps_swap] at ht
    simp only at ht
    have hg : (gapsF (long3 x) p0 pr r q0 qr s).1 ≤ (apF q0 qr s p0 pr r (rawC (q0 :: qr) b f (p0 :: pr) a e)).1.2 ∧ (gapsF (long3 x) p0 pr r q0 qr s).2 ≤ (apF q0 qr s p0 pr r (rawC (q0 :: qr) b f (p0 :: pr) a e)).1.2 := by
      rcases hxy with rfl | rfl
      · exact ⟨ht.2, ht.1⟩
      · rw [long3_negI, gaps_negI r s (long3_in x) hpI hqI, gaps_negI2 r s (long3_in x) hpI hqI] at ht
        exact ⟨ht.1, ht.2⟩
    rcases h with h | h
    · rw [h]; exact hg.1
    · rw [h]; exact hg.2
/-- it is as far back -/
theorem apart_mirror {p a e q b f : List P3} {r s : Int} (m : MayP p a e r) (k : MayP q b f s) : (apartF p a e r q b f s).2 = (apartF q b f s p a e r).2 := by
  have := apart_le m k
  have := apart_le k m
  omega
/-- moved by grains -/
def plusI (y x : P3) : P3 := ⟨x.x + y.x, x.y + y.y, x.z + y.z⟩
theorem plusI_in {y x : P3} (hy : in3 1048576 y) (hx : in3 8388608 x) : in3 16777216 (plusI y x) := by unfold in3 plusI at *; simp only; omega
theorem MayP.moved {p a e : List P3} {r : Int} (m : MayP p a e r) {y : P3} (hy : in3 1048576 y) (hp : ∀ x ∈ p, in3 8388608 x) : MayP (p.map (plusI y)) a e r where
  p0 := by have := m.p0; simpa using this
  p1 := by rw [List.length_map]; exact m.p1
  a1 := m.a1
  e1 := m.e1
  r0 := m.r0
  r1 := m.r1
  pf := by
    rw [List.any_eq_false]
    intro x hx
    obtain ⟨z, hz, rfl⟩ := List.mem_map.1 hx
    rw [(far3_iff _ _ (by decide) (by decide)).2 (plusI_in hy (hp z hz))]
    decide
  af := m.af
  ef := m.ef
theorem dot3_plus {n x y : P3} (hn : in3 1048576 n) (hy : in3 1048576 y) (hx : in3 8388608 x) : dot3 n (plusI y x) = dot3 n x + dotI n y := by
  rw [dot3_eq n (plusI y x) 1048576 16777216 hn (plusI_in hy hx) (by decide), dot3_eq n x 1048576 16777216 hn (in3_le (by decide) hx) (by decide)]
  unfold dotI plusI
  simp only [Int.mul_add]
  omega
theorem reach_plus {n y p0 : P3} {r : List P3} (hn : in3 1048576 n) (hy : in3 1048576 y) (hp : ∀ p ∈ p0 :: r, in3 8388608 p) : reachF n (plusI y p0) (r.map (plusI y)) = ((reachF n p0 r).1 + dotI n y, (reachF n p0 r).2 + dotI n y) := by
  have gen : ∀ (l : List P3) (s : Int × Int), (∀ p ∈ l, in3 8388608 p) → (l.map (plusI y)).foldl (rstep n) (s.1 + dotI n y, s.2 + dotI n y) = ((l.foldl (rstep n) s).1 + dotI n y, (l.foldl (rstep n) s).2 + dotI n y) := by
    intro l
    induction l with
    | nil => intro s _; rfl
    | cons p l ih =>
      intro s h
      rw [List.map_cons, List.foldl_cons, List.foldl_cons, ← ih _ (fun q hq => h q (by simp [hq]))]
      congr 1
      unfold rstep
      rw [dot3_plus hn hy (h p (by simp))]
      unfold mn mx
      simp only [Prod.mk.injEq]
      constructor
      · split <;> split <;> omega
      · split <;> split <;> omega
  unfold reachF
  rw [← gen r _ (fun q hq => hp q (by simp [hq])), dot3_plus hn hy (hp p0 (by simp))]
theorem rawC_moved {p a e q b f : List P3} {y : P3} (hy : in3 1048576 y) (hp : ∀ x ∈ p, in3 8388608 x) (hq : ∀ x ∈ q, in3 8388608 x) : rawC (p.map (plusI y)) a e (q.map (plusI y)) b f = rawC p a e q b f := by
  have hr : ∀ P ∈ p, ∀ Q ∈ q, roundW (e ++ f) (plusI y P) (plusI y Q) = roundW (e ++ f) P Q := by
    intro P hP Q hQ
    have h : minus3 (plusI y Q) (plusI y P) = minus3 Q P := by
      rw [minus3_eq _ _ (in3_le (by decide) (plusI_in hy (hq Q hQ))) (in3_le (by decide) (plusI_in hy (hp P hP))), minus3_eq _ _ (in3_le (by decide) (hq Q hQ)) (in3_le (by decide) (hp P hP))]
      unfold plusI
      simp only [P3.mk.injEq]
      omega
    unfold roundW
    rw [h]
  have hw : pointW (p.map (plusI y)) (q.map (plusI y)) (e ++ f) = pointW p q (e ++ f) := by
    unfold pointW
    rw [List.flatMap_map]
    have fm : ∀ (l : List P3) (g h : P3 → List P3), (∀ x ∈ l, g x = h x) → l.flatMap g = l.flatMap h := by
      intro l g h
      induction l with
      | nil => intro _; rfl
      | cons x l ih => intro hx; rw [List.flatMap_cons, List.flatMap_cons, hx x (by simp), ih (fun z hz => hx z (by simp [hz]))]
    apply fm
    intro P hP
    rw [List.flatMap_map]
    exact fm _ _ _ fun Q hQ => hr P hP Q hQ
  unfold rawC
  rw [hw, List.length_map, List.length_map]
theorem apart_moved {p a e q b f : List P3} {r s : Int} (m : MayP p a e r) (k : MayP q b f s) {y : P3} (hy : in3 1048576 y) (hp : ∀ x ∈ p, in3 8388608 x) (hq : ∀ x ∈ q, in3 8388608 x) : apartF (p.map (plusI y)) a e r (q.map (plusI y)) b f s = apartF p a e r q b f s := by
  unfold apartF
  rw [rawC_moved hy hp hq]
  obtain ⟨p0, pr, rfl⟩ := List.exists_cons_of_ne_nil m.p0
  obtain ⟨q0, qr, rfl⟩ := List.exists_cons_of_ne_nil k.p0
  simp only [List.map_cons, List.headD_cons, List.tail_cons]
  have hs : apStep (plusI y p0) (pr.map (plusI y)) r (plusI y q0) (qr.map (plusI y)) s = apStep p0 pr r q0 qr s := by
    funext st n
    unfold apStep
    have hg : gapsF (long3 n) (plusI y p0) (pr.map (plusI y)) r (plusI y q0) (qr.map (plusI y)) s = gapsF (long3 n) p0 pr r q0 qr s := by
      unfold gapsF
      rw [reach_plus (long3_in n) hy hp, reach_plus (long3_in n) hy hq]
      simp only
      rw [show (reachF (long3 n) q0 qr).1 + dotI (long3 n) y - ((reachF (long3 n) p0 pr).2 + dotI (long3 n) y) = (reachF (long3 n) q0 qr).1 - (reachF (long3 n) p0 pr).2 by omega, show (reachF (long3 n) p0 pr).1 + dotI (long3 n) y - ((reachF (long3 n) q0 qr).2 + dotI (long3 n) y) = (reachF (long3 n) p0 pr).1 - (reachF (long3 n) q0 qr).2 by omega]
    rw [hg]
  unfold apF
  rw [hs]
end Go.Proofs.Ytckdhahceelckaa.G
namespace Go.Proofs.Ytckdhahceelckaa.G
open Go.RowKit Go.Proofs.YtckdhahceelckaaW.PrintWords
set_option linter.unusedVariables false
theorem CoreIs.in8 {s : Shp} (hs : ShpOk s) {p a e : List P3} (h : CoreIs s p a e) {q : P7} (hm : mOk (rowsF q.turn)) (ha : atOk q.at_) : ∀ x ∈ p.map (placePt (rowsF q.turn) q.at_), in3 8388608 x := by
  intro x hx
  obtain ⟨y, hy, rfl⟩ := List.mem_map.1 hx
  exact place_in3 hm ha ((h.bounds hs).pin y hy)
theorem CoreAt.nearW {s : Shp} (hs : ShpOk s) (q : P7) (hm : mOk (rowsF q.turn)) (ha : atOk q.at_) (hw : ∀ (l : List P3) (x : P3), x ∈ l → in3 1048576 x → x ≠ ⟨0, 0, 0⟩ → ∃ y ∈ waysF (rowsF q.turn) l, long3 y ≠ ⟨0, 0, 0⟩)
    {w : World} {v : Value} (h : CoreAt s q w v) : ∃ p a e, CoreV w v p a e s.radius ∧ MayP p a e s.radius ∧ Ways p a ∧ ∀ x ∈ p, in3 8388608 x := by
  obtain ⟨p, a, e, h1, h2⟩ := h
  refine ⟨_, _, _, h2, h1.may hs hm ha, ?_, h1.in8 hs hm ha⟩
  unfold Ways
  rcases h1 with ⟨_, rfl, rfl, rfl⟩ | ⟨_, rfl, rfl, rfl⟩ | ⟨_, rfl, rfl, rfl⟩ | ⟨hk, rfl, hh⟩
  · left; simp
  · left; simp
  · right
    exact hw _ ⟨1, 0, 0⟩ (by simp) (by unfold in3; simp) (by simp)
  · right
    obtain ⟨x, hx, h0, hi⟩ := hull_axis hs.pts (hs.hull hk).2 hh
    exact hw _ x hx hi h0
theorem CoreAt.near {s : Shp} (hs : ShpOk s) (A : P3) (p7 : P7) (ha : atOk A) {w : World} {v : Value} (h : CoreAt s ⟨A, (rightPose p7).turn⟩ w v) : ∃ p a e, CoreV w v p a e s.radius ∧ MayP p a e s.radius ∧ Ways p a ∧ ∀ x ∈ p, in3 8388608 x := by
  have hm := (rightPose_ok p7).1
  have hw : ∀ (l : List P3) (x : P3), x ∈ l → in3 1048576 x → x ≠ ⟨0, 0, 0⟩ → ∃ y ∈ waysF (rowsF (rightPose p7).turn) l, long3 y ≠ ⟨0, 0, 0⟩ := fun l x hx hi h0 => ways_turned p7 hx hi h0
  obtain ⟨t, ht⟩ : ∃ t, (rightPose p7).turn = t := ⟨_, rfl⟩
  rw [ht] at h hm hw
  exact CoreAt.nearW hs ⟨A, t⟩ hm ha hw h
theorem CoreV.setLow {w : World} {v : Value} {p a e : List P3} {r : Int} (h : CoreV w v p a e r) {b g : Nat} (hf : Fresh b v) (hg : g < b) (j : Nat) (u : Value) : CoreV (w.setCell ⟨g, j, none⟩ u) v p a e r := by
  obtain ⟨A0, A1, A2, c0, c1, c2, e1, h0, h1, h2, k⟩ := h.out
  obtain ⟨B0, B1, B2, m0, m1, m2, d0, d1, d2, x, e2, f0, f1, f2⟩ := hf
  subst e1
  simp at e2
  obtain ⟨⟨rfl, _, _⟩, ⟨rfl, _, _⟩, ⟨rfl, _, _⟩, _⟩ := e2
  exact ⟨A0, A1, A2, c0, c1, c2, rfl, h0.setc (fun ad ea => by have := f0 ad ea; omega) j u, h1.setc (fun ad ea => by have := f1 ad ea; omega) j u, h2.setc (fun ad ea => by have := f2 ad ea; omega) j u, k⟩
end Go.Proofs.Ytckdhahceelckaa.G
namespace Go.Proofs.Ytckdhahceelckaa.G
open Go.RowKit Go.Proofs.YtckdhahceelckaaW.PrintWords Go.Proofs.YtckdhahceelckaaW.PrintLast Go.Proofs.YtckdhahceelckaaW.PrintMore
attribute [local go_sem] max2_mx min2_mn max_two min_two max_three min_three max_four min_four
attribute [local go_sem high] eqA23
set_option linter.unusedVariables false
set_option linter.unusedSimpArgs false
def fstep (n : P3) (s : Int) (p : P3) : Int := mx s (dot3 n p)
def farF (n p0 : P3) (r : List P3) : Int := r.foldl (fstep n) (dot3 n p0)
theorem farF_snoc (n p0 : P3) (r : List P3) (k : Nat) (h : k < r.length) : farF n p0 (r.take (k + 1)) = mx (farF n p0 (r.take k)) (dot3 n r[k]) := by
  unfold farF
  rw [List.take_succ_eq_append_getElem h, List.foldl_append]; rfl
set_option maxHeartbeats 4000000 in
theorem farthest_calls (p0 : P3) (r : List P3) (A : Option Addr) (c : Nat) (n : P3) (w : World) (hr : RdB w A (p0 :: r)) (hm : r.length < 9223372036854775800) :
    Calls Try.prog 120 #[.slice A (r.length + 1) c, aP n] w fun e w' => e = .returned (.int .i64 (farF n p0 r)) ∧ Below w.heap.size w w' := by
  obtain ⟨nx, ny, nz⟩ := n
  obtain ⟨b, o, rfl, hlt, h1, h2, h3⟩ := hr.1.get 0 (by simp)
  simp only [Nat.zero_mul, Nat.add_zero, List.getElem_cons_zero] at h1 h2 h3
  have hR := Lib.hid hr.1
  obtain ⟨N, hN⟩ : ∃ N, r.length = N := ⟨_, rfl⟩
  have HN := Lib.hid hN
  rw [hN] at hm ⊢
  clear hr hN
  obtain ⟨px, py, pz⟩ := p0
  have HD0 := Lib.hid (show farF ⟨nx, ny, nz⟩ ⟨px, py, pz⟩ (r.take 0) = dot3 ⟨nx, ny, nz⟩ ⟨px, py, pz⟩ from rfl)
  have hl0 : (0 : Int) < (N : Int) + 1 := by omega
  go_enter Try.func120, Try.ntmps120
  go_wp2
  go_quiet (fail)
  obtain ⟨w1, hw1⟩ : ∃ V, (w.alloc (.cells #[.int .i64 nx, .int .i64 ny, .int .i64 nz] 23)).drewN nq = V := ⟨_, rfl⟩
  have hB := Lib.hid (show Below w.heap.size w w1 by rw [← hw1]; exact ((Below.refl _ w).alloc (Nat.le_refl _) _).trans (Go.Joins.below_draws _ _ nq))
  have hN := Lib.hid (show w1.heap[w.heap.size]? = some (.cells #[.int .i64 nx, .int .i64 ny, .int .i64 nz] 23 (0, 0)) by rw [← hw1]; exact heap_alloc_new w _)
  rw [hw1]
  clear hw1 h1 h2 h3
  obtain ⟨D, hD⟩ : ∃ D, dot3 ⟨nx, ny, nz⟩ ⟨px, py, pz⟩ = D := ⟨_, rfl⟩
  have hD' : wrap64 (wrap64 (wrap64 (nx * px) + wrap64 (ny * py)) + wrap64 (nz * pz)) = D := hD
  rw [hD']
  rw [hD] at HD0
  clear hD hD'
  go_wp2
  go_loopw [5, 6] (fun v5 v6 wr => ∃ j : Nat, 1 ≤ j ∧ j ≤ N + 1 ∧ v6 = .int .i64 j ∧ v5 = .int .i64 (farF ⟨nx, ny, nz⟩ ⟨px, py, pz⟩ (r.take (j - 1))) ∧ Hid (Below w1.heap.size w1 wr)) (fun _ i _ => N + 1 - (intOf i).toNat)
  case atStart => exact ⟨1, by omega, by omega, rfl, by rw [HD0.out], Lib.hid (Below.refl _ _)⟩
  case round =>
    obtain ⟨j, hj1, hj2, rfl, rfl, hbr⟩ := hrel
    by_cases hlt2 : j ≤ N
    · have hkr : j - 1 < r.length := by rw [HN.out]; omega
      have hBw := hB.out.trans (hbr.out.mono hB.out.size)
      obtain ⟨b', o', hA, _, e0, e1, e2⟩ := (hR.out.below hBw).get (j - 1 + 1) (by simp; omega)
      simp only [Option.some.injEq, Addr.mk.injEq, and_true] at hA
      obtain ⟨rfl, rfl⟩ := hA
      simp only [List.getElem_cons_succ] at e0 e1 e2
      have hS := farF_snoc ⟨nx, ny, nz⟩ ⟨px, py, pz⟩ r (j - 1) hkr
      rw [show j - 1 + 1 = j from by omega] at hS
      obtain ⟨q, hq⟩ : ∃ q, r[j - 1] = q := ⟨_, rfl⟩
      rw [hq] at e0 e1 e2 hS
      rw [show j - 1 + 1 = j from by omega] at e0 e1 e2
      obtain ⟨qx, qy, qz⟩ := q
      simp only at e0 e1 e2
      obtain ⟨F, hF⟩ : ∃ F, farF ⟨nx, ny, nz⟩ ⟨px, py, pz⟩ (r.take (j - 1)) = F := ⟨_, rfl⟩
      rw [hF] at hS ⊢
      have hS := Lib.hid hS
      have HBw := Lib.hid hBw
      have z1 := (hbr.out.block _ (blk_lt hN.out)).trans hN.out
      have x0 : wr.cell? ⟨w.heap.size, 0, none⟩ = some (.int .i64 nx) := (blk_cell z1 0).trans rfl
      have x1 : wr.cell? ⟨w.heap.size, 1, none⟩ = some (.int .i64 ny) := (blk_cell z1 1).trans rfl
      have x2 : wr.cell? ⟨w.heap.size, 2, none⟩ = some (.int .i64 nz) := (blk_cell z1 2).trans rfl
      have t2 : (j : Int) < (N : Int) + 1 := by omega
      clear hq hF hkr z1 hBw
      go_wp2
      go_quiet (fail)
      go_wp2
      go_roundw
      case rel => exact ⟨j + 1, by omega, by omega, by go_num, by rw [show j + 1 - 1 = j from by omega, hS.out]; rfl, Lib.hid (hbr.out.trans (Go.Joins.below_draws _ _ _))⟩
      case measure => simp [intOf]; omega
    · obtain rfl : j = N + 1 := by omega
      have hBw := hB.out.trans (hbr.out.mono hB.out.size)
      have hE : Hid (r.take (N + 1 - 1) = r) := Lib.hid (List.take_of_length_le (by rw [HN.out]; omega))
      go_wp2
      go_ret
      exact ⟨by rw [hE.out]; rfl, hBw⟩
end Go.Proofs.Ytckdhahceelckaa.G
namespace Go.Proofs.Ytckdhahceelckaa.G
open Go.RowKit Go.Proofs.YtckdhahceelckaaW.PrintWords Go.Proofs.YtckdhahceelckaaW.PrintLast Go.Proofs.YtckdhahceelckaaW.PrintMore
attribute [local go_sem] max2_mx min2_mn max_two min_two max_three min_three max_four min_four
attribute [local go_sem high] eqA23
set_option linter.unusedVariables false
set_option linter.unusedSimpArgs false
theorem farF_reach (n p0 : P3) (r : List P3) : farF n p0 r = (reachF n p0 r).2 := by
  have gen : ∀ (l : List P3) (s : Int × Int), l.foldl (fstep n) s.2 = (l.foldl (rstep n) s).2 := by
    intro l
    induction l with
    | nil => intro s; rfl
    | cons p l ih => intro s; rw [List.foldl_cons, List.foldl_cons]; exact ih (rstep n s p)
  exact gen r (dot3 n p0, dot3 n p0)
theorem dot3_neg (n p : P3) (hn : in3 1048576 n) (hp : in3 16777216 p) : dot3 ⟨-n.x, -n.y, -n.z⟩ p = -dot3 n p := by
  have hn' : in3 1048576 (⟨-n.x, -n.y, -n.z⟩ : P3) := by unfold in3 at *; simp only; omega
  rw [dot3_eq n p 1048576 16777216 hn hp (by decide), dot3_eq _ p 1048576 16777216 hn' hp (by decide)]
  unfold dotI
  simp only [Int.neg_mul]
  omega
theorem farF_neg (n p0 : P3) (r : List P3) (hn : in3 1048576 n) (hp : ∀ p ∈ p0 :: r, in3 16777216 p) : farF ⟨-n.x, -n.y, -n.z⟩ p0 r = -(reachF n p0 r).1 := by
  have gen : ∀ (l : List P3) (s : Int × Int), (∀ p ∈ l, in3 16777216 p) → l.foldl (fstep ⟨-n.x, -n.y, -n.z⟩) (-s.1) = -(l.foldl (rstep n) s).1 := by
    intro l
    induction l with
    | nil => intro s _; rfl
    | cons p l ih =>
      intro s h
      rw [List.foldl_cons, List.foldl_cons]
      have e : fstep ⟨-n.x, -n.y, -n.z⟩ (-s.1) p = -(rstep n s p).1 := by
        unfold fstep rstep
        rw [dot3_neg n p hn (h p (by simp))]
        unfold mx mn
        simp only
        split <;> split <;> omega
      rw [e]
      exact ih _ fun q hq => h q (by simp [hq])
  unfold farF reachF
  rw [dot3_neg n p0 hn (hp p0 (by simp))]
  exact gen r (dot3 n p0, dot3 n p0) fun q hq => hp q (by simp [hq])
set_option maxHeartbeats 4000000 in
set_option maxRecDepth 100000 in
theorem rgap_calls (p0 : P3) (pr : List P3) (ra : Int) (q0 : P3) (qr : List P3) (rb : Int) (A0 A1 A2 B0 B1 B2 : Option Addr) (n1 n2 m1 m2 c0 c1 c2 d0 d1 d2 : Nat) (n : P3) (w : World)
    (hA : RdB w A0 (p0 :: pr)) (hB : RdB w B0 (q0 :: qr)) (hla : pr.length < 1000) (hlb : qr.length < 1000) (hn : in3 1048576 n) (h0 : n ≠ ⟨0, 0, 0⟩)
    (hp : ∀ x ∈ p0 :: pr, in3 16777216 x) (hq : ∀ x ∈ q0 :: qr, in3 16777216 x) (ra0 : 0 ≤ ra) (ra1 : ra ≤ 65536) (rb0 : 0 ≤ rb) (rb1 : rb ≤ 65536) (g : Int) (hg : (gapsF n p0 pr ra q0 qr rb).1 = g) :
    Calls Try.prog 64 #[.agg #[.slice A0 (pr.length + 1) c0, .slice A1 n1 c1, .slice A2 n2 c2, .int .i64 ra], .agg #[.slice B0 (qr.length + 1) d0, .slice B1 m1 d1, .slice B2 m2 d2, .int .i64 rb], aP n] w
      fun e w' => e = .returned (.int .i64 g) ∧ Below w.heap.size w w' := by
  have h1 := reach_bd hn hp
  have h2 := reach_bd hn hq
  have hf := fl3_pos n h0
  have hf2 := fl3_le n hn
  have hc := ce3_bd n
  have hs : sz3 n = (fl3 n, ce3 n) := by unfold sz3; rw [(far3_iff _ n (by decide) (by decide)).2 (in3_le (by decide) hn)]; rfl
  have HF := Lib.hid (fun W (hW : RdB W A0 (p0 :: pr)) => farthest_calls p0 pr A0 c0 n W hW (by omega))
  have HG := Lib.hid (fun W (hW : RdB W B0 (q0 :: qr)) => farthest_calls q0 qr B0 d0 ⟨-n.x, -n.y, -n.z⟩ W hW (by omega))
  have HS := Lib.hid (fun W => rsizes_calls n W)
  rw [farF_reach] at HF
  rw [farF_neg n q0 qr hn hq] at HG
  rw [hs] at HS
  unfold gapsF at hg
  simp only at hg
  obtain ⟨hi, hhi⟩ : ∃ x, (reachF n p0 pr).2 = x := ⟨_, rfl⟩
  obtain ⟨lo, hlo⟩ : ∃ x, (reachF n q0 qr).1 = x := ⟨_, rfl⟩
  rw [hhi] at HF h1 hg
  rw [hlo] at HG h2 hg
  obtain ⟨fl, hfl⟩ : ∃ x, fl3 n = x := ⟨_, rfl⟩
  obtain ⟨ce, hce⟩ : ∃ x, ce3 n = x := ⟨_, rfl⟩
  rw [hfl] at hf hf2 hc HS hg
  rw [hce] at hc HS hg
  simp only at HS
  have HA := Lib.hid hA
  have HB := Lib.hid hB
  obtain ⟨N0, hN0⟩ : ∃ k, pr.length + 1 = k := ⟨_, rfl⟩
  obtain ⟨M0, hM0⟩ : ∃ k, qr.length + 1 = k := ⟨_, rfl⟩
  rw [hN0] at HF ⊢
  rw [hM0] at HG ⊢
  obtain ⟨nx, ny, nz⟩ := n
  obtain ⟨i1, i2, i3, i4, i5, i6⟩ := hn
  simp only at i1 i2 i3 i4 i5 i6
  have e1 : wrap64 (-nx) = -nx := by unfold wrap64; omega
  have e2 : wrap64 (-ny) = -ny := by unfold wrap64; omega
  have e3 : wrap64 (-nz) = -nz := by unfold wrap64; omega
  have e4 : IntKind.i64.wrap (-nx) = -nx := iw_id _ (by omega) (by omega)
  have e5 : IntKind.i64.wrap (-ny) = -ny := iw_id _ (by omega) (by omega)
  have e6 : IntKind.i64.wrap (-nz) = -nz := iw_id _ (by omega) (by omega)
  have e7 : IntKind.i64.wrap lo = lo := iw_id _ (by omega) (by omega)
  obtain ⟨s, hss⟩ : ∃ s, lo - hi = s := ⟨_, rfl⟩
  have e8 : IntKind.i64.wrap (lo - hi) = s := by rw [← hss]; exact iw_id _ (by omega) (by omega)
  have e9 : wrap64 (lo - hi) = s := by rw [← hss]; unfold wrap64; omega
  have hs1 : -1125899906842624 ≤ s ∧ s ≤ 1125899906842624 := by omega
  rw [hss] at hg
  have E9 := Lib.hid e9
  clear hA hB hs hhi hlo hfl hce hN0 hM0 hp hq h0 hss h1 h2
  have z0 := three0 w (.cells #[.slice A0 N0 c0, .slice A1 n1 c1, .slice A2 n2 c2, .int .i64 ra] 36) (.cells #[.slice B0 M0 d0, .slice B1 m1 d1, .slice B2 m2 d2, .int .i64 rb] 36) (.cells #[.int .i64 nx, .int .i64 ny, .int .i64 nz] 23)
  have z1 := three1 w (.cells #[.slice A0 N0 c0, .slice A1 n1 c1, .slice A2 n2 c2, .int .i64 ra] 36) (.cells #[.slice B0 M0 d0, .slice B1 m1 d1, .slice B2 m2 d2, .int .i64 rb] 36) (.cells #[.int .i64 nx, .int .i64 ny, .int .i64 nz] 23)
  have z2 := three2 w (.cells #[.slice A0 N0 c0, .slice A1 n1 c1, .slice A2 n2 c2, .int .i64 ra] 36) (.cells #[.slice B0 M0 d0, .slice B1 m1 d1, .slice B2 m2 d2, .int .i64 rb] 36) (.cells #[.int .i64 nx, .int .i64 ny, .int .i64 nz] 23)
  have zb := Go.Joins.below_alloc3 w (.cells #[.slice A0 N0 c0, .slice A1 n1 c1, .slice A2 n2 c2, .int .i64 ra] 36) (.cells #[.slice B0 M0 d0, .slice B1 m1 d1, .slice B2 m2 d2, .int .i64 rb] 36) (.cells #[.int .i64 nx, .int .i64 ny, .int .i64 nz] 23)
  obtain ⟨w1, hw1⟩ : ∃ V, ((w.alloc (.cells #[.slice A0 N0 c0, .slice A1 n1 c1, .slice A2 n2 c2, .int .i64 ra] 36)).alloc (.cells #[.slice B0 M0 d0, .slice B1 m1 d1, .slice B2 m2 d2, .int .i64 rb] 36)).alloc (.cells #[.int .i64 nx, .int .i64 ny, .int .i64 nz] 23) = V := ⟨_, rfl⟩
  rw [hw1] at z0 z1 z2 zb
  have hw1' := Lib.hid hw1
  have Z0 := Lib.hid z0
  have Z1 := Lib.hid z1
  have Z2 := Lib.hid z2
  have ZB := Lib.hid zb
  clear hw1 z0 z1 z2 zb
  go_enter Try.func64, Try.ntmps64
  go_wp2_with fail
  rw [hw1'.out]
  refine (HF.out w1 (HA.out.below ZB.out)).mono ?_
  rintro e w2 ⟨rfl, hb⟩
  have ZB2 := Lib.hid (bthen ZB.out hb)
  have Y1 := Lib.hid ((hb.block _ (blk_lt Z1.out)).trans Z1.out)
  have Y2 := Lib.hid ((hb.block _ (blk_lt Z2.out)).trans Z2.out)
  have Y0 := Lib.hid ((hb.block _ (blk_lt Z0.out)).trans Z0.out)
  have x0 : w2.cell? ⟨w.heap.size + 1, 0, none⟩ = some (.slice B0 M0 d0) := (blk_cell Y1.out 0).trans rfl
  have y0 : w2.cell? ⟨w.heap.size + 2, 0, none⟩ = some (.int .i64 nx) := (blk_cell Y2.out 0).trans rfl
  have y1 : w2.cell? ⟨w.heap.size + 2, 1, none⟩ = some (.int .i64 ny) := (blk_cell Y2.out 1).trans rfl
  have y2 : w2.cell? ⟨w.heap.size + 2, 2, none⟩ = some (.int .i64 nz) := (blk_cell Y2.out 2).trans rfl
  have l0 : w.heap.size < w2.heap.size := blk_lt Y0.out
  have l1 : w.heap.size + 1 < w2.heap.size := blk_lt Y1.out
  have l2 : w.heap.size + 2 < w2.heap.size := blk_lt Y2.out
  clear hb
  go_wp2_with fail
  refine (HG.out w2 (HB.out.below ZB2.out)).mono ?_
  rintro e w3 ⟨rfl, hb⟩
  have ZB3 := Lib.hid (bthen ZB2.out hb)
  have X0 := Lib.hid ((hb.block _ (blk_lt Y0.out)).trans Y0.out)
  have X1 := Lib.hid ((hb.block _ (blk_lt Y1.out)).trans Y1.out)
  have X2 := Lib.hid ((hb.block _ (blk_lt Y2.out)).trans Y2.out)
  clear x0 y0 y1 y2 l0 l1 l2 hb
  have y0 : w3.cell? ⟨w.heap.size + 2, 0, none⟩ = some (.int .i64 nx) := (blk_cell X2.out 0).trans rfl
  have y1 : w3.cell? ⟨w.heap.size + 2, 1, none⟩ = some (.int .i64 ny) := (blk_cell X2.out 1).trans rfl
  have y2 : w3.cell? ⟨w.heap.size + 2, 2, none⟩ = some (.int .i64 nz) := (blk_cell X2.out 2).trans rfl
  have l2 : w.heap.size + 2 < w3.heap.size := blk_lt X2.out
  go_wp2_with fail
  refine (HS.out w3).mono ?_
  rintro e w4 ⟨rfl, hb⟩
  have ZB4 := Lib.hid (bthen ZB3.out hb)
  have V0 := Lib.hid ((hb.block _ (blk_lt X0.out)).trans X0.out)
  have V1 := Lib.hid ((hb.block _ (blk_lt X1.out)).trans X1.out)
  clear y0 y1 y2 l2 hb e1 e2 e3 e4 e5 e6 e7
  have x3 : w4.cell? ⟨w.heap.size, 3, none⟩ = some (.int .i64 ra) := (blk_cell V0.out 3).trans rfl
  have y3 : w4.cell? ⟨w.heap.size + 1, 3, none⟩ = some (.int .i64 rb) := (blk_cell V1.out 3).trans rfl
  have l0 : w.heap.size < w4.heap.size := blk_lt V0.out
  have l1 : w.heap.size + 1 < w4.heap.size := blk_lt V1.out
  have c1 : (ce == 0) = false := by simp; omega
  have c2 : (fl == 0) = false := by simp; omega
  by_cases hs0 : 0 ≤ s
  · have hv : gapV s ce fl ra rb = s / ce - ra - rb := if_pos hs0
    rw [hv] at hg
    have q1 : 0 ≤ s / ce := Int.ediv_nonneg hs0 (by omega)
    have q2 : s / ce ≤ s := Int.ediv_le_self _ hs0
    have t1 : IntKind.i64.wrap (s.tdiv ce) = s / ce := by rw [Int.tdiv_eq_ediv_of_nonneg hs0]; exact iw_id _ (by omega) (by omega)
    have t2 : IntKind.i64.wrap (s / ce - ra) = s / ce - ra := iw_id _ (by omega) (by omega)
    have t3 : IntKind.i64.wrap (s / ce - ra - rb) = s / ce - ra - rb := iw_id _ (by omega) (by omega)
    have HG2 := Lib.hid hg
    clear hv hg
    go_wp2
    go_quiet (fail)
    go_wp2
    go_ret
    exact ⟨by rw [← HG2.out]; rfl, pw_below_drewN ZB4.out _⟩
  · have hv : gapV s ce fl ra rb = -((-s + fl - 1) / fl) - ra - rb := if_neg hs0
    rw [hv] at hg
    have q0 : 0 ≤ -s + fl - 1 := by omega
    have q1 : 0 ≤ (-s + fl - 1) / fl := Int.ediv_nonneg q0 (by omega)
    have q2 : (-s + fl - 1) / fl ≤ -s + fl - 1 := Int.ediv_le_self _ q0
    have t0 : IntKind.i64.wrap (-s) = -s := iw_id _ (by omega) (by omega)
    have t0' : IntKind.i64.wrap (-s + fl) = -s + fl := iw_id _ (by omega) (by omega)
    have t0'' : IntKind.i64.wrap (-s + fl - 1) = -s + fl - 1 := iw_id _ (by omega) (by omega)
    have t1 : IntKind.i64.wrap ((-s + fl - 1).tdiv fl) = (-s + fl - 1) / fl := by rw [Int.tdiv_eq_ediv_of_nonneg q0]; exact iw_id _ (by omega) (by omega)
    have t1' : IntKind.i64.wrap (-((-s + fl - 1) / fl)) = -((-s + fl - 1) / fl) := iw_id _ (by omega) (by omega)
    have t2 : IntKind.i64.wrap (-((-s + fl - 1) / fl) - ra) = -((-s + fl - 1) / fl) - ra := iw_id _ (by omega) (by omega)
    have t3 : IntKind.i64.wrap (-((-s + fl - 1) / fl) - ra - rb) = -((-s + fl - 1) / fl) - ra - rb := iw_id _ (by omega) (by omega)
    have hs' : decide (0 ≤ s) = false := by simpa using hs0
    have hs3 : s < 0 := by omega
    have HG2 := Lib.hid hg
    clear hv hg hs0
    go_wp2
    go_quiet (fail)
    go_wp2
    go_ret
    exact ⟨by rw [← HG2.out]; rfl, pw_below_drewN ZB4.out _⟩
end Go.Proofs.Ytckdhahceelckaa.G
namespace Go.Proofs.Ytckdhahceelckaa.G
open Go.RowKit Go.Proofs.YtckdhahceelckaaW.PrintWords Go.Proofs.YtckdhahceelckaaW.PrintLast Go.Proofs.YtckdhahceelckaaW.PrintMore
attribute [local go_sem] max2_mx min2_mn max_two min_two max_three min_three max_four min_four
attribute [local go_sem high] eqA23
set_option linter.unusedVariables false
set_option linter.unusedSimpArgs false
set_option maxHeartbeats 2000000 in
theorem rlong_calls (p : P3) (w : World) (hp : in3 4398046511104 p) :
    Calls Try.prog 119 #[aP p] w fun e w' => e = .returned (aP (long3 p)) ∧ Below w.heap.size w w' := by
  have HS := Lib.hid (fun W => rshort_calls p W hp)
  obtain ⟨x, y, z⟩ := p
  have B1 := ((C3.new w (.int .i64 x) (.int .i64 y) (.int .i64 z) 23).alloc (.cells #[.int .i64 0, .int .i64 0, .int .i64 0] 23))
  have B2 := (C3.new (w.alloc (.cells #[.int .i64 x, .int .i64 y, .int .i64 z] 23)) (.int .i64 0) (.int .i64 0) (.int .i64 0) 23)
  simp only [World.size_alloc] at B2
  have B1 := Lib.hid B1
  have B2 := Lib.hid B2
  obtain ⟨q, hq⟩ : ∃ q, short3 ⟨x, y, z⟩ = q := ⟨_, rfl⟩
  have hin : in3 1048576 q := by rw [← hq]; exact short3_in _
  unfold long3
  rw [hq] at HS ⊢
  clear hp hq
  obtain ⟨px, py, pz⟩ := q
  by_cases hz : (⟨px, py, pz⟩ : P3) = ⟨0, 0, 0⟩
  · have h1 : dbl3 ⟨px, py, pz⟩ = ⟨0, 0, 0⟩ := by rw [dbl3, dif_pos (.inr hz)]; exact hz
    rw [h1]
    clear h1
    have he := eqP_yes hz
    simp only [P3.mk.injEq] at hz
    obtain ⟨rfl, rfl, rfl⟩ := hz
    go_enter Try.func119, Try.ntmps119
    go_wp2_with (go_at_call 81; refine (HS.out _).mono ?_; rintro e w1 ⟨rfl, hb1⟩; obtain ⟨c10, c11, c12, f10, f11, f12⟩ := B1.out.below hb1; have D2 := Lib.hid (B2.out.below hb1); obtain ⟨c20, c21, c22, f20, f21, f22⟩ := D2.out)
    have hB : Below w.heap.size w w1 := (((Below.refl _ w).alloc (Nat.le_refl _) _).alloc (by simp) _).trans (hb1.mono (by simp; omega))
    exact bodyPost_ret (v := .agg #[.int .i64 0, .int .i64 0, .int .i64 0]) (by simp [results, Try.results119, go_sem, c20, c21, c22]) rfl ⟨rfl, below_set3 (below_set3 hB (Nat.le_refl _) _ _ _) (by omega) _ _ _⟩
  · obtain ⟨D, hD⟩ : ∃ D, dbl3 ⟨px, py, pz⟩ = D := ⟨_, rfl⟩
    rw [hD]
    have HD := Lib.hid hD
    have HZ := Lib.hid hz
    have HI := Lib.hid hin
    have he := eqP_no hz
    clear hD hz hin
    go_enter Try.func119, Try.ntmps119
    go_wp2_with (go_at_call 81; refine (HS.out _).mono ?_; rintro e w1 ⟨rfl, hb1⟩; have D1 := Lib.hid (B1.out.below hb1); obtain ⟨c10, c11, c12, f10, f11, f12⟩ := D1.out; have D2 := Lib.hid (B2.out.below hb1))
    have hB : Below w.heap.size w w1 := (((Below.refl _ w).alloc (Nat.le_refl _) _).alloc (by simp) _).trans (hb1.mono (by simp; omega))
    have hB := below_set3 hB (Nat.le_refl w.heap.size) (.int .i64 px) (.int .i64 py) (.int .i64 pz)
    have B2 := D2.out.other (g' := w.heap.size) (by omega) (.int .i64 px) (.int .i64 py) (.int .i64 pz)
    have B1 := D1.out.set (.int .i64 px) (.int .i64 py) (.int .i64 pz)
    unfold set3 at B1 B2 hB
    generalize ((w1.setCell { block := w.heap.size, off := 0 } (Value.int IntKind.i64 px)).setCell { block := w.heap.size, off := 1 } (Value.int IntKind.i64 py)).setCell { block := w.heap.size, off := 2 } (Value.int IntKind.i64 pz) = w3 at B1 B2 hB ⊢
    clear he hb1 c10 c11 c12 f10 f11 f12 D1 D2
    go_loopg [3] (2000000 - size3 ⟨px, py, pz⟩) (fun kq v3 wr => ∃ r : P3, Hid (kq = 2000000 - size3 r) ∧ Hid (dbl3 r = D) ∧ Hid (in3 1048576 r) ∧ Hid (r ≠ ⟨0, 0, 0⟩) ∧ Hid (C3 wr w.heap.size (.int .i64 r.x) (.int .i64 r.y) (.int .i64 r.z)) ∧ Hid (C3 wr (w.heap.size + 1) (.int .i64 0) (.int .i64 0) (.int .i64 0)) ∧ Hid (Below w.heap.size w wr))
    case atStart => exact ⟨⟨px, py, pz⟩, rfl, HD.out, HI.out, HZ.out, B1, B2, hB⟩
    case round =>
      obtain ⟨r, h1, h2, h3, h4, h5, h6, h7⟩ := hrel
      obtain ⟨hx1, hx2, hy1, hy2, hz1, hz2⟩ := h3.out
      obtain ⟨rx, ry, rz⟩ := r
      dsimp only at h5 hx1 hx2 hy1 hy2 hz1 hz2
      obtain ⟨c10, c11, c12, f10, f11, f12⟩ := id h5.out
      cases hf : far3 524288 ⟨rx, ry, rz⟩ with
      | false =>
        have hne : ¬ (far3 524288 ⟨rx, ry, rz⟩ = true ∨ (⟨rx, ry, rz⟩ : P3) = ⟨0, 0, 0⟩) := by rw [hf]; simpa using h4.out
        have e1 : dbl3 ⟨rx, ry, rz⟩ = dbl3 (two3 ⟨rx, ry, rz⟩) := by rw [dbl3, dif_neg hne]
        have e2 : Hid (2000000 - size3 (two3 ⟨rx, ry, rz⟩) < gk) := by rw [h1.out]; exact two3_lt _ hne
        have e4 := Lib.hid (two3_ne _ h4.out)
        have hi5 := (far3_iff _ _ (by decide) (by decide)).1 hf
        have HI5 := Lib.hid (fun W => rin_calls ⟨rx, ry, rz⟩ 524288 true (decide_eq_true hi5) (by decide) (by decide) W)
        have e3 : Hid (in3 1048576 (two3 ⟨rx, ry, rz⟩)) := by unfold in3 two3 at *; simp only at *; show _ ∧ _; omega
        have E1 : Hid (dbl3 (two3 ⟨rx, ry, rz⟩) = D) := e1.symm.trans h2.out
        clear e1 hne hi5 hf
        go_wp2_with (go_at_call 67; refine (HI5.out _).mono ?_; rintro e w5 ⟨rfl, hb5⟩; have D1 := Lib.hid (h5.out.below hb5); have D2 := Lib.hid (h6.out.below hb5); obtain ⟨d10, d11, d12, g10, g11, g12⟩ := id D1.out)
        go_roundg (2000000 - size3 (two3 ⟨rx, ry, rz⟩))
        case measure => exact e2.out
        case rel => exact ⟨two3 ⟨rx, ry, rz⟩, rfl, E1, e3, e4, D1.out.set _ _ _, D2.out.other (by omega) _ _ _, below_set3 (h7.out.trans (hb5.mono h7.out.size)) (Nat.le_refl _) _ _ _⟩
      | true =>
        have e1 : dbl3 ⟨rx, ry, rz⟩ = ⟨rx, ry, rz⟩ := by rw [dbl3, dif_pos (.inl hf)]
        have hi5 : ¬ in3 524288 ⟨rx, ry, rz⟩ := fun h => by rw [(far3_iff _ _ (by decide) (by decide)).2 h] at hf; cases hf
        have HI5 := Lib.hid (fun W => rin_calls ⟨rx, ry, rz⟩ 524288 false (decide_eq_false hi5) (by decide) (by decide) W)
        obtain rfl : D = ⟨rx, ry, rz⟩ := h2.out.symm.trans e1
        clear e1 hi5 hf
        go_wp2_with (go_at_call 67; refine (HI5.out _).mono ?_; rintro e w5 ⟨rfl, hb5⟩; have D1 := Lib.hid (h5.out.below hb5); have D2 := Lib.hid (h6.out.below hb5); obtain ⟨d10, d11, d12, g10, g11, g12⟩ := id D1.out; obtain ⟨d20, d21, d22, g20, g21, g22⟩ := id D2.out)
        exact bodyPost_ret (v := aP ⟨rx, ry, rz⟩) (by simp [results, Try.results119, go_sem, d20, d21, d22]) rfl ⟨rfl, below_set3 (h7.out.trans (hb5.mono h7.out.size)) (by omega) _ _ _⟩
end Go.Proofs.Ytckdhahceelckaa.G
namespace Go.Proofs.Ytckdhahceelckaa.G
open Go.RowKit Go.Proofs.YtckdhahceelckaaW.PrintWords Go.Proofs.YtckdhahceelckaaW.PrintLast Go.Proofs.YtckdhahceelckaaW.PrintMore
set_option linter.unusedVariables false
set_option linter.unusedSimpArgs false
section
variable {w : World} {ops : Array Oper} {rest : List Oper} {o : Oper} {a : Act} {Q : Exit → Act → World → Prop} {K : Act → World → Prop} {N : Option Tmp}
theorem run_append_pts (w : World) (base : Nat) (ty : TypeId) (v : Value) (l l2 : List P3) (A : Option Addr) (m c : Nat) (hown : OwnP w base v l) (hr : Rd w A l2) (hm : l2.length = m) (hsz : l.length + m ≤ 1000000) (hbase : base ≤ w.heap.size) :
    ∃ v' w', (Builtin.append_ #[24, 24] ty #[v, .slice A m c]).run Try.prog w = .ok v' w' ∧ OwnP w' base v' (l ++ l2) ∧ w.grownBy w' v.ownBlock ∧ (v'.ownBlock = v.ownBlock ∨ v'.ownBlock = some w.heap.size) := by
  obtain ⟨i0, hi, hz0, hz1, hz2⟩ := info_parts info23
  cases A with
  | none =>
    have h0 : l2 = [] := by
      cases l2 with
      | nil => rfl
      | cons p l2 => obtain ⟨b, o', e, _⟩ := hr 0 p rfl; cases e
    subst h0
    simp only [List.length_nil] at hm
    subst hm
    refine ⟨v, w, ?_, by rw [List.append_nil]; exact hown, World.grownBy.refl w _, .inl rfl⟩
    rcases hown.2 with ⟨rfl, hn⟩ | ⟨g, cap, cur, rfl, _, _, hnc, _⟩
    · simp [Builtin.append_, run_underlying Try.underlying24, sizeOf, typeInfo, hi, Builtin.lenOf, Builtin.firstCells]
    · simp [Builtin.append_, run_underlying Try.underlying24, sizeOf, typeInfo, hi, Builtin.lenOf, Builtin.firstCells, hnc, storeCells]
  | some ad =>
    have hnews : ∀ j u, (cells3 l2)[j]? = some u → w.cell? (ad.add j) = some u := by
      cases l2 with
      | nil => intro j u hj; simp [cells3] at hj
      | cons p l2 =>
        obtain ⟨b, o', e, _⟩ := hr 0 p rfl
        simp only [Option.some.injEq] at e
        subst e
        intro j u hj
        rw [add_at]
        exact hr.cells j u hj
    obtain ⟨v', w', h0, h1, h2, _, h4⟩ := Go.run_append_own_at (P := Try.prog) w base 24 ty 23 i0 _ 3 24 Try.underlying24 hi hz0 hz1 hz2 rfl (by omega) v l.length (cells3 l) hown ad m c (cells3 l2) (by rw [cells3_length, hm]) hnews (cells3_one l2) (by unfold maxLen; omega) (by omega) hbase
    refine ⟨v', w', h0, ?_, h2, h4⟩
    show w'.ownsRow base 23 3 v' (l ++ l2).length (cells3 (l ++ l2))
    rw [cells3_append, List.length_append, hm]
    exact h1
/-- append of points, where the new row lies told -/
theorem appL_ (base : Nat) (hgd : o.guard = none) (s x : Operand) (ho : o.op = .call { callee := .builtin .append, args := #[s, x], argTypes := #[24, 24] })
    (v : Value) (l l2 : List P3) (A : Option Addr) (m c : Nat) (hs : a.eval s = v) (hx : a.eval x = .slice A m c) (hown : OwnP w base v l) (hr : Rd w A l2) (hm : l2.length = m) (hsz : l.length + m ≤ 1000000) (hbase : base ≤ w.heap.size)
    (h : ∀ v' w', OwnP w' base v' (l ++ l2) → w.grownBy w' v.ownBlock → (v'.ownBlock = v.ownBlock ∨ v'.ownBlock = some w.heap.size) → wpList Try.prog ops Q rest (a.put o.dst v') w') : wpList Try.prog ops Q (o :: rest) a w := by
  obtain ⟨v', w', h0, h1, h2, h3⟩ := run_append_pts w base o.type v l l2 A m c hown hr hm hsz hbase
  exact Go.Lib.wpList_append_run w hgd s x 24 24 ho v (.slice A m c) hs hx v' w' h0 (h v' w' h1 h2 h3)
/-- the same inside a region that draws its order -/
theorem appR_ (base : Nat) (hw : Region.wanted o (yielded ops a.tmps) = true) (hN : o.dst = N) (s x : Operand) (ho : o.op = .call { callee := .builtin .append, args := #[s, x], argTypes := #[24, 24] })
    (v : Value) (l l2 : List P3) (A : Option Addr) (m c : Nat) (hs : a.eval s = v) (hx : a.eval x = .slice A m c) (hown : OwnP w base v l) (hr : Rd w A l2) (hm : l2.length = m) (hsz : l.length + m ≤ 1000000) (hbase : base ≤ w.heap.size)
    (h : ∀ v' w', OwnP w' base v' (l ++ l2) → w.grownBy w' v.ownBlock → (v'.ownBlock = v.ownBlock ∨ v'.ownBlock = some w.heap.size) → K (a.put N v') w') :
    if Region.wanted o (yielded ops a.tmps) = true then Oper.wp Try.prog o a w K Q else K (a.put N undef) w := by
  rw [if_pos hw]
  subst hN
  obtain ⟨v', w', h0, h1, h2, h3⟩ := run_append_pts w base o.type v l l2 A m c hown hr hm hsz hbase
  unfold Oper.wp execOp
  simp only [ho, resolve, invoke, builtin, Sem.run_bind, Sem.run_pure, Result.andThen_ok, List.map_toArray, List.map_cons, List.map_nil, hs, hx, h0]
  exact h _ _ h1 h2 h3
end
theorem OwnP.rdB2 {w : World} {base : Nat} {v : Value} {l : List P3} (h : OwnP w base v l) : ∃ A c, v = .slice A l.length c ∧ l.length ≤ c ∧ RdB w A l ∧ (∀ ad, A = some ad → base ≤ ad.block) := by
  obtain ⟨A, c, e, h1, h2, h3⟩ := OwnP.rd h
  refine ⟨A, c, e, h1, ⟨h2, fun ad ea => ?_⟩, h3⟩
  subst ea
  exact (World.ownsRow.lt h ad.block (by rw [e]; rfl)).2
/-- a list of the call's own grows; what lay there at its beginning, and what is kept, stays -/
structure CSt (w1 W : World) (v : Value) (l : List P3) (keep : List Nat) : Prop where
  own : OwnP W w1.heap.size v l
  below : Below w1.heap.size w1 W
  ne : ∀ k ∈ keep, v.ownBlock ≠ some k ∧ k < W.heap.size
theorem CSt.start (w1 : World) : CSt w1 w1 (.slice none 0 0) [] [] := ⟨OwnP.nil _ _, Below.refl _ _, by simp⟩
theorem CSt.grown {w1 W W' : World} {v : Value} {l : List P3} {keep : List Nat} (h : CSt w1 W v l keep) (hb : Below W.heap.size W W') : CSt w1 W' v l keep :=
  ⟨h.own.grown hb, bthen h.below hb, fun k hk => ⟨(h.ne k hk).1, Nat.lt_of_lt_of_le (h.ne k hk).2 hb.size⟩⟩
theorem CSt.app {w1 W W' : World} {v v' : Value} {l l' : List P3} {keep : List Nat} (h : CSt w1 W v l keep) (hv : OwnP W' w1.heap.size v' l') (hg : W.grownBy W' v.ownBlock) (hat : v'.ownBlock = v.ownBlock ∨ v'.ownBlock = some W.heap.size) : CSt w1 W' v' l' keep := by
  refine ⟨hv, h.below.grown hg h.below.size (fun k hk => h.own.base_ k hk), fun k hk => ?_⟩
  obtain ⟨h1, h2⟩ := h.ne k hk
  refine ⟨?_, Nat.lt_of_lt_of_le h2 hg.size⟩
  rcases hat with e | e
  · rw [e]; exact h1
  · rw [e]; intro e'; cases e'; omega
theorem CSt.blk {w1 W W' : World} {v : Value} {l : List P3} {keep : List Nat} (h : CSt w1 W v l keep) (hg : W.grownBy W' v.ownBlock) {k : Nat} (hk : k ∈ keep) {o : Obj} (ho : W.heap[k]? = some o) : W'.heap[k]? = some o :=
  (hg.block k (h.ne k hk).2 (fun e => (h.ne k hk).1 e.symm)).trans ho
theorem CSt.more {w1 W W' : World} {v : Value} {l : List P3} {keep : List Nat} (h : CSt w1 W v l keep) (hb : Below W.heap.size W W') {k : Nat} (hk : W.heap.size ≤ k) (hk2 : k < W'.heap.size) : CSt w1 W' v l (k :: keep) := by
  refine ⟨h.own.grown hb, bthen h.below hb, fun j hj => ?_⟩
  rcases List.mem_cons.1 hj with rfl | hj
  · exact ⟨fun e => by have := h.own.lt _ e; omega, hk2⟩
  · exact ⟨(h.ne j hj).1, Nat.lt_of_lt_of_le (h.ne j hj).2 hb.size⟩
theorem CSt.less {w1 W : World} {v : Value} {l : List P3} {k : Nat} {keep : List Nat} (h : CSt w1 W v l (k :: keep)) : CSt w1 W v l keep := ⟨h.own, h.below, fun j hj => h.ne j (List.mem_cons_of_mem _ hj)⟩
theorem CSt.old {w1 W : World} {v : Value} {l : List P3} {keep : List Nat} (h : CSt w1 W v l keep) {k : Nat} {o : Obj} (ho : w1.heap[k]? = some o) : W.heap[k]? = some o := (h.below.block k (blk_lt ho)).trans ho
theorem CSt.len {w1 W : World} {v : Value} {l l' : List P3} {keep : List Nat} (h : CSt w1 W v l keep) (e : l = l') : CSt w1 W v l' keep := e ▸ h
theorem RdB.blk {w W : World} {A : Option Addr} {l : List P3} (h : RdB w A l) (hs : w.heap.size ≤ W.heap.size) (hk : ∀ ad, A = some ad → W.heap[ad.block]? = w.heap[ad.block]?) : RdB W A l := by
  refine ⟨fun i p hp => ?_, fun ad e => Nat.lt_of_lt_of_le (h.2 ad e) hs⟩
  obtain ⟨b, o, rfl, hlt, h1, h2, h3⟩ := h.1 i p hp
  have hb := hk _ rfl
  have q : ∀ k, W.cell? ⟨b, k, none⟩ = w.cell? ⟨b, k, none⟩ := fun k => World.cell?_of_block (a := ⟨b, k, none⟩) hb
  exact ⟨b, o, rfl, Nat.lt_of_lt_of_le hlt hs, (q _).trans h1, (q _).trans h2, (q _).trans h3⟩
theorem below_none {w w' : World} (h : w.grownBy w' none) : Below w.heap.size w w' := ⟨h.os, h.tape, h.output, h.size, fun k hk => h.block k hk (by simp)⟩
theorem Rd_pair {w : World} {g : Nat} {p q : P3} {t : TypeId} (h : w.heap[g]? = some (.cells #[.int .i64 p.x, .int .i64 p.y, .int .i64 p.z, .int .i64 q.x, .int .i64 q.y, .int .i64 q.z] t (0, 0))) : RdB w (some ⟨g, 0, none⟩) [p, q] :=
  ⟨fun i u hu => by
    match i, hu with
    | 0, hu => simp at hu; subst hu; exact ⟨g, 0, rfl, blk_lt h, (blk_cell h 0).trans rfl, (blk_cell h 1).trans rfl, (blk_cell h 2).trans rfl⟩
    | 1, hu => simp at hu; subst hu; exact ⟨g, 0, rfl, blk_lt h, (blk_cell h 3).trans rfl, (blk_cell h 4).trans rfl, (blk_cell h 5).trans rfl⟩
    | i + 2, hu => simp at hu, fun ad e => by cases e; exact blk_lt h⟩
/-- the block of a slice -/
def keepA (A : Option Addr) : List Nat := (A.map (·.block)).toList
theorem CSt.moreA {w1 W W' : World} {v : Value} {l : List P3} (h : CSt w1 W v l []) (hb : Below W.heap.size W W') {A : Option Addr} (hA : ∀ ad, A = some ad → W.heap.size ≤ ad.block) (hA2 : ∀ ad, A = some ad → ad.block < W'.heap.size) : CSt w1 W' v l (keepA A) := by
  cases A with
  | none => exact h.grown hb
  | some ad => exact h.more hb (hA ad rfl) (hA2 ad rfl)
theorem RdB.keep {w1 W W' : World} {v : Value} {l es : List P3} {keep : List Nat} {A : Option Addr} (h : RdB W A es) (S : CSt w1 W v l keep) (hs : ∀ k ∈ keepA A, k ∈ keep) (hg : W.grownBy W' v.ownBlock) : RdB W' A es :=
  h.blk hg.size fun ad e => by
    have hk := hs ad.block (by rw [e]; simp [keepA])
    exact hg.block ad.block (S.ne _ hk).2 (fun e' => (S.ne _ hk).1 e'.symm)
def ng3 (n : P3) : P3 := ⟨-n.x, -n.y, -n.z⟩
/-- the candidates of directions as they are -/
def candF (l : List P3) : List P3 := l.flatMap fun x => if long3 x = ⟨0, 0, 0⟩ then [] else [long3 x, ng3 (long3 x)]
theorem candF_no (l : List P3) (k : Nat) (h : k < l.length) (h0 : long3 l[k] = ⟨0, 0, 0⟩) : candF (l.take (k + 1)) = candF (l.take k) := by
  unfold candF; rw [List.take_succ_eq_append_getElem h, List.flatMap_append]; simp [h0]
theorem candF_yes (l : List P3) (k : Nat) (h : k < l.length) (h0 : long3 l[k] ≠ ⟨0, 0, 0⟩) : candF (l.take (k + 1)) = candF (l.take k) ++ [long3 l[k], ng3 (long3 l[k])] := by
  unfold candF; rw [List.take_succ_eq_append_getElem h, List.flatMap_append]; simp [h0]
theorem candF_len (l : List P3) : (candF l).length ≤ 2 * l.length := by
  unfold candF
  induction l with
  | nil => simp
  | cons x l ih =>
    rw [List.flatMap_cons, List.length_append, List.length_cons]
    have : (if long3 x = ⟨0, 0, 0⟩ then [] else [long3 x, ng3 (long3 x)]).length ≤ 2 := by split <;> simp
    omega
theorem flatM_snoc {α β : Type} (f : α → List β) (l : List α) (k : Nat) (h : k < l.length) : (l.take (k + 1)).flatMap f = (l.take k).flatMap f ++ f l[k] := by
  rw [List.take_succ_eq_append_getElem h, List.flatMap_append]; simp
theorem mapM_snoc {α β : Type} (f : α → β) (l : List α) (k : Nat) (h : k < l.length) : (l.take (k + 1)).map f = (l.take k).map f ++ [f l[k]] := by
  rw [List.take_succ_eq_append_getElem h, List.map_append]; rfl
theorem flat_le {α β : Type} (f : α → List β) (n : Nat) : ∀ (l : List α), (∀ x ∈ l, (f x).length ≤ n) → (l.flatMap f).length ≤ l.length * n
  | [], _ => by simp
  | x :: l, h => by
    rw [List.flatMap_cons, List.length_append, List.length_cons, Nat.add_mul]
    have := flat_le f n l fun y hy => h y (by simp [hy])
    have := h x (by simp)
    omega
theorem cross_in {p q : P3} (hp : in3 1048576 p) (hq : in3 1048576 q) : in3 4398046511104 (cross3 p q) := by
  obtain ⟨e, h⟩ := cross3_eq p q 1048576 1048576 hp hq (by decide)
  rw [e]
  exact in3_le (by decide) h
theorem minus_in {p q : P3} (hp : in3 16777216 p) (hq : in3 16777216 q) : in3 4398046511104 (minus3 p q) := by
  rw [minus3_eq p q (in3_le (by decide) hp) (in3_le (by decide) hq)]
  unfold in3 at *
  simp only
  omega
end Go.Proofs.Ytckdhahceelckaa.G
namespace Go.Proofs.Ytckdhahceelckaa.G
open Go.RowKit Go.Proofs.YtckdhahceelckaaW.PrintWords Go.Proofs.YtckdhahceelckaaW.PrintLast Go.Proofs.YtckdhahceelckaaW.PrintMore
attribute [local go_sem] max2_mx min2_mn max_two min_two max_three min_three max_four min_four
attribute [local go_sem high] eqA23
set_option linter.unusedVariables false
set_option linter.unusedSimpArgs false
theorem eqSn0 (d n c : Nat) (w : World) : (Op.equalIn (d + 1) 24 (.slice none n c) (.slice none 0 0)).run Try.prog w = .ok true w := by
  simp [Op.equalIn, run_underlying Try.underlying24]
theorem eqSs0 (d n c : Nat) (ad : Addr) (w : World) : (Op.equalIn (d + 1) 24 (.slice (some ad) n c) (.slice none 0 0)).run Try.prog w = .ok false w := by
  simp [Op.equalIn, run_underlying Try.underlying24]
theorem eqE (x y : Value) (w : World) (b : Bool) (hx : binOp .eql 24 x y = (do pure (.bool (← Op.equal 24 x y)))) (h : ∀ d, (Op.equalIn (d + 1) 24 x y).run Try.prog w = .ok b w) : Sem.run Try.prog (binOp .eql 24 x y) w = .ok (.bool b) w := by
  rw [hx, Sem.run_bind]
  unfold Op.equal Op.maxDepth
  rw [h 9999]
  rfl
theorem eqSn (n c : Nat) (w : World) : Sem.run Try.prog (binOp .eql 24 (.slice none n c) (.slice none 0 0)) w = .ok (.bool true) w := eqE _ _ w true rfl fun d => eqSn0 d n c w
theorem eqSs (n c : Nat) (ad : Addr) (w : World) : Sem.run Try.prog (binOp .eql 24 (.slice (some ad) n c) (.slice none 0 0)) w = .ok (.bool false) w := eqE _ _ w false rfl fun d => eqSs0 d n c ad w
/-- a list of points of its own -/
def PtsPostB (l : List P3) (w : World) (e : Ending) (w' : World) : Prop := ∃ A c, e = .returned (.slice A l.length c) ∧ l.length ≤ c ∧ RdB w' A l ∧ Below w.heap.size w w' ∧ (∀ ad, A = some ad → w.heap.size ≤ ad.block)
attribute [local go_sem high] eqSn eqSs
set_option maxHeartbeats 2000000 in
set_option maxRecDepth 100000 in
theorem clone_calls (l : List P3) (n : Nat) (A : Option Addr) (c : Nat) (w : World) (hn : l.length = n) (hr : Rd w A l) (hb : n ≤ 40000) :
    Calls Try.prog 71 #[.slice A n c] w (PtsPostB l w) := by
  have HR := Lib.hid hr
  have HN := Lib.hid hn
  cases A with
  | none =>
    have h0 : l = [] := by
      cases l with
      | nil => rfl
      | cons p l => obtain ⟨b, o', e, _⟩ := hr 0 p rfl; cases e
    subst h0
    clear hn hr
    go_enter Try.func71, Try.ntmps71
    go_wp2
    go_ret
    exact ⟨none, 0, rfl, Nat.le_refl _, RdB.nil _, Below.refl _ _, fun ad e => by cases e⟩
  | some ad =>
    clear hn hr
    go_enter Try.func71, Try.ntmps71
    have hown : OwnP (w.alloc (.cells #[] 23)) w.heap.size (.slice (some ⟨w.heap.size, 0, none⟩) 0 0) [] := ⟨rfl, .inr ⟨w.heap.size, 0, #[], rfl, Nat.le_refl _, heap_alloc_new w (.cells #[] 23), Nat.le_refl _, by decide, rfl, rfl⟩⟩
    have hB := (Below.refl w.heap.size w).alloc (Nat.le_refl _) (.cells #[] 23)
    have HOWN := Lib.hid hown
    have HB := Lib.hid hB
    clear hown hB
    go_wp2_with (at_builtin; refine appL_ w.heap.size rfl _ _ rfl _ [] l (some ad) _ _ rfl rfl HOWN.out (HR.out.below HB.out) HN.out (by simp; omega) HB.out.size ?_; intro v2 w3 hv hg hat)
    go_ret
    obtain ⟨A, c', rfl, hlc, hrd, hbs⟩ := hv.rdB2
    exact ⟨A, c', rfl, hlc, hrd, HB.out.grown hg HB.out.size (fun k hk => HOWN.out.base_ k hk), hbs⟩
end Go.Proofs.Ytckdhahceelckaa.G
namespace Go.Proofs.Ytckdhahceelckaa.G
open Go.RowKit Go.Proofs.YtckdhahceelckaaW.PrintWords Go.Proofs.YtckdhahceelckaaW.PrintLast Go.Proofs.YtckdhahceelckaaW.PrintMore
attribute [local go_sem] max2_mx min2_mn max_two min_two max_three min_three max_four min_four
attribute [local go_sem high] eqA23
set_option linter.unusedVariables false
set_option linter.unusedSimpArgs false
theorem gb_below {w w1 w2 : World} {k : Option Nat} (h : w.grownBy w1 k) (b : Below w1.heap.size w1 w2) : w.grownBy w2 k :=
  ⟨b.os.trans h.os, b.tape.trans h.tape, b.output.trans h.output, Nat.le_trans h.size b.size, fun j hj hk => (b.block j (Nat.lt_of_lt_of_le hj h.size)).trans (h.block j hj hk)⟩
theorem gb_own {w w1 w2 : World} {g : Nat} {v : Value} (h : w.grownBy w1 (some g)) (k : w1.grownBy w2 v.ownBlock) (hv : ∀ j, v.ownBlock = some j → w.heap.size ≤ j) : w.grownBy w2 (some g) :=
  ⟨k.os.trans h.os, k.tape.trans h.tape, k.output.trans h.output, Nat.le_trans h.size k.size, fun j hj hk => (k.block j (Nat.lt_of_lt_of_le hj h.size) (fun e => by have := hv j e.symm; omega)).trans (h.block j hj hk)⟩
theorem gb_set {w w1 : World} {g : Nat} (h : w.grownBy w1 (some g)) (j : Nat) (u : Value) : w.grownBy (w1.setCell ⟨g, j, none⟩ u) (some g) :=
  ⟨h.os, h.tape, h.output, by simpa using h.size, fun i hi hk => (Below.heap_setCell w1 ⟨g, j, none⟩ u i (fun e => hk (by simp at e; rw [e]))).trans (h.block i hi hk)⟩
theorem gb_refl (w : World) (k : Option Nat) : w.grownBy w k := ⟨rfl, rfl, rfl, Nat.le_refl _, fun _ _ _ => rfl⟩
theorem RdB.gb {w w1 : World} {A : Option Addr} {l : List P3} {g : Nat} (h : RdB w A l) (k : w.grownBy w1 (some g)) (hne : ∀ ad, A = some ad → ad.block ≠ g) : RdB w1 A l :=
  h.blk k.size fun ad e => k.block ad.block (h.2 ad e) (fun e' => hne ad e (by cases e'; rfl))
theorem below_gb {w w1 w2 : World} {g b : Nat} (h : Below b w w1) (k : w1.grownBy w2 (some g)) (hg : b ≤ g) (hb : b ≤ w1.heap.size) : Below b w w2 :=
  ⟨k.os.trans h.os, k.tape.trans h.tape, k.output.trans h.output, Nat.le_trans h.size k.size, fun j hj => (k.block j (Nat.lt_of_lt_of_le hj hb) (fun e => by cases e; omega)).trans (h.block j hj)⟩
/-- a slice of its own for l beside block g -/
def CloneV (W : World) (v : Value) (l : List P3) (n g : Nat) : Prop := ∃ A c, v = .slice A n c ∧ n ≤ c ∧ RdB W A l ∧ ∀ ad, A = some ad → ad.block ≠ g
set_option maxHeartbeats 8000000 in
set_option maxRecDepth 100000 in
theorem moved_in (p a e : List P3) (r : Int) (A0 A1 A2 : Option Addr) (c0 c1 c2 : Nat) (y : P3) (w : World) (h0 : RdB w A0 p) (h1 : RdB w A1 a) (h2 : RdB w A2 e) (hp1 : p.length ≤ 1000) (ha1 : a.length ≤ 1000) (he1 : e.length ≤ 1000)
    (hy : in3 1048576 y) (hp : ∀ x ∈ p, in3 8388608 x) :
    Calls Try.prog 30 #[.agg #[.slice A0 p.length c0, .slice A1 a.length c1, .slice A2 e.length c2, .int .i64 r], aP y] w (fun en w' => ∃ v, en = .returned v ∧ CoreV w' v (p.map (plusI y)) a e r ∧ Below w.heap.size w w') := by
  have HP := Lib.hid (fun k (hk : k < p.length) => hp p[k] (List.getElem_mem hk))
  have HY := Lib.hid hy
  have HMAP := Lib.hid (fun k (hk : k < p.length) => show (p.map (plusI y)).take (k + 1) = (p.map (plusI y)).take k ++ [plusI y p[k]] by rw [List.take_succ_eq_append_getElem (by rw [List.length_map]; exact hk), List.getElem_map])
  have HLM := Lib.hid (show (p.map (plusI y)).length = p.length from List.length_map _)
  obtain ⟨LM, hLM⟩ : ∃ L, p.map (plusI y) = L := ⟨_, rfl⟩
  rw [hLM] at HMAP HLM ⊢
  have HCA := Lib.hid (fun (W : World) (hW : RdB W A1 a) => clone_calls a _ A1 c1 W rfl hW.1 (by omega))
  have HCE := Lib.hid (fun (W : World) (hW : RdB W A2 e) => clone_calls e _ A2 c2 W rfl hW.1 (by omega))
  obtain ⟨yx, yy, yz⟩ := y
  obtain ⟨NP, hNP⟩ : ∃ N, p.length = N := ⟨_, rfl⟩
  obtain ⟨NA, hNA⟩ : ∃ N, a.length = N := ⟨_, rfl⟩
  obtain ⟨NE, hNE⟩ : ∃ N, e.length = N := ⟨_, rfl⟩
  have HNP := Lib.hid hNP
  have HNA := Lib.hid hNA
  have HNE := Lib.hid hNE
  rw [hNP] at hp1 ⊢
  rw [hNA] at ha1 HCA ⊢
  rw [hNE] at he1 HCE ⊢
  have H0 := Lib.hid h0
  have H1 := Lib.hid h1
  have H2 := Lib.hid h2
  clear h0 h1 h2 hy hp hLM hNP hNA hNE
  have z0 := (Below.heap_alloc _ (.cells #[.slice none 0 0, .slice none 0 0, .slice none 0 0, .int .i64 0] 36) _ (by simp; omega)).trans ((Below.heap_alloc _ (.cells #[.int .i64 yx, .int .i64 yy, .int .i64 yz] 23) _ (by simp)).trans (heap_alloc_new w (.cells #[.slice A0 NP c0, .slice A1 NA c1, .slice A2 NE c2, .int .i64 r] 36)))
  have z1 := three1 w (.cells #[.slice A0 NP c0, .slice A1 NA c1, .slice A2 NE c2, .int .i64 r] 36) (.cells #[.int .i64 yx, .int .i64 yy, .int .i64 yz] 23) (.cells #[.slice none 0 0, .slice none 0 0, .slice none 0 0, .int .i64 0] 36)
  have z2 := three2 w (.cells #[.slice A0 NP c0, .slice A1 NA c1, .slice A2 NE c2, .int .i64 r] 36) (.cells #[.int .i64 yx, .int .i64 yy, .int .i64 yz] 23) (.cells #[.slice none 0 0, .slice none 0 0, .slice none 0 0, .int .i64 0] 36)
  have zb := (((Below.refl _ w).alloc (Nat.le_refl _) (.cells #[.slice A0 NP c0, .slice A1 NA c1, .slice A2 NE c2, .int .i64 r] 36)).alloc (by simp) (.cells #[.int .i64 yx, .int .i64 yy, .int .i64 yz] 23)).alloc (by simp; omega) (.cells #[.slice none 0 0, .slice none 0 0, .slice none 0 0, .int .i64 0] 36)
  have zs : (((w.alloc (.cells #[.slice A0 NP c0, .slice A1 NA c1, .slice A2 NE c2, .int .i64 r] 36)).alloc (.cells #[.int .i64 yx, .int .i64 yy, .int .i64 yz] 23)).alloc (.cells #[.slice none 0 0, .slice none 0 0, .slice none 0 0, .int .i64 0] 36)).heap.size = w.heap.size + 1 + 1 + 1 := by simp
  obtain ⟨w1, hw1⟩ : ∃ V, ((w.alloc (.cells #[.slice A0 NP c0, .slice A1 NA c1, .slice A2 NE c2, .int .i64 r] 36)).alloc (.cells #[.int .i64 yx, .int .i64 yy, .int .i64 yz] 23)).alloc (.cells #[.slice none 0 0, .slice none 0 0, .slice none 0 0, .int .i64 0] 36) = V := ⟨_, rfl⟩
  rw [hw1] at z0 z1 z2 zb zs
  have hw1' := Lib.hid hw1
  have Z0 := Lib.hid z0
  have Z1 := Lib.hid z1
  have Z2 := Lib.hid z2
  have ZB := Lib.hid zb
  have ZS := Lib.hid zs
  have H0 := Lib.hid (H0.out.below zb)
  have H1 := Lib.hid (H1.out.below zb)
  have H2 := Lib.hid (H2.out.below zb)
  have x1 : w1.cell? ⟨w.heap.size, 1, none⟩ = some (.slice A1 NA c1) := (blk_cell z0 1).trans rfl
  have x2 : w1.cell? ⟨w.heap.size, 2, none⟩ = some (.slice A2 NE c2) := (blk_cell z0 2).trans rfl
  have x3 : w1.cell? ⟨w.heap.size, 3, none⟩ = some (.int .i64 r) := (blk_cell z0 3).trans rfl
  have l0 : w.heap.size < w1.heap.size := blk_lt z0
  clear z0 z1 z2 zb zs hw1
  go_enter Try.func30, Try.ntmps30
  go_wp2_with fail
  rw [hw1'.out]
  have HB := Lib.hid ((Below.refl (w1.heap.size) w1).drew)
  have FF := Lib.hid (show ∀ V, Hid (Below (w1.heap.size) w1 V) → V.cell? ⟨w.heap.size, 1, none⟩ = some (.slice A1 NA c1) ∧ V.cell? ⟨w.heap.size, 2, none⟩ = some (.slice A2 NE c2) ∧ V.cell? ⟨w.heap.size, 3, none⟩ = some (.int .i64 r) from fun V HB => ⟨(HB.out.cell (p := ⟨w.heap.size, 1, none⟩) (l0)).trans x1, (HB.out.cell (p := ⟨w.heap.size, 2, none⟩) (l0)).trans x2, (HB.out.cell (p := ⟨w.heap.size, 3, none⟩) (l0)).trans x3⟩)
  refine start_ (n := 11) (S := fun w' => w'.cell? ⟨w.heap.size, 1, none⟩ = some (.slice A1 NA c1) ∧ w'.cell? ⟨w.heap.size, 2, none⟩ = some (.slice A2 NE c2) ∧ w'.cell? ⟨w.heap.size, 3, none⟩ = some (.int .i64 r)) (ds := []) (MT 0 11) (by kernel_rfl) rfl rfl (FF.out _ HB) (fun hHeld => ?_)
  obtain ⟨wd, hwd⟩ : ∃ x, w1.drew = x := ⟨_, rfl⟩
  rw [hwd] at HB hHeld ⊢
  clear hwd
  refine pu_ 0 8 (h := ?_)
  refine pu_ 2 10 (h := ?_)
  refine pu_ 5 13 (h := ?_)
  refine ta_ 1 9 hHeld (h := ?_)
  refine ta_ 3 11 hHeld (h := ?_)
  refine ta_ 6 14 hHeld (h := ?_)
  refine join_ (σ := Nat × Value × Value) 1 (MT 10 1) (fun s => [(12, s.2.1), (15, s.2.2), (16, .agg #[.slice none 0 0, s.2.1, s.2.2, .int .i64 r]), (5, .pointer (some ⟨s.1, 0, none⟩))]) (fun (s : Nat × Value × Value) w' => match s with | (s1, s2, s3) => w1.heap.size ≤ s1 ∧ w'.heap[s1]? = some (.cells #[.slice none 0 0, .slice none 0 0, .slice none 0 0, .int .i64 0] 36 (0, 0)) ∧ Below (w1.heap.size) w1 w' ∧ CloneV w' s2 a NA s1 ∧ CloneV w' s3 e NE s1) ?_ ?_
  rotate_left
  · intro hCont
    refine two_ (i := 4) (j := 9) (Ni := some 12) (Nj := some 5) (MT 7 4) #[true, true, true, true, false, true, true, false, false, true, false] rfl rfl rfl rfl (by kernel_rfl) (by decide) (by decide) (fun K hK => ?_) (fun K hK => ?_)
    · skip
      refine goes_ Try.func71 (by kernel_rfl) rfl #[.slice A1 NA c1] (by rfl) rfl rfl (by simp only [List.map_toArray, List.map_cons, List.map_nil]; rfl) ?_
      with_reducible refine (HCA.out _ (H1.out.below HB.out)).mono ?_
      rintro en w2 ⟨B1, d1, rfl, hlc, hrd, hb, hbs⟩
      rw [HNA.out] at hlc ⊢
      have LA := Lib.hid hlc
      have KA := Lib.hid hrd
      have HB := Lib.hid (HB.out.trans (hb.mono (Nat.le_trans (Nat.le_refl _) HB.out.size)))
      clear hlc hrd hb hbs
      refine ⟨_, rfl, ?_⟩
      refine hK.out _ _ (FF.out _ HB) (fun hHeld => ?_)
      clear hK K
      refine no_ (h := ?_)
      refine two_ (i := 7) (j := 9) (Ni := some 15) (Nj := some 5) (MT 8 3) #[true, true, true, true, true, true, true, false, false, true, false] rfl rfl rfl rfl (by kernel_rfl) (by decide) (by decide) (fun K hK => ?_) (fun K hK => ?_)
      · skip
        refine goes_ Try.func71 (by kernel_rfl) rfl #[.slice A2 NE c2] (by rfl) rfl rfl (by simp only [List.map_toArray, List.map_cons, List.map_nil]; rfl) ?_
        with_reducible refine (HCE.out _ (H2.out.below HB.out)).mono ?_
        rintro en w2 ⟨B2, d2, rfl, hlc, hrd, hb, hbs⟩
        rw [HNE.out] at hlc ⊢
        have LE := Lib.hid hlc
        have KA := Lib.hid (KA.out.below hb)
        have KE := Lib.hid hrd
        have HB := Lib.hid (HB.out.trans (hb.mono (Nat.le_trans (Nat.le_refl _) HB.out.size)))
        clear hlc hrd hb hbs
        refine ⟨_, rfl, ?_⟩
        refine hK.out _ _ (FF.out _ HB) (fun hHeld => ?_)
        clear hK K
        refine no_ (h := ?_)
        refine pu_ 8 16 (h := ?_)
        refine on_ 9 (some 5) (h := fun K hK => ?_)
        refine value_ (w1 := ?_) (v := ?_) (by rfl) rfl ?_ ?_
        rotate_left 2
        · go_simp
          constructor
          · rfl
          · rfl
        have HA := Lib.hid (ha_new HB.out (.cells #[.slice none 0 0, .slice none 0 0, .slice none 0 0, .int .i64 0] 36))
        have hge := HB.out.size
        have QA := Lib.hid (fun (ad : Addr) (ea : B1 = some ad) => Nat.ne_of_lt (KA.out.2 ad ea))
        have KA := Lib.hid (KA.out.below ((Below.refl _ _).alloc (Nat.le_refl _) (.cells #[.slice none 0 0, .slice none 0 0, .slice none 0 0, .int .i64 0] 36)))
        have QE := Lib.hid (fun (ad : Addr) (ea : B2 = some ad) => Nat.ne_of_lt (KE.out.2 ad ea))
        have KE := Lib.hid (KE.out.below ((Below.refl _ _).alloc (Nat.le_refl _) (.cells #[.slice none 0 0, .slice none 0 0, .slice none 0 0, .int .i64 0] 36)))
        have HB := Lib.hid (HB.out.alloc (Nat.le_trans (Nat.le_refl _) HB.out.size) (.cells #[.slice none 0 0, .slice none 0 0, .slice none 0 0, .int .i64 0] 36))
        refine hK.out _ _ (FF.out _ HB) (fun hHeld => ?_)
        clear hK K
        refine no_ (h := ?_)
        exact norm_ (by simp only [putAll, Act.put, List.setIfInBounds_toArray, List.set_cons_zero, List.set_cons_succ]) (hCont (_, _, _) _ ⟨hge, HA.out, HB.out, ⟨_, _, rfl, LA.out, KA.out, QA.out⟩, ⟨_, _, rfl, LE.out, KE.out, QE.out⟩⟩)
      · skip
        refine value_ (w1 := ?_) (v := ?_) (by rfl) rfl ?_ ?_
        rotate_left 2
        · go_simp
          constructor
          · rfl
          · rfl
        have HA := Lib.hid (ha_new HB.out (.cells #[.slice none 0 0, .slice none 0 0, .slice none 0 0, .int .i64 0] 36))
        have hge := HB.out.size
        have QA := Lib.hid (fun (ad : Addr) (ea : B1 = some ad) => Nat.ne_of_lt (KA.out.2 ad ea))
        have KA := Lib.hid (KA.out.below ((Below.refl _ _).alloc (Nat.le_refl _) (.cells #[.slice none 0 0, .slice none 0 0, .slice none 0 0, .int .i64 0] 36)))
        have HB := Lib.hid (HB.out.alloc (Nat.le_trans (Nat.le_refl _) HB.out.size) (.cells #[.slice none 0 0, .slice none 0 0, .slice none 0 0, .int .i64 0] 36))
        refine hK.out _ _ (FF.out _ HB) (fun hHeld => ?_)
        clear hK K
        refine no_ (h := ?_)
        refine on_ 7 (some 15) (h := fun K hK => ?_)
        refine goes_ Try.func71 (by kernel_rfl) rfl #[.slice A2 NE c2] (by rfl) rfl rfl (by simp only [List.map_toArray, List.map_cons, List.map_nil]; rfl) ?_
        with_reducible refine (HCE.out _ (H2.out.below HB.out)).mono ?_
        rintro en w2 ⟨B2, d2, rfl, hlc, hrd, hb, hbs⟩
        rw [HNE.out] at hlc ⊢
        have LE := Lib.hid hlc
        have QE := Lib.hid (fun (ad : Addr) (ea : B2 = some ad) => Nat.ne_of_gt (Nat.lt_of_lt_of_le (blk_lt HA.out) (hbs ad ea)))
        have HA := Lib.hid ((hb.block _ (blk_lt HA.out)).trans HA.out)
        have KA := Lib.hid (KA.out.below hb)
        have KE := Lib.hid hrd
        have HB := Lib.hid (HB.out.trans (hb.mono (Nat.le_trans (Nat.le_refl _) HB.out.size)))
        clear hlc hrd hb hbs
        refine ⟨_, rfl, ?_⟩
        refine hK.out _ _ (FF.out _ HB) (fun hHeld => ?_)
        clear hK K
        refine no_ (h := ?_)
        refine pu_ 8 16 (h := ?_)
        exact norm_ (by simp only [putAll, Act.put, List.setIfInBounds_toArray, List.set_cons_zero, List.set_cons_succ]) (hCont (_, _, _) _ ⟨hge, HA.out, HB.out, ⟨_, _, rfl, LA.out, KA.out, QA.out⟩, ⟨_, _, rfl, LE.out, KE.out, QE.out⟩⟩)
    · skip
      refine value_ (w1 := ?_) (v := ?_) (by rfl) rfl ?_ ?_
      rotate_left 2
      · go_simp
        constructor
        · rfl
        · rfl
      have HA := Lib.hid (ha_new HB.out (.cells #[.slice none 0 0, .slice none 0 0, .slice none 0 0, .int .i64 0] 36))
      have hge := HB.out.size
      have HB := Lib.hid (HB.out.alloc (Nat.le_trans (Nat.le_refl _) HB.out.size) (.cells #[.slice none 0 0, .slice none 0 0, .slice none 0 0, .int .i64 0] 36))
      refine hK.out _ _ (FF.out _ HB) (fun hHeld => ?_)
      clear hK K
      refine no_ (h := ?_)
      refine on_ 4 (some 12) (h := fun K hK => ?_)
      refine goes_ Try.func71 (by kernel_rfl) rfl #[.slice A1 NA c1] (by rfl) rfl rfl (by simp only [List.map_toArray, List.map_cons, List.map_nil]; rfl) ?_
      with_reducible refine (HCA.out _ (H1.out.below HB.out)).mono ?_
      rintro en w2 ⟨B1, d1, rfl, hlc, hrd, hb, hbs⟩
      rw [HNA.out] at hlc ⊢
      have LA := Lib.hid hlc
      have QA := Lib.hid (fun (ad : Addr) (ea : B1 = some ad) => Nat.ne_of_gt (Nat.lt_of_lt_of_le (blk_lt HA.out) (hbs ad ea)))
      have HA := Lib.hid ((hb.block _ (blk_lt HA.out)).trans HA.out)
      have KA := Lib.hid hrd
      have HB := Lib.hid (HB.out.trans (hb.mono (Nat.le_trans (Nat.le_refl _) HB.out.size)))
      clear hlc hrd hb hbs
      refine ⟨_, rfl, ?_⟩
      refine hK.out _ _ (FF.out _ HB) (fun hHeld => ?_)
      clear hK K
      refine no_ (h := ?_)
      refine on_ 7 (some 15) (h := fun K hK => ?_)
      refine goes_ Try.func71 (by kernel_rfl) rfl #[.slice A2 NE c2] (by rfl) rfl rfl (by simp only [List.map_toArray, List.map_cons, List.map_nil]; rfl) ?_
      with_reducible refine (HCE.out _ (H2.out.below HB.out)).mono ?_
      rintro en w2 ⟨B2, d2, rfl, hlc, hrd, hb, hbs⟩
      rw [HNE.out] at hlc ⊢
      have LE := Lib.hid hlc
      have QE := Lib.hid (fun (ad : Addr) (ea : B2 = some ad) => Nat.ne_of_gt (Nat.lt_of_lt_of_le (blk_lt HA.out) (hbs ad ea)))
      have HA := Lib.hid ((hb.block _ (blk_lt HA.out)).trans HA.out)
      have KA := Lib.hid (KA.out.below hb)
      have KE := Lib.hid hrd
      have HB := Lib.hid (HB.out.trans (hb.mono (Nat.le_trans (Nat.le_refl _) HB.out.size)))
      clear hlc hrd hb hbs
      refine ⟨_, rfl, ?_⟩
      refine hK.out _ _ (FF.out _ HB) (fun hHeld => ?_)
      clear hK K
      refine no_ (h := ?_)
      refine pu_ 8 16 (h := ?_)
      exact norm_ (by simp only [putAll, Act.put, List.setIfInBounds_toArray, List.set_cons_zero, List.set_cons_succ]) (hCont (_, _, _) _ ⟨hge, HA.out, HB.out, ⟨_, _, rfl, LA.out, KA.out, QA.out⟩, ⟨_, _, rfl, LE.out, KE.out, QE.out⟩⟩)
  rintro ⟨AB, VA, VE⟩ wj ⟨hge, HA, HB, KA, KE⟩
  (try simp only at hge HA HB KA KE)
  have HA := Lib.hid HA
  have HB := Lib.hid HB
  obtain ⟨B1, d1, rfl, LA, KA, NA_⟩ := KA
  obtain ⟨B2, d2, rfl, LE, KE, NE_⟩ := KE
  have LA := Lib.hid LA
  have KA := Lib.hid KA
  have NA_ := Lib.hid NA_
  have LE := Lib.hid LE
  have KE := Lib.hid KE
  have NE_ := Lib.hid NE_
  have hHeld : wj.cell? ⟨w.heap.size, 1, none⟩ = some (.slice A1 NA c1) ∧ wj.cell? ⟨w.heap.size, 2, none⟩ = some (.slice A2 NE c2) ∧ wj.cell? ⟨w.heap.size, 3, none⟩ = some (.int .i64 r) := (FF.out _ HB)
  refine no_ (h := ?_)
  refine on_ 10 (none) (h := fun K hK => ?_)
  have sc0 : World.cell? _ ⟨AB, 0, none⟩ = some (.slice none 0 0) := (blk_cell HA.out 0).trans rfl
  have sf0 := blk_frozen HA.out 0
  have sc1 : World.cell? _ ⟨AB, 1, none⟩ = some (.slice none 0 0) := (blk_cell HA.out 1).trans rfl
  have sf1 := blk_frozen HA.out 1
  have sc2 : World.cell? _ ⟨AB, 2, none⟩ = some (.slice none 0 0) := (blk_cell HA.out 2).trans rfl
  have sf2 := blk_frozen HA.out 2
  have sc3 : World.cell? _ ⟨AB, 3, none⟩ = some (.int .i64 0) := (blk_cell HA.out 3).trans rfl
  have sf3 := blk_frozen HA.out 3
  refine skip_ (w1 := ?_) (by rfl) rfl ?_ ?_
  rotate_left
  · go_simp
    rfl
  have HA := Lib.hid (bs4 HA.out (.slice none 0 0) (.slice B1 NA d1) (.slice B2 NE d2) (.int .i64 r))
  have HB := Lib.hid (bb4 HB.out (Nat.le_trans (Nat.le_refl _) hge) (.slice none 0 0) (.slice B1 NA d1) (.slice B2 NE d2) (.int .i64 r))
  clear sc0 sf0 sc1 sf1 sc2 sf2 sc3 sf3
  refine hK.out _ _ (FF.out _ HB) (fun hHeld => ?_)
  clear hK K
  refine done_ (by kernel_rfl) ?_
  have KA3 := Lib.hid ((((KA.out.setc NA_.out 0 (.slice none 0 0)).setc NA_.out 1 (.slice B1 NA d1)).setc NA_.out 2 (.slice B2 NE d2)).setc NA_.out 3 (.int .i64 r))
  have KE3 := Lib.hid ((((KE.out.setc NE_.out 0 (.slice none 0 0)).setc NE_.out 1 (.slice B1 NA d1)).setc NE_.out 2 (.slice B2 NE d2)).setc NE_.out 3 (.int .i64 r))
  obtain ⟨w3, hwn⟩ : ∃ V, ((((wj.setCell ⟨AB, 0, none⟩ (.slice none 0 0)).setCell ⟨AB, 1, none⟩ (.slice B1 NA d1)).setCell ⟨AB, 2, none⟩ (.slice B2 NE d2)).setCell ⟨AB, 3, none⟩ (.int .i64 r)) = V := ⟨_, rfl⟩
  rw [hwn] at HA HB KA3 KE3 ⊢
  clear hwn
  have HA3 := HA
  have HB3 := HB
  have HG := Lib.hid hge
  have C0 := Lib.hid ((HB.out.block _ (show w.heap.size < w1.heap.size by have := ZS.out; omega)).trans Z0.out)
  have C1 := Lib.hid ((HB.out.block _ (show w.heap.size + 1 < w1.heap.size by have := ZS.out; omega)).trans Z1.out)
  have C2 := Lib.hid ((HB.out.block _ (show w.heap.size + 2 < w1.heap.size by have := ZS.out; omega)).trans Z2.out)
  have H3 := Lib.hid (H0.out.below HB.out)
  clear HA HB hge x1 x2 x3 l0 KA KE H0 H1 H2 HCA HCE hw1' Z0 Z1 Z2
  have x0 : w3.cell? ⟨w.heap.size, 0, none⟩ = some (.slice A0 NP c0) := (blk_cell C0.out 0).trans rfl
  go_wp2_with fail
  go_loopw [20] (fun v20 wr => ∃ k : Nat, ∃ v : Value, k ≤ NP ∧ v20 = .int .i64 k ∧ Hid (OwnP wr w3.heap.size v (LM.take k)) ∧ Hid (w3.grownBy wr (some AB)) ∧ Hid (wr.heap[AB]? = some (.cells #[v, .slice B1 NA d1, .slice B2 NE d2, .int .i64 r] 36 (0, 0)))) (fun i _ => NP - (intOf i).toNat)
  case atStart => exact ⟨0, .slice none 0 0, by omega, rfl, Lib.hid (OwnP.nil _ _), Lib.hid (gb_refl _ _), HA3⟩
  case round =>
    obtain ⟨k, v, hk, rfl, hO, hG, hT⟩ := hrel
    clear x0
    by_cases hlt : k < NP
    · have hkl : k < p.length := by rw [HNP.out]; exact hlt
      have H4 := H3.out.gb hG.out (fun ad e => by have := H0.out.2 ad e; have := HG.out; have := ZS.out; omega)
      obtain ⟨b, o, rfl, lb, e0, e1, e2⟩ := H4.1.get k hkl
      have hin := HP.out k hkl
      have HM1 := Lib.hid (HMAP.out k hkl)
      obtain ⟨x, hx⟩ : ∃ x, p[k] = x := ⟨_, rfl⟩
      rw [hx] at e0 e1 e2 hin HM1
      obtain ⟨xx, xy, xz⟩ := x
      have HX := Lib.hid (show plusI ⟨yx, yy, yz⟩ ⟨xx, xy, xz⟩ = ⟨wrap64 (xx + yx), wrap64 (xy + yy), wrap64 (xz + yz)⟩ by
        have hy := HY.out
        unfold in3 at hin hy
        unfold plusI wrap64
        simp only [P3.mk.injEq] at hin hy ⊢
        omega)
      rw [HX.out] at HM1
      have C0r := Lib.hid ((hG.out.block _ (blk_lt C0.out) (by have := HG.out; have := ZS.out; simp; omega)).trans C0.out)
      have C1r := Lib.hid ((hG.out.block _ (blk_lt C1.out) (by have := HG.out; have := ZS.out; simp; omega)).trans C1.out)
      have q0 : wr.cell? ⟨w.heap.size + 1, 0, none⟩ = some (.int .i64 yx) := (blk_cell C1r.out 0).trans rfl
      have q1 : wr.cell? ⟨w.heap.size + 1, 1, none⟩ = some (.int .i64 yy) := (blk_cell C1r.out 1).trans rfl
      have q2 : wr.cell? ⟨w.heap.size + 1, 2, none⟩ = some (.int .i64 yz) := (blk_cell C1r.out 2).trans rfl
      have lq : w.heap.size + 1 < wr.heap.size := blk_lt C1r.out
      have t0 : wr.cell? ⟨AB, 0, none⟩ = some v := (blk_cell hT.out 0).trans rfl
      have lt : AB < wr.heap.size := blk_lt hT.out
      have tk : (k : Int) < (NP : Int) := by omega
      simp only at e0 e1 e2
      clear H4 hx hin hkl C0r C1r
      have hbA := ((Below.refl _ wr).alloc (Nat.le_refl _) (.cells #[.int .i64 xx, .int .i64 xy, .int .i64 xz] 23)).alloc (by simp) (.cells #[.int .i64 (wrap64 (xx + yx)), .int .i64 (wrap64 (xy + yy)), .int .i64 (wrap64 (xz + yz))] 23)
      have hO2 := Lib.hid (hO.out.grown hbA)
      have hT2 := Lib.hid ((hbA.block _ lt).trans hT.out)
      have hG2 := Lib.hid (gb_below hG.out hbA)
      have hR2 := (Rd_one (heap_alloc_new (wr.alloc (.cells #[.int .i64 xx, .int .i64 xy, .int .i64 xz] 23)) (.cells #[.int .i64 (wrap64 (xx + yx)), .int .i64 (wrap64 (xy + yy)), .int .i64 (wrap64 (xz + yz))] 23))).1
      rw [World.size_alloc] at hR2
      have lA3 := blk_lt HA3.out
      clear hbA
      go_wp2_with (at_builtin; refine append_pts w3.heap.size rfl _ _ rfl _ (LM.take k) [⟨wrap64 (xx + yx), wrap64 (xy + yy), wrap64 (xz + yz)⟩] _ _ _ rfl rfl hO2.out hR2 rfl (by have := List.length_take_le k LM; simp; omega) hG2.out.size ?_; intro v2 w4 hv2 hg2; obtain ⟨Av, nv, cv, hvv⟩ : ∃ A n c, v2 = .slice A n c := (by obtain ⟨A, c, h, _⟩ := OwnP.rd hv2; exact ⟨A, _, c, h⟩); subst hvv; have hT4 := Lib.hid ((hg2.block AB (blk_lt hT2.out) (fun e => by have := hO2.out.base_ _ e.symm; omega)).trans hT2.out); have hG4 := Lib.hid (gb_own hG2.out hg2 (fun j hj => hO2.out.base_ j hj)); have hv4 := Lib.hid hv2; have u0 : w4.cell? ⟨AB, 0, none⟩ = some v := (blk_cell hT4.out 0).trans rfl; have u1 : w4.frozen? ⟨AB, 0, none⟩ = false := blk_frozen hT4.out 0; have lA4 : AB < w4.heap.size := blk_lt hT4.out; clear hv2 hg2)
      go_roundw
      case rel => exact ⟨k + 1, .slice Av nv cv, by omega, by go_num, Lib.hid (by rw [HM1.out]; exact own_setCell hv4.out (fun e => by have := hv4.out.base_ _ e.symm; simp at this; omega) _), Lib.hid (gb_set hG4.out 0 _), Lib.hid (blk40 hT4.out (.slice Av nv cv))⟩
      case measure => simp [intOf]; omega
    · obtain rfl : k = NP := by omega
      have hfull : LM.take k = LM := List.take_of_length_le (by rw [HLM.out, HNP.out]; exact Nat.le_refl _)
      rw [hfull] at hO
      obtain ⟨Ap, cp, hvp, hlp, hrp, hbp⟩ := hO.out.rdB2
      subst hvp
      obtain ⟨nP, hnP⟩ : ∃ n, LM.length = n := ⟨_, rfl⟩
      rw [hnP] at hT hlp
      have hnP := Lib.hid hnP
      have R3 := Lib.hid ((hG.out.block _ (blk_lt C2.out) (by have := HG.out; have := ZS.out; simp; omega)).trans C2.out)
      have kA := KA3.out.gb hG.out NA_.out
      have kE := KE3.out.gb hG.out NE_.out
      have WB := below_gb (bthen ZB.out HB3.out) hG.out (by have := HG.out; have := ZB.out.size; omega) (by have := ZB.out.size; have := HB3.out.size; omega)
      have d0_ : wr.cell? ⟨AB, 0, none⟩ = some (.slice Ap nP cp) := (blk_cell hT.out 0).trans rfl
      have d1_ : wr.cell? ⟨AB, 1, none⟩ = some (.slice B1 NA d1) := (blk_cell hT.out 1).trans rfl
      have d2_ : wr.cell? ⟨AB, 2, none⟩ = some (.slice B2 NE d2) := (blk_cell hT.out 2).trans rfl
      have d3_ : wr.cell? ⟨AB, 3, none⟩ = some (.int .i64 r) := (blk_cell hT.out 3).trans rfl
      have r0 : wr.cell? ⟨w.heap.size + 1 + 1, 0, none⟩ = some (.slice none 0 0) := (blk_cell R3.out 0).trans rfl
      have r1 : wr.cell? ⟨w.heap.size + 1 + 1, 1, none⟩ = some (.slice none 0 0) := (blk_cell R3.out 1).trans rfl
      have r2 : wr.cell? ⟨w.heap.size + 1 + 1, 2, none⟩ = some (.slice none 0 0) := (blk_cell R3.out 2).trans rfl
      have r3 : wr.cell? ⟨w.heap.size + 1 + 1, 3, none⟩ = some (.int .i64 0) := (blk_cell R3.out 3).trans rfl
      have f0 : wr.frozen? ⟨w.heap.size + 1 + 1, 0, none⟩ = false := blk_frozen R3.out 0
      have f1 : wr.frozen? ⟨w.heap.size + 1 + 1, 1, none⟩ = false := blk_frozen R3.out 1
      have f2 : wr.frozen? ⟨w.heap.size + 1 + 1, 2, none⟩ = false := blk_frozen R3.out 2
      have f3 : wr.frozen? ⟨w.heap.size + 1 + 1, 3, none⟩ = false := blk_frozen R3.out 3
      have T7 := bs4 R3.out (.slice Ap nP cp) (.slice B1 NA d1) (.slice B2 NE d2) (.int .i64 r)
      have B7 := bb4 WB (show w.heap.size ≤ w.heap.size + 1 + 1 by omega) (.slice Ap nP cp) (.slice B1 NA d1) (.slice B2 NE d2) (.int .i64 r)
      have p7 := hrp.setS R3.out (.slice Ap nP cp) (.slice B1 NA d1) (.slice B2 NE d2) (.int .i64 r)
      have a7 := kA.setS R3.out (.slice Ap nP cp) (.slice B1 NA d1) (.slice B2 NE d2) (.int .i64 r)
      have e7 := kE.setS R3.out (.slice Ap nP cp) (.slice B1 NA d1) (.slice B2 NE d2) (.int .i64 r)
      obtain ⟨w7, hw7⟩ : ∃ V, ((((wr.setCell ⟨w.heap.size + 1 + 1, 0, none⟩ (.slice Ap nP cp)).setCell ⟨w.heap.size + 1 + 1, 1, none⟩ (.slice B1 NA d1)).setCell ⟨w.heap.size + 1 + 1, 2, none⟩ (.slice B2 NE d2)).setCell ⟨w.heap.size + 1 + 1, 3, none⟩ (.int .i64 r)) = V := ⟨_, rfl⟩
      rw [hw7] at T7 B7 p7 a7 e7
      have hv7 := Lib.hid hw7
      have T7 := Lib.hid T7
      have B7 := Lib.hid B7
      have HVF := Lib.hid (show CoreV w7 (.agg #[.slice Ap nP cp, .slice B1 NA d1, .slice B2 NE d2, .int .i64 r]) LM a e r from ⟨Ap, B1, B2, cp, d1, d2, by rw [hnP.out, HNA.out, HNE.out], p7, a7, e7, by rw [hnP.out]; exact hlp, by rw [HNA.out]; exact LA.out, by rw [HNE.out]; exact LE.out⟩)
      clear hw7 p7 a7 e7 WB kA kE hrp hlp
      go_wp2
      (try rw [hv7.out])
      have y0 : w7.cell? ⟨w.heap.size + 1 + 1, 0, none⟩ = some (.slice Ap nP cp) := (blk_cell T7.out 0).trans rfl
      have y1 : w7.cell? ⟨w.heap.size + 1 + 1, 1, none⟩ = some (.slice B1 NA d1) := (blk_cell T7.out 1).trans rfl
      have y2 : w7.cell? ⟨w.heap.size + 1 + 1, 2, none⟩ = some (.slice B2 NE d2) := (blk_cell T7.out 2).trans rfl
      have y3 : w7.cell? ⟨w.heap.size + 1 + 1, 3, none⟩ = some (.int .i64 r) := (blk_cell T7.out 3).trans rfl
      exact bodyPost_ret (v := .agg #[.slice Ap nP cp, .slice B1 NA d1, .slice B2 NE d2, .int .i64 r]) (by simp [results, Try.results30, go_sem, y0, y1, y2, y3]) rfl ⟨_, rfl, HVF.out, B7.out⟩
theorem moved_calls {p a e : List P3} {r : Int} {v : Value} {w : World} (hv : CoreV w v p a e r) (m : MayP p a e r) (y : P3) (hy : in3 1048576 y) (hp : ∀ x ∈ p, in3 8388608 x) :
    Calls Try.prog 30 #[v, aP y] w (fun en w' => ∃ u, en = .returned u ∧ CoreV w' u (p.map (plusI y)) a e r ∧ Below w.heap.size w w') := by
  obtain ⟨A0, A1, A2, c0, c1, c2, rfl, h0, h1, h2, _⟩ := hv.out
  exact moved_in p a e r A0 A1 A2 c0 c1 c2 y w h0 h1 h2 (by have := m.p1; omega) (by have := m.a1; omega) (by have := m.e1; omega) hy hp
end Go.Proofs.Ytckdhahceelckaa.G
