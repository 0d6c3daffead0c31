/- What the laws of this claim lean on: contracts of the functions that they reach, and plain lemmas; no condition of its own (part 6 of 6; the texts XC9, XC12). -/
import Derived.Test.YtckdhahceelckaaKCT5
namespace Go.Proofs.Ytckdhahceelckaa.G
open Go.RowKit Go.Proofs.YtckdhahceelckaaW.PrintWords Go.Proofs.YtckdhahceelckaaW.PrintLast Go.Proofs.YtckdhahceelckaaW.PrintMore
attribute [local go_sem] max2_mx min2_mn max_two min_two max_three min_three max_four min_four
attribute [local go_sem high] eqA23 eqA40
set_option linter.unusedVariables false
set_option linter.unusedSimpArgs false
/-- one part of the place, by the reference -/
theorem ref_part (v : Value) (a b k : Int) (hk : 0 ≤ k ∧ k ≤ 16) (ha : -1125899906842624 ≤ a ∧ a ≤ 1125899906842624) (hb : -1125899906842624 ≤ b ∧ b ≤ 1125899906842624) :
    ∃ D Q : Int, (∀ W : World, Calls Try.prog 101 #[v, .int .i64 b, .int .i64 a] W fun e w' => e = .returned (.int .i64 D) ∧ Below W.heap.size W w') ∧
      (∀ W : World, Calls Try.prog 100 #[v, .int .i64 D, .int .i64 k, .int .i64 16] W fun e w' => e = .returned (.int .i64 Q) ∧ Below W.heap.size W w') ∧
      (∀ W : World, Calls Try.prog 99 #[v, .int .i64 a, .int .i64 Q] W fun e w' => e = .returned (.int .i64 (outC a b k)) ∧ Below W.heap.size W w') := by
  have hq := outC_bd a b k 1125899906842624 hk.1 hk.2 ha hb
  have hD : -2251799813685248 ≤ b - a ∧ b - a ≤ 2251799813685248 := by omega
  have p1 := Int.mul_le_mul_of_nonneg_right hD.1 hk.1
  have p2 := Int.mul_le_mul_of_nonneg_right hD.2 hk.1
  refine ⟨b - a, (b - a) * k / 16, fun W => wsub_calls v b a (fits_of hb) (fits_of ha) (by unfold fits; omega) W, fun W => wratio_calls v (b - a) k 16 (by unfold fits; omega) (by unfold fits; omega) (by unfold fits; omega) (by decide) (by omega) W, fun W => ?_⟩
  exact wadd_calls v a ((b - a) * k / 16) (fits_of ha) (by unfold outC at hq; unfold fits; omega) (by unfold outC at hq; unfold fits; omega) W
theorem cast_gap {c d : Cr} {y : P3} {k : Nat} {x : P3 × Int} {o : Bool} (h : castF c y d = ((k, x), o)) (hk : 0 < k) : 0 ≤ x.2 := by
  unfold castF at h
  split at h
  · have hs := castL_spec c y d 16 0 (apS c d).1
    have e : castL c y d 16 0 (apS c d).1 = (k, x) := congrArg Prod.fst h
    rw [e] at hs
    rcases hs with hs | hs
    · have : k = 0 := congrArg Prod.fst hs
      omega
    · exact hs.1
  · have : (0 : Nat) = k := congrArg (fun t => t.1.1) h
    omega
set_option maxHeartbeats 8000000 in
set_option maxRecDepth 100000 in
theorem rhold_calls {w : World} (vw : Value) (a b : P3) (r : Int) (l : List Cr) (A : Option Addr) (n c : Nat) (hl : RdC w A l) (hlb : ∀ d ∈ l, CrB d) (hn : l.length = n) (hnb : n ≤ 140737488355328) (ha : in3 9223372036854775808 a) (hb : in3 9223372036854775808 b) :
    Calls Try.prog 51 #[vw, aP a, aP b, .int .i64 r, .slice A n c] w (HoldPost (holdF a b r l) w) := by
  have HWA := Lh (fun W => rwayB_calls (w := W) a b r ha hb)
  unfold WayPost at HWA
  have HNO := Lh (fun (h : holdMay a b r = false) => holdF_no (l := l) h)
  have H16 := Lh (fun (h : holdMay a b r = true) (hk : leastH (ballC a r) (wayC a b) 16 l = 16) => holdF_16 h hk)
  have HYS := Lh (fun (h : holdMay a b r = true) k (hk : leastH (ballC a r) (wayC a b) 16 l = k) => holdF_yes h hk)
  have HIN := Lh (fun (h : holdMay a b r = true) => (show in3 1125899906842624 a ∧ in3 1125899906842624 b from ⟨((holdMay_iff ..).1 h).2.1, ((holdMay_iff ..).1 h).2.2.1⟩))
  have HPT := Lh (fun (v : Value) (k : Int) (hk : 0 ≤ k ∧ k ≤ 16) (ha2 : in3 1125899906842624 a) (hb2 : in3 1125899906842624 b) => And.intro (ref_part v a.x b.x k hk ⟨ha2.1, ha2.2.1⟩ ⟨hb2.1, hb2.2.1⟩) (And.intro (ref_part v a.y b.y k hk ⟨ha2.2.2.1, ha2.2.2.2.1⟩ ⟨hb2.2.2.1, hb2.2.2.2.1⟩) (ref_part v a.z b.z k hk ⟨ha2.2.2.2.2.1, ha2.2.2.2.2.2⟩ ⟨hb2.2.2.2.2.1, hb2.2.2.2.2.2⟩)))
  have HOP : Hid (∀ k : Int, outP a b k = ⟨outC a.x b.x k, outC a.y b.y k, outC a.z b.z k⟩) := Lh (fun _ => rfl)
  have HBB : Hid ((ballC a r).p.length ≤ 140737488355328 ∧ (ballC a r).a.length ≤ 140737488355328 ∧ (ballC a r).e.length ≤ 140737488355328) := Lh (by simp [ballC])
  have HBR : Hid ((ballC a r).r = r) := Lh rfl
  have HRC := Lh (fun (W : World) (va vd : Value) (d : Cr) (h1 : CrV W va (ballC a r)) (h2 : CrV W vd d) hd => rcast_calls h1 h2 (wayC a b) HBB.out hd)
  have HST := Lh (fun i (h : i < l.length) => leastH_take (ballC a r) (wayC a b) 16 l i h)
  have HEN : Hid (leastH (ballC a r) (wayC a b) 16 l = leastH (ballC a r) (wayC a b) 16 (l.take n)) := Lh (by rw [List.take_of_length_le (by omega)])
  have HLL := Lh (fun i => leastH_le (ballC a r) (wayC a b) (l.take i) 16)
  have HY := Lh (fun d m k X g (h : castF (ballC a r) (wayC a b) d = ((k, (X, g)), true)) (hg : 0 ≤ g) => hstep_yes (m := m) h hg)
  have HG := Lh (fun d m k X g o (h : castF (ballC a r) (wayC a b) d = ((k, (X, g)), o)) (hg : ¬ 0 ≤ g) => hstep_neg (m := m) h hg)
  have HO := Lh (fun d m R (h : castF (ballC a r) (wayC a b) d = (R, false)) => hstep_no (m := m) h)
  have HGP := Lh (fun d k x o (h : castF (ballC a r) (wayC a b) d = ((k, x), o)) (hk : 0 < k) => cast_gap h hk)
  obtain ⟨L, hL⟩ : ∃ L : Nat → Nat, (fun i => leastH (ballC a r) (wayC a b) 16 (l.take i)) = L := ⟨_, rfl⟩
  have hL2 : ∀ i, leastH (ballC a r) (wayC a b) 16 (l.take i) = L i := fun i => by rw [← hL]
  simp only [hL2] at HST HEN HLL
  have H0 : Hid (L 0 = 16) := Lh (by rw [← hL2]; rfl)
  rw [HEN.out] at H16 HYS
  obtain ⟨BC, hBC⟩ : ∃ R, ballC a r = R := ⟨_, rfl⟩
  obtain ⟨WC, hWC⟩ : ∃ R, wayC a b = R := ⟨_, rfl⟩
  obtain ⟨HM, hHM⟩ : ∃ R, holdMay a b r = R := ⟨_, rfl⟩
  obtain ⟨HF, hHF⟩ : ∃ R, holdF a b r l = R := ⟨_, rfl⟩
  obtain ⟨OP, hOP⟩ : ∃ R : Int → P3, outP a b = R := ⟨_, rfl⟩
  obtain ⟨CS, hCS⟩ : ∃ f, castF BC WC = f := ⟨_, rfl⟩
  obtain ⟨ST, hST⟩ : ∃ f, hstep BC WC = f := ⟨_, rfl⟩
  rw [hBC, hWC, hHM] at HWA
  rw [hHM, hHF] at HNO
  rw [hHM, hHF] at H16
  rw [hHM, hHF, hOP] at HYS
  rw [hHM] at HIN
  rw [hBC, hWC, hCS] at HRC
  rw [hBC, hWC] at HST
  rw [hST] at HST
  rw [hBC] at HBR
  rw [hBC, hWC, hCS, hST] at HY HG HO
  rw [hBC, hWC, hCS] at HGP
  rw [hOP] at HOP
  rw [hHF]
  have HL := Lh hl
  have HLB := Lh hlb
  have HN := Lh hn
  obtain ⟨ax, ay, az⟩ := a
  obtain ⟨tx, ty, tz⟩ := b
  simp only at HPT HOP
  clear hl hlb hn ha hb hBC hWC hHM hHF hOP hL hL2 hCS hST HBB HEN
  have W := Lh (Below.refl w.heap.size w)
  go_enter Try.func51, Try.ntmps51
  go_upto_region 1 with fail
  have bz := ((((Below.refl w.heap.size w).alloc (Nat.le_refl _) (.cells #[.int .i64 ax, .int .i64 ay, .int .i64 az] 27)).alloc (by simp) (.cells #[.int .i64 tx, .int .i64 ty, .int .i64 tz] 27)).alloc (by simp <;> omega) (.cells #[.int .i64 0, .int .i64 0, .int .i64 0] 27))
  have nz0 := heap_alloc_new w (.cells #[.int .i64 ax, .int .i64 ay, .int .i64 az] 27)
  replace nz0 := (Below.heap_alloc _ (.cells #[.int .i64 tx, .int .i64 ty, .int .i64 tz] 27) _ (by simp <;> omega)).trans nz0
  replace nz0 := (Below.heap_alloc _ (.cells #[.int .i64 0, .int .i64 0, .int .i64 0] 27) _ (by simp <;> omega)).trans nz0
  have nz1 := heap_alloc_new (w.alloc (.cells #[.int .i64 ax, .int .i64 ay, .int .i64 az] 27)) (.cells #[.int .i64 tx, .int .i64 ty, .int .i64 tz] 27)
  simp only [World.size_alloc] at nz1
  replace nz1 := (Below.heap_alloc _ (.cells #[.int .i64 0, .int .i64 0, .int .i64 0] 27) _ (by simp <;> omega)).trans nz1
  have nz2 := heap_alloc_new ((w.alloc (.cells #[.int .i64 ax, .int .i64 ay, .int .i64 az] 27)).alloc (.cells #[.int .i64 tx, .int .i64 ty, .int .i64 tz] 27)) (.cells #[.int .i64 0, .int .i64 0, .int .i64 0] 27)
  simp only [World.size_alloc] at nz2
  obtain ⟨w1, hwz⟩ : ∃ V, (((w.alloc (.cells #[.int .i64 ax, .int .i64 ay, .int .i64 az] 27)).alloc (.cells #[.int .i64 tx, .int .i64 ty, .int .i64 tz] 27)).alloc (.cells #[.int .i64 0, .int .i64 0, .int .i64 0] 27)) = V := ⟨_, rfl⟩
  rw [hwz] at bz nz0 nz1 nz2 ⊢
  replace W := Lh (bthen W.out bz)
  have F := Lh nz0
  have T := Lh nz1
  have Z := Lh nz2
  clear hwz bz nz0 nz1 nz2
  replace HL := Lh (HL.out.below W.out)
  have x0 : w1.cell? ⟨w.heap.size, 0, none⟩ = some (.int .i64 ax) := (blk_cell F.out 0).trans rfl
  have x1 : w1.cell? ⟨w.heap.size, 1, none⟩ = some (.int .i64 ay) := (blk_cell F.out 1).trans rfl
  have x2 : w1.cell? ⟨w.heap.size, 2, none⟩ = some (.int .i64 az) := (blk_cell F.out 2).trans rfl
  have xl : w.heap.size < w1.heap.size := blk_lt F.out
  have k0 : w1.cell? ⟨w.heap.size + 1, 0, none⟩ = some (.int .i64 tx) := (blk_cell T.out 0).trans rfl
  have k1 : w1.cell? ⟨w.heap.size + 1, 1, none⟩ = some (.int .i64 ty) := (blk_cell T.out 1).trans rfl
  have k2 : w1.cell? ⟨w.heap.size + 1, 2, none⟩ = some (.int .i64 tz) := (blk_cell T.out 2).trans rfl
  have kl : w.heap.size + 1 < w1.heap.size := blk_lt T.out
  go_wp2_with fail
  with_reducible refine (HWA.out _).mono ?_
  rintro en w2 ⟨vb, y, rfl, ⟨B0, B1, B2, n0, n1, n2, d0, d1, d2, rb, rfl⟩, hvy, hb⟩
  replace F := Lh ((hb.block _ (blk_lt F.out)).trans F.out)
  replace T := Lh ((hb.block _ (blk_lt T.out)).trans T.out)
  replace Z := Lh ((hb.block _ (blk_lt Z.out)).trans Z.out)
  replace HL := Lh (HL.out.below hb)
  replace W := Lh (bthen W.out hb)
  clear hb x0 x1 x2 xl k0 k1 k2 kl
  have HVY := Lh hvy
  obtain ⟨yx, yy, yz⟩ := y
  clear hvy HWA
  cases HM with
  | false =>
    go_upto_region 2 with fail
    have bz := (((Below.refl w2.heap.size w2).alloc (Nat.le_refl _) (.cells #[.slice B0 n0 d0, .slice B1 n1 d1, .slice B2 n2 d2, .int .i64 rb] 36)).alloc (by simp) (.cells #[.int .i64 yx, .int .i64 yy, .int .i64 yz] 23))
    have nz0 := heap_alloc_new w2 (.cells #[.slice B0 n0 d0, .slice B1 n1 d1, .slice B2 n2 d2, .int .i64 rb] 36)
    replace nz0 := (Below.heap_alloc _ (.cells #[.int .i64 yx, .int .i64 yy, .int .i64 yz] 23) _ (by simp <;> omega)).trans nz0
    have nz1 := heap_alloc_new (w2.alloc (.cells #[.slice B0 n0 d0, .slice B1 n1 d1, .slice B2 n2 d2, .int .i64 rb] 36)) (.cells #[.int .i64 yx, .int .i64 yy, .int .i64 yz] 23)
    simp only [World.size_alloc] at nz1
    obtain ⟨w3, hwz⟩ : ∃ V, ((w2.alloc (.cells #[.slice B0 n0 d0, .slice B1 n1 d1, .slice B2 n2 d2, .int .i64 rb] 36)).alloc (.cells #[.int .i64 yx, .int .i64 yy, .int .i64 yz] 23)) = V := ⟨_, rfl⟩
    rw [hwz] at bz nz0 nz1 ⊢
    replace F := Lh ((bz.block _ (blk_lt F.out)).trans F.out)
    replace T := Lh ((bz.block _ (blk_lt T.out)).trans T.out)
    replace Z := Lh ((bz.block _ (blk_lt Z.out)).trans Z.out)
    replace HL := Lh (HL.out.below bz)
    replace W := Lh (bthen W.out bz)
    have HC := Lh nz0
    have HYB := Lh nz1
    clear hwz bz nz0 nz1
    have HR := Lh (HNO.out (by simp))
    have k0 : w3.cell? ⟨w.heap.size + 1, 0, none⟩ = some (.int .i64 tx) := (blk_cell T.out 0).trans rfl
    have k1 : w3.cell? ⟨w.heap.size + 1, 1, none⟩ = some (.int .i64 ty) := (blk_cell T.out 1).trans rfl
    have k2 : w3.cell? ⟨w.heap.size + 1, 2, none⟩ = some (.int .i64 tz) := (blk_cell T.out 2).trans rfl
    have kl : w.heap.size + 1 < w3.heap.size := blk_lt T.out
    have z0 : w3.cell? ⟨w.heap.size + 1 + 1, 0, none⟩ = some (.int .i64 0) := (blk_cell Z.out 0).trans rfl
    have f0 : w3.frozen? ⟨w.heap.size + 1 + 1, 0, none⟩ = false := blk_frozen Z.out 0
    have z1 : w3.cell? ⟨w.heap.size + 1 + 1, 1, none⟩ = some (.int .i64 0) := (blk_cell Z.out 1).trans rfl
    have f1 : w3.frozen? ⟨w.heap.size + 1 + 1, 1, none⟩ = false := blk_frozen Z.out 1
    have z2 : w3.cell? ⟨w.heap.size + 1 + 1, 2, none⟩ = some (.int .i64 0) := (blk_cell Z.out 2).trans rfl
    have f2 : w3.frozen? ⟨w.heap.size + 1 + 1, 2, none⟩ = false := blk_frozen Z.out 2
    have zl : w.heap.size + 1 + 1 < w3.heap.size := blk_lt Z.out
    have HZV := bs3 Z.out (.int .i64 tx) (.int .i64 ty) (.int .i64 tz)
    have HBV := bb3 W.out (show w.heap.size ≤ w.heap.size + 1 + 1 by omega) (.int .i64 tx) (.int .i64 ty) (.int .i64 tz)
    obtain ⟨V, hV⟩ : ∃ V, (((w3.setCell ⟨w.heap.size + 1 + 1, 0, none⟩ (.int .i64 tx)).setCell ⟨w.heap.size + 1 + 1, 1, none⟩ (.int .i64 ty)).setCell ⟨w.heap.size + 1 + 1, 2, none⟩ (.int .i64 tz)) = V := ⟨_, rfl⟩
    rw [hV] at HZV HBV
    have t0 : V.cell? ⟨w.heap.size + 1 + 1, 0, none⟩ = some (.int .i64 tx) := (blk_cell HZV 0).trans rfl
    have t1 : V.cell? ⟨w.heap.size + 1 + 1, 1, none⟩ = some (.int .i64 ty) := (blk_cell HZV 1).trans rfl
    have t2 : V.cell? ⟨w.heap.size + 1 + 1, 2, none⟩ = some (.int .i64 tz) := (blk_cell HZV 2).trans rfl
    go_wp2
    (try rw [hV])
    exact bodyPost_ret (v := .tuple #[.agg #[.int .i64 tx, .int .i64 ty, .int .i64 tz], .int .i64 16]) (by simp [results, Try.results51, go_sem, t0, t1, t2]) rfl ⟨by rw [HR.out]; rfl, HBV⟩
  | true =>
    have HI := HIN.out rfl
    obtain ⟨hv, hy⟩ := HVY.out HI.1 HI.2
    replace HPT := Lh (fun v k hk => HPT.out v k hk HI.1 HI.2)
    have HV := Lh hv
    replace H16 := Lh (H16.out rfl)
    replace HYS := Lh (HYS.out rfl)
    clear HI HIN HNO HVY hv
    subst hy
    go_upto_region 2 with fail
    have bz := (((Below.refl w2.heap.size w2).alloc (Nat.le_refl _) (.cells #[.slice B0 n0 d0, .slice B1 n1 d1, .slice B2 n2 d2, .int .i64 rb] 36)).alloc (by simp) (.cells #[.int .i64 yx, .int .i64 yy, .int .i64 yz] 23))
    have nz0 := heap_alloc_new w2 (.cells #[.slice B0 n0 d0, .slice B1 n1 d1, .slice B2 n2 d2, .int .i64 rb] 36)
    replace nz0 := (Below.heap_alloc _ (.cells #[.int .i64 yx, .int .i64 yy, .int .i64 yz] 23) _ (by simp <;> omega)).trans nz0
    have nz1 := heap_alloc_new (w2.alloc (.cells #[.slice B0 n0 d0, .slice B1 n1 d1, .slice B2 n2 d2, .int .i64 rb] 36)) (.cells #[.int .i64 yx, .int .i64 yy, .int .i64 yz] 23)
    simp only [World.size_alloc] at nz1
    obtain ⟨w3, hwz⟩ : ∃ V, ((w2.alloc (.cells #[.slice B0 n0 d0, .slice B1 n1 d1, .slice B2 n2 d2, .int .i64 rb] 36)).alloc (.cells #[.int .i64 yx, .int .i64 yy, .int .i64 yz] 23)) = V := ⟨_, rfl⟩
    rw [hwz] at bz nz0 nz1 ⊢
    replace F := Lh ((bz.block _ (blk_lt F.out)).trans F.out)
    replace T := Lh ((bz.block _ (blk_lt T.out)).trans T.out)
    replace Z := Lh ((bz.block _ (blk_lt Z.out)).trans Z.out)
    replace HL := Lh (HL.out.below bz)
    replace HV := Lh (HV.out.below bz)
    replace W := Lh (bthen W.out bz)
    have HC := Lh nz0
    have HYB := Lh nz1
    clear hwz bz nz0 nz1
    go_wp2_with fail
    go_loopw [15, 16, 17, 18, 19] (fun v15 v16 v17 v18 v19 wr => ∃ i : Nat, i ≤ n ∧ v16 = .int .i64 i ∧ v15 = .int .i64 (L i : Nat) ∧ Hid (Below w3.heap.size w3 wr)) (fun _ i _ _ _ _ => n - (intOf i).toNat)
    case atStart => exact ⟨0, by omega, rfl, by rw [H0.out]; rfl, Lh (Below.refl _ _)⟩
    case round =>
      obtain ⟨i, hi, rfl, rfl, hB⟩ := hrel
      obtain ⟨wq, hwq⟩ : ∃ x : World, x = wr := ⟨_, rfl⟩
      subst hwq
      by_cases hlt : i < n
      · have hil : i < l.length := by rw [HN.out]; exact hlt
        have HS1 := Lh (HST.out i hil)
        have hlb := HLB.out _ (List.getElem_mem hil)
        obtain ⟨eb, eo, E0, E1, E2, m0, m1, m2, g0, g1, g2, rfl, el, e0, e1, e2, e3, hE⟩ := (HL.out.below hB.out).get i hil
        obtain ⟨d, hd⟩ : ∃ d, l[i] = d := ⟨_, rfl⟩
        rw [hd] at hE e3 HS1 hlb
        obtain ⟨rd, hrd⟩ : ∃ r, d.r = r := ⟨_, rfl⟩
        rw [hrd] at hE e3
        have HE := Lh hE
        have HCA := Lh (fun (W : World) (h1 : CrV W (.agg #[.slice B0 n0 d0, .slice B1 n1 d1, .slice B2 n2 d2, .int .i64 rb]) BC) (h2 : CrV W (.agg #[.slice E0 m0 g0, .slice E1 m1 g1, .slice E2 m2 g2, .int .i64 rd]) d) => HRC.out W _ _ d h1 h2 hlb)
        have HYd := Lh (fun k X g h h2 => HY.out d (L i) k X g h h2)
        have HGd := Lh (fun k X g o h h2 => HG.out d (L i) k X g o h h2)
        have HOd := Lh (fun R h => HO.out d (L i) R h)
        have HPd := Lh (fun k x o h h2 => HGP.out d k x o h h2)
        obtain ⟨R, hR⟩ : ∃ R, CS d = R := ⟨_, rfl⟩
        rw [hR] at HCA HYd HGd HOd HPd
        obtain ⟨⟨k, ⟨Xx, Xy, Xz⟩, Xg⟩, Xo⟩ := R
        (try simp only at HCA)
        have ti : (i : Int) < (n : Int) := by omega
        have HVq := Lh (HV.out.below hB.out)
        have GC := (hB.out.block _ (blk_lt HC.out)).trans HC.out
        have GY := (hB.out.block _ (blk_lt HYB.out)).trans HYB.out
        have x0 : wq.cell? ⟨w2.heap.size, 0, none⟩ = some (.slice B0 n0 d0) := (blk_cell (GC) 0).trans rfl
        have x1 : wq.cell? ⟨w2.heap.size, 1, none⟩ = some (.slice B1 n1 d1) := (blk_cell (GC) 1).trans rfl
        have x2 : wq.cell? ⟨w2.heap.size, 2, none⟩ = some (.slice B2 n2 d2) := (blk_cell (GC) 2).trans rfl
        have x3 : wq.cell? ⟨w2.heap.size, 3, none⟩ = some (.int .i64 rb) := (blk_cell (GC) 3).trans rfl
        have xl : w2.heap.size < wq.heap.size := blk_lt (GC)
        have y0 : wq.cell? ⟨w2.heap.size + 1, 0, none⟩ = some (.int .i64 yx) := (blk_cell (GY) 0).trans rfl
        have y1 : wq.cell? ⟨w2.heap.size + 1, 1, none⟩ = some (.int .i64 yy) := (blk_cell (GY) 1).trans rfl
        have y2 : wq.cell? ⟨w2.heap.size + 1, 2, none⟩ = some (.int .i64 yz) := (blk_cell (GY) 2).trans rfl
        have yl : w2.heap.size + 1 < wq.heap.size := blk_lt (GY)
        clear hE hR hd hrd hil hlb GC GY
        go_wp2_with fail
        have HB := Lh ((Below.refl (wq.heap.size) wq).drew)
        refine start_ (n := 15) (S := fun w' => w'.cell? ⟨w2.heap.size, 0, none⟩ = some (.slice B0 n0 d0) ∧ w'.cell? ⟨w2.heap.size, 1, none⟩ = some (.slice B1 n1 d1) ∧ w'.cell? ⟨w2.heap.size, 2, none⟩ = some (.slice B2 n2 d2) ∧ w'.cell? ⟨w2.heap.size, 3, none⟩ = some (.int .i64 rb) ∧ w'.cell? ⟨w2.heap.size + 1, 0, none⟩ = some (.int .i64 yx) ∧ w'.cell? ⟨w2.heap.size + 1, 1, none⟩ = some (.int .i64 yy) ∧ w'.cell? ⟨w2.heap.size + 1, 2, none⟩ = some (.int .i64 yz) ∧ w'.cell? ⟨eb, eo + i * 4, none⟩ = some (.slice E0 m0 g0) ∧ w'.cell? ⟨eb, eo + i * 4 + 1, none⟩ = some (.slice E1 m1 g1) ∧ w'.cell? ⟨eb, eo + i * 4 + 2, none⟩ = some (.slice E2 m2 g2) ∧ w'.cell? ⟨eb, eo + i * 4 + 3, none⟩ = some (.int .i64 rd)) (ds := []) #[false, false, false, false, false, false, false, false, false, false, false, false, false, false, false] (by kernel_rfl) rfl rfl ⟨(HB.out.cell (p := ⟨w2.heap.size, 0, none⟩) (xl)).trans x0, (HB.out.cell (p := ⟨w2.heap.size, 1, none⟩) (xl)).trans x1, (HB.out.cell (p := ⟨w2.heap.size, 2, none⟩) (xl)).trans x2, (HB.out.cell (p := ⟨w2.heap.size, 3, none⟩) (xl)).trans x3, (HB.out.cell (p := ⟨w2.heap.size + 1, 0, none⟩) (yl)).trans y0, (HB.out.cell (p := ⟨w2.heap.size + 1, 1, none⟩) (yl)).trans y1, (HB.out.cell (p := ⟨w2.heap.size + 1, 2, none⟩) (yl)).trans y2, (HB.out.cell (p := ⟨eb, eo + i * 4, none⟩) (el)).trans e0, (HB.out.cell (p := ⟨eb, eo + i * 4 + 1, none⟩) (el)).trans e1, (HB.out.cell (p := ⟨eb, eo + i * 4 + 2, none⟩) (el)).trans e2, (HB.out.cell (p := ⟨eb, eo + i * 4 + 3, none⟩) (el)).trans e3⟩ (fun hHeld => ?_)
        obtain ⟨wd, hwd⟩ : ∃ x, wq.drew = x := ⟨_, rfl⟩
        rw [hwd] at HB hHeld ⊢
        clear hwd
        refine pure_ (i := 2) (N := some 42) (v := ?_) (a' := ?_) #[false, false, true, false, false, false, false, false, false, false, false, false, false, false, false] rfl rfl (by kernel_rfl) (fun _ _ _ h => h) (Or.inl ⟨by rfl, ?_⟩) ?_ ?_
        rotate_left
        · intro w'
          go_simp
          with_reducible rfl
        rotate_left
        · simp only [Act.put, List.setIfInBounds_toArray, List.set_cons_zero, List.set_cons_succ, i64_w, i32_w]
          rfl
        refine pure_ (i := 3) (N := some 43) (v := ?_) (a' := ?_) #[false, false, true, true, false, false, false, false, false, false, false, false, false, false, false] rfl rfl (by kernel_rfl) (fun _ _ _ h => h) (Or.inl ⟨by rfl, ?_⟩) ?_ ?_
        rotate_left
        · intro w'
          go_simp
          with_reducible rfl
        rotate_left
        · simp only [Act.put, List.setIfInBounds_toArray, List.set_cons_zero, List.set_cons_succ, i64_w, i32_w]
          rfl
        refine pure_ (i := 4) (N := some 44) (v := ?_) (a' := ?_) #[false, false, true, true, true, false, false, false, false, false, false, false, false, false, false] rfl rfl (by kernel_rfl) (fun _ _ _ h => h) (Or.inl ⟨by rfl, ?_⟩) ?_ ?_
        rotate_left
        · intro w'
          go_simp
          with_reducible rfl
        rotate_left
        · simp only [Act.put, List.setIfInBounds_toArray, List.set_cons_zero, List.set_cons_succ, i64_w, i32_w]
          rfl
        refine take_ (i := 0) (N := some 40) (v := ?_) (a' := ?_) #[true, false, true, true, true, false, false, false, false, false, false, false, false, false, false] rfl rfl (by kernel_rfl) (fun _ _ _ h => h) (Or.inl ⟨by rfl, ?_⟩) hHeld ?_ ?_
        rotate_left
        · rintro w' ⟨s0, s1, s2, s3, s4, s5, s6, s7, s8, s9, s10⟩
          go_simp
          with_reducible rfl
        rotate_left
        · simp only [Act.put, List.setIfInBounds_toArray, List.set_cons_zero, List.set_cons_succ, i64_w, i32_w]
          rfl
        refine take_ (i := 1) (N := some 41) (v := ?_) (a' := ?_) #[true, true, true, true, true, false, false, false, false, false, false, false, false, false, false] rfl rfl (by kernel_rfl) (fun _ _ _ h => h) (Or.inl ⟨by rfl, ?_⟩) hHeld ?_ ?_
        rotate_left
        · rintro w' ⟨s0, s1, s2, s3, s4, s5, s6, s7, s8, s9, s10⟩
          go_simp
          with_reducible rfl
        rotate_left
        · simp only [Act.put, List.setIfInBounds_toArray, List.set_cons_zero, List.set_cons_succ, i64_w, i32_w]
          rfl
        refine take_ (i := 5) (N := some 45) (v := ?_) (a' := ?_) #[true, true, true, true, true, true, false, false, false, false, false, false, false, false, false] rfl rfl (by kernel_rfl) (fun _ _ _ h => h) (Or.inl ⟨by rfl, ?_⟩) hHeld ?_ ?_
        rotate_left
        · rintro w' ⟨s0, s1, s2, s3, s4, s5, s6, s7, s8, s9, s10⟩
          go_simp
          with_reducible rfl
        rotate_left
        · simp only [Act.put, List.setIfInBounds_toArray, List.set_cons_zero, List.set_cons_succ, i64_w, i32_w]
          rfl
        refine join_ (σ := Nat) 3 #[true, true, true, true, true, true, true, true, true, true, true, true, false, false, false] (fun s => [(18, .pointer (some ⟨s, 0, none⟩)), (46, .tuple #[.int .i64 (k : Int), .agg #[.int .i64 Xx, .int .i64 Xy, .int .i64 Xz, .int .i64 Xg], .bool Xo]), (39, .tuple #[.int .i64 (k : Int), .agg #[.int .i64 Xx, .int .i64 Xy, .int .i64 Xz, .int .i64 Xg], .bool Xo]), (47, .int .i64 (k : Int)), (48, .agg #[.int .i64 Xx, .int .i64 Xy, .int .i64 Xz, .int .i64 Xg]), (49, .bool Xo)]) (fun s w' => wq.heap.size ≤ s ∧ w'.heap[s]? = some (.cells #[.int .i64 0, .int .i64 0, .int .i64 0, .int .i64 0] 40 (0, 0)) ∧ Below (wq.heap.size) wq w') ?_ ?_
        rotate_left
        · intro hCont
          refine two_ (i := 6) (j := 11) (Ni := some 46) (Nj := some 18) #[true, true, true, true, true, true, true, false, false, false, false, false, false, false, false] #[true, true, true, true, true, true, false, false, false, false, false, true, false, false, false] rfl rfl rfl rfl (by kernel_rfl) (by decide) (by decide) (fun K hK => ?_) (fun K hK => ?_)
          · skip
            refine gs_ Try.func39 #[.agg #[.slice B0 n0 d0, .slice B1 n1 d1, .slice B2 n2 d2, .int .i64 rb], .agg #[.int .i64 yx, .int .i64 yy, .int .i64 yz], .agg #[.slice E0 m0 g0, .slice E1 m1 g1, .slice E2 m2 g2, .int .i64 rd]] ?_
            with_reducible refine (HCA.out _ (HVq.out.below HB.out) (HE.out.below HB.out)).mono ?_
            rintro en w7 ⟨rfl, hb⟩
            have HB := Lh (HB.out.trans (hb.mono HB.out.size))
            clear hb
            refine ⟨_, rfl, ?_⟩
            refine hK.out _ _ ⟨(HB.out.cell (p := ⟨w2.heap.size, 0, none⟩) (xl)).trans x0, (HB.out.cell (p := ⟨w2.heap.size, 1, none⟩) (xl)).trans x1, (HB.out.cell (p := ⟨w2.heap.size, 2, none⟩) (xl)).trans x2, (HB.out.cell (p := ⟨w2.heap.size, 3, none⟩) (xl)).trans x3, (HB.out.cell (p := ⟨w2.heap.size + 1, 0, none⟩) (yl)).trans y0, (HB.out.cell (p := ⟨w2.heap.size + 1, 1, none⟩) (yl)).trans y1, (HB.out.cell (p := ⟨w2.heap.size + 1, 2, none⟩) (yl)).trans y2, (HB.out.cell (p := ⟨eb, eo + i * 4, none⟩) (el)).trans e0, (HB.out.cell (p := ⟨eb, eo + i * 4 + 1, none⟩) (el)).trans e1, (HB.out.cell (p := ⟨eb, eo + i * 4 + 2, none⟩) (el)).trans e2, (HB.out.cell (p := ⟨eb, eo + i * 4 + 3, none⟩) (el)).trans e3⟩ (fun hHeld => ?_)
            clear hK K
            refine norm_ (a' := ?_) ?_ ?_
            rotate_left
            · show Act.put _ (some 46) _ = _
              simp only [Act.put, List.setIfInBounds_toArray, List.set_cons_zero, List.set_cons_succ, i64_w, i32_w]
              rfl
            refine pure_ (i := 7) (N := some 39) (v := ?_) (a' := ?_) #[true, true, true, true, true, true, true, true, false, false, false, false, false, false, false] rfl rfl (by kernel_rfl) (fun _ _ _ h => h) (Or.inl ⟨by rfl, ?_⟩) ?_ ?_
            rotate_left
            · intro w'
              go_simp
              with_reducible rfl
            rotate_left
            · simp only [Act.put, List.setIfInBounds_toArray, List.set_cons_zero, List.set_cons_succ, i64_w, i32_w]
              rfl
            refine pure_ (i := 8) (N := some 47) (v := ?_) (a' := ?_) #[true, true, true, true, true, true, true, true, true, false, false, false, false, false, false] rfl rfl (by kernel_rfl) (fun _ _ _ h => h) (Or.inl ⟨by rfl, ?_⟩) ?_ ?_
            rotate_left
            · intro w'
              go_simp
              with_reducible rfl
            rotate_left
            · simp only [Act.put, List.setIfInBounds_toArray, List.set_cons_zero, List.set_cons_succ, i64_w, i32_w]
              rfl
            refine pure_ (i := 9) (N := some 48) (v := ?_) (a' := ?_) #[true, true, true, true, true, true, true, true, true, true, false, false, false, false, false] rfl rfl (by kernel_rfl) (fun _ _ _ h => h) (Or.inl ⟨by rfl, ?_⟩) ?_ ?_
            rotate_left
            · intro w'
              go_simp
              with_reducible rfl
            rotate_left
            · simp only [Act.put, List.setIfInBounds_toArray, List.set_cons_zero, List.set_cons_succ, i64_w, i32_w]
              rfl
            refine pure_ (i := 10) (N := some 49) (v := ?_) (a' := ?_) #[true, true, true, true, true, true, true, true, true, true, true, false, false, false, false] rfl rfl (by kernel_rfl) (fun _ _ _ h => h) (Or.inl ⟨by rfl, ?_⟩) ?_ ?_
            rotate_left
            · intro w'
              go_simp
              with_reducible rfl
            rotate_left
            · simp only [Act.put, List.setIfInBounds_toArray, List.set_cons_zero, List.set_cons_succ, i64_w, i32_w]
              rfl
            refine one_ (i := 11) (N := some 18) #[true, true, true, true, true, true, true, true, true, true, true, true, false, false, false] rfl rfl (by kernel_rfl) (by decide) (fun K hK => ?_)
            refine value_ (w1 := ?_) (v := ?_) (by rfl) rfl ?_ ?_
            rotate_left 2
            · go_simp
              constructor
              · rfl
              · rfl
            have HA := Lh (ha_new HB.out (.cells #[.int .i64 0, .int .i64 0, .int .i64 0, .int .i64 0] 40))
            have hge := HB.out.size
            have HB := Lh (HB.out.alloc (Nat.le_trans (Nat.le_refl _) HB.out.size) (.cells #[.int .i64 0, .int .i64 0, .int .i64 0, .int .i64 0] 40))
            refine hK.out _ _ ⟨(HB.out.cell (p := ⟨w2.heap.size, 0, none⟩) (xl)).trans x0, (HB.out.cell (p := ⟨w2.heap.size, 1, none⟩) (xl)).trans x1, (HB.out.cell (p := ⟨w2.heap.size, 2, none⟩) (xl)).trans x2, (HB.out.cell (p := ⟨w2.heap.size, 3, none⟩) (xl)).trans x3, (HB.out.cell (p := ⟨w2.heap.size + 1, 0, none⟩) (yl)).trans y0, (HB.out.cell (p := ⟨w2.heap.size + 1, 1, none⟩) (yl)).trans y1, (HB.out.cell (p := ⟨w2.heap.size + 1, 2, none⟩) (yl)).trans y2, (HB.out.cell (p := ⟨eb, eo + i * 4, none⟩) (el)).trans e0, (HB.out.cell (p := ⟨eb, eo + i * 4 + 1, none⟩) (el)).trans e1, (HB.out.cell (p := ⟨eb, eo + i * 4 + 2, none⟩) (el)).trans e2, (HB.out.cell (p := ⟨eb, eo + i * 4 + 3, none⟩) (el)).trans e3⟩ (fun hHeld => ?_)
            clear hK K
            refine norm_ (a' := ?_) ?_ ?_
            rotate_left
            · show Act.put _ (some 18) _ = _
              simp only [Act.put, List.setIfInBounds_toArray, List.set_cons_zero, List.set_cons_succ, i64_w, i32_w]
              rfl
            exact norm_ (by simp only [putAll, Act.put, List.setIfInBounds_toArray, List.set_cons_zero, List.set_cons_succ]) (hCont _ _ ⟨hge, HA.out, HB.out⟩)
          · skip
            refine value_ (w1 := ?_) (v := ?_) (by rfl) rfl ?_ ?_
            rotate_left 2
            · go_simp
              constructor
              · rfl
              · rfl
            have HA := Lh (ha_new HB.out (.cells #[.int .i64 0, .int .i64 0, .int .i64 0, .int .i64 0] 40))
            have hge := HB.out.size
            have HB := Lh (HB.out.alloc (Nat.le_trans (Nat.le_refl _) HB.out.size) (.cells #[.int .i64 0, .int .i64 0, .int .i64 0, .int .i64 0] 40))
            refine hK.out _ _ ⟨(HB.out.cell (p := ⟨w2.heap.size, 0, none⟩) (xl)).trans x0, (HB.out.cell (p := ⟨w2.heap.size, 1, none⟩) (xl)).trans x1, (HB.out.cell (p := ⟨w2.heap.size, 2, none⟩) (xl)).trans x2, (HB.out.cell (p := ⟨w2.heap.size, 3, none⟩) (xl)).trans x3, (HB.out.cell (p := ⟨w2.heap.size + 1, 0, none⟩) (yl)).trans y0, (HB.out.cell (p := ⟨w2.heap.size + 1, 1, none⟩) (yl)).trans y1, (HB.out.cell (p := ⟨w2.heap.size + 1, 2, none⟩) (yl)).trans y2, (HB.out.cell (p := ⟨eb, eo + i * 4, none⟩) (el)).trans e0, (HB.out.cell (p := ⟨eb, eo + i * 4 + 1, none⟩) (el)).trans e1, (HB.out.cell (p := ⟨eb, eo + i * 4 + 2, none⟩) (el)).trans e2, (HB.out.cell (p := ⟨eb, eo + i * 4 + 3, none⟩) (el)).trans e3⟩ (fun hHeld => ?_)
            clear hK K
            refine norm_ (a' := ?_) ?_ ?_
            rotate_left
            · show Act.put _ (some 18) _ = _
              simp only [Act.put, List.setIfInBounds_toArray, List.set_cons_zero, List.set_cons_succ, i64_w, i32_w]
              rfl
            refine one_ (i := 6) (N := some 46) #[true, true, true, true, true, true, true, false, false, false, false, true, false, false, false] rfl rfl (by kernel_rfl) (by decide) (fun K hK => ?_)
            refine gs_ Try.func39 #[.agg #[.slice B0 n0 d0, .slice B1 n1 d1, .slice B2 n2 d2, .int .i64 rb], .agg #[.int .i64 yx, .int .i64 yy, .int .i64 yz], .agg #[.slice E0 m0 g0, .slice E1 m1 g1, .slice E2 m2 g2, .int .i64 rd]] ?_
            with_reducible refine (HCA.out _ (HVq.out.below HB.out) (HE.out.below HB.out)).mono ?_
            rintro en w7 ⟨rfl, hb⟩
            have HB := Lh (HB.out.trans (hb.mono HB.out.size))
            have HA := Lh ((hb.block _ (blk_lt HA.out)).trans HA.out)
            clear hb
            refine ⟨_, rfl, ?_⟩
            refine hK.out _ _ ⟨(HB.out.cell (p := ⟨w2.heap.size, 0, none⟩) (xl)).trans x0, (HB.out.cell (p := ⟨w2.heap.size, 1, none⟩) (xl)).trans x1, (HB.out.cell (p := ⟨w2.heap.size, 2, none⟩) (xl)).trans x2, (HB.out.cell (p := ⟨w2.heap.size, 3, none⟩) (xl)).trans x3, (HB.out.cell (p := ⟨w2.heap.size + 1, 0, none⟩) (yl)).trans y0, (HB.out.cell (p := ⟨w2.heap.size + 1, 1, none⟩) (yl)).trans y1, (HB.out.cell (p := ⟨w2.heap.size + 1, 2, none⟩) (yl)).trans y2, (HB.out.cell (p := ⟨eb, eo + i * 4, none⟩) (el)).trans e0, (HB.out.cell (p := ⟨eb, eo + i * 4 + 1, none⟩) (el)).trans e1, (HB.out.cell (p := ⟨eb, eo + i * 4 + 2, none⟩) (el)).trans e2, (HB.out.cell (p := ⟨eb, eo + i * 4 + 3, none⟩) (el)).trans e3⟩ (fun hHeld => ?_)
            clear hK K
            refine norm_ (a' := ?_) ?_ ?_
            rotate_left
            · show Act.put _ (some 46) _ = _
              simp only [Act.put, List.setIfInBounds_toArray, List.set_cons_zero, List.set_cons_succ, i64_w, i32_w]
              rfl
            refine pure_ (i := 7) (N := some 39) (v := ?_) (a' := ?_) #[true, true, true, true, true, true, true, true, false, false, false, true, false, false, false] rfl rfl (by kernel_rfl) (fun _ _ _ h => h) (Or.inl ⟨by rfl, ?_⟩) ?_ ?_
            rotate_left
            · intro w'
              go_simp
              with_reducible rfl
            rotate_left
            · simp only [Act.put, List.setIfInBounds_toArray, List.set_cons_zero, List.set_cons_succ, i64_w, i32_w]
              rfl
            refine pure_ (i := 8) (N := some 47) (v := ?_) (a' := ?_) #[true, true, true, true, true, true, true, true, true, false, false, true, false, false, false] rfl rfl (by kernel_rfl) (fun _ _ _ h => h) (Or.inl ⟨by rfl, ?_⟩) ?_ ?_
            rotate_left
            · intro w'
              go_simp
              with_reducible rfl
            rotate_left
            · simp only [Act.put, List.setIfInBounds_toArray, List.set_cons_zero, List.set_cons_succ, i64_w, i32_w]
              rfl
            refine pure_ (i := 9) (N := some 48) (v := ?_) (a' := ?_) #[true, true, true, true, true, true, true, true, true, true, false, true, false, false, false] rfl rfl (by kernel_rfl) (fun _ _ _ h => h) (Or.inl ⟨by rfl, ?_⟩) ?_ ?_
            rotate_left
            · intro w'
              go_simp
              with_reducible rfl
            rotate_left
            · simp only [Act.put, List.setIfInBounds_toArray, List.set_cons_zero, List.set_cons_succ, i64_w, i32_w]
              rfl
            refine pure_ (i := 10) (N := some 49) (v := ?_) (a' := ?_) #[true, true, true, true, true, true, true, true, true, true, true, true, false, false, false] rfl rfl (by kernel_rfl) (fun _ _ _ h => h) (Or.inl ⟨by rfl, ?_⟩) ?_ ?_
            rotate_left
            · intro w'
              go_simp
              with_reducible rfl
            rotate_left
            · simp only [Act.put, List.setIfInBounds_toArray, List.set_cons_zero, List.set_cons_succ, i64_w, i32_w]
              rfl
            exact norm_ (by simp only [putAll, Act.put, List.setIfInBounds_toArray, List.set_cons_zero, List.set_cons_succ]) (hCont _ _ ⟨hge, HA.out, HB.out⟩)
        rintro AB wj ⟨hge, HA, HB⟩
        have HA := Lh HA
        have HB := Lh HB
        have hHeld : wj.cell? ⟨w2.heap.size, 0, none⟩ = some (.slice B0 n0 d0) ∧ wj.cell? ⟨w2.heap.size, 1, none⟩ = some (.slice B1 n1 d1) ∧ wj.cell? ⟨w2.heap.size, 2, none⟩ = some (.slice B2 n2 d2) ∧ wj.cell? ⟨w2.heap.size, 3, none⟩ = some (.int .i64 rb) ∧ wj.cell? ⟨w2.heap.size + 1, 0, none⟩ = some (.int .i64 yx) ∧ wj.cell? ⟨w2.heap.size + 1, 1, none⟩ = some (.int .i64 yy) ∧ wj.cell? ⟨w2.heap.size + 1, 2, none⟩ = some (.int .i64 yz) ∧ wj.cell? ⟨eb, eo + i * 4, none⟩ = some (.slice E0 m0 g0) ∧ wj.cell? ⟨eb, eo + i * 4 + 1, none⟩ = some (.slice E1 m1 g1) ∧ wj.cell? ⟨eb, eo + i * 4 + 2, none⟩ = some (.slice E2 m2 g2) ∧ wj.cell? ⟨eb, eo + i * 4 + 3, none⟩ = some (.int .i64 rd) := ⟨(HB.out.cell (p := ⟨w2.heap.size, 0, none⟩) (xl)).trans x0, (HB.out.cell (p := ⟨w2.heap.size, 1, none⟩) (xl)).trans x1, (HB.out.cell (p := ⟨w2.heap.size, 2, none⟩) (xl)).trans x2, (HB.out.cell (p := ⟨w2.heap.size, 3, none⟩) (xl)).trans x3, (HB.out.cell (p := ⟨w2.heap.size + 1, 0, none⟩) (yl)).trans y0, (HB.out.cell (p := ⟨w2.heap.size + 1, 1, none⟩) (yl)).trans y1, (HB.out.cell (p := ⟨w2.heap.size + 1, 2, none⟩) (yl)).trans y2, (HB.out.cell (p := ⟨eb, eo + i * 4, none⟩) (el)).trans e0, (HB.out.cell (p := ⟨eb, eo + i * 4 + 1, none⟩) (el)).trans e1, (HB.out.cell (p := ⟨eb, eo + i * 4 + 2, none⟩) (el)).trans e2, (HB.out.cell (p := ⟨eb, eo + i * 4 + 3, none⟩) (el)).trans e3⟩
        refine norm_ (a' := ?_) ?_ ?_
        rotate_left
        · simp only [putAll, Act.put, List.setIfInBounds_toArray, List.set_cons_zero, List.set_cons_succ]
          rfl
        refine pure_ (i := 12) (N := some 17) (v := ?_) (a' := ?_) #[true, true, true, true, true, true, true, true, true, true, true, true, true, false, false] rfl rfl (by kernel_rfl) (fun _ _ _ h => h) (Or.inl ⟨by rfl, ?_⟩) ?_ ?_
        rotate_left
        · intro w'
          go_simp
          with_reducible rfl
        rotate_left
        · simp only [Act.put, List.setIfInBounds_toArray, List.set_cons_zero, List.set_cons_succ, i64_w, i32_w]
          rfl
        refine one_ (i := 13) (N := none) #[true, true, true, true, true, true, true, true, true, true, true, true, true, true, false] rfl rfl (by kernel_rfl) (by decide) (fun K hK => ?_)
        have sc0 : World.cell? _ ⟨AB, 0, none⟩ = some (.int .i64 0) := (blk_cell HA.out 0).trans rfl
        have sf0 := blk_frozen HA.out 0
        have sc1 : World.cell? _ ⟨AB, 1, none⟩ = some (.int .i64 0) := (blk_cell HA.out 1).trans rfl
        have sf1 := blk_frozen HA.out 1
        have sc2 : World.cell? _ ⟨AB, 2, none⟩ = some (.int .i64 0) := (blk_cell HA.out 2).trans rfl
        have sf2 := blk_frozen HA.out 2
        have sc3 : World.cell? _ ⟨AB, 3, none⟩ = some (.int .i64 0) := (blk_cell HA.out 3).trans rfl
        have sf3 := blk_frozen HA.out 3
        refine skip_ (w1 := ?_) (by rfl) rfl ?_ ?_
        rotate_left
        · go_simp
          rfl
        have HA := Lh (bs4 HA.out (.int .i64 Xx) (.int .i64 Xy) (.int .i64 Xz) (.int .i64 Xg))
        have HB := Lh (bb4 HB.out (Nat.le_trans (Nat.le_refl _) hge) (.int .i64 Xx) (.int .i64 Xy) (.int .i64 Xz) (.int .i64 Xg))
        clear sc0 sf0 sc1 sf1 sc2 sf2 sc3 sf3
        refine hK.out _ _ ⟨(HB.out.cell (p := ⟨w2.heap.size, 0, none⟩) (xl)).trans x0, (HB.out.cell (p := ⟨w2.heap.size, 1, none⟩) (xl)).trans x1, (HB.out.cell (p := ⟨w2.heap.size, 2, none⟩) (xl)).trans x2, (HB.out.cell (p := ⟨w2.heap.size, 3, none⟩) (xl)).trans x3, (HB.out.cell (p := ⟨w2.heap.size + 1, 0, none⟩) (yl)).trans y0, (HB.out.cell (p := ⟨w2.heap.size + 1, 1, none⟩) (yl)).trans y1, (HB.out.cell (p := ⟨w2.heap.size + 1, 2, none⟩) (yl)).trans y2, (HB.out.cell (p := ⟨eb, eo + i * 4, none⟩) (el)).trans e0, (HB.out.cell (p := ⟨eb, eo + i * 4 + 1, none⟩) (el)).trans e1, (HB.out.cell (p := ⟨eb, eo + i * 4 + 2, none⟩) (el)).trans e2, (HB.out.cell (p := ⟨eb, eo + i * 4 + 3, none⟩) (el)).trans e3⟩ (fun hHeld => ?_)
        clear hK K
        refine pure_ (i := 14) (N := some 19) (v := ?_) (a' := ?_) #[true, true, true, true, true, true, true, true, true, true, true, true, true, true, true] rfl rfl (by kernel_rfl) (fun _ _ _ h => h) (Or.inl ⟨by rfl, ?_⟩) ?_ ?_
        rotate_left
        · intro w'
          go_simp
          with_reducible rfl
        rotate_left
        · simp only [Act.put, List.setIfInBounds_toArray, List.set_cons_zero, List.set_cons_succ, i64_w, i32_w]
          rfl
        refine done_ (by kernel_rfl) ?_
        obtain ⟨w4q, hwn⟩ : ∃ V, ((((wj.setCell ⟨AB, 0, none⟩ (.int .i64 Xx)).setCell ⟨AB, 1, none⟩ (.int .i64 Xy)).setCell ⟨AB, 2, none⟩ (.int .i64 Xz)).setCell ⟨AB, 3, none⟩ (.int .i64 Xg)) = V := ⟨_, rfl⟩
        rw [hwn] at HA HB ⊢
        clear hwn
        have hB := Lh (hB.out.trans (HB.out.mono hB.out.size))
        have u3 : w4q.cell? ⟨AB, 3, none⟩ = some (.int .i64 Xg) := (blk_cell HA.out 3).trans rfl
        have ul : AB < w4q.heap.size := blk_lt HA.out
        clear HB hge hHeld HCA HE HVq x0 x1 x2 x3 xl y0 y1 y2 yl e0 e1 e2 e3 HA
        cases Xo with
        | false =>
          have HR := Lh (HS1.out.trans (HOd.out _ rfl))
          clear HYd HGd HOd HPd HS1
          go_wp2
          go_roundw
          case rel => exact ⟨i + 1, by omega, by go_num, by rw [HR.out], hB⟩
          case measure => simp [intOf]; omega
        | true =>
          by_cases tk : 0 < k
          · have dk : decide ((0 : Int) < (k : Int)) = true := decide_eq_true (by omega)
            have dk2 : decide (0 < k) = true := decide_eq_true tk
            have HR := Lh ((congrArg (fun t : Nat => (t : Int)) (HS1.out.trans (HYd.out _ _ _ rfl (HPd.out _ _ _ rfl tk)))).trans (mn_min (L i) k).symm)
            clear HYd HGd HOd HPd HS1
            go_wp2
            go_roundw
            case rel => exact ⟨i + 1, by omega, by go_num, by rw [HR.out], hB⟩
            case measure => simp [intOf]; omega
          · have dk : decide ((0 : Int) < (k : Int)) = false := decide_eq_false (by omega)
            have dk2 : decide (0 < k) = false := decide_eq_false tk
            by_cases tg : 0 ≤ Xg
            · have dg : decide (0 ≤ Xg) = true := decide_eq_true tg
              have HR := Lh ((congrArg (fun t : Nat => (t : Int)) (HS1.out.trans (HYd.out _ _ _ rfl tg))).trans (mn_min (L i) k).symm)
              clear HYd HGd HOd HPd HS1
              go_wp2
              go_roundw
              case rel => exact ⟨i + 1, by omega, by go_num, by rw [HR.out], hB⟩
              case measure => simp [intOf]; omega
            · have dg : decide (0 ≤ Xg) = false := decide_eq_false tg
              have HR := Lh (HS1.out.trans (HGd.out _ _ _ _ rfl (by omega)))
              clear HYd HGd HOd HPd HS1
              go_wp2
              go_roundw
              case rel => exact ⟨i + 1, by omega, by go_num, by rw [HR.out], hB⟩
              case measure => simp [intOf]; omega
      · obtain rfl : n = i := by omega
        have hb := hB.out
        replace F := Lh ((hb.block _ (blk_lt F.out)).trans F.out)
        replace T := Lh ((hb.block _ (blk_lt T.out)).trans T.out)
        replace Z := Lh ((hb.block _ (blk_lt Z.out)).trans Z.out)
        replace HC := Lh ((hb.block _ (blk_lt HC.out)).trans HC.out)
        replace HYB := Lh ((hb.block _ (blk_lt HYB.out)).trans HYB.out)
        replace HL := Lh (HL.out.below hb)
        replace HV := Lh (HV.out.below hb)
        replace W := Lh (bthen W.out hb)
        have hk16 : L n ≤ 16 := HLL.out n
        clear hb HV HL HC HYB hB HST HLL HY HG HO HGP HRC HLB HN H0 hi hlt
        obtain ⟨LK, hLK⟩ : ∃ k, L n = k := ⟨_, rfl⟩
        rw [hLK] at H16 HYS hk16 ⊢
        clear hLK
        by_cases tk : LK = 16
        · have ek : ((LK : Int) == 16) = true := by rw [tk]; rfl
          have HR := Lh (H16.out tk)
          have k0 : wq.cell? ⟨w.heap.size + 1, 0, none⟩ = some (.int .i64 tx) := (blk_cell T.out 0).trans rfl
          have k1 : wq.cell? ⟨w.heap.size + 1, 1, none⟩ = some (.int .i64 ty) := (blk_cell T.out 1).trans rfl
          have k2 : wq.cell? ⟨w.heap.size + 1, 2, none⟩ = some (.int .i64 tz) := (blk_cell T.out 2).trans rfl
          have kl : w.heap.size + 1 < wq.heap.size := blk_lt T.out
          have z0 : wq.cell? ⟨w.heap.size + 1 + 1, 0, none⟩ = some (.int .i64 0) := (blk_cell Z.out 0).trans rfl
          have f0 : wq.frozen? ⟨w.heap.size + 1 + 1, 0, none⟩ = false := blk_frozen Z.out 0
          have z1 : wq.cell? ⟨w.heap.size + 1 + 1, 1, none⟩ = some (.int .i64 0) := (blk_cell Z.out 1).trans rfl
          have f1 : wq.frozen? ⟨w.heap.size + 1 + 1, 1, none⟩ = false := blk_frozen Z.out 1
          have z2 : wq.cell? ⟨w.heap.size + 1 + 1, 2, none⟩ = some (.int .i64 0) := (blk_cell Z.out 2).trans rfl
          have f2 : wq.frozen? ⟨w.heap.size + 1 + 1, 2, none⟩ = false := blk_frozen Z.out 2
          have zl : w.heap.size + 1 + 1 < wq.heap.size := blk_lt Z.out
          have HZV := bs3 Z.out (.int .i64 tx) (.int .i64 ty) (.int .i64 tz)
          have HBV := bb3 W.out (show w.heap.size ≤ w.heap.size + 1 + 1 by omega) (.int .i64 tx) (.int .i64 ty) (.int .i64 tz)
          obtain ⟨V, hV⟩ : ∃ V, (((wq.setCell ⟨w.heap.size + 1 + 1, 0, none⟩ (.int .i64 tx)).setCell ⟨w.heap.size + 1 + 1, 1, none⟩ (.int .i64 ty)).setCell ⟨w.heap.size + 1 + 1, 2, none⟩ (.int .i64 tz)) = V := ⟨_, rfl⟩
          rw [hV] at HZV HBV
          have t0 : V.cell? ⟨w.heap.size + 1 + 1, 0, none⟩ = some (.int .i64 tx) := (blk_cell HZV 0).trans rfl
          have t1 : V.cell? ⟨w.heap.size + 1 + 1, 1, none⟩ = some (.int .i64 ty) := (blk_cell HZV 1).trans rfl
          have t2 : V.cell? ⟨w.heap.size + 1 + 1, 2, none⟩ = some (.int .i64 tz) := (blk_cell HZV 2).trans rfl
          go_wp2
          (try rw [hV])
          exact bodyPost_ret (v := .tuple #[.agg #[.int .i64 tx, .int .i64 ty, .int .i64 tz], .int .i64 16]) (by simp [results, Try.results51, go_sem, t0, t1, t2]) rfl ⟨by rw [HR.out]; rfl, HBV⟩
        · have ek : ((LK : Int) == 16) = false := by simp; omega
          have HR := Lh (HYS.out LK rfl)
          rw [HOP.out] at HR
          clear HYS H16 HOP
          go_upto_region 14 with fail
          have bz := ((Below.refl wq.heap.size wq).alloc (Nat.le_refl _) (.cells #[.bool false] 85))
          have nz0 := heap_alloc_new wq (.cells #[.bool false] 85)
          obtain ⟨w4, hwz⟩ : ∃ V, (wq.alloc (.cells #[.bool false] 85)) = V := ⟨_, rfl⟩
          rw [hwz] at bz nz0 ⊢
          replace F := Lh ((bz.block _ (blk_lt F.out)).trans F.out)
          replace T := Lh ((bz.block _ (blk_lt T.out)).trans T.out)
          replace Z := Lh ((bz.block _ (blk_lt Z.out)).trans Z.out)
          replace W := Lh (bthen W.out bz)
          have HO := Lh nz0
          clear hwz bz nz0
          obtain ⟨⟨Dx, Qx, s1, r1, a1⟩, ⟨Dy, Qy, s2, r2, a2⟩, ⟨Dz, Qz, s3, r3, a3⟩⟩ := HPT.out (.pointer (some ⟨wq.heap.size, 0, none⟩)) (LK : Int) (by omega)
          obtain ⟨rx, hrx⟩ : ∃ x, outC ax tx (LK : Int) = x := ⟨_, rfl⟩
          rw [hrx] at a1 HR
          obtain ⟨ry, hry⟩ : ∃ x, outC ay ty (LK : Int) = x := ⟨_, rfl⟩
          rw [hry] at a2 HR
          obtain ⟨rz, hrz⟩ : ∃ x, outC az tz (LK : Int) = x := ⟨_, rfl⟩
          rw [hrz] at a3 HR
          have S1 := Lh s1
          have R1 := Lh r1
          have A1 := Lh a1
          have S2 := Lh s2
          have R2 := Lh r2
          have A2 := Lh a2
          have S3 := Lh s3
          have R3 := Lh r3
          have A3 := Lh a3
          clear hrx hry hrz HPT hk16 s1 r1 a1 s2 r2 a2 s3 r3 a3
          have x0 : w4.cell? ⟨w.heap.size, 0, none⟩ = some (.int .i64 ax) := (blk_cell F.out 0).trans rfl
          have x1 : w4.cell? ⟨w.heap.size, 1, none⟩ = some (.int .i64 ay) := (blk_cell F.out 1).trans rfl
          have x2 : w4.cell? ⟨w.heap.size, 2, none⟩ = some (.int .i64 az) := (blk_cell F.out 2).trans rfl
          have xl : w.heap.size < w4.heap.size := blk_lt F.out
          have k0 : w4.cell? ⟨w.heap.size + 1, 0, none⟩ = some (.int .i64 tx) := (blk_cell T.out 0).trans rfl
          have k1 : w4.cell? ⟨w.heap.size + 1, 1, none⟩ = some (.int .i64 ty) := (blk_cell T.out 1).trans rfl
          have k2 : w4.cell? ⟨w.heap.size + 1, 2, none⟩ = some (.int .i64 tz) := (blk_cell T.out 2).trans rfl
          have kl : w.heap.size + 1 < w4.heap.size := blk_lt T.out
          have HB := Lh ((Below.refl (w4.heap.size) w4).drew)
          refine start_ (n := 42) (S := fun w' => w'.cell? ⟨w.heap.size, 0, none⟩ = some (.int .i64 ax) ∧ w'.cell? ⟨w.heap.size, 1, none⟩ = some (.int .i64 ay) ∧ w'.cell? ⟨w.heap.size, 2, none⟩ = some (.int .i64 az) ∧ w'.cell? ⟨w.heap.size + 1, 0, none⟩ = some (.int .i64 tx) ∧ w'.cell? ⟨w.heap.size + 1, 1, none⟩ = some (.int .i64 ty) ∧ w'.cell? ⟨w.heap.size + 1, 2, none⟩ = some (.int .i64 tz)) (ds := []) #[false, false, false, false, false, false, false, false, false, false, false, false, false, false, false, false, false, false, false, false, false, false, false, false, false, false, false, false, false, false, false, false, false, false, false, false, false, false, false, false, false, false] (by kernel_rfl) rfl rfl ⟨(HB.out.cell (p := ⟨w.heap.size, 0, none⟩) (xl)).trans x0, (HB.out.cell (p := ⟨w.heap.size, 1, none⟩) (xl)).trans x1, (HB.out.cell (p := ⟨w.heap.size, 2, none⟩) (xl)).trans x2, (HB.out.cell (p := ⟨w.heap.size + 1, 0, none⟩) (kl)).trans k0, (HB.out.cell (p := ⟨w.heap.size + 1, 1, none⟩) (kl)).trans k1, (HB.out.cell (p := ⟨w.heap.size + 1, 2, none⟩) (kl)).trans k2⟩ (fun hHeld => ?_)
          obtain ⟨wd, hwd⟩ : ∃ x, w4.drew = x := ⟨_, rfl⟩
          rw [hwd] at HB hHeld ⊢
          clear hwd
          refine pure_ (i := 0) (N := some 68) (v := ?_) (a' := ?_) #[true, false, false, false, false, false, false, false, false, false, false, false, false, false, false, false, false, false, false, false, false, false, false, false, false, false, false, false, false, false, false, false, false, false, false, false, false, false, false, false, false, false] rfl rfl (by kernel_rfl) (fun _ _ _ h => h) (Or.inl ⟨by rfl, ?_⟩) ?_ ?_
          rotate_left
          · intro w'
            go_simp
            with_reducible rfl
          rotate_left
          · simp only [Act.put, List.setIfInBounds_toArray, List.set_cons_zero, List.set_cons_succ, i64_w, i32_w]
            rfl
          refine pure_ (i := 1) (N := some 69) (v := ?_) (a' := ?_) #[true, true, false, false, false, false, false, false, false, false, false, false, false, false, false, false, false, false, false, false, false, false, false, false, false, false, false, false, false, false, false, false, false, false, false, false, false, false, false, false, false, false] rfl rfl (by kernel_rfl) (fun _ _ _ h => h) (Or.inl ⟨by rfl, ?_⟩) ?_ ?_
          rotate_left
          · intro w'
            go_simp
            with_reducible rfl
          rotate_left
          · simp only [Act.put, List.setIfInBounds_toArray, List.set_cons_zero, List.set_cons_succ, i64_w, i32_w]
            rfl
          refine pure_ (i := 3) (N := some 71) (v := ?_) (a' := ?_) #[true, true, false, true, false, false, false, false, false, false, false, false, false, false, false, false, false, false, false, false, false, false, false, false, false, false, false, false, false, false, false, false, false, false, false, false, false, false, false, false, false, false] rfl rfl (by kernel_rfl) (fun _ _ _ h => h) (Or.inl ⟨by rfl, ?_⟩) ?_ ?_
          rotate_left
          · intro w'
            go_simp
            with_reducible rfl
          rotate_left
          · simp only [Act.put, List.setIfInBounds_toArray, List.set_cons_zero, List.set_cons_succ, i64_w, i32_w]
            rfl
          refine pure_ (i := 4) (N := some 72) (v := ?_) (a' := ?_) #[true, true, false, true, true, false, false, false, false, false, false, false, false, false, false, false, false, false, false, false, false, false, false, false, false, false, false, false, false, false, false, false, false, false, false, false, false, false, false, false, false, false] rfl rfl (by kernel_rfl) (fun _ _ _ h => h) (Or.inl ⟨by rfl, ?_⟩) ?_ ?_
          rotate_left
          · intro w'
            go_simp
            with_reducible rfl
          rotate_left
          · simp only [Act.put, List.setIfInBounds_toArray, List.set_cons_zero, List.set_cons_succ, i64_w, i32_w]
            rfl
          refine pure_ (i := 5) (N := some 73) (v := ?_) (a' := ?_) #[true, true, false, true, true, true, false, false, false, false, false, false, false, false, false, false, false, false, false, false, false, false, false, false, false, false, false, false, false, false, false, false, false, false, false, false, false, false, false, false, false, false] rfl rfl (by kernel_rfl) (fun _ _ _ h => h) (Or.inl ⟨by rfl, ?_⟩) ?_ ?_
          rotate_left
          · intro w'
            go_simp
            with_reducible rfl
          rotate_left
          · simp only [Act.put, List.setIfInBounds_toArray, List.set_cons_zero, List.set_cons_succ, i64_w, i32_w]
            rfl
          refine pure_ (i := 7) (N := some 75) (v := ?_) (a' := ?_) #[true, true, false, true, true, true, false, true, false, false, false, false, false, false, false, false, false, false, false, false, false, false, false, false, false, false, false, false, false, false, false, false, false, false, false, false, false, false, false, false, false, false] rfl rfl (by kernel_rfl) (fun _ _ _ h => h) (Or.inl ⟨by rfl, ?_⟩) ?_ ?_
          rotate_left
          · intro w'
            go_simp
            with_reducible rfl
          rotate_left
          · simp only [Act.put, List.setIfInBounds_toArray, List.set_cons_zero, List.set_cons_succ, i64_w, i32_w]
            rfl
          refine pure_ (i := 10) (N := some 78) (v := ?_) (a' := ?_) #[true, true, false, true, true, true, false, true, false, false, true, false, false, false, false, false, false, false, false, false, false, false, false, false, false, false, false, false, false, false, false, false, false, false, false, false, false, false, false, false, false, false] rfl rfl (by kernel_rfl) (fun _ _ _ h => h) (Or.inl ⟨by rfl, ?_⟩) ?_ ?_
          rotate_left
          · intro w'
            go_simp
            with_reducible rfl
          rotate_left
          · simp only [Act.put, List.setIfInBounds_toArray, List.set_cons_zero, List.set_cons_succ, i64_w, i32_w]
            rfl
          refine pure_ (i := 13) (N := some 81) (v := ?_) (a' := ?_) #[true, true, false, true, true, true, false, true, false, false, true, false, false, true, false, false, false, false, false, false, false, false, false, false, false, false, false, false, false, false, false, false, false, false, false, false, false, false, false, false, false, false] rfl rfl (by kernel_rfl) (fun _ _ _ h => h) (Or.inl ⟨by rfl, ?_⟩) ?_ ?_
          rotate_left
          · intro w'
            go_simp
            with_reducible rfl
          rotate_left
          · simp only [Act.put, List.setIfInBounds_toArray, List.set_cons_zero, List.set_cons_succ, i64_w, i32_w]
            rfl
          refine pure_ (i := 14) (N := some 82) (v := ?_) (a' := ?_) #[true, true, false, true, true, true, false, true, false, false, true, false, false, true, true, false, false, false, false, false, false, false, false, false, false, false, false, false, false, false, false, false, false, false, false, false, false, false, false, false, false, false] rfl rfl (by kernel_rfl) (fun _ _ _ h => h) (Or.inl ⟨by rfl, ?_⟩) ?_ ?_
          rotate_left
          · intro w'
            go_simp
            with_reducible rfl
          rotate_left
          · simp only [Act.put, List.setIfInBounds_toArray, List.set_cons_zero, List.set_cons_succ, i64_w, i32_w]
            rfl
          refine pure_ (i := 16) (N := some 84) (v := ?_) (a' := ?_) #[true, true, false, true, true, true, false, true, false, false, true, false, false, true, true, false, true, false, false, false, false, false, false, false, false, false, false, false, false, false, false, false, false, false, false, false, false, false, false, false, false, false] rfl rfl (by kernel_rfl) (fun _ _ _ h => h) (Or.inl ⟨by rfl, ?_⟩) ?_ ?_
          rotate_left
          · intro w'
            go_simp
            with_reducible rfl
          rotate_left
          · simp only [Act.put, List.setIfInBounds_toArray, List.set_cons_zero, List.set_cons_succ, i64_w, i32_w]
            rfl
          refine pure_ (i := 17) (N := some 85) (v := ?_) (a' := ?_) #[true, true, false, true, true, true, false, true, false, false, true, false, false, true, true, false, true, true, false, false, false, false, false, false, false, false, false, false, false, false, false, false, false, false, false, false, false, false, false, false, false, false] rfl rfl (by kernel_rfl) (fun _ _ _ h => h) (Or.inl ⟨by rfl, ?_⟩) ?_ ?_
          rotate_left
          · intro w'
            go_simp
            with_reducible rfl
          rotate_left
          · simp only [Act.put, List.setIfInBounds_toArray, List.set_cons_zero, List.set_cons_succ, i64_w, i32_w]
            rfl
          refine pure_ (i := 18) (N := some 86) (v := ?_) (a' := ?_) #[true, true, false, true, true, true, false, true, false, false, true, false, false, true, true, false, true, true, true, false, false, false, false, false, false, false, false, false, false, false, false, false, false, false, false, false, false, false, false, false, false, false] rfl rfl (by kernel_rfl) (fun _ _ _ h => h) (Or.inl ⟨by rfl, ?_⟩) ?_ ?_
          rotate_left
          · intro w'
            go_simp
            with_reducible rfl
          rotate_left
          · simp only [Act.put, List.setIfInBounds_toArray, List.set_cons_zero, List.set_cons_succ, i64_w, i32_w]
            rfl
          refine pure_ (i := 20) (N := some 88) (v := ?_) (a' := ?_) #[true, true, false, true, true, true, false, true, false, false, true, false, false, true, true, false, true, true, true, false, true, false, false, false, false, false, false, false, false, false, false, false, false, false, false, false, false, false, false, false, false, false] rfl rfl (by kernel_rfl) (fun _ _ _ h => h) (Or.inl ⟨by rfl, ?_⟩) ?_ ?_
          rotate_left
          · intro w'
            go_simp
            with_reducible rfl
          rotate_left
          · simp only [Act.put, List.setIfInBounds_toArray, List.set_cons_zero, List.set_cons_succ, i64_w, i32_w]
            rfl
          refine pure_ (i := 23) (N := some 91) (v := ?_) (a' := ?_) #[true, true, false, true, true, true, false, true, false, false, true, false, false, true, true, false, true, true, true, false, true, false, false, true, false, false, false, false, false, false, false, false, false, false, false, false, false, false, false, false, false, false] rfl rfl (by kernel_rfl) (fun _ _ _ h => h) (Or.inl ⟨by rfl, ?_⟩) ?_ ?_
          rotate_left
          · intro w'
            go_simp
            with_reducible rfl
          rotate_left
          · simp only [Act.put, List.setIfInBounds_toArray, List.set_cons_zero, List.set_cons_succ, i64_w, i32_w]
            rfl
          refine pure_ (i := 26) (N := some 94) (v := ?_) (a' := ?_) #[true, true, false, true, true, true, false, true, false, false, true, false, false, true, true, false, true, true, true, false, true, false, false, true, false, false, true, false, false, false, false, false, false, false, false, false, false, false, false, false, false, false] rfl rfl (by kernel_rfl) (fun _ _ _ h => h) (Or.inl ⟨by rfl, ?_⟩) ?_ ?_
          rotate_left
          · intro w'
            go_simp
            with_reducible rfl
          rotate_left
          · simp only [Act.put, List.setIfInBounds_toArray, List.set_cons_zero, List.set_cons_succ, i64_w, i32_w]
            rfl
          refine pure_ (i := 27) (N := some 95) (v := ?_) (a' := ?_) #[true, true, false, true, true, true, false, true, false, false, true, false, false, true, true, false, true, true, true, false, true, false, false, true, false, false, true, true, false, false, false, false, false, false, false, false, false, false, false, false, false, false] rfl rfl (by kernel_rfl) (fun _ _ _ h => h) (Or.inl ⟨by rfl, ?_⟩) ?_ ?_
          rotate_left
          · intro w'
            go_simp
            with_reducible rfl
          rotate_left
          · simp only [Act.put, List.setIfInBounds_toArray, List.set_cons_zero, List.set_cons_succ, i64_w, i32_w]
            rfl
          refine pure_ (i := 29) (N := some 97) (v := ?_) (a' := ?_) #[true, true, false, true, true, true, false, true, false, false, true, false, false, true, true, false, true, true, true, false, true, false, false, true, false, false, true, true, false, true, false, false, false, false, false, false, false, false, false, false, false, false] rfl rfl (by kernel_rfl) (fun _ _ _ h => h) (Or.inl ⟨by rfl, ?_⟩) ?_ ?_
          rotate_left
          · intro w'
            go_simp
            with_reducible rfl
          rotate_left
          · simp only [Act.put, List.setIfInBounds_toArray, List.set_cons_zero, List.set_cons_succ, i64_w, i32_w]
            rfl
          refine pure_ (i := 30) (N := some 98) (v := ?_) (a' := ?_) #[true, true, false, true, true, true, false, true, false, false, true, false, false, true, true, false, true, true, true, false, true, false, false, true, false, false, true, true, false, true, true, false, false, false, false, false, false, false, false, false, false, false] rfl rfl (by kernel_rfl) (fun _ _ _ h => h) (Or.inl ⟨by rfl, ?_⟩) ?_ ?_
          rotate_left
          · intro w'
            go_simp
            with_reducible rfl
          rotate_left
          · simp only [Act.put, List.setIfInBounds_toArray, List.set_cons_zero, List.set_cons_succ, i64_w, i32_w]
            rfl
          refine pure_ (i := 31) (N := some 99) (v := ?_) (a' := ?_) #[true, true, false, true, true, true, false, true, false, false, true, false, false, true, true, false, true, true, true, false, true, false, false, true, false, false, true, true, false, true, true, true, false, false, false, false, false, false, false, false, false, false] rfl rfl (by kernel_rfl) (fun _ _ _ h => h) (Or.inl ⟨by rfl, ?_⟩) ?_ ?_
          rotate_left
          · intro w'
            go_simp
            with_reducible rfl
          rotate_left
          · simp only [Act.put, List.setIfInBounds_toArray, List.set_cons_zero, List.set_cons_succ, i64_w, i32_w]
            rfl
          refine pure_ (i := 33) (N := some 101) (v := ?_) (a' := ?_) #[true, true, false, true, true, true, false, true, false, false, true, false, false, true, true, false, true, true, true, false, true, false, false, true, false, false, true, true, false, true, true, true, false, true, false, false, false, false, false, false, false, false] rfl rfl (by kernel_rfl) (fun _ _ _ h => h) (Or.inl ⟨by rfl, ?_⟩) ?_ ?_
          rotate_left
          · intro w'
            go_simp
            with_reducible rfl
          rotate_left
          · simp only [Act.put, List.setIfInBounds_toArray, List.set_cons_zero, List.set_cons_succ, i64_w, i32_w]
            rfl
          refine pure_ (i := 36) (N := some 104) (v := ?_) (a' := ?_) #[true, true, false, true, true, true, false, true, false, false, true, false, false, true, true, false, true, true, true, false, true, false, false, true, false, false, true, true, false, true, true, true, false, true, false, false, true, false, false, false, false, false] rfl rfl (by kernel_rfl) (fun _ _ _ h => h) (Or.inl ⟨by rfl, ?_⟩) ?_ ?_
          rotate_left
          · intro w'
            go_simp
            with_reducible rfl
          rotate_left
          · simp only [Act.put, List.setIfInBounds_toArray, List.set_cons_zero, List.set_cons_succ, i64_w, i32_w]
            rfl
          refine take_ (i := 2) (N := some 70) (v := ?_) (a' := ?_) #[true, true, true, true, true, true, false, true, false, false, true, false, false, true, true, false, true, true, true, false, true, false, false, true, false, false, true, true, false, true, true, true, false, true, false, false, true, false, false, false, false, false] rfl rfl (by kernel_rfl) (fun _ _ _ h => h) (Or.inl ⟨by rfl, ?_⟩) hHeld ?_ ?_
          rotate_left
          · rintro w' ⟨s0, s1, s2, s3, s4, s5⟩
            go_simp
            with_reducible rfl
          rotate_left
          · simp only [Act.put, List.setIfInBounds_toArray, List.set_cons_zero, List.set_cons_succ, i64_w, i32_w]
            rfl
          refine take_ (i := 6) (N := some 74) (v := ?_) (a' := ?_) #[true, true, true, true, true, true, true, true, false, false, true, false, false, true, true, false, true, true, true, false, true, false, false, true, false, false, true, true, false, true, true, true, false, true, false, false, true, false, false, false, false, false] rfl rfl (by kernel_rfl) (fun _ _ _ h => h) (Or.inl ⟨by rfl, ?_⟩) hHeld ?_ ?_
          rotate_left
          · rintro w' ⟨s0, s1, s2, s3, s4, s5⟩
            go_simp
            with_reducible rfl
          rotate_left
          · simp only [Act.put, List.setIfInBounds_toArray, List.set_cons_zero, List.set_cons_succ, i64_w, i32_w]
            rfl
          refine take_ (i := 8) (N := some 76) (v := ?_) (a' := ?_) #[true, true, true, true, true, true, true, true, true, false, true, false, false, true, true, false, true, true, true, false, true, false, false, true, false, false, true, true, false, true, true, true, false, true, false, false, true, false, false, false, false, false] rfl rfl (by kernel_rfl) (fun _ _ _ h => h) (Or.inl ⟨by rfl, ?_⟩) hHeld ?_ ?_
          rotate_left
          · rintro w' ⟨s0, s1, s2, s3, s4, s5⟩
            go_simp
            with_reducible rfl
          rotate_left
          · simp only [Act.put, List.setIfInBounds_toArray, List.set_cons_zero, List.set_cons_succ, i64_w, i32_w]
            rfl
          refine take_ (i := 15) (N := some 83) (v := ?_) (a' := ?_) #[true, true, true, true, true, true, true, true, true, false, true, false, false, true, true, true, true, true, true, false, true, false, false, true, false, false, true, true, false, true, true, true, false, true, false, false, true, false, false, false, false, false] rfl rfl (by kernel_rfl) (fun _ _ _ h => h) (Or.inl ⟨by rfl, ?_⟩) hHeld ?_ ?_
          rotate_left
          · rintro w' ⟨s0, s1, s2, s3, s4, s5⟩
            go_simp
            with_reducible rfl
          rotate_left
          · simp only [Act.put, List.setIfInBounds_toArray, List.set_cons_zero, List.set_cons_succ, i64_w, i32_w]
            rfl
          refine take_ (i := 19) (N := some 87) (v := ?_) (a' := ?_) #[true, true, true, true, true, true, true, true, true, false, true, false, false, true, true, true, true, true, true, true, true, false, false, true, false, false, true, true, false, true, true, true, false, true, false, false, true, false, false, false, false, false] rfl rfl (by kernel_rfl) (fun _ _ _ h => h) (Or.inl ⟨by rfl, ?_⟩) hHeld ?_ ?_
          rotate_left
          · rintro w' ⟨s0, s1, s2, s3, s4, s5⟩
            go_simp
            with_reducible rfl
          rotate_left
          · simp only [Act.put, List.setIfInBounds_toArray, List.set_cons_zero, List.set_cons_succ, i64_w, i32_w]
            rfl
          refine take_ (i := 21) (N := some 89) (v := ?_) (a' := ?_) #[true, true, true, true, true, true, true, true, true, false, true, false, false, true, true, true, true, true, true, true, true, true, false, true, false, false, true, true, false, true, true, true, false, true, false, false, true, false, false, false, false, false] rfl rfl (by kernel_rfl) (fun _ _ _ h => h) (Or.inl ⟨by rfl, ?_⟩) hHeld ?_ ?_
          rotate_left
          · rintro w' ⟨s0, s1, s2, s3, s4, s5⟩
            go_simp
            with_reducible rfl
          rotate_left
          · simp only [Act.put, List.setIfInBounds_toArray, List.set_cons_zero, List.set_cons_succ, i64_w, i32_w]
            rfl
          refine take_ (i := 28) (N := some 96) (v := ?_) (a' := ?_) #[true, true, true, true, true, true, true, true, true, false, true, false, false, true, true, true, true, true, true, true, true, true, false, true, false, false, true, true, true, true, true, true, false, true, false, false, true, false, false, false, false, false] rfl rfl (by kernel_rfl) (fun _ _ _ h => h) (Or.inl ⟨by rfl, ?_⟩) hHeld ?_ ?_
          rotate_left
          · rintro w' ⟨s0, s1, s2, s3, s4, s5⟩
            go_simp
            with_reducible rfl
          rotate_left
          · simp only [Act.put, List.setIfInBounds_toArray, List.set_cons_zero, List.set_cons_succ, i64_w, i32_w]
            rfl
          refine take_ (i := 32) (N := some 100) (v := ?_) (a' := ?_) #[true, true, true, true, true, true, true, true, true, false, true, false, false, true, true, true, true, true, true, true, true, true, false, true, false, false, true, true, true, true, true, true, true, true, false, false, true, false, false, false, false, false] rfl rfl (by kernel_rfl) (fun _ _ _ h => h) (Or.inl ⟨by rfl, ?_⟩) hHeld ?_ ?_
          rotate_left
          · rintro w' ⟨s0, s1, s2, s3, s4, s5⟩
            go_simp
            with_reducible rfl
          rotate_left
          · simp only [Act.put, List.setIfInBounds_toArray, List.set_cons_zero, List.set_cons_succ, i64_w, i32_w]
            rfl
          refine take_ (i := 34) (N := some 102) (v := ?_) (a' := ?_) #[true, true, true, true, true, true, true, true, true, false, true, false, false, true, true, true, true, true, true, true, true, true, false, true, false, false, true, true, true, true, true, true, true, true, true, false, true, false, false, false, false, false] rfl rfl (by kernel_rfl) (fun _ _ _ h => h) (Or.inl ⟨by rfl, ?_⟩) hHeld ?_ ?_
          rotate_left
          · rintro w' ⟨s0, s1, s2, s3, s4, s5⟩
            go_simp
            with_reducible rfl
          rotate_left
          · simp only [Act.put, List.setIfInBounds_toArray, List.set_cons_zero, List.set_cons_succ, i64_w, i32_w]
            rfl
          refine join_ (σ := Nat) 1 #[true, true, true, true, true, true, true, true, true, true, true, true, true, true, true, true, true, true, true, true, true, true, true, true, true, true, true, true, true, true, true, true, true, true, true, true, true, true, true, true, true, false] (fun s => [(77, .int .i64 Dx), (79, .int .i64 Qx), (80, .int .i64 rx), (90, .int .i64 Dy), (92, .int .i64 Qy), (93, .int .i64 ry), (103, .int .i64 Dz), (105, .int .i64 Qz), (106, .int .i64 rz), (107, .agg #[.int .i64 rx, .int .i64 ry, .int .i64 rz]), (21, .pointer (some ⟨s, 0, none⟩))]) (fun (s : Nat) w' => w4.heap.size ≤ s ∧ w'.heap[s]? = some (.cells #[.int .i64 0, .int .i64 0, .int .i64 0] 27 (0, 0)) ∧ Below w4.heap.size w4 w') ?_ ?_
          rotate_left
          · intro hJ9_11_12_22_24_25_35_37_38_40
            refine join_ (σ := Nat) 2 #[true, true, true, true, true, true, true, true, true, true, true, true, true, true, true, true, true, true, true, true, true, true, true, true, true, true, true, true, true, true, true, true, true, true, true, true, true, true, true, true, false, false] (fun s => [(77, .int .i64 Dx), (79, .int .i64 Qx), (80, .int .i64 rx), (90, .int .i64 Dy), (92, .int .i64 Qy), (93, .int .i64 ry), (103, .int .i64 Dz), (105, .int .i64 Qz), (106, .int .i64 rz), (107, .agg #[.int .i64 rx, .int .i64 ry, .int .i64 rz])]) (fun (s : Nat) w' => Below w4.heap.size w4 w') ?_ ?_
            rotate_left
            · intro hJ9_11_12_22_24_25_35_37_38
              refine join_ (σ := Nat) 3 #[true, true, true, true, true, true, true, true, true, true, true, true, true, true, true, true, true, true, true, true, true, true, true, true, true, true, true, true, true, true, true, true, true, true, true, true, true, true, false, false, true, false] (fun s => [(77, .int .i64 Dx), (79, .int .i64 Qx), (80, .int .i64 rx), (90, .int .i64 Dy), (92, .int .i64 Qy), (93, .int .i64 ry), (103, .int .i64 Dz), (105, .int .i64 Qz), (21, .pointer (some ⟨s, 0, none⟩))]) (fun (s : Nat) w' => w4.heap.size ≤ s ∧ w'.heap[s]? = some (.cells #[.int .i64 0, .int .i64 0, .int .i64 0] 27 (0, 0)) ∧ Below w4.heap.size w4 w') ?_ ?_
              rotate_left
              · intro hJ9_11_12_22_24_25_35_37_40
                refine join_ (σ := Nat) 4 #[true, true, true, true, true, true, true, true, true, true, true, true, true, true, true, true, true, true, true, true, true, true, true, true, true, true, true, true, true, true, true, true, true, true, true, true, true, true, false, false, false, false] (fun s => [(77, .int .i64 Dx), (79, .int .i64 Qx), (80, .int .i64 rx), (90, .int .i64 Dy), (92, .int .i64 Qy), (93, .int .i64 ry), (103, .int .i64 Dz), (105, .int .i64 Qz)]) (fun (s : Nat) w' => Below w4.heap.size w4 w') ?_ ?_
                rotate_left
                · intro hJ9_11_12_22_24_25_35_37
                  refine join_ (σ := Nat) 4 #[true, true, true, true, true, true, true, true, true, true, true, true, true, true, true, true, true, true, true, true, true, true, true, true, true, true, true, true, true, true, true, true, true, true, true, true, true, false, false, false, true, false] (fun s => [(77, .int .i64 Dx), (79, .int .i64 Qx), (80, .int .i64 rx), (90, .int .i64 Dy), (92, .int .i64 Qy), (93, .int .i64 ry), (103, .int .i64 Dz), (21, .pointer (some ⟨s, 0, none⟩))]) (fun (s : Nat) w' => w4.heap.size ≤ s ∧ w'.heap[s]? = some (.cells #[.int .i64 0, .int .i64 0, .int .i64 0] 27 (0, 0)) ∧ Below w4.heap.size w4 w') ?_ ?_
                  rotate_left
                  · intro hJ9_11_12_22_24_25_35_40
                    refine join_ (σ := Nat) 5 #[true, true, true, true, true, true, true, true, true, true, true, true, true, true, true, true, true, true, true, true, true, true, true, true, true, true, true, true, true, true, true, true, true, true, true, true, true, false, false, false, false, false] (fun s => [(77, .int .i64 Dx), (79, .int .i64 Qx), (80, .int .i64 rx), (90, .int .i64 Dy), (92, .int .i64 Qy), (93, .int .i64 ry), (103, .int .i64 Dz)]) (fun (s : Nat) w' => Below w4.heap.size w4 w') ?_ ?_
                    rotate_left
                    · intro hJ9_11_12_22_24_25_35
                      refine join_ (σ := Nat) 5 #[true, true, true, true, true, true, true, true, true, true, true, true, true, true, true, true, true, true, true, true, true, true, true, true, true, true, true, true, true, true, true, true, true, true, true, false, true, false, false, false, true, false] (fun s => [(77, .int .i64 Dx), (79, .int .i64 Qx), (80, .int .i64 rx), (90, .int .i64 Dy), (92, .int .i64 Qy), (93, .int .i64 ry), (21, .pointer (some ⟨s, 0, none⟩))]) (fun (s : Nat) w' => w4.heap.size ≤ s ∧ w'.heap[s]? = some (.cells #[.int .i64 0, .int .i64 0, .int .i64 0] 27 (0, 0)) ∧ Below w4.heap.size w4 w') ?_ ?_
                      rotate_left
                      · intro hJ9_11_12_22_24_25_40
                        refine join_ (σ := Nat) 6 #[true, true, true, true, true, true, true, true, true, true, true, true, true, true, true, true, true, true, true, true, true, true, true, true, true, true, true, true, true, true, true, true, true, true, true, false, true, false, false, false, false, false] (fun s => [(77, .int .i64 Dx), (79, .int .i64 Qx), (80, .int .i64 rx), (90, .int .i64 Dy), (92, .int .i64 Qy), (93, .int .i64 ry)]) (fun (s : Nat) w' => Below w4.heap.size w4 w') ?_ ?_
                        rotate_left
                        · intro hJ9_11_12_22_24_25
                          refine join_ (σ := Nat) 6 #[true, true, true, true, true, true, true, true, true, true, true, true, true, true, true, true, true, true, true, true, true, true, true, true, true, false, true, true, true, true, true, true, true, true, true, false, true, false, false, false, true, false] (fun s => [(77, .int .i64 Dx), (79, .int .i64 Qx), (80, .int .i64 rx), (90, .int .i64 Dy), (92, .int .i64 Qy), (21, .pointer (some ⟨s, 0, none⟩))]) (fun (s : Nat) w' => w4.heap.size ≤ s ∧ w'.heap[s]? = some (.cells #[.int .i64 0, .int .i64 0, .int .i64 0] 27 (0, 0)) ∧ Below w4.heap.size w4 w') ?_ ?_
                          rotate_left
                          · intro hJ9_11_12_22_24_40
                            refine join_ (σ := Nat) 7 #[true, true, true, true, true, true, true, true, true, true, true, true, true, true, true, true, true, true, true, true, true, true, true, true, true, false, true, true, true, true, true, true, true, true, true, false, true, false, false, false, false, false] (fun s => [(77, .int .i64 Dx), (79, .int .i64 Qx), (80, .int .i64 rx), (90, .int .i64 Dy), (92, .int .i64 Qy)]) (fun (s : Nat) w' => Below w4.heap.size w4 w') ?_ ?_
                            rotate_left
                            · intro hJ9_11_12_22_24
                              refine join_ (σ := Nat) 7 #[true, true, true, true, true, true, true, true, true, true, true, true, true, true, true, true, true, true, true, true, true, true, true, true, false, false, true, true, true, true, true, true, true, true, true, false, true, false, false, false, true, false] (fun s => [(77, .int .i64 Dx), (79, .int .i64 Qx), (80, .int .i64 rx), (90, .int .i64 Dy), (21, .pointer (some ⟨s, 0, none⟩))]) (fun (s : Nat) w' => w4.heap.size ≤ s ∧ w'.heap[s]? = some (.cells #[.int .i64 0, .int .i64 0, .int .i64 0] 27 (0, 0)) ∧ Below w4.heap.size w4 w') ?_ ?_
                              rotate_left
                              · intro hJ9_11_12_22_40
                                refine join_ (σ := Nat) 8 #[true, true, true, true, true, true, true, true, true, true, true, true, true, true, true, true, true, true, true, true, true, true, true, true, false, false, true, true, true, true, true, true, true, true, true, false, true, false, false, false, false, false] (fun s => [(77, .int .i64 Dx), (79, .int .i64 Qx), (80, .int .i64 rx), (90, .int .i64 Dy)]) (fun (s : Nat) w' => Below w4.heap.size w4 w') ?_ ?_
                                rotate_left
                                · intro hJ9_11_12_22
                                  refine join_ (σ := Nat) 8 #[true, true, true, true, true, true, true, true, true, true, true, true, true, true, true, true, true, true, true, true, true, true, false, true, false, false, true, true, true, true, true, true, true, true, true, false, true, false, false, false, true, false] (fun s => [(77, .int .i64 Dx), (79, .int .i64 Qx), (80, .int .i64 rx), (21, .pointer (some ⟨s, 0, none⟩))]) (fun (s : Nat) w' => w4.heap.size ≤ s ∧ w'.heap[s]? = some (.cells #[.int .i64 0, .int .i64 0, .int .i64 0] 27 (0, 0)) ∧ Below w4.heap.size w4 w') ?_ ?_
                                  rotate_left
                                  · intro hJ9_11_12_40
                                    refine join_ (σ := Nat) 9 #[true, true, true, true, true, true, true, true, true, true, true, true, true, true, true, true, true, true, true, true, true, true, false, true, false, false, true, true, true, true, true, true, true, true, true, false, true, false, false, false, false, false] (fun s => [(77, .int .i64 Dx), (79, .int .i64 Qx), (80, .int .i64 rx)]) (fun (s : Nat) w' => Below w4.heap.size w4 w') ?_ ?_
                                    rotate_left
                                    · intro hJ9_11_12
                                      refine join_ (σ := Nat) 9 #[true, true, true, true, true, true, true, true, true, true, true, true, false, true, true, true, true, true, true, true, true, true, false, true, false, false, true, true, true, true, true, true, true, true, true, false, true, false, false, false, true, false] (fun s => [(77, .int .i64 Dx), (79, .int .i64 Qx), (21, .pointer (some ⟨s, 0, none⟩))]) (fun (s : Nat) w' => w4.heap.size ≤ s ∧ w'.heap[s]? = some (.cells #[.int .i64 0, .int .i64 0, .int .i64 0] 27 (0, 0)) ∧ Below w4.heap.size w4 w') ?_ ?_
                                      rotate_left
                                      · intro hJ9_11_40
                                        refine join_ (σ := Nat) 10 #[true, true, true, true, true, true, true, true, true, true, true, true, false, true, true, true, true, true, true, true, true, true, false, true, false, false, true, true, true, true, true, true, true, true, true, false, true, false, false, false, false, false] (fun s => [(77, .int .i64 Dx), (79, .int .i64 Qx)]) (fun (s : Nat) w' => Below w4.heap.size w4 w') ?_ ?_
                                        rotate_left
                                        · intro hJ9_11
                                          refine join_ (σ := Nat) 10 #[true, true, true, true, true, true, true, true, true, true, true, false, false, true, true, true, true, true, true, true, true, true, false, true, false, false, true, true, true, true, true, true, true, true, true, false, true, false, false, false, true, false] (fun s => [(77, .int .i64 Dx), (21, .pointer (some ⟨s, 0, none⟩))]) (fun (s : Nat) w' => w4.heap.size ≤ s ∧ w'.heap[s]? = some (.cells #[.int .i64 0, .int .i64 0, .int .i64 0] 27 (0, 0)) ∧ Below w4.heap.size w4 w') ?_ ?_
                                          rotate_left
                                          · intro hJ9_40
                                            refine join_ (σ := Nat) 11 #[true, true, true, true, true, true, true, true, true, true, true, false, false, true, true, true, true, true, true, true, true, true, false, true, false, false, true, true, true, true, true, true, true, true, true, false, true, false, false, false, false, false] (fun s => [(77, .int .i64 Dx)]) (fun (s : Nat) w' => Below w4.heap.size w4 w') ?_ ?_
                                            rotate_left
                                            · intro hJ9
                                              refine join_ (σ := Nat) 11 #[true, true, true, true, true, true, true, true, true, false, true, false, false, true, true, true, true, true, true, true, true, true, false, true, false, false, true, true, true, true, true, true, true, true, true, false, true, false, false, false, true, false] (fun s => [(21, .pointer (some ⟨s, 0, none⟩))]) (fun (s : Nat) w' => w4.heap.size ≤ s ∧ w'.heap[s]? = some (.cells #[.int .i64 0, .int .i64 0, .int .i64 0] 27 (0, 0)) ∧ Below w4.heap.size w4 w') ?_ ?_
                                              rotate_left
                                              · intro hJ40
                                                refine two_ (i := 9) (j := 40) (Ni := some 77) (Nj := some 21) #[true, true, true, true, true, true, true, true, true, true, true, false, false, true, true, true, true, true, true, true, true, true, false, true, false, false, true, true, true, true, true, true, true, true, true, false, true, false, false, false, false, false] #[true, true, true, true, true, true, true, true, true, false, true, false, false, true, true, true, true, true, true, true, true, true, false, true, false, false, true, true, true, true, true, true, true, true, true, false, true, false, false, false, true, false] rfl rfl rfl rfl (by kernel_rfl) (by decide) (by decide) (fun K hK => ?_) (fun K hK => ?_)
                                                · skip
                                                  refine gs_ Try.func101 #[.pointer (some ⟨wq.heap.size, 0, none⟩), .int .i64 tx, .int .i64 ax] ?_
                                                  with_reducible refine (S1.out _).mono ?_
                                                  rintro en wz ⟨rfl, hb⟩
                                                  have HB := Lh (HB.out.trans (hb.mono HB.out.size))
                                                  clear hb
                                                  refine ⟨_, rfl, ?_⟩
                                                  refine hK.out _ _ ⟨(HB.out.cell (p := ⟨w.heap.size, 0, none⟩) (xl)).trans x0, (HB.out.cell (p := ⟨w.heap.size, 1, none⟩) (xl)).trans x1, (HB.out.cell (p := ⟨w.heap.size, 2, none⟩) (xl)).trans x2, (HB.out.cell (p := ⟨w.heap.size + 1, 0, none⟩) (kl)).trans k0, (HB.out.cell (p := ⟨w.heap.size + 1, 1, none⟩) (kl)).trans k1, (HB.out.cell (p := ⟨w.heap.size + 1, 2, none⟩) (kl)).trans k2⟩ (fun hHeld => ?_)
                                                  clear hK K
                                                  refine norm_ (a' := ?_) ?_ ?_
                                                  rotate_left
                                                  · show Act.put _ (some 77) _ = _
                                                    simp only [Act.put, List.setIfInBounds_toArray, List.set_cons_zero, List.set_cons_succ, i64_w, i32_w]
                                                    rfl
                                                  exact norm_ (by first | (simp only [putAll, Act.put, List.setIfInBounds_toArray, List.set_cons_zero, List.set_cons_succ]; done) | (simp only [putAll, Act.put, List.setIfInBounds_toArray, List.set_cons_zero, List.set_cons_succ]; rfl)) (hJ9 0 _ HB.out)
                                                · skip
                                                  refine value_ (w1 := ?_) (v := ?_) (by rfl) rfl ?_ ?_
                                                  rotate_left 2
                                                  · go_simp
                                                    constructor
                                                    · rfl
                                                    · rfl
                                                  have HB_ := Lh (ha_new HB.out (.cells #[.int .i64 0, .int .i64 0, .int .i64 0] 27))
                                                  have gB_ := HB.out.size
                                                  have HB := Lh (HB.out.alloc (Nat.le_trans (Nat.le_refl _) HB.out.size) (.cells #[.int .i64 0, .int .i64 0, .int .i64 0] 27))
                                                  refine hK.out _ _ ⟨(HB.out.cell (p := ⟨w.heap.size, 0, none⟩) (xl)).trans x0, (HB.out.cell (p := ⟨w.heap.size, 1, none⟩) (xl)).trans x1, (HB.out.cell (p := ⟨w.heap.size, 2, none⟩) (xl)).trans x2, (HB.out.cell (p := ⟨w.heap.size + 1, 0, none⟩) (kl)).trans k0, (HB.out.cell (p := ⟨w.heap.size + 1, 1, none⟩) (kl)).trans k1, (HB.out.cell (p := ⟨w.heap.size + 1, 2, none⟩) (kl)).trans k2⟩ (fun hHeld => ?_)
                                                  clear hK K
                                                  refine norm_ (a' := ?_) ?_ ?_
                                                  rotate_left
                                                  · show Act.put _ (some 21) _ = _
                                                    simp only [Act.put, List.setIfInBounds_toArray, List.set_cons_zero, List.set_cons_succ, i64_w, i32_w]
                                                    rfl
                                                  exact norm_ (by first | (simp only [putAll, Act.put, List.setIfInBounds_toArray, List.set_cons_zero, List.set_cons_succ]; done) | (simp only [putAll, Act.put, List.setIfInBounds_toArray, List.set_cons_zero, List.set_cons_succ]; rfl)) (hJ40 _ _ ⟨gB_, HB_.out, HB.out⟩)
                                              · skip
                                                rintro AB_ wj ⟨gB_, HB_, HB⟩
                                                have HB_ := Lh HB_
                                                have HB := Lh HB
                                                have hHeld : wj.cell? ⟨w.heap.size, 0, none⟩ = some (.int .i64 ax) ∧ wj.cell? ⟨w.heap.size, 1, none⟩ = some (.int .i64 ay) ∧ wj.cell? ⟨w.heap.size, 2, none⟩ = some (.int .i64 az) ∧ wj.cell? ⟨w.heap.size + 1, 0, none⟩ = some (.int .i64 tx) ∧ wj.cell? ⟨w.heap.size + 1, 1, none⟩ = some (.int .i64 ty) ∧ wj.cell? ⟨w.heap.size + 1, 2, none⟩ = some (.int .i64 tz) := ⟨(HB.out.cell (p := ⟨w.heap.size, 0, none⟩) (xl)).trans x0, (HB.out.cell (p := ⟨w.heap.size, 1, none⟩) (xl)).trans x1, (HB.out.cell (p := ⟨w.heap.size, 2, none⟩) (xl)).trans x2, (HB.out.cell (p := ⟨w.heap.size + 1, 0, none⟩) (kl)).trans k0, (HB.out.cell (p := ⟨w.heap.size + 1, 1, none⟩) (kl)).trans k1, (HB.out.cell (p := ⟨w.heap.size + 1, 2, none⟩) (kl)).trans k2⟩
                                                refine norm_ (a' := ?_) ?_ ?_
                                                rotate_left
                                                · simp only [putAll, Act.put, List.setIfInBounds_toArray, List.set_cons_zero, List.set_cons_succ]
                                                  rfl
                                                refine one_ (i := 9) (N := some 77) #[true, true, true, true, true, true, true, true, true, true, true, false, false, true, true, true, true, true, true, true, true, true, false, true, false, false, true, true, true, true, true, true, true, true, true, false, true, false, false, false, true, false] rfl rfl (by kernel_rfl) (by decide) (fun K hK => ?_)
                                                refine gs_ Try.func101 #[.pointer (some ⟨wq.heap.size, 0, none⟩), .int .i64 tx, .int .i64 ax] ?_
                                                with_reducible refine (S1.out _).mono ?_
                                                rintro en wz ⟨rfl, hb⟩
                                                have HB_ := Lh ((hb.block _ (blk_lt HB_.out)).trans HB_.out)
                                                have HB := Lh (HB.out.trans (hb.mono HB.out.size))
                                                clear hb
                                                refine ⟨_, rfl, ?_⟩
                                                refine hK.out _ _ ⟨(HB.out.cell (p := ⟨w.heap.size, 0, none⟩) (xl)).trans x0, (HB.out.cell (p := ⟨w.heap.size, 1, none⟩) (xl)).trans x1, (HB.out.cell (p := ⟨w.heap.size, 2, none⟩) (xl)).trans x2, (HB.out.cell (p := ⟨w.heap.size + 1, 0, none⟩) (kl)).trans k0, (HB.out.cell (p := ⟨w.heap.size + 1, 1, none⟩) (kl)).trans k1, (HB.out.cell (p := ⟨w.heap.size + 1, 2, none⟩) (kl)).trans k2⟩ (fun hHeld => ?_)
                                                clear hK K
                                                refine norm_ (a' := ?_) ?_ ?_
                                                rotate_left
                                                · show Act.put _ (some 77) _ = _
                                                  simp only [Act.put, List.setIfInBounds_toArray, List.set_cons_zero, List.set_cons_succ, i64_w, i32_w]
                                                  rfl
                                                exact norm_ (by first | (simp only [putAll, Act.put, List.setIfInBounds_toArray, List.set_cons_zero, List.set_cons_succ]; done) | (simp only [putAll, Act.put, List.setIfInBounds_toArray, List.set_cons_zero, List.set_cons_succ]; rfl)) (hJ9_40 _ _ ⟨gB_, HB_.out, HB.out⟩)
                                            · skip
                                              rintro AB_ wj HB
                                              have HB := Lh HB
                                              have hHeld : wj.cell? ⟨w.heap.size, 0, none⟩ = some (.int .i64 ax) ∧ wj.cell? ⟨w.heap.size, 1, none⟩ = some (.int .i64 ay) ∧ wj.cell? ⟨w.heap.size, 2, none⟩ = some (.int .i64 az) ∧ wj.cell? ⟨w.heap.size + 1, 0, none⟩ = some (.int .i64 tx) ∧ wj.cell? ⟨w.heap.size + 1, 1, none⟩ = some (.int .i64 ty) ∧ wj.cell? ⟨w.heap.size + 1, 2, none⟩ = some (.int .i64 tz) := ⟨(HB.out.cell (p := ⟨w.heap.size, 0, none⟩) (xl)).trans x0, (HB.out.cell (p := ⟨w.heap.size, 1, none⟩) (xl)).trans x1, (HB.out.cell (p := ⟨w.heap.size, 2, none⟩) (xl)).trans x2, (HB.out.cell (p := ⟨w.heap.size + 1, 0, none⟩) (kl)).trans k0, (HB.out.cell (p := ⟨w.heap.size + 1, 1, none⟩) (kl)).trans k1, (HB.out.cell (p := ⟨w.heap.size + 1, 2, none⟩) (kl)).trans k2⟩
                                              refine norm_ (a' := ?_) ?_ ?_
                                              rotate_left
                                              · simp only [putAll, Act.put, List.setIfInBounds_toArray, List.set_cons_zero, List.set_cons_succ]
                                                rfl
                                              refine two_ (i := 11) (j := 40) (Ni := some 79) (Nj := some 21) #[true, true, true, true, true, true, true, true, true, true, true, true, false, true, true, true, true, true, true, true, true, true, false, true, false, false, true, true, true, true, true, true, true, true, true, false, true, false, false, false, false, false] #[true, true, true, true, true, true, true, true, true, true, true, false, false, true, true, true, true, true, true, true, true, true, false, true, false, false, true, true, true, true, true, true, true, true, true, false, true, false, false, false, true, false] rfl rfl rfl rfl (by kernel_rfl) (by decide) (by decide) (fun K hK => ?_) (fun K hK => ?_)
                                              · skip
                                                refine gs_ Try.func100 #[.pointer (some ⟨wq.heap.size, 0, none⟩), .int .i64 Dx, .int .i64 (LK : Int), .int .i64 16] ?_
                                                with_reducible refine (R1.out _).mono ?_
                                                rintro en wz ⟨rfl, hb⟩
                                                have HB := Lh (HB.out.trans (hb.mono HB.out.size))
                                                clear hb
                                                refine ⟨_, rfl, ?_⟩
                                                refine hK.out _ _ ⟨(HB.out.cell (p := ⟨w.heap.size, 0, none⟩) (xl)).trans x0, (HB.out.cell (p := ⟨w.heap.size, 1, none⟩) (xl)).trans x1, (HB.out.cell (p := ⟨w.heap.size, 2, none⟩) (xl)).trans x2, (HB.out.cell (p := ⟨w.heap.size + 1, 0, none⟩) (kl)).trans k0, (HB.out.cell (p := ⟨w.heap.size + 1, 1, none⟩) (kl)).trans k1, (HB.out.cell (p := ⟨w.heap.size + 1, 2, none⟩) (kl)).trans k2⟩ (fun hHeld => ?_)
                                                clear hK K
                                                refine norm_ (a' := ?_) ?_ ?_
                                                rotate_left
                                                · show Act.put _ (some 79) _ = _
                                                  simp only [Act.put, List.setIfInBounds_toArray, List.set_cons_zero, List.set_cons_succ, i64_w, i32_w]
                                                  rfl
                                                exact norm_ (by first | (simp only [putAll, Act.put, List.setIfInBounds_toArray, List.set_cons_zero, List.set_cons_succ]; done) | (simp only [putAll, Act.put, List.setIfInBounds_toArray, List.set_cons_zero, List.set_cons_succ]; rfl)) (hJ9_11 0 _ HB.out)
                                              · skip
                                                refine value_ (w1 := ?_) (v := ?_) (by rfl) rfl ?_ ?_
                                                rotate_left 2
                                                · go_simp
                                                  constructor
                                                  · rfl
                                                  · rfl
                                                have HB_ := Lh (ha_new HB.out (.cells #[.int .i64 0, .int .i64 0, .int .i64 0] 27))
                                                have gB_ := HB.out.size
                                                have HB := Lh (HB.out.alloc (Nat.le_trans (Nat.le_refl _) HB.out.size) (.cells #[.int .i64 0, .int .i64 0, .int .i64 0] 27))
                                                refine hK.out _ _ ⟨(HB.out.cell (p := ⟨w.heap.size, 0, none⟩) (xl)).trans x0, (HB.out.cell (p := ⟨w.heap.size, 1, none⟩) (xl)).trans x1, (HB.out.cell (p := ⟨w.heap.size, 2, none⟩) (xl)).trans x2, (HB.out.cell (p := ⟨w.heap.size + 1, 0, none⟩) (kl)).trans k0, (HB.out.cell (p := ⟨w.heap.size + 1, 1, none⟩) (kl)).trans k1, (HB.out.cell (p := ⟨w.heap.size + 1, 2, none⟩) (kl)).trans k2⟩ (fun hHeld => ?_)
                                                clear hK K
                                                refine norm_ (a' := ?_) ?_ ?_
                                                rotate_left
                                                · show Act.put _ (some 21) _ = _
                                                  simp only [Act.put, List.setIfInBounds_toArray, List.set_cons_zero, List.set_cons_succ, i64_w, i32_w]
                                                  rfl
                                                exact norm_ (by first | (simp only [putAll, Act.put, List.setIfInBounds_toArray, List.set_cons_zero, List.set_cons_succ]; done) | (simp only [putAll, Act.put, List.setIfInBounds_toArray, List.set_cons_zero, List.set_cons_succ]; rfl)) (hJ9_40 _ _ ⟨gB_, HB_.out, HB.out⟩)
                                          · skip
                                            rintro AB_ wj ⟨gB_, HB_, HB⟩
                                            have HB_ := Lh HB_
                                            have HB := Lh HB
                                            have hHeld : wj.cell? ⟨w.heap.size, 0, none⟩ = some (.int .i64 ax) ∧ wj.cell? ⟨w.heap.size, 1, none⟩ = some (.int .i64 ay) ∧ wj.cell? ⟨w.heap.size, 2, none⟩ = some (.int .i64 az) ∧ wj.cell? ⟨w.heap.size + 1, 0, none⟩ = some (.int .i64 tx) ∧ wj.cell? ⟨w.heap.size + 1, 1, none⟩ = some (.int .i64 ty) ∧ wj.cell? ⟨w.heap.size + 1, 2, none⟩ = some (.int .i64 tz) := ⟨(HB.out.cell (p := ⟨w.heap.size, 0, none⟩) (xl)).trans x0, (HB.out.cell (p := ⟨w.heap.size, 1, none⟩) (xl)).trans x1, (HB.out.cell (p := ⟨w.heap.size, 2, none⟩) (xl)).trans x2, (HB.out.cell (p := ⟨w.heap.size + 1, 0, none⟩) (kl)).trans k0, (HB.out.cell (p := ⟨w.heap.size + 1, 1, none⟩) (kl)).trans k1, (HB.out.cell (p := ⟨w.heap.size + 1, 2, none⟩) (kl)).trans k2⟩
                                            refine norm_ (a' := ?_) ?_ ?_
                                            rotate_left
                                            · simp only [putAll, Act.put, List.setIfInBounds_toArray, List.set_cons_zero, List.set_cons_succ]
                                              rfl
                                            refine one_ (i := 11) (N := some 79) #[true, true, true, true, true, true, true, true, true, true, true, true, false, true, true, true, true, true, true, true, true, true, false, true, false, false, true, true, true, true, true, true, true, true, true, false, true, false, false, false, true, false] rfl rfl (by kernel_rfl) (by decide) (fun K hK => ?_)
                                            refine gs_ Try.func100 #[.pointer (some ⟨wq.heap.size, 0, none⟩), .int .i64 Dx, .int .i64 (LK : Int), .int .i64 16] ?_
                                            with_reducible refine (R1.out _).mono ?_
                                            rintro en wz ⟨rfl, hb⟩
                                            have HB_ := Lh ((hb.block _ (blk_lt HB_.out)).trans HB_.out)
                                            have HB := Lh (HB.out.trans (hb.mono HB.out.size))
                                            clear hb
                                            refine ⟨_, rfl, ?_⟩
                                            refine hK.out _ _ ⟨(HB.out.cell (p := ⟨w.heap.size, 0, none⟩) (xl)).trans x0, (HB.out.cell (p := ⟨w.heap.size, 1, none⟩) (xl)).trans x1, (HB.out.cell (p := ⟨w.heap.size, 2, none⟩) (xl)).trans x2, (HB.out.cell (p := ⟨w.heap.size + 1, 0, none⟩) (kl)).trans k0, (HB.out.cell (p := ⟨w.heap.size + 1, 1, none⟩) (kl)).trans k1, (HB.out.cell (p := ⟨w.heap.size + 1, 2, none⟩) (kl)).trans k2⟩ (fun hHeld => ?_)
                                            clear hK K
                                            refine norm_ (a' := ?_) ?_ ?_
                                            rotate_left
                                            · show Act.put _ (some 79) _ = _
                                              simp only [Act.put, List.setIfInBounds_toArray, List.set_cons_zero, List.set_cons_succ, i64_w, i32_w]
                                              rfl
                                            exact norm_ (by first | (simp only [putAll, Act.put, List.setIfInBounds_toArray, List.set_cons_zero, List.set_cons_succ]; done) | (simp only [putAll, Act.put, List.setIfInBounds_toArray, List.set_cons_zero, List.set_cons_succ]; rfl)) (hJ9_11_40 _ _ ⟨gB_, HB_.out, HB.out⟩)
                                        · skip
                                          rintro AB_ wj HB
                                          have HB := Lh HB
                                          have hHeld : wj.cell? ⟨w.heap.size, 0, none⟩ = some (.int .i64 ax) ∧ wj.cell? ⟨w.heap.size, 1, none⟩ = some (.int .i64 ay) ∧ wj.cell? ⟨w.heap.size, 2, none⟩ = some (.int .i64 az) ∧ wj.cell? ⟨w.heap.size + 1, 0, none⟩ = some (.int .i64 tx) ∧ wj.cell? ⟨w.heap.size + 1, 1, none⟩ = some (.int .i64 ty) ∧ wj.cell? ⟨w.heap.size + 1, 2, none⟩ = some (.int .i64 tz) := ⟨(HB.out.cell (p := ⟨w.heap.size, 0, none⟩) (xl)).trans x0, (HB.out.cell (p := ⟨w.heap.size, 1, none⟩) (xl)).trans x1, (HB.out.cell (p := ⟨w.heap.size, 2, none⟩) (xl)).trans x2, (HB.out.cell (p := ⟨w.heap.size + 1, 0, none⟩) (kl)).trans k0, (HB.out.cell (p := ⟨w.heap.size + 1, 1, none⟩) (kl)).trans k1, (HB.out.cell (p := ⟨w.heap.size + 1, 2, none⟩) (kl)).trans k2⟩
                                          refine norm_ (a' := ?_) ?_ ?_
                                          rotate_left
                                          · simp only [putAll, Act.put, List.setIfInBounds_toArray, List.set_cons_zero, List.set_cons_succ]
                                            rfl
                                          refine two_ (i := 12) (j := 40) (Ni := some 80) (Nj := some 21) #[true, true, true, true, true, true, true, true, true, true, true, true, true, true, true, true, true, true, true, true, true, true, false, true, false, false, true, true, true, true, true, true, true, true, true, false, true, false, false, false, false, false] #[true, true, true, true, true, true, true, true, true, true, true, true, false, true, true, true, true, true, true, true, true, true, false, true, false, false, true, true, true, true, true, true, true, true, true, false, true, false, false, false, true, false] rfl rfl rfl rfl (by kernel_rfl) (by decide) (by decide) (fun K hK => ?_) (fun K hK => ?_)
                                          · skip
                                            refine gs_ Try.func99 #[.pointer (some ⟨wq.heap.size, 0, none⟩), .int .i64 ax, .int .i64 Qx] ?_
                                            with_reducible refine (A1.out _).mono ?_
                                            rintro en wz ⟨rfl, hb⟩
                                            have HB := Lh (HB.out.trans (hb.mono HB.out.size))
                                            clear hb
                                            refine ⟨_, rfl, ?_⟩
                                            refine hK.out _ _ ⟨(HB.out.cell (p := ⟨w.heap.size, 0, none⟩) (xl)).trans x0, (HB.out.cell (p := ⟨w.heap.size, 1, none⟩) (xl)).trans x1, (HB.out.cell (p := ⟨w.heap.size, 2, none⟩) (xl)).trans x2, (HB.out.cell (p := ⟨w.heap.size + 1, 0, none⟩) (kl)).trans k0, (HB.out.cell (p := ⟨w.heap.size + 1, 1, none⟩) (kl)).trans k1, (HB.out.cell (p := ⟨w.heap.size + 1, 2, none⟩) (kl)).trans k2⟩ (fun hHeld => ?_)
                                            clear hK K
                                            refine norm_ (a' := ?_) ?_ ?_
                                            rotate_left
                                            · show Act.put _ (some 80) _ = _
                                              simp only [Act.put, List.setIfInBounds_toArray, List.set_cons_zero, List.set_cons_succ, i64_w, i32_w]
                                              rfl
                                            exact norm_ (by first | (simp only [putAll, Act.put, List.setIfInBounds_toArray, List.set_cons_zero, List.set_cons_succ]; done) | (simp only [putAll, Act.put, List.setIfInBounds_toArray, List.set_cons_zero, List.set_cons_succ]; rfl)) (hJ9_11_12 0 _ HB.out)
                                          · skip
                                            refine value_ (w1 := ?_) (v := ?_) (by rfl) rfl ?_ ?_
                                            rotate_left 2
                                            · go_simp
                                              constructor
                                              · rfl
                                              · rfl
                                            have HB_ := Lh (ha_new HB.out (.cells #[.int .i64 0, .int .i64 0, .int .i64 0] 27))
                                            have gB_ := HB.out.size
                                            have HB := Lh (HB.out.alloc (Nat.le_trans (Nat.le_refl _) HB.out.size) (.cells #[.int .i64 0, .int .i64 0, .int .i64 0] 27))
                                            refine hK.out _ _ ⟨(HB.out.cell (p := ⟨w.heap.size, 0, none⟩) (xl)).trans x0, (HB.out.cell (p := ⟨w.heap.size, 1, none⟩) (xl)).trans x1, (HB.out.cell (p := ⟨w.heap.size, 2, none⟩) (xl)).trans x2, (HB.out.cell (p := ⟨w.heap.size + 1, 0, none⟩) (kl)).trans k0, (HB.out.cell (p := ⟨w.heap.size + 1, 1, none⟩) (kl)).trans k1, (HB.out.cell (p := ⟨w.heap.size + 1, 2, none⟩) (kl)).trans k2⟩ (fun hHeld => ?_)
                                            clear hK K
                                            refine norm_ (a' := ?_) ?_ ?_
                                            rotate_left
                                            · show Act.put _ (some 21) _ = _
                                              simp only [Act.put, List.setIfInBounds_toArray, List.set_cons_zero, List.set_cons_succ, i64_w, i32_w]
                                              rfl
                                            exact norm_ (by first | (simp only [putAll, Act.put, List.setIfInBounds_toArray, List.set_cons_zero, List.set_cons_succ]; done) | (simp only [putAll, Act.put, List.setIfInBounds_toArray, List.set_cons_zero, List.set_cons_succ]; rfl)) (hJ9_11_40 _ _ ⟨gB_, HB_.out, HB.out⟩)
                                      · skip
                                        rintro AB_ wj ⟨gB_, HB_, HB⟩
                                        have HB_ := Lh HB_
                                        have HB := Lh HB
                                        have hHeld : wj.cell? ⟨w.heap.size, 0, none⟩ = some (.int .i64 ax) ∧ wj.cell? ⟨w.heap.size, 1, none⟩ = some (.int .i64 ay) ∧ wj.cell? ⟨w.heap.size, 2, none⟩ = some (.int .i64 az) ∧ wj.cell? ⟨w.heap.size + 1, 0, none⟩ = some (.int .i64 tx) ∧ wj.cell? ⟨w.heap.size + 1, 1, none⟩ = some (.int .i64 ty) ∧ wj.cell? ⟨w.heap.size + 1, 2, none⟩ = some (.int .i64 tz) := ⟨(HB.out.cell (p := ⟨w.heap.size, 0, none⟩) (xl)).trans x0, (HB.out.cell (p := ⟨w.heap.size, 1, none⟩) (xl)).trans x1, (HB.out.cell (p := ⟨w.heap.size, 2, none⟩) (xl)).trans x2, (HB.out.cell (p := ⟨w.heap.size + 1, 0, none⟩) (kl)).trans k0, (HB.out.cell (p := ⟨w.heap.size + 1, 1, none⟩) (kl)).trans k1, (HB.out.cell (p := ⟨w.heap.size + 1, 2, none⟩) (kl)).trans k2⟩
                                        refine norm_ (a' := ?_) ?_ ?_
                                        rotate_left
                                        · simp only [putAll, Act.put, List.setIfInBounds_toArray, List.set_cons_zero, List.set_cons_succ]
                                          rfl
                                        refine one_ (i := 12) (N := some 80) #[true, true, true, true, true, true, true, true, true, true, true, true, true, true, true, true, true, true, true, true, true, true, false, true, false, false, true, true, true, true, true, true, true, true, true, false, true, false, false, false, true, false] rfl rfl (by kernel_rfl) (by decide) (fun K hK => ?_)
                                        refine gs_ Try.func99 #[.pointer (some ⟨wq.heap.size, 0, none⟩), .int .i64 ax, .int .i64 Qx] ?_
                                        with_reducible refine (A1.out _).mono ?_
                                        rintro en wz ⟨rfl, hb⟩
                                        have HB_ := Lh ((hb.block _ (blk_lt HB_.out)).trans HB_.out)
                                        have HB := Lh (HB.out.trans (hb.mono HB.out.size))
                                        clear hb
                                        refine ⟨_, rfl, ?_⟩
                                        refine hK.out _ _ ⟨(HB.out.cell (p := ⟨w.heap.size, 0, none⟩) (xl)).trans x0, (HB.out.cell (p := ⟨w.heap.size, 1, none⟩) (xl)).trans x1, (HB.out.cell (p := ⟨w.heap.size, 2, none⟩) (xl)).trans x2, (HB.out.cell (p := ⟨w.heap.size + 1, 0, none⟩) (kl)).trans k0, (HB.out.cell (p := ⟨w.heap.size + 1, 1, none⟩) (kl)).trans k1, (HB.out.cell (p := ⟨w.heap.size + 1, 2, none⟩) (kl)).trans k2⟩ (fun hHeld => ?_)
                                        clear hK K
                                        refine norm_ (a' := ?_) ?_ ?_
                                        rotate_left
                                        · show Act.put _ (some 80) _ = _
                                          simp only [Act.put, List.setIfInBounds_toArray, List.set_cons_zero, List.set_cons_succ, i64_w, i32_w]
                                          rfl
                                        exact norm_ (by first | (simp only [putAll, Act.put, List.setIfInBounds_toArray, List.set_cons_zero, List.set_cons_succ]; done) | (simp only [putAll, Act.put, List.setIfInBounds_toArray, List.set_cons_zero, List.set_cons_succ]; rfl)) (hJ9_11_12_40 _ _ ⟨gB_, HB_.out, HB.out⟩)
                                    · skip
                                      rintro AB_ wj HB
                                      have HB := Lh HB
                                      have hHeld : wj.cell? ⟨w.heap.size, 0, none⟩ = some (.int .i64 ax) ∧ wj.cell? ⟨w.heap.size, 1, none⟩ = some (.int .i64 ay) ∧ wj.cell? ⟨w.heap.size, 2, none⟩ = some (.int .i64 az) ∧ wj.cell? ⟨w.heap.size + 1, 0, none⟩ = some (.int .i64 tx) ∧ wj.cell? ⟨w.heap.size + 1, 1, none⟩ = some (.int .i64 ty) ∧ wj.cell? ⟨w.heap.size + 1, 2, none⟩ = some (.int .i64 tz) := ⟨(HB.out.cell (p := ⟨w.heap.size, 0, none⟩) (xl)).trans x0, (HB.out.cell (p := ⟨w.heap.size, 1, none⟩) (xl)).trans x1, (HB.out.cell (p := ⟨w.heap.size, 2, none⟩) (xl)).trans x2, (HB.out.cell (p := ⟨w.heap.size + 1, 0, none⟩) (kl)).trans k0, (HB.out.cell (p := ⟨w.heap.size + 1, 1, none⟩) (kl)).trans k1, (HB.out.cell (p := ⟨w.heap.size + 1, 2, none⟩) (kl)).trans k2⟩
                                      refine norm_ (a' := ?_) ?_ ?_
                                      rotate_left
                                      · simp only [putAll, Act.put, List.setIfInBounds_toArray, List.set_cons_zero, List.set_cons_succ]
                                        rfl
                                      refine two_ (i := 22) (j := 40) (Ni := some 90) (Nj := some 21) #[true, true, true, true, true, true, true, true, true, true, true, true, true, true, true, true, true, true, true, true, true, true, true, true, false, false, true, true, true, true, true, true, true, true, true, false, true, false, false, false, false, false] #[true, true, true, true, true, true, true, true, true, true, true, true, true, true, true, true, true, true, true, true, true, true, false, true, false, false, true, true, true, true, true, true, true, true, true, false, true, false, false, false, true, false] rfl rfl rfl rfl (by kernel_rfl) (by decide) (by decide) (fun K hK => ?_) (fun K hK => ?_)
                                      · skip
                                        refine gs_ Try.func101 #[.pointer (some ⟨wq.heap.size, 0, none⟩), .int .i64 ty, .int .i64 ay] ?_
                                        with_reducible refine (S2.out _).mono ?_
                                        rintro en wz ⟨rfl, hb⟩
                                        have HB := Lh (HB.out.trans (hb.mono HB.out.size))
                                        clear hb
                                        refine ⟨_, rfl, ?_⟩
                                        refine hK.out _ _ ⟨(HB.out.cell (p := ⟨w.heap.size, 0, none⟩) (xl)).trans x0, (HB.out.cell (p := ⟨w.heap.size, 1, none⟩) (xl)).trans x1, (HB.out.cell (p := ⟨w.heap.size, 2, none⟩) (xl)).trans x2, (HB.out.cell (p := ⟨w.heap.size + 1, 0, none⟩) (kl)).trans k0, (HB.out.cell (p := ⟨w.heap.size + 1, 1, none⟩) (kl)).trans k1, (HB.out.cell (p := ⟨w.heap.size + 1, 2, none⟩) (kl)).trans k2⟩ (fun hHeld => ?_)
                                        clear hK K
                                        refine norm_ (a' := ?_) ?_ ?_
                                        rotate_left
                                        · show Act.put _ (some 90) _ = _
                                          simp only [Act.put, List.setIfInBounds_toArray, List.set_cons_zero, List.set_cons_succ, i64_w, i32_w]
                                          rfl
                                        exact norm_ (by first | (simp only [putAll, Act.put, List.setIfInBounds_toArray, List.set_cons_zero, List.set_cons_succ]; done) | (simp only [putAll, Act.put, List.setIfInBounds_toArray, List.set_cons_zero, List.set_cons_succ]; rfl)) (hJ9_11_12_22 0 _ HB.out)
                                      · skip
                                        refine value_ (w1 := ?_) (v := ?_) (by rfl) rfl ?_ ?_
                                        rotate_left 2
                                        · go_simp
                                          constructor
                                          · rfl
                                          · rfl
                                        have HB_ := Lh (ha_new HB.out (.cells #[.int .i64 0, .int .i64 0, .int .i64 0] 27))
                                        have gB_ := HB.out.size
                                        have HB := Lh (HB.out.alloc (Nat.le_trans (Nat.le_refl _) HB.out.size) (.cells #[.int .i64 0, .int .i64 0, .int .i64 0] 27))
                                        refine hK.out _ _ ⟨(HB.out.cell (p := ⟨w.heap.size, 0, none⟩) (xl)).trans x0, (HB.out.cell (p := ⟨w.heap.size, 1, none⟩) (xl)).trans x1, (HB.out.cell (p := ⟨w.heap.size, 2, none⟩) (xl)).trans x2, (HB.out.cell (p := ⟨w.heap.size + 1, 0, none⟩) (kl)).trans k0, (HB.out.cell (p := ⟨w.heap.size + 1, 1, none⟩) (kl)).trans k1, (HB.out.cell (p := ⟨w.heap.size + 1, 2, none⟩) (kl)).trans k2⟩ (fun hHeld => ?_)
                                        clear hK K
                                        refine norm_ (a' := ?_) ?_ ?_
                                        rotate_left
                                        · show Act.put _ (some 21) _ = _
                                          simp only [Act.put, List.setIfInBounds_toArray, List.set_cons_zero, List.set_cons_succ, i64_w, i32_w]
                                          rfl
                                        exact norm_ (by first | (simp only [putAll, Act.put, List.setIfInBounds_toArray, List.set_cons_zero, List.set_cons_succ]; done) | (simp only [putAll, Act.put, List.setIfInBounds_toArray, List.set_cons_zero, List.set_cons_succ]; rfl)) (hJ9_11_12_40 _ _ ⟨gB_, HB_.out, HB.out⟩)
                                  · skip
                                    rintro AB_ wj ⟨gB_, HB_, HB⟩
                                    have HB_ := Lh HB_
                                    have HB := Lh HB
                                    have hHeld : wj.cell? ⟨w.heap.size, 0, none⟩ = some (.int .i64 ax) ∧ wj.cell? ⟨w.heap.size, 1, none⟩ = some (.int .i64 ay) ∧ wj.cell? ⟨w.heap.size, 2, none⟩ = some (.int .i64 az) ∧ wj.cell? ⟨w.heap.size + 1, 0, none⟩ = some (.int .i64 tx) ∧ wj.cell? ⟨w.heap.size + 1, 1, none⟩ = some (.int .i64 ty) ∧ wj.cell? ⟨w.heap.size + 1, 2, none⟩ = some (.int .i64 tz) := ⟨(HB.out.cell (p := ⟨w.heap.size, 0, none⟩) (xl)).trans x0, (HB.out.cell (p := ⟨w.heap.size, 1, none⟩) (xl)).trans x1, (HB.out.cell (p := ⟨w.heap.size, 2, none⟩) (xl)).trans x2, (HB.out.cell (p := ⟨w.heap.size + 1, 0, none⟩) (kl)).trans k0, (HB.out.cell (p := ⟨w.heap.size + 1, 1, none⟩) (kl)).trans k1, (HB.out.cell (p := ⟨w.heap.size + 1, 2, none⟩) (kl)).trans k2⟩
                                    refine norm_ (a' := ?_) ?_ ?_
                                    rotate_left
                                    · simp only [putAll, Act.put, List.setIfInBounds_toArray, List.set_cons_zero, List.set_cons_succ]
                                      rfl
                                    refine one_ (i := 22) (N := some 90) #[true, true, true, true, true, true, true, true, true, true, true, true, true, true, true, true, true, true, true, true, true, true, true, true, false, false, true, true, true, true, true, true, true, true, true, false, true, false, false, false, true, false] rfl rfl (by kernel_rfl) (by decide) (fun K hK => ?_)
                                    refine gs_ Try.func101 #[.pointer (some ⟨wq.heap.size, 0, none⟩), .int .i64 ty, .int .i64 ay] ?_
                                    with_reducible refine (S2.out _).mono ?_
                                    rintro en wz ⟨rfl, hb⟩
                                    have HB_ := Lh ((hb.block _ (blk_lt HB_.out)).trans HB_.out)
                                    have HB := Lh (HB.out.trans (hb.mono HB.out.size))
                                    clear hb
                                    refine ⟨_, rfl, ?_⟩
                                    refine hK.out _ _ ⟨(HB.out.cell (p := ⟨w.heap.size, 0, none⟩) (xl)).trans x0, (HB.out.cell (p := ⟨w.heap.size, 1, none⟩) (xl)).trans x1, (HB.out.cell (p := ⟨w.heap.size, 2, none⟩) (xl)).trans x2, (HB.out.cell (p := ⟨w.heap.size + 1, 0, none⟩) (kl)).trans k0, (HB.out.cell (p := ⟨w.heap.size + 1, 1, none⟩) (kl)).trans k1, (HB.out.cell (p := ⟨w.heap.size + 1, 2, none⟩) (kl)).trans k2⟩ (fun hHeld => ?_)
                                    clear hK K
                                    refine norm_ (a' := ?_) ?_ ?_
                                    rotate_left
                                    · show Act.put _ (some 90) _ = _
                                      simp only [Act.put, List.setIfInBounds_toArray, List.set_cons_zero, List.set_cons_succ, i64_w, i32_w]
                                      rfl
                                    exact norm_ (by first | (simp only [putAll, Act.put, List.setIfInBounds_toArray, List.set_cons_zero, List.set_cons_succ]; done) | (simp only [putAll, Act.put, List.setIfInBounds_toArray, List.set_cons_zero, List.set_cons_succ]; rfl)) (hJ9_11_12_22_40 _ _ ⟨gB_, HB_.out, HB.out⟩)
                                · skip
                                  rintro AB_ wj HB
                                  have HB := Lh HB
                                  have hHeld : wj.cell? ⟨w.heap.size, 0, none⟩ = some (.int .i64 ax) ∧ wj.cell? ⟨w.heap.size, 1, none⟩ = some (.int .i64 ay) ∧ wj.cell? ⟨w.heap.size, 2, none⟩ = some (.int .i64 az) ∧ wj.cell? ⟨w.heap.size + 1, 0, none⟩ = some (.int .i64 tx) ∧ wj.cell? ⟨w.heap.size + 1, 1, none⟩ = some (.int .i64 ty) ∧ wj.cell? ⟨w.heap.size + 1, 2, none⟩ = some (.int .i64 tz) := ⟨(HB.out.cell (p := ⟨w.heap.size, 0, none⟩) (xl)).trans x0, (HB.out.cell (p := ⟨w.heap.size, 1, none⟩) (xl)).trans x1, (HB.out.cell (p := ⟨w.heap.size, 2, none⟩) (xl)).trans x2, (HB.out.cell (p := ⟨w.heap.size + 1, 0, none⟩) (kl)).trans k0, (HB.out.cell (p := ⟨w.heap.size + 1, 1, none⟩) (kl)).trans k1, (HB.out.cell (p := ⟨w.heap.size + 1, 2, none⟩) (kl)).trans k2⟩
                                  refine norm_ (a' := ?_) ?_ ?_
                                  rotate_left
                                  · simp only [putAll, Act.put, List.setIfInBounds_toArray, List.set_cons_zero, List.set_cons_succ]
                                    rfl
                                  refine two_ (i := 24) (j := 40) (Ni := some 92) (Nj := some 21) #[true, true, true, true, true, true, true, true, true, true, true, true, true, true, true, true, true, true, true, true, true, true, true, true, true, false, true, true, true, true, true, true, true, true, true, false, true, false, false, false, false, false] #[true, true, true, true, true, true, true, true, true, true, true, true, true, true, true, true, true, true, true, true, true, true, true, true, false, false, true, true, true, true, true, true, true, true, true, false, true, false, false, false, true, false] rfl rfl rfl rfl (by kernel_rfl) (by decide) (by decide) (fun K hK => ?_) (fun K hK => ?_)
                                  · skip
                                    refine gs_ Try.func100 #[.pointer (some ⟨wq.heap.size, 0, none⟩), .int .i64 Dy, .int .i64 (LK : Int), .int .i64 16] ?_
                                    with_reducible refine (R2.out _).mono ?_
                                    rintro en wz ⟨rfl, hb⟩
                                    have HB := Lh (HB.out.trans (hb.mono HB.out.size))
                                    clear hb
                                    refine ⟨_, rfl, ?_⟩
                                    refine hK.out _ _ ⟨(HB.out.cell (p := ⟨w.heap.size, 0, none⟩) (xl)).trans x0, (HB.out.cell (p := ⟨w.heap.size, 1, none⟩) (xl)).trans x1, (HB.out.cell (p := ⟨w.heap.size, 2, none⟩) (xl)).trans x2, (HB.out.cell (p := ⟨w.heap.size + 1, 0, none⟩) (kl)).trans k0, (HB.out.cell (p := ⟨w.heap.size + 1, 1, none⟩) (kl)).trans k1, (HB.out.cell (p := ⟨w.heap.size + 1, 2, none⟩) (kl)).trans k2⟩ (fun hHeld => ?_)
                                    clear hK K
                                    refine norm_ (a' := ?_) ?_ ?_
                                    rotate_left
                                    · show Act.put _ (some 92) _ = _
                                      simp only [Act.put, List.setIfInBounds_toArray, List.set_cons_zero, List.set_cons_succ, i64_w, i32_w]
                                      rfl
                                    exact norm_ (by first | (simp only [putAll, Act.put, List.setIfInBounds_toArray, List.set_cons_zero, List.set_cons_succ]; done) | (simp only [putAll, Act.put, List.setIfInBounds_toArray, List.set_cons_zero, List.set_cons_succ]; rfl)) (hJ9_11_12_22_24 0 _ HB.out)
                                  · skip
                                    refine value_ (w1 := ?_) (v := ?_) (by rfl) rfl ?_ ?_
                                    rotate_left 2
                                    · go_simp
                                      constructor
                                      · rfl
                                      · rfl
                                    have HB_ := Lh (ha_new HB.out (.cells #[.int .i64 0, .int .i64 0, .int .i64 0] 27))
                                    have gB_ := HB.out.size
                                    have HB := Lh (HB.out.alloc (Nat.le_trans (Nat.le_refl _) HB.out.size) (.cells #[.int .i64 0, .int .i64 0, .int .i64 0] 27))
                                    refine hK.out _ _ ⟨(HB.out.cell (p := ⟨w.heap.size, 0, none⟩) (xl)).trans x0, (HB.out.cell (p := ⟨w.heap.size, 1, none⟩) (xl)).trans x1, (HB.out.cell (p := ⟨w.heap.size, 2, none⟩) (xl)).trans x2, (HB.out.cell (p := ⟨w.heap.size + 1, 0, none⟩) (kl)).trans k0, (HB.out.cell (p := ⟨w.heap.size + 1, 1, none⟩) (kl)).trans k1, (HB.out.cell (p := ⟨w.heap.size + 1, 2, none⟩) (kl)).trans k2⟩ (fun hHeld => ?_)
                                    clear hK K
                                    refine norm_ (a' := ?_) ?_ ?_
                                    rotate_left
                                    · show Act.put _ (some 21) _ = _
                                      simp only [Act.put, List.setIfInBounds_toArray, List.set_cons_zero, List.set_cons_succ, i64_w, i32_w]
                                      rfl
                                    exact norm_ (by first | (simp only [putAll, Act.put, List.setIfInBounds_toArray, List.set_cons_zero, List.set_cons_succ]; done) | (simp only [putAll, Act.put, List.setIfInBounds_toArray, List.set_cons_zero, List.set_cons_succ]; rfl)) (hJ9_11_12_22_40 _ _ ⟨gB_, HB_.out, HB.out⟩)
                              · skip
                                rintro AB_ wj ⟨gB_, HB_, HB⟩
                                have HB_ := Lh HB_
                                have HB := Lh HB
                                have hHeld : wj.cell? ⟨w.heap.size, 0, none⟩ = some (.int .i64 ax) ∧ wj.cell? ⟨w.heap.size, 1, none⟩ = some (.int .i64 ay) ∧ wj.cell? ⟨w.heap.size, 2, none⟩ = some (.int .i64 az) ∧ wj.cell? ⟨w.heap.size + 1, 0, none⟩ = some (.int .i64 tx) ∧ wj.cell? ⟨w.heap.size + 1, 1, none⟩ = some (.int .i64 ty) ∧ wj.cell? ⟨w.heap.size + 1, 2, none⟩ = some (.int .i64 tz) := ⟨(HB.out.cell (p := ⟨w.heap.size, 0, none⟩) (xl)).trans x0, (HB.out.cell (p := ⟨w.heap.size, 1, none⟩) (xl)).trans x1, (HB.out.cell (p := ⟨w.heap.size, 2, none⟩) (xl)).trans x2, (HB.out.cell (p := ⟨w.heap.size + 1, 0, none⟩) (kl)).trans k0, (HB.out.cell (p := ⟨w.heap.size + 1, 1, none⟩) (kl)).trans k1, (HB.out.cell (p := ⟨w.heap.size + 1, 2, none⟩) (kl)).trans k2⟩
                                refine norm_ (a' := ?_) ?_ ?_
                                rotate_left
                                · simp only [putAll, Act.put, List.setIfInBounds_toArray, List.set_cons_zero, List.set_cons_succ]
                                  rfl
                                refine one_ (i := 24) (N := some 92) #[true, true, true, true, true, true, true, true, true, true, true, true, true, true, true, true, true, true, true, true, true, true, true, true, true, false, true, true, true, true, true, true, true, true, true, false, true, false, false, false, true, false] rfl rfl (by kernel_rfl) (by decide) (fun K hK => ?_)
                                refine gs_ Try.func100 #[.pointer (some ⟨wq.heap.size, 0, none⟩), .int .i64 Dy, .int .i64 (LK : Int), .int .i64 16] ?_
                                with_reducible refine (R2.out _).mono ?_
                                rintro en wz ⟨rfl, hb⟩
                                have HB_ := Lh ((hb.block _ (blk_lt HB_.out)).trans HB_.out)
                                have HB := Lh (HB.out.trans (hb.mono HB.out.size))
                                clear hb
                                refine ⟨_, rfl, ?_⟩
                                refine hK.out _ _ ⟨(HB.out.cell (p := ⟨w.heap.size, 0, none⟩) (xl)).trans x0, (HB.out.cell (p := ⟨w.heap.size, 1, none⟩) (xl)).trans x1, (HB.out.cell (p := ⟨w.heap.size, 2, none⟩) (xl)).trans x2, (HB.out.cell (p := ⟨w.heap.size + 1, 0, none⟩) (kl)).trans k0, (HB.out.cell (p := ⟨w.heap.size + 1, 1, none⟩) (kl)).trans k1, (HB.out.cell (p := ⟨w.heap.size + 1, 2, none⟩) (kl)).trans k2⟩ (fun hHeld => ?_)
                                clear hK K
                                refine norm_ (a' := ?_) ?_ ?_
                                rotate_left
                                · show Act.put _ (some 92) _ = _
                                  simp only [Act.put, List.setIfInBounds_toArray, List.set_cons_zero, List.set_cons_succ, i64_w, i32_w]
                                  rfl
                                exact norm_ (by first | (simp only [putAll, Act.put, List.setIfInBounds_toArray, List.set_cons_zero, List.set_cons_succ]; done) | (simp only [putAll, Act.put, List.setIfInBounds_toArray, List.set_cons_zero, List.set_cons_succ]; rfl)) (hJ9_11_12_22_24_40 _ _ ⟨gB_, HB_.out, HB.out⟩)
                            · skip
                              rintro AB_ wj HB
                              have HB := Lh HB
                              have hHeld : wj.cell? ⟨w.heap.size, 0, none⟩ = some (.int .i64 ax) ∧ wj.cell? ⟨w.heap.size, 1, none⟩ = some (.int .i64 ay) ∧ wj.cell? ⟨w.heap.size, 2, none⟩ = some (.int .i64 az) ∧ wj.cell? ⟨w.heap.size + 1, 0, none⟩ = some (.int .i64 tx) ∧ wj.cell? ⟨w.heap.size + 1, 1, none⟩ = some (.int .i64 ty) ∧ wj.cell? ⟨w.heap.size + 1, 2, none⟩ = some (.int .i64 tz) := ⟨(HB.out.cell (p := ⟨w.heap.size, 0, none⟩) (xl)).trans x0, (HB.out.cell (p := ⟨w.heap.size, 1, none⟩) (xl)).trans x1, (HB.out.cell (p := ⟨w.heap.size, 2, none⟩) (xl)).trans x2, (HB.out.cell (p := ⟨w.heap.size + 1, 0, none⟩) (kl)).trans k0, (HB.out.cell (p := ⟨w.heap.size + 1, 1, none⟩) (kl)).trans k1, (HB.out.cell (p := ⟨w.heap.size + 1, 2, none⟩) (kl)).trans k2⟩
                              refine norm_ (a' := ?_) ?_ ?_
                              rotate_left
                              · simp only [putAll, Act.put, List.setIfInBounds_toArray, List.set_cons_zero, List.set_cons_succ]
                                rfl
                              refine two_ (i := 25) (j := 40) (Ni := some 93) (Nj := some 21) #[true, true, true, true, true, true, true, true, true, true, true, true, true, true, true, true, true, true, true, true, true, true, true, true, true, true, true, true, true, true, true, true, true, true, true, false, true, false, false, false, false, false] #[true, true, true, true, true, true, true, true, true, true, true, true, true, true, true, true, true, true, true, true, true, true, true, true, true, false, true, true, true, true, true, true, true, true, true, false, true, false, false, false, true, false] rfl rfl rfl rfl (by kernel_rfl) (by decide) (by decide) (fun K hK => ?_) (fun K hK => ?_)
                              · skip
                                refine gs_ Try.func99 #[.pointer (some ⟨wq.heap.size, 0, none⟩), .int .i64 ay, .int .i64 Qy] ?_
                                with_reducible refine (A2.out _).mono ?_
                                rintro en wz ⟨rfl, hb⟩
                                have HB := Lh (HB.out.trans (hb.mono HB.out.size))
                                clear hb
                                refine ⟨_, rfl, ?_⟩
                                refine hK.out _ _ ⟨(HB.out.cell (p := ⟨w.heap.size, 0, none⟩) (xl)).trans x0, (HB.out.cell (p := ⟨w.heap.size, 1, none⟩) (xl)).trans x1, (HB.out.cell (p := ⟨w.heap.size, 2, none⟩) (xl)).trans x2, (HB.out.cell (p := ⟨w.heap.size + 1, 0, none⟩) (kl)).trans k0, (HB.out.cell (p := ⟨w.heap.size + 1, 1, none⟩) (kl)).trans k1, (HB.out.cell (p := ⟨w.heap.size + 1, 2, none⟩) (kl)).trans k2⟩ (fun hHeld => ?_)
                                clear hK K
                                refine norm_ (a' := ?_) ?_ ?_
                                rotate_left
                                · show Act.put _ (some 93) _ = _
                                  simp only [Act.put, List.setIfInBounds_toArray, List.set_cons_zero, List.set_cons_succ, i64_w, i32_w]
                                  rfl
                                exact norm_ (by first | (simp only [putAll, Act.put, List.setIfInBounds_toArray, List.set_cons_zero, List.set_cons_succ]; done) | (simp only [putAll, Act.put, List.setIfInBounds_toArray, List.set_cons_zero, List.set_cons_succ]; rfl)) (hJ9_11_12_22_24_25 0 _ HB.out)
                              · skip
                                refine value_ (w1 := ?_) (v := ?_) (by rfl) rfl ?_ ?_
                                rotate_left 2
                                · go_simp
                                  constructor
                                  · rfl
                                  · rfl
                                have HB_ := Lh (ha_new HB.out (.cells #[.int .i64 0, .int .i64 0, .int .i64 0] 27))
                                have gB_ := HB.out.size
                                have HB := Lh (HB.out.alloc (Nat.le_trans (Nat.le_refl _) HB.out.size) (.cells #[.int .i64 0, .int .i64 0, .int .i64 0] 27))
                                refine hK.out _ _ ⟨(HB.out.cell (p := ⟨w.heap.size, 0, none⟩) (xl)).trans x0, (HB.out.cell (p := ⟨w.heap.size, 1, none⟩) (xl)).trans x1, (HB.out.cell (p := ⟨w.heap.size, 2, none⟩) (xl)).trans x2, (HB.out.cell (p := ⟨w.heap.size + 1, 0, none⟩) (kl)).trans k0, (HB.out.cell (p := ⟨w.heap.size + 1, 1, none⟩) (kl)).trans k1, (HB.out.cell (p := ⟨w.heap.size + 1, 2, none⟩) (kl)).trans k2⟩ (fun hHeld => ?_)
                                clear hK K
                                refine norm_ (a' := ?_) ?_ ?_
                                rotate_left
                                · show Act.put _ (some 21) _ = _
                                  simp only [Act.put, List.setIfInBounds_toArray, List.set_cons_zero, List.set_cons_succ, i64_w, i32_w]
                                  rfl
                                exact norm_ (by first | (simp only [putAll, Act.put, List.setIfInBounds_toArray, List.set_cons_zero, List.set_cons_succ]; done) | (simp only [putAll, Act.put, List.setIfInBounds_toArray, List.set_cons_zero, List.set_cons_succ]; rfl)) (hJ9_11_12_22_24_40 _ _ ⟨gB_, HB_.out, HB.out⟩)
                          · skip
                            rintro AB_ wj ⟨gB_, HB_, HB⟩
                            have HB_ := Lh HB_
                            have HB := Lh HB
                            have hHeld : wj.cell? ⟨w.heap.size, 0, none⟩ = some (.int .i64 ax) ∧ wj.cell? ⟨w.heap.size, 1, none⟩ = some (.int .i64 ay) ∧ wj.cell? ⟨w.heap.size, 2, none⟩ = some (.int .i64 az) ∧ wj.cell? ⟨w.heap.size + 1, 0, none⟩ = some (.int .i64 tx) ∧ wj.cell? ⟨w.heap.size + 1, 1, none⟩ = some (.int .i64 ty) ∧ wj.cell? ⟨w.heap.size + 1, 2, none⟩ = some (.int .i64 tz) := ⟨(HB.out.cell (p := ⟨w.heap.size, 0, none⟩) (xl)).trans x0, (HB.out.cell (p := ⟨w.heap.size, 1, none⟩) (xl)).trans x1, (HB.out.cell (p := ⟨w.heap.size, 2, none⟩) (xl)).trans x2, (HB.out.cell (p := ⟨w.heap.size + 1, 0, none⟩) (kl)).trans k0, (HB.out.cell (p := ⟨w.heap.size + 1, 1, none⟩) (kl)).trans k1, (HB.out.cell (p := ⟨w.heap.size + 1, 2, none⟩) (kl)).trans k2⟩
                            refine norm_ (a' := ?_) ?_ ?_
                            rotate_left
                            · simp only [putAll, Act.put, List.setIfInBounds_toArray, List.set_cons_zero, List.set_cons_succ]
                              rfl
                            refine one_ (i := 25) (N := some 93) #[true, true, true, true, true, true, true, true, true, true, true, true, true, true, true, true, true, true, true, true, true, true, true, true, true, true, true, true, true, true, true, true, true, true, true, false, true, false, false, false, true, false] rfl rfl (by kernel_rfl) (by decide) (fun K hK => ?_)
                            refine gs_ Try.func99 #[.pointer (some ⟨wq.heap.size, 0, none⟩), .int .i64 ay, .int .i64 Qy] ?_
                            with_reducible refine (A2.out _).mono ?_
                            rintro en wz ⟨rfl, hb⟩
                            have HB_ := Lh ((hb.block _ (blk_lt HB_.out)).trans HB_.out)
                            have HB := Lh (HB.out.trans (hb.mono HB.out.size))
                            clear hb
                            refine ⟨_, rfl, ?_⟩
                            refine hK.out _ _ ⟨(HB.out.cell (p := ⟨w.heap.size, 0, none⟩) (xl)).trans x0, (HB.out.cell (p := ⟨w.heap.size, 1, none⟩) (xl)).trans x1, (HB.out.cell (p := ⟨w.heap.size, 2, none⟩) (xl)).trans x2, (HB.out.cell (p := ⟨w.heap.size + 1, 0, none⟩) (kl)).trans k0, (HB.out.cell (p := ⟨w.heap.size + 1, 1, none⟩) (kl)).trans k1, (HB.out.cell (p := ⟨w.heap.size + 1, 2, none⟩) (kl)).trans k2⟩ (fun hHeld => ?_)
                            clear hK K
                            refine norm_ (a' := ?_) ?_ ?_
                            rotate_left
                            · show Act.put _ (some 93) _ = _
                              simp only [Act.put, List.setIfInBounds_toArray, List.set_cons_zero, List.set_cons_succ, i64_w, i32_w]
                              rfl
                            exact norm_ (by first | (simp only [putAll, Act.put, List.setIfInBounds_toArray, List.set_cons_zero, List.set_cons_succ]; done) | (simp only [putAll, Act.put, List.setIfInBounds_toArray, List.set_cons_zero, List.set_cons_succ]; rfl)) (hJ9_11_12_22_24_25_40 _ _ ⟨gB_, HB_.out, HB.out⟩)
                        · skip
                          rintro AB_ wj HB
                          have HB := Lh HB
                          have hHeld : wj.cell? ⟨w.heap.size, 0, none⟩ = some (.int .i64 ax) ∧ wj.cell? ⟨w.heap.size, 1, none⟩ = some (.int .i64 ay) ∧ wj.cell? ⟨w.heap.size, 2, none⟩ = some (.int .i64 az) ∧ wj.cell? ⟨w.heap.size + 1, 0, none⟩ = some (.int .i64 tx) ∧ wj.cell? ⟨w.heap.size + 1, 1, none⟩ = some (.int .i64 ty) ∧ wj.cell? ⟨w.heap.size + 1, 2, none⟩ = some (.int .i64 tz) := ⟨(HB.out.cell (p := ⟨w.heap.size, 0, none⟩) (xl)).trans x0, (HB.out.cell (p := ⟨w.heap.size, 1, none⟩) (xl)).trans x1, (HB.out.cell (p := ⟨w.heap.size, 2, none⟩) (xl)).trans x2, (HB.out.cell (p := ⟨w.heap.size + 1, 0, none⟩) (kl)).trans k0, (HB.out.cell (p := ⟨w.heap.size + 1, 1, none⟩) (kl)).trans k1, (HB.out.cell (p := ⟨w.heap.size + 1, 2, none⟩) (kl)).trans k2⟩
                          refine norm_ (a' := ?_) ?_ ?_
                          rotate_left
                          · simp only [putAll, Act.put, List.setIfInBounds_toArray, List.set_cons_zero, List.set_cons_succ]
                            rfl
                          refine two_ (i := 35) (j := 40) (Ni := some 103) (Nj := some 21) #[true, true, true, true, true, true, true, true, true, true, true, true, true, true, true, true, true, true, true, true, true, true, true, true, true, true, true, true, true, true, true, true, true, true, true, true, true, false, false, false, false, false] #[true, true, true, true, true, true, true, true, true, true, true, true, true, true, true, true, true, true, true, true, true, true, true, true, true, true, true, true, true, true, true, true, true, true, true, false, true, false, false, false, true, false] rfl rfl rfl rfl (by kernel_rfl) (by decide) (by decide) (fun K hK => ?_) (fun K hK => ?_)
                          · skip
                            refine gs_ Try.func101 #[.pointer (some ⟨wq.heap.size, 0, none⟩), .int .i64 tz, .int .i64 az] ?_
                            with_reducible refine (S3.out _).mono ?_
                            rintro en wz ⟨rfl, hb⟩
                            have HB := Lh (HB.out.trans (hb.mono HB.out.size))
                            clear hb
                            refine ⟨_, rfl, ?_⟩
                            refine hK.out _ _ ⟨(HB.out.cell (p := ⟨w.heap.size, 0, none⟩) (xl)).trans x0, (HB.out.cell (p := ⟨w.heap.size, 1, none⟩) (xl)).trans x1, (HB.out.cell (p := ⟨w.heap.size, 2, none⟩) (xl)).trans x2, (HB.out.cell (p := ⟨w.heap.size + 1, 0, none⟩) (kl)).trans k0, (HB.out.cell (p := ⟨w.heap.size + 1, 1, none⟩) (kl)).trans k1, (HB.out.cell (p := ⟨w.heap.size + 1, 2, none⟩) (kl)).trans k2⟩ (fun hHeld => ?_)
                            clear hK K
                            refine norm_ (a' := ?_) ?_ ?_
                            rotate_left
                            · show Act.put _ (some 103) _ = _
                              simp only [Act.put, List.setIfInBounds_toArray, List.set_cons_zero, List.set_cons_succ, i64_w, i32_w]
                              rfl
                            exact norm_ (by first | (simp only [putAll, Act.put, List.setIfInBounds_toArray, List.set_cons_zero, List.set_cons_succ]; done) | (simp only [putAll, Act.put, List.setIfInBounds_toArray, List.set_cons_zero, List.set_cons_succ]; rfl)) (hJ9_11_12_22_24_25_35 0 _ HB.out)
                          · skip
                            refine value_ (w1 := ?_) (v := ?_) (by rfl) rfl ?_ ?_
                            rotate_left 2
                            · go_simp
                              constructor
                              · rfl
                              · rfl
                            have HB_ := Lh (ha_new HB.out (.cells #[.int .i64 0, .int .i64 0, .int .i64 0] 27))
                            have gB_ := HB.out.size
                            have HB := Lh (HB.out.alloc (Nat.le_trans (Nat.le_refl _) HB.out.size) (.cells #[.int .i64 0, .int .i64 0, .int .i64 0] 27))
                            refine hK.out _ _ ⟨(HB.out.cell (p := ⟨w.heap.size, 0, none⟩) (xl)).trans x0, (HB.out.cell (p := ⟨w.heap.size, 1, none⟩) (xl)).trans x1, (HB.out.cell (p := ⟨w.heap.size, 2, none⟩) (xl)).trans x2, (HB.out.cell (p := ⟨w.heap.size + 1, 0, none⟩) (kl)).trans k0, (HB.out.cell (p := ⟨w.heap.size + 1, 1, none⟩) (kl)).trans k1, (HB.out.cell (p := ⟨w.heap.size + 1, 2, none⟩) (kl)).trans k2⟩ (fun hHeld => ?_)
                            clear hK K
                            refine norm_ (a' := ?_) ?_ ?_
                            rotate_left
                            · show Act.put _ (some 21) _ = _
                              simp only [Act.put, List.setIfInBounds_toArray, List.set_cons_zero, List.set_cons_succ, i64_w, i32_w]
                              rfl
                            exact norm_ (by first | (simp only [putAll, Act.put, List.setIfInBounds_toArray, List.set_cons_zero, List.set_cons_succ]; done) | (simp only [putAll, Act.put, List.setIfInBounds_toArray, List.set_cons_zero, List.set_cons_succ]; rfl)) (hJ9_11_12_22_24_25_40 _ _ ⟨gB_, HB_.out, HB.out⟩)
                      · skip
                        rintro AB_ wj ⟨gB_, HB_, HB⟩
                        have HB_ := Lh HB_
                        have HB := Lh HB
                        have hHeld : wj.cell? ⟨w.heap.size, 0, none⟩ = some (.int .i64 ax) ∧ wj.cell? ⟨w.heap.size, 1, none⟩ = some (.int .i64 ay) ∧ wj.cell? ⟨w.heap.size, 2, none⟩ = some (.int .i64 az) ∧ wj.cell? ⟨w.heap.size + 1, 0, none⟩ = some (.int .i64 tx) ∧ wj.cell? ⟨w.heap.size + 1, 1, none⟩ = some (.int .i64 ty) ∧ wj.cell? ⟨w.heap.size + 1, 2, none⟩ = some (.int .i64 tz) := ⟨(HB.out.cell (p := ⟨w.heap.size, 0, none⟩) (xl)).trans x0, (HB.out.cell (p := ⟨w.heap.size, 1, none⟩) (xl)).trans x1, (HB.out.cell (p := ⟨w.heap.size, 2, none⟩) (xl)).trans x2, (HB.out.cell (p := ⟨w.heap.size + 1, 0, none⟩) (kl)).trans k0, (HB.out.cell (p := ⟨w.heap.size + 1, 1, none⟩) (kl)).trans k1, (HB.out.cell (p := ⟨w.heap.size + 1, 2, none⟩) (kl)).trans k2⟩
                        refine norm_ (a' := ?_) ?_ ?_
                        rotate_left
                        · simp only [putAll, Act.put, List.setIfInBounds_toArray, List.set_cons_zero, List.set_cons_succ]
                          rfl
                        refine one_ (i := 35) (N := some 103) #[true, true, true, true, true, true, true, true, true, true, true, true, true, true, true, true, true, true, true, true, true, true, true, true, true, true, true, true, true, true, true, true, true, true, true, true, true, false, false, false, true, false] rfl rfl (by kernel_rfl) (by decide) (fun K hK => ?_)
                        refine gs_ Try.func101 #[.pointer (some ⟨wq.heap.size, 0, none⟩), .int .i64 tz, .int .i64 az] ?_
                        with_reducible refine (S3.out _).mono ?_
                        rintro en wz ⟨rfl, hb⟩
                        have HB_ := Lh ((hb.block _ (blk_lt HB_.out)).trans HB_.out)
                        have HB := Lh (HB.out.trans (hb.mono HB.out.size))
                        clear hb
                        refine ⟨_, rfl, ?_⟩
                        refine hK.out _ _ ⟨(HB.out.cell (p := ⟨w.heap.size, 0, none⟩) (xl)).trans x0, (HB.out.cell (p := ⟨w.heap.size, 1, none⟩) (xl)).trans x1, (HB.out.cell (p := ⟨w.heap.size, 2, none⟩) (xl)).trans x2, (HB.out.cell (p := ⟨w.heap.size + 1, 0, none⟩) (kl)).trans k0, (HB.out.cell (p := ⟨w.heap.size + 1, 1, none⟩) (kl)).trans k1, (HB.out.cell (p := ⟨w.heap.size + 1, 2, none⟩) (kl)).trans k2⟩ (fun hHeld => ?_)
                        clear hK K
                        refine norm_ (a' := ?_) ?_ ?_
                        rotate_left
                        · show Act.put _ (some 103) _ = _
                          simp only [Act.put, List.setIfInBounds_toArray, List.set_cons_zero, List.set_cons_succ, i64_w, i32_w]
                          rfl
                        exact norm_ (by first | (simp only [putAll, Act.put, List.setIfInBounds_toArray, List.set_cons_zero, List.set_cons_succ]; done) | (simp only [putAll, Act.put, List.setIfInBounds_toArray, List.set_cons_zero, List.set_cons_succ]; rfl)) (hJ9_11_12_22_24_25_35_40 _ _ ⟨gB_, HB_.out, HB.out⟩)
                    · skip
                      rintro AB_ wj HB
                      have HB := Lh HB
                      have hHeld : wj.cell? ⟨w.heap.size, 0, none⟩ = some (.int .i64 ax) ∧ wj.cell? ⟨w.heap.size, 1, none⟩ = some (.int .i64 ay) ∧ wj.cell? ⟨w.heap.size, 2, none⟩ = some (.int .i64 az) ∧ wj.cell? ⟨w.heap.size + 1, 0, none⟩ = some (.int .i64 tx) ∧ wj.cell? ⟨w.heap.size + 1, 1, none⟩ = some (.int .i64 ty) ∧ wj.cell? ⟨w.heap.size + 1, 2, none⟩ = some (.int .i64 tz) := ⟨(HB.out.cell (p := ⟨w.heap.size, 0, none⟩) (xl)).trans x0, (HB.out.cell (p := ⟨w.heap.size, 1, none⟩) (xl)).trans x1, (HB.out.cell (p := ⟨w.heap.size, 2, none⟩) (xl)).trans x2, (HB.out.cell (p := ⟨w.heap.size + 1, 0, none⟩) (kl)).trans k0, (HB.out.cell (p := ⟨w.heap.size + 1, 1, none⟩) (kl)).trans k1, (HB.out.cell (p := ⟨w.heap.size + 1, 2, none⟩) (kl)).trans k2⟩
                      refine norm_ (a' := ?_) ?_ ?_
                      rotate_left
                      · simp only [putAll, Act.put, List.setIfInBounds_toArray, List.set_cons_zero, List.set_cons_succ]
                        rfl
                      refine two_ (i := 37) (j := 40) (Ni := some 105) (Nj := some 21) #[true, true, true, true, true, true, true, true, true, true, true, true, true, true, true, true, true, true, true, true, true, true, true, true, true, true, true, true, true, true, true, true, true, true, true, true, true, true, false, false, false, false] #[true, true, true, true, true, true, true, true, true, true, true, true, true, true, true, true, true, true, true, true, true, true, true, true, true, true, true, true, true, true, true, true, true, true, true, true, true, false, false, false, true, false] rfl rfl rfl rfl (by kernel_rfl) (by decide) (by decide) (fun K hK => ?_) (fun K hK => ?_)
                      · skip
                        refine gs_ Try.func100 #[.pointer (some ⟨wq.heap.size, 0, none⟩), .int .i64 Dz, .int .i64 (LK : Int), .int .i64 16] ?_
                        with_reducible refine (R3.out _).mono ?_
                        rintro en wz ⟨rfl, hb⟩
                        have HB := Lh (HB.out.trans (hb.mono HB.out.size))
                        clear hb
                        refine ⟨_, rfl, ?_⟩
                        refine hK.out _ _ ⟨(HB.out.cell (p := ⟨w.heap.size, 0, none⟩) (xl)).trans x0, (HB.out.cell (p := ⟨w.heap.size, 1, none⟩) (xl)).trans x1, (HB.out.cell (p := ⟨w.heap.size, 2, none⟩) (xl)).trans x2, (HB.out.cell (p := ⟨w.heap.size + 1, 0, none⟩) (kl)).trans k0, (HB.out.cell (p := ⟨w.heap.size + 1, 1, none⟩) (kl)).trans k1, (HB.out.cell (p := ⟨w.heap.size + 1, 2, none⟩) (kl)).trans k2⟩ (fun hHeld => ?_)
                        clear hK K
                        refine norm_ (a' := ?_) ?_ ?_
                        rotate_left
                        · show Act.put _ (some 105) _ = _
                          simp only [Act.put, List.setIfInBounds_toArray, List.set_cons_zero, List.set_cons_succ, i64_w, i32_w]
                          rfl
                        exact norm_ (by first | (simp only [putAll, Act.put, List.setIfInBounds_toArray, List.set_cons_zero, List.set_cons_succ]; done) | (simp only [putAll, Act.put, List.setIfInBounds_toArray, List.set_cons_zero, List.set_cons_succ]; rfl)) (hJ9_11_12_22_24_25_35_37 0 _ HB.out)
                      · skip
                        refine value_ (w1 := ?_) (v := ?_) (by rfl) rfl ?_ ?_
                        rotate_left 2
                        · go_simp
                          constructor
                          · rfl
                          · rfl
                        have HB_ := Lh (ha_new HB.out (.cells #[.int .i64 0, .int .i64 0, .int .i64 0] 27))
                        have gB_ := HB.out.size
                        have HB := Lh (HB.out.alloc (Nat.le_trans (Nat.le_refl _) HB.out.size) (.cells #[.int .i64 0, .int .i64 0, .int .i64 0] 27))
                        refine hK.out _ _ ⟨(HB.out.cell (p := ⟨w.heap.size, 0, none⟩) (xl)).trans x0, (HB.out.cell (p := ⟨w.heap.size, 1, none⟩) (xl)).trans x1, (HB.out.cell (p := ⟨w.heap.size, 2, none⟩) (xl)).trans x2, (HB.out.cell (p := ⟨w.heap.size + 1, 0, none⟩) (kl)).trans k0, (HB.out.cell (p := ⟨w.heap.size + 1, 1, none⟩) (kl)).trans k1, (HB.out.cell (p := ⟨w.heap.size + 1, 2, none⟩) (kl)).trans k2⟩ (fun hHeld => ?_)
                        clear hK K
                        refine norm_ (a' := ?_) ?_ ?_
                        rotate_left
                        · show Act.put _ (some 21) _ = _
                          simp only [Act.put, List.setIfInBounds_toArray, List.set_cons_zero, List.set_cons_succ, i64_w, i32_w]
                          rfl
                        exact norm_ (by first | (simp only [putAll, Act.put, List.setIfInBounds_toArray, List.set_cons_zero, List.set_cons_succ]; done) | (simp only [putAll, Act.put, List.setIfInBounds_toArray, List.set_cons_zero, List.set_cons_succ]; rfl)) (hJ9_11_12_22_24_25_35_40 _ _ ⟨gB_, HB_.out, HB.out⟩)
                  · skip
                    rintro AB_ wj ⟨gB_, HB_, HB⟩
                    have HB_ := Lh HB_
                    have HB := Lh HB
                    have hHeld : wj.cell? ⟨w.heap.size, 0, none⟩ = some (.int .i64 ax) ∧ wj.cell? ⟨w.heap.size, 1, none⟩ = some (.int .i64 ay) ∧ wj.cell? ⟨w.heap.size, 2, none⟩ = some (.int .i64 az) ∧ wj.cell? ⟨w.heap.size + 1, 0, none⟩ = some (.int .i64 tx) ∧ wj.cell? ⟨w.heap.size + 1, 1, none⟩ = some (.int .i64 ty) ∧ wj.cell? ⟨w.heap.size + 1, 2, none⟩ = some (.int .i64 tz) := ⟨(HB.out.cell (p := ⟨w.heap.size, 0, none⟩) (xl)).trans x0, (HB.out.cell (p := ⟨w.heap.size, 1, none⟩) (xl)).trans x1, (HB.out.cell (p := ⟨w.heap.size, 2, none⟩) (xl)).trans x2, (HB.out.cell (p := ⟨w.heap.size + 1, 0, none⟩) (kl)).trans k0, (HB.out.cell (p := ⟨w.heap.size + 1, 1, none⟩) (kl)).trans k1, (HB.out.cell (p := ⟨w.heap.size + 1, 2, none⟩) (kl)).trans k2⟩
                    refine norm_ (a' := ?_) ?_ ?_
                    rotate_left
                    · simp only [putAll, Act.put, List.setIfInBounds_toArray, List.set_cons_zero, List.set_cons_succ]
                      rfl
                    refine one_ (i := 37) (N := some 105) #[true, true, true, true, true, true, true, true, true, true, true, true, true, true, true, true, true, true, true, true, true, true, true, true, true, true, true, true, true, true, true, true, true, true, true, true, true, true, false, false, true, false] rfl rfl (by kernel_rfl) (by decide) (fun K hK => ?_)
                    refine gs_ Try.func100 #[.pointer (some ⟨wq.heap.size, 0, none⟩), .int .i64 Dz, .int .i64 (LK : Int), .int .i64 16] ?_
                    with_reducible refine (R3.out _).mono ?_
                    rintro en wz ⟨rfl, hb⟩
                    have HB_ := Lh ((hb.block _ (blk_lt HB_.out)).trans HB_.out)
                    have HB := Lh (HB.out.trans (hb.mono HB.out.size))
                    clear hb
                    refine ⟨_, rfl, ?_⟩
                    refine hK.out _ _ ⟨(HB.out.cell (p := ⟨w.heap.size, 0, none⟩) (xl)).trans x0, (HB.out.cell (p := ⟨w.heap.size, 1, none⟩) (xl)).trans x1, (HB.out.cell (p := ⟨w.heap.size, 2, none⟩) (xl)).trans x2, (HB.out.cell (p := ⟨w.heap.size + 1, 0, none⟩) (kl)).trans k0, (HB.out.cell (p := ⟨w.heap.size + 1, 1, none⟩) (kl)).trans k1, (HB.out.cell (p := ⟨w.heap.size + 1, 2, none⟩) (kl)).trans k2⟩ (fun hHeld => ?_)
                    clear hK K
                    refine norm_ (a' := ?_) ?_ ?_
                    rotate_left
                    · show Act.put _ (some 105) _ = _
                      simp only [Act.put, List.setIfInBounds_toArray, List.set_cons_zero, List.set_cons_succ, i64_w, i32_w]
                      rfl
                    exact norm_ (by first | (simp only [putAll, Act.put, List.setIfInBounds_toArray, List.set_cons_zero, List.set_cons_succ]; done) | (simp only [putAll, Act.put, List.setIfInBounds_toArray, List.set_cons_zero, List.set_cons_succ]; rfl)) (hJ9_11_12_22_24_25_35_37_40 _ _ ⟨gB_, HB_.out, HB.out⟩)
                · skip
                  rintro AB_ wj HB
                  have HB := Lh HB
                  have hHeld : wj.cell? ⟨w.heap.size, 0, none⟩ = some (.int .i64 ax) ∧ wj.cell? ⟨w.heap.size, 1, none⟩ = some (.int .i64 ay) ∧ wj.cell? ⟨w.heap.size, 2, none⟩ = some (.int .i64 az) ∧ wj.cell? ⟨w.heap.size + 1, 0, none⟩ = some (.int .i64 tx) ∧ wj.cell? ⟨w.heap.size + 1, 1, none⟩ = some (.int .i64 ty) ∧ wj.cell? ⟨w.heap.size + 1, 2, none⟩ = some (.int .i64 tz) := ⟨(HB.out.cell (p := ⟨w.heap.size, 0, none⟩) (xl)).trans x0, (HB.out.cell (p := ⟨w.heap.size, 1, none⟩) (xl)).trans x1, (HB.out.cell (p := ⟨w.heap.size, 2, none⟩) (xl)).trans x2, (HB.out.cell (p := ⟨w.heap.size + 1, 0, none⟩) (kl)).trans k0, (HB.out.cell (p := ⟨w.heap.size + 1, 1, none⟩) (kl)).trans k1, (HB.out.cell (p := ⟨w.heap.size + 1, 2, none⟩) (kl)).trans k2⟩
                  refine norm_ (a' := ?_) ?_ ?_
                  rotate_left
                  · simp only [putAll, Act.put, List.setIfInBounds_toArray, List.set_cons_zero, List.set_cons_succ]
                    rfl
                  refine two_ (i := 38) (j := 40) (Ni := some 106) (Nj := some 21) #[true, true, true, true, true, true, true, true, true, true, true, true, true, true, true, true, true, true, true, true, true, true, true, true, true, true, true, true, true, true, true, true, true, true, true, true, true, true, true, false, false, false] #[true, true, true, true, true, true, true, true, true, true, true, true, true, true, true, true, true, true, true, true, true, true, true, true, true, true, true, true, true, true, true, true, true, true, true, true, true, true, false, false, true, false] rfl rfl rfl rfl (by kernel_rfl) (by decide) (by decide) (fun K hK => ?_) (fun K hK => ?_)
                  · skip
                    refine gs_ Try.func99 #[.pointer (some ⟨wq.heap.size, 0, none⟩), .int .i64 az, .int .i64 Qz] ?_
                    with_reducible refine (A3.out _).mono ?_
                    rintro en wz ⟨rfl, hb⟩
                    have HB := Lh (HB.out.trans (hb.mono HB.out.size))
                    clear hb
                    refine ⟨_, rfl, ?_⟩
                    refine hK.out _ _ ⟨(HB.out.cell (p := ⟨w.heap.size, 0, none⟩) (xl)).trans x0, (HB.out.cell (p := ⟨w.heap.size, 1, none⟩) (xl)).trans x1, (HB.out.cell (p := ⟨w.heap.size, 2, none⟩) (xl)).trans x2, (HB.out.cell (p := ⟨w.heap.size + 1, 0, none⟩) (kl)).trans k0, (HB.out.cell (p := ⟨w.heap.size + 1, 1, none⟩) (kl)).trans k1, (HB.out.cell (p := ⟨w.heap.size + 1, 2, none⟩) (kl)).trans k2⟩ (fun hHeld => ?_)
                    clear hK K
                    refine norm_ (a' := ?_) ?_ ?_
                    rotate_left
                    · show Act.put _ (some 106) _ = _
                      simp only [Act.put, List.setIfInBounds_toArray, List.set_cons_zero, List.set_cons_succ, i64_w, i32_w]
                      rfl
                    refine pure_ (i := 39) (N := some 107) (v := ?_) (a' := ?_) #[true, true, true, true, true, true, true, true, true, true, true, true, true, true, true, true, true, true, true, true, true, true, true, true, true, true, true, true, true, true, true, true, true, true, true, true, true, true, true, true, false, false] rfl rfl (by kernel_rfl) (fun _ _ _ h => h) (Or.inl ⟨by rfl, ?_⟩) ?_ ?_
                    rotate_left
                    · intro w'
                      go_simp
                      with_reducible rfl
                    rotate_left
                    · simp only [Act.put, List.setIfInBounds_toArray, List.set_cons_zero, List.set_cons_succ, i64_w, i32_w]
                      rfl
                    exact norm_ (by first | (simp only [putAll, Act.put, List.setIfInBounds_toArray, List.set_cons_zero, List.set_cons_succ]; done) | (simp only [putAll, Act.put, List.setIfInBounds_toArray, List.set_cons_zero, List.set_cons_succ]; rfl)) (hJ9_11_12_22_24_25_35_37_38 0 _ HB.out)
                  · skip
                    refine value_ (w1 := ?_) (v := ?_) (by rfl) rfl ?_ ?_
                    rotate_left 2
                    · go_simp
                      constructor
                      · rfl
                      · rfl
                    have HB_ := Lh (ha_new HB.out (.cells #[.int .i64 0, .int .i64 0, .int .i64 0] 27))
                    have gB_ := HB.out.size
                    have HB := Lh (HB.out.alloc (Nat.le_trans (Nat.le_refl _) HB.out.size) (.cells #[.int .i64 0, .int .i64 0, .int .i64 0] 27))
                    refine hK.out _ _ ⟨(HB.out.cell (p := ⟨w.heap.size, 0, none⟩) (xl)).trans x0, (HB.out.cell (p := ⟨w.heap.size, 1, none⟩) (xl)).trans x1, (HB.out.cell (p := ⟨w.heap.size, 2, none⟩) (xl)).trans x2, (HB.out.cell (p := ⟨w.heap.size + 1, 0, none⟩) (kl)).trans k0, (HB.out.cell (p := ⟨w.heap.size + 1, 1, none⟩) (kl)).trans k1, (HB.out.cell (p := ⟨w.heap.size + 1, 2, none⟩) (kl)).trans k2⟩ (fun hHeld => ?_)
                    clear hK K
                    refine norm_ (a' := ?_) ?_ ?_
                    rotate_left
                    · show Act.put _ (some 21) _ = _
                      simp only [Act.put, List.setIfInBounds_toArray, List.set_cons_zero, List.set_cons_succ, i64_w, i32_w]
                      rfl
                    exact norm_ (by first | (simp only [putAll, Act.put, List.setIfInBounds_toArray, List.set_cons_zero, List.set_cons_succ]; done) | (simp only [putAll, Act.put, List.setIfInBounds_toArray, List.set_cons_zero, List.set_cons_succ]; rfl)) (hJ9_11_12_22_24_25_35_37_40 _ _ ⟨gB_, HB_.out, HB.out⟩)
              · skip
                rintro AB_ wj ⟨gB_, HB_, HB⟩
                have HB_ := Lh HB_
                have HB := Lh HB
                have hHeld : wj.cell? ⟨w.heap.size, 0, none⟩ = some (.int .i64 ax) ∧ wj.cell? ⟨w.heap.size, 1, none⟩ = some (.int .i64 ay) ∧ wj.cell? ⟨w.heap.size, 2, none⟩ = some (.int .i64 az) ∧ wj.cell? ⟨w.heap.size + 1, 0, none⟩ = some (.int .i64 tx) ∧ wj.cell? ⟨w.heap.size + 1, 1, none⟩ = some (.int .i64 ty) ∧ wj.cell? ⟨w.heap.size + 1, 2, none⟩ = some (.int .i64 tz) := ⟨(HB.out.cell (p := ⟨w.heap.size, 0, none⟩) (xl)).trans x0, (HB.out.cell (p := ⟨w.heap.size, 1, none⟩) (xl)).trans x1, (HB.out.cell (p := ⟨w.heap.size, 2, none⟩) (xl)).trans x2, (HB.out.cell (p := ⟨w.heap.size + 1, 0, none⟩) (kl)).trans k0, (HB.out.cell (p := ⟨w.heap.size + 1, 1, none⟩) (kl)).trans k1, (HB.out.cell (p := ⟨w.heap.size + 1, 2, none⟩) (kl)).trans k2⟩
                refine norm_ (a' := ?_) ?_ ?_
                rotate_left
                · simp only [putAll, Act.put, List.setIfInBounds_toArray, List.set_cons_zero, List.set_cons_succ]
                  rfl
                refine one_ (i := 38) (N := some 106) #[true, true, true, true, true, true, true, true, true, true, true, true, true, true, true, true, true, true, true, true, true, true, true, true, true, true, true, true, true, true, true, true, true, true, true, true, true, true, true, false, true, false] rfl rfl (by kernel_rfl) (by decide) (fun K hK => ?_)
                refine gs_ Try.func99 #[.pointer (some ⟨wq.heap.size, 0, none⟩), .int .i64 az, .int .i64 Qz] ?_
                with_reducible refine (A3.out _).mono ?_
                rintro en wz ⟨rfl, hb⟩
                have HB_ := Lh ((hb.block _ (blk_lt HB_.out)).trans HB_.out)
                have HB := Lh (HB.out.trans (hb.mono HB.out.size))
                clear hb
                refine ⟨_, rfl, ?_⟩
                refine hK.out _ _ ⟨(HB.out.cell (p := ⟨w.heap.size, 0, none⟩) (xl)).trans x0, (HB.out.cell (p := ⟨w.heap.size, 1, none⟩) (xl)).trans x1, (HB.out.cell (p := ⟨w.heap.size, 2, none⟩) (xl)).trans x2, (HB.out.cell (p := ⟨w.heap.size + 1, 0, none⟩) (kl)).trans k0, (HB.out.cell (p := ⟨w.heap.size + 1, 1, none⟩) (kl)).trans k1, (HB.out.cell (p := ⟨w.heap.size + 1, 2, none⟩) (kl)).trans k2⟩ (fun hHeld => ?_)
                clear hK K
                refine norm_ (a' := ?_) ?_ ?_
                rotate_left
                · show Act.put _ (some 106) _ = _
                  simp only [Act.put, List.setIfInBounds_toArray, List.set_cons_zero, List.set_cons_succ, i64_w, i32_w]
                  rfl
                refine pure_ (i := 39) (N := some 107) (v := ?_) (a' := ?_) #[true, true, true, true, true, true, true, true, true, true, true, true, true, true, true, true, true, true, true, true, true, true, true, true, true, true, true, true, true, true, true, true, true, true, true, true, true, true, true, true, true, false] rfl rfl (by kernel_rfl) (fun _ _ _ h => h) (Or.inl ⟨by rfl, ?_⟩) ?_ ?_
                rotate_left
                · intro w'
                  go_simp
                  with_reducible rfl
                rotate_left
                · simp only [Act.put, List.setIfInBounds_toArray, List.set_cons_zero, List.set_cons_succ, i64_w, i32_w]
                  rfl
                exact norm_ (by first | (simp only [putAll, Act.put, List.setIfInBounds_toArray, List.set_cons_zero, List.set_cons_succ]; done) | (simp only [putAll, Act.put, List.setIfInBounds_toArray, List.set_cons_zero, List.set_cons_succ]; rfl)) (hJ9_11_12_22_24_25_35_37_38_40 _ _ ⟨gB_, HB_.out, HB.out⟩)
            · skip
              rintro AB_ wj HB
              have HB := Lh HB
              have hHeld : wj.cell? ⟨w.heap.size, 0, none⟩ = some (.int .i64 ax) ∧ wj.cell? ⟨w.heap.size, 1, none⟩ = some (.int .i64 ay) ∧ wj.cell? ⟨w.heap.size, 2, none⟩ = some (.int .i64 az) ∧ wj.cell? ⟨w.heap.size + 1, 0, none⟩ = some (.int .i64 tx) ∧ wj.cell? ⟨w.heap.size + 1, 1, none⟩ = some (.int .i64 ty) ∧ wj.cell? ⟨w.heap.size + 1, 2, none⟩ = some (.int .i64 tz) := ⟨(HB.out.cell (p := ⟨w.heap.size, 0, none⟩) (xl)).trans x0, (HB.out.cell (p := ⟨w.heap.size, 1, none⟩) (xl)).trans x1, (HB.out.cell (p := ⟨w.heap.size, 2, none⟩) (xl)).trans x2, (HB.out.cell (p := ⟨w.heap.size + 1, 0, none⟩) (kl)).trans k0, (HB.out.cell (p := ⟨w.heap.size + 1, 1, none⟩) (kl)).trans k1, (HB.out.cell (p := ⟨w.heap.size + 1, 2, none⟩) (kl)).trans k2⟩
              refine norm_ (a' := ?_) ?_ ?_
              rotate_left
              · simp only [putAll, Act.put, List.setIfInBounds_toArray, List.set_cons_zero, List.set_cons_succ]
                rfl
              refine one_ (i := 40) (N := some 21) #[true, true, true, true, true, true, true, true, true, true, true, true, true, true, true, true, true, true, true, true, true, true, true, true, true, true, true, true, true, true, true, true, true, true, true, true, true, true, true, true, true, false] rfl rfl (by kernel_rfl) (by decide) (fun K hK => ?_)
              refine value_ (w1 := ?_) (v := ?_) (by rfl) rfl ?_ ?_
              rotate_left 2
              · go_simp
                constructor
                · rfl
                · rfl
              have HB_ := Lh (ha_new HB.out (.cells #[.int .i64 0, .int .i64 0, .int .i64 0] 27))
              have gB_ := HB.out.size
              have HB := Lh (HB.out.alloc (Nat.le_trans (Nat.le_refl _) HB.out.size) (.cells #[.int .i64 0, .int .i64 0, .int .i64 0] 27))
              refine hK.out _ _ ⟨(HB.out.cell (p := ⟨w.heap.size, 0, none⟩) (xl)).trans x0, (HB.out.cell (p := ⟨w.heap.size, 1, none⟩) (xl)).trans x1, (HB.out.cell (p := ⟨w.heap.size, 2, none⟩) (xl)).trans x2, (HB.out.cell (p := ⟨w.heap.size + 1, 0, none⟩) (kl)).trans k0, (HB.out.cell (p := ⟨w.heap.size + 1, 1, none⟩) (kl)).trans k1, (HB.out.cell (p := ⟨w.heap.size + 1, 2, none⟩) (kl)).trans k2⟩ (fun hHeld => ?_)
              clear hK K
              refine norm_ (a' := ?_) ?_ ?_
              rotate_left
              · show Act.put _ (some 21) _ = _
                simp only [Act.put, List.setIfInBounds_toArray, List.set_cons_zero, List.set_cons_succ, i64_w, i32_w]
                rfl
              exact norm_ (by first | (simp only [putAll, Act.put, List.setIfInBounds_toArray, List.set_cons_zero, List.set_cons_succ]; done) | (simp only [putAll, Act.put, List.setIfInBounds_toArray, List.set_cons_zero, List.set_cons_succ]; rfl)) (hJ9_11_12_22_24_25_35_37_38_40 _ _ ⟨gB_, HB_.out, HB.out⟩)
          rintro AB_ wj ⟨gB_, HB_, HB⟩
          have HB_ := Lh HB_
          have HB := Lh HB
          have hHeld : wj.cell? ⟨w.heap.size, 0, none⟩ = some (.int .i64 ax) ∧ wj.cell? ⟨w.heap.size, 1, none⟩ = some (.int .i64 ay) ∧ wj.cell? ⟨w.heap.size, 2, none⟩ = some (.int .i64 az) ∧ wj.cell? ⟨w.heap.size + 1, 0, none⟩ = some (.int .i64 tx) ∧ wj.cell? ⟨w.heap.size + 1, 1, none⟩ = some (.int .i64 ty) ∧ wj.cell? ⟨w.heap.size + 1, 2, none⟩ = some (.int .i64 tz) := ⟨(HB.out.cell (p := ⟨w.heap.size, 0, none⟩) (xl)).trans x0, (HB.out.cell (p := ⟨w.heap.size, 1, none⟩) (xl)).trans x1, (HB.out.cell (p := ⟨w.heap.size, 2, none⟩) (xl)).trans x2, (HB.out.cell (p := ⟨w.heap.size + 1, 0, none⟩) (kl)).trans k0, (HB.out.cell (p := ⟨w.heap.size + 1, 1, none⟩) (kl)).trans k1, (HB.out.cell (p := ⟨w.heap.size + 1, 2, none⟩) (kl)).trans k2⟩
          refine norm_ (a' := ?_) ?_ ?_
          rotate_left
          · simp only [putAll, Act.put, List.setIfInBounds_toArray, List.set_cons_zero, List.set_cons_succ]
            rfl
          refine one_ (i := 41) (N := none) #[true, true, true, true, true, true, true, true, true, true, true, true, true, true, true, true, true, true, true, true, true, true, true, true, true, true, true, true, true, true, true, true, true, true, true, true, true, true, true, true, true, true] rfl rfl (by kernel_rfl) (by decide) (fun K hK => ?_)
          have sc0 : World.cell? _ ⟨AB_, 0, none⟩ = some (.int .i64 0) := (blk_cell HB_.out 0).trans rfl
          have sf0 : World.frozen? _ ⟨AB_, 0, none⟩ = false := blk_frozen HB_.out 0
          have sc1 : World.cell? _ ⟨AB_, 1, none⟩ = some (.int .i64 0) := (blk_cell HB_.out 1).trans rfl
          have sf1 : World.frozen? _ ⟨AB_, 1, none⟩ = false := blk_frozen HB_.out 1
          have sc2 : World.cell? _ ⟨AB_, 2, none⟩ = some (.int .i64 0) := (blk_cell HB_.out 2).trans rfl
          have sf2 : World.frozen? _ ⟨AB_, 2, none⟩ = false := blk_frozen HB_.out 2
          refine skip_ (w1 := ?_) (by rfl) rfl ?_ ?_
          rotate_left
          · go_simp
            rfl
          have HB_ := Lh (bs3 HB_.out (.int .i64 rx) (.int .i64 ry) (.int .i64 rz))
          have HB := Lh (bb3 HB.out (show w4.heap.size ≤ AB_ from gB_) (.int .i64 rx) (.int .i64 ry) (.int .i64 rz))
          clear sc0 sf0 sc1 sf1 sc2 sf2
          refine hK.out _ _ ⟨(HB.out.cell (p := ⟨w.heap.size, 0, none⟩) (xl)).trans x0, (HB.out.cell (p := ⟨w.heap.size, 1, none⟩) (xl)).trans x1, (HB.out.cell (p := ⟨w.heap.size, 2, none⟩) (xl)).trans x2, (HB.out.cell (p := ⟨w.heap.size + 1, 0, none⟩) (kl)).trans k0, (HB.out.cell (p := ⟨w.heap.size + 1, 1, none⟩) (kl)).trans k1, (HB.out.cell (p := ⟨w.heap.size + 1, 2, none⟩) (kl)).trans k2⟩ (fun hHeld => ?_)
          clear hK K
          refine done_ (by kernel_rfl) ?_
          obtain ⟨wb, hwn⟩ : ∃ V, (((wj.setCell ⟨AB_, 0, none⟩ (.int .i64 rx)).setCell ⟨AB_, 1, none⟩ (.int .i64 ry)).setCell ⟨AB_, 2, none⟩ (.int .i64 rz)) = V := ⟨_, rfl⟩
          rw [hwn] at HB_ HB ⊢
          have hb := HB.out
          replace F := Lh ((hb.block _ (blk_lt F.out)).trans F.out)
          replace T := Lh ((hb.block _ (blk_lt T.out)).trans T.out)
          replace Z := Lh ((hb.block _ (blk_lt Z.out)).trans Z.out)
          replace HO := Lh ((hb.block _ (blk_lt HO.out)).trans HO.out)
          replace W := Lh (bthen W.out hb)
          clear x0 x1 x2 xl k0 k1 k2 kl hwn hHeld HB hb gB_ S1 S2 S3 R1 R2 R3 A1 A2 A3
          have o0 : wb.cell? ⟨wq.heap.size, 0, none⟩ = some (.bool false) := (blk_cell HO.out 0).trans rfl
          have ol : wq.heap.size < wb.heap.size := blk_lt HO.out
          have u0 : wb.cell? ⟨AB_, 0, none⟩ = some (.int .i64 rx) := (blk_cell HB_.out 0).trans rfl
          have u1 : wb.cell? ⟨AB_, 1, none⟩ = some (.int .i64 ry) := (blk_cell HB_.out 1).trans rfl
          have u2 : wb.cell? ⟨AB_, 2, none⟩ = some (.int .i64 rz) := (blk_cell HB_.out 2).trans rfl
          have ul : AB_ < wb.heap.size := blk_lt HB_.out
          have z0 : wb.cell? ⟨w.heap.size + 1 + 1, 0, none⟩ = some (.int .i64 0) := (blk_cell Z.out 0).trans rfl
          have z1 : wb.cell? ⟨w.heap.size + 1 + 1, 1, none⟩ = some (.int .i64 0) := (blk_cell Z.out 1).trans rfl
          have z2 : wb.cell? ⟨w.heap.size + 1 + 1, 2, none⟩ = some (.int .i64 0) := (blk_cell Z.out 2).trans rfl
          have f0 : wb.frozen? ⟨w.heap.size + 1 + 1, 0, none⟩ = false := blk_frozen Z.out 0
          have f1 : wb.frozen? ⟨w.heap.size + 1 + 1, 1, none⟩ = false := blk_frozen Z.out 1
          have f2 : wb.frozen? ⟨w.heap.size + 1 + 1, 2, none⟩ = false := blk_frozen Z.out 2
          have zl : w.heap.size + 1 + 1 < wb.heap.size := blk_lt Z.out
          have HZV := bs3 Z.out (.int .i64 rx) (.int .i64 ry) (.int .i64 rz)
          have HBV := bb3 W.out (show w.heap.size ≤ w.heap.size + 1 + 1 by omega) (.int .i64 rx) (.int .i64 ry) (.int .i64 rz)
          obtain ⟨V, hV⟩ : ∃ V, (((wb.setCell ⟨w.heap.size + 1 + 1, 0, none⟩ (.int .i64 rx)).setCell ⟨w.heap.size + 1 + 1, 1, none⟩ (.int .i64 ry)).setCell ⟨w.heap.size + 1 + 1, 2, none⟩ (.int .i64 rz)) = V := ⟨_, rfl⟩
          rw [hV] at HZV HBV
          have t0 : V.cell? ⟨w.heap.size + 1 + 1, 0, none⟩ = some (.int .i64 rx) := (blk_cell HZV 0).trans rfl
          have t1 : V.cell? ⟨w.heap.size + 1 + 1, 1, none⟩ = some (.int .i64 ry) := (blk_cell HZV 1).trans rfl
          have t2 : V.cell? ⟨w.heap.size + 1 + 1, 2, none⟩ = some (.int .i64 rz) := (blk_cell HZV 2).trans rfl
          go_wp2
          (try rw [hV])
          exact bodyPost_ret (v := .tuple #[.agg #[.int .i64 rx, .int .i64 ry, .int .i64 rz], .int .i64 (LK : Int)]) (by simp [results, Try.results51, go_sem, t0, t1, t2]) rfl ⟨by rw [HR.out], HBV⟩
end Go.Proofs.Ytckdhahceelckaa.G
namespace Go.Proofs.Ytckdhahceelckaa.G
open Go.RowKit Go.Proofs.YtckdhahceelckaaW.PrintWords Go.Proofs.YtckdhahceelckaaW.PrintLast Go.Proofs.YtckdhahceelckaaW.PrintMore
attribute [local go_sem] max2_mx min2_mn max_two min_two max_three min_three max_four min_four
attribute [local go_sem high] eqA23 eqA40
set_option linter.unusedVariables false
set_option linter.unusedSimpArgs false
attribute [local go_sem high] eqA27
set_option maxHeartbeats 8000000 in
set_option maxRecDepth 100000 in
theorem ccdTells_calls {w : World} (a b : P3) (r : Int) (l : List Cr) (A : Option Addr) (n c : Nat) (hl : RdC w A l) (hlb : ∀ d ∈ l, CrB d) (hn : l.length = n) (hnb : n ≤ 140737488355328) (ha : in3 9223372036854775808 a) (hb : in3 9223372036854775808 b) :
    Calls Try.prog 17 #[aP a, aP b, .int .i64 r, .slice A n c] w fun e w' => e = .returned (.bool true) ∧ Below w.heap.size w w' := by
  have H1 := Lh (fun (vw : Value) (W : World) (hl : RdC W A l) => hold_calls vw a b r l A n c hl hn hnb ha hb)
  have H2 := Lh (fun (vw : Value) (W : World) (hl : RdC W A l) => rhold_calls vw a b r l A n c hl hlb hn hnb ha hb)
  obtain ⟨HF, hHF⟩ : ∃ R, holdF a b r l = R := ⟨_, rfl⟩
  rw [hHF] at H1 H2
  obtain ⟨⟨ox, oy, oz⟩, ok⟩ := HF
  obtain ⟨ax, ay, az⟩ := a
  obtain ⟨tx, ty, tz⟩ := b
  have HL := Lh hl
  have HN := Lh hn
  have HAW := Lh awake18_calls
  have W := Lh (Below.refl w.heap.size w)
  have eo : eqP ox oy oz ox oy oz = true := eqP_yes rfl
  clear hl hn hlb ha hb hHF
  go_enter Try.func17, Try.ntmps17
  go_upto_region 1 with fail
  have bz := (((Below.refl w.heap.size w).alloc (Nat.le_refl _) (.cells #[.int .i64 ax, .int .i64 ay, .int .i64 az] 27)).alloc (by simp) (.cells #[.int .i64 tx, .int .i64 ty, .int .i64 tz] 27))
  have nz0 := heap_alloc_new w (.cells #[.int .i64 ax, .int .i64 ay, .int .i64 az] 27)
  replace nz0 := (Below.heap_alloc _ (.cells #[.int .i64 tx, .int .i64 ty, .int .i64 tz] 27) _ (by simp <;> omega)).trans nz0
  have nz1 := heap_alloc_new (w.alloc (.cells #[.int .i64 ax, .int .i64 ay, .int .i64 az] 27)) (.cells #[.int .i64 tx, .int .i64 ty, .int .i64 tz] 27)
  simp only [World.size_alloc] at nz1
  obtain ⟨w1, hwz⟩ : ∃ V, ((w.alloc (.cells #[.int .i64 ax, .int .i64 ay, .int .i64 az] 27)).alloc (.cells #[.int .i64 tx, .int .i64 ty, .int .i64 tz] 27)) = V := ⟨_, rfl⟩
  rw [hwz] at bz nz0 nz1 ⊢
  replace W := Lh (bthen W.out bz)
  have F := Lh nz0
  have T := Lh nz1
  clear hwz bz nz0 nz1
  replace HL := Lh (HL.out.below W.out)
  go_wp2_with fail
  with_reducible refine (HAW.out _).mono ?_
  rintro en w2 ⟨rfl, hb⟩
  replace F := Lh ((hb.block _ (blk_lt F.out)).trans F.out)
  replace T := Lh ((hb.block _ (blk_lt T.out)).trans T.out)
  replace HL := Lh (HL.out.below hb)
  replace W := Lh (bthen W.out hb)
  clear HAW
  clear hb
  by_cases h6 : 6 < n
  · have d6 : decide (6 < (n : Int)) = true := decide_eq_true (by omega)
    go_wp2
    go_ret
    exact ⟨rfl, W.out⟩
  have d6 : decide (6 < (n : Int)) = false := decide_eq_false (by omega)
  go_wp2_with fail
  go_loopw [10] (fun v10 wr => ∃ i : Nat, i ≤ n ∧ v10 = .int .i64 i ∧ Hid (w2 = wr)) (fun i _ => n - (intOf i).toNat)
  case atStart => exact ⟨0, by omega, rfl, Lh rfl⟩
  case round =>
    obtain ⟨i, hi, rfl, hw⟩ := hrel
    replace hw := hw.out
    subst hw
    by_cases hlt : i < n
    · have hil : i < l.length := by rw [HN.out]; exact hlt
      obtain ⟨b, o, A0, A1, A2, n0, n1, n2, c0, c1, c2, rfl, lb, e0, e1, e2, e3, hd⟩ := HL.out.get i hil
      have ti : (i : Int) < (n : Int) := by omega
      clear hd e3 hil
      by_cases t0 : 40 < n0
      · have d0 : decide (40 < (n0 : Int)) = true := decide_eq_true (by omega)
        go_wp2
        go_ret
        exact ⟨rfl, W.out⟩
      have d0 : decide (40 < (n0 : Int)) = false := decide_eq_false (by omega)
      by_cases t2 : 16 < n2
      · have d2 : decide (16 < (n2 : Int)) = true := decide_eq_true (by omega)
        go_wp2
        go_ret
        exact ⟨rfl, W.out⟩
      have d2 : decide (16 < (n2 : Int)) = false := decide_eq_false (by omega)
      by_cases t1 : 80 < n1
      · have d1 : decide (80 < (n1 : Int)) = true := decide_eq_true (by omega)
        go_wp2
        go_ret
        exact ⟨rfl, W.out⟩
      have d1 : decide (80 < (n1 : Int)) = false := decide_eq_false (by omega)
      go_wp2
      go_roundw
      case rel => exact ⟨i + 1, by omega, by go_num, Lh (by simp)⟩
      case measure => simp [intOf]; omega
    · obtain rfl : n = i := by omega
      clear hi hlt HN
      go_upto_region 11 with fail
      have bz := (((Below.refl w2.heap.size w2).alloc (Nat.le_refl _) (.cells #[.bool false] 83)).alloc (by simp) (.cells #[.bool false] 85))
      have nz0 := heap_alloc_new w2 (.cells #[.bool false] 83)
      replace nz0 := (Below.heap_alloc _ (.cells #[.bool false] 85) _ (by simp <;> omega)).trans nz0
      have nz1 := heap_alloc_new (w2.alloc (.cells #[.bool false] 83)) (.cells #[.bool false] 85)
      simp only [World.size_alloc] at nz1
      obtain ⟨w3, hwz⟩ : ∃ V, ((w2.alloc (.cells #[.bool false] 83)).alloc (.cells #[.bool false] 85)) = V := ⟨_, rfl⟩
      rw [hwz] at bz nz0 nz1 ⊢
      replace F := Lh ((bz.block _ (blk_lt F.out)).trans F.out)
      replace T := Lh ((bz.block _ (blk_lt T.out)).trans T.out)
      replace HL := Lh (HL.out.below bz)
      replace W := Lh (bthen W.out bz)
      have WK := Lh nz0
      have WO := Lh nz1
      clear hwz bz nz0 nz1
      have x0 : w3.cell? ⟨w.heap.size, 0, none⟩ = some (.int .i64 ax) := (blk_cell F.out 0).trans rfl
      have x1 : w3.cell? ⟨w.heap.size, 1, none⟩ = some (.int .i64 ay) := (blk_cell F.out 1).trans rfl
      have x2 : w3.cell? ⟨w.heap.size, 2, none⟩ = some (.int .i64 az) := (blk_cell F.out 2).trans rfl
      have xl : w.heap.size < w3.heap.size := blk_lt F.out
      have k0 : w3.cell? ⟨w.heap.size + 1, 0, none⟩ = some (.int .i64 tx) := (blk_cell T.out 0).trans rfl
      have k1 : w3.cell? ⟨w.heap.size + 1, 1, none⟩ = some (.int .i64 ty) := (blk_cell T.out 1).trans rfl
      have k2 : w3.cell? ⟨w.heap.size + 1, 2, none⟩ = some (.int .i64 tz) := (blk_cell T.out 2).trans rfl
      have kl : w.heap.size + 1 < w3.heap.size := blk_lt T.out
      go_wp2_with fail
      with_reducible refine (H1.out _ w3 HL.out).mono ?_
      rintro en w4 ⟨rfl, hb⟩
      replace F := Lh ((hb.block _ (blk_lt F.out)).trans F.out)
      replace T := Lh ((hb.block _ (blk_lt T.out)).trans T.out)
      replace WK := Lh ((hb.block _ (blk_lt WK.out)).trans WK.out)
      replace WO := Lh ((hb.block _ (blk_lt WO.out)).trans WO.out)
      replace HL := Lh (HL.out.below hb)
      replace W := Lh (bthen W.out hb)
      clear H1
      clear hb x0 x1 x2 xl k0 k1 k2 kl
      go_upto_region 12 with fail
      have bz := ((Below.refl w4.heap.size w4).alloc (Nat.le_refl _) (.cells #[.int .i64 ox, .int .i64 oy, .int .i64 oz] 27))
      have nz0 := heap_alloc_new w4 (.cells #[.int .i64 ox, .int .i64 oy, .int .i64 oz] 27)
      obtain ⟨w5, hwz⟩ : ∃ V, (w4.alloc (.cells #[.int .i64 ox, .int .i64 oy, .int .i64 oz] 27)) = V := ⟨_, rfl⟩
      rw [hwz] at bz nz0 ⊢
      replace F := Lh ((bz.block _ (blk_lt F.out)).trans F.out)
      replace T := Lh ((bz.block _ (blk_lt T.out)).trans T.out)
      replace WK := Lh ((bz.block _ (blk_lt WK.out)).trans WK.out)
      replace WO := Lh ((bz.block _ (blk_lt WO.out)).trans WO.out)
      replace HL := Lh (HL.out.below bz)
      replace W := Lh (bthen W.out bz)
      have O1 := Lh nz0
      clear hwz bz nz0
      have x0 : w5.cell? ⟨w.heap.size, 0, none⟩ = some (.int .i64 ax) := (blk_cell F.out 0).trans rfl
      have x1 : w5.cell? ⟨w.heap.size, 1, none⟩ = some (.int .i64 ay) := (blk_cell F.out 1).trans rfl
      have x2 : w5.cell? ⟨w.heap.size, 2, none⟩ = some (.int .i64 az) := (blk_cell F.out 2).trans rfl
      have xl : w.heap.size < w5.heap.size := blk_lt F.out
      have k0 : w5.cell? ⟨w.heap.size + 1, 0, none⟩ = some (.int .i64 tx) := (blk_cell T.out 0).trans rfl
      have k1 : w5.cell? ⟨w.heap.size + 1, 1, none⟩ = some (.int .i64 ty) := (blk_cell T.out 1).trans rfl
      have k2 : w5.cell? ⟨w.heap.size + 1, 2, none⟩ = some (.int .i64 tz) := (blk_cell T.out 2).trans rfl
      have kl : w.heap.size + 1 < w5.heap.size := blk_lt T.out
      go_wp2_with fail
      with_reducible refine (H2.out _ w5 HL.out).mono ?_
      rintro en w6 ⟨rfl, hb⟩
      replace F := Lh ((hb.block _ (blk_lt F.out)).trans F.out)
      replace T := Lh ((hb.block _ (blk_lt T.out)).trans T.out)
      replace WK := Lh ((hb.block _ (blk_lt WK.out)).trans WK.out)
      replace WO := Lh ((hb.block _ (blk_lt WO.out)).trans WO.out)
      replace O1 := Lh ((hb.block _ (blk_lt O1.out)).trans O1.out)
      replace HL := Lh (HL.out.below hb)
      replace W := Lh (bthen W.out hb)
      clear H2
      clear hb x0 x1 x2 xl k0 k1 k2 kl
      go_upto_region 13 with fail
      have bz := ((Below.refl w6.heap.size w6).alloc (Nat.le_refl _) (.cells #[.int .i64 ox, .int .i64 oy, .int .i64 oz] 27))
      have nz0 := heap_alloc_new w6 (.cells #[.int .i64 ox, .int .i64 oy, .int .i64 oz] 27)
      obtain ⟨w7, hwz⟩ : ∃ V, (w6.alloc (.cells #[.int .i64 ox, .int .i64 oy, .int .i64 oz] 27)) = V := ⟨_, rfl⟩
      rw [hwz] at bz nz0 ⊢
      replace F := Lh ((bz.block _ (blk_lt F.out)).trans F.out)
      replace T := Lh ((bz.block _ (blk_lt T.out)).trans T.out)
      replace WK := Lh ((bz.block _ (blk_lt WK.out)).trans WK.out)
      replace WO := Lh ((bz.block _ (blk_lt WO.out)).trans WO.out)
      replace O1 := Lh ((bz.block _ (blk_lt O1.out)).trans O1.out)
      replace HL := Lh (HL.out.below bz)
      replace W := Lh (bthen W.out bz)
      have O2 := Lh nz0
      clear hwz bz nz0
      have x0 : w7.cell? ⟨w4.heap.size, 0, none⟩ = some (.int .i64 ox) := (blk_cell O1.out 0).trans rfl
      have x1 : w7.cell? ⟨w4.heap.size, 1, none⟩ = some (.int .i64 oy) := (blk_cell O1.out 1).trans rfl
      have x2 : w7.cell? ⟨w4.heap.size, 2, none⟩ = some (.int .i64 oz) := (blk_cell O1.out 2).trans rfl
      have xl : w4.heap.size < w7.heap.size := blk_lt O1.out
      have k0 : w7.cell? ⟨w6.heap.size, 0, none⟩ = some (.int .i64 ox) := (blk_cell O2.out 0).trans rfl
      have k1 : w7.cell? ⟨w6.heap.size, 1, none⟩ = some (.int .i64 oy) := (blk_cell O2.out 1).trans rfl
      have k2 : w7.cell? ⟨w6.heap.size, 2, none⟩ = some (.int .i64 oz) := (blk_cell O2.out 2).trans rfl
      have kl : w6.heap.size < w7.heap.size := blk_lt O2.out
      have u0 : w7.cell? ⟨w2.heap.size, 0, none⟩ = some (.bool false) := (blk_cell WK.out 0).trans rfl
      have ul : w2.heap.size < w7.heap.size := blk_lt WK.out
      have v0 : w7.cell? ⟨w2.heap.size + 1, 0, none⟩ = some (.bool false) := (blk_cell WO.out 0).trans rfl
      have vl : w2.heap.size + 1 < w7.heap.size := blk_lt WO.out
      go_quiet (fail)
      have WF := Lh (pw_below_drewN W.out nq)
      go_wp2
      go_ret
      exact ⟨rfl, WF.out⟩
end Go.Proofs.Ytckdhahceelckaa.G
