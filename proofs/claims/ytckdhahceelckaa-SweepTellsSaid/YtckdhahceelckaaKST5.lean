/- What the laws of this claim lean on: contracts of the functions that they reach, and plain lemmas; no condition of its own (part 5 of 5; the texts XV31). -/
import Derived.Test.YtckdhahceelckaaKST4
namespace Go.Proofs.Ytckdhahceelckaa.G
open Go.RowKit Go.Proofs.YtckdhahceelckaaW.PrintWords Go.Proofs.YtckdhahceelckaaW.PrintLast Go.Proofs.YtckdhahceelckaaW.PrintMore
attribute [local go_sem] max2_mx min2_mn max_two min_two max_three min_three max_four min_four
attribute [local go_sem high] eqA23 eqA40
set_option linter.unusedVariables false
set_option linter.unusedSimpArgs false
attribute [local go_sem high] eqA23 eqA40
theorem trail_crb (c : Cr) (y : P3) (k : Int) : CrB (trailF c y k) := by
  unfold CrB trailF
  split
  · rename_i h
    have hl := ((smay_iff ..).1 h.1).2.1
    have h1 := withF_len c.a (acrossF y c.e)
    have h2 := withF_len c.e [short3 y]
    simp only [List.length_append, List.length_map]
    omega
  · simp
section
variable {ops : Array Oper} {rest : List Oper} {o : Oper} {a : Act} {Q : Exit → Act → World → Prop}
theorem appC_ {W : World} {d : Cr} {l : List Cr} {A : Option Addr} {n c : Nat} {A0 A1 A2 : Option Addr} {n0 n1 n2 c0 c1 c2 : Nat} (hgd : o.guard = none) (s x : Operand) (ho : o.op = .call { callee := .builtin .append, args := #[s, x], argTypes := #[57, 57] })
    (hs : a.eval s = .slice (some ⟨W.heap.size, 0, none⟩) 1 1) (hx : a.eval x = .slice A n c) (hd : CrV W (.agg #[.slice A0 n0 c0, .slice A1 n1 c1, .slice A2 n2 c2, .int .i64 d.r]) d) (hl : RdC W A l) (hn : l.length = n) (hb : n * 80 ≤ 140737488351232)
    (h : ∀ A' c' w', RdC w' A' (d :: l) → Below W.heap.size W w' → wpList Try.prog ops Q rest (a.put o.dst (.slice A' (n + 1) c')) w') : wpList Try.prog ops Q (o :: rest) a (W.alloc (.cells #[.slice A0 n0 c0, .slice A1 n1 c1, .slice A2 n2 c2, .int .i64 d.r] 36)) := by
  obtain ⟨A', c', w', h0, hR, hB⟩ := app_cores o.type hd hl hn hb _ rfl
  exact Go.Lib.wpList_append_run _ hgd s x 57 57 ho _ (.slice A n c) hs hx _ w' h0 (h A' c' w' hR hB)
end
set_option maxHeartbeats 16000000 in
set_option maxRecDepth 100000 in
theorem tells13 {w : World} {v : Value} {a : Cr} (ha : CrV w v a) (hab : CrB a) (y : P3) (pt : Int) (l : List Cr) (A : Option Addr) (n c : Nat) (hl : RdC w A l) (hlb : ∀ d ∈ l, CrB d) (hn : l.length = n) (hb80 : n * 80 ≤ 140737488351232) :
    Calls Try.prog 13 #[v, aP y, .int .i64 pt, .slice A n c] w fun e w' => e = .returned (.bool true) ∧ Below w.heap.size w w' := by
  have HAB := Lh hab
  have HAL := Lh (show a.p.length ≤ 140737488355328 from hab.1)
  have HLB := Lh hlb
  have HV := Lh ha
  obtain ⟨A0, A1, A2, c0, c1, c2, rfl, h0, _⟩ := id ha.out
  have H0 := Lh h0
  obtain ⟨n0, hn0⟩ : ∃ n, a.p.length = n := ⟨_, rfl⟩
  obtain ⟨n1, hn1⟩ : ∃ n, a.a.length = n := ⟨_, rfl⟩
  obtain ⟨n2, hn2⟩ : ∃ n, a.e.length = n := ⟨_, rfl⟩
  rw [hn0, hn1, hn2] at HV ⊢
  have HN0 := Lh hn0
  have HL := Lh hl
  have HN := Lh hn
  have HB80 := Lh hb80
  have HCB := Lh (trail_crb a y pt)
  have HT1 := Lh (fun (W : World) (h : CrV W (.agg #[.slice A0 n0 c0, .slice A1 n1 c1, .slice A2 n2 c2, .int .i64 a.r]) a) => trail_calls h y pt HAL.out)
  have HT2 := Lh (fun (W : World) (h : CrV W (.agg #[.slice A0 n0 c0, .slice A1 n1 c1, .slice A2 n2 c2, .int .i64 a.r]) a) => rtrail_calls h y pt HAB.out)
  obtain ⟨TT, hTT⟩ : ∃ t, trailF a y pt = t := ⟨_, rfl⟩
  rw [hTT] at HCB HT1 HT2
  have HC1 := Lh (fun (W : World) (u : Value) (d : Cr) (h : CrV W (.agg #[.slice A0 n0 c0, .slice A1 n1 c1, .slice A2 n2 c2, .int .i64 a.r]) a) (h2 : CrV W u d) => cast_calls h h2 y HAL.out)
  have HC2 := Lh (fun (W : World) (u : Value) (d : Cr) (h : CrV W (.agg #[.slice A0 n0 c0, .slice A1 n1 c1, .slice A2 n2 c2, .int .i64 a.r]) a) (h2 : CrV W u d) (hb : CrB d) => rcast_calls h h2 y HAB.out hb)
  obtain ⟨CF, hCF⟩ : ∃ f : Cr → (Nat × (P3 × Int)) × Bool, (fun d => castF a y d) = f := ⟨_, rfl⟩
  have hCF2 : ∀ d, castF a y d = CF d := fun d => by rw [← hCF]
  simp only [hCF2] at HC1 HC2
  obtain ⟨yx, yy, yz⟩ := y
  (try simp only at HT1 HT2 HC1 HC2)
  clear ha hab hl hlb hn h0 hn0 hn1 hn2 hb80 hTT hCF hCF2
  have W := Lh (Below.refl w.heap.size w)
  go_enter Try.func13, Try.ntmps13
  go_wp2_with fail
  have bz := (((Below.refl w.heap.size w).alloc (Nat.le_refl _) (.cells #[.slice A0 n0 c0, .slice A1 n1 c1, .slice A2 n2 c2, .int .i64 a.r] 36)).alloc (by simp) (.cells #[.int .i64 yx, .int .i64 yy, .int .i64 yz] 23))
  have nz0 := heap_alloc_new w (.cells #[.slice A0 n0 c0, .slice A1 n1 c1, .slice A2 n2 c2, .int .i64 a.r] 36)
  replace nz0 := (Below.heap_alloc _ (.cells #[.int .i64 yx, .int .i64 yy, .int .i64 yz] 23) _ (by simp <;> omega)).trans nz0
  have nz1 := heap_alloc_new (w.alloc (.cells #[.slice A0 n0 c0, .slice A1 n1 c1, .slice A2 n2 c2, .int .i64 a.r] 36)) (.cells #[.int .i64 yx, .int .i64 yy, .int .i64 yz] 23)
  simp only [World.size_alloc] at nz1
  obtain ⟨w1, hwz⟩ : ∃ V, ((w.alloc (.cells #[.slice A0 n0 c0, .slice A1 n1 c1, .slice A2 n2 c2, .int .i64 a.r] 36)).alloc (.cells #[.int .i64 yx, .int .i64 yy, .int .i64 yz] 23)) = V := ⟨_, rfl⟩
  rw [hwz] at bz nz0 nz1 ⊢
  replace HV := Lh (HV.out.below bz)
  replace H0 := Lh (H0.out.below bz)
  replace HL := Lh (HL.out.below bz)
  replace W := Lh (bthen W.out bz)
  have CA := Lh nz0
  have YC := Lh nz1
  clear hwz bz nz0 nz1
  refine (awake11_calls _).mono ?_
  rintro en w2 ⟨rfl, hb⟩
  replace CA := Lh ((hb.block _ (blk_lt CA.out)).trans CA.out)
  replace YC := Lh ((hb.block _ (blk_lt YC.out)).trans YC.out)
  replace HV := Lh (HV.out.below hb)
  replace H0 := Lh (H0.out.below hb)
  replace HL := Lh (HL.out.below hb)
  replace W := Lh (bthen W.out hb)
  clear hb
  have x0 : w2.cell? ⟨w.heap.size, 0, none⟩ = some (.slice A0 n0 c0) := (blk_cell CA.out 0).trans rfl
  have x1 : w2.cell? ⟨w.heap.size, 1, none⟩ = some (.slice A1 n1 c1) := (blk_cell CA.out 1).trans rfl
  have x2 : w2.cell? ⟨w.heap.size, 2, none⟩ = some (.slice A2 n2 c2) := (blk_cell CA.out 2).trans rfl
  have x3 : w2.cell? ⟨w.heap.size, 3, none⟩ = some (.int .i64 a.r) := (blk_cell CA.out 3).trans rfl
  have xl : w.heap.size < w2.heap.size := blk_lt CA.out
  go_wp2_with (at_builtin; refine appC_ rfl _ _ rfl rfl rfl HV.out HL.out HN.out HB80.out ?_; intro Aq cq w30 hR hB; have HR := Lh hR; have HBq := Lh hB; clear hR hB)
  replace CA := Lh ((HBq.out.block _ (blk_lt CA.out)).trans CA.out)
  replace YC := Lh ((HBq.out.block _ (blk_lt YC.out)).trans YC.out)
  replace HV := Lh (HV.out.below HBq.out)
  replace H0 := Lh (H0.out.below HBq.out)
  replace HL := Lh (HL.out.below HBq.out)
  replace W := Lh (bthen W.out HBq.out)
  clear x0 x1 x2 x3 xl HBq
  refine (few_calls (a :: l) Aq (n + 1) cq _ HR.out (by simp [HN.out]) (by have := HB80.out; omega)).mono ?_
  rintro en w3 ⟨bf, rfl, hbf, hb⟩
  replace CA := Lh ((hb.block _ (blk_lt CA.out)).trans CA.out)
  replace YC := Lh ((hb.block _ (blk_lt YC.out)).trans YC.out)
  replace HV := Lh (HV.out.below hb)
  replace H0 := Lh (H0.out.below hb)
  replace HL := Lh (HL.out.below hb)
  replace W := Lh (bthen W.out hb)
  have HBF := Lh hbf
  clear hbf
  clear hb
  clear HR
  cases bf with
  | false =>
    go_wp2
    go_ret
    exact ⟨rfl, W.out⟩
  | true =>
  have hn20 : n ≤ 20 := by have := HBF.out rfl; omega
  clear HBF HB80
  have x0 : w3.cell? ⟨w.heap.size, 0, none⟩ = some (.slice A0 n0 c0) := (blk_cell CA.out 0).trans rfl
  have x1 : w3.cell? ⟨w.heap.size, 1, none⟩ = some (.slice A1 n1 c1) := (blk_cell CA.out 1).trans rfl
  have x2 : w3.cell? ⟨w.heap.size, 2, none⟩ = some (.slice A2 n2 c2) := (blk_cell CA.out 2).trans rfl
  have x3 : w3.cell? ⟨w.heap.size, 3, none⟩ = some (.int .i64 a.r) := (blk_cell CA.out 3).trans rfl
  have xl : w.heap.size < w3.heap.size := blk_lt CA.out
  have y0 : w3.cell? ⟨w.heap.size + 1, 0, none⟩ = some (.int .i64 yx) := (blk_cell YC.out 0).trans rfl
  have y1 : w3.cell? ⟨w.heap.size + 1, 1, none⟩ = some (.int .i64 yy) := (blk_cell YC.out 1).trans rfl
  have y2 : w3.cell? ⟨w.heap.size + 1, 2, none⟩ = some (.int .i64 yz) := (blk_cell YC.out 2).trans rfl
  have yl : w.heap.size + 1 < w3.heap.size := blk_lt YC.out
  go_wp2_with fail
  have HB := Lh ((Below.refl (w3.heap.size) w3).drew)
  have FF := Lh (show ∀ V, Hid (Below (w3.heap.size) w3 V) → V.cell? ⟨w.heap.size, 0, none⟩ = some (.slice A0 n0 c0) ∧ V.cell? ⟨w.heap.size, 1, none⟩ = some (.slice A1 n1 c1) ∧ V.cell? ⟨w.heap.size, 2, none⟩ = some (.slice A2 n2 c2) ∧ V.cell? ⟨w.heap.size, 3, none⟩ = some (.int .i64 a.r) ∧ V.cell? ⟨w.heap.size + 1, 0, none⟩ = some (.int .i64 yx) ∧ V.cell? ⟨w.heap.size + 1, 1, none⟩ = some (.int .i64 yy) ∧ V.cell? ⟨w.heap.size + 1, 2, none⟩ = some (.int .i64 yz) from fun V HB => ⟨(HB.out.cell (p := ⟨w.heap.size, 0, none⟩) (xl)).trans x0, (HB.out.cell (p := ⟨w.heap.size, 1, none⟩) (xl)).trans x1, (HB.out.cell (p := ⟨w.heap.size, 2, none⟩) (xl)).trans x2, (HB.out.cell (p := ⟨w.heap.size, 3, none⟩) (xl)).trans x3, (HB.out.cell (p := ⟨w.heap.size + 1, 0, none⟩) (yl)).trans y0, (HB.out.cell (p := ⟨w.heap.size + 1, 1, none⟩) (yl)).trans y1, (HB.out.cell (p := ⟨w.heap.size + 1, 2, none⟩) (yl)).trans y2⟩)
  refine start_ (n := 14) (S := fun w' => w'.cell? ⟨w.heap.size, 0, none⟩ = some (.slice A0 n0 c0) ∧ w'.cell? ⟨w.heap.size, 1, none⟩ = some (.slice A1 n1 c1) ∧ w'.cell? ⟨w.heap.size, 2, none⟩ = some (.slice A2 n2 c2) ∧ w'.cell? ⟨w.heap.size, 3, none⟩ = some (.int .i64 a.r) ∧ w'.cell? ⟨w.heap.size + 1, 0, none⟩ = some (.int .i64 yx) ∧ w'.cell? ⟨w.heap.size + 1, 1, none⟩ = some (.int .i64 yy) ∧ w'.cell? ⟨w.heap.size + 1, 2, none⟩ = some (.int .i64 yz)) (ds := []) (MT 0 14) (by kernel_rfl) rfl rfl (FF.out _ HB) (fun hHeld => ?_)
  obtain ⟨wd, hwd⟩ : ∃ x, w3.drew = x := ⟨_, rfl⟩
  rw [hwd] at HB hHeld ⊢
  clear hwd
  refine pu_ 0 38 (h := ?_)
  refine pu_ 1 39 (h := ?_)
  refine pu_ 2 40 (h := ?_)
  refine pu_ 5 43 (h := ?_)
  refine pu_ 9 47 (h := ?_)
  refine ta_ 3 41 hHeld (h := ?_)
  refine ta_ 4 42 hHeld (h := ?_)
  refine ta_ 7 45 hHeld (h := ?_)
  refine ta_ 8 46 hHeld (h := ?_)
  refine on_ 6 (some 44) (h := fun K hK => ?_)
  refine gs_ Try.func37 #[.agg #[.slice A0 n0 c0, .slice A1 n1 c1, .slice A2 n2 c2, .int .i64 a.r], aP ⟨yx, yy, yz⟩, .int .i64 pt] ?_
  with_reducible refine (HT1.out _ (HV.out.below HB.out)).mono ?_
  rintro en w71 ⟨u7, rfl, hv, hb⟩
  have HB := Lh (HB.out.trans (hb.mono HB.out.size))
  have HV1 := Lh hv
  clear hv
  clear hb
  refine ⟨_, rfl, ?_⟩
  refine hK.out _ _ (FF.out _ HB) (fun hHeld => ?_)
  clear hK K
  refine no_ (h := ?_)
  refine on_ 10 (some 48) (h := fun K hK => ?_)
  refine gs_ Try.func38 #[.agg #[.slice A0 n0 c0, .slice A1 n1 c1, .slice A2 n2 c2, .int .i64 a.r], aP ⟨yx, yy, yz⟩, .int .i64 pt] ?_
  with_reducible refine (HT2.out _ (HV.out.below HB.out)).mono ?_
  rintro en w72 ⟨u8, rfl, hv, hb⟩
  have HB := Lh (HB.out.trans (hb.mono HB.out.size))
  have HV2 := Lh hv
  have HV1 := Lh (HV1.out.below hb)
  clear hv
  clear hb
  refine ⟨_, rfl, ?_⟩
  refine hK.out _ _ (FF.out _ HB) (fun hHeld => ?_)
  clear hK K
  refine no_ (h := ?_)
  refine on_ 11 (some 49) (h := fun K hK => ?_)
  refine gs_ Try.func36 #[u7, u8] ?_
  with_reducible refine (cores36_calls HV1.out HV2.out HCB.out).mono ?_
  rintro en w73 ⟨rfl, hb⟩
  have HB := Lh (HB.out.trans (hb.mono HB.out.size))
  clear HV1 HV2
  clear hb
  refine ⟨_, rfl, ?_⟩
  refine hK.out _ _ (FF.out _ HB) (fun hHeld => ?_)
  clear hK K
  refine no_ (h := ?_)
  refine pu_ 12 50 (h := ?_)
  refine pu_ 13 51 (h := ?_)
  refine done_ (by kernel_rfl) ?_
  replace CA := Lh ((HB.out.block _ (blk_lt CA.out)).trans CA.out)
  replace YC := Lh ((HB.out.block _ (blk_lt YC.out)).trans YC.out)
  replace HV := Lh (HV.out.below HB.out)
  replace H0 := Lh (H0.out.below HB.out)
  replace HL := Lh (HL.out.below HB.out)
  replace W := Lh (bthen W.out HB.out)
  clear x0 x1 x2 x3 xl y0 y1 y2 yl HB hHeld HT1 HT2 HCB
  go_wp2_with fail
  go_loopw [10, 11, 12, 13, 14, 15, 16] (fun v10 v11 v12 v13 v14 v15 v16 wr => ∃ i : Nat, i ≤ n ∧ v10 = .int .i64 i ∧ Hid (Below w73.heap.size w73 wr)) (fun v10 _ _ _ _ _ _ _ => n - (intOf v10).toNat)
  case atStart => exact ⟨0, by omega, rfl, Lh (Below.refl _ _)⟩
  case round =>
    obtain ⟨i, hi, rfl, hB⟩ := hrel
    obtain ⟨wq, hwq⟩ : ∃ x : World, x = wr := ⟨_, rfl⟩
    subst hwq
    obtain ⟨bb, hbb⟩ : ∃ b, (decide (i < n) && decide (i < 4)) = b := ⟨_, rfl⟩
    have HBB := Lh hbb
    clear hbb
    go_upto_region 7 with fail
    go_cut [59] (fun s59 wx => s59 = .bool bb ∧ wq = wx)
    case first =>
      by_cases t0 : i < n
      · have d0 : decide ((i : Int) < (n : Int)) = true := decide_eq_true (by omega)
        by_cases t1 : i < 4
        · have d1 : decide ((i : Int) < 4) = true := decide_eq_true (by omega)
          have hb : bb = true := by rw [← HBB.out]; simp [t0, t1]
          subst hb
          go_wp2
          go_meet
          exact ⟨rfl, rfl⟩
        · have d1 : decide ((i : Int) < 4) = false := decide_eq_false (by omega)
          have hb : bb = false := by rw [← HBB.out]; simp [t1]
          subst hb
          go_wp2
          go_meet
          exact ⟨rfl, rfl⟩
      · have d0 : decide ((i : Int) < (n : Int)) = false := decide_eq_false (by omega)
        have hb : bb = false := by rw [← HBB.out]; simp [t0]
        subst hb
        go_wp2
        go_meet
        exact ⟨rfl, rfl⟩
    case rest =>
      obtain ⟨rfl, rfl⟩ := hcut
      cases bb with
      | true =>
        have hlt : i < n := by have := HBB.out; simp at this; omega
        have hil : i < l.length := by rw [HN.out]; exact hlt
        have HLB := HLB.out _ (List.getElem_mem hil)
        have CAq := Lh ((hB.out.block _ (blk_lt CA.out)).trans CA.out)
        have x0 : wq.cell? ⟨w.heap.size, 0, none⟩ = some (.slice A0 n0 c0) := (blk_cell CAq.out 0).trans rfl
        have x1 : wq.cell? ⟨w.heap.size, 1, none⟩ = some (.slice A1 n1 c1) := (blk_cell CAq.out 1).trans rfl
        have x2 : wq.cell? ⟨w.heap.size, 2, none⟩ = some (.slice A2 n2 c2) := (blk_cell CAq.out 2).trans rfl
        have x3 : wq.cell? ⟨w.heap.size, 3, none⟩ = some (.int .i64 a.r) := (blk_cell CAq.out 3).trans rfl
        have xl : w.heap.size < wq.heap.size := blk_lt CAq.out
        have YCq := Lh ((hB.out.block _ (blk_lt YC.out)).trans YC.out)
        have y0 : wq.cell? ⟨w.heap.size + 1, 0, none⟩ = some (.int .i64 yx) := (blk_cell YCq.out 0).trans rfl
        have y1 : wq.cell? ⟨w.heap.size + 1, 1, none⟩ = some (.int .i64 yy) := (blk_cell YCq.out 1).trans rfl
        have y2 : wq.cell? ⟨w.heap.size + 1, 2, none⟩ = some (.int .i64 yz) := (blk_cell YCq.out 2).trans rfl
        have yl : w.heap.size + 1 < wq.heap.size := blk_lt YCq.out
        obtain ⟨eb, eo, E0, E1_, E2_, m0, m1, m2, g0, g1, g2, rfl, el, e0, e1, e2, e3, hE⟩ := (HL.out.below hB.out).get i hil
        obtain ⟨d, hd⟩ : ∃ d, l[i] = d := ⟨_, rfl⟩
        rw [hd] at hE e3 HLB
        obtain ⟨rd, hrd⟩ : ∃ r, d.r = r := ⟨_, rfl⟩
        rw [hrd] at hE e3
        have HE := Lh hE
        have HLD := Lh HLB
        have HD1 := Lh (fun W => HC1.out W (.agg #[.slice E0 m0 g0, .slice E1_ m1 g1, .slice E2_ m2 g2, .int .i64 rd]) d)
        have HD2 := Lh (fun W => HC2.out W (.agg #[.slice E0 m0 g0, .slice E1_ m1 g1, .slice E2_ m2 g2, .int .i64 rd]) d)
        obtain ⟨R, hR⟩ : ∃ R, CF d = R := ⟨_, rfl⟩
        rw [hR] at HD1 HD2
        obtain ⟨⟨k, ⟨Xx, Xy, Xz⟩, Xg⟩, Xo⟩ := R
        (try simp only at HD1 HD2)
        have ti : (i : Int) < (n : Int) := by omega
        clear hE hd hrd hil HLB hR
        go_wp2_with fail
        have HB := Lh ((Below.refl (wq.heap.size) wq).drew)
        have FF := Lh (show ∀ V, Hid (Below (wq.heap.size) wq V) → V.cell? ⟨w.heap.size, 0, none⟩ = some (.slice A0 n0 c0) ∧ V.cell? ⟨w.heap.size, 1, none⟩ = some (.slice A1 n1 c1) ∧ V.cell? ⟨w.heap.size, 2, none⟩ = some (.slice A2 n2 c2) ∧ V.cell? ⟨w.heap.size, 3, none⟩ = some (.int .i64 a.r) ∧ V.cell? ⟨w.heap.size + 1, 0, none⟩ = some (.int .i64 yx) ∧ V.cell? ⟨w.heap.size + 1, 1, none⟩ = some (.int .i64 yy) ∧ V.cell? ⟨w.heap.size + 1, 2, none⟩ = some (.int .i64 yz) ∧ V.cell? ⟨eb, eo + i * 4, none⟩ = some (.slice E0 m0 g0) ∧ V.cell? ⟨eb, eo + i * 4 + 1, none⟩ = some (.slice E1_ m1 g1) ∧ V.cell? ⟨eb, eo + i * 4 + 2, none⟩ = some (.slice E2_ m2 g2) ∧ V.cell? ⟨eb, eo + i * 4 + 3, none⟩ = some (.int .i64 rd) from fun V HB => ⟨(HB.out.cell (p := ⟨w.heap.size, 0, none⟩) (xl)).trans x0, (HB.out.cell (p := ⟨w.heap.size, 1, none⟩) (xl)).trans x1, (HB.out.cell (p := ⟨w.heap.size, 2, none⟩) (xl)).trans x2, (HB.out.cell (p := ⟨w.heap.size, 3, none⟩) (xl)).trans x3, (HB.out.cell (p := ⟨w.heap.size + 1, 0, none⟩) (yl)).trans y0, (HB.out.cell (p := ⟨w.heap.size + 1, 1, none⟩) (yl)).trans y1, (HB.out.cell (p := ⟨w.heap.size + 1, 2, none⟩) (yl)).trans y2, (HB.out.cell (p := ⟨eb, eo + i * 4, none⟩) (el)).trans e0, (HB.out.cell (p := ⟨eb, eo + i * 4 + 1, none⟩) (el)).trans e1, (HB.out.cell (p := ⟨eb, eo + i * 4 + 2, none⟩) (el)).trans e2, (HB.out.cell (p := ⟨eb, eo + i * 4 + 3, none⟩) (el)).trans e3⟩)
        refine start_ (n := 15) (S := fun w' => w'.cell? ⟨w.heap.size, 0, none⟩ = some (.slice A0 n0 c0) ∧ w'.cell? ⟨w.heap.size, 1, none⟩ = some (.slice A1 n1 c1) ∧ w'.cell? ⟨w.heap.size, 2, none⟩ = some (.slice A2 n2 c2) ∧ w'.cell? ⟨w.heap.size, 3, none⟩ = some (.int .i64 a.r) ∧ w'.cell? ⟨w.heap.size + 1, 0, none⟩ = some (.int .i64 yx) ∧ w'.cell? ⟨w.heap.size + 1, 1, none⟩ = some (.int .i64 yy) ∧ w'.cell? ⟨w.heap.size + 1, 2, none⟩ = some (.int .i64 yz) ∧ w'.cell? ⟨eb, eo + i * 4, none⟩ = some (.slice E0 m0 g0) ∧ w'.cell? ⟨eb, eo + i * 4 + 1, none⟩ = some (.slice E1_ m1 g1) ∧ w'.cell? ⟨eb, eo + i * 4 + 2, none⟩ = some (.slice E2_ m2 g2) ∧ w'.cell? ⟨eb, eo + i * 4 + 3, none⟩ = some (.int .i64 rd)) (ds := []) (MT 0 15) (by kernel_rfl) rfl rfl (FF.out _ HB) (fun hHeld => ?_)
        obtain ⟨wd, hwd⟩ : ∃ x, wq.drew = x := ⟨_, rfl⟩
        rw [hwd] at HB hHeld ⊢
        clear hwd
        refine pu_ 2 65 (h := ?_)
        refine pu_ 3 66 (h := ?_)
        refine pu_ 4 67 (h := ?_)
        refine ta_ 0 63 hHeld (h := ?_)
        refine ta_ 1 64 hHeld (h := ?_)
        refine ta_ 5 68 hHeld (h := ?_)
        refine join_ (σ := Nat) 3 (MT 12 3) (fun s => [(12, .pointer (some ⟨s, 0, none⟩)), (69, .tuple #[.int .i64 (k : Int), .agg #[.int .i64 Xx, .int .i64 Xy, .int .i64 Xz, .int .i64 Xg], .bool Xo]), (62, .tuple #[.int .i64 (k : Int), .agg #[.int .i64 Xx, .int .i64 Xy, .int .i64 Xz, .int .i64 Xg], .bool Xo]), (70, .int .i64 (k : Int)), (71, .agg #[.int .i64 Xx, .int .i64 Xy, .int .i64 Xz, .int .i64 Xg]), (72, .bool Xo)]) (fun s w' => wq.heap.size ≤ s ∧ w'.heap[s]? = some (.cells #[.int .i64 0, .int .i64 0, .int .i64 0, .int .i64 0] 40 (0, 0)) ∧ Below (wq.heap.size) wq w') ?_ ?_
        rotate_left
        · intro hCont
          refine two_ (i := 6) (j := 11) (Ni := some 69) (Nj := some 12) (MT 7 8) #[true, true, true, true, true, true, false, false, false, false, false, true, false, false, false] rfl rfl rfl rfl (by kernel_rfl) (by decide) (by decide) (fun K hK => ?_) (fun K hK => ?_)
          · skip
            refine gs_ Try.func34 #[.agg #[.slice A0 n0 c0, .slice A1 n1 c1, .slice A2 n2 c2, .int .i64 a.r], aP ⟨yx, yy, yz⟩, .agg #[.slice E0 m0 g0, .slice E1_ m1 g1, .slice E2_ m2 g2, .int .i64 rd]] ?_
            with_reducible refine (HD1.out _ (HV.out.below (bthen hB.out HB.out)) (HE.out.below HB.out)).mono ?_
            rintro en w7 ⟨rfl, hb⟩
            have HB := Lh (HB.out.trans (hb.mono HB.out.size))
            clear hb
            refine ⟨_, rfl, ?_⟩
            refine hK.out _ _ (FF.out _ HB) (fun hHeld => ?_)
            clear hK K
            refine no_ (h := ?_)
            refine pu_ 7 62 (h := ?_)
            refine pu_ 8 70 (h := ?_)
            refine pu_ 9 71 (h := ?_)
            refine pu_ 10 72 (h := ?_)
            refine on_ 11 (some 12) (h := fun K hK => ?_)
            refine value_ (w1 := ?_) (v := ?_) (by rfl) rfl ?_ ?_
            rotate_left 2
            · go_simp
              constructor
              · rfl
              · rfl
            have HA := Lh (ha_new HB.out (.cells #[.int .i64 0, .int .i64 0, .int .i64 0, .int .i64 0] 40))
            have hge := HB.out.size
            have HB := Lh (HB.out.alloc (Nat.le_trans (Nat.le_refl _) HB.out.size) (.cells #[.int .i64 0, .int .i64 0, .int .i64 0, .int .i64 0] 40))
            refine hK.out _ _ (FF.out _ HB) (fun hHeld => ?_)
            clear hK K
            refine no_ (h := ?_)
            exact norm_ (by simp only [putAll, Act.put, List.setIfInBounds_toArray, List.set_cons_zero, List.set_cons_succ]) (hCont _ _ ⟨hge, HA.out, HB.out⟩)
          · skip
            refine value_ (w1 := ?_) (v := ?_) (by rfl) rfl ?_ ?_
            rotate_left 2
            · go_simp
              constructor
              · rfl
              · rfl
            have HA := Lh (ha_new HB.out (.cells #[.int .i64 0, .int .i64 0, .int .i64 0, .int .i64 0] 40))
            have hge := HB.out.size
            have HB := Lh (HB.out.alloc (Nat.le_trans (Nat.le_refl _) HB.out.size) (.cells #[.int .i64 0, .int .i64 0, .int .i64 0, .int .i64 0] 40))
            refine hK.out _ _ (FF.out _ HB) (fun hHeld => ?_)
            clear hK K
            refine no_ (h := ?_)
            refine on_ 6 (some 69) (h := fun K hK => ?_)
            refine gs_ Try.func34 #[.agg #[.slice A0 n0 c0, .slice A1 n1 c1, .slice A2 n2 c2, .int .i64 a.r], aP ⟨yx, yy, yz⟩, .agg #[.slice E0 m0 g0, .slice E1_ m1 g1, .slice E2_ m2 g2, .int .i64 rd]] ?_
            with_reducible refine (HD1.out _ (HV.out.below (bthen hB.out HB.out)) (HE.out.below HB.out)).mono ?_
            rintro en w7 ⟨rfl, hb⟩
            have HB := Lh (HB.out.trans (hb.mono HB.out.size))
            have HA := Lh ((hb.block _ (blk_lt HA.out)).trans HA.out)
            clear hb
            refine ⟨_, rfl, ?_⟩
            refine hK.out _ _ (FF.out _ HB) (fun hHeld => ?_)
            clear hK K
            refine no_ (h := ?_)
            refine pu_ 7 62 (h := ?_)
            refine pu_ 8 70 (h := ?_)
            refine pu_ 9 71 (h := ?_)
            refine pu_ 10 72 (h := ?_)
            exact norm_ (by simp only [putAll, Act.put, List.setIfInBounds_toArray, List.set_cons_zero, List.set_cons_succ]) (hCont _ _ ⟨hge, HA.out, HB.out⟩)
        rintro XA wj ⟨hge, HA, HB⟩
        have HA := Lh HA
        have HB := Lh HB
        have hHeld := FF.out _ HB
        refine no_ (h := ?_)
        refine pu_ 12 11 (h := ?_)
        refine on_ 13 (none) (h := fun K hK => ?_)
        have sc0 : World.cell? _ ⟨XA, 0, none⟩ = some (.int .i64 0) := (blk_cell HA.out 0).trans rfl
        have sf0 := blk_frozen HA.out 0
        have sc1 : World.cell? _ ⟨XA, 1, none⟩ = some (.int .i64 0) := (blk_cell HA.out 1).trans rfl
        have sf1 := blk_frozen HA.out 1
        have sc2 : World.cell? _ ⟨XA, 2, none⟩ = some (.int .i64 0) := (blk_cell HA.out 2).trans rfl
        have sf2 := blk_frozen HA.out 2
        have sc3 : World.cell? _ ⟨XA, 3, none⟩ = some (.int .i64 0) := (blk_cell HA.out 3).trans rfl
        have sf3 := blk_frozen HA.out 3
        refine skip_ (w1 := ?_) (by rfl) rfl ?_ ?_
        rotate_left
        · go_simp
          rfl
        have HA := Lh (bs4 HA.out (.int .i64 Xx) (.int .i64 Xy) (.int .i64 Xz) (.int .i64 Xg))
        have HB := Lh (bb4 HB.out (Nat.le_trans (Nat.le_refl _) hge) (.int .i64 Xx) (.int .i64 Xy) (.int .i64 Xz) (.int .i64 Xg))
        clear sc0 sf0 sc1 sf1 sc2 sf2 sc3 sf3
        refine hK.out _ _ (FF.out _ HB) (fun hHeld => ?_)
        clear hK K
        refine pu_ 14 13 (h := ?_)
        refine done_ (by kernel_rfl) ?_
        obtain ⟨w41, hwn⟩ : ∃ V, ((((wj.setCell ⟨XA, 0, none⟩ (.int .i64 Xx)).setCell ⟨XA, 1, none⟩ (.int .i64 Xy)).setCell ⟨XA, 2, none⟩ (.int .i64 Xz)).setCell ⟨XA, 3, none⟩ (.int .i64 Xg)) = V := ⟨_, rfl⟩
        rw [hwn] at HA HB ⊢
        clear hwn
        have HXA := HA
        have hBx := Lh (bthen hB.out HB.out)
        have HEx := Lh (HE.out.below HB.out)
        replace e0 := (HB.out.cell (p := ⟨eb, _, none⟩) el).trans e0
        replace e1 := (HB.out.cell (p := ⟨eb, _, none⟩) el).trans e1
        replace e2 := (HB.out.cell (p := ⟨eb, _, none⟩) el).trans e2
        replace e3 := (HB.out.cell (p := ⟨eb, _, none⟩) el).trans e3
        replace el := Nat.lt_of_lt_of_le el HB.out.size
        clear HA HB hge hHeld HD1 HE CAq YCq x0 x1 x2 x3 xl y0 y1 y2 yl
        have CAq := Lh ((hBx.out.block _ (blk_lt CA.out)).trans CA.out)
        have x0 : w41.cell? ⟨w.heap.size, 0, none⟩ = some (.slice A0 n0 c0) := (blk_cell CAq.out 0).trans rfl
        have x1 : w41.cell? ⟨w.heap.size, 1, none⟩ = some (.slice A1 n1 c1) := (blk_cell CAq.out 1).trans rfl
        have x2 : w41.cell? ⟨w.heap.size, 2, none⟩ = some (.slice A2 n2 c2) := (blk_cell CAq.out 2).trans rfl
        have x3 : w41.cell? ⟨w.heap.size, 3, none⟩ = some (.int .i64 a.r) := (blk_cell CAq.out 3).trans rfl
        have xl : w.heap.size < w41.heap.size := blk_lt CAq.out
        have YCq := Lh ((hBx.out.block _ (blk_lt YC.out)).trans YC.out)
        have y0 : w41.cell? ⟨w.heap.size + 1, 0, none⟩ = some (.int .i64 yx) := (blk_cell YCq.out 0).trans rfl
        have y1 : w41.cell? ⟨w.heap.size + 1, 1, none⟩ = some (.int .i64 yy) := (blk_cell YCq.out 1).trans rfl
        have y2 : w41.cell? ⟨w.heap.size + 1, 2, none⟩ = some (.int .i64 yz) := (blk_cell YCq.out 2).trans rfl
        have yl : w.heap.size + 1 < w41.heap.size := blk_lt YCq.out
        go_wp2_with fail
        have HB := Lh ((Below.refl (w41.heap.size) w41).drew)
        have FF := Lh (show ∀ V, Hid (Below (w41.heap.size) w41 V) → V.cell? ⟨w.heap.size, 0, none⟩ = some (.slice A0 n0 c0) ∧ V.cell? ⟨w.heap.size, 1, none⟩ = some (.slice A1 n1 c1) ∧ V.cell? ⟨w.heap.size, 2, none⟩ = some (.slice A2 n2 c2) ∧ V.cell? ⟨w.heap.size, 3, none⟩ = some (.int .i64 a.r) ∧ V.cell? ⟨w.heap.size + 1, 0, none⟩ = some (.int .i64 yx) ∧ V.cell? ⟨w.heap.size + 1, 1, none⟩ = some (.int .i64 yy) ∧ V.cell? ⟨w.heap.size + 1, 2, none⟩ = some (.int .i64 yz) ∧ V.cell? ⟨eb, eo + i * 4, none⟩ = some (.slice E0 m0 g0) ∧ V.cell? ⟨eb, eo + i * 4 + 1, none⟩ = some (.slice E1_ m1 g1) ∧ V.cell? ⟨eb, eo + i * 4 + 2, none⟩ = some (.slice E2_ m2 g2) ∧ V.cell? ⟨eb, eo + i * 4 + 3, none⟩ = some (.int .i64 rd) from fun V HB => ⟨(HB.out.cell (p := ⟨w.heap.size, 0, none⟩) (xl)).trans x0, (HB.out.cell (p := ⟨w.heap.size, 1, none⟩) (xl)).trans x1, (HB.out.cell (p := ⟨w.heap.size, 2, none⟩) (xl)).trans x2, (HB.out.cell (p := ⟨w.heap.size, 3, none⟩) (xl)).trans x3, (HB.out.cell (p := ⟨w.heap.size + 1, 0, none⟩) (yl)).trans y0, (HB.out.cell (p := ⟨w.heap.size + 1, 1, none⟩) (yl)).trans y1, (HB.out.cell (p := ⟨w.heap.size + 1, 2, none⟩) (yl)).trans y2, (HB.out.cell (p := ⟨eb, eo + i * 4, none⟩) (el)).trans e0, (HB.out.cell (p := ⟨eb, eo + i * 4 + 1, none⟩) (el)).trans e1, (HB.out.cell (p := ⟨eb, eo + i * 4 + 2, none⟩) (el)).trans e2, (HB.out.cell (p := ⟨eb, eo + i * 4 + 3, none⟩) (el)).trans e3⟩)
        refine start_ (n := 15) (S := fun w' => w'.cell? ⟨w.heap.size, 0, none⟩ = some (.slice A0 n0 c0) ∧ w'.cell? ⟨w.heap.size, 1, none⟩ = some (.slice A1 n1 c1) ∧ w'.cell? ⟨w.heap.size, 2, none⟩ = some (.slice A2 n2 c2) ∧ w'.cell? ⟨w.heap.size, 3, none⟩ = some (.int .i64 a.r) ∧ w'.cell? ⟨w.heap.size + 1, 0, none⟩ = some (.int .i64 yx) ∧ w'.cell? ⟨w.heap.size + 1, 1, none⟩ = some (.int .i64 yy) ∧ w'.cell? ⟨w.heap.size + 1, 2, none⟩ = some (.int .i64 yz) ∧ w'.cell? ⟨eb, eo + i * 4, none⟩ = some (.slice E0 m0 g0) ∧ w'.cell? ⟨eb, eo + i * 4 + 1, none⟩ = some (.slice E1_ m1 g1) ∧ w'.cell? ⟨eb, eo + i * 4 + 2, none⟩ = some (.slice E2_ m2 g2) ∧ w'.cell? ⟨eb, eo + i * 4 + 3, none⟩ = some (.int .i64 rd)) (ds := []) (MT 0 15) (by kernel_rfl) rfl rfl (FF.out _ HB) (fun hHeld => ?_)
        obtain ⟨wd, hwd⟩ : ∃ x, w41.drew = x := ⟨_, rfl⟩
        rw [hwd] at HB hHeld ⊢
        clear hwd
        refine pu_ 2 76 (h := ?_)
        refine pu_ 3 77 (h := ?_)
        refine pu_ 4 78 (h := ?_)
        refine ta_ 0 74 hHeld (h := ?_)
        refine ta_ 1 75 hHeld (h := ?_)
        refine ta_ 5 79 hHeld (h := ?_)
        refine join_ (σ := Nat) 3 (MT 12 3) (fun s => [(15, .pointer (some ⟨s, 0, none⟩)), (80, .tuple #[.int .i64 (k : Int), .agg #[.int .i64 Xx, .int .i64 Xy, .int .i64 Xz, .int .i64 Xg], .bool Xo]), (73, .tuple #[.int .i64 (k : Int), .agg #[.int .i64 Xx, .int .i64 Xy, .int .i64 Xz, .int .i64 Xg], .bool Xo]), (81, .int .i64 (k : Int)), (82, .agg #[.int .i64 Xx, .int .i64 Xy, .int .i64 Xz, .int .i64 Xg]), (83, .bool Xo)]) (fun s w' => w41.heap.size ≤ s ∧ w'.heap[s]? = some (.cells #[.int .i64 0, .int .i64 0, .int .i64 0, .int .i64 0] 40 (0, 0)) ∧ Below (w41.heap.size) w41 w') ?_ ?_
        rotate_left
        · intro hCont
          refine two_ (i := 6) (j := 11) (Ni := some 80) (Nj := some 15) (MT 7 8) #[true, true, true, true, true, true, false, false, false, false, false, true, false, false, false] rfl rfl rfl rfl (by kernel_rfl) (by decide) (by decide) (fun K hK => ?_) (fun K hK => ?_)
          · skip
            refine gs_ Try.func39 #[.agg #[.slice A0 n0 c0, .slice A1 n1 c1, .slice A2 n2 c2, .int .i64 a.r], aP ⟨yx, yy, yz⟩, .agg #[.slice E0 m0 g0, .slice E1_ m1 g1, .slice E2_ m2 g2, .int .i64 rd]] ?_
            with_reducible refine (HD2.out _ (HV.out.below (bthen hBx.out HB.out)) (HEx.out.below HB.out) HLD.out).mono ?_
            rintro en w7 ⟨rfl, hb⟩
            have HB := Lh (HB.out.trans (hb.mono HB.out.size))
            clear hb
            refine ⟨_, rfl, ?_⟩
            refine hK.out _ _ (FF.out _ HB) (fun hHeld => ?_)
            clear hK K
            refine no_ (h := ?_)
            refine pu_ 7 73 (h := ?_)
            refine pu_ 8 81 (h := ?_)
            refine pu_ 9 82 (h := ?_)
            refine pu_ 10 83 (h := ?_)
            refine on_ 11 (some 15) (h := fun K hK => ?_)
            refine value_ (w1 := ?_) (v := ?_) (by rfl) rfl ?_ ?_
            rotate_left 2
            · go_simp
              constructor
              · rfl
              · rfl
            have HA := Lh (ha_new HB.out (.cells #[.int .i64 0, .int .i64 0, .int .i64 0, .int .i64 0] 40))
            have hge := HB.out.size
            have HB := Lh (HB.out.alloc (Nat.le_trans (Nat.le_refl _) HB.out.size) (.cells #[.int .i64 0, .int .i64 0, .int .i64 0, .int .i64 0] 40))
            refine hK.out _ _ (FF.out _ HB) (fun hHeld => ?_)
            clear hK K
            refine no_ (h := ?_)
            exact norm_ (by simp only [putAll, Act.put, List.setIfInBounds_toArray, List.set_cons_zero, List.set_cons_succ]) (hCont _ _ ⟨hge, HA.out, HB.out⟩)
          · skip
            refine value_ (w1 := ?_) (v := ?_) (by rfl) rfl ?_ ?_
            rotate_left 2
            · go_simp
              constructor
              · rfl
              · rfl
            have HA := Lh (ha_new HB.out (.cells #[.int .i64 0, .int .i64 0, .int .i64 0, .int .i64 0] 40))
            have hge := HB.out.size
            have HB := Lh (HB.out.alloc (Nat.le_trans (Nat.le_refl _) HB.out.size) (.cells #[.int .i64 0, .int .i64 0, .int .i64 0, .int .i64 0] 40))
            refine hK.out _ _ (FF.out _ HB) (fun hHeld => ?_)
            clear hK K
            refine no_ (h := ?_)
            refine on_ 6 (some 80) (h := fun K hK => ?_)
            refine gs_ Try.func39 #[.agg #[.slice A0 n0 c0, .slice A1 n1 c1, .slice A2 n2 c2, .int .i64 a.r], aP ⟨yx, yy, yz⟩, .agg #[.slice E0 m0 g0, .slice E1_ m1 g1, .slice E2_ m2 g2, .int .i64 rd]] ?_
            with_reducible refine (HD2.out _ (HV.out.below (bthen hBx.out HB.out)) (HEx.out.below HB.out) HLD.out).mono ?_
            rintro en w7 ⟨rfl, hb⟩
            have HB := Lh (HB.out.trans (hb.mono HB.out.size))
            have HA := Lh ((hb.block _ (blk_lt HA.out)).trans HA.out)
            clear hb
            refine ⟨_, rfl, ?_⟩
            refine hK.out _ _ (FF.out _ HB) (fun hHeld => ?_)
            clear hK K
            refine no_ (h := ?_)
            refine pu_ 7 73 (h := ?_)
            refine pu_ 8 81 (h := ?_)
            refine pu_ 9 82 (h := ?_)
            refine pu_ 10 83 (h := ?_)
            exact norm_ (by simp only [putAll, Act.put, List.setIfInBounds_toArray, List.set_cons_zero, List.set_cons_succ]) (hCont _ _ ⟨hge, HA.out, HB.out⟩)
        rintro YA wj ⟨hge, HA, HB⟩
        have HA := Lh HA
        have HB := Lh HB
        have hHeld := FF.out _ HB
        refine no_ (h := ?_)
        refine pu_ 12 14 (h := ?_)
        refine on_ 13 (none) (h := fun K hK => ?_)
        have sc0 : World.cell? _ ⟨YA, 0, none⟩ = some (.int .i64 0) := (blk_cell HA.out 0).trans rfl
        have sf0 := blk_frozen HA.out 0
        have sc1 : World.cell? _ ⟨YA, 1, none⟩ = some (.int .i64 0) := (blk_cell HA.out 1).trans rfl
        have sf1 := blk_frozen HA.out 1
        have sc2 : World.cell? _ ⟨YA, 2, none⟩ = some (.int .i64 0) := (blk_cell HA.out 2).trans rfl
        have sf2 := blk_frozen HA.out 2
        have sc3 : World.cell? _ ⟨YA, 3, none⟩ = some (.int .i64 0) := (blk_cell HA.out 3).trans rfl
        have sf3 := blk_frozen HA.out 3
        refine skip_ (w1 := ?_) (by rfl) rfl ?_ ?_
        rotate_left
        · go_simp
          rfl
        have HA := Lh (bs4 HA.out (.int .i64 Xx) (.int .i64 Xy) (.int .i64 Xz) (.int .i64 Xg))
        have HB := Lh (bb4 HB.out (Nat.le_trans (Nat.le_refl _) hge) (.int .i64 Xx) (.int .i64 Xy) (.int .i64 Xz) (.int .i64 Xg))
        clear sc0 sf0 sc1 sf1 sc2 sf2 sc3 sf3
        refine hK.out _ _ (FF.out _ HB) (fun hHeld => ?_)
        clear hK K
        refine pu_ 14 16 (h := ?_)
        refine done_ (by kernel_rfl) ?_
        obtain ⟨w42, hwn⟩ : ∃ V, ((((wj.setCell ⟨YA, 0, none⟩ (.int .i64 Xx)).setCell ⟨YA, 1, none⟩ (.int .i64 Xy)).setCell ⟨YA, 2, none⟩ (.int .i64 Xz)).setCell ⟨YA, 3, none⟩ (.int .i64 Xg)) = V := ⟨_, rfl⟩
        rw [hwn] at HA HB ⊢
        clear hwn
        have HYA := HA
        replace hBx := Lh (bthen hBx.out HB.out)
        replace HXA := Lh ((HB.out.block _ (blk_lt HXA.out)).trans HXA.out)
        clear HA HB hge hHeld HD2 HEx CAq YCq x0 x1 x2 x3 xl y0 y1 y2 yl e0 e1 e2 e3 el
        have q0 : w42.cell? ⟨XA, 0, none⟩ = some (.int .i64 Xx) := (blk_cell HXA.out 0).trans rfl
        have r0 : w42.cell? ⟨YA, 0, none⟩ = some (.int .i64 Xx) := (blk_cell HYA.out 0).trans rfl
        have q1 : w42.cell? ⟨XA, 1, none⟩ = some (.int .i64 Xy) := (blk_cell HXA.out 1).trans rfl
        have r1 : w42.cell? ⟨YA, 1, none⟩ = some (.int .i64 Xy) := (blk_cell HYA.out 1).trans rfl
        have q2 : w42.cell? ⟨XA, 2, none⟩ = some (.int .i64 Xz) := (blk_cell HXA.out 2).trans rfl
        have r2 : w42.cell? ⟨YA, 2, none⟩ = some (.int .i64 Xz) := (blk_cell HYA.out 2).trans rfl
        have q3 : w42.cell? ⟨XA, 3, none⟩ = some (.int .i64 Xg) := (blk_cell HXA.out 3).trans rfl
        have r3 : w42.cell? ⟨YA, 3, none⟩ = some (.int .i64 Xg) := (blk_cell HYA.out 3).trans rfl
        have ql : XA < w42.heap.size := blk_lt HXA.out
        have rl : YA < w42.heap.size := blk_lt HYA.out
        have heq : eqP Xx Xy Xz Xx Xy Xz = true := eqP_yes rfl
        clear HXA HYA
        go_wp2
        go_roundw
        case rel => exact ⟨i + 1, by omega, by go_num, hBx⟩
        case measure => simp [intOf]; omega
      | false =>
        clear HBB HC1 HC2 hi
        replace CA := Lh ((hB.out.block _ (blk_lt CA.out)).trans CA.out)
        replace YC := Lh ((hB.out.block _ (blk_lt YC.out)).trans YC.out)
        replace HV := Lh (HV.out.below hB.out)
        replace H0 := Lh (H0.out.below hB.out)
        replace HL := Lh (HL.out.below hB.out)
        replace W := Lh (bthen W.out hB.out)
        clear  hB
        have HLBB := HLB.out
        have hq20 : (overF a 0 l).length ≤ 20 := by have := overF_len a l 0; rw [HN.out] at this; omega
        have HO1 := Lh (fun (W : World) (h : CrV W (.agg #[.slice A0 n0 c0, .slice A1 n1 c1, .slice A2 n2 c2, .int .i64 a.r]) a) (h2 : RdC W A l) => over_calls h l A n c h2 HN.out (by omega))
        have HO2 := Lh (fun (W : World) (h : CrV W (.agg #[.slice A0 n0 c0, .slice A1 n1 c1, .slice A2 n2 c2, .int .i64 a.r]) a) (h2 : RdC W A l) => rover_calls h HAB.out l A n c h2 HLBB HN.out (by omega))
        have HN1 := Lh (fun (W : World) (h : CrV W (.agg #[.slice A0 n0 c0, .slice A1 n1 c1, .slice A2 n2 c2, .int .i64 a.r]) a) (h2 : RdC W A l) => near_calls h l A n c h2 HN.out (by omega))
        have HN2 := Lh (fun (W : World) (h : CrV W (.agg #[.slice A0 n0 c0, .slice A1 n1 c1, .slice A2 n2 c2, .int .i64 a.r]) a) (h2 : RdC W A l) => rnear_calls h HAB.out l A n c h2 HLBB HN.out (by omega))
        have HY1 := Lh (fun (W : World) (x : P3) (h2 : RdC W A l) => ray_calls x ⟨yx, yy, yz⟩ l A n c W h2 HN.out (by omega))
        have HY2 := Lh (fun (W : World) (x : P3) (h2 : RdC W A l) => rray_calls x ⟨yx, yy, yz⟩ l A n c W h2 HLBB HN.out (by omega))
        obtain ⟨OL, hOL⟩ : ∃ o, overF a 0 l = o := ⟨_, rfl⟩
        rw [hOL] at HO1 HO2 hq20
        obtain ⟨q, hq⟩ : ∃ q, OL.length = q := ⟨_, rfl⟩
        have HO1 := Lh (show ∀ (W : World), CrV W (.agg #[.slice A0 n0 c0, .slice A1 n1 c1, .slice A2 n2 c2, .int .i64 a.r]) a → RdC W A l → Calls Try.prog 41 #[.agg #[.slice A0 n0 c0, .slice A1 n1 c1, .slice A2 n2 c2, .int .i64 a.r], .slice A n c] W (fun en w' => ∃ A, en = .returned (.slice A q q) ∧ RdNn w' A OL ∧ Below W.heap.size W w') from by rw [← hq]; exact HO1.out)
        have HO2 := Lh (show ∀ (W : World), CrV W (.agg #[.slice A0 n0 c0, .slice A1 n1 c1, .slice A2 n2 c2, .int .i64 a.r]) a → RdC W A l → Calls Try.prog 42 #[.agg #[.slice A0 n0 c0, .slice A1 n1 c1, .slice A2 n2 c2, .int .i64 a.r], .slice A n c] W (fun en w' => ∃ A c, en = .returned (.slice A q c) ∧ RdNn w' A OL ∧ Below W.heap.size W w') from by rw [← hq]; exact HO2.out)
        obtain ⟨NR, hNR⟩ : ∃ r, nearS a l = r := ⟨_, rfl⟩
        rw [hNR] at HN1 HN2
        obtain ⟨⟨nj, ⟨Sx, Sy, Sz⟩, Sg⟩, so⟩ := NR
        (try simp only at HN1 HN2)
        rw [hq] at hq20
        have HQ := Lh hq
        clear hOL hNR HLBB hq
        have x0 : wq.cell? ⟨w.heap.size, 0, none⟩ = some (.slice A0 n0 c0) := (blk_cell CA.out 0).trans rfl
        have x1 : wq.cell? ⟨w.heap.size, 1, none⟩ = some (.slice A1 n1 c1) := (blk_cell CA.out 1).trans rfl
        have x2 : wq.cell? ⟨w.heap.size, 2, none⟩ = some (.slice A2 n2 c2) := (blk_cell CA.out 2).trans rfl
        have x3 : wq.cell? ⟨w.heap.size, 3, none⟩ = some (.int .i64 a.r) := (blk_cell CA.out 3).trans rfl
        have xl : w.heap.size < wq.heap.size := blk_lt CA.out
        go_wp2_with fail
        have HB := Lh ((Below.refl (wq.heap.size) wq).drew)
        have FF := Lh (show ∀ V, Hid (Below (wq.heap.size) wq V) → V.cell? ⟨w.heap.size, 0, none⟩ = some (.slice A0 n0 c0) ∧ V.cell? ⟨w.heap.size, 1, none⟩ = some (.slice A1 n1 c1) ∧ V.cell? ⟨w.heap.size, 2, none⟩ = some (.slice A2 n2 c2) ∧ V.cell? ⟨w.heap.size, 3, none⟩ = some (.int .i64 a.r) from fun V HB => ⟨(HB.out.cell (p := ⟨w.heap.size, 0, none⟩) (xl)).trans x0, (HB.out.cell (p := ⟨w.heap.size, 1, none⟩) (xl)).trans x1, (HB.out.cell (p := ⟨w.heap.size, 2, none⟩) (xl)).trans x2, (HB.out.cell (p := ⟨w.heap.size, 3, none⟩) (xl)).trans x3⟩)
        refine start_ (n := 8) (S := fun w' => w'.cell? ⟨w.heap.size, 0, none⟩ = some (.slice A0 n0 c0) ∧ w'.cell? ⟨w.heap.size, 1, none⟩ = some (.slice A1 n1 c1) ∧ w'.cell? ⟨w.heap.size, 2, none⟩ = some (.slice A2 n2 c2) ∧ w'.cell? ⟨w.heap.size, 3, none⟩ = some (.int .i64 a.r)) (ds := []) (MT 0 8) (by kernel_rfl) rfl rfl (FF.out _ HB) (fun hHeld => ?_)
        obtain ⟨wd, hwd⟩ : ∃ x, wq.drew = x := ⟨_, rfl⟩
        rw [hwd] at HB hHeld ⊢
        clear hwd
        refine pu_ 1 98 (h := ?_)
        refine pu_ 4 101 (h := ?_)
        refine ta_ 0 97 hHeld (h := ?_)
        refine ta_ 3 100 hHeld (h := ?_)
        refine on_ 2 (some 99) (h := fun K hK => ?_)
        refine gs_ Try.func41 #[.agg #[.slice A0 n0 c0, .slice A1 n1 c1, .slice A2 n2 c2, .int .i64 a.r], .slice A n c] ?_
        with_reducible refine (HO1.out _ (HV.out.below HB.out) (HL.out.below HB.out)).mono ?_
        rintro en w81 ⟨O1, rfl, hx, hb⟩
        have HB := Lh (HB.out.trans (hb.mono HB.out.size))
        have HX1 := Lh hx
        clear hx
        clear hb
        refine ⟨_, rfl, ?_⟩
        refine hK.out _ _ (FF.out _ HB) (fun hHeld => ?_)
        clear hK K
        refine no_ (h := ?_)
        refine on_ 5 (some 102) (h := fun K hK => ?_)
        refine gs_ Try.func42 #[.agg #[.slice A0 n0 c0, .slice A1 n1 c1, .slice A2 n2 c2, .int .i64 a.r], .slice A n c] ?_
        with_reducible refine (HO2.out _ (HV.out.below HB.out) (HL.out.below HB.out)).mono ?_
        rintro en w82 ⟨O2, k2, rfl, hx, hb⟩
        have HB := Lh (HB.out.trans (hb.mono HB.out.size))
        have HX2 := Lh hx
        have HX1 := Lh (HX1.out.below hb)
        clear hx
        clear hb
        refine ⟨_, rfl, ?_⟩
        refine hK.out _ _ (FF.out _ HB) (fun hHeld => ?_)
        clear hK K
        refine no_ (h := ?_)
        refine on_ 6 (some 103) (h := fun K hK => ?_)
        refine gs_ Try.func40 #[.slice O1 q q, .slice O2 q k2] ?_
        with_reducible refine (numbers_calls OL O1 O2 q q k2 _ HX1.out HX2.out HQ.out (by omega)).mono ?_
        rintro en w83 ⟨rfl, hb⟩
        have HB := Lh (HB.out.trans (hb.mono HB.out.size))
        clear HX1 HX2
        clear hb
        refine ⟨_, rfl, ?_⟩
        refine hK.out _ _ (FF.out _ HB) (fun hHeld => ?_)
        clear hK K
        refine no_ (h := ?_)
        refine pu_ 7 104 (h := ?_)
        refine done_ (by kernel_rfl) ?_
        replace CA := Lh ((HB.out.block _ (blk_lt CA.out)).trans CA.out)
        replace YC := Lh ((HB.out.block _ (blk_lt YC.out)).trans YC.out)
        replace HV := Lh (HV.out.below HB.out)
        replace H0 := Lh (H0.out.below HB.out)
        replace HL := Lh (HL.out.below HB.out)
        replace W := Lh (bthen W.out HB.out)
        clear x0 x1 x2 x3 xl HB hHeld HO1 HO2 HQ
        have x0 : w83.cell? ⟨w.heap.size, 0, none⟩ = some (.slice A0 n0 c0) := (blk_cell CA.out 0).trans rfl
        have x1 : w83.cell? ⟨w.heap.size, 1, none⟩ = some (.slice A1 n1 c1) := (blk_cell CA.out 1).trans rfl
        have x2 : w83.cell? ⟨w.heap.size, 2, none⟩ = some (.slice A2 n2 c2) := (blk_cell CA.out 2).trans rfl
        have x3 : w83.cell? ⟨w.heap.size, 3, none⟩ = some (.int .i64 a.r) := (blk_cell CA.out 3).trans rfl
        have xl : w.heap.size < w83.heap.size := blk_lt CA.out
        go_wp2_with fail
        with_reducible refine (HN1.out _ HV.out HL.out).mono ?_
        rintro en w4 ⟨rfl, hb⟩
        replace CA := Lh ((hb.block _ (blk_lt CA.out)).trans CA.out)
        replace YC := Lh ((hb.block _ (blk_lt YC.out)).trans YC.out)
        replace HV := Lh (HV.out.below hb)
        replace H0 := Lh (H0.out.below hb)
        replace HL := Lh (HL.out.below hb)
        replace W := Lh (bthen W.out hb)
        clear hb x0 x1 x2 x3 xl
        go_upto_region 16 with fail
        have bz := ((Below.refl w4.heap.size w4).alloc (Nat.le_refl _) (.cells #[.int .i64 Sx, .int .i64 Sy, .int .i64 Sz, .int .i64 Sg] 40))
        have nz0 := heap_alloc_new w4 (.cells #[.int .i64 Sx, .int .i64 Sy, .int .i64 Sz, .int .i64 Sg] 40)
        obtain ⟨w5, hwz⟩ : ∃ V, (w4.alloc (.cells #[.int .i64 Sx, .int .i64 Sy, .int .i64 Sz, .int .i64 Sg] 40)) = V := ⟨_, rfl⟩
        rw [hwz] at bz nz0 ⊢
        replace CA := Lh ((bz.block _ (blk_lt CA.out)).trans CA.out)
        replace YC := Lh ((bz.block _ (blk_lt YC.out)).trans YC.out)
        replace HV := Lh (HV.out.below bz)
        replace H0 := Lh (H0.out.below bz)
        replace HL := Lh (HL.out.below bz)
        replace W := Lh (bthen W.out bz)
        have XN := Lh nz0
        clear hwz bz nz0
        obtain ⟨XB, hXB⟩ : ∃ n, w4.heap.size = n := ⟨_, rfl⟩
        rw [hXB] at XN ⊢
        clear hXB HN1
        have x0 : w5.cell? ⟨w.heap.size, 0, none⟩ = some (.slice A0 n0 c0) := (blk_cell CA.out 0).trans rfl
        have x1 : w5.cell? ⟨w.heap.size, 1, none⟩ = some (.slice A1 n1 c1) := (blk_cell CA.out 1).trans rfl
        have x2 : w5.cell? ⟨w.heap.size, 2, none⟩ = some (.slice A2 n2 c2) := (blk_cell CA.out 2).trans rfl
        have x3 : w5.cell? ⟨w.heap.size, 3, none⟩ = some (.int .i64 a.r) := (blk_cell CA.out 3).trans rfl
        have xl : w.heap.size < w5.heap.size := blk_lt CA.out
        go_wp2_with fail
        with_reducible refine (HN2.out _ HV.out HL.out).mono ?_
        rintro en w6 ⟨rfl, hb⟩
        replace CA := Lh ((hb.block _ (blk_lt CA.out)).trans CA.out)
        replace YC := Lh ((hb.block _ (blk_lt YC.out)).trans YC.out)
        replace XN := Lh ((hb.block _ (blk_lt XN.out)).trans XN.out)
        replace HV := Lh (HV.out.below hb)
        replace H0 := Lh (H0.out.below hb)
        replace HL := Lh (HL.out.below hb)
        replace W := Lh (bthen W.out hb)
        clear hb x0 x1 x2 x3 xl
        go_upto_region 17 with fail
        have bz := ((Below.refl w6.heap.size w6).alloc (Nat.le_refl _) (.cells #[.int .i64 Sx, .int .i64 Sy, .int .i64 Sz, .int .i64 Sg] 40))
        have nz0 := heap_alloc_new w6 (.cells #[.int .i64 Sx, .int .i64 Sy, .int .i64 Sz, .int .i64 Sg] 40)
        obtain ⟨w7, hwz⟩ : ∃ V, (w6.alloc (.cells #[.int .i64 Sx, .int .i64 Sy, .int .i64 Sz, .int .i64 Sg] 40)) = V := ⟨_, rfl⟩
        rw [hwz] at bz nz0 ⊢
        replace CA := Lh ((bz.block _ (blk_lt CA.out)).trans CA.out)
        replace YC := Lh ((bz.block _ (blk_lt YC.out)).trans YC.out)
        replace XN := Lh ((bz.block _ (blk_lt XN.out)).trans XN.out)
        replace HV := Lh (HV.out.below bz)
        replace H0 := Lh (H0.out.below bz)
        replace HL := Lh (HL.out.below bz)
        replace W := Lh (bthen W.out bz)
        have YN := Lh nz0
        clear hwz bz nz0
        obtain ⟨YB, hYB⟩ : ∃ n, w6.heap.size = n := ⟨_, rfl⟩
        rw [hYB] at YN ⊢
        clear hYB HN2
        have q0 : w7.cell? ⟨XB, 0, none⟩ = some (.int .i64 Sx) := (blk_cell XN.out 0).trans rfl
        have q1 : w7.cell? ⟨XB, 1, none⟩ = some (.int .i64 Sy) := (blk_cell XN.out 1).trans rfl
        have q2 : w7.cell? ⟨XB, 2, none⟩ = some (.int .i64 Sz) := (blk_cell XN.out 2).trans rfl
        have q3 : w7.cell? ⟨XB, 3, none⟩ = some (.int .i64 Sg) := (blk_cell XN.out 3).trans rfl
        have ql : XB < w7.heap.size := blk_lt XN.out
        have r0 : w7.cell? ⟨YB, 0, none⟩ = some (.int .i64 Sx) := (blk_cell YN.out 0).trans rfl
        have r1 : w7.cell? ⟨YB, 1, none⟩ = some (.int .i64 Sy) := (blk_cell YN.out 1).trans rfl
        have r2 : w7.cell? ⟨YB, 2, none⟩ = some (.int .i64 Sz) := (blk_cell YN.out 2).trans rfl
        have r3 : w7.cell? ⟨YB, 3, none⟩ = some (.int .i64 Sg) := (blk_cell YN.out 3).trans rfl
        have rl : YB < w7.heap.size := blk_lt YN.out
        have x0 : w7.cell? ⟨w.heap.size, 0, none⟩ = some (.slice A0 n0 c0) := (blk_cell CA.out 0).trans rfl
        have x1 : w7.cell? ⟨w.heap.size, 1, none⟩ = some (.slice A1 n1 c1) := (blk_cell CA.out 1).trans rfl
        have x2 : w7.cell? ⟨w.heap.size, 2, none⟩ = some (.slice A2 n2 c2) := (blk_cell CA.out 2).trans rfl
        have x3 : w7.cell? ⟨w.heap.size, 3, none⟩ = some (.int .i64 a.r) := (blk_cell CA.out 3).trans rfl
        have xl : w.heap.size < w7.heap.size := blk_lt CA.out
        have heq : eqP Sx Sy Sz Sx Sy Sz = true := eqP_yes rfl
        go_upto_region 19 with fail
        clear q0 q1 q2 q3 ql r0 r1 r2 r3 rl x0 x1 x2 x3 xl heq XN YN
        go_upto_region 20 with fail
        have bz := (Below.refl w7.heap.size w7).alloc (Nat.le_refl _) (.cells #[.int .i64 0, .int .i64 0, .int .i64 0] 23)
        have nz0 := heap_alloc_new w7 (.cells #[.int .i64 0, .int .i64 0, .int .i64 0] 23)
        obtain ⟨w8, hwz⟩ : ∃ V, (w7.alloc (.cells #[.int .i64 0, .int .i64 0, .int .i64 0] 23)) = V := ⟨_, rfl⟩
        rw [hwz] at bz nz0 ⊢
        have HBZ := Lh bz
        have HLo := HL
        have YCo := YC
        have Wo := W
        replace CA := Lh ((bz.block _ (blk_lt CA.out)).trans CA.out)
        replace YC := Lh ((bz.block _ (blk_lt YC.out)).trans YC.out)
        replace HV := Lh (HV.out.below bz)
        replace H0 := Lh (H0.out.below bz)
        replace HL := Lh (HL.out.below bz)
        replace W := Lh (bthen W.out bz)
        have FN := Lh nz0
        clear hwz bz nz0
        obtain ⟨FB, hFB⟩ : ∃ n, w7.heap.size = n := ⟨_, rfl⟩
        rw [hFB] at FN HBZ ⊢
        have HFB := Lh hFB
        clear hFB
        have x0 : w8.cell? ⟨w.heap.size, 0, none⟩ = some (.slice A0 n0 c0) := (blk_cell CA.out 0).trans rfl
        have x1 : w8.cell? ⟨w.heap.size, 1, none⟩ = some (.slice A1 n1 c1) := (blk_cell CA.out 1).trans rfl
        have x2 : w8.cell? ⟨w.heap.size, 2, none⟩ = some (.slice A2 n2 c2) := (blk_cell CA.out 2).trans rfl
        have x3 : w8.cell? ⟨w.heap.size, 3, none⟩ = some (.int .i64 a.r) := (blk_cell CA.out 3).trans rfl
        have xl : w.heap.size < w8.heap.size := blk_lt CA.out
        have f0 : w8.cell? ⟨FB, 0, none⟩ = some (.int .i64 0) := (blk_cell FN.out 0).trans rfl
        have f1 : w8.cell? ⟨FB, 1, none⟩ = some (.int .i64 0) := (blk_cell FN.out 1).trans rfl
        have f2 : w8.cell? ⟨FB, 2, none⟩ = some (.int .i64 0) := (blk_cell FN.out 2).trans rfl
        have fl : FB < w8.heap.size := blk_lt FN.out
        by_cases t0 : 0 < n0
        · have d0 : decide (0 < (n0 : Int)) = true := decide_eq_true (by omega)
          have h0l : 0 < a.p.length := by rw [HN0.out]; exact t0
          obtain ⟨b0, o0, rfl, lb, p0, p1, p2⟩ := H0.out.1.get 0 h0l
          obtain ⟨O, hO⟩ : ∃ O, a.p[0] = O := ⟨_, rfl⟩
          rw [hO] at p0 p1 p2
          obtain ⟨fx, fy, fz⟩ := O
          simp only [Nat.zero_mul, Nat.add_zero] at p0 p1 p2
          have ti : (0 : Int) < (n0 : Int) := by omega
          clear hO h0l
          have ff0 : w8.frozen? ⟨FB, 0, none⟩ = false := blk_frozen FN.out 0
          have ff1 : w8.frozen? ⟨FB, 1, none⟩ = false := blk_frozen FN.out 1
          have ff2 : w8.frozen? ⟨FB, 2, none⟩ = false := blk_frozen FN.out 2
          go_upto_region 22 with fail
          have FN2 := Lh (bs3 FN.out (.int .i64 fx) (.int .i64 fy) (.int .i64 fz))
          have HB2 := Lh (bb3 HBZ.out (Nat.le_refl _) (.int .i64 fx) (.int .i64 fy) (.int .i64 fz))
          obtain ⟨w99, hwn⟩ : ∃ V, (((w8.setCell ⟨FB, 0, none⟩ (.int .i64 fx)).setCell ⟨FB, 1, none⟩ (.int .i64 fy)).setCell ⟨FB, 2, none⟩ (.int .i64 fz)) = V := ⟨_, rfl⟩
          rw [hwn] at FN2 HB2 ⊢
          rw [← HFB.out] at HB2
          have HL := Lh (HLo.out.below HB2.out)
          have YC := Lh ((HB2.out.block _ (blk_lt YCo.out)).trans YCo.out)
          have W := Lh (bthen Wo.out HB2.out)
          have FN := FN2
          clear hwn HLo YCo Wo FN2 HB2 p0 p1 p2 lb ti ff0 ff1 ff2 d0 t0
          clear x0 x1 x2 x3 xl f0 f1 f2 fl HBZ HFB
          have HZ1 := Lh (fun W => HY1.out W ⟨fx, fy, fz⟩)
          have HZ2 := Lh (fun W => HY2.out W ⟨fx, fy, fz⟩)
          obtain ⟨RY, hRY⟩ : ∃ r, rayF ⟨fx, fy, fz⟩ ⟨yx, yy, yz⟩ l = r := ⟨_, rfl⟩
          rw [hRY] at HZ1 HZ2
          obtain ⟨⟨ry1, ry2⟩, ry3⟩ := RY
          (try simp only at HZ1 HZ2)
          clear hRY HY1 HY2
          have f0 : w99.cell? ⟨FB, 0, none⟩ = some (.int .i64 fx) := (blk_cell FN.out 0).trans rfl
          have f1 : w99.cell? ⟨FB, 1, none⟩ = some (.int .i64 fy) := (blk_cell FN.out 1).trans rfl
          have f2 : w99.cell? ⟨FB, 2, none⟩ = some (.int .i64 fz) := (blk_cell FN.out 2).trans rfl
          have fl : FB < w99.heap.size := blk_lt FN.out
          have y0 : w99.cell? ⟨w.heap.size + 1, 0, none⟩ = some (.int .i64 yx) := (blk_cell YC.out 0).trans rfl
          have y1 : w99.cell? ⟨w.heap.size + 1, 1, none⟩ = some (.int .i64 yy) := (blk_cell YC.out 1).trans rfl
          have y2 : w99.cell? ⟨w.heap.size + 1, 2, none⟩ = some (.int .i64 yz) := (blk_cell YC.out 2).trans rfl
          have yl : w.heap.size + 1 < w99.heap.size := blk_lt YC.out
          go_wp2_with fail
          with_reducible refine (HZ1.out _ HL.out).mono ?_
          rintro en w9 ⟨rfl, hb⟩
          replace YC := Lh ((hb.block _ (blk_lt YC.out)).trans YC.out)
          replace FN := Lh ((hb.block _ (blk_lt FN.out)).trans FN.out)
          replace HL := Lh (HL.out.below hb)
          replace W := Lh (bthen W.out hb)
          clear hb f0 f1 f2 fl y0 y1 y2 yl
          have f0 : w9.cell? ⟨FB, 0, none⟩ = some (.int .i64 fx) := (blk_cell FN.out 0).trans rfl
          have f1 : w9.cell? ⟨FB, 1, none⟩ = some (.int .i64 fy) := (blk_cell FN.out 1).trans rfl
          have f2 : w9.cell? ⟨FB, 2, none⟩ = some (.int .i64 fz) := (blk_cell FN.out 2).trans rfl
          have fl : FB < w9.heap.size := blk_lt FN.out
          have y0 : w9.cell? ⟨w.heap.size + 1, 0, none⟩ = some (.int .i64 yx) := (blk_cell YC.out 0).trans rfl
          have y1 : w9.cell? ⟨w.heap.size + 1, 1, none⟩ = some (.int .i64 yy) := (blk_cell YC.out 1).trans rfl
          have y2 : w9.cell? ⟨w.heap.size + 1, 2, none⟩ = some (.int .i64 yz) := (blk_cell YC.out 2).trans rfl
          have yl : w.heap.size + 1 < w9.heap.size := blk_lt YC.out
          go_wp2_with fail
          with_reducible refine (HZ2.out _ HL.out).mono ?_
          rintro en w10 ⟨rfl, hb⟩
          replace YC := Lh ((hb.block _ (blk_lt YC.out)).trans YC.out)
          replace FN := Lh ((hb.block _ (blk_lt FN.out)).trans FN.out)
          replace HL := Lh (HL.out.below hb)
          replace W := Lh (bthen W.out hb)
          clear hb f0 f1 f2 fl y0 y1 y2 yl
          go_wp2
          go_ret
          exact ⟨rfl, W.out⟩
        · have d0 : decide (0 < (n0 : Int)) = false := decide_eq_false (by omega)
          go_upto_region 22 with fail
          clear x0 x1 x2 x3 xl f0 f1 f2 fl d0 t0 HLo YCo Wo HBZ HFB
          have HZ1 := Lh (fun W => HY1.out W ⟨0, 0, 0⟩)
          have HZ2 := Lh (fun W => HY2.out W ⟨0, 0, 0⟩)
          obtain ⟨RY, hRY⟩ : ∃ r, rayF ⟨0, 0, 0⟩ ⟨yx, yy, yz⟩ l = r := ⟨_, rfl⟩
          rw [hRY] at HZ1 HZ2
          obtain ⟨⟨ry1, ry2⟩, ry3⟩ := RY
          (try simp only at HZ1 HZ2)
          clear hRY HY1 HY2
          have f0 : w8.cell? ⟨FB, 0, none⟩ = some (.int .i64 0) := (blk_cell FN.out 0).trans rfl
          have f1 : w8.cell? ⟨FB, 1, none⟩ = some (.int .i64 0) := (blk_cell FN.out 1).trans rfl
          have f2 : w8.cell? ⟨FB, 2, none⟩ = some (.int .i64 0) := (blk_cell FN.out 2).trans rfl
          have fl : FB < w8.heap.size := blk_lt FN.out
          have y0 : w8.cell? ⟨w.heap.size + 1, 0, none⟩ = some (.int .i64 yx) := (blk_cell YC.out 0).trans rfl
          have y1 : w8.cell? ⟨w.heap.size + 1, 1, none⟩ = some (.int .i64 yy) := (blk_cell YC.out 1).trans rfl
          have y2 : w8.cell? ⟨w.heap.size + 1, 2, none⟩ = some (.int .i64 yz) := (blk_cell YC.out 2).trans rfl
          have yl : w.heap.size + 1 < w8.heap.size := blk_lt YC.out
          go_wp2_with fail
          with_reducible refine (HZ1.out _ HL.out).mono ?_
          rintro en w9 ⟨rfl, hb⟩
          replace CA := Lh ((hb.block _ (blk_lt CA.out)).trans CA.out)
          replace YC := Lh ((hb.block _ (blk_lt YC.out)).trans YC.out)
          replace FN := Lh ((hb.block _ (blk_lt FN.out)).trans FN.out)
          replace HV := Lh (HV.out.below hb)
          replace H0 := Lh (H0.out.below hb)
          replace HL := Lh (HL.out.below hb)
          replace W := Lh (bthen W.out hb)
          clear hb f0 f1 f2 fl y0 y1 y2 yl
          have f0 : w9.cell? ⟨FB, 0, none⟩ = some (.int .i64 0) := (blk_cell FN.out 0).trans rfl
          have f1 : w9.cell? ⟨FB, 1, none⟩ = some (.int .i64 0) := (blk_cell FN.out 1).trans rfl
          have f2 : w9.cell? ⟨FB, 2, none⟩ = some (.int .i64 0) := (blk_cell FN.out 2).trans rfl
          have fl : FB < w9.heap.size := blk_lt FN.out
          have y0 : w9.cell? ⟨w.heap.size + 1, 0, none⟩ = some (.int .i64 yx) := (blk_cell YC.out 0).trans rfl
          have y1 : w9.cell? ⟨w.heap.size + 1, 1, none⟩ = some (.int .i64 yy) := (blk_cell YC.out 1).trans rfl
          have y2 : w9.cell? ⟨w.heap.size + 1, 2, none⟩ = some (.int .i64 yz) := (blk_cell YC.out 2).trans rfl
          have yl : w.heap.size + 1 < w9.heap.size := blk_lt YC.out
          go_wp2_with fail
          with_reducible refine (HZ2.out _ HL.out).mono ?_
          rintro en w10 ⟨rfl, hb⟩
          replace CA := Lh ((hb.block _ (blk_lt CA.out)).trans CA.out)
          replace YC := Lh ((hb.block _ (blk_lt YC.out)).trans YC.out)
          replace FN := Lh ((hb.block _ (blk_lt FN.out)).trans FN.out)
          replace HV := Lh (HV.out.below hb)
          replace H0 := Lh (H0.out.below hb)
          replace HL := Lh (HL.out.below hb)
          replace W := Lh (bthen W.out hb)
          clear hb f0 f1 f2 fl y0 y1 y2 yl
          go_wp2
          go_ret
          exact ⟨rfl, W.out⟩
end Go.Proofs.Ytckdhahceelckaa.G
