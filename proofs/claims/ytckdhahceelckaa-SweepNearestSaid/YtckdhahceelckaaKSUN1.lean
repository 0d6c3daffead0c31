/- What the laws of this claim lean on: contracts of the functions that they reach, and plain lemmas; no condition of its own (part 1 of 1; the texts XV20, XG11, XG12, XG13, XG14, XG16, XV8, XV15, XV16, XV21, XV23). -/
import Derived.Test.YtckdhahceelckaaKSU5
namespace Go.Proofs.Ytckdhahceelckaa.G
open Go.RowKit Go.Proofs.YtckdhahceelckaaW.PrintWords Go.Proofs.YtckdhahceelckaaW.PrintLast Go.Proofs.YtckdhahceelckaaW.PrintMore
attribute [local go_sem] max2_mx min2_mn max_two min_two max_three min_three max_four min_four
attribute [local go_sem high] eqA23 eqA40
set_option linter.unusedVariables false
set_option linter.unusedSimpArgs false
def nearS (a : Cr) (l : List Cr) : (Int × (P3 × Int)) × Bool := (nearL a l, decide (0 ≤ (nearL a l).1))
def NearR (R : (Int × (P3 × Int)) × Bool) (w : World) (en : Ending) (w' : World) : Prop := en = .returned (.tuple #[.int .i64 R.1.1, .agg #[.int .i64 R.1.2.1.x, .int .i64 R.1.2.1.y, .int .i64 R.1.2.1.z, .int .i64 R.1.2.2], .bool R.2]) ∧ Below w.heap.size w w'
set_option maxHeartbeats 4000000 in
set_option maxRecDepth 100000 in
theorem near_calls {w : World} {v : Value} {a : Cr} (ha : CrV w v a) (l : List Cr) (A : Option Addr) (n c : Nat) (hl : RdC w A l) (hn : l.length = n) (hnb : n ≤ 140737488355328) :
    Calls Try.prog 43 #[v, .slice A n c] w (NearR (nearS a l) w) := by
  have HLE : Hid (nearL a l = leastF nearZ (askN a l) (fun x y => decide (x.2 < y.2)) n) := Lh (by rw [nearL_ask, hn])
  have HNF : Hid (nearS a l = (nearL a l, decide (0 ≤ (nearL a l).1))) := Lh rfl
  obtain ⟨RL, hRL⟩ : ∃ R, nearL a l = R := ⟨_, rfl⟩
  rw [hRL] at HLE HNF
  obtain ⟨RF, hRF⟩ : ∃ R, nearS a l = R := ⟨_, rfl⟩
  rw [hRF] at HNF ⊢
  have HN := Lh hn
  have HL := Lh hl
  have HV := Lh ha
  obtain ⟨A0, A1, A2, n0, n1, n2, c0, c1, c2, rfl⟩ := ha.form
  obtain ⟨ra, hra⟩ : ∃ r, a.r = r := ⟨_, rfl⟩
  rw [hra] at HV ⊢
  clear hRL hRF hn hl ha hra
  have g0 := three0 w (.cells #[.slice A0 n0 c0, .slice A1 n1 c1, .slice A2 n2 c2, .int .i64 ra] 36) (.cells #[.slice A n c] 57) (.cells #[.int .i64 0, .int .i64 0, .int .i64 0, .int .i64 0] 40)
  have g1 := three1 w (.cells #[.slice A0 n0 c0, .slice A1 n1 c1, .slice A2 n2 c2, .int .i64 ra] 36) (.cells #[.slice A n c] 57) (.cells #[.int .i64 0, .int .i64 0, .int .i64 0, .int .i64 0] 40)
  have g2 := three2 w (.cells #[.slice A0 n0 c0, .slice A1 n1 c1, .slice A2 n2 c2, .int .i64 ra] 36) (.cells #[.slice A n c] 57) (.cells #[.int .i64 0, .int .i64 0, .int .i64 0, .int .i64 0] 40)
  have gb := Go.Joins.below_alloc3 w (.cells #[.slice A0 n0 c0, .slice A1 n1 c1, .slice A2 n2 c2, .int .i64 ra] 36) (.cells #[.slice A n c] 57) (.cells #[.int .i64 0, .int .i64 0, .int .i64 0, .int .i64 0] 40)
  obtain ⟨w1, hw1⟩ : ∃ V, ((w.alloc (.cells #[.slice A0 n0 c0, .slice A1 n1 c1, .slice A2 n2 c2, .int .i64 ra] 36)).alloc (.cells #[.slice A n c] 57)).alloc (.cells #[.int .i64 0, .int .i64 0, .int .i64 0, .int .i64 0] 40) = V := ⟨_, rfl⟩
  rw [hw1] at g0 g1 g2 gb
  have hw1' := Lh hw1
  have G0 := Lh g0
  have G1 := Lh g1
  have G2 := Lh g2
  have W := Lh gb
  clear g0 g1 g2 gb hw1
  have HLS := Lh (nleast_calls n (askN a l) w.heap.size (w.heap.size + 1) w1 hnb (fun W' i hW hi => nask_calls l A n c _ _ i _ _ _ _ _ _ _ _ _ ra ((hW.block _ (blk_lt G0.out)).trans G0.out) ((hW.block _ (blk_lt G1.out)).trans G1.out) (HV.out.below (bthen W.out hW)) (HL.out.below (bthen W.out hW)) HN.out hi hnb))
  rw [← HLE.out] at HLS
  go_enter Try.func43, Try.ntmps43
  go_wp2_with fail
  rw [hw1'.out]
  with_reducible refine HLS.out.mono ?_
  rintro en w2 ⟨rfl, hb⟩
  have G2 := Lh ((hb.block _ (blk_lt G2.out)).trans G2.out)
  have W := Lh (bthen W.out hb)
  clear hb HLS HLE hw1'
  obtain ⟨at_, ⟨Bx, By, Bz⟩, Bg⟩ := RL
  go_upto_region 2 with fail
  have bz := (Below.refl _ w2).alloc (Nat.le_refl _) (.cells #[.int .i64 Bx, .int .i64 By, .int .i64 Bz, .int .i64 Bg] 40)
  have YC := Lh (heap_alloc_new w2 (.cells #[.int .i64 Bx, .int .i64 By, .int .i64 Bz, .int .i64 Bg] 40))
  have W := Lh (bthen W.out bz)
  have G2 := Lh ((bz.block _ (blk_lt G2.out)).trans G2.out)
  obtain ⟨w3, hw3⟩ : ∃ V, w2.alloc (.cells #[.int .i64 Bx, .int .i64 By, .int .i64 Bz, .int .i64 Bg] 40) = V := ⟨_, rfl⟩
  obtain ⟨YB, hYB⟩ : ∃ n, w2.heap.size = n := ⟨_, rfl⟩
  (try simp only)
  rw [hw3] at YC W G2 ⊢
  rw [hYB] at YC ⊢
  clear bz hw3 hYB
  go_wp2_with fail
  have HB := Lh ((Below.refl w3.heap.size w3).drew)
  have FF := Lh (show ∀ V, Hid (Below w3.heap.size w3 V) → V.cell? ⟨YB, 0, none⟩ = some (.int .i64 Bx) ∧ V.cell? ⟨YB, 1, none⟩ = some (.int .i64 By) ∧ V.cell? ⟨YB, 2, none⟩ = some (.int .i64 Bz) ∧ V.cell? ⟨YB, 3, none⟩ = some (.int .i64 Bg) from fun V HB => have e := (HB.out.block _ (blk_lt YC.out)).trans YC.out; ⟨(blk_cell e 0).trans rfl, (blk_cell e 1).trans rfl, (blk_cell e 2).trans rfl, (blk_cell e 3).trans rfl⟩)
  refine start_ (n := 7) (S := fun w' => w'.cell? ⟨YB, 0, none⟩ = some (.int .i64 Bx) ∧ w'.cell? ⟨YB, 1, none⟩ = some (.int .i64 By) ∧ w'.cell? ⟨YB, 2, none⟩ = some (.int .i64 Bz) ∧ w'.cell? ⟨YB, 3, none⟩ = some (.int .i64 Bg)) (ds := [5]) (MT 0 7) (by kernel_rfl) rfl rfl (FF.out _ HB) (fun hHeld => ?_)
  obtain ⟨wd, hwd⟩ : ∃ x, w3.drew = x := ⟨_, rfl⟩
  rw [hwd] at HB hHeld ⊢
  clear hwd
  refine pu_ 0 16 (h := ?_)
  refine pu_ 2 18 (h := ?_)
  refine pu_ 3 19 (h := ?_)
  refine pu_ 4 4 (h := ?_)
  refine ta_ 1 17 hHeld (h := ?_)
  refine last_ (i := 5) (N := none) (MT 6 1) rfl rfl (by kernel_rfl) (by decide) (fun K hK => ?_)
  have R4 := (HB.out.block _ (blk_lt G2.out)).trans G2.out
  have sc0 : World.cell? _ ⟨w.heap.size + 2, 0, none⟩ = some (.int .i64 0) := (blk_cell R4 0).trans rfl
  have sf0 : World.frozen? _ ⟨w.heap.size + 2, 0, none⟩ = false := blk_frozen R4 0
  have sc1 : World.cell? _ ⟨w.heap.size + 2, 1, none⟩ = some (.int .i64 0) := (blk_cell R4 1).trans rfl
  have sf1 : World.frozen? _ ⟨w.heap.size + 2, 1, none⟩ = false := blk_frozen R4 1
  have sc2 : World.cell? _ ⟨w.heap.size + 2, 2, none⟩ = some (.int .i64 0) := (blk_cell R4 2).trans rfl
  have sf2 : World.frozen? _ ⟨w.heap.size + 2, 2, none⟩ = false := blk_frozen R4 2
  have sc3 : World.cell? _ ⟨w.heap.size + 2, 3, none⟩ = some (.int .i64 0) := (blk_cell R4 3).trans rfl
  have sf3 : World.frozen? _ ⟨w.heap.size + 2, 3, none⟩ = false := blk_frozen R4 3
  refine skip_ (w1 := ?_) (by rfl) rfl ?_ ?_
  rotate_left
  · go_simp
    rfl
  refine hK.out _ _ ?_
  clear hK K
  refine pu_ 6 6 (h := ?_)
  refine done_ (by kernel_rfl) ?_
  have DST := bs4 R4 (.int .i64 Bx) (.int .i64 By) (.int .i64 Bz) (.int .i64 Bg)
  have HBX := bb4 (HB.out.mono (show w.heap.size ≤ w3.heap.size from W.out.size)) (show w.heap.size ≤ w.heap.size + 2 by omega) (.int .i64 Bx) (.int .i64 By) (.int .i64 Bz) (.int .i64 Bg)
  obtain ⟨w9, hV⟩ : ∃ V, ((((wd.setCell ⟨w.heap.size + 2, 0, none⟩ (.int .i64 Bx)).setCell ⟨w.heap.size + 2, 1, none⟩ (.int .i64 By)).setCell ⟨w.heap.size + 2, 2, none⟩ (.int .i64 Bz)).setCell ⟨w.heap.size + 2, 3, none⟩ (.int .i64 Bg)) = V := ⟨_, rfl⟩
  rw [hV] at DST HBX 
  (try rw [hV])
  have hVV := Lh hV
  have DST := Lh DST
  have HBX := Lh HBX
  clear hV hHeld HB FF R4 sc0 sf0 sc1 sf1 sc2 sf2 sc3 sf3 
  have t0 : w9.cell? ⟨w.heap.size + 1 + 1, 0, none⟩ = some (.int .i64 Bx) := (blk_cell DST.out 0).trans rfl
  have t1 : w9.cell? ⟨w.heap.size + 1 + 1, 1, none⟩ = some (.int .i64 By) := (blk_cell DST.out 1).trans rfl
  have t2 : w9.cell? ⟨w.heap.size + 1 + 1, 2, none⟩ = some (.int .i64 Bz) := (blk_cell DST.out 2).trans rfl
  have t3 : w9.cell? ⟨w.heap.size + 1 + 1, 3, none⟩ = some (.int .i64 Bg) := (blk_cell DST.out 3).trans rfl
  have W := Lh (W.out.trans HBX.out)
  clear DST HBX G2 YC
  go_wp2
  exact bodyPost_ret (v := .tuple #[.int .i64 at_, .agg #[.int .i64 Bx, .int .i64 By, .int .i64 Bz, .int .i64 Bg], .bool (decide (0 ≤ at_))]) (by simp [results, Try.results43, go_sem, t0, t1, t2, t3]) rfl ⟨by rw [HNF.out], W.out⟩
/-- a list of numbers of the call's own; one that reads -/
def OwnNn (w : World) (base : Nat) (v : Value) (l : List Nat) : Prop := w.ownsRow base 3 1 v l.length (l.map fun (n : Nat) => Value.int .i64 (n : Int))
def RdNn (w : World) (A : Option Addr) (l : List Nat) : Prop := ∀ (i n : Nat), l[i]? = some n → ∃ b o, A = some ⟨b, o, none⟩ ∧ b < w.heap.size ∧ w.cell? ⟨b, o + i, none⟩ = some (.int .i64 (n : Int))
theorem RdNn.below {w w1 : World} {A : Option Addr} {l : List Nat} (h : RdNn w A l) (hb : Below w.heap.size w w1) : RdNn w1 A l := fun i n hn => by
  obtain ⟨b, o, e, hlt, h0⟩ := h i n hn
  exact ⟨b, o, e, Nat.lt_of_lt_of_le hlt hb.size, (hb.cell (p := ⟨b, _, none⟩) hlt).trans h0⟩
theorem OwnNn.nil (w : World) (base : Nat) : OwnNn w base (.slice none 0 0) [] := World.ownsRow_nil _ _ _ _
theorem OwnNn.rd {w : World} {base : Nat} {v : Value} {l : List Nat} (h : OwnNn w base v l) : ∃ A c, v = .slice A l.length c ∧ l.length ≤ c ∧ c ≤ maxLen ∧ RdNn w A l ∧ (A = none → l.length = 0) := by
  have h0 := h
  obtain ⟨h1, h2⟩ := h
  rcases h2 with ⟨rfl, hn⟩ | ⟨g, cap, cur, rfl, hb, hg, hnc, hm, hsz, ht⟩
  · obtain rfl := List.eq_nil_of_length_eq_zero hn
    exact ⟨none, 0, rfl, Nat.le_refl _, Nat.zero_le _, fun i n hi => by simp at hi, fun _ => rfl⟩
  · refine ⟨some ⟨g, 0, none⟩, cap, rfl, hnc, hm, fun i n hi => ⟨g, 0, rfl, (Array.getElem?_eq_some_iff.1 hg).1, ?_⟩, fun e => by cases e⟩
    have := h0.cells (g := g) rfl i (.int .i64 (n : Int)) (by rw [List.getElem?_map, hi]; rfl)
    rwa [add_at] at this
theorem OwnNn.grown {w w' : World} {base : Nat} {v : Value} {l : List Nat} (h : OwnNn w base v l) (hb : Below w.heap.size w w') : OwnNn w' base v l := pw_own_below h hb
section
variable {w : World} {ops : Array Oper} {rest : List Oper} {o : Oper} {a : Act} {Q : Exit → Act → World → Prop}
/-- append of one number -/
theorem appI_ (base : Nat) (hgd : o.guard = none) (s x : Operand) (ho : o.op = .call { callee := .builtin .append, args := #[s, x], argTypes := #[68, 68] })
    (v : Value) (l : List Nat) (k g c : Nat) (hs : a.eval s = v) (hx : a.eval x = .slice (some ⟨g, 0, none⟩) 1 c) (hown : OwnNn w base v l) (hc : w.cell? ⟨g, 0, none⟩ = some (.int .i64 (k : Int))) (hsz : l.length + 1 ≤ 1000000) (hbase : base ≤ w.heap.size)
    (h : ∀ v' w', OwnNn w' base v' (l ++ [k]) → w.grownBy w' v.ownBlock → wpList Try.prog ops Q rest (a.put o.dst v') w') : wpList Try.prog ops Q (o :: rest) a w := by
  obtain ⟨i0, hi, hz0, hz1, hz2⟩ := info_parts info3
  obtain ⟨v', w', h0, h1, h2, _, h4⟩ := Go.run_append_own_at (P := Try.prog) w base 68 o.type 3 i0 _ 1 8 Try.underlying68 hi hz0 hz1 hz2 rfl (by omega) v l.length (l.map fun (n : Nat) => Value.int .i64 (n : Int)) hown ⟨g, 0, none⟩ 1 c [.int .i64 (k : Int)] rfl (fun j u hj => by
      cases j with
      | zero => simp at hj; subst hj; rw [add_at]; exact hc
      | succ j => simp at hj) (fun u hu => by simp at hu; subst hu; rfl) (by unfold maxLen; omega) (by omega) hbase
  refine Go.Lib.wpList_append_run w hgd s x 68 68 ho v (.slice (some ⟨g, 0, none⟩) 1 c) hs hx v' w' h0 (h v' w' ?_ h2)
  show w'.ownsRow base 3 1 v' (l ++ [k]).length ((l ++ [k]).map fun (n : Nat) => Value.int .i64 (n : Int))
  rw [List.length_append, List.map_append]
  exact h1
end
set_option maxHeartbeats 1000000 in
theorem clip84_calls (A : Option Addr) (n c : Nat) (w : World) (hc : n ≤ c) (hm : n < 9223372036854775807) (ha : A = none → n = 0) : Calls Try.prog 84 #[.slice A n c] w fun e w' => e = .returned (.slice A n n) ∧ w' = w := by
  go_enter Try.func84, Try.ntmps84
  go_wp2
  go_ret
  exact ⟨rfl, rfl⟩
def OverPost (l : List Nat) (w : World) (en : Ending) (w' : World) : Prop := ∃ A, en = .returned (.slice A l.length l.length) ∧ RdNn w' A l ∧ Below w.heap.size w w'
theorem overF_len (c : Cr) : ∀ (l : List Cr) (i : Nat), (overF c i l).length ≤ l.length
  | [], _ => Nat.le_refl _
  | d :: l, i => by
    have := overF_len c l (i + 1)
    rw [overF]
    split <;> simp <;> omega
theorem overF_take (c : Cr) (l : List Cr) (i : Nat) (h : i < l.length) : overF c 0 (l.take (i + 1)) = overF c 0 (l.take i) ++ (if overB c l[i] = true then [i] else []) := by
  rw [List.take_succ_eq_append_getElem h, overF_snoc, List.length_take, Nat.min_eq_left (by omega), Nat.zero_add]
set_option maxHeartbeats 8000000 in
set_option maxRecDepth 100000 in
theorem over_calls {w : World} {v : Value} {a : Cr} (ha : CrV w v a) (l : List Cr) (A : Option Addr) (n c : Nat) (hl : RdC w A l) (hn : l.length = n) (hnb : n ≤ 100000) :
    Calls Try.prog 41 #[v, .slice A n c] w (OverPost (overF a 0 l) w) := by
  have HFU : Hid (overF a 0 l = overF a 0 (l.take n)) := Lh (by rw [List.take_of_length_le (by omega)])
  have HTK := Lh (fun i (h : i < l.length) => overF_take a l i h)
  have HLN := Lh (fun i => show (overF a 0 (l.take i)).length ≤ n from Nat.le_trans (overF_len a _ _) (by rw [List.length_take]; omega))
  obtain ⟨OV, hOV⟩ : ∃ f : Nat → List Nat, (fun i => overF a 0 (l.take i)) = f := ⟨_, rfl⟩
  have hOV2 : ∀ i, overF a 0 (l.take i) = OV i := fun i => by rw [← hOV]
  simp only [hOV2] at HFU HTK HLN
  have HO0 : Hid (OV 0 = []) := Lh (by rw [← hOV2]; rfl)
  rw [HFU.out]
  have HN := Lh hn
  have HL := Lh hl
  have HV := Lh ha
  obtain ⟨A0, A1, A2, n0, n1, n2, c0, c1, c2, rfl⟩ := ha.form
  obtain ⟨ra, hra⟩ : ∃ r, a.r = r := ⟨_, rfl⟩
  rw [hra] at HV ⊢
  clear hOV hOV2 hn hl ha hra HFU
  have g0 := heap_alloc_new w (.cells #[.slice A0 n0 c0, .slice A1 n1 c1, .slice A2 n2 c2, .int .i64 ra] 36)
  have gb := (Below.refl _ w).alloc (Nat.le_refl _) (.cells #[.slice A0 n0 c0, .slice A1 n1 c1, .slice A2 n2 c2, .int .i64 ra] 36)
  go_enter Try.func41, Try.ntmps41
  go_wp2_with fail
  obtain ⟨w1, hw1⟩ : ∃ V, w.alloc (.cells #[.slice A0 n0 c0, .slice A1 n1 c1, .slice A2 n2 c2, .int .i64 ra] 36) = V := ⟨_, rfl⟩
  rw [hw1] at g0 gb ⊢
  have G0 := Lh g0
  have W := Lh gb
  clear g0 gb hw1
  go_loopw [5, 12] (fun v5 v12 wr => ∃ i : Nat, i ≤ n ∧ v12 = .int .i64 i ∧ Hid (OwnNn wr w1.heap.size v5 (OV i)) ∧ Hid (Below w1.heap.size w1 wr)) (fun _ i _ => n - (intOf i).toNat)
  case atStart => exact ⟨0, by omega, rfl, by rw [HO0.out]; exact OwnNn.nil _ _, Lh (Below.refl _ _)⟩
  case round =>
    obtain ⟨i, hi, rfl, hO, hB⟩ := hrel
    obtain ⟨wq, hwq⟩ : ∃ x : World, x = wr := ⟨_, rfl⟩
    subst hwq
    by_cases hlt : i < n
    · have hil : i < l.length := by rw [HN.out]; exact hlt
      obtain ⟨eb, eo, E0, E1_, E2_, m0, m1, m2, g0, g1, g2, rfl, el, e0, e1, e2, e3, hE⟩ := (HL.out.below (bthen W.out hB.out)).get i hil
      have HTI := Lh (HTK.out i hil)
      have HLI := Lh (HLN.out i)
      obtain ⟨d, hd⟩ : ∃ d, l[i] = d := ⟨_, rfl⟩
      rw [hd] at hE e3 HTI
      obtain ⟨rd, hrd⟩ : ∃ r, d.r = r := ⟨_, rfl⟩
      rw [hrd] at hE e3
      have HE := Lh hE
      have HAP := Lh (fun (W : World) (h1 : CrV W (.agg #[.slice A0 n0 c0, .slice A1 n1 c1, .slice A2 n2 c2, .int .i64 ra]) a) (h2 : CrV W (.agg #[.slice E0 m0 g0, .slice E1_ m1 g1, .slice E2_ m2 g2, .int .i64 rd]) d) => apart_all h1 h2 (apS a d) rfl)
      have HOB : Hid (overB a d = ((apS a d).2 && decide ((apS a d).1.2 < 1))) := Lh rfl
      obtain ⟨R, hR⟩ : ∃ R, apS a d = R := ⟨_, rfl⟩
      rw [hR] at HAP HOB
      obtain ⟨⟨⟨Xx, Xy, Xz⟩, Xg⟩, Xo⟩ := R
      (try simp only at HAP)
      have HOB := Lh (show overB a d = (Xo && decide (Xg < 1)) from HOB.out)
      rw [HOB.out] at HTI
      have ti : (i : Int) < (n : Int) := by omega
      have G0q := Lh ((hB.out.block _ (blk_lt G0.out)).trans G0.out)
      have x0 : wq.cell? ⟨w.heap.size, 0, none⟩ = some (.slice A0 n0 c0) := (blk_cell G0q.out 0).trans rfl
      have x1 : wq.cell? ⟨w.heap.size, 1, none⟩ = some (.slice A1 n1 c1) := (blk_cell G0q.out 1).trans rfl
      have x2 : wq.cell? ⟨w.heap.size, 2, none⟩ = some (.slice A2 n2 c2) := (blk_cell G0q.out 2).trans rfl
      have x3 : wq.cell? ⟨w.heap.size, 3, none⟩ = some (.int .i64 ra) := (blk_cell G0q.out 3).trans rfl
      have xl : w.heap.size < wq.heap.size := blk_lt G0q.out
      have WQ := Lh (bthen W.out hB.out)
      clear hE hR hd hrd hil
      go_wp2_with fail
      have bq := (Below.refl _ wq).alloc (Nat.le_refl _) (.cells #[.slice E0 m0 g0, .slice E1_ m1 g1, .slice E2_ m2 g2, .int .i64 rd] 36)
      obtain ⟨w2, hw2⟩ : ∃ V, wq.alloc (.cells #[.slice E0 m0 g0, .slice E1_ m1 g1, .slice E2_ m2 g2, .int .i64 rd] 36) = V := ⟨_, rfl⟩
      rw [hw2] at bq ⊢
      have hO := Lh (hO.out.grown bq)
      have hB := Lh (hB.out.trans (bq.mono hB.out.size))
      have WQ := Lh (bthen WQ.out bq)
      have HE := Lh (HE.out.below bq)
      clear bq hw2 x0 x1 x2 x3 xl e0 e1 e2 e3
      with_reducible refine (HAP.out _ (HV.out.below WQ.out) HE.out).mono ?_
      rintro en w3 ⟨rfl, hb⟩
      have hO := Lh (hO.out.grown hb)
      have hB := Lh (hB.out.trans (hb.mono hB.out.size))
      clear hb HAP HE
      go_upto_region 6 with fail
      have bq := (Below.refl _ w3).alloc (Nat.le_refl _) (.cells #[.int .i64 Xx, .int .i64 Xy, .int .i64 Xz, .int .i64 Xg] 40)
      have YC := Lh (heap_alloc_new w3 (.cells #[.int .i64 Xx, .int .i64 Xy, .int .i64 Xz, .int .i64 Xg] 40))
      obtain ⟨w4, hw4⟩ : ∃ V, w3.alloc (.cells #[.int .i64 Xx, .int .i64 Xy, .int .i64 Xz, .int .i64 Xg] 40) = V := ⟨_, rfl⟩
      obtain ⟨YB, hYB⟩ : ∃ n, w3.heap.size = n := ⟨_, rfl⟩
      (try simp only)
      have hO := Lh (hO.out.grown bq)
      have hB := Lh (hB.out.trans (bq.mono hB.out.size))
      rw [hw4] at YC hO hB ⊢
      rw [hYB] at YC ⊢
      clear bq hw4 hYB
      have u3 : w4.cell? ⟨YB, 3, none⟩ = some (.int .i64 Xg) := (blk_cell YC.out 3).trans rfl
      have ul : YB < w4.heap.size := blk_lt YC.out
      cases Xo with
      | false =>
        have HTI := Lh (HTI.out.trans (by simp : _ = OV i))
        go_wp2
        go_roundw
        case rel => exact ⟨i + 1, by omega, by go_num, by rw [HTI.out]; exact hO, hB⟩
        case measure => simp [intOf]; omega
      | true =>
        by_cases tg : Xg < 1
        · have eg : decide (Xg < 1) = true := decide_eq_true tg
          have HTI := Lh (HTI.out.trans (by rw [eg]; rfl : _ = OV i ++ [i]))
          have hli : (OV i).length + 1 ≤ 1000000 := by have := HLI.out; omega
          have bn := (Below.refl _ w4).alloc (Nat.le_refl _) (.cells #[.int .i64 (i : Int)] 3)
          have hO2 := Lh (hO.out.grown bn)
          have hB2 := Lh (hB.out.trans (bn.mono hB.out.size))
          have hc2 : (w4.alloc (.cells #[.int .i64 (i : Int)] 3)).cell? ⟨w4.heap.size, 0, none⟩ = some (.int .i64 (i : Int)) := (blk_cell (heap_alloc_new w4 (.cells #[.int .i64 (i : Int)] 3)) 0).trans rfl
          have HC2 := Lh hc2
          clear tg bn hc2
          go_wp2_with (at_builtin; refine appI_ w1.heap.size rfl _ _ rfl _ (OV i) i w4.heap.size _ rfl rfl hO2.out HC2.out hli hB2.out.size ?_; intro v2 w5 hv2 hg2; have hO5 := Lh hv2; have hB5 := Lh (hB2.out.grown hg2 hB2.out.size (fun k hk => own_base hO2.out k hk)); clear hv2 hg2)
          go_roundw
          case rel => exact ⟨i + 1, by omega, by go_num, by rw [HTI.out]; exact hO5, hB5⟩
          case measure => simp [intOf]; omega
        · have eg : decide (Xg < 1) = false := decide_eq_false tg
          have HTI := Lh (HTI.out.trans (by rw [eg]; simp : _ = OV i))
          clear tg
          go_wp2
          go_roundw
          case rel => exact ⟨i + 1, by omega, by go_num, by rw [HTI.out]; exact hO, hB⟩
          case measure => simp [intOf]; omega
    · obtain rfl : n = i := by omega
      obtain ⟨Ar, cr, rfl, hlc, hcm, hrd, hnn⟩ := hO.out.rd
      have HRD := Lh hrd
      have WQ := Lh (bthen W.out hB.out)
      have hsm : (OV n).length < 9223372036854775807 := by have := HLN.out n; omega
      obtain ⟨q, hq⟩ : ∃ q, (OV n).length = q := ⟨_, rfl⟩
      rw [hq] at hlc hnn hsm ⊢
      have HQ := Lh hq
      clear hO hrd hq hcm
      go_wp2_with (go_at_call 84; refine (clip84_calls Ar q cr _ hlc hsm hnn).mono ?_; rintro en w5 ⟨rfl, rfl⟩)
      go_ret
      exact ⟨Ar, by rw [HQ.out]; rfl, HRD.out, WQ.out⟩
end Go.Proofs.Ytckdhahceelckaa.G
namespace Go.Proofs.Ytckdhahceelckaa.G
open Go.RowKit Go.Proofs.YtckdhahceelckaaW.PrintWords
set_option linter.unusedVariables false
theorem min_ratio (f g : P3 → Int) : ∀ (l : List P3), (∀ p ∈ l, 0 ≤ f p) → (∃ p ∈ l, g p < 0) → ∃ p ∈ l, g p < 0 ∧ ∀ o ∈ l, g o < 0 → f p * (-(g o)) ≤ f o * (-(g p))
  | [], _, h => by obtain ⟨p, hp, _⟩ := h; simp at hp
  | x :: l, hf, h => by
    have hf' : ∀ p ∈ l, 0 ≤ f p := fun p hp => hf p (List.mem_cons_of_mem _ hp)
    by_cases hl : ∃ p ∈ l, g p < 0
    · obtain ⟨p, hp, gp, hmin⟩ := min_ratio f g l hf' hl
      by_cases hx : g x < 0 ∧ f x * (-(g p)) ≤ f p * (-(g x))
      · refine ⟨x, List.mem_cons_self, hx.1, fun o ho go => ?_⟩
        rcases List.mem_cons.1 ho with rfl | ho
        · exact Int.le_refl _
        · have h1 := Int.mul_le_mul_of_nonneg_right hx.2 (show 0 ≤ -(g o) by omega)
          have h2 := Int.mul_le_mul_of_nonneg_right (hmin o ho go) (show 0 ≤ -(g x) by omega)
          refine Int.le_of_mul_le_mul_right (a := -(g p)) ?_ (by omega)
          have e1 : f x * -(g o) * -(g p) = f x * -(g p) * -(g o) := by grind
          have e2 : f p * -(g x) * -(g o) = f p * -(g o) * -(g x) := by grind
          have e3 : f o * -(g x) * -(g p) = f o * -(g p) * -(g x) := by grind
          omega
      · refine ⟨p, List.mem_cons_of_mem _ hp, gp, fun o ho go => ?_⟩
        rcases List.mem_cons.1 ho with rfl | ho
        · have : ¬ (f o * (-(g p)) ≤ f p * (-(g o))) := fun h' => hx ⟨go, h'⟩
          omega
        · exact hmin o ho go
    · obtain ⟨p, hp, gp⟩ := h
      rcases List.mem_cons.1 hp with rfl | hp
      · refine ⟨p, List.mem_cons_self, gp, fun o ho go => ?_⟩
        rcases List.mem_cons.1 ho with rfl | ho
        · exact Int.le_refl _
        · exact absurd ⟨o, ho, go⟩ hl
      · exact absurd ⟨p, hp, gp⟩ hl
def combI (α β : Int) (n m : P3) : P3 := ⟨α * n.x + β * m.x, α * n.y + β * m.y, α * n.z + β * m.z⟩
theorem dot_comb (α β : Int) (n m v : P3) : dotI (combI α β n m) v = α * dotI n v + β * dotI m v := by unfold dotI combI; grind
theorem rotate_ (l : List P3) (a n m : P3) (hn : ∀ p ∈ l, 0 ≤ dotI n (subI p a)) (hz : ∀ p ∈ l, dotI n (subI p a) = 0 → dotI m (subI p a) = 0) (hex : ∃ p ∈ l, dotI m (subI p a) ≠ 0) :
    ∃ α β p, 0 < α ∧ p ∈ l ∧ dotI m (subI p a) ≠ 0 ∧ (∀ o ∈ l, 0 ≤ dotI (combI α β n m) (subI o a)) ∧ dotI (combI α β n m) (subI p a) = 0 := by
  obtain ⟨t, ht, hneg⟩ : ∃ t : Int, (t = 1 ∨ t = -1) ∧ ∃ p ∈ l, t * dotI m (subI p a) < 0 := by
    obtain ⟨p, hp, h⟩ := hex
    rcases Int.lt_or_gt_of_ne h with h | h
    · exact ⟨1, .inl rfl, p, hp, by omega⟩
    · exact ⟨-1, .inr rfl, p, hp, by omega⟩
  obtain ⟨p, hp, gp, hmin⟩ := min_ratio (fun o => dotI n (subI o a)) (fun o => t * dotI m (subI o a)) l hn hneg
  (try simp only at gp hmin)
  refine ⟨-(t * dotI m (subI p a)), t * dotI n (subI p a), p, by omega, hp, ?_, ?_, ?_⟩
  · intro e
    rw [e, Int.mul_zero] at gp
    omega
  · intro o ho
    rw [dot_comb]
    have hfo := hn o ho
    have hfp := hn p hp
    by_cases hg : t * dotI m (subI o a) < 0
    · have := hmin o ho hg
      have e1 : -(t * dotI m (subI p a)) * dotI n (subI o a) = dotI n (subI o a) * -(t * dotI m (subI p a)) := by grind
      have e2 : t * dotI n (subI p a) * dotI m (subI o a) = -(dotI n (subI p a) * -(t * dotI m (subI o a))) := by grind
      rw [e1, e2]
      omega
    · have h1 := Int.mul_nonneg (show 0 ≤ -(t * dotI m (subI p a)) by omega) hfo
      have h2 := Int.mul_nonneg hfp (show 0 ≤ t * dotI m (subI o a) by omega)
      have e2 : t * dotI n (subI p a) * dotI m (subI o a) = dotI n (subI p a) * (t * dotI m (subI o a)) := by grind
      rw [e2]
      omega
  · rw [dot_comb]
    grind
theorem min_at (f : P3 → Int) : ∀ (l : List P3), l ≠ [] → ∃ p ∈ l, ∀ o ∈ l, f p ≤ f o
  | [], h => absurd rfl h
  | [x], _ => ⟨x, by simp, fun o ho => by simp at ho; rw [ho]; exact Int.le_refl _⟩
  | x :: y :: l, _ => by
    obtain ⟨p, hp, h⟩ := min_at f (y :: l) (by simp)
    by_cases hx : f x ≤ f p
    · refine ⟨x, List.mem_cons_self, fun o ho => ?_⟩
      rcases List.mem_cons.1 ho with rfl | ho
      · exact Int.le_refl _
      · exact Int.le_trans hx (h o ho)
    · refine ⟨p, List.mem_cons_of_mem _ hp, fun o ho => ?_⟩
      rcases List.mem_cons.1 ho with rfl | ho
      · omega
      · exact h o ho
theorem sub_ne {a b : P3} (h : b ≠ a) : subI b a ≠ ⟨0, 0, 0⟩ := fun e => h (by
  unfold subI at e
  simp only [P3.mk.injEq] at e
  cases a; cases b
  simp only [P3.mk.injEq]
  simp only at e
  omega)
/-- a plane that all points lie on one side of, and three points in it -/
theorem support {l : List P3} (hin : ∀ p ∈ l, in3 65536 p) (hf : ¬ FlatP l) : ∃ a b c n, a ∈ l ∧ b ∈ l ∧ c ∈ l ∧ n ≠ ⟨0, 0, 0⟩ ∧ (∀ p ∈ l, 0 ≤ dotI n (subI p a)) ∧ dotI n (subI b a) = 0 ∧ dotI n (subI c a) = 0 ∧ crossI (subI b a) (subI c a) ≠ ⟨0, 0, 0⟩ := by
  have hne : l ≠ [] := by
    rintro rfl
    exact hf (flat_of (l := []) (n := ⟨1, 0, 0⟩) (a := ⟨0, 0, 0⟩) (by simp) (by simp) (by simp))
  obtain ⟨a, ha, hmin⟩ := min_at (fun p => p.x) l hne
  (try simp only at hmin)
  -- an edge
  obtain ⟨n1, b, hn1, hb, hba, hs1, hz1⟩ : ∃ n1 b, n1 ≠ (⟨0, 0, 0⟩ : P3) ∧ b ∈ l ∧ b ≠ a ∧ (∀ p ∈ l, 0 ≤ dotI n1 (subI p a)) ∧ dotI n1 (subI b a) = 0 := by
    have d0 : ∀ p : P3, dotI ⟨1, 0, 0⟩ (subI p a) = p.x - a.x := fun p => by unfold dotI subI; simp only; omega
    have d1 : ∀ p : P3, dotI ⟨0, 1, 0⟩ (subI p a) = p.y - a.y := fun p => by unfold dotI subI; simp only; omega
    by_cases h : ∃ b ∈ l, b ≠ a ∧ dotI ⟨1, 0, 0⟩ (subI b a) = 0
    · obtain ⟨b, hb, hba, hz⟩ := h
      exact ⟨⟨1, 0, 0⟩, b, by simp, hb, hba, fun p hp => by rw [d0]; have := hmin p hp; omega, hz⟩
    · obtain ⟨α, β, b, hα, hb, hm, hs, hz⟩ := rotate_ l a ⟨1, 0, 0⟩ ⟨0, 1, 0⟩ (fun p hp => by rw [d0]; have := hmin p hp; omega)
        (fun p hp h0 => by
          by_cases e : p = a
          · rw [e, d1]; omega
          · exact absurd ⟨p, hp, e, h0⟩ h)
        (by
          by_cases hx : ∃ p ∈ l, dotI ⟨0, 1, 0⟩ (subI p a) ≠ 0
          · exact hx
          · refine absurd (flat_of hin (n := ⟨0, 1, 0⟩) (a := a) (by simp) fun o ho => ?_) hf
            by_cases e : dotI ⟨0, 1, 0⟩ (subI o a) = 0
            · exact e
            · exact absurd ⟨o, ho, e⟩ hx)
      refine ⟨combI α β ⟨1, 0, 0⟩ ⟨0, 1, 0⟩, b, ?_, hb, ?_, hs, hz⟩
      · intro e
        unfold combI at e
        simp only [P3.mk.injEq] at e
        omega
      · rintro rfl
        rw [d1] at hm
        omega
  -- a face
  have hU := sub_ne hba
  by_cases h : ∃ c ∈ l, dotI n1 (subI c a) = 0 ∧ crossI (subI b a) (subI c a) ≠ ⟨0, 0, 0⟩
  · obtain ⟨c, hc, hz, hx⟩ := h
    exact ⟨a, b, c, n1, ha, hb, hc, hn1, hs1, hz1, hz, hx⟩
  · have hm : ∀ v, dotI (crossI n1 (subI b a)) v = dotI n1 (crossI (subI b a) v) := fun v => by unfold dotI crossI; grind
    have z0 : ∀ n : P3, dotI n ⟨0, 0, 0⟩ = 0 := fun n => by unfold dotI; simp
    have hmn : crossI n1 (subI b a) ≠ ⟨0, 0, 0⟩ := by
      intro e
      have h1 := lagI n1 (subI b a)
      rw [crI_cross, e, z0, hz1] at h1
      have h2 := Int.mul_pos (dotI_pos _ hn1) (dotI_pos _ hU)
      omega
    obtain ⟨α, β, c, hα, hc, hmc, hs, hz⟩ := rotate_ l a n1 (crossI n1 (subI b a)) hs1
      (fun p hp h0 => by
        rw [hm]
        by_cases e : crossI (subI b a) (subI p a) = ⟨0, 0, 0⟩
        · rw [e, z0]
        · exact absurd ⟨p, hp, h0, e⟩ h)
      (by
        by_cases hx : ∃ p ∈ l, dotI (crossI n1 (subI b a)) (subI p a) ≠ 0
        · exact hx
        · refine absurd (flat_of hin (a := a) hmn fun o ho => ?_) hf
          by_cases e : dotI (crossI n1 (subI b a)) (subI o a) = 0
          · exact e
          · exact absurd ⟨o, ho, e⟩ hx)
    refine ⟨a, b, c, combI α β n1 (crossI n1 (subI b a)), ha, hb, hc, ?_, hs, ?_, hz, ?_⟩
    · intro e
      have h1 := dot_comb α β n1 (crossI n1 (subI b a)) n1
      have h2 : dotI (crossI n1 (subI b a)) n1 = 0 := by unfold dotI crossI; grind
      rw [e, h2, Int.mul_zero, Int.add_zero] at h1
      have h3 : dotI (⟨0, 0, 0⟩ : P3) n1 = 0 := by unfold dotI; simp
      have h4 := Int.mul_pos hα (dotI_pos _ hn1)
      omega
    · rw [dot_comb, hz1]
      have h2 : dotI (crossI n1 (subI b a)) (subI b a) = 0 := by unfold dotI crossI; grind
      rw [h2]
      simp
    · intro e
      rw [hm, e, z0] at hmc
      exact hmc rfl
theorem fold_side (n a : P3) : ∀ (l : List P3) (s : Int × Int), ((∀ o ∈ l, 0 ≤ dot3 n (minus3 o a)) → 0 ≤ s.1 → 0 ≤ (l.foldl (sdStep n a) s).1) ∧ ((∀ o ∈ l, dot3 n (minus3 o a) ≤ 0) → s.2 ≤ 0 → (l.foldl (sdStep n a) s).2 ≤ 0)
  | [], s => ⟨fun _ h => h, fun _ h => h⟩
  | x :: l, s => by
    obtain ⟨h1, h2⟩ := fold_side n a l (sdStep n a s x)
    rw [List.foldl_cons]
    refine ⟨fun h hs => h1 (fun o ho => h o (List.mem_cons_of_mem _ ho)) ?_, fun h hs => h2 (fun o ho => h o (List.mem_cons_of_mem _ ho)) ?_⟩
    · have := h x List.mem_cons_self
      unfold sdStep mn
      simp only
      split <;> omega
    · have := h x List.mem_cons_self
      unfold sdStep mx
      simp only
      split <;> omega
theorem side_of {l : List P3} (hin : ∀ p ∈ l, in3 65536 p) {a n x y z : P3} (hn : n ≠ ⟨0, 0, 0⟩) (hs : ∀ p ∈ l, 0 ≤ dotI n (subI p a)) (mx_ : x ∈ l) (my_ : y ∈ l) (mz_ : z ∈ l) (hx : dotI n (subI x a) = 0) (hy : dotI n (subI y a) = 0) (hz : dotI n (subI z a) = 0) : sideF l (nrm3 x y z) x ≠ 0 := by
  obtain ⟨e, i1⟩ := nrm_at (hin _ mx_) (hin _ my_) (hin _ mz_)
  rw [e]
  have hv : ∀ o, dotI n (subI o x) = dotI n (subI o a) := fun o => by unfold dotI subI at *; grind
  have key : ∀ v, dotI n n * dotI (crossI (subI y x) (subI z x)) v = dotI n (crossI (subI y x) (subI z x)) * dotI n v := fun v => by
    have h1 := hv y
    have h2 := hv z
    rw [hy] at h1
    rw [hz] at h2
    generalize subI y x = Y at h1 h2
    generalize subI z x = Z at h1 h2
    unfold dotI crossI at *
    grind
  have hpos := dotI_pos n hn
  have hd : ∀ o ∈ l, dot3 (crossI (subI y x) (subI z x)) (minus3 o x) = dotI (crossI (subI y x) (subI z x)) (subI o x) := fun o ho => dot_in i1 (hin _ ho) (hin _ mx_)
  generalize crossI (subI y x) (subI z x) = N at key hd
  have h0 : ∀ o ∈ l, 0 ≤ dotI n (subI o x) := fun o ho => by rw [hv]; exact hs o ho
  unfold sideF sdF sideV
  obtain ⟨f1, f2⟩ := fold_side N x l (0, 0)
  rcases Int.le_total 0 (dotI n N) with hN | hN
  · have := f1 (fun o ho => by
      rw [hd o ho]
      have k := key (subI o x)
      have p := Int.mul_nonneg hN (h0 o ho)
      rw [← k] at p
      rcases Int.lt_or_le (dotI N (subI o x)) 0 with q | q
      · have := Int.mul_neg_of_pos_of_neg hpos q
        omega
      · exact q) (Int.le_refl _)
    split
    · decide
    · (try rw [if_pos this]); decide
  · have := f2 (fun o ho => by
      rw [hd o ho]
      have k := key (subI o x)
      have p := Int.mul_nonpos_of_nonpos_of_nonneg hN (h0 o ho)
      rw [← k] at p
      rcases Int.lt_or_le 0 (dotI N (subI o x)) with q | q
      · have := Int.mul_pos hpos q
        omega
      · exact q) (Int.le_refl _)
    rw [if_pos this]; decide
end Go.Proofs.Ytckdhahceelckaa.G
namespace Go.Proofs.Ytckdhahceelckaa.G
open Go.RowKit Go.Proofs.YtckdhahceelckaaW.PrintWords
set_option linter.unusedVariables false
theorem sort3 {l : List P3} {Q : P3 → P3 → P3 → Prop} (s12 : ∀ x y z, Q x y z → Q y x z) (s23 : ∀ x y z, Q x y z → Q x z y) (hne : ∀ x y z, Q x y z → x ≠ y) {a b c : P3} {i j k : Nat} (ha : l[i]? = some a) (hb : l[j]? = some b) (hc : l[k]? = some c) (h : Q a b c) :
    ∃ (i j k : Nat) (x y z : P3), i < j ∧ j < k ∧ l[i]? = some x ∧ l[j]? = some y ∧ l[k]? = some z ∧ Q x y z := by
  have hij : i ≠ j := fun e => by rw [e, hb] at ha; cases ha; exact hne _ _ _ h rfl
  have hik : i ≠ k := fun e => by rw [e, hc] at ha; cases ha; exact hne _ _ _ (s23 _ _ _ h) rfl
  have hjk : j ≠ k := fun e => by rw [e, hc] at hb; cases hb; exact hne _ _ _ (s23 _ _ _ (s12 _ _ _ h)) rfl
  rcases Nat.lt_or_gt_of_ne hij with h1 | h1 <;> rcases Nat.lt_or_gt_of_ne hik with h2 | h2 <;> rcases Nat.lt_or_gt_of_ne hjk with h3 | h3
  · exact ⟨i, j, k, a, b, c, h1, h3, ha, hb, hc, h⟩
  · exact ⟨i, k, j, a, c, b, h2, h3, ha, hc, hb, s23 _ _ _ h⟩
  · omega
  · exact ⟨k, i, j, c, a, b, h2, h1, hc, ha, hb, s12 _ _ _ (s23 _ _ _ h)⟩
  · exact ⟨j, i, k, b, a, c, h1, h2, hb, ha, hc, s12 _ _ _ h⟩
  · omega
  · exact ⟨j, k, i, b, c, a, h3, h2, hb, hc, ha, s23 _ _ _ (s12 _ _ _ h)⟩
  · exact ⟨k, j, i, c, b, a, h3, h1, hc, hb, ha, s23 _ _ _ (s12 _ _ _ (s23 _ _ _ h))⟩
theorem cross12 {x y z : P3} (h : crossI (subI y x) (subI z x) ≠ ⟨0, 0, 0⟩) : crossI (subI x y) (subI z y) ≠ ⟨0, 0, 0⟩ := fun e => h (by
  unfold crossI subI at *
  simp only [P3.mk.injEq] at *
  refine ⟨?_, ?_, ?_⟩ <;> grind)
theorem cross23 {x y z : P3} (h : crossI (subI y x) (subI z x) ≠ ⟨0, 0, 0⟩) : crossI (subI z x) (subI y x) ≠ ⟨0, 0, 0⟩ := fun e => h (by
  unfold crossI subI at *
  simp only [P3.mk.injEq] at *
  refine ⟨?_, ?_, ?_⟩ <;> grind)
theorem hull_axis {l axes edges : List P3} (hin : ∀ p ∈ l, in3 65536 p) (hf : ¬ FlatP l) (h : HullOk l axes edges) : ∃ x ∈ axes, x ≠ ⟨0, 0, 0⟩ ∧ in3 1048576 x := by
  obtain ⟨a, b, c, n, ha, hb, hc, hn, hs, hzb, hzc, hx⟩ := support hin hf
  have hza : dotI n (subI a a) = 0 := by unfold dotI subI; simp
  obtain ⟨ia, hia⟩ := List.getElem?_of_mem ha
  obtain ⟨ib, hib⟩ := List.getElem?_of_mem hb
  obtain ⟨ic, hic⟩ := List.getElem?_of_mem hc
  obtain ⟨i, j, k, x, y, z, hij, hjk, hxi, hyj, hzk, ⟨zx, zy, zz⟩, hcr⟩ := sort3 (l := l) (Q := fun x y z => (dotI n (subI x a) = 0 ∧ dotI n (subI y a) = 0 ∧ dotI n (subI z a) = 0) ∧ crossI (subI y x) (subI z x) ≠ ⟨0, 0, 0⟩)
    (fun x y z h => ⟨⟨h.1.2.1, h.1.1, h.1.2.2⟩, cross12 h.2⟩) (fun x y z h => ⟨⟨h.1.1, h.1.2.2, h.1.2.1⟩, cross23 h.2⟩)
    (fun x y z h e => h.2 (by subst e; unfold crossI subI; simp)) hia hib hic ⟨⟨hza, hzb, hzc⟩, hx⟩
  have mx_ := List.mem_of_getElem? hxi
  have my_ := List.mem_of_getElem? hyj
  have mz_ := List.mem_of_getElem? hzk
  have hsd := side_of hin hn hs mx_ my_ mz_ zx zy zz
  obtain ⟨e, i1⟩ := nrm_at (hin _ mx_) (hin _ my_) (hin _ mz_)
  have hnn : nrm3 x y z ≠ ⟨0, 0, 0⟩ := by rw [e]; exact hcr
  have hil : i < l.length := (List.getElem?_eq_some_iff.1 hxi).1
  have hmem := h.done i j k _ hij hjk (.inl hil) ⟨x, y, z, hxi, hyj, hzk, hnn, hsd, rfl⟩
  obtain ⟨hs1, _⟩ := side_spec hsd
  refine ⟨_, hmem, ?_, ?_⟩
  · unfold axisF
    refine short3_ne _ ?_ (sgn_ne hs1 hnn)
    rw [e]
    exact sgn_in (by rw [← e]; exact hs1) i1
  · unfold axisF
    exact short3_in _
end Go.Proofs.Ytckdhahceelckaa.G
namespace Go.Proofs.Ytckdhahceelckaa.G
open Go.RowKit Go.Proofs.YtckdhahceelckaaW.PrintWords
set_option linter.unusedVariables false
theorem abs_mul {a b A B : Int} (ha : -A ≤ a ∧ a ≤ A) (hb : -B ≤ b ∧ b ≤ B) : -(A * B) ≤ a * b ∧ a * b ≤ A * B := by
  have h : (a * b).natAbs ≤ A.natAbs * B.natAbs := by rw [Int.natAbs_mul]; exact Nat.mul_le_mul (by omega) (by omega)
  have e : ((A.natAbs * B.natAbs : Nat) : Int) = A * B := by rw [Int.natCast_mul, Int.natAbs_of_nonneg (by omega), Int.natAbs_of_nonneg (by omega)]
  omega
/-- one row of the rounded turn and of the turn itself -/
theorem row_bd {a1 a2 a3 c1 c2 c3 X Y Z : Int} (h1 : -4294967296 ≤ 4294967296 * a1 - c1 ∧ 4294967296 * a1 - c1 ≤ 4294967296) (h2 : -4294967296 ≤ 4294967296 * a2 - c2 ∧ 4294967296 * a2 - c2 ≤ 4294967296) (h3 : -4294967296 ≤ 4294967296 * a3 - c3 ∧ 4294967296 * a3 - c3 ≤ 4294967296)
    (hX : -4294967296 ≤ X ∧ X ≤ 4294967296) (hY : -4294967296 ≤ Y ∧ Y ≤ 4294967296) (hZ : -4294967296 ≤ Z ∧ Z ≤ 4294967296) (hv : -4096 < (a1 * X + a2 * Y + a3 * Z) / 4294967296 ∧ (a1 * X + a2 * Y + a3 * Z) / 4294967296 < 4096) :
    -75613203958135452073984 ≤ c1 * X + c2 * Y + c3 * Z ∧ c1 * X + c2 * Y + c3 * Z ≤ 75613203958135452073984 := by
  have k1 := abs_mul h1 hX
  have k2 := abs_mul h2 hY
  have k3 := abs_mul h3 hZ
  have e : c1 * X + c2 * Y + c3 * Z = 4294967296 * (a1 * X + a2 * Y + a3 * Z) - ((4294967296 * a1 - c1) * X + (4294967296 * a2 - c2) * Y + (4294967296 * a3 - c3) * Z) := by grind
  rw [e]
  generalize (4294967296 * a1 - c1) * X = e1 at k1
  generalize (4294967296 * a2 - c2) * Y = e2 at k2
  generalize (4294967296 * a3 - c3) * Z = e3 at k3
  generalize a1 * X + a2 * Y + a3 * Z = r at hv
  omega
theorem rot_norm (w x y z X Y Z T : Int) :
    ((T - ((y + y) * y + (z + z) * z)) * X + ((x + x) * y + (w + w) * -z) * Y + ((x + x) * z + (w + w) * y) * Z - (T - (w * w + x * x + y * y + z * z)) * X) * ((T - ((y + y) * y + (z + z) * z)) * X + ((x + x) * y + (w + w) * -z) * Y + ((x + x) * z + (w + w) * y) * Z - (T - (w * w + x * x + y * y + z * z)) * X) +
    (((x + x) * y + (w + w) * z) * X + (T - ((x + x) * x + (z + z) * z)) * Y + ((y + y) * z + (w + w) * -x) * Z - (T - (w * w + x * x + y * y + z * z)) * Y) * (((x + x) * y + (w + w) * z) * X + (T - ((x + x) * x + (z + z) * z)) * Y + ((y + y) * z + (w + w) * -x) * Z - (T - (w * w + x * x + y * y + z * z)) * Y) +
    (((x + x) * z + (w + w) * -y) * X + ((y + y) * z + (w + w) * x) * Y + (T - ((x + x) * x + (y + y) * y)) * Z - (T - (w * w + x * x + y * y + z * z)) * Z) * (((x + x) * z + (w + w) * -y) * X + ((y + y) * z + (w + w) * x) * Y + (T - ((x + x) * x + (y + y) * y)) * Z - (T - (w * w + x * x + y * y + z * z)) * Z) =
    (w * w + x * x + y * y + z * z) * (w * w + x * x + y * y + z * z) * (X * X + Y * Y + Z * Z) := by grind
theorem rot_alg (S T m1 m2 m3 X Y Z : Int) (h : (m1 - (T - S) * X) * (m1 - (T - S) * X) + (m2 - (T - S) * Y) * (m2 - (T - S) * Y) + (m3 - (T - S) * Z) * (m3 - (T - S) * Z) = S * S * (X * X + Y * Y + Z * Z)) :
    T * (2 * S - T) * (X * X + Y * Y + Z * Z) = m1 * m1 + m2 * m2 + m3 * m3 - 2 * ((T - S) * (m1 * X + m2 * Y + m3 * Z)) := by grind
theorem d2_near (a b c d : Int) : -4294967296 ≤ 4294967296 * D2 a b c d - (a * c + b * d) ∧ 4294967296 * D2 a b c d - (a * c + b * d) ≤ 4294967296 := by
  unfold D2
  generalize a * c + b * d = n
  omega
theorem d2_near' (a b c d : Int) : -4294967296 ≤ 4294967296 * (4294967296 - D2 a b c d) - (18446744073709551616 - (a * c + b * d)) ∧ 4294967296 * (4294967296 - D2 a b c d) - (18446744073709551616 - (a * c + b * d)) ≤ 4294967296 := by
  unfold D2
  generalize a * c + b * d = n
  omega
/-- a unit quaternion turns a long vector into one that is not short -/
theorem turn_long {q : Q4} (hq : q32 q) (hS : 18446744039349813248 ≤ q.w * q.w + q.x * q.x + q.y * q.y + q.z * q.z) {V : P3} (hV : in3 4294967296 V) (hN : 4611686018427387904 ≤ dotI V V)
    (h1 : -4096 < vdotF (rowsF q).a V ∧ vdotF (rowsF q).a V < 4096) (h2 : -4096 < vdotF (rowsF q).b V ∧ vdotF (rowsF q).b V < 4096) (h3 : -4096 < vdotF (rowsF q).c V ∧ vdotF (rowsF q).c V < 4096) : False := by
  obtain ⟨w, x, y, z⟩ := q
  obtain ⟨X, Y, Z⟩ := V
  obtain ⟨v1, v2, v3, v4, v5, v6⟩ := hV
  obtain ⟨bw, bx, by_, bz⟩ := hq
  simp only at hS v1 v2 v3 v4 v5 v6 bw bx by_ bz
  unfold vdotF dotI rowsF at h1 h2 h3
  unfold dotI at hN
  simp only at h1 h2 h3 hN
  have r1 := row_bd (d2_near' (y + y) (z + z) y z) (d2_near (x + x) (w + w) y (-z)) (d2_near (x + x) (w + w) z y) ⟨v1, v2⟩ ⟨v3, v4⟩ ⟨v5, v6⟩ h1
  have r2 := row_bd (d2_near (x + x) (w + w) y z) (d2_near' (x + x) (z + z) x z) (d2_near (y + y) (w + w) z (-x)) ⟨v1, v2⟩ ⟨v3, v4⟩ ⟨v5, v6⟩ h2
  have r3 := row_bd (d2_near (x + x) (w + w) z (-y)) (d2_near (y + y) (w + w) z x) (d2_near' (x + x) (y + y) x y) ⟨v1, v2⟩ ⟨v3, v4⟩ ⟨v5, v6⟩ h3
  have hn := rot_norm w x y z X Y Z 18446744073709551616
  have sw := abs_mul bw bw
  have sx := abs_mul bx bx
  have sy := abs_mul by_ by_
  have sz := abs_mul bz bz
  have hSu : w * w + x * x + y * y + z * z ≤ 73786976294838206464 := by omega
  clear sw sx sy sz
  generalize w * w + x * x + y * y + z * z = S at hS hSu hn
  generalize (18446744073709551616 - ((y + y) * y + (z + z) * z)) * X + ((x + x) * y + (w + w) * -z) * Y + ((x + x) * z + (w + w) * y) * Z = m1 at r1 hn
  generalize ((x + x) * y + (w + w) * z) * X + (18446744073709551616 - ((x + x) * x + (z + z) * z)) * Y + ((y + y) * z + (w + w) * -x) * Z = m2 at r2 hn
  generalize ((x + x) * z + (w + w) * -y) * X + ((y + y) * z + (w + w) * x) * Y + (18446744073709551616 - ((x + x) * x + (y + y) * y)) * Z = m3 at r3 hn
  have alg := rot_alg S 18446744073709551616 m1 m2 m3 X Y Z hn
  generalize X * X + Y * Y + Z * Z = N at hN alg
  have k1 := Int.mul_le_mul_of_nonneg_right (show (170141183460469231731687303715884105728 : Int) ≤ 18446744073709551616 * (2 * S - 18446744073709551616) by omega) (show 0 ≤ N by omega)
  have q1 := abs_mul r1 r1
  have q2 := abs_mul r2 r2
  have q3 := abs_mul r3 r3
  have p1 := abs_mul r1 (⟨v1, v2⟩ : -4294967296 ≤ X ∧ X ≤ 4294967296)
  have p2 := abs_mul r2 (⟨v3, v4⟩ : -4294967296 ≤ Y ∧ Y ≤ 4294967296)
  have p3 := abs_mul r3 (⟨v5, v6⟩ : -4294967296 ≤ Z ∧ Z ≤ 4294967296)
  have p4 : -(3 * (75613203958135452073984 * 4294967296)) ≤ m1 * X + m2 * Y + m3 * Z ∧ m1 * X + m2 * Y + m3 * Z ≤ 3 * (75613203958135452073984 * 4294967296) := by omega
  have p5 := abs_mul (⟨by omega, by omega⟩ : -(55340232221128654848 : Int) ≤ 18446744073709551616 - S ∧ 18446744073709551616 - S ≤ 55340232221128654848) p4
  generalize (18446744073709551616 - S) * (m1 * X + m2 * Y + m3 * Z) = D at alg p5
  generalize 18446744073709551616 * (2 * S - 18446744073709551616) * N = E at alg k1
  generalize m1 * m1 = M1 at alg q1
  generalize m2 * m2 = M2 at alg q2
  generalize m3 * m3 = M3 at alg q3
  clear p1 p2 p3 p4 r1 r2 r3 hn h1 h2 h3 bw bx by_ bz
  omega
theorem unit_norm (q : Q4) (h : 0 < lenF q) : 18446744039349813248 ≤ (unitF q).w * (unitF q).w + (unitF q).x * (unitF q).x + (unitF q).y * (unitF q).y + (unitF q).z * (unitF q).z := by
  obtain ⟨w, x, y, z⟩ := q
  have hw := sq_nonneg w
  have hx := sq_nonneg x
  have hy := sq_nonneg y
  have hz := sq_nonneg z
  obtain ⟨h0, h2, h1⟩ := rtI_spec (v := w * w + x * x + y * y + z * z) (by omega)
  have e : lenF ⟨w, x, y, z⟩ = rtI (w * w + x * x + y * y + z * z) := rfl
  rw [← e] at h0 h1 h2
  have bw := sq_le_bd (a := w) h0 (by omega)
  have bx := sq_le_bd (a := x) h0 (by omega)
  have by_ := sq_le_bd (a := y) h0 (by omega)
  have bz := sq_le_bd (a := z) h0 (by omega)
  unfold unitF
  simp only
  generalize lenF ⟨w, x, y, z⟩ = L at h h0 h1 h2 bw bx by_ bz
  have one : ∀ a : Int, -L ≤ a → a ≤ L → 18446744073709551616 * (a * a) - 8589934592 * (L * L) ≤ L * L * ((a * 4294967296 / L) * (a * 4294967296 / L)) := by
    intro a ha1 ha2
    have d1 := Int.emod_add_mul_ediv (a * 4294967296) L
    have d2 := Int.emod_nonneg (a * 4294967296) (show L ≠ 0 by omega)
    have d3 := Int.emod_lt_of_pos (a * 4294967296) h
    generalize a * 4294967296 / L = c at d1
    generalize a * 4294967296 % L = r at d1 d2 d3
    have e1 : L * c = 4294967296 * a - r := by omega
    have e2 : L * L * (c * c) = (4294967296 * a - r) * (4294967296 * a - r) := by rw [← e1]; grind
    have e3 : (4294967296 * a - r) * (4294967296 * a - r) = 18446744073709551616 * (a * a) - 8589934592 * (a * r) + r * r := by grind
    have k1 := abs_mul (⟨ha1, ha2⟩ : -L ≤ a ∧ a ≤ L) (⟨by omega, by omega⟩ : -L ≤ r ∧ r ≤ L)
    have k2 := sq_nonneg r
    rw [e2, e3]
    omega
  have o1 := one w bw.1 bw.2
  have o2 := one x bx.1 bx.2
  have o3 := one y by_.1 by_.2
  have o4 := one z bz.1 bz.2
  generalize w * 4294967296 / L = c1 at o1
  generalize x * 4294967296 / L = c2 at o2
  generalize y * 4294967296 / L = c3 at o3
  generalize z * 4294967296 / L = c4 at o4
  refine Int.le_of_mul_le_mul_left (a := L * L) ?_ (Int.mul_pos h h)
  have e1 : L * L * (c1 * c1 + c2 * c2 + c3 * c3 + c4 * c4) = L * L * (c1 * c1) + L * L * (c2 * c2) + L * L * (c3 * c3) + L * L * (c4 * c4) := by grind
  have e2 : L * L * 18446744039349813248 = 18446744039349813248 * (L * L) := Int.mul_comm _ _
  rw [e1, e2]
  omega
theorem whole_norm (q : Q4) : 18446744039349813248 ≤ (wholeF q).w * (wholeF q).w + (wholeF q).x * (wholeF q).x + (wholeF q).y * (wholeF q).y + (wholeF q).z * (wholeF q).z := by
  unfold wholeF
  split
  · simp
  · exact unit_norm q (by omega)
/-- a right pose turns no way into nought -/
theorem way_turned (p : P7) (x : P3) (hx : in3 1048576 x) (h0 : x ≠ ⟨0, 0, 0⟩) : wayF (rowsF (rightPose p).turn) x ≠ ⟨0, 0, 0⟩ := by
  have hq := wholeF_q32 (partQ p.turn)
  have hS := whole_norm (partQ p.turn)
  have hm := rows_mOk hq
  have hD := dbl3_in x hx
  have hf := dbl3_far x h0
  simp only [rightPose]
  generalize wholeF (partQ p.turn) = q at hq hS hm
  unfold wayF
  generalize dbl3 x = D at hD hf
  have hV := times_in hD
  obtain ⟨_, _, _, ht⟩ := turn_ok hm hV
  have hfar : ¬ in3 524288 D := fun h => by rw [(far3_iff _ _ (by decide) (by decide)).2 h] at hf; cases hf
  have hd := dotI_far D 524288 (by decide) (by unfold in3 at hfar; omega)
  have hN : 4611686018427387904 ≤ dotI (timesF D 4096) (timesF D 4096) := by
    have e : dotI (timesF D 4096) (timesF D 4096) = 16777216 * dotI D D := by unfold dotI timesF; grind
    rw [e]
    omega
  refine short3_ne _ (tdv_in ht) fun e => ?_
  unfold tdv3 at e
  simp only [P3.mk.injEq] at e
  obtain ⟨e1, e2, e3⟩ := e
  have zero : ∀ a : Int, a.tdiv 4096 = 0 → -4096 < a ∧ a < 4096 := fun a ha => by
    rcases Int.le_total 0 a with h | h
    · rw [Int.tdiv_eq_ediv_of_nonneg h] at ha; omega
    · have : a.tdiv 4096 = -((-a).tdiv 4096) := by rw [Int.neg_tdiv, Int.neg_neg]
      rw [this, Int.tdiv_eq_ediv_of_nonneg (by omega)] at ha
      omega
  exact turn_long hq hS hV hN (zero _ e1) (zero _ e2) (zero _ e3)
end Go.Proofs.Ytckdhahceelckaa.G
namespace Go.Proofs.Ytckdhahceelckaa.G
open Go.RowKit Go.Proofs.YtckdhahceelckaaW.PrintWords
set_option linter.unusedVariables false
theorem ways_turned (p : P7) {l : List P3} {x : P3} (hx : x ∈ l) (hi : in3 1048576 x) (h0 : x ≠ ⟨0, 0, 0⟩) : ∃ y ∈ waysF (rowsF (rightPose p).turn) l, long3 y ≠ ⟨0, 0, 0⟩ := by
  have h1 := way_turned p x hi h0
  refine ⟨wayF (rowsF (rightPose p).turn) x, ?_, ?_⟩
  · unfold waysF
    exact List.mem_filter.2 ⟨List.mem_map_of_mem hx, by simpa using h1⟩
  · exact (long3_short _ (by unfold wayF; exact short3_in _) h1).2.1
/-- what a value of Cores is for Sound -/
theorem CoreAt.way {s : Shp} (hs : ShpOk s) (A : P3) (p7 : P7) (ha : atOk A) {w : World} {v : Value} (h : CoreAt s ⟨A, (rightPose p7).turn⟩ w v) : ∃ p a e, CoreV w v p a e s.radius ∧ MayP p a e s.radius ∧ Ways p a := by
  have hm := (rightPose_ok p7).1
  have hw : ∀ (l : List P3) (x : P3), x ∈ l → in3 1048576 x → x ≠ ⟨0, 0, 0⟩ → ∃ y ∈ waysF (rowsF (rightPose p7).turn) l, long3 y ≠ ⟨0, 0, 0⟩ := fun l x hx hi h0 => ways_turned p7 hx hi h0
  obtain ⟨t, ht⟩ : ∃ t, (rightPose p7).turn = t := ⟨_, rfl⟩
  rw [ht] at h hm hw
  obtain ⟨p, a, e, h1, h2⟩ := h
  refine ⟨p.map (placePt (rowsF t) A), waysF (rowsF t) a, waysF (rowsF t) e, h2, CoreIs.may (q := ⟨A, t⟩) hs h1 hm ha, ?_⟩
  unfold Ways
  rcases h1 with ⟨_, rfl, rfl, rfl⟩ | ⟨_, rfl, rfl, rfl⟩ | ⟨_, rfl, rfl, rfl⟩ | ⟨hk, rfl, hh⟩
  · left; simp
  · left; simp
  · right
    exact hw _ ⟨1, 0, 0⟩ (by simp) (by unfold in3; simp) (by simp)
  · right
    obtain ⟨x, hx, h0, hi⟩ := hull_axis hs.pts (hs.hull hk).2 hh
    exact hw _ x hx hi h0
end Go.Proofs.Ytckdhahceelckaa.G
namespace Go.Proofs.Ytckdhahceelckaa.G
open Go.RowKit Go.Proofs.YtckdhahceelckaaW.PrintWords
set_option linter.unusedVariables false
theorem CoreIs.in8 {s : Shp} (hs : ShpOk s) {p a e : List P3} (h : CoreIs s p a e) {q : P7} (hm : mOk (rowsF q.turn)) (ha : atOk q.at_) : ∀ x ∈ p.map (placePt (rowsF q.turn) q.at_), in3 8388608 x := by
  intro x hx
  obtain ⟨y, hy, rfl⟩ := List.mem_map.1 hx
  exact place_in3 hm ha ((h.bounds hs).pin y hy)
theorem CoreAt.nearW {s : Shp} (hs : ShpOk s) (q : P7) (hm : mOk (rowsF q.turn)) (ha : atOk q.at_) (hw : ∀ (l : List P3) (x : P3), x ∈ l → in3 1048576 x → x ≠ ⟨0, 0, 0⟩ → ∃ y ∈ waysF (rowsF q.turn) l, long3 y ≠ ⟨0, 0, 0⟩)
    {w : World} {v : Value} (h : CoreAt s q w v) : ∃ p a e, CoreV w v p a e s.radius ∧ MayP p a e s.radius ∧ Ways p a ∧ ∀ x ∈ p, in3 8388608 x := by
  obtain ⟨p, a, e, h1, h2⟩ := h
  refine ⟨_, _, _, h2, h1.may hs hm ha, ?_, h1.in8 hs hm ha⟩
  unfold Ways
  rcases h1 with ⟨_, rfl, rfl, rfl⟩ | ⟨_, rfl, rfl, rfl⟩ | ⟨_, rfl, rfl, rfl⟩ | ⟨hk, rfl, hh⟩
  · left; simp
  · left; simp
  · right
    exact hw _ ⟨1, 0, 0⟩ (by simp) (by unfold in3; simp) (by simp)
  · right
    obtain ⟨x, hx, h0, hi⟩ := hull_axis hs.pts (hs.hull hk).2 hh
    exact hw _ x hx hi h0
theorem CoreAt.near {s : Shp} (hs : ShpOk s) (A : P3) (p7 : P7) (ha : atOk A) {w : World} {v : Value} (h : CoreAt s ⟨A, (rightPose p7).turn⟩ w v) : ∃ p a e, CoreV w v p a e s.radius ∧ MayP p a e s.radius ∧ Ways p a ∧ ∀ x ∈ p, in3 8388608 x := by
  have hm := (rightPose_ok p7).1
  have hw : ∀ (l : List P3) (x : P3), x ∈ l → in3 1048576 x → x ≠ ⟨0, 0, 0⟩ → ∃ y ∈ waysF (rowsF (rightPose p7).turn) l, long3 y ≠ ⟨0, 0, 0⟩ := fun l x hx hi h0 => ways_turned p7 hx hi h0
  obtain ⟨t, ht⟩ : ∃ t, (rightPose p7).turn = t := ⟨_, rfl⟩
  rw [ht] at h hm hw
  exact CoreAt.nearW hs ⟨A, t⟩ hm ha hw h
end Go.Proofs.Ytckdhahceelckaa.G
namespace Go.Proofs.Ytckdhahceelckaa.G
open Go.RowKit Go.Proofs.YtckdhahceelckaaW.PrintWords Go.Proofs.YtckdhahceelckaaW.PrintLast Go.Proofs.YtckdhahceelckaaW.PrintMore
set_option linter.unusedVariables false
set_option linter.unusedSimpArgs false
theorem castOk_near {a b : Cr} {y : P3} (ha : a.may = true) (hb : b.may = true) (hl : a.p.length ≤ 16) (hp : ∀ P ∈ a.p, in3 8388608 P) (hy : in3 4194304 y) : castOk a y b = true := by
  have hs : smay a y = true := (smay_iff ..).2 ⟨ha, hl, hy⟩
  refine (castOk_iff ..).2 ⟨ha, hb, hs, trail_may hs (by decide) (by decide) fun z hz => ?_⟩
  have := hp z hz
  rw [partP_16]
  unfold in3 plusI at *
  simp only
  omega
theorem castF_ok {a b : Cr} {y : P3} (h : castOk a y b = true) : (castF a y b).2 = true := by unfold castF; rw [if_pos h]
end Go.Proofs.Ytckdhahceelckaa.G
namespace Go.Proofs.Ytckdhahceelckaa.G
open Go.RowKit Go.Proofs.YtckdhahceelckaaW.PrintWords Go.Proofs.YtckdhahceelckaaW.PrintLast Go.Proofs.YtckdhahceelckaaW.PrintMore
attribute [local go_sem] max2_mx min2_mn max_two min_two max_three min_three max_four min_four
attribute [local go_sem high] eqA23 eqA40
set_option linter.unusedVariables false
set_option linter.unusedSimpArgs false
theorem RdC.nil (w : World) (A : Option Addr) : RdC w A [] := fun i c h => by simp at h
/-- a list of one core, built -/
theorem RdC_one {w : World} {g : Nat} {A0 A1 A2 : Option Addr} {n0 n1 n2 c0 c1 c2 : Nat} {r : Int} {c : Cr} {t : TypeId} (h : w.heap[g]? = some (.cells #[.slice A0 n0 c0, .slice A1 n1 c1, .slice A2 n2 c2, .int .i64 r] t (0, 0))) (hc : CrV w (.agg #[.slice A0 n0 c0, .slice A1 n1 c1, .slice A2 n2 c2, .int .i64 r]) c) (hr : c.r = r) : RdC w (some ⟨g, 0, none⟩) [c] := fun i d hd => by
  match i with
  | 0 =>
    simp at hd
    subst hd
    subst hr
    exact ⟨g, 0, A0, A1, A2, n0, n1, n2, c0, c1, c2, rfl, blk_lt h, (blk_cell h 0).trans rfl, (blk_cell h 1).trans rfl, (blk_cell h 2).trans rfl, (blk_cell h 3).trans rfl, hc⟩
  | i + 1 => simp at hd
set_option maxHeartbeats 4000000 in
set_option maxRecDepth 100000 in
theorem awake11_calls (w : World) : Calls Try.prog 31 #[] w fun e w' => e = .returned (.bool true) ∧ Below w.heap.size w w' := by
  go_enter Try.func31, Try.ntmps31
  go_wp2_with fail
  obtain ⟨w4, hw4⟩ : ∃ w4, ((((w.alloc (.cells #[.int .i64 0, .int .i64 0, .int .i64 0] 23)).alloc (.cells #[.slice (some ⟨w.heap.size, 0, none⟩) 1 1, .slice none 0 0, .slice none 0 0, .int .i64 2] 36)).alloc (.cells #[.int .i64 20, .int .i64 0, .int .i64 0] 23)).alloc (.cells #[.slice (some ⟨w.heap.size + 1 + 1, 0, none⟩) 1 1, .slice none 0 0, .slice none 0 0, .int .i64 2] 36)) = w4 := ⟨_, rfl⟩
  have I0 : w4.heap[w.heap.size]? = some (.cells #[.int .i64 0, .int .i64 0, .int .i64 0] 23 (0, 0)) := by rw [← hw4]; exact (Below.heap_alloc _ _ _ (by simp; omega)).trans (three0 _ _ _ _)
  have I2 : w4.heap[w.heap.size + 1 + 1]? = some (.cells #[.int .i64 20, .int .i64 0, .int .i64 0] 23 (0, 0)) := by rw [← hw4]; exact (Below.heap_alloc _ _ _ (by simp)).trans (three2 _ _ _ _)
  have I3 : w4.heap[w.heap.size + 1 + 1 + 1]? = some (.cells #[.slice (some ⟨w.heap.size + 1 + 1, 0, none⟩) 1 1, .slice none 0 0, .slice none 0 0, .int .i64 2] 36 (0, 0)) := by
    rw [← hw4]
    have := heap_alloc_new (((w.alloc (.cells #[.int .i64 0, .int .i64 0, .int .i64 0] 23)).alloc (.cells #[.slice (some ⟨w.heap.size, 0, none⟩) 1 1, .slice none 0 0, .slice none 0 0, .int .i64 2] 36)).alloc (.cells #[.int .i64 20, .int .i64 0, .int .i64 0] 23)) (.cells #[.slice (some ⟨w.heap.size + 1 + 1, 0, none⟩) 1 1, .slice none 0 0, .slice none 0 0, .int .i64 2] 36)
    simpa only [World.size_alloc] using this
  have IB : Below w.heap.size w w4 := by rw [← hw4]; exact (((((Below.refl _ w).alloc (Nat.le_refl _) _).alloc (by simp) _).alloc (by simp; omega) _).alloc (by simp; omega) _)
  rw [hw4]
  clear hw4
  have cA : CrV w4 (.agg #[.slice (some ⟨w.heap.size, 0, none⟩) 1 1, .slice none 0 0, .slice none 0 0, .int .i64 2]) exA := ball_core w4 w.heap.size 0 0 0 2 1 (Nat.le_refl _) I0
  have cB : CrV w4 (.agg #[.slice (some ⟨w.heap.size + 1 + 1, 0, none⟩) 1 1, .slice none 0 0, .slice none 0 0, .int .i64 2]) exB := ball_core w4 (w.heap.size + 1 + 1) 20 0 0 2 1 (Nat.le_refl _) I2
  have hcast := cast_calls cA cB ⟨32, 0, 0⟩ (by unfold exA; simp)
  rw [ex_castA] at hcast
  with_reducible refine hcast.mono ?_
  rintro e w5 ⟨rfl, hb5⟩
  have I3 := (hb5.block _ (blk_lt I3)).trans I3
  have cB5 := cB.below hb5
  have IB5 := bthen IB hb5
  have x0 : w5.cell? ⟨w.heap.size + 1 + 1 + 1, 0, none⟩ = some (.slice (some ⟨w.heap.size + 1 + 1, 0, none⟩) 1 1) := (blk_cell I3 0).trans rfl
  have x1 : w5.cell? ⟨w.heap.size + 1 + 1 + 1, 1, none⟩ = some (.slice none 0 0) := (blk_cell I3 1).trans rfl
  have x2 : w5.cell? ⟨w.heap.size + 1 + 1 + 1, 2, none⟩ = some (.slice none 0 0) := (blk_cell I3 2).trans rfl
  have x3 : w5.cell? ⟨w.heap.size + 1 + 1 + 1, 3, none⟩ = some (.int .i64 2) := (blk_cell I3 3).trans rfl
  have l5 := blk_lt I3
  clear hcast cA cB I0 I2 I3 IB hb5
  dsimp only
  go_wp2_with fail
  have J0 := (Below.heap_alloc (w5.alloc (.cells #[.int .i64 1048576, .int .i64 0, .int .i64 0, .int .i64 0] 40)) (.cells #[.slice (some ⟨w.heap.size + 1 + 1, 0, none⟩) 1 1, .slice none 0 0, .slice none 0 0, .int .i64 2] 36) _ (by simp)).trans (heap_alloc_new w5 (.cells #[.int .i64 1048576, .int .i64 0, .int .i64 0, .int .i64 0] 40))
  have J1 := heap_alloc_new (w5.alloc (.cells #[.int .i64 1048576, .int .i64 0, .int .i64 0, .int .i64 0] 40)) (.cells #[.slice (some ⟨w.heap.size + 1 + 1, 0, none⟩) 1 1, .slice none 0 0, .slice none 0 0, .int .i64 2] 36)
  have JB := ((Below.refl _ w5).alloc (Nat.le_refl _) (.cells #[.int .i64 1048576, .int .i64 0, .int .i64 0, .int .i64 0] 40)).alloc (by simp) (.cells #[.slice (some ⟨w.heap.size + 1 + 1, 0, none⟩) 1 1, .slice none 0 0, .slice none 0 0, .int .i64 2] 36)
  obtain ⟨w6, hw6⟩ : ∃ V, (w5.alloc (.cells #[.int .i64 1048576, .int .i64 0, .int .i64 0, .int .i64 0] 40)).alloc (.cells #[.slice (some ⟨w.heap.size + 1 + 1, 0, none⟩) 1 1, .slice none 0 0, .slice none 0 0, .int .i64 2] 36) = V := ⟨_, rfl⟩
  rw [hw6] at J0 J1 JB
  (try rw [hw6])
  have hw6' := Lh hw6
  simp only [World.size_alloc] at J1
  have hl := RdC_one J1 (cB5.below JB) rfl
  have hray := ray_calls ⟨0, 0, 0⟩ ⟨160, 0, 0⟩ [exB] (some ⟨w5.heap.size + 1, 0, none⟩) 1 1 w6 hl rfl (by decide)
  rw [ex_ray] at hray
  clear hw6 x0 x1 x2 x3 l5 J1 cB5 hl
  with_reducible refine hray.mono ?_
  rintro e w7 ⟨rfl, hb7⟩
  have J0 := (hb7.block _ (blk_lt J0)).trans J0
  have IB7 := bthen (bthen IB5 JB) hb7
  have y0 : w7.cell? ⟨w5.heap.size, 0, none⟩ = some (.int .i64 1048576) := (blk_cell J0 0).trans rfl
  have y1 : w7.cell? ⟨w5.heap.size, 1, none⟩ = some (.int .i64 0) := (blk_cell J0 1).trans rfl
  have y2 : w7.cell? ⟨w5.heap.size, 2, none⟩ = some (.int .i64 0) := (blk_cell J0 2).trans rfl
  have y3 : w7.cell? ⟨w5.heap.size, 3, none⟩ = some (.int .i64 0) := (blk_cell J0 3).trans rfl
  have e0 : eqP 1048576 0 0 1048576 0 0 = true := by decide
  clear hray JB hb7 IB5 hw6' J0
  dsimp only
  go_wp2
  go_ret
  exact ⟨by simp [eqP], IB7⟩
end Go.Proofs.Ytckdhahceelckaa.G
namespace Go.Proofs.Ytckdhahceelckaa.G
open Go.RowKit Go.Proofs.YtckdhahceelckaaW.PrintWords Go.Proofs.YtckdhahceelckaaW.PrintLast Go.Proofs.YtckdhahceelckaaW.PrintMore
attribute [local go_sem] max2_mx min2_mn max_two min_two max_three min_three max_four min_four
attribute [local go_sem high] eqA23 eqA40
set_option linter.unusedVariables false
set_option linter.unusedSimpArgs false
set_option maxHeartbeats 1000000 in
theorem pick11_calls (c n : Int) (hc1 : -9223372036854775808 ≤ c) (hc2 : c ≤ 9223372036854775807) (hn : 0 < n) (hn2 : n ≤ 4294967296) (w : World) :
    Calls Try.prog 32 #[.int .i64 c, .int .i64 n] w fun e w' => e = .returned (.int .i64 (pickF c n)) ∧ w' = w := by
  have hb := pickF_bd c n hn
  have hn0 : n ≠ 0 := by omega
  have hn1 : n ≠ -1 := by omega
  by_cases h : c < 0
  · have hd : decide (c < 0) = true := by simpa using h
    have e1 : IntKind.i64.wrap (c + 1) = c + 1 := iw_id _ (by omega) (by omega)
    have e2 : IntKind.i64.wrap (-(c + 1)) = -(c + 1) := iw_id _ (by omega) (by omega)
    have e3 : pickF c n = (-(c + 1)).tmod n := by unfold pickF; rw [if_pos h]
    have e4 : IntKind.i64.wrap ((-(c + 1)).tmod n) = (-(c + 1)).tmod n := iw_id _ (by rw [← e3]; omega) (by rw [← e3]; omega)
    rw [e3]
    go_enter Try.func32, Try.ntmps32
    go_wp2
    go_ret
    exact ⟨by show Ending.returned (Value.int .i64 (-(c + 1).tmod n)) = _; rw [Int.neg_tmod], rfl⟩
  · have hd : decide (c < 0) = false := by simpa using h
    have e3 : pickF c n = c.tmod n := by unfold pickF; rw [if_neg h]
    have e4 : IntKind.i64.wrap (c.tmod n) = c.tmod n := iw_id _ (by rw [← e3]; omega) (by rw [← e3]; omega)
    rw [e3]
    go_enter Try.func32, Try.ntmps32
    go_wp2
    go_ret
    exact ⟨by show Ending.returned (Value.int .i64 (c % n)) = _; rw [Int.tmod_eq_emod_of_nonneg (by omega)], rfl⟩
/-- a core of a shape that may be, placed -/
structure GoodC (c : Cr) : Prop where
  may : c.may = true
  r0 : 1 ≤ c.r
  r1 : c.r ≤ 16384
  ways : Ways c.p c.a
  near : ∀ x ∈ c.p, in3 8388608 x
  p1 : c.p.length ≤ 12
  a1 : c.a.length ≤ 110
  e1 : c.e.length ≤ 66
theorem GoodC.mp {c : Cr} (h : GoodC c) : MayP c.p c.a c.e c.r := Cr.mayP h.may
theorem CoreAt.good {s : Shp} (hs : ShpOk s) (q : P7) (hm : mOk (rowsF q.turn)) (ha : atOk q.at_) (hw : ∀ (l : List P3) (x : P3), x ∈ l → in3 1048576 x → x ≠ ⟨0, 0, 0⟩ → ∃ y ∈ waysF (rowsF q.turn) l, long3 y ≠ ⟨0, 0, 0⟩)
    {w : World} {v : Value} (h : CoreAt s q w v) : ∃ c, CrV w v c ∧ GoodC c := by
  obtain ⟨p, a, e, h1, h2⟩ := h
  have hB := h1.bounds hs
  refine ⟨⟨p.map (placePt (rowsF q.turn) q.at_), waysF (rowsF q.turn) a, waysF (rowsF q.turn) e, s.radius⟩, h2, (mayF_iff ..).2 (h1.may hs hm ha), hs.r0, hs.r1, ?_, h1.in8 hs hm ha, by simp only [List.length_map]; exact hB.p1, Nat.le_trans (waysF_len _ _) hB.a1, Nat.le_trans (waysF_len _ _) hB.e1⟩
  unfold Ways
  rcases h1 with ⟨_, rfl, rfl, rfl⟩ | ⟨_, rfl, rfl, rfl⟩ | ⟨_, rfl, rfl, rfl⟩ | ⟨hk, rfl, hh⟩
  · left; simp
  · left; simp
  · right
    exact hw _ ⟨1, 0, 0⟩ (by simp) (by unfold in3; simp) (by simp)
  · right
    obtain ⟨x, hx, h0, hi⟩ := hull_axis hs.pts (hs.hull hk).2 hh
    exact hw _ x hx hi h0
def TwoPost (w : World) (en : Ending) (w' : World) : Prop := ∃ va vb a b, en = .returned (.tuple #[va, vb]) ∧ CrV w' va a ∧ CrV w' vb b ∧ Below w.heap.size w w' ∧ Fresh w.heap.size va ∧ Fresh w.heap.size vb ∧ GoodC a ∧ GoodC b
theorem two_calls (k1 r1 : Int) (h1 : P3) (l1 : List P3) (A1 : Option Addr) (c1 : Nat) (k2 r2 : Int) (h2 : P3) (l2 : List P3) (A2 : Option Addr) (c2 : Nat) (p q : P7) (near : Int) (way : P3) (w : World)
    (hA1 : RdB w A1 l1) (hr1 : RawOk k1 r1 h1 l1) (hA2 : RdB w A2 l2) (hr2 : RawOk k2 r2 h2 l2) (hp : i64s p) (hq : i64s q) (hne : i64 near) (hwa : pI64 way) :
    Calls Try.prog 19 #[.agg (cTwo k1 r1 h1 A1 l1.length c1 k2 r2 h2 A2 l2.length c2 p q near way)] w (TwoPost w) := by
  refine (cores_calls2 k1 r1 h1 l1 A1 c1 k2 r2 h2 l2 A2 c2 p q near way w hA1 hr1 hA2 hr2 hp hq hne hwa).mono ?_
  rintro en w' ⟨va, vb, rfl, ha, hb_, hb, hfa, hfb⟩
  obtain ⟨a, ha1, ha2⟩ := CoreAt.good (rightS_ok k1 r1 h1 l1) (rightPose p) (rightPose_ok p).1 (rightPose_ok p).2 (fun l x hx hi h0 => ways_turned p hx hi h0) ha
  have hb2 : ∃ c, CrV w' vb c ∧ GoodC c := by
    have hm := (rightPose_ok q).1
    have hw : ∀ (l : List P3) (x : P3), x ∈ l → in3 1048576 x → x ≠ ⟨0, 0, 0⟩ → ∃ y ∈ waysF (rowsF (rightPose q).turn) l, long3 y ≠ ⟨0, 0, 0⟩ := fun l x hx hi h0 => ways_turned q hx hi h0
    have hn := nearF_ok near way p
    obtain ⟨t, ht⟩ : ∃ t, (rightPose q).turn = t := ⟨_, rfl⟩
    rw [ht] at hb_ hm hw
    exact CoreAt.good (rightS_ok k2 r2 h2 l2) ⟨nearF near way (rightPose p).at_, t⟩ hm hn hw hb_
  obtain ⟨b, hb3, hb4⟩ := hb2
  exact ⟨va, vb, a, b, rfl, ha1, hb3, hb, hfa, hfb, ha2, hb4⟩
/-- a core's first point, read -/
theorem CrV.first {w : World} {B0 : Option Addr} {n0 d0 : Nat} {x1 x2 x3 : Value} {c : Cr} (h : CrV w (.agg #[.slice B0 n0 d0, x1, x2, x3]) c) (hp : c.p ≠ []) : ∃ b o O, ∃ hO : c.p = O :: c.p.tail, B0 = some ⟨b, o, none⟩ ∧ b < w.heap.size ∧ w.cell? ⟨b, o, none⟩ = some (.int .i64 O.x) ∧ w.cell? ⟨b, o + 1, none⟩ = some (.int .i64 O.y) ∧ w.cell? ⟨b, o + 2, none⟩ = some (.int .i64 O.z) ∧ 0 < n0 := by
  obtain ⟨A0, A1, A2, c0, c1, c2, e, q, _⟩ := h.out
  obtain ⟨O, pr, hO⟩ := List.exists_cons_of_ne_nil hp
  rw [hO] at q
  obtain ⟨b, o, hA, lb, p0, p1, p2⟩ := q.1 0 O rfl
  simp only [Nat.zero_mul, Nat.add_zero] at p0 p1 p2
  injection e with e
  have e1 := congrArg (fun t : Array Value => t[0]?) e
  simp only [List.getElem?_toArray, List.getElem?_cons_zero, Option.some.injEq, Value.slice.injEq] at e1
  obtain ⟨e2, e3, _⟩ := e1
  refine ⟨b, o, O, by rw [hO]; rfl, by rw [e2, hA], lb, p0, p1, p2, ?_⟩
  rw [e3, hO]; simp
end Go.Proofs.Ytckdhahceelckaa.G
namespace Go.Proofs.Ytckdhahceelckaa.G
open Go.RowKit Go.Proofs.YtckdhahceelckaaW.PrintWords Go.Proofs.YtckdhahceelckaaW.PrintLast Go.Proofs.YtckdhahceelckaaW.PrintMore
attribute [local go_sem] max2_mx min2_mn max_two min_two max_three min_three max_four min_four
attribute [local go_sem high] eqA23 eqA40
set_option linter.unusedVariables false
set_option linter.unusedSimpArgs false
theorem near_spec (a : Cr) (l : List Cr) (hl : l ≠ []) (h : ∀ i (hi : i < l.length), (apS a l[i]).2 = true) :
    ∃ j : Nat, ∃ hj : j < l.length, nearL a l = ((j : Int), (apS a l[j]).1) ∧ (∀ i (hi : i < l.length), (apS a l[j]).1.2 ≤ (apS a l[i]).1.2) ∧ (∀ i (hi : i < l.length), i < j → (apS a l[j]).1.2 < (apS a l[i]).1.2) := by
  rw [nearL_ask]
  have hpos : 0 < l.length := List.length_pos_iff.2 hl
  rcases leastF_spec nearZ (askN a l) (fun x y => decide (x.2 < y.2)) (fun x => x.2) (fun a b => rfl) l.length with ⟨_, _, p3⟩ | ⟨j, hj, p1, p2, p3, p4, p5⟩
  · have := p3 0 hpos
    rw [askN_get a l 0 hpos, h 0 hpos] at this
    cases this
  · rw [askN_get a l j hj] at p3
    refine ⟨j, hj, Prod.ext p1 p3, fun i hi => ?_, fun i hi hij => ?_⟩
    · have := p4 i hi (by rw [askN_get a l i hi]; exact h i hi)
      rwa [askN_get a l i hi, askN_get a l j hj] at this
    · have := p5 i hij (by rw [askN_get a l i hi]; exact h i hi)
      rwa [askN_get a l i hi, askN_get a l j hj] at this
/-- what SweepNearest asks of each -/
theorem over_at (a : Cr) (l : List Cr) (i : Nat) (hi : i < l.length) : ∃ t, overF a 0 l = (overF a 0 (l.take i) ++ (if overB a l[i] = true then [i] else [])) ++ t := by
  have gen : ∀ k, i + 1 ≤ k → k ≤ l.length → ∃ t, overF a 0 (l.take k) = (overF a 0 (l.take i) ++ (if overB a l[i] = true then [i] else [])) ++ t := by
    intro k hk
    induction k with
    | zero => omega
    | succ k ih =>
      intro hl
      by_cases e : i = k
      · subst e
        exact ⟨[], by rw [List.append_nil]; exact overF_take a l i hi⟩
      · obtain ⟨t, ht⟩ := ih (by omega) (by omega)
        rw [overF_take a l k (by omega), ht, List.append_assoc]
        exact ⟨_, rfl⟩
  obtain ⟨t, ht⟩ := gen l.length (by omega) (Nat.le_refl _)
  rw [List.take_length] at ht
  exact ⟨t, ht⟩
/-- a ball that stays is as far as it was -/
theorem still_gap {p : P3} {r : Int} {d : Cr} (h1 : (⟨[p], [], [], r⟩ : Cr).may = true) (hd : d.may = true) (h2 : (⟨[p, p], [], [], r⟩ : Cr).may = true) : (apS ⟨[p, p], [], [], r⟩ d).1.2 = (apS ⟨[p], [], [], r⟩ d).1.2 := by
  rw [apS_val h1 hd, apS_val h2 hd]
  obtain ⟨q, b, f, s⟩ := d
  obtain ⟨q0, qr, rfl, hq⟩ := (Cr.mayP hd).pts
  have hrr : ∀ n, reachF n p [p] = reachF n p [] := fun n => by
    simp only [reachF, List.foldl_cons, List.foldl_nil, rstep, mn, mx]
    simp
  have hg : ∀ n, gapsF n p [p] r q0 qr s = gapsF n p [] r q0 qr s := fun n => by
    unfold gapsF
    rw [hrr]
  have m1 : ¬ mn (((([p] : List P3).length : Nat)) : Int) ((q0 :: qr).length : Nat) > 2 := by unfold mn; simp only [List.length_cons, List.length_nil]; split <;> omega
  have m2 : ¬ mn (((([p, p] : List P3).length : Nat)) : Int) ((q0 :: qr).length : Nat) > 2 := by unfold mn; simp only [List.length_cons, List.length_nil]; split <;> omega
  have r1 : rawC [p] [] [] (q0 :: qr) b f = b ++ pointW [p] (q0 :: qr) f := by
    unfold rawC edgeW
    rw [if_neg m1]
    simp
  have r2 : rawC [p, p] [] [] (q0 :: qr) b f = b ++ (pointW [p] (q0 :: qr) f ++ pointW [p] (q0 :: qr) f) := by
    unfold rawC edgeW
    rw [if_neg m2]
    simp [pointW]
  simp only
  unfold apartF
  simp only [List.headD_cons, List.tail_cons]
  rw [r1, r2]
  obtain ⟨M, hM⟩ : ∃ M, pointW [p] (q0 :: qr) f = M := ⟨_, rfl⟩
  rw [hM]
  have top1 := apF_top p [] r q0 qr s (b ++ M)
  have top2 := apF_top p [p] r q0 qr s (b ++ (M ++ M))
  have mem : ∀ x, x ∈ b ++ (M ++ M) ↔ x ∈ b ++ M := fun x => by simp
  rcases apF_inv p [] r q0 qr s (b ++ M) with ⟨_, e1, n1⟩ | ⟨_, x1, i1, z1, g1⟩
  · rcases apF_inv p [p] r q0 qr s (b ++ (M ++ M)) with ⟨_, e2, _⟩ | ⟨_, x2, i2, z2, _⟩
    · rw [e1, e2]
    · exact absurd (n1 x2 ((mem x2).1 i2)) z2
  · rcases apF_inv p [p] r q0 qr s (b ++ (M ++ M)) with ⟨_, e2, n2⟩ | ⟨_, x2, i2, z2, g2⟩
    · exact absurd (n2 x1 ((mem x1).2 i1)) z1
    · have a1 := top1 x2 ((mem x2).1 i2) z2
      have a2 := top2 x1 ((mem x1).2 i1) z1
      rw [hg] at a2
      rw [hg] at g2
      rcases g1 with g1 | g1 <;> rcases g2 with g2 | g2 <;> rw [g1] at a1 ⊢ <;> rw [g2] at a2 ⊢ <;> simp only at a1 a2 ⊢ <;> omega
theorem trail_still {p : P3} {r : Int} {k : Int} (h : smay ⟨[p], [], [], r⟩ ⟨0, 0, 0⟩ = true) (h0 : 0 ≤ k) (h1 : k ≤ 16) : trailF ⟨[p], [], [], r⟩ ⟨0, 0, 0⟩ k = ⟨[p, p], [], [], r⟩ := by
  rw [trailF_yes h h0 h1]
  have e : partP ⟨0, 0, 0⟩ k = ⟨0, 0, 0⟩ := by unfold partP; simp
  have hz : nz ⟨0, 0, 0⟩ = false := by decide +kernel
  have e2 : plusI ⟨0, 0, 0⟩ p = p := by unfold plusI; simp
  rw [e, short_zero]
  simp [e2, withF, acrossF, hz]
/-- a ball that goes nowhere goes all of its way, if it was apart -/
theorem cast_still {p : P3} {r : Int} {d : Cr} (hp : in3 8388608 p) (h0 : 0 ≤ r) (h1 : r ≤ 65536) (hd : d.may = true) :
    (castF ⟨[p], [], [], r⟩ ⟨0, 0, 0⟩ d).2 = true ∧ ((castF ⟨[p], [], [], r⟩ ⟨0, 0, 0⟩ d).1.1 = 16 ↔ 0 ≤ (apS ⟨[p], [], [], r⟩ d).1.2) := by
  have hm : (⟨[p], [], [], r⟩ : Cr).may = true := mayOne (in3_le (by decide) hp) h0 h1
  have hok : castOk ⟨[p], [], [], r⟩ ⟨0, 0, 0⟩ d = true := castOk_near hm hd (by simp) (fun x hx => by
    have : x = p := by simpa using hx
    subst this; exact hp) (by unfold in3; decide)
  have hs := ((castOk_iff ..).1 hok).2.2.1
  have ht16 := ((castOk_iff ..).1 hok).2.2.2
  refine ⟨castF_ok hok, ?_⟩
  have hmm : (⟨[p, p], [], [], r⟩ : Cr).may = true := by rw [← trail_still hs (k := 16) (by decide) (by decide)]; exact ht16
  have hg := still_gap hm hd hmm
  unfold castF
  rw [if_pos hok]
  show (castL ⟨[p], [], [], r⟩ ⟨0, 0, 0⟩ d 16 0 (apS ⟨[p], [], [], r⟩ d).1).1 = 16 ↔ _
  constructor
  · intro h
    by_cases hn : (apS ⟨[p], [], [], r⟩ d).1.2 < 0
    · rw [castL_neg hn] at h
      cases h
    · omega
  · intro h
    have gen : ∀ (n k : Nat) (x : P3 × Int), n + k = 16 → 0 ≤ x.2 → (castL ⟨[p], [], [], r⟩ ⟨0, 0, 0⟩ d n k x).1 = 16 := by
      intro n
      induction n with
      | zero => intro k x hk _; rw [castL]; simpa using hk
      | succ n ih =>
        intro k x hk hx
        have ht : trailF ⟨[p], [], [], r⟩ ⟨0, 0, 0⟩ ((k : Int) + 1) = ⟨[p, p], [], [], r⟩ := trail_still hs (by omega) (by omega)
        rw [castL_go hx rfl (by rw [ht, hg]; exact h)]
        exact ih (k + 1) _ (by omega) (by rw [ht, hg]; exact h)
    exact gen 16 0 _ rfl h
end Go.Proofs.Ytckdhahceelckaa.G
namespace Go.Proofs.Ytckdhahceelckaa.G
open Go.RowKit Go.Proofs.YtckdhahceelckaaW.PrintWords Go.Proofs.YtckdhahceelckaaW.PrintLast Go.Proofs.YtckdhahceelckaaW.PrintMore
attribute [local go_sem] max2_mx min2_mn max_two min_two max_three min_three max_four min_four
attribute [local go_sem high] eqA23 eqA40
set_option linter.unusedVariables false
set_option linter.unusedSimpArgs false
section
variable {P : Program} {ops : Array Oper} {Q : Exit → Act → World → Prop} {md : Region.Mode} {S : World → Prop} {ds : List Nat}
/-- three that may come up -/
theorem tri_ {i j k : Nat} {Ni Nj Nk : Option Tmp} {oi oj ok : Oper} {fuel : Nat} {l : Array Bool} {a : Act} {w : World} (li lj lk : Array Bool) (hi : ops[i]? = some oi) (hj : ops[j]? = some oj) (hk : ops[k]? = some ok) (hNi : oi.dst = Ni) (hNj : oj.dst = Nj) (hNk : ok.dst = Nk)
    (hc : (Region.ready md ops l == [i, j, k] && l.setIfInBounds i true == li && l.setIfInBounds j true == lj && l.setIfInBounds k true == lk) = true) (hdi : i ∉ ds) (hdj : j ∉ ds) (hdk : k ∉ ds)
    (h1 : ∀ K : Act → World → Prop, Shut (∀ a' w', S w' → (S w' → wpAnyLast P md ops Q S ds fuel li a' w') → K a' w') → if Region.wanted oi (yielded ops a.tmps) = true then Oper.wp P oi a w K Q else K (a.put Ni undef) w)
    (h2 : ∀ K : Act → World → Prop, Shut (∀ a' w', S w' → (S w' → wpAnyLast P md ops Q S ds fuel lj a' w') → K a' w') → if Region.wanted oj (yielded ops a.tmps) = true then Oper.wp P oj a w K Q else K (a.put Nj undef) w)
    (h3 : ∀ K : Act → World → Prop, Shut (∀ a' w', S w' → (S w' → wpAnyLast P md ops Q S ds fuel lk a' w') → K a' w') → if Region.wanted ok (yielded ops a.tmps) = true then Oper.wp P ok a w K Q else K (a.put Nk undef) w) :
    wpAnyLast P md ops Q S ds (fuel + 1) l a w := by
  subst hNi
  subst hNj
  subst hNk
  simp only [Bool.and_eq_true, beq_iff_eq] at hc
  obtain ⟨⟨⟨e1, e2⟩, e3⟩, e4⟩ := hc
  subst e2
  subst e3
  subst e4
  exact wpAnyLast_ready e1 (by simp) (AllReadyL.cons hi hdi (fun K hK => h1 K hK) (AllReadyL.cons hj hdj (fun K hK => h2 K hK) (AllReadyL.cons hk hdk (fun K hK => h3 K hK) AllReadyL.nil)))
end
/-- a list of three cores, built -/
theorem RdC_three {w : World} {g : Nat} {B3 B4 B5 E0 E1 E2 E3 E4 E5 : Option Addr} {n3 n4 n5 d3 d4 d5 m0 m1 m2 g0 g1 g2 m3 m4 m5 g3 g4 g5 : Nat} {rb rc rd : Int} {b c d : Cr} {t : TypeId} (h : w.heap[g]? = some (.cells #[.slice B3 n3 d3, .slice B4 n4 d4, .slice B5 n5 d5, .int .i64 rb, .slice E0 m0 g0, .slice E1 m1 g1, .slice E2 m2 g2, .int .i64 rc, .slice E3 m3 g3, .slice E4 m4 g4, .slice E5 m5 g5, .int .i64 rd] t (0, 0)))
    (hb : CrV w (.agg #[.slice B3 n3 d3, .slice B4 n4 d4, .slice B5 n5 d5, .int .i64 rb]) b) (hrb : b.r = rb) (hc : CrV w (.agg #[.slice E0 m0 g0, .slice E1 m1 g1, .slice E2 m2 g2, .int .i64 rc]) c) (hrc : c.r = rc) (hd : CrV w (.agg #[.slice E3 m3 g3, .slice E4 m4 g4, .slice E5 m5 g5, .int .i64 rd]) d) (hrd : d.r = rd) : RdC w (some ⟨g, 0, none⟩) [b, c, d] := fun i x hx => by
  match i with
  | 0 =>
    simp at hx
    subst hx
    subst hrb
    exact ⟨g, 0, B3, B4, B5, n3, n4, n5, d3, d4, d5, rfl, blk_lt h, (blk_cell h 0).trans rfl, (blk_cell h 1).trans rfl, (blk_cell h 2).trans rfl, (blk_cell h 3).trans rfl, hb⟩
  | 1 =>
    simp at hx
    subst hx
    subst hrc
    exact ⟨g, 0, E0, E1, E2, m0, m1, m2, g0, g1, g2, rfl, blk_lt h, (blk_cell h 4).trans rfl, (blk_cell h 5).trans rfl, (blk_cell h 6).trans rfl, (blk_cell h 7).trans rfl, hc⟩
  | 2 =>
    simp at hx
    subst hx
    subst hrd
    exact ⟨g, 0, E3, E4, E5, m3, m4, m5, g3, g4, g5, rfl, blk_lt h, (blk_cell h 8).trans rfl, (blk_cell h 9).trans rfl, (blk_cell h 10).trans rfl, (blk_cell h 11).trans rfl, hd⟩
  | i + 3 => simp at hx
/-- what the walk wants of the three -/
theorem nearest_pack {a b c d : Cr} (ha : a.may = true) (hb : b.may = true) (hc : c.may = true) (hd : d.may = true) : ∃ (l : List Cr) (j : Nat) (R : P3 × Int), l = [b, c, d] ∧ l.length = 3 ∧ j < 3 ∧ (∀ (i : Nat) (hi : i < l.length), (apS a l[i]).2 = true) ∧ nearS a l = (((j : Int), R), true) ∧
    (∀ (i : Nat) (hi : i < l.length), R.2 ≤ (apS a l[i]).1.2) ∧ (∀ (i : Nat) (hi : i < l.length), i < j → R.2 < (apS a l[i]).1.2) := by
  have hall : ∀ (i : Nat) (hi : i < [b, c, d].length), (apS a [b, c, d][i]).2 = true := by
    intro i hi
    rw [apS_may, ha]
    match i, hi with
    | 0, _ => exact hb
    | 1, _ => exact hc
    | 2, _ => exact hd
  obtain ⟨j, hj, h1, h2, h3⟩ := near_spec a [b, c, d] (by simp) hall
  exact ⟨[b, c, d], j, (apS a [b, c, d][j]).1, rfl, rfl, by simpa using hj, hall, by unfold nearS; rw [h1]; simp, h2, h3⟩
set_option maxHeartbeats 16000000 in
set_option maxRecDepth 100000 in
theorem nearest_law (k1 r1 : Int) (h1 : P3) (l1 : List P3) (A1 : Option Addr) (c1 : Nat) (k2 r2 : Int) (h2 : P3) (l2 : List P3) (A2 : Option Addr) (c2 : Nat) (p q : P7) (near : Int) (way : P3) (k1u r1u : Int) (h1u : P3) (l1u : List P3) (A1u : Option Addr) (c1u : Nat) (k2u r2u : Int) (h2u : P3) (l2u : List P3) (A2u : Option Addr) (c2u : Nat) (pu qu : P7) (nearu : Int) (wayu : P3) (ro : Int) (w : World)
    (hA1 : RdB w A1 l1) (hr1 : RawOk k1 r1 h1 l1) (hA2 : RdB w A2 l2) (hr2 : RawOk k2 r2 h2 l2) (hp : i64s p) (hq : i64s q) (hne : i64 near) (hwa : pI64 way) (hA1u : RdB w A1u l1u) (hr1u : RawOk k1u r1u h1u l1u) (hA2u : RdB w A2u l2u) (hr2u : RawOk k2u r2u h2u l2u) (hpu : i64s pu) (hqu : i64s qu) (hneu : i64 nearu) (hwau : pI64 wayu) (hro : i64 ro) :
    Calls Try.prog 14 #[.agg (cTwo k1 r1 h1 A1 l1.length c1 k2 r2 h2 A2 l2.length c2 p q near way), .agg (cTwo k1u r1u h1u A1u l1u.length c1u k2u r2u h2u A2u l2u.length c2u pu qu nearu wayu), .int .i64 ro] w fun e w' => e = .returned (.bool true) ∧ Below w.heap.size w w' := by
  have HPR := Lh (fun (W : World) => pick11_calls ro 16384 hro.1 hro.2 (by decide) (by decide) W)
  have bro := pickF_bd ro 16384 (by decide)
  obtain ⟨qr, hqr⟩ : ∃ n, pickF ro 16384 = n := ⟨_, rfl⟩
  rw [hqr] at HPR bro
  have DR := Lh bro
  clear hqr bro hro
  have HC := Lh (fun (W : World) (hW1 : RdB W A1 l1) (hW2 : RdB W A2 l2) => two_calls k1 r1 h1 l1 A1 c1 k2 r2 h2 l2 A2 c2 p q near way W hW1 hr1 hW2 hr2 hp hq hne hwa)
  have HA1 := Lh hA1
  have HA2 := Lh hA2
  obtain ⟨N1, hN1⟩ : ∃ N, l1.length = N := ⟨_, rfl⟩
  obtain ⟨N2, hN2⟩ : ∃ N, l2.length = N := ⟨_, rfl⟩
  rw [hN1, hN2] at HC ⊢
  clear hA1 hr1 hA2 hr2 hp hq hne hwa hN1 hN2
  obtain ⟨h1x, h1y, h1z⟩ := h1
  obtain ⟨h2x, h2y, h2z⟩ := h2
  obtain ⟨⟨pax, pay, paz⟩, ⟨ptw, ptx, pty, ptz⟩⟩ := p
  obtain ⟨⟨qax, qay, qaz⟩, ⟨qtw, qtx, qty, qtz⟩⟩ := q
  obtain ⟨wx, wy, wz⟩ := way
  have HCu := Lh (fun (W : World) (hW1 : RdB W A1u l1u) (hW2 : RdB W A2u l2u) => two_calls k1u r1u h1u l1u A1u c1u k2u r2u h2u l2u A2u c2u pu qu nearu wayu W hW1 hr1u hW2 hr2u hpu hqu hneu hwau)
  have HA1u := Lh hA1u
  have HA2u := Lh hA2u
  obtain ⟨N1u, hN1u⟩ : ∃ N, l1u.length = N := ⟨_, rfl⟩
  obtain ⟨N2u, hN2u⟩ : ∃ N, l2u.length = N := ⟨_, rfl⟩
  rw [hN1u, hN2u] at HCu ⊢
  clear hA1u hr1u hA2u hr2u hpu hqu hneu hwau hN1u hN2u
  obtain ⟨h1xu, h1yu, h1zu⟩ := h1u
  obtain ⟨h2xu, h2yu, h2zu⟩ := h2u
  obtain ⟨⟨paxu, payu, pazu⟩, ⟨ptwu, ptxu, ptyu, ptzu⟩⟩ := pu
  obtain ⟨⟨qaxu, qayu, qazu⟩, ⟨qtwu, qtxu, qtyu, qtzu⟩⟩ := qu
  obtain ⟨wxu, wyu, wzu⟩ := wayu
  have W := Lh (Below.refl w.heap.size w)
  go_enter Try.func14, Try.ntmps14
  go_wp2_with fail
  have bz := (((Below.refl w.heap.size w).alloc (Nat.le_refl _) (.cells #[.int .i64 k1, .int .i64 r1, .int .i64 h1x, .int .i64 h1y, .int .i64 h1z, .slice A1 N1 c1, .int .i64 k2, .int .i64 r2, .int .i64 h2x, .int .i64 h2y, .int .i64 h2z, .slice A2 N2 c2, .int .i64 pax, .int .i64 pay, .int .i64 paz, .int .i64 ptw, .int .i64 ptx, .int .i64 pty, .int .i64 ptz, .int .i64 qax, .int .i64 qay, .int .i64 qaz, .int .i64 qtw, .int .i64 qtx, .int .i64 qty, .int .i64 qtz, .int .i64 near, .int .i64 wx, .int .i64 wy, .int .i64 wz] 33)).alloc (by simp) (.cells #[.int .i64 k1u, .int .i64 r1u, .int .i64 h1xu, .int .i64 h1yu, .int .i64 h1zu, .slice A1u N1u c1u, .int .i64 k2u, .int .i64 r2u, .int .i64 h2xu, .int .i64 h2yu, .int .i64 h2zu, .slice A2u N2u c2u, .int .i64 paxu, .int .i64 payu, .int .i64 pazu, .int .i64 ptwu, .int .i64 ptxu, .int .i64 ptyu, .int .i64 ptzu, .int .i64 qaxu, .int .i64 qayu, .int .i64 qazu, .int .i64 qtwu, .int .i64 qtxu, .int .i64 qtyu, .int .i64 qtzu, .int .i64 nearu, .int .i64 wxu, .int .i64 wyu, .int .i64 wzu] 33))
  have nz0 := heap_alloc_new w (.cells #[.int .i64 k1, .int .i64 r1, .int .i64 h1x, .int .i64 h1y, .int .i64 h1z, .slice A1 N1 c1, .int .i64 k2, .int .i64 r2, .int .i64 h2x, .int .i64 h2y, .int .i64 h2z, .slice A2 N2 c2, .int .i64 pax, .int .i64 pay, .int .i64 paz, .int .i64 ptw, .int .i64 ptx, .int .i64 pty, .int .i64 ptz, .int .i64 qax, .int .i64 qay, .int .i64 qaz, .int .i64 qtw, .int .i64 qtx, .int .i64 qty, .int .i64 qtz, .int .i64 near, .int .i64 wx, .int .i64 wy, .int .i64 wz] 33)
  replace nz0 := (Below.heap_alloc _ (.cells #[.int .i64 k1u, .int .i64 r1u, .int .i64 h1xu, .int .i64 h1yu, .int .i64 h1zu, .slice A1u N1u c1u, .int .i64 k2u, .int .i64 r2u, .int .i64 h2xu, .int .i64 h2yu, .int .i64 h2zu, .slice A2u N2u c2u, .int .i64 paxu, .int .i64 payu, .int .i64 pazu, .int .i64 ptwu, .int .i64 ptxu, .int .i64 ptyu, .int .i64 ptzu, .int .i64 qaxu, .int .i64 qayu, .int .i64 qazu, .int .i64 qtwu, .int .i64 qtxu, .int .i64 qtyu, .int .i64 qtzu, .int .i64 nearu, .int .i64 wxu, .int .i64 wyu, .int .i64 wzu] 33) _ (by simp <;> omega)).trans nz0
  have nz1 := heap_alloc_new (w.alloc (.cells #[.int .i64 k1, .int .i64 r1, .int .i64 h1x, .int .i64 h1y, .int .i64 h1z, .slice A1 N1 c1, .int .i64 k2, .int .i64 r2, .int .i64 h2x, .int .i64 h2y, .int .i64 h2z, .slice A2 N2 c2, .int .i64 pax, .int .i64 pay, .int .i64 paz, .int .i64 ptw, .int .i64 ptx, .int .i64 pty, .int .i64 ptz, .int .i64 qax, .int .i64 qay, .int .i64 qaz, .int .i64 qtw, .int .i64 qtx, .int .i64 qty, .int .i64 qtz, .int .i64 near, .int .i64 wx, .int .i64 wy, .int .i64 wz] 33)) (.cells #[.int .i64 k1u, .int .i64 r1u, .int .i64 h1xu, .int .i64 h1yu, .int .i64 h1zu, .slice A1u N1u c1u, .int .i64 k2u, .int .i64 r2u, .int .i64 h2xu, .int .i64 h2yu, .int .i64 h2zu, .slice A2u N2u c2u, .int .i64 paxu, .int .i64 payu, .int .i64 pazu, .int .i64 ptwu, .int .i64 ptxu, .int .i64 ptyu, .int .i64 ptzu, .int .i64 qaxu, .int .i64 qayu, .int .i64 qazu, .int .i64 qtwu, .int .i64 qtxu, .int .i64 qtyu, .int .i64 qtzu, .int .i64 nearu, .int .i64 wxu, .int .i64 wyu, .int .i64 wzu] 33)
  simp only [World.size_alloc] at nz1
  obtain ⟨w1, hwz⟩ : ∃ V, ((w.alloc (.cells #[.int .i64 k1, .int .i64 r1, .int .i64 h1x, .int .i64 h1y, .int .i64 h1z, .slice A1 N1 c1, .int .i64 k2, .int .i64 r2, .int .i64 h2x, .int .i64 h2y, .int .i64 h2z, .slice A2 N2 c2, .int .i64 pax, .int .i64 pay, .int .i64 paz, .int .i64 ptw, .int .i64 ptx, .int .i64 pty, .int .i64 ptz, .int .i64 qax, .int .i64 qay, .int .i64 qaz, .int .i64 qtw, .int .i64 qtx, .int .i64 qty, .int .i64 qtz, .int .i64 near, .int .i64 wx, .int .i64 wy, .int .i64 wz] 33)).alloc (.cells #[.int .i64 k1u, .int .i64 r1u, .int .i64 h1xu, .int .i64 h1yu, .int .i64 h1zu, .slice A1u N1u c1u, .int .i64 k2u, .int .i64 r2u, .int .i64 h2xu, .int .i64 h2yu, .int .i64 h2zu, .slice A2u N2u c2u, .int .i64 paxu, .int .i64 payu, .int .i64 pazu, .int .i64 ptwu, .int .i64 ptxu, .int .i64 ptyu, .int .i64 ptzu, .int .i64 qaxu, .int .i64 qayu, .int .i64 qazu, .int .i64 qtwu, .int .i64 qtxu, .int .i64 qtyu, .int .i64 qtzu, .int .i64 nearu, .int .i64 wxu, .int .i64 wyu, .int .i64 wzu] 33)) = V := ⟨_, rfl⟩
  rw [hwz] at bz nz0 nz1 ⊢
  replace W := Lh (bthen W.out bz)
  have T0 := Lh nz0
  have U0 := Lh nz1
  clear hwz bz nz0 nz1
  refine (awake11_calls _).mono ?_
  rintro en w2 ⟨rfl, hb⟩
  replace T0 := Lh ((hb.block _ (blk_lt T0.out)).trans T0.out)
  replace U0 := Lh ((hb.block _ (blk_lt U0.out)).trans U0.out)
  replace W := Lh (bthen W.out hb)
  clear hb
  go_wp2_with (refine wpList_load_row rfl 33 _ rfl w.heap.size rfl 33 _ (0, 0) _ T0.out Try.underlying33 rfl (by kernel_rfl) ?_)
  refine (HC.out _ (HA1.out.below W.out) (HA2.out.below W.out)).mono ?_
  rintro en w3 ⟨va, vb, a, b, rfl, ha, hbv, hb, hfa, hfb, ga, gb⟩
  replace U0 := Lh ((hb.block _ (blk_lt U0.out)).trans U0.out)
  replace W := Lh (bthen W.out hb)
  clear hb
  have GA := Lh ga
  have GB := Lh gb
  have HV := Lh ha
  have HVB := Lh hbv
  have HFA := Lh hfa
  have HFB := Lh hfb
  obtain ⟨B0, B1, B2, d0, d1, d2, hva, q0, _⟩ := id ha.out
  obtain ⟨B3, B4, B5, d3, d4, d5, hvb, q3, _⟩ := id hbv.out
  have Q0 := Lh q0
  have Q3 := Lh q3
  obtain ⟨n0, hn0⟩ : ∃ n, a.p.length = n := ⟨_, rfl⟩
  obtain ⟨n1, hn1⟩ : ∃ n, a.a.length = n := ⟨_, rfl⟩
  obtain ⟨n2, hn2⟩ : ∃ n, a.e.length = n := ⟨_, rfl⟩
  obtain ⟨n3, hn3⟩ : ∃ n, b.p.length = n := ⟨_, rfl⟩
  obtain ⟨n4, hn4⟩ : ∃ n, b.a.length = n := ⟨_, rfl⟩
  obtain ⟨n5, hn5⟩ : ∃ n, b.e.length = n := ⟨_, rfl⟩
  obtain ⟨ra, hra⟩ : ∃ n, a.r = n := ⟨_, rfl⟩
  obtain ⟨rb, hrb⟩ : ∃ n, b.r = n := ⟨_, rfl⟩
  rw [hn0, hn1, hn2, hra] at hva
  rw [hn3, hn4, hn5, hrb] at hvb
  have HN0 := Lh hn0
  have HN3 := Lh hn3
  have HRA := Lh hra
  have HRB := Lh hrb
  subst hva hvb
  clear hn0 hn1 hn2 hn3 hn4 hn5 hra hrb ha hbv hfa hfb ga gb q0 q3 HC
  clear T0 HFA HFB
  go_upto_region 3 with fail
  have bz := (((Below.refl w3.heap.size w3).alloc (Nat.le_refl _) (.cells #[.slice B0 n0 d0, .slice B1 n1 d1, .slice B2 n2 d2, .int .i64 ra] 36)).alloc (by simp) (.cells #[.slice B3 n3 d3, .slice B4 n4 d4, .slice B5 n5 d5, .int .i64 rb] 36))
  have nz0 := heap_alloc_new w3 (.cells #[.slice B0 n0 d0, .slice B1 n1 d1, .slice B2 n2 d2, .int .i64 ra] 36)
  replace nz0 := (Below.heap_alloc _ (.cells #[.slice B3 n3 d3, .slice B4 n4 d4, .slice B5 n5 d5, .int .i64 rb] 36) _ (by simp <;> omega)).trans nz0
  have nz1 := heap_alloc_new (w3.alloc (.cells #[.slice B0 n0 d0, .slice B1 n1 d1, .slice B2 n2 d2, .int .i64 ra] 36)) (.cells #[.slice B3 n3 d3, .slice B4 n4 d4, .slice B5 n5 d5, .int .i64 rb] 36)
  simp only [World.size_alloc] at nz1
  obtain ⟨w4, hwz⟩ : ∃ V, ((w3.alloc (.cells #[.slice B0 n0 d0, .slice B1 n1 d1, .slice B2 n2 d2, .int .i64 ra] 36)).alloc (.cells #[.slice B3 n3 d3, .slice B4 n4 d4, .slice B5 n5 d5, .int .i64 rb] 36)) = V := ⟨_, rfl⟩
  rw [hwz] at bz nz0 nz1 ⊢
  replace U0 := Lh ((bz.block _ (blk_lt U0.out)).trans U0.out)
  replace HV := Lh (HV.out.below bz)
  replace HVB := Lh (HVB.out.below bz)
  replace W := Lh (bthen W.out bz)
  have CA := Lh nz0
  have CB := Lh nz1
  clear hwz bz nz0 nz1
  go_wp2_with (refine wpList_load_row rfl 33 _ rfl (w.heap.size + 1) rfl 33 _ (0, 0) _ U0.out Try.underlying33 rfl (by kernel_rfl) ?_)
  refine (HCu.out _ (HA1u.out.below W.out) (HA2u.out.below W.out)).mono ?_
  rintro en w5 ⟨vc, vd, c, d, rfl, hc, hdv, hb, hfc, hfd, gc, gd⟩
  replace CA := Lh ((hb.block _ (blk_lt CA.out)).trans CA.out)
  replace CB := Lh ((hb.block _ (blk_lt CB.out)).trans CB.out)
  replace HV := Lh (HV.out.below hb)
  replace HVB := Lh (HVB.out.below hb)
  replace W := Lh (bthen W.out hb)
  clear hb
  have GC := Lh gc
  have GD := Lh gd
  have HVC := Lh hc
  have HVD := Lh hdv
  have HFC := Lh hfc
  have HFD := Lh hfd
  obtain ⟨E0, E1, E2, g0, g1, g2, hvc, q6, _⟩ := id hc.out
  obtain ⟨E3, E4, E5, g3, g4, g5, hvd, q9, _⟩ := id hdv.out
  have Q6 := Lh q6
  have Q9 := Lh q9
  obtain ⟨m0, hm0⟩ : ∃ n, c.p.length = n := ⟨_, rfl⟩
  obtain ⟨m1, hm1⟩ : ∃ n, c.a.length = n := ⟨_, rfl⟩
  obtain ⟨m2, hm2⟩ : ∃ n, c.e.length = n := ⟨_, rfl⟩
  obtain ⟨m3, hm3⟩ : ∃ n, d.p.length = n := ⟨_, rfl⟩
  obtain ⟨m4, hm4⟩ : ∃ n, d.a.length = n := ⟨_, rfl⟩
  obtain ⟨m5, hm5⟩ : ∃ n, d.e.length = n := ⟨_, rfl⟩
  obtain ⟨rc, hrc⟩ : ∃ n, c.r = n := ⟨_, rfl⟩
  obtain ⟨rd, hrd⟩ : ∃ n, d.r = n := ⟨_, rfl⟩
  rw [hm0, hm1, hm2, hrc] at hvc
  rw [hm3, hm4, hm5, hrd] at hvd
  have HM0 := Lh hm0
  have HM3 := Lh hm3
  have HRC := Lh hrc
  have HRD := Lh hrd
  subst hvc hvd
  clear hm0 hm1 hm2 hm3 hm4 hm5 hrc hrd hc hdv hfc hfd gc gd q6 q9 HCu
  clear U0 HFC HFD
  go_upto_region 4 with fail
  have bz := (((Below.refl w5.heap.size w5).alloc (Nat.le_refl _) (.cells #[.slice E0 m0 g0, .slice E1 m1 g1, .slice E2 m2 g2, .int .i64 rc] 36)).alloc (by simp) (.cells #[.slice E3 m3 g3, .slice E4 m4 g4, .slice E5 m5 g5, .int .i64 rd] 36))
  have nz0 := heap_alloc_new w5 (.cells #[.slice E0 m0 g0, .slice E1 m1 g1, .slice E2 m2 g2, .int .i64 rc] 36)
  replace nz0 := (Below.heap_alloc _ (.cells #[.slice E3 m3 g3, .slice E4 m4 g4, .slice E5 m5 g5, .int .i64 rd] 36) _ (by simp <;> omega)).trans nz0
  have nz1 := heap_alloc_new (w5.alloc (.cells #[.slice E0 m0 g0, .slice E1 m1 g1, .slice E2 m2 g2, .int .i64 rc] 36)) (.cells #[.slice E3 m3 g3, .slice E4 m4 g4, .slice E5 m5 g5, .int .i64 rd] 36)
  simp only [World.size_alloc] at nz1
  obtain ⟨w6, hwz⟩ : ∃ V, ((w5.alloc (.cells #[.slice E0 m0 g0, .slice E1 m1 g1, .slice E2 m2 g2, .int .i64 rc] 36)).alloc (.cells #[.slice E3 m3 g3, .slice E4 m4 g4, .slice E5 m5 g5, .int .i64 rd] 36)) = V := ⟨_, rfl⟩
  rw [hwz] at bz nz0 nz1 ⊢
  replace CA := Lh ((bz.block _ (blk_lt CA.out)).trans CA.out)
  replace CB := Lh ((bz.block _ (blk_lt CB.out)).trans CB.out)
  replace HV := Lh (HV.out.below bz)
  replace HVB := Lh (HVB.out.below bz)
  replace HVC := Lh (HVC.out.below bz)
  replace HVD := Lh (HVD.out.below bz)
  replace W := Lh (bthen W.out bz)
  have CC := Lh nz0
  have CD := Lh nz1
  clear hwz bz nz0 nz1
  have y0 : w6.cell? ⟨w3.heap.size + 1, 0, none⟩ = some (.slice B3 n3 d3) := (blk_cell CB.out 0).trans rfl
  have y1 : w6.cell? ⟨w3.heap.size + 1, 1, none⟩ = some (.slice B4 n4 d4) := (blk_cell CB.out 1).trans rfl
  have y2 : w6.cell? ⟨w3.heap.size + 1, 2, none⟩ = some (.slice B5 n5 d5) := (blk_cell CB.out 2).trans rfl
  have y3 : w6.cell? ⟨w3.heap.size + 1, 3, none⟩ = some (.int .i64 rb) := (blk_cell CB.out 3).trans rfl
  have yl : w3.heap.size + 1 < w6.heap.size := blk_lt CB.out
  have z0 : w6.cell? ⟨w5.heap.size, 0, none⟩ = some (.slice E0 m0 g0) := (blk_cell CC.out 0).trans rfl
  have z1 : w6.cell? ⟨w5.heap.size, 1, none⟩ = some (.slice E1 m1 g1) := (blk_cell CC.out 1).trans rfl
  have z2 : w6.cell? ⟨w5.heap.size, 2, none⟩ = some (.slice E2 m2 g2) := (blk_cell CC.out 2).trans rfl
  have z3 : w6.cell? ⟨w5.heap.size, 3, none⟩ = some (.int .i64 rc) := (blk_cell CC.out 3).trans rfl
  have zl : w5.heap.size < w6.heap.size := blk_lt CC.out
  have t0 : w6.cell? ⟨w5.heap.size + 1, 0, none⟩ = some (.slice E3 m3 g3) := (blk_cell CD.out 0).trans rfl
  have t1 : w6.cell? ⟨w5.heap.size + 1, 1, none⟩ = some (.slice E4 m4 g4) := (blk_cell CD.out 1).trans rfl
  have t2 : w6.cell? ⟨w5.heap.size + 1, 2, none⟩ = some (.slice E5 m5 g5) := (blk_cell CD.out 2).trans rfl
  have t3 : w6.cell? ⟨w5.heap.size + 1, 3, none⟩ = some (.int .i64 rd) := (blk_cell CD.out 3).trans rfl
  have tl : w5.heap.size + 1 < w6.heap.size := blk_lt CD.out
  go_upto_region 5 with fail
  have bz := ((Below.refl w6.heap.size w6).alloc (Nat.le_refl _) (.cells #[.slice B3 n3 d3, .slice B4 n4 d4, .slice B5 n5 d5, .int .i64 rb, .slice E0 m0 g0, .slice E1 m1 g1, .slice E2 m2 g2, .int .i64 rc, .slice E3 m3 g3, .slice E4 m4 g4, .slice E5 m5 g5, .int .i64 rd] 36))
  have nz0 := heap_alloc_new w6 (.cells #[.slice B3 n3 d3, .slice B4 n4 d4, .slice B5 n5 d5, .int .i64 rb, .slice E0 m0 g0, .slice E1 m1 g1, .slice E2 m2 g2, .int .i64 rc, .slice E3 m3 g3, .slice E4 m4 g4, .slice E5 m5 g5, .int .i64 rd] 36)
  obtain ⟨w7, hwz⟩ : ∃ V, (w6.alloc (.cells #[.slice B3 n3 d3, .slice B4 n4 d4, .slice B5 n5 d5, .int .i64 rb, .slice E0 m0 g0, .slice E1 m1 g1, .slice E2 m2 g2, .int .i64 rc, .slice E3 m3 g3, .slice E4 m4 g4, .slice E5 m5 g5, .int .i64 rd] 36)) = V := ⟨_, rfl⟩
  rw [hwz] at bz nz0 ⊢
  replace CA := Lh ((bz.block _ (blk_lt CA.out)).trans CA.out)
  replace CB := Lh ((bz.block _ (blk_lt CB.out)).trans CB.out)
  replace CC := Lh ((bz.block _ (blk_lt CC.out)).trans CC.out)
  replace CD := Lh ((bz.block _ (blk_lt CD.out)).trans CD.out)
  replace HV := Lh (HV.out.below bz)
  replace HVB := Lh (HVB.out.below bz)
  replace HVC := Lh (HVC.out.below bz)
  replace HVD := Lh (HVD.out.below bz)
  replace W := Lh (bthen W.out bz)
  have LB := Lh nz0
  clear hwz bz nz0 y0 y1 y2 y3 yl z0 z1 z2 z3 zl t0 t1 t2 t3 tl
  obtain ⟨lb_, hlb⟩ : ∃ n, w6.heap.size = n := ⟨_, rfl⟩
  rw [hlb] at LB ⊢
  clear hlb
  have HL := Lh (RdC_three LB.out HVB.out HRB.out HVC.out HRC.out HVD.out HRD.out)
  clear LB CC CD HVC HVD
  obtain ⟨l, j, S1, hll, hle, hj3, hal, hns, h1, h2⟩ := nearest_pack GA.out.may GB.out.may GC.out.may GD.out.may
  rw [← hll] at HL
  have HALL := Lh hal
  have HLE := Lh hle
  have HN1 := Lh h1
  have HN2 := Lh h2
  have HNS := Lh hns
  clear hll hle hal hns h1 h2
  have HOT := Lh (fun i (h : i < l.length) => overF_take a l i h)
  have HOA := Lh (fun i (h : i < l.length) => over_at a l i h)
  have HO3 : Hid (overF a 0 l = overF a 0 (l.take 3)) := Lh (by rw [List.take_of_length_le (by rw [HLE.out]; exact Nat.le_refl _)])
  have HO0 : Hid (overF a 0 (l.take 0) = []) := Lh rfl
  have x0 : w7.cell? ⟨w3.heap.size, 0, none⟩ = some (.slice B0 n0 d0) := (blk_cell CA.out 0).trans rfl
  have x1 : w7.cell? ⟨w3.heap.size, 1, none⟩ = some (.slice B1 n1 d1) := (blk_cell CA.out 1).trans rfl
  have x2 : w7.cell? ⟨w3.heap.size, 2, none⟩ = some (.slice B2 n2 d2) := (blk_cell CA.out 2).trans rfl
  have x3 : w7.cell? ⟨w3.heap.size, 3, none⟩ = some (.int .i64 ra) := (blk_cell CA.out 3).trans rfl
  have xl : w3.heap.size < w7.heap.size := blk_lt CA.out
  go_wp2_with fail
  with_reducible refine (near_calls HV.out l (some ⟨lb_, 0, none⟩) 3 3 HL.out HLE.out (by decide)).mono ?_
  rintro en w8 ⟨rfl, hb⟩
  replace CA := Lh ((hb.block _ (blk_lt CA.out)).trans CA.out)
  replace CB := Lh ((hb.block _ (blk_lt CB.out)).trans CB.out)
  replace HV := Lh (HV.out.below hb)
  replace HVB := Lh (HVB.out.below hb)
  replace HL := Lh (HL.out.below hb)
  replace W := Lh (bthen W.out hb)
  clear hb x0 x1 x2 x3 xl
  rw [HNS.out]
  clear HNS
  obtain ⟨⟨sx, sy, sz⟩, sg⟩ := S1
  simp only
  go_upto_region 6 with fail
  have bz := ((Below.refl w8.heap.size w8).alloc (Nat.le_refl _) (.cells #[.int .i64 sx, .int .i64 sy, .int .i64 sz, .int .i64 sg] 40))
  have nz0 := heap_alloc_new w8 (.cells #[.int .i64 sx, .int .i64 sy, .int .i64 sz, .int .i64 sg] 40)
  obtain ⟨w9, hwz⟩ : ∃ V, (w8.alloc (.cells #[.int .i64 sx, .int .i64 sy, .int .i64 sz, .int .i64 sg] 40)) = V := ⟨_, rfl⟩
  rw [hwz] at bz nz0 ⊢
  replace CA := Lh ((bz.block _ (blk_lt CA.out)).trans CA.out)
  replace CB := Lh ((bz.block _ (blk_lt CB.out)).trans CB.out)
  replace HV := Lh (HV.out.below bz)
  replace HVB := Lh (HVB.out.below bz)
  replace HL := Lh (HL.out.below bz)
  replace W := Lh (bthen W.out bz)
  have XN := Lh nz0
  clear hwz bz nz0
  obtain ⟨XB, hXB⟩ : ∃ n, w8.heap.size = n := ⟨_, rfl⟩
  rw [hXB] at XN ⊢
  clear hXB
  have x0 : w9.cell? ⟨w3.heap.size, 0, none⟩ = some (.slice B0 n0 d0) := (blk_cell CA.out 0).trans rfl
  have x1 : w9.cell? ⟨w3.heap.size, 1, none⟩ = some (.slice B1 n1 d1) := (blk_cell CA.out 1).trans rfl
  have x2 : w9.cell? ⟨w3.heap.size, 2, none⟩ = some (.slice B2 n2 d2) := (blk_cell CA.out 2).trans rfl
  have x3 : w9.cell? ⟨w3.heap.size, 3, none⟩ = some (.int .i64 ra) := (blk_cell CA.out 3).trans rfl
  have xl : w3.heap.size < w9.heap.size := blk_lt CA.out
  go_wp2_with fail
  with_reducible refine (over_calls HV.out l (some ⟨lb_, 0, none⟩) 3 3 HL.out HLE.out (by decide)).mono ?_
  rintro en w10 ⟨OA, rfl, hx1, hb⟩
  replace CA := Lh ((hb.block _ (blk_lt CA.out)).trans CA.out)
  replace CB := Lh ((hb.block _ (blk_lt CB.out)).trans CB.out)
  replace XN := Lh ((hb.block _ (blk_lt XN.out)).trans XN.out)
  replace HV := Lh (HV.out.below hb)
  replace HVB := Lh (HVB.out.below hb)
  replace HL := Lh (HL.out.below hb)
  replace W := Lh (bthen W.out hb)
  have HX1 := Lh hx1
  clear hx1
  clear hb x0 x1 x2 x3 xl
  obtain ⟨OL, hOL⟩ : ∃ n, (overF a 0 l).length = n := ⟨_, rfl⟩
  rw [hOL]
  have HOL := Lh hOL
  clear hOL
  have hOL3 : OL ≤ 3 := by have := overF_len a l 0; rw [HOL.out, HLE.out] at this; exact this
  go_wp2_with fail
  go_loopw [17, 18, 19, 20] (fun v17 v18 v19 v20 wr => ∃ i : Nat, i ≤ 3 ∧ v18 = .int .i64 i ∧ v17 = .int .i64 ((overF a 0 (l.take i)).length : Int) ∧ Hid (Below w10.heap.size w10 wr)) (fun _ v18 _ _ _ => 3 - (intOf v18).toNat)
  case atStart => exact ⟨0, by omega, rfl, by rw [HO0.out]; rfl, Lh (Below.refl _ _)⟩
  case round =>
    obtain ⟨i, hi, rfl, rfl, hB⟩ := hrel
    obtain ⟨wq, hwq⟩ : ∃ x : World, x = wr := ⟨_, rfl⟩
    subst hwq
    by_cases hlt : i < 3
    · have hil : i < l.length := by rw [HLE.out]; exact hlt
      have ti : (i : Int) < ((3 : Nat) : Int) := by omega
      have ti2 : (i : Int) < 3 := by omega
      have CAq := Lh ((hB.out.block _ (blk_lt CA.out)).trans CA.out)
      have x0 : wq.cell? ⟨w3.heap.size, 0, none⟩ = some (.slice B0 n0 d0) := (blk_cell CAq.out 0).trans rfl
      have x1 : wq.cell? ⟨w3.heap.size, 1, none⟩ = some (.slice B1 n1 d1) := (blk_cell CAq.out 1).trans rfl
      have x2 : wq.cell? ⟨w3.heap.size, 2, none⟩ = some (.slice B2 n2 d2) := (blk_cell CAq.out 2).trans rfl
      have x3 : wq.cell? ⟨w3.heap.size, 3, none⟩ = some (.int .i64 ra) := (blk_cell CAq.out 3).trans rfl
      have xl : w3.heap.size < wq.heap.size := blk_lt CAq.out
      obtain ⟨eb, eo, E0_, E1_, E2_, k0, k1_, k2_, j0, j1, j2, eE, el, e0, e1, e2, e3, hE⟩ := (HL.out.below hB.out).get i hil
      simp only [Option.some.injEq, Addr.mk.injEq, and_true] at eE
      obtain ⟨rfl, rfl⟩ := eE
      simp only [Nat.zero_add] at e0 e1 e2 e3
      have HE := Lh hE
      clear hE
      have HQ1 := Lh (HN1.out i hil)
      have HQ2 := Lh (HN2.out i hil)
      have HTK := Lh (HOT.out i hil)
      have HAT := Lh (HOA.out i hil)
      have HAL := Lh (HALL.out i hil)
      obtain ⟨x, hx⟩ : ∃ x, l[i] = x := ⟨_, rfl⟩
      rw [hx] at HE e3 HQ1 HQ2 HTK HAT HAL
      obtain ⟨re, hre⟩ : ∃ r, x.r = r := ⟨_, rfl⟩
      rw [hre] at HE e3
      have HAP := Lh (fun (W : World) (h1 : CrV W (.agg #[.slice B0 n0 d0, .slice B1 n1 d1, .slice B2 n2 d2, .int .i64 ra]) a) (h2 : CrV W (.agg #[.slice E0_ k0 j0, .slice E1_ k1_ j1, .slice E2_ k2_ j2, .int .i64 re]) x) => apart_all h1 h2 (apS a x) rfl)
      have HOB : Hid (overB a x = ((apS a x).2 && decide ((apS a x).1.2 < 1))) := Lh rfl
      obtain ⟨R, hR⟩ : ∃ R, apS a x = R := ⟨_, rfl⟩
      rw [hR] at HAP HOB HQ1 HQ2 HAL
      obtain ⟨⟨⟨Yx, Yy, Yz⟩, Yg⟩, Yo⟩ := R
      have hYo : Yo = true := HAL.out
      subst hYo
      have HOB : Hid (overB a x = decide (Yg < 1)) := Lh (HOB.out.trans (Bool.true_and _))
      rw [HOB.out] at HTK HAT
      have hq1 : sg ≤ Yg := HQ1.out
      have hq2 : i < j → sg < Yg := HQ2.out
      have HAP := Lh (show ∀ (W : World), CrV W (.agg #[.slice B0 n0 d0, .slice B1 n1 d1, .slice B2 n2 d2, .int .i64 ra]) a → CrV W (.agg #[.slice E0_ k0 j0, .slice E1_ k1_ j1, .slice E2_ k2_ j2, .int .i64 re]) x → Calls Try.prog 20 #[.agg #[.slice B0 n0 d0, .slice B1 n1 d1, .slice B2 n2 d2, .int .i64 ra], .agg #[.slice E0_ k0 j0, .slice E1_ k1_ j1, .slice E2_ k2_ j2, .int .i64 re]] W (fun en w' => en = .returned (.tuple #[.agg #[.int .i64 Yx, .int .i64 Yy, .int .i64 Yz, .int .i64 Yg], .bool true]) ∧ Below W.heap.size W w') from HAP.out)
      clear hx hre hR HQ1 HQ2 HAL HOB
      go_wp2_with fail
      have HB := Lh ((Below.refl (wq.heap.size) wq).drew)
      have FF := Lh (show ∀ V, Hid (Below (wq.heap.size) wq V) → V.cell? ⟨w3.heap.size, 0, none⟩ = some (.slice B0 n0 d0) ∧ V.cell? ⟨w3.heap.size, 1, none⟩ = some (.slice B1 n1 d1) ∧ V.cell? ⟨w3.heap.size, 2, none⟩ = some (.slice B2 n2 d2) ∧ V.cell? ⟨w3.heap.size, 3, none⟩ = some (.int .i64 ra) ∧ V.cell? ⟨lb_, i * 4, none⟩ = some (.slice E0_ k0 j0) ∧ V.cell? ⟨lb_, i * 4 + 1, none⟩ = some (.slice E1_ k1_ j1) ∧ V.cell? ⟨lb_, i * 4 + 2, none⟩ = some (.slice E2_ k2_ j2) ∧ V.cell? ⟨lb_, i * 4 + 3, none⟩ = some (.int .i64 re) from fun V HB => ⟨(HB.out.cell (p := ⟨w3.heap.size, 0, none⟩) (xl)).trans x0, (HB.out.cell (p := ⟨w3.heap.size, 1, none⟩) (xl)).trans x1, (HB.out.cell (p := ⟨w3.heap.size, 2, none⟩) (xl)).trans x2, (HB.out.cell (p := ⟨w3.heap.size, 3, none⟩) (xl)).trans x3, (HB.out.cell (p := ⟨lb_, i * 4, none⟩) (el)).trans e0, (HB.out.cell (p := ⟨lb_, i * 4 + 1, none⟩) (el)).trans e1, (HB.out.cell (p := ⟨lb_, i * 4 + 2, none⟩) (el)).trans e2, (HB.out.cell (p := ⟨lb_, i * 4 + 3, none⟩) (el)).trans e3⟩)
      refine start_ (n := 12) (S := fun w' => w'.cell? ⟨w3.heap.size, 0, none⟩ = some (.slice B0 n0 d0) ∧ w'.cell? ⟨w3.heap.size, 1, none⟩ = some (.slice B1 n1 d1) ∧ w'.cell? ⟨w3.heap.size, 2, none⟩ = some (.slice B2 n2 d2) ∧ w'.cell? ⟨w3.heap.size, 3, none⟩ = some (.int .i64 ra) ∧ w'.cell? ⟨lb_, i * 4, none⟩ = some (.slice E0_ k0 j0) ∧ w'.cell? ⟨lb_, i * 4 + 1, none⟩ = some (.slice E1_ k1_ j1) ∧ w'.cell? ⟨lb_, i * 4 + 2, none⟩ = some (.slice E2_ k2_ j2) ∧ w'.cell? ⟨lb_, i * 4 + 3, none⟩ = some (.int .i64 re)) (ds := []) (MT 0 12) (by kernel_rfl) rfl rfl (FF.out _ HB) (fun hHeld => ?_)
      obtain ⟨wd, hwd⟩ : ∃ x, wq.drew = x := ⟨_, rfl⟩
      rw [hwd] at HB hHeld ⊢
      clear hwd
      refine pu_ 1 64 (h := ?_)
      refine pu_ 2 65 (h := ?_)
      refine pu_ 3 66 (h := ?_)
      refine ta_ 0 63 hHeld (h := ?_)
      refine ta_ 4 67 hHeld (h := ?_)
      refine join_ (σ := Nat) 2 (MT 10 2) (fun s => [(19, .pointer (some ⟨s, 0, none⟩)), (68, .tuple #[.agg #[.int .i64 Yx, .int .i64 Yy, .int .i64 Yz, .int .i64 Yg], .bool true]), (62, .tuple #[.agg #[.int .i64 Yx, .int .i64 Yy, .int .i64 Yz, .int .i64 Yg], .bool true]), (69, .agg #[.int .i64 Yx, .int .i64 Yy, .int .i64 Yz, .int .i64 Yg]), (70, .bool true)]) (fun s w' => wq.heap.size ≤ s ∧ w'.heap[s]? = some (.cells #[.int .i64 0, .int .i64 0, .int .i64 0, .int .i64 0] 40 (0, 0)) ∧ Below (wq.heap.size) wq w') ?_ ?_
      rotate_left
      · intro hCont
        refine two_ (i := 5) (j := 9) (Ni := some 68) (Nj := some 19) (MT 6 6) #[true, true, true, true, true, false, false, false, false, true, false, false] rfl rfl rfl rfl (by kernel_rfl) (by decide) (by decide) (fun K hK => ?_) (fun K hK => ?_)
        · skip
          refine gs_ Try.func20 #[.agg #[.slice B0 n0 d0, .slice B1 n1 d1, .slice B2 n2 d2, .int .i64 ra], .agg #[.slice E0_ k0 j0, .slice E1_ k1_ j1, .slice E2_ k2_ j2, .int .i64 re]] ?_
          with_reducible refine (HAP.out _ (HV.out.below (bthen hB.out HB.out)) (HE.out.below HB.out)).mono ?_
          rintro en w98 ⟨rfl, hb⟩
          have HB := Lh (HB.out.trans (hb.mono HB.out.size))
          clear hb
          refine ⟨_, rfl, ?_⟩
          refine hK.out _ _ (FF.out _ HB) (fun hHeld => ?_)
          clear hK K
          refine no_ (h := ?_)
          refine pu_ 6 62 (h := ?_)
          refine pu_ 7 69 (h := ?_)
          refine pu_ 8 70 (h := ?_)
          refine on_ 9 (some 19) (h := fun K hK => ?_)
          refine value_ (w1 := ?_) (v := ?_) (by rfl) rfl ?_ ?_
          rotate_left 2
          · go_simp
            constructor
            · rfl
            · rfl
          have HA := Lh (ha_new HB.out (.cells #[.int .i64 0, .int .i64 0, .int .i64 0, .int .i64 0] 40))
          have hge := HB.out.size
          have HB := Lh (HB.out.alloc (Nat.le_trans (Nat.le_refl _) HB.out.size) (.cells #[.int .i64 0, .int .i64 0, .int .i64 0, .int .i64 0] 40))
          refine hK.out _ _ (FF.out _ HB) (fun hHeld => ?_)
          clear hK K
          refine no_ (h := ?_)
          exact norm_ (by simp only [putAll, Act.put, List.setIfInBounds_toArray, List.set_cons_zero, List.set_cons_succ]) (hCont _ _ ⟨hge, HA.out, HB.out⟩)
        · skip
          refine value_ (w1 := ?_) (v := ?_) (by rfl) rfl ?_ ?_
          rotate_left 2
          · go_simp
            constructor
            · rfl
            · rfl
          have HA := Lh (ha_new HB.out (.cells #[.int .i64 0, .int .i64 0, .int .i64 0, .int .i64 0] 40))
          have hge := HB.out.size
          have HB := Lh (HB.out.alloc (Nat.le_trans (Nat.le_refl _) HB.out.size) (.cells #[.int .i64 0, .int .i64 0, .int .i64 0, .int .i64 0] 40))
          refine hK.out _ _ (FF.out _ HB) (fun hHeld => ?_)
          clear hK K
          refine no_ (h := ?_)
          refine on_ 5 (some 68) (h := fun K hK => ?_)
          refine gs_ Try.func20 #[.agg #[.slice B0 n0 d0, .slice B1 n1 d1, .slice B2 n2 d2, .int .i64 ra], .agg #[.slice E0_ k0 j0, .slice E1_ k1_ j1, .slice E2_ k2_ j2, .int .i64 re]] ?_
          with_reducible refine (HAP.out _ (HV.out.below (bthen hB.out HB.out)) (HE.out.below HB.out)).mono ?_
          rintro en w98 ⟨rfl, hb⟩
          have HB := Lh (HB.out.trans (hb.mono HB.out.size))
          have HA := Lh ((hb.block _ (blk_lt HA.out)).trans HA.out)
          clear hb
          refine ⟨_, rfl, ?_⟩
          refine hK.out _ _ (FF.out _ HB) (fun hHeld => ?_)
          clear hK K
          refine no_ (h := ?_)
          refine pu_ 6 62 (h := ?_)
          refine pu_ 7 69 (h := ?_)
          refine pu_ 8 70 (h := ?_)
          exact norm_ (by simp only [putAll, Act.put, List.setIfInBounds_toArray, List.set_cons_zero, List.set_cons_succ]) (hCont _ _ ⟨hge, HA.out, HB.out⟩)
      rintro AB wj ⟨hge, HA, HB⟩
      have HA := Lh HA
      have HB := Lh HB
      have hHeld := FF.out _ HB
      refine no_ (h := ?_)
      refine on_ 10 (none) (h := fun K hK => ?_)
      have sc0 : World.cell? _ ⟨AB, 0, none⟩ = some (.int .i64 0) := (blk_cell HA.out 0).trans rfl
      have sf0 := blk_frozen HA.out 0
      have sc1 : World.cell? _ ⟨AB, 1, none⟩ = some (.int .i64 0) := (blk_cell HA.out 1).trans rfl
      have sf1 := blk_frozen HA.out 1
      have sc2 : World.cell? _ ⟨AB, 2, none⟩ = some (.int .i64 0) := (blk_cell HA.out 2).trans rfl
      have sf2 := blk_frozen HA.out 2
      have sc3 : World.cell? _ ⟨AB, 3, none⟩ = some (.int .i64 0) := (blk_cell HA.out 3).trans rfl
      have sf3 := blk_frozen HA.out 3
      refine skip_ (w1 := ?_) (by rfl) rfl ?_ ?_
      rotate_left
      · go_simp
        rfl
      have HA := Lh (bs4 HA.out (.int .i64 Yx) (.int .i64 Yy) (.int .i64 Yz) (.int .i64 Yg))
      have HB := Lh (bb4 HB.out (Nat.le_trans (Nat.le_refl _) hge) (.int .i64 Yx) (.int .i64 Yy) (.int .i64 Yz) (.int .i64 Yg))
      clear sc0 sf0 sc1 sf1 sc2 sf2 sc3 sf3
      refine hK.out _ _ (FF.out _ HB) (fun hHeld => ?_)
      clear hK K
      refine pu_ 11 20 (h := ?_)
      refine done_ (by kernel_rfl) ?_
      obtain ⟨w97, hwn⟩ : ∃ V, ((((wj.setCell ⟨AB, 0, none⟩ (.int .i64 Yx)).setCell ⟨AB, 1, none⟩ (.int .i64 Yy)).setCell ⟨AB, 2, none⟩ (.int .i64 Yz)).setCell ⟨AB, 3, none⟩ (.int .i64 Yg)) = V := ⟨_, rfl⟩
      rw [hwn] at HA HB ⊢
      clear hwn
      have hB := Lh (hB.out.trans (HB.out.mono (show w10.heap.size ≤ wq.heap.size from hB.out.size)))
      have yg : w97.cell? ⟨AB, 3, none⟩ = some (.int .i64 Yg) := (blk_cell HA.out 3).trans rfl
      have yl : AB < w97.heap.size := blk_lt HA.out
      have XNq := Lh ((hB.out.block _ (blk_lt XN.out)).trans XN.out)
      have xg : w97.cell? ⟨XB, 3, none⟩ = some (.int .i64 sg) := (blk_cell XNq.out 3).trans rfl
      have xbl : XB < w97.heap.size := blk_lt XNq.out
      clear HA HB hge hHeld FF HAP HE CAq x0 x1 x2 x3 xl e0 e1 e2 e3 el ti
      have u0 : decide (Yg < sg) = false := decide_eq_false (by omega)
      have hw : (Yg == sg) = false ∨ ((Yg == sg) = true ∧ decide ((i : Int) < (j : Int)) = false) := by
        by_cases h : Yg = sg
        · right
          refine ⟨by simp [h], decide_eq_false (fun t => ?_)⟩
          have := hq2 (by omega)
          omega
        · left; simp [h]
      have HW := Lh hw
      clear hw hq1 hq2
      go_upto_region 14 with fail
      go_cut [87] (fun s87 wx => s87 = .bool false ∧ wx = w97)
      case first =>
        rcases HW.out with h | ⟨h, h2⟩
        · have h3 : ¬ Yg = sg := by simpa using h
          go_wp2
          go_meet
          exact ⟨rfl, rfl⟩
        · have h3 : Yg = sg := by simpa using h
          subst h3
          have h4 : decide (i < j) = false := decide_eq_false (by have := of_decide_eq_false h2; omega)
          have h5 : j ≤ i := by have := of_decide_eq_false h2; omega
          go_wp2
          go_meet
          exact ⟨rfl, rfl⟩
      case rest =>
        obtain ⟨rfl, rfl⟩ := hcut
        clear u0 HW xg xbl
        by_cases tg : Yg < 1
        · have eg : decide (Yg < 1) = true := decide_eq_true tg
          obtain ⟨t, hat⟩ := HAT.out
          rw [eg] at hat HTK
          simp only [if_true] at hat HTK
          obtain ⟨k, hk⟩ : ∃ k, (overF a 0 (l.take i)).length = k := ⟨_, rfl⟩
          have hget : (overF a 0 l)[k]? = some i := by rw [hat, ← hk]; simp
          have hkl : k < OL := by rw [← HOL.out, hat]; simp [hk] <;> omega
          have HNX : Hid ((overF a 0 (l.take (i + 1))).length = k + 1) := Lh (by rw [HTK.out, List.length_append, hk]; rfl)
          obtain ⟨ob, oo, rfl, olt, oc⟩ := (HX1.out.below hB.out) k i hget
          rw [hk]
          have f1 : decide ((OL : Int) ≤ (k : Int)) = false := decide_eq_false (by omega)
          have f1b : ¬ OL ≤ k := by omega
          have f2 : (k : Int) < (OL : Int) := by omega
          clear hat hk hget hkl tg HTK HAT
          go_wp2
          go_roundw
          case rel => exact ⟨i + 1, by omega, by go_num, by rw [HNX.out]; first | rfl | go_num, hB⟩
          case measure => simp [intOf]; omega
        · have eg : decide (Yg < 1) = false := decide_eq_false tg
          rw [eg] at HTK
          have HNX : Hid ((overF a 0 (l.take (i + 1))).length = (overF a 0 (l.take i)).length) := Lh (by rw [HTK.out]; simp)
          clear tg HTK HAT
          go_wp2
          go_roundw
          case rel => exact ⟨i + 1, by omega, by go_num, by rw [HNX.out], hB⟩
          case measure => simp [intOf]; omega
    · obtain rfl : i = 3 := by omega
      have HK3 : Hid ((overF a 0 (l.take 3)).length = OL) := Lh (by rw [← HO3.out, HOL.out])
      rw [HK3.out]
      have HVq := Lh (HV.out.below hB.out)
      have HVBq := Lh (HVB.out.below hB.out)
      have W := Lh (bthen W.out hB.out)
      have CAq := Lh ((hB.out.block _ (blk_lt CA.out)).trans CA.out)
      have x0 : wq.cell? ⟨w3.heap.size, 0, none⟩ = some (.slice B0 n0 d0) := (blk_cell CAq.out 0).trans rfl
      have x1 : wq.cell? ⟨w3.heap.size, 1, none⟩ = some (.slice B1 n1 d1) := (blk_cell CAq.out 1).trans rfl
      have x2 : wq.cell? ⟨w3.heap.size, 2, none⟩ = some (.slice B2 n2 d2) := (blk_cell CAq.out 2).trans rfl
      have x3 : wq.cell? ⟨w3.heap.size, 3, none⟩ = some (.int .i64 ra) := (blk_cell CAq.out 3).trans rfl
      have xl : w3.heap.size < wq.heap.size := blk_lt CAq.out
      have CBq := Lh ((hB.out.block _ (blk_lt CB.out)).trans CB.out)
      have y0 : wq.cell? ⟨w3.heap.size + 1, 0, none⟩ = some (.slice B3 n3 d3) := (blk_cell CBq.out 0).trans rfl
      have y1 : wq.cell? ⟨w3.heap.size + 1, 1, none⟩ = some (.slice B4 n4 d4) := (blk_cell CBq.out 1).trans rfl
      have y2 : wq.cell? ⟨w3.heap.size + 1, 2, none⟩ = some (.slice B5 n5 d5) := (blk_cell CBq.out 2).trans rfl
      have y3 : wq.cell? ⟨w3.heap.size + 1, 3, none⟩ = some (.int .i64 rb) := (blk_cell CBq.out 3).trans rfl
      have yl : w3.heap.size + 1 < wq.heap.size := blk_lt CBq.out
      obtain ⟨b0, o0, O, hO, rfl, lb, p0, p1, p2, hn0⟩ := HVq.out.first GA.out.mp.p0
      have HO8 := Lh (GA.out.near O (by rw [hO]; simp))
      have hn0 : (0 : Int) < (n0 : Int) := by omega
      obtain ⟨ox, oy, oz⟩ := O
      simp only at p0 p1 p2
      clear hO
      go_wp2_with fail
      have HB := Lh ((Below.refl wq.heap.size wq).drew)
      have FF := Lh (show ∀ V, Hid (Below wq.heap.size wq V) → V.cell? ⟨w3.heap.size, 0, none⟩ = some (.slice (some ⟨b0, o0, none⟩) n0 d0) ∧ V.cell? ⟨b0, o0, none⟩ = some (.int .i64 ox) ∧ V.cell? ⟨b0, o0 + 1, none⟩ = some (.int .i64 oy) ∧ V.cell? ⟨b0, o0 + 2, none⟩ = some (.int .i64 oz) from fun V HB => ⟨(HB.out.cell (p := ⟨w3.heap.size, 0, none⟩) (xl)).trans x0, (HB.out.cell (p := ⟨b0, o0, none⟩) (lb)).trans p0, (HB.out.cell (p := ⟨b0, o0 + 1, none⟩) (lb)).trans p1, (HB.out.cell (p := ⟨b0, o0 + 2, none⟩) (lb)).trans p2⟩)
      refine start_ (n := 11) (S := fun w' => w'.cell? ⟨w3.heap.size, 0, none⟩ = some (.slice (some ⟨b0, o0, none⟩) n0 d0) ∧ w'.cell? ⟨b0, o0, none⟩ = some (.int .i64 ox) ∧ w'.cell? ⟨b0, o0 + 1, none⟩ = some (.int .i64 oy) ∧ w'.cell? ⟨b0, o0 + 2, none⟩ = some (.int .i64 oz)) (ds := [10]) (MT 0 11) (by kernel_rfl) rfl rfl (FF.out _ HB) (fun hHeld => ?_)
      obtain ⟨wd, hwd⟩ : ∃ x, wq.drew = x := ⟨_, rfl⟩
      rw [hwd] at HB hHeld ⊢
      clear hwd
      refine pu_ 0 105 (h := ?_)
      refine pu_ 5 110 (h := ?_)
      refine ta_ 1 106 hHeld (h := ?_)
      refine pu_ 2 107 (h := ?_)
      refine ta_ 3 108 hHeld (h := ?_)
      refine join_ (σ := Nat × Nat) 1 (MT 10 1) (fun s => [(109, .slice (some ⟨s.1, 0, none⟩) 1 1), (111, .int .i64 qr), (112, .int .i64 (wrap64 (1 + qr))), (113, .agg #[.slice (some ⟨s.1, 0, none⟩) 1 1, .slice none 0 0, .slice none 0 0, .int .i64 (wrap64 (1 + qr))]), (21, .pointer (some ⟨s.2, 0, none⟩))]) (fun (s : Nat × Nat) w' => match s with | (s1, s2) => wq.heap.size ≤ s2 ∧ s1 ≠ s2 ∧ w'.heap[s1]? = some (.cells #[.int .i64 ox, .int .i64 oy, .int .i64 oz] 23 (0, 0)) ∧ w'.heap[s2]? = some (.cells #[.slice none 0 0, .slice none 0 0, .slice none 0 0, .int .i64 0] 36 (0, 0)) ∧ Below wq.heap.size wq w') ?_ ?_
      rotate_left
      · intro hCont
        refine tri_ (i := 4) (j := 6) (k := 9) (Ni := some 109) (Nj := some 111) (Nk := some 21) (MT 6 5) #[true, true, true, true, false, true, true, false, false, false, false] #[true, true, true, true, false, true, false, false, false, true, false] rfl rfl rfl rfl rfl rfl (by kernel_rfl) (by decide) (by decide) (by decide) (fun K hK => ?_) (fun K hK => ?_) (fun K hK => ?_)
        · skip
          refine value_ (w1 := ?_) (v := ?_) (by rfl) rfl ?_ ?_
          rotate_left 2
          · go_simp
            constructor
            · rfl
            · rfl
          have HP := Lh (ha_new HB.out (.cells #[.int .i64 ox, .int .i64 oy, .int .i64 oz] 23))
          have HB := Lh (HB.out.alloc HB.out.size (.cells #[.int .i64 ox, .int .i64 oy, .int .i64 oz] 23))
          refine hK.out _ _ (FF.out _ HB) (fun hHeld => ?_)
          clear hK K
          refine no_ (h := ?_)
          refine two_ (i := 6) (j := 9) (Ni := some 111) (Nj := some 21) (MT 7 4) #[true, true, true, true, true, true, false, false, false, true, false] rfl rfl rfl rfl (by kernel_rfl) (by decide) (by decide) (fun K hK => ?_) (fun K hK => ?_)
          · skip
            refine gs_ Try.func32 #[.int .i64 ro, .int .i64 16384] ?_
            with_reducible refine (HPR.out _).mono ?_
            rintro e' w96 ⟨rfl, rfl⟩
            refine ⟨_, rfl, ?_⟩
            refine hK.out _ _ (FF.out _ HB) (fun hHeld => ?_)
            clear hK K
            refine no_ (h := ?_)
            refine pu_ 7 112 (h := ?_)
            refine pu_ 8 113 (h := ?_)
            refine on_ 9 (some 21) (h := fun K hK => ?_)
            refine value_ (w1 := ?_) (v := ?_) (by rfl) rfl ?_ ?_
            rotate_left 2
            · go_simp
              constructor
              · rfl
              · rfl
            have HA := Lh (ha_new HB.out (.cells #[.slice none 0 0, .slice none 0 0, .slice none 0 0, .int .i64 0] 36))
            have hge := HB.out.size
            have hne := Lh (Nat.ne_of_lt (blk_lt HP.out))
            have HP := Lh ((Below.heap_alloc _ (.cells #[.slice none 0 0, .slice none 0 0, .slice none 0 0, .int .i64 0] 36) _ (blk_lt HP.out)).trans HP.out)
            have HA := HA.out
            simp only [World.size_alloc] at HA hge
            have HA := Lh HA
            have hne := hne.out
            simp only [World.size_alloc] at hne
            have hne := Lh hne
            have HB := Lh (HB.out.alloc HB.out.size (.cells #[.slice none 0 0, .slice none 0 0, .slice none 0 0, .int .i64 0] 36))
            refine hK.out _ _ (FF.out _ HB) (fun hHeld => ?_)
            clear hK K
            refine no_ (h := ?_)
            exact norm_ (by first | (simp only [putAll, Act.put, List.setIfInBounds_toArray, List.set_cons_zero, List.set_cons_succ]; done) | (simp only [putAll, Act.put, List.setIfInBounds_toArray, List.set_cons_zero, List.set_cons_succ]; rfl)) (hCont (_, _) _ ⟨hge, hne.out, HP.out, HA.out, HB.out⟩)
          · skip
            refine value_ (w1 := ?_) (v := ?_) (by rfl) rfl ?_ ?_
            rotate_left 2
            · go_simp
              constructor
              · rfl
              · rfl
            have HA := Lh (ha_new HB.out (.cells #[.slice none 0 0, .slice none 0 0, .slice none 0 0, .int .i64 0] 36))
            have hge := HB.out.size
            have hne := Lh (Nat.ne_of_lt (blk_lt HP.out))
            have HP := Lh ((Below.heap_alloc _ (.cells #[.slice none 0 0, .slice none 0 0, .slice none 0 0, .int .i64 0] 36) _ (blk_lt HP.out)).trans HP.out)
            have HA := HA.out
            simp only [World.size_alloc] at HA hge
            have HA := Lh HA
            have hne := hne.out
            simp only [World.size_alloc] at hne
            have hne := Lh hne
            have HB := Lh (HB.out.alloc HB.out.size (.cells #[.slice none 0 0, .slice none 0 0, .slice none 0 0, .int .i64 0] 36))
            refine hK.out _ _ (FF.out _ HB) (fun hHeld => ?_)
            clear hK K
            refine no_ (h := ?_)
            refine on_ 6 (some 111) (h := fun K hK => ?_)
            refine gs_ Try.func32 #[.int .i64 ro, .int .i64 16384] ?_
            with_reducible refine (HPR.out _).mono ?_
            rintro e' w96 ⟨rfl, rfl⟩
            refine ⟨_, rfl, ?_⟩
            refine hK.out _ _ (FF.out _ HB) (fun hHeld => ?_)
            clear hK K
            refine no_ (h := ?_)
            refine pu_ 7 112 (h := ?_)
            refine pu_ 8 113 (h := ?_)
            exact norm_ (by first | (simp only [putAll, Act.put, List.setIfInBounds_toArray, List.set_cons_zero, List.set_cons_succ]; done) | (simp only [putAll, Act.put, List.setIfInBounds_toArray, List.set_cons_zero, List.set_cons_succ]; rfl)) (hCont (_, _) _ ⟨hge, hne.out, HP.out, HA.out, HB.out⟩)
        · skip
          refine gs_ Try.func32 #[.int .i64 ro, .int .i64 16384] ?_
          with_reducible refine (HPR.out _).mono ?_
          rintro e' w96 ⟨rfl, rfl⟩
          refine ⟨_, rfl, ?_⟩
          refine hK.out _ _ (FF.out _ HB) (fun hHeld => ?_)
          clear hK K
          refine no_ (h := ?_)
          refine pu_ 7 112 (h := ?_)
          refine two_ (i := 4) (j := 9) (Ni := some 109) (Nj := some 21) (MT 8 3) #[true, true, true, true, false, true, true, true, false, true, false] rfl rfl rfl rfl (by kernel_rfl) (by decide) (by decide) (fun K hK => ?_) (fun K hK => ?_)
          · skip
            refine value_ (w1 := ?_) (v := ?_) (by rfl) rfl ?_ ?_
            rotate_left 2
            · go_simp
              constructor
              · rfl
              · rfl
            have HP := Lh (ha_new HB.out (.cells #[.int .i64 ox, .int .i64 oy, .int .i64 oz] 23))
            have HB := Lh (HB.out.alloc HB.out.size (.cells #[.int .i64 ox, .int .i64 oy, .int .i64 oz] 23))
            refine hK.out _ _ (FF.out _ HB) (fun hHeld => ?_)
            clear hK K
            refine no_ (h := ?_)
            refine pu_ 8 113 (h := ?_)
            refine on_ 9 (some 21) (h := fun K hK => ?_)
            refine value_ (w1 := ?_) (v := ?_) (by rfl) rfl ?_ ?_
            rotate_left 2
            · go_simp
              constructor
              · rfl
              · rfl
            have HA := Lh (ha_new HB.out (.cells #[.slice none 0 0, .slice none 0 0, .slice none 0 0, .int .i64 0] 36))
            have hge := HB.out.size
            have hne := Lh (Nat.ne_of_lt (blk_lt HP.out))
            have HP := Lh ((Below.heap_alloc _ (.cells #[.slice none 0 0, .slice none 0 0, .slice none 0 0, .int .i64 0] 36) _ (blk_lt HP.out)).trans HP.out)
            have HA := HA.out
            simp only [World.size_alloc] at HA hge
            have HA := Lh HA
            have hne := hne.out
            simp only [World.size_alloc] at hne
            have hne := Lh hne
            have HB := Lh (HB.out.alloc HB.out.size (.cells #[.slice none 0 0, .slice none 0 0, .slice none 0 0, .int .i64 0] 36))
            refine hK.out _ _ (FF.out _ HB) (fun hHeld => ?_)
            clear hK K
            refine no_ (h := ?_)
            exact norm_ (by first | (simp only [putAll, Act.put, List.setIfInBounds_toArray, List.set_cons_zero, List.set_cons_succ]; done) | (simp only [putAll, Act.put, List.setIfInBounds_toArray, List.set_cons_zero, List.set_cons_succ]; rfl)) (hCont (_, _) _ ⟨hge, hne.out, HP.out, HA.out, HB.out⟩)
          · skip
            refine value_ (w1 := ?_) (v := ?_) (by rfl) rfl ?_ ?_
            rotate_left 2
            · go_simp
              constructor
              · rfl
              · rfl
            have HA := Lh (ha_new HB.out (.cells #[.slice none 0 0, .slice none 0 0, .slice none 0 0, .int .i64 0] 36))
            have hge := HB.out.size
            have HB := Lh (HB.out.alloc HB.out.size (.cells #[.slice none 0 0, .slice none 0 0, .slice none 0 0, .int .i64 0] 36))
            refine hK.out _ _ (FF.out _ HB) (fun hHeld => ?_)
            clear hK K
            refine no_ (h := ?_)
            refine on_ 4 (some 109) (h := fun K hK => ?_)
            refine value_ (w1 := ?_) (v := ?_) (by rfl) rfl ?_ ?_
            rotate_left 2
            · go_simp
              constructor
              · rfl
              · rfl
            have HP := Lh (ha_new HB.out (.cells #[.int .i64 ox, .int .i64 oy, .int .i64 oz] 23))
            have hne := Lh (Nat.ne_of_gt (blk_lt HA.out))
            have HA := Lh ((Below.heap_alloc _ (.cells #[.int .i64 ox, .int .i64 oy, .int .i64 oz] 23) _ (blk_lt HA.out)).trans HA.out)
            have HP := HP.out
            simp only [World.size_alloc] at HP
            have HP := Lh HP
            have hne := hne.out
            simp only [World.size_alloc] at hne
            have hne := Lh hne
            have HB := Lh (HB.out.alloc HB.out.size (.cells #[.int .i64 ox, .int .i64 oy, .int .i64 oz] 23))
            refine hK.out _ _ (FF.out _ HB) (fun hHeld => ?_)
            clear hK K
            refine no_ (h := ?_)
            refine pu_ 8 113 (h := ?_)
            exact norm_ (by first | (simp only [putAll, Act.put, List.setIfInBounds_toArray, List.set_cons_zero, List.set_cons_succ]; done) | (simp only [putAll, Act.put, List.setIfInBounds_toArray, List.set_cons_zero, List.set_cons_succ]; rfl)) (hCont (_, _) _ ⟨hge, hne.out, HP.out, HA.out, HB.out⟩)
        · skip
          refine value_ (w1 := ?_) (v := ?_) (by rfl) rfl ?_ ?_
          rotate_left 2
          · go_simp
            constructor
            · rfl
            · rfl
          have HA := Lh (ha_new HB.out (.cells #[.slice none 0 0, .slice none 0 0, .slice none 0 0, .int .i64 0] 36))
          have hge := HB.out.size
          have HB := Lh (HB.out.alloc HB.out.size (.cells #[.slice none 0 0, .slice none 0 0, .slice none 0 0, .int .i64 0] 36))
          refine hK.out _ _ (FF.out _ HB) (fun hHeld => ?_)
          clear hK K
          refine no_ (h := ?_)
          refine two_ (i := 4) (j := 6) (Ni := some 109) (Nj := some 111) #[true, true, true, true, true, true, false, false, false, true, false] #[true, true, true, true, false, true, true, false, false, true, false] rfl rfl rfl rfl (by kernel_rfl) (by decide) (by decide) (fun K hK => ?_) (fun K hK => ?_)
          · skip
            refine value_ (w1 := ?_) (v := ?_) (by rfl) rfl ?_ ?_
            rotate_left 2
            · go_simp
              constructor
              · rfl
              · rfl
            have HP := Lh (ha_new HB.out (.cells #[.int .i64 ox, .int .i64 oy, .int .i64 oz] 23))
            have hne := Lh (Nat.ne_of_gt (blk_lt HA.out))
            have HA := Lh ((Below.heap_alloc _ (.cells #[.int .i64 ox, .int .i64 oy, .int .i64 oz] 23) _ (blk_lt HA.out)).trans HA.out)
            have HP := HP.out
            simp only [World.size_alloc] at HP
            have HP := Lh HP
            have hne := hne.out
            simp only [World.size_alloc] at hne
            have hne := Lh hne
            have HB := Lh (HB.out.alloc HB.out.size (.cells #[.int .i64 ox, .int .i64 oy, .int .i64 oz] 23))
            refine hK.out _ _ (FF.out _ HB) (fun hHeld => ?_)
            clear hK K
            refine no_ (h := ?_)
            refine on_ 6 (some 111) (h := fun K hK => ?_)
            refine gs_ Try.func32 #[.int .i64 ro, .int .i64 16384] ?_
            with_reducible refine (HPR.out _).mono ?_
            rintro e' w96 ⟨rfl, rfl⟩
            refine ⟨_, rfl, ?_⟩
            refine hK.out _ _ (FF.out _ HB) (fun hHeld => ?_)
            clear hK K
            refine no_ (h := ?_)
            refine pu_ 7 112 (h := ?_)
            refine pu_ 8 113 (h := ?_)
            exact norm_ (by first | (simp only [putAll, Act.put, List.setIfInBounds_toArray, List.set_cons_zero, List.set_cons_succ]; done) | (simp only [putAll, Act.put, List.setIfInBounds_toArray, List.set_cons_zero, List.set_cons_succ]; rfl)) (hCont (_, _) _ ⟨hge, hne.out, HP.out, HA.out, HB.out⟩)
          · skip
            refine gs_ Try.func32 #[.int .i64 ro, .int .i64 16384] ?_
            with_reducible refine (HPR.out _).mono ?_
            rintro e' w96 ⟨rfl, rfl⟩
            refine ⟨_, rfl, ?_⟩
            refine hK.out _ _ (FF.out _ HB) (fun hHeld => ?_)
            clear hK K
            refine no_ (h := ?_)
            refine pu_ 7 112 (h := ?_)
            refine on_ 4 (some 109) (h := fun K hK => ?_)
            refine value_ (w1 := ?_) (v := ?_) (by rfl) rfl ?_ ?_
            rotate_left 2
            · go_simp
              constructor
              · rfl
              · rfl
            have HP := Lh (ha_new HB.out (.cells #[.int .i64 ox, .int .i64 oy, .int .i64 oz] 23))
            have hne := Lh (Nat.ne_of_gt (blk_lt HA.out))
            have HA := Lh ((Below.heap_alloc _ (.cells #[.int .i64 ox, .int .i64 oy, .int .i64 oz] 23) _ (blk_lt HA.out)).trans HA.out)
            have HP := HP.out
            simp only [World.size_alloc] at HP
            have HP := Lh HP
            have hne := hne.out
            simp only [World.size_alloc] at hne
            have hne := Lh hne
            have HB := Lh (HB.out.alloc HB.out.size (.cells #[.int .i64 ox, .int .i64 oy, .int .i64 oz] 23))
            refine hK.out _ _ (FF.out _ HB) (fun hHeld => ?_)
            clear hK K
            refine no_ (h := ?_)
            refine pu_ 8 113 (h := ?_)
            exact norm_ (by first | (simp only [putAll, Act.put, List.setIfInBounds_toArray, List.set_cons_zero, List.set_cons_succ]; done) | (simp only [putAll, Act.put, List.setIfInBounds_toArray, List.set_cons_zero, List.set_cons_succ]; rfl)) (hCont (_, _) _ ⟨hge, hne.out, HP.out, HA.out, HB.out⟩)
      rintro ⟨PB, AB⟩ wj ⟨hge, hne, HP, HA, HB⟩
      (try simp only at hge hne HP HA HB)
      have HP := Lh HP
      have HA := Lh HA
      have HB := Lh HB
      have hne := Lh hne
      have hHeld := FF.out _ HB
      refine no_ (h := ?_)
      refine last_ (i := 10) (N := none) (MT 11 0) rfl rfl (by kernel_rfl) (by decide) (fun K hK => ?_)
      have sc0 : World.cell? _ ⟨AB, 0, none⟩ = some (.slice none 0 0) := (blk_cell HA.out 0).trans rfl
      have sf0 := blk_frozen HA.out 0
      have sc1 : World.cell? _ ⟨AB, 1, none⟩ = some (.slice none 0 0) := (blk_cell HA.out 1).trans rfl
      have sf1 := blk_frozen HA.out 1
      have sc2 : World.cell? _ ⟨AB, 2, none⟩ = some (.slice none 0 0) := (blk_cell HA.out 2).trans rfl
      have sf2 := blk_frozen HA.out 2
      have sc3 : World.cell? _ ⟨AB, 3, none⟩ = some (.int .i64 0) := (blk_cell HA.out 3).trans rfl
      have sf3 := blk_frozen HA.out 3
      refine skip_ (w1 := ?_) (by rfl) rfl ?_ ?_
      rotate_left
      · go_simp
        rfl
      have HP := Lh ((bo4 hne.out (.slice (some ⟨PB, 0, none⟩) 1 1) (.slice none 0 0) (.slice none 0 0) (.int .i64 (wrap64 (1 + qr)))).trans HP.out)
      have HA := Lh (bs4 HA.out (.slice (some ⟨PB, 0, none⟩) 1 1) (.slice none 0 0) (.slice none 0 0) (.int .i64 (wrap64 (1 + qr))))
      have HB := Lh (bb4 HB.out hge (.slice (some ⟨PB, 0, none⟩) 1 1) (.slice none 0 0) (.slice none 0 0) (.int .i64 (wrap64 (1 + qr))))
      clear sc0 sf0 sc1 sf1 sc2 sf2 sc3 sf3
      refine hK.out _ _ ?_
      clear hK K
      refine done_ (by kernel_rfl) ?_
      obtain ⟨w50, hwn⟩ : ∃ V, ((((wj.setCell ⟨AB, 0, none⟩ (.slice (some ⟨PB, 0, none⟩) 1 1)).setCell ⟨AB, 1, none⟩ (.slice none 0 0)).setCell ⟨AB, 2, none⟩ (.slice none 0 0)).setCell ⟨AB, 3, none⟩ (.int .i64 (wrap64 (1 + qr)))) = V := ⟨_, rfl⟩
      rw [hwn] at HA HB HP ⊢
      clear hwn
      obtain ⟨rr, hrr⟩ : ∃ n, wrap64 (1 + qr) = n := ⟨_, rfl⟩
      rw [hrr] at HA ⊢
      have hrb : 1 ≤ rr ∧ rr ≤ 16384 := by
        have := DR.out
        rw [← hrr]
        unfold wrap64
        omega
      have HRR := Lh hrb
      clear hrr hrb hHeld
      have CB := Lh ((HB.out.block _ (blk_lt CBq.out)).trans CBq.out)
      have HVB := Lh (HVBq.out.below HB.out)
      have W := Lh (bthen W.out HB.out)
      have BA := HA
      have HVL := Lh (show CrV w50 (.agg #[.slice (some ⟨PB, 0, none⟩) 1 1, .slice none 0 0, .slice none 0 0, .int .i64 rr]) ⟨[⟨ox, oy, oz⟩], [], [], rr⟩ from ball_core w50 _ ox oy oz rr 1 (Nat.le_refl _) HP.out)
      clear HA HB HP hge hne x0 x1 x2 x3 xl y0 y1 y2 y3 yl p0 p1 p2 lb hn0 CAq CBq HVq HVBq
      have y0 : w50.cell? ⟨w3.heap.size + 1, 0, none⟩ = some (.slice B3 n3 d3) := (blk_cell CB.out 0).trans rfl
      have y1 : w50.cell? ⟨w3.heap.size + 1, 1, none⟩ = some (.slice B4 n4 d4) := (blk_cell CB.out 1).trans rfl
      have y2 : w50.cell? ⟨w3.heap.size + 1, 2, none⟩ = some (.slice B5 n5 d5) := (blk_cell CB.out 2).trans rfl
      have y3 : w50.cell? ⟨w3.heap.size + 1, 3, none⟩ = some (.int .i64 rb) := (blk_cell CB.out 3).trans rfl
      have yl : w3.heap.size + 1 < w50.heap.size := blk_lt CB.out
      have t0 : w50.cell? ⟨AB, 0, none⟩ = some (.slice (some ⟨PB, 0, none⟩) 1 1) := (blk_cell BA.out 0).trans rfl
      have t1 : w50.cell? ⟨AB, 1, none⟩ = some (.slice none 0 0) := (blk_cell BA.out 1).trans rfl
      have t2 : w50.cell? ⟨AB, 2, none⟩ = some (.slice none 0 0) := (blk_cell BA.out 2).trans rfl
      have t3 : w50.cell? ⟨AB, 3, none⟩ = some (.int .i64 rr) := (blk_cell BA.out 3).trans rfl
      have tl : AB < w50.heap.size := blk_lt BA.out
      by_cases tn : 16 < (n5 : Int)
      · have en : decide (16 < (n5 : Int)) = true := decide_eq_true tn
        clear tn
        go_wp2
        go_ret
        exact ⟨rfl, W.out⟩
      have en : decide (16 < (n5 : Int)) = false := decide_eq_false tn
      clear tn
      have HST := Lh (cast_still (p := ⟨ox, oy, oz⟩) (r := rr) HO8.out (by have := HRR.out; omega) (by have := HRR.out; omega) GB.out.may)
      have HAP := Lh (fun (W : World) (h1 : CrV W (.agg #[.slice (some ⟨PB, 0, none⟩) 1 1, .slice none 0 0, .slice none 0 0, .int .i64 rr]) ⟨[⟨ox, oy, oz⟩], [], [], rr⟩) (h2 : CrV W (.agg #[.slice B3 n3 d3, .slice B4 n4 d4, .slice B5 n5 d5, .int .i64 rb]) b) => apart_all h1 h2 (apS ⟨[⟨ox, oy, oz⟩], [], [], rr⟩ b) rfl)
      have HCS := Lh (fun (W : World) (h1 : CrV W (.agg #[.slice (some ⟨PB, 0, none⟩) 1 1, .slice none 0 0, .slice none 0 0, .int .i64 rr]) ⟨[⟨ox, oy, oz⟩], [], [], rr⟩) (h2 : CrV W (.agg #[.slice B3 n3 d3, .slice B4 n4 d4, .slice B5 n5 d5, .int .i64 rb]) b) => cast_calls h1 h2 ⟨0, 0, 0⟩ (by simp))
      obtain ⟨R1, hR1⟩ : ∃ R, apS ⟨[⟨ox, oy, oz⟩], [], [], rr⟩ b = R := ⟨_, rfl⟩
      obtain ⟨R2, hR2⟩ : ∃ R, castF ⟨[⟨ox, oy, oz⟩], [], [], rr⟩ ⟨0, 0, 0⟩ b = R := ⟨_, rfl⟩
      rw [hR1] at HST HAP
      rw [hR2] at HST HCS
      obtain ⟨⟨⟨Zx, Zy, Zz⟩, Zg⟩, Zo⟩ := R1
      obtain ⟨⟨k, ⟨Xx, Xy, Xz⟩, Xg⟩, Xo⟩ := R2
      have hXo : Xo = true := HST.out.1
      subst hXo
      have hiff : k = 16 ↔ 0 ≤ Zg := HST.out.2
      (try simp only at HAP HCS)
      have HIF := Lh hiff
      clear hR1 hR2 HST hiff
      go_wp2_with fail
      with_reducible refine (HAP.out _ HVL.out HVB.out).mono ?_
      rintro en w61 ⟨rfl, hb⟩
      replace CB := Lh ((hb.block _ (blk_lt CB.out)).trans CB.out)
      replace BA := Lh ((hb.block _ (blk_lt BA.out)).trans BA.out)
      replace HVB := Lh (HVB.out.below hb)
      replace HVL := Lh (HVL.out.below hb)
      replace W := Lh (bthen W.out hb)
      clear hb y0 y1 y2 y3 yl t0 t1 t2 t3 tl
      (try clear en)
      go_upto_region 24 with fail
      have bz := ((Below.refl w61.heap.size w61).alloc (Nat.le_refl _) (.cells #[.int .i64 Zx, .int .i64 Zy, .int .i64 Zz, .int .i64 Zg] 40))
      have nz0 := heap_alloc_new w61 (.cells #[.int .i64 Zx, .int .i64 Zy, .int .i64 Zz, .int .i64 Zg] 40)
      obtain ⟨w62, hwz⟩ : ∃ V, (w61.alloc (.cells #[.int .i64 Zx, .int .i64 Zy, .int .i64 Zz, .int .i64 Zg] 40)) = V := ⟨_, rfl⟩
      rw [hwz] at bz nz0 ⊢
      replace CB := Lh ((bz.block _ (blk_lt CB.out)).trans CB.out)
      replace BA := Lh ((bz.block _ (blk_lt BA.out)).trans BA.out)
      replace HVB := Lh (HVB.out.below bz)
      replace HVL := Lh (HVL.out.below bz)
      replace W := Lh (bthen W.out bz)
      have ZC := Lh nz0
      clear hwz bz nz0
      obtain ⟨ZB_, hZB⟩ : ∃ n, w61.heap.size = n := ⟨_, rfl⟩
      rw [hZB] at ZC ⊢
      clear hZB
      have y0 : w62.cell? ⟨w3.heap.size + 1, 0, none⟩ = some (.slice B3 n3 d3) := (blk_cell CB.out 0).trans rfl
      have y1 : w62.cell? ⟨w3.heap.size + 1, 1, none⟩ = some (.slice B4 n4 d4) := (blk_cell CB.out 1).trans rfl
      have y2 : w62.cell? ⟨w3.heap.size + 1, 2, none⟩ = some (.slice B5 n5 d5) := (blk_cell CB.out 2).trans rfl
      have y3 : w62.cell? ⟨w3.heap.size + 1, 3, none⟩ = some (.int .i64 rb) := (blk_cell CB.out 3).trans rfl
      have yl : w3.heap.size + 1 < w62.heap.size := blk_lt CB.out
      have t0 : w62.cell? ⟨AB, 0, none⟩ = some (.slice (some ⟨PB, 0, none⟩) 1 1) := (blk_cell BA.out 0).trans rfl
      have t1 : w62.cell? ⟨AB, 1, none⟩ = some (.slice none 0 0) := (blk_cell BA.out 1).trans rfl
      have t2 : w62.cell? ⟨AB, 2, none⟩ = some (.slice none 0 0) := (blk_cell BA.out 2).trans rfl
      have t3 : w62.cell? ⟨AB, 3, none⟩ = some (.int .i64 rr) := (blk_cell BA.out 3).trans rfl
      have tl : AB < w62.heap.size := blk_lt BA.out
      go_wp2_with fail
      with_reducible refine (HCS.out _ HVL.out HVB.out).mono ?_
      rintro en w63 ⟨rfl, hb⟩
      replace CB := Lh ((hb.block _ (blk_lt CB.out)).trans CB.out)
      replace BA := Lh ((hb.block _ (blk_lt BA.out)).trans BA.out)
      replace ZC := Lh ((hb.block _ (blk_lt ZC.out)).trans ZC.out)
      replace HVB := Lh (HVB.out.below hb)
      replace HVL := Lh (HVL.out.below hb)
      replace W := Lh (bthen W.out hb)
      clear hb y0 y1 y2 y3 yl t0 t1 t2 t3 tl
      go_upto_region 25 with fail
      have bz := ((Below.refl w63.heap.size w63).alloc (Nat.le_refl _) (.cells #[.int .i64 Xx, .int .i64 Xy, .int .i64 Xz, .int .i64 Xg] 40))
      obtain ⟨w64, hwz⟩ : ∃ V, (w63.alloc (.cells #[.int .i64 Xx, .int .i64 Xy, .int .i64 Xz, .int .i64 Xg] 40)) = V := ⟨_, rfl⟩
      rw [hwz] at bz ⊢
      replace CB := Lh ((bz.block _ (blk_lt CB.out)).trans CB.out)
      replace BA := Lh ((bz.block _ (blk_lt BA.out)).trans BA.out)
      replace ZC := Lh ((bz.block _ (blk_lt ZC.out)).trans ZC.out)
      replace HVB := Lh (HVB.out.below bz)
      replace HVL := Lh (HVL.out.below bz)
      replace W := Lh (bthen W.out bz)
      clear hwz bz 
      have zg : w64.cell? ⟨ZB_, 3, none⟩ = some (.int .i64 Zg) := (blk_cell ZC.out 3).trans rfl
      have zl : ZB_ < w64.heap.size := blk_lt ZC.out
      have hiff := HIF.out
      by_cases tk : k = 16
      · subst tk
        have t1 : decide (0 ≤ Zg) = true := decide_eq_true (hiff.1 rfl)
        clear hiff
        go_wp2
        go_ret
        exact ⟨rfl, W.out⟩
      · have t1 : decide (0 ≤ Zg) = false := decide_eq_false (fun h => tk (hiff.2 h))
        have t2 : ((k : Int) == 16) = false := by simp; omega
        have t3 : (k == 16) = false := by simpa using tk
        clear hiff
        go_wp2
        go_ret
        exact ⟨rfl, W.out⟩
end Go.Proofs.Ytckdhahceelckaa.G
