import Derived.Test.YtckdhahceelckaaXN4
namespace Go.Proofs.Ytckdhahceelckaa.G
open Go.RowKit Go.Proofs.YtckdhahceelckaaW.PrintWords Go.Proofs.YtckdhahceelckaaW.PrintLast Go.Proofs.YtckdhahceelckaaW.PrintMore
attribute [local go_sem] max2_mx min2_mn max_two min_two max_three min_three max_four min_four
attribute [local go_sem high] eqA23
set_option linter.unusedVariables false
set_option linter.unusedSimpArgs false

def mayF (p a e : List P3) (r : Int) : Bool := decide (0 < p.length) && decide (p.length ≤ 32) && decide (a.length ≤ 128) && decide (e.length ≤ 128) && decide (0 ≤ r) && decide (r ≤ 65536) && !p.any (far3 16777216) && !a.any (far3 1048576) && !e.any (far3 1048576)

theorem beyondE_calls (n : Int) (w : World) :
    Calls Try.prog 65 #[.int .i64 n] w fun e w' => ∃ g : Nat, e = .returned (.func (.func 121) #[] #[.pointer (some ⟨g, 0, none⟩)]) ∧ w'.cell? ⟨g, 0, none⟩ = some (.int .i64 n) ∧ Below w.heap.size w w' :=
  (beyondF_calls n w).mono fun e w' ⟨he, hw⟩ => ⟨w.heap.size, he, by rw [← hw]; simp, by rw [← hw]; exact (Below.refl _ w).alloc (Nat.le_refl _) _⟩
theorem contains_calls' (l : List P3) (m : Nat) (A : Option Addr) (c : Nat) (n : Int) (B : Nat) (v : Bool) (w : World) (hl : l.length = m) (hv : l.any (far3 n) = v) (hr : Rd w A l) (hc : m ≤ c) (hm : m < 9223372036854775807) (hB : w.cell? ⟨B, 0, none⟩ = some (.int .i64 n)) (hn1 : 0 ≤ n) (hn2 : n ≤ 9223372036854775807) :
    Calls Try.prog 68 #[.slice A m c, .func (.func 121) #[] #[.pointer (some ⟨B, 0, none⟩)]] w fun e w' => e = .returned (.bool v) ∧ Below w.heap.size w w' := by
  subst hl; subst hv; exact contains_calls l A c n B w hr hc hm hB hn1 hn2
set_option maxHeartbeats 2000000 in
set_option maxRecDepth 100000 in
theorem may_yes (p a e : List P3) (r : Int) (A0 A1 A2 : Option Addr) (c0 c1 c2 : Nat) (w : World) (h0 : Rd w A0 p) (h1 : Rd w A1 a) (h2 : Rd w A2 e) (k0 : p.length ≤ c0) (k1 : a.length ≤ c1) (k2 : e.length ≤ c2) (B : Bool) (F : Bool) (G : Bool)
    (hp1 : 0 < p.length) (hp2 : p.length ≤ 32) (ha : a.length ≤ 128) (he : e.length ≤ 128) (hr1 : 0 ≤ r) (hr2 : r ≤ 65536) (hF : p.any (far3 16777216) = false) (hG : a.any (far3 1048576) = false) (hB : e.any (far3 1048576) = B) :
    Calls Try.prog 57 #[.agg #[.slice A0 p.length c0, .slice A1 a.length c1, .slice A2 e.length c2, .int .i64 r]] w fun e w' => e = .returned (.bool !B) ∧ Below w.heap.size w w' := by
  have H0 := Lib.hid h0
  have H1 := Lib.hid h1
  have H2 := Lib.hid h2
  have HF := Lib.hid hF
  have HG := Lib.hid hG
  have HB := Lib.hid hB
  clear h0 h1 h2 hF hG hB
  obtain ⟨np, hnp⟩ : ∃ n, p.length = n := ⟨_, rfl⟩
  obtain ⟨na, hna⟩ : ∃ n, a.length = n := ⟨_, rfl⟩
  obtain ⟨ne, hne⟩ : ∃ n, e.length = n := ⟨_, rfl⟩
  rw [hnp] at hp1 hp2 k0 ⊢
  rw [hna] at ha k1 ⊢
  rw [hne] at he k2 ⊢
  have HNP := Lib.hid hnp
  have HNA := Lib.hid hna
  have HNE := Lib.hid hne
  clear hnp hna hne
  have t1 : decide ((0 : Int) < (np : Int)) = true := by simp; omega
  have t2 : decide ((np : Int) ≤ 32) = true := by simp; omega
  have t3 : decide (mx (na : Int) (ne : Int) ≤ 128) = true := by simp [mx]; split <;> omega
  have t4 : decide (0 ≤ r) = true := by simp; omega
  have t5 : decide (r ≤ 65536) = true := by simp; omega
  go_enter Try.func57, Try.ntmps57
  go_wp2
  obtain ⟨ca, hca⟩ : ∃ ca : Array Value, #[.slice A0 np c0, .slice A1 na c1, .slice A2 ne c2, .int .i64 r] = ca := ⟨_, rfl⟩
  have G0 : Hid ((w.alloc (.cells ca 36)).drew.heap[w.heap.size]? = some (.cells ca 36 (0, 0))) := heap_alloc_new w _
  have R0 : Hid (Below w.heap.size w (w.alloc (.cells ca 36)).drew) := ((Below.refl _ w).alloc (Nat.le_refl _) _).drew
  rw [← hca] at G0 R0
  clear hca ca
  go_region_held3 (fun w' => w'.cell? ⟨w.heap.size, 0, none⟩ = some (.slice A0 np c0) ∧ w'.cell? ⟨w.heap.size, 1, none⟩ = some (.slice A1 na c1) ∧ w'.cell? ⟨w.heap.size, 2, none⟩ = some (.slice A2 ne c2) ∧ w'.cell? ⟨w.heap.size, 3, none⟩ = some (.int .i64 r))
    (first | exact ⟨(blk_cell g0.out 0).trans rfl, (blk_cell g0.out 1).trans rfl, (blk_cell g0.out 2).trans rfl, (blk_cell g0.out 3).trans rfl⟩ | (go_keep; done))
    (first
      | (go_at_call 65; (try clear g0); (try clear hg); refine (beyondE_calls _ _).mono ?_; rintro e w1 ⟨g, rfl, hg, hb1⟩; have g0 := Lib.hid (blk_below G0.out hb1); have r0 := Lib.hid (bthen R0.out hb1); clear G0 R0 hb1; have G0 := g0; have R0 := r0; clear r0)
      | (go_at_call_of 68 A0; (try clear g0); refine (contains_calls' p _ _ _ 16777216 _ false _ HNP.out HF.out (H0.out.below R0.out) k0 (by omega) hg (by decide) (by decide)).mono ?_; rintro e w1 ⟨rfl, hb1⟩; have g0 := Lib.hid (blk_below G0.out hb1); have r0 := Lib.hid (bthen R0.out hb1); clear G0 R0 hb1; have G0 := g0; have R0 := r0; clear r0)
      | (go_at_call_of 68 A1; (try clear g0); refine (contains_calls' a _ _ _ 1048576 _ false _ HNA.out HG.out (H1.out.below R0.out) k1 (by omega) hg (by decide) (by decide)).mono ?_; rintro e w1 ⟨rfl, hb1⟩; have g0 := Lib.hid (blk_below G0.out hb1); have r0 := Lib.hid (bthen R0.out hb1); clear G0 R0 hb1; have G0 := g0; have R0 := r0; clear r0)
      | (go_at_call_of 68 A2; (try clear g0); refine (contains_calls' e _ _ _ 1048576 _ B _ HNE.out HB.out (H2.out.below R0.out) k2 (by omega) hg (by decide) (by decide)).mono ?_; rintro e w1 ⟨rfl, hb1⟩; have g0 := Lib.hid (blk_below G0.out hb1); have r0 := Lib.hid (bthen R0.out hb1); clear G0 R0 hb1; have G0 := g0; have R0 := r0; clear r0))
  go_wp2
  go_ret
  exact ⟨rfl, R0.out⟩
end Go.Proofs.Ytckdhahceelckaa.G
