import Derived.Test.YtckdhahceelckaaXN9
namespace Go.Proofs.Ytckdhahceelckaa.G
open Go.RowKit Go.Proofs.YtckdhahceelckaaW.PrintWords Go.Proofs.YtckdhahceelckaaW.PrintLast Go.Proofs.YtckdhahceelckaaW.PrintMore
attribute [local go_sem] max2_mx min2_mn max_two min_two max_three min_three max_four min_four
attribute [local go_sem high] eqA23
set_option linter.unusedVariables false
set_option linter.unusedSimpArgs false

set_option maxHeartbeats 2000000 in
set_option maxRecDepth 100000 in
theorem may_A (p a e : List P3) (r : Int) (A0 A1 A2 : Option Addr) (c0 c1 c2 : Nat) (w : World) (h0 : Rd w A0 p) (h1 : Rd w A1 a) (h2 : Rd w A2 e) (k0 : p.length ≤ c0) (k1 : a.length ≤ c1) (k2 : e.length ≤ c2) (B : Bool) (F : Bool) (G : Bool)
    (hp1 : p.length = 0) :
    Calls Try.prog 57 #[.agg #[.slice A0 p.length c0, .slice A1 a.length c1, .slice A2 e.length c2, .int .i64 r]] w fun e w' => e = .returned (.bool false) ∧ Below w.heap.size w w' := by
  have H0 := Lib.hid h0
  have H1 := Lib.hid h1
  have H2 := Lib.hid h2
  clear h0 h1 h2
  obtain ⟨np, hnp⟩ : ∃ n, p.length = n := ⟨_, rfl⟩
  obtain ⟨na, hna⟩ : ∃ n, a.length = n := ⟨_, rfl⟩
  obtain ⟨ne, hne⟩ : ∃ n, e.length = n := ⟨_, rfl⟩
  rw [hnp] at hp1 k0 ⊢
  rw [hna] at  k1 ⊢
  rw [hne] at  k2 ⊢
  have HNP := Lib.hid hnp
  have HNA := Lib.hid hna
  have HNE := Lib.hid hne
  clear hnp hna hne
  have t1 : decide ((0 : Int) < (np : Int)) = false := by simp; omega
  go_enter Try.func57, Try.ntmps57
  go_wp2
  obtain ⟨ca, hca⟩ : ∃ ca : Array Value, #[.slice A0 np c0, .slice A1 na c1, .slice A2 ne c2, .int .i64 r] = ca := ⟨_, rfl⟩
  have G0 : Hid ((w.alloc (.cells ca 36)).drew.heap[w.heap.size]? = some (.cells ca 36 (0, 0))) := heap_alloc_new w _
  have R0 : Hid (Below w.heap.size w (w.alloc (.cells ca 36)).drew) := ((Below.refl _ w).alloc (Nat.le_refl _) _).drew
  rw [← hca] at G0 R0
  clear hca ca
  have g0 : (w.alloc (.cells #[.slice A0 np c0, .slice A1 na c1, .slice A2 ne c2, .int .i64 r] 36)).cell? ⟨w.heap.size, 0, none⟩ = some (.slice A0 np c0) := (blk_cell (heap_alloc_new w _) 0).trans rfl
  have g1 : (w.alloc (.cells #[.slice A0 np c0, .slice A1 na c1, .slice A2 ne c2, .int .i64 r] 36)).cell? ⟨w.heap.size, 1, none⟩ = some (.slice A1 na c1) := (blk_cell (heap_alloc_new w _) 1).trans rfl
  have g2 : (w.alloc (.cells #[.slice A0 np c0, .slice A1 na c1, .slice A2 ne c2, .int .i64 r] 36)).cell? ⟨w.heap.size, 2, none⟩ = some (.slice A2 ne c2) := (blk_cell (heap_alloc_new w _) 2).trans rfl
  have g3 : (w.alloc (.cells #[.slice A0 np c0, .slice A1 na c1, .slice A2 ne c2, .int .i64 r] 36)).cell? ⟨w.heap.size, 3, none⟩ = some (.int .i64 r) := (blk_cell (heap_alloc_new w _) 3).trans rfl
  go_quiet (fail)
  go_wp2
  go_ret
  exact ⟨rfl, pw_below_drewN ((Below.refl _ w).alloc (Nat.le_refl _) _) _⟩
set_option maxHeartbeats 2000000 in
set_option maxRecDepth 100000 in
theorem may_B (p a e : List P3) (r : Int) (A0 A1 A2 : Option Addr) (c0 c1 c2 : Nat) (w : World) (h0 : Rd w A0 p) (h1 : Rd w A1 a) (h2 : Rd w A2 e) (k0 : p.length ≤ c0) (k1 : a.length ≤ c1) (k2 : e.length ≤ c2) (B : Bool) (F : Bool) (G : Bool)
    (hp1 : 0 < p.length) (hp2 : 32 < p.length) :
    Calls Try.prog 57 #[.agg #[.slice A0 p.length c0, .slice A1 a.length c1, .slice A2 e.length c2, .int .i64 r]] w fun e w' => e = .returned (.bool false) ∧ Below w.heap.size w w' := by
  have H0 := Lib.hid h0
  have H1 := Lib.hid h1
  have H2 := Lib.hid h2
  clear h0 h1 h2
  obtain ⟨np, hnp⟩ : ∃ n, p.length = n := ⟨_, rfl⟩
  obtain ⟨na, hna⟩ : ∃ n, a.length = n := ⟨_, rfl⟩
  obtain ⟨ne, hne⟩ : ∃ n, e.length = n := ⟨_, rfl⟩
  rw [hnp] at hp1 hp2 k0 ⊢
  rw [hna] at  k1 ⊢
  rw [hne] at  k2 ⊢
  have HNP := Lib.hid hnp
  have HNA := Lib.hid hna
  have HNE := Lib.hid hne
  clear hnp hna hne
  have t1 : decide ((0 : Int) < (np : Int)) = true := by simp; omega
  have t2 : decide ((np : Int) ≤ 32) = false := by simp; omega
  go_enter Try.func57, Try.ntmps57
  go_wp2
  obtain ⟨ca, hca⟩ : ∃ ca : Array Value, #[.slice A0 np c0, .slice A1 na c1, .slice A2 ne c2, .int .i64 r] = ca := ⟨_, rfl⟩
  have G0 : Hid ((w.alloc (.cells ca 36)).drew.heap[w.heap.size]? = some (.cells ca 36 (0, 0))) := heap_alloc_new w _
  have R0 : Hid (Below w.heap.size w (w.alloc (.cells ca 36)).drew) := ((Below.refl _ w).alloc (Nat.le_refl _) _).drew
  rw [← hca] at G0 R0
  clear hca ca
  have g0 : (w.alloc (.cells #[.slice A0 np c0, .slice A1 na c1, .slice A2 ne c2, .int .i64 r] 36)).cell? ⟨w.heap.size, 0, none⟩ = some (.slice A0 np c0) := (blk_cell (heap_alloc_new w _) 0).trans rfl
  have g1 : (w.alloc (.cells #[.slice A0 np c0, .slice A1 na c1, .slice A2 ne c2, .int .i64 r] 36)).cell? ⟨w.heap.size, 1, none⟩ = some (.slice A1 na c1) := (blk_cell (heap_alloc_new w _) 1).trans rfl
  have g2 : (w.alloc (.cells #[.slice A0 np c0, .slice A1 na c1, .slice A2 ne c2, .int .i64 r] 36)).cell? ⟨w.heap.size, 2, none⟩ = some (.slice A2 ne c2) := (blk_cell (heap_alloc_new w _) 2).trans rfl
  have g3 : (w.alloc (.cells #[.slice A0 np c0, .slice A1 na c1, .slice A2 ne c2, .int .i64 r] 36)).cell? ⟨w.heap.size, 3, none⟩ = some (.int .i64 r) := (blk_cell (heap_alloc_new w _) 3).trans rfl
  go_quiet (fail)
  go_wp2
  go_ret
  exact ⟨rfl, pw_below_drewN ((Below.refl _ w).alloc (Nat.le_refl _) _) _⟩
set_option maxHeartbeats 2000000 in
set_option maxRecDepth 100000 in
theorem may_C (p a e : List P3) (r : Int) (A0 A1 A2 : Option Addr) (c0 c1 c2 : Nat) (w : World) (h0 : Rd w A0 p) (h1 : Rd w A1 a) (h2 : Rd w A2 e) (k0 : p.length ≤ c0) (k1 : a.length ≤ c1) (k2 : e.length ≤ c2) (B : Bool) (F : Bool) (G : Bool)
    (hp1 : 0 < p.length) (hp2 : p.length ≤ 32) (ha : 128 < a.length ∨ 128 < e.length) :
    Calls Try.prog 57 #[.agg #[.slice A0 p.length c0, .slice A1 a.length c1, .slice A2 e.length c2, .int .i64 r]] w fun e w' => e = .returned (.bool false) ∧ Below w.heap.size w w' := by
  have H0 := Lib.hid h0
  have H1 := Lib.hid h1
  have H2 := Lib.hid h2
  clear h0 h1 h2
  obtain ⟨np, hnp⟩ : ∃ n, p.length = n := ⟨_, rfl⟩
  obtain ⟨na, hna⟩ : ∃ n, a.length = n := ⟨_, rfl⟩
  obtain ⟨ne, hne⟩ : ∃ n, e.length = n := ⟨_, rfl⟩
  rw [hnp] at hp1 hp2 k0 ⊢
  rw [hna] at ha k1 ⊢
  rw [hne] at ha k2 ⊢
  have HNP := Lib.hid hnp
  have HNA := Lib.hid hna
  have HNE := Lib.hid hne
  clear hnp hna hne
  have t1 : decide ((0 : Int) < (np : Int)) = true := by simp; omega
  have t2 : decide ((np : Int) ≤ 32) = true := by simp; omega
  have t3 : decide (mx (na : Int) (ne : Int) ≤ 128) = false := by obtain ⟨m1, m2, m3⟩ := mx_facts (na : Int) (ne : Int); simp; omega
  go_enter Try.func57, Try.ntmps57
  go_wp2
  obtain ⟨ca, hca⟩ : ∃ ca : Array Value, #[.slice A0 np c0, .slice A1 na c1, .slice A2 ne c2, .int .i64 r] = ca := ⟨_, rfl⟩
  have G0 : Hid ((w.alloc (.cells ca 36)).drew.heap[w.heap.size]? = some (.cells ca 36 (0, 0))) := heap_alloc_new w _
  have R0 : Hid (Below w.heap.size w (w.alloc (.cells ca 36)).drew) := ((Below.refl _ w).alloc (Nat.le_refl _) _).drew
  rw [← hca] at G0 R0
  clear hca ca
  have g0 : (w.alloc (.cells #[.slice A0 np c0, .slice A1 na c1, .slice A2 ne c2, .int .i64 r] 36)).cell? ⟨w.heap.size, 0, none⟩ = some (.slice A0 np c0) := (blk_cell (heap_alloc_new w _) 0).trans rfl
  have g1 : (w.alloc (.cells #[.slice A0 np c0, .slice A1 na c1, .slice A2 ne c2, .int .i64 r] 36)).cell? ⟨w.heap.size, 1, none⟩ = some (.slice A1 na c1) := (blk_cell (heap_alloc_new w _) 1).trans rfl
  have g2 : (w.alloc (.cells #[.slice A0 np c0, .slice A1 na c1, .slice A2 ne c2, .int .i64 r] 36)).cell? ⟨w.heap.size, 2, none⟩ = some (.slice A2 ne c2) := (blk_cell (heap_alloc_new w _) 2).trans rfl
  have g3 : (w.alloc (.cells #[.slice A0 np c0, .slice A1 na c1, .slice A2 ne c2, .int .i64 r] 36)).cell? ⟨w.heap.size, 3, none⟩ = some (.int .i64 r) := (blk_cell (heap_alloc_new w _) 3).trans rfl
  go_quiet (fail)
  go_wp2
  go_ret
  exact ⟨rfl, pw_below_drewN ((Below.refl _ w).alloc (Nat.le_refl _) _) _⟩
set_option maxHeartbeats 2000000 in
set_option maxRecDepth 100000 in
theorem may_D (p a e : List P3) (r : Int) (A0 A1 A2 : Option Addr) (c0 c1 c2 : Nat) (w : World) (h0 : Rd w A0 p) (h1 : Rd w A1 a) (h2 : Rd w A2 e) (k0 : p.length ≤ c0) (k1 : a.length ≤ c1) (k2 : e.length ≤ c2) (B : Bool) (F : Bool) (G : Bool)
    (hp1 : 0 < p.length) (hp2 : p.length ≤ 32) (ha : a.length ≤ 128) (he : e.length ≤ 128) (hr1 : r < 0) :
    Calls Try.prog 57 #[.agg #[.slice A0 p.length c0, .slice A1 a.length c1, .slice A2 e.length c2, .int .i64 r]] w fun e w' => e = .returned (.bool false) ∧ Below w.heap.size w w' := by
  have H0 := Lib.hid h0
  have H1 := Lib.hid h1
  have H2 := Lib.hid h2
  clear h0 h1 h2
  obtain ⟨np, hnp⟩ : ∃ n, p.length = n := ⟨_, rfl⟩
  obtain ⟨na, hna⟩ : ∃ n, a.length = n := ⟨_, rfl⟩
  obtain ⟨ne, hne⟩ : ∃ n, e.length = n := ⟨_, rfl⟩
  rw [hnp] at hp1 hp2 k0 ⊢
  rw [hna] at ha k1 ⊢
  rw [hne] at he k2 ⊢
  have HNP := Lib.hid hnp
  have HNA := Lib.hid hna
  have HNE := Lib.hid hne
  clear hnp hna hne
  have t1 : decide ((0 : Int) < (np : Int)) = true := by simp; omega
  have t2 : decide ((np : Int) ≤ 32) = true := by simp; omega
  have t3 : decide (mx (na : Int) (ne : Int) ≤ 128) = true := by obtain ⟨m1, m2, m3⟩ := mx_facts (na : Int) (ne : Int); simp; omega
  have t4 : decide (0 ≤ r) = false := by simp; omega
  go_enter Try.func57, Try.ntmps57
  go_wp2
  obtain ⟨ca, hca⟩ : ∃ ca : Array Value, #[.slice A0 np c0, .slice A1 na c1, .slice A2 ne c2, .int .i64 r] = ca := ⟨_, rfl⟩
  have G0 : Hid ((w.alloc (.cells ca 36)).drew.heap[w.heap.size]? = some (.cells ca 36 (0, 0))) := heap_alloc_new w _
  have R0 : Hid (Below w.heap.size w (w.alloc (.cells ca 36)).drew) := ((Below.refl _ w).alloc (Nat.le_refl _) _).drew
  rw [← hca] at G0 R0
  clear hca ca
  have g0 : (w.alloc (.cells #[.slice A0 np c0, .slice A1 na c1, .slice A2 ne c2, .int .i64 r] 36)).cell? ⟨w.heap.size, 0, none⟩ = some (.slice A0 np c0) := (blk_cell (heap_alloc_new w _) 0).trans rfl
  have g1 : (w.alloc (.cells #[.slice A0 np c0, .slice A1 na c1, .slice A2 ne c2, .int .i64 r] 36)).cell? ⟨w.heap.size, 1, none⟩ = some (.slice A1 na c1) := (blk_cell (heap_alloc_new w _) 1).trans rfl
  have g2 : (w.alloc (.cells #[.slice A0 np c0, .slice A1 na c1, .slice A2 ne c2, .int .i64 r] 36)).cell? ⟨w.heap.size, 2, none⟩ = some (.slice A2 ne c2) := (blk_cell (heap_alloc_new w _) 2).trans rfl
  have g3 : (w.alloc (.cells #[.slice A0 np c0, .slice A1 na c1, .slice A2 ne c2, .int .i64 r] 36)).cell? ⟨w.heap.size, 3, none⟩ = some (.int .i64 r) := (blk_cell (heap_alloc_new w _) 3).trans rfl
  go_quiet (fail)
  go_wp2
  go_ret
  exact ⟨rfl, pw_below_drewN ((Below.refl _ w).alloc (Nat.le_refl _) _) _⟩
set_option maxHeartbeats 2000000 in
set_option maxRecDepth 100000 in
theorem may_E (p a e : List P3) (r : Int) (A0 A1 A2 : Option Addr) (c0 c1 c2 : Nat) (w : World) (h0 : Rd w A0 p) (h1 : Rd w A1 a) (h2 : Rd w A2 e) (k0 : p.length ≤ c0) (k1 : a.length ≤ c1) (k2 : e.length ≤ c2) (B : Bool) (F : Bool) (G : Bool)
    (hp1 : 0 < p.length) (hp2 : p.length ≤ 32) (ha : a.length ≤ 128) (he : e.length ≤ 128) (hr1 : 0 ≤ r) (hr2 : 65536 < r) :
    Calls Try.prog 57 #[.agg #[.slice A0 p.length c0, .slice A1 a.length c1, .slice A2 e.length c2, .int .i64 r]] w fun e w' => e = .returned (.bool false) ∧ Below w.heap.size w w' := by
  have H0 := Lib.hid h0
  have H1 := Lib.hid h1
  have H2 := Lib.hid h2
  clear h0 h1 h2
  obtain ⟨np, hnp⟩ : ∃ n, p.length = n := ⟨_, rfl⟩
  obtain ⟨na, hna⟩ : ∃ n, a.length = n := ⟨_, rfl⟩
  obtain ⟨ne, hne⟩ : ∃ n, e.length = n := ⟨_, rfl⟩
  rw [hnp] at hp1 hp2 k0 ⊢
  rw [hna] at ha k1 ⊢
  rw [hne] at he k2 ⊢
  have HNP := Lib.hid hnp
  have HNA := Lib.hid hna
  have HNE := Lib.hid hne
  clear hnp hna hne
  have t1 : decide ((0 : Int) < (np : Int)) = true := by simp; omega
  have t2 : decide ((np : Int) ≤ 32) = true := by simp; omega
  have t3 : decide (mx (na : Int) (ne : Int) ≤ 128) = true := by obtain ⟨m1, m2, m3⟩ := mx_facts (na : Int) (ne : Int); simp; omega
  have t4 : decide (0 ≤ r) = true := by simp; omega
  have t5 : decide (r ≤ 65536) = false := by simp; omega
  go_enter Try.func57, Try.ntmps57
  go_wp2
  obtain ⟨ca, hca⟩ : ∃ ca : Array Value, #[.slice A0 np c0, .slice A1 na c1, .slice A2 ne c2, .int .i64 r] = ca := ⟨_, rfl⟩
  have G0 : Hid ((w.alloc (.cells ca 36)).drew.heap[w.heap.size]? = some (.cells ca 36 (0, 0))) := heap_alloc_new w _
  have R0 : Hid (Below w.heap.size w (w.alloc (.cells ca 36)).drew) := ((Below.refl _ w).alloc (Nat.le_refl _) _).drew
  rw [← hca] at G0 R0
  clear hca ca
  have g0 : (w.alloc (.cells #[.slice A0 np c0, .slice A1 na c1, .slice A2 ne c2, .int .i64 r] 36)).cell? ⟨w.heap.size, 0, none⟩ = some (.slice A0 np c0) := (blk_cell (heap_alloc_new w _) 0).trans rfl
  have g1 : (w.alloc (.cells #[.slice A0 np c0, .slice A1 na c1, .slice A2 ne c2, .int .i64 r] 36)).cell? ⟨w.heap.size, 1, none⟩ = some (.slice A1 na c1) := (blk_cell (heap_alloc_new w _) 1).trans rfl
  have g2 : (w.alloc (.cells #[.slice A0 np c0, .slice A1 na c1, .slice A2 ne c2, .int .i64 r] 36)).cell? ⟨w.heap.size, 2, none⟩ = some (.slice A2 ne c2) := (blk_cell (heap_alloc_new w _) 2).trans rfl
  have g3 : (w.alloc (.cells #[.slice A0 np c0, .slice A1 na c1, .slice A2 ne c2, .int .i64 r] 36)).cell? ⟨w.heap.size, 3, none⟩ = some (.int .i64 r) := (blk_cell (heap_alloc_new w _) 3).trans rfl
  go_quiet (fail)
  go_wp2
  go_ret
  exact ⟨rfl, pw_below_drewN ((Below.refl _ w).alloc (Nat.le_refl _) _) _⟩
end Go.Proofs.Ytckdhahceelckaa.G
