/- What the laws of this claim lean on: contracts of the functions that they reach, and plain lemmas; no condition of its own (part 2 of 4; the texts XW1, XW2, XW3, XW4, XW5, XW6, XW7, XW8, XW9, XW10, XW11, XW12, XW13, XW14, XW15, XW17, XW16, XW18). -/
import Derived.Test.YtckdhahceelckaaKB1
import Derived.Outline
/- Plain laws of wide numbers: a sign and eight digits to the base 2^24. No statement, no program. -/
namespace Go.Proofs.Ytckdhahceelckaa.G
set_option linter.unusedVariables false
def mag : List Int → Int
  | [] => 0
  | x :: l => x + 16777216 * mag l
def digs (l : List Int) : Prop := ∀ x ∈ l, 0 ≤ x ∧ x < 16777216
/-- digit k -/
def dg (l : List Int) (k : Nat) : Int := l.getD k 0
abbrev BW : Int := 16777216
theorem pw_pos (n : Nat) : (0 : Int) < 16777216 ^ n := Int.pow_pos (by decide)
theorem pw_succ (n : Nat) : (16777216 : Int) ^ (n + 1) = 16777216 ^ n * 16777216 := Int.pow_succ ..
theorem mag_nonneg : ∀ (l : List Int), digs l → 0 ≤ mag l
  | [], _ => Int.le_refl _
  | x :: l, h => by
    have := mag_nonneg l (fun y hy => h y (.tail _ hy))
    have := h x (.head _)
    unfold mag; omega
theorem mag_lt : ∀ (l : List Int), digs l → mag l < 16777216 ^ l.length
  | [], _ => by simp [mag]
  | x :: l, h => by
    have := mag_lt l (fun y hy => h y (.tail _ hy))
    have := h x (.head _)
    rw [List.length_cons, pw_succ]
    unfold mag; omega
theorem mag_append : ∀ (a b : List Int), mag (a ++ b) = mag a + 16777216 ^ a.length * mag b
  | [], b => by simp [mag]
  | x :: a, b => by
    rw [List.cons_append, mag, mag, mag_append a b, List.length_cons, pw_succ]
    grind
theorem mag_split (l : List Int) (i : Nat) (h : i ≤ l.length) : mag l = mag (l.take i) + 16777216 ^ i * mag (l.drop i) := by
  have := mag_append (l.take i) (l.drop i)
  rw [List.take_append_drop, List.length_take, Nat.min_eq_left h] at this
  exact this
theorem dg_lt (l : List Int) (i : Nat) (h : i < l.length) : dg l i = l[i] := by
  unfold dg; rw [List.getD_eq_getElem?_getD, List.getElem?_eq_getElem h]; rfl
theorem mag_take_succ (l : List Int) (i : Nat) (h : i < l.length) : mag (l.take (i + 1)) = mag (l.take i) + 16777216 ^ i * dg l i := by
  rw [List.take_succ_eq_append_getElem h, mag_append, List.length_take, Nat.min_eq_left (by omega), dg_lt l i h]
  simp [mag]
theorem mag_drop (l : List Int) (i : Nat) (h : i < l.length) : mag (l.drop i) = dg l i + 16777216 * mag (l.drop (i + 1)) := by
  rw [List.drop_eq_getElem_cons h, mag, dg_lt l i h]
theorem mag_set : ∀ (l : List Int) (i : Nat) (x : Int), i < l.length → mag (l.set i x) = mag l + 16777216 ^ i * (x - dg l i)
  | [], i, x, h => by simp at h
  | y :: l, 0, x, h => by simp [mag, dg]; omega
  | y :: l, i + 1, x, h => by
    have := mag_set l i x (by simpa using h)
    rw [List.set_cons_succ, mag, mag, this, pw_succ]
    have e : dg (y :: l) (i + 1) = dg l i := by simp [dg]
    rw [e]; grind
theorem dg_set (l : List Int) (i k : Nat) (x : Int) (h : i < l.length) : dg (l.set i x) k = if k = i then x else dg l k := by
  unfold dg
  rw [List.getD_eq_getElem?_getD, List.getD_eq_getElem?_getD, List.getElem?_set]
  by_cases e : i = k
  · subst e; simp [h]
  · rw [if_neg e, if_neg (fun h => e h.symm)]
theorem dg_ok {l : List Int} (h : digs l) (k : Nat) : 0 ≤ dg l k ∧ dg l k < 16777216 := by
  by_cases hk : k < l.length
  · rw [dg_lt l k hk]; exact h _ (List.getElem_mem _)
  · unfold dg; rw [List.getD_eq_getElem?_getD, List.getElem?_eq_none (by omega)]; decide
theorem digs_set {l : List Int} (h : digs l) (i : Nat) (x : Int) (h0 : 0 ≤ x) (h1 : x < 16777216) : digs (l.set i x) := fun y hy => by
  rcases List.mem_or_eq_of_mem_set hy with h' | rfl
  · exact h y h'
  · exact ⟨h0, h1⟩
theorem digs_take {l : List Int} (h : digs l) (i : Nat) : digs (l.take i) := fun y hy => h y (List.mem_of_mem_take hy)
theorem digs_drop {l : List Int} (h : digs l) (i : Nat) : digs (l.drop i) := fun y hy => h y (List.mem_of_mem_drop hy)
theorem mag_take_lt {l : List Int} (h : digs l) (i : Nat) (hi : i ≤ l.length) : mag (l.take i) < 16777216 ^ i := by
  have := mag_lt _ (digs_take h i)
  rwa [List.length_take, Nat.min_eq_left hi] at this
/-- two numbers with a differing digit and the same ones above it -/
theorem mag_less (a b : List Int) (i : Nat) (ha : digs a) (hb : digs b) (hi : i < a.length) (hj : i < b.length) (hd : a.drop (i + 1) = b.drop (i + 1)) (h : dg a i < dg b i) : mag a < mag b := by
  rw [mag_split a i (by omega), mag_split b i (by omega), mag_drop a i hi, mag_drop b i hj, hd]
  have h1 := mag_take_lt ha i (by omega)
  have h2 := mag_nonneg _ (digs_take hb i)
  have h3 : (16777216 : Int) ^ i * 1 ≤ 16777216 ^ i * (dg b i - dg a i) := Int.mul_le_mul_of_nonneg_left (by omega) (Int.le_of_lt (pw_pos i))
  have e : (16777216 : Int) ^ i * (dg b i + 16777216 * mag (b.drop (i + 1))) - 16777216 ^ i * (dg a i + 16777216 * mag (b.drop (i + 1))) = 16777216 ^ i * (dg b i - dg a i) := by grind
  omega
/-- the value -/
def wval (neg : Bool) (l : List Int) : Int := if neg then -mag l else mag l
theorem mag_zeros (n : Nat) : mag (List.replicate n 0) = 0 := by
  induction n with
  | zero => rfl
  | succ n ih => rw [List.replicate_succ, mag, ih]; rfl
/-! Of: digit by digit. -/
def OfI (n : Nat) (i : Nat) (l : List Int) (u : Nat) : Prop := l.length = 8 ∧ digs l ∧ (∀ j, i ≤ j → dg l j = 0) ∧ mag l + 16777216 ^ i * (u : Int) = n
theorem OfI.start (n : Nat) : OfI n 0 (List.replicate 8 0) n := by
  refine ⟨by simp, fun x hx => by rw [List.eq_of_mem_replicate hx]; decide, fun j _ => ?_, by rw [mag_zeros]; simp⟩
  unfold dg; rw [List.getD_eq_getElem?_getD, List.getElem?_replicate]; split <;> rfl
theorem OfI.step {n i : Nat} {l : List Int} {u : Nat} (h : OfI n i l u) (hi : i < 8) : OfI n (i + 1) (l.set i ((u % 16777216 : Nat) : Int)) (u / 16777216) := by
  obtain ⟨h1, h2, h3, h4⟩ := h
  refine ⟨by simpa using h1, digs_set h2 _ _ (by omega) (by omega), fun j hj => by rw [dg_set _ _ _ _ (by omega), if_neg (by omega)]; exact h3 j (by omega), ?_⟩
  rw [mag_set _ _ _ (by omega), h3 i (Nat.le_refl _), pw_succ]
  have e : ((u : Nat) : Int) = ((u % 16777216 : Nat) : Int) + 16777216 * ((u / 16777216 : Nat) : Int) := by omega
  rw [e] at h4
  grind
theorem OfI.le {n i : Nat} {l : List Int} {u : Nat} (h : OfI n i l u) : u ≤ n := by
  obtain ⟨h1, h2, h3, h4⟩ := h
  have := mag_nonneg l h2
  have h5 : 1 * (u : Int) ≤ 16777216 ^ i * (u : Int) := Int.mul_le_mul_of_nonneg_right (by have := pw_pos i; omega) (by omega)
  omega
theorem OfI.done {n : Nat} {l : List Int} {u : Nat} (h : OfI n 8 l u) (hn : n < 16777216 ^ 8) : mag l = n := by
  obtain ⟨h1, h2, h3, h4⟩ := h
  have := mag_nonneg l h2
  have hu : u = 0 := by
    rcases Nat.eq_zero_or_pos u with h0 | h0
    · exact h0
    · exfalso
      have : (16777216 : Int) ^ 8 * 1 ≤ 16777216 ^ 8 * (u : Int) := Int.mul_le_mul_of_nonneg_left (by omega) (by decide)
      have : ((16777216 ^ 8 : Nat) : Int) = (16777216 : Int) ^ 8 := by decide
      omega
  subst hu
  omega
/-! Plus, alike signs. -/
def AddI (a b : List Int) (i : Nat) (o : List Int) (c : Int) : Prop := o.length = 8 ∧ digs o ∧ 0 ≤ c ∧ c ≤ 1 ∧ (∀ j, i ≤ j → dg o j = dg a j) ∧ mag o + 16777216 ^ i * c = mag a + mag (b.take i)
theorem AddI.start (a b : List Int) (ha : a.length = 8) (hd : digs a) : AddI a b 0 a 0 := ⟨ha, hd, by decide, by decide, fun _ _ => rfl, by simp [mag]⟩
theorem AddI.step {a b : List Int} {i : Nat} {o : List Int} {c : Int} (h : AddI a b i o c) (ha : digs a) (hb : digs b) (hlb : b.length = 8) (hi : i < 8) :
    AddI a b (i + 1) (o.set i ((dg a i + dg b i + c) % 16777216)) ((dg a i + dg b i + c) / 16777216) := by
  obtain ⟨h1, h2, h3, h4, h5, h6⟩ := h
  have ka := dg_ok ha i
  have kb := dg_ok hb i
  refine ⟨by simpa using h1, digs_set h2 _ _ (by omega) (by omega), by omega, by omega, fun j hj => by rw [dg_set _ _ _ _ (by omega), if_neg (by omega)]; exact h5 j (by omega), ?_⟩
  rw [mag_set _ _ _ (by omega), mag_take_succ b i (by omega), h5 i (Nat.le_refl _), pw_succ]
  have e := Int.mul_ediv_add_emod (dg a i + dg b i + c) 16777216
  generalize (dg a i + dg b i + c) % 16777216 = r at e
  generalize (dg a i + dg b i + c) / 16777216 = q at e
  grind
theorem AddI.done {a b o : List Int} {c : Int} (h : AddI a b 8 o c) (hlb : b.length = 8) (hs : mag a + mag b < 16777216 ^ 8) : mag o = mag a + mag b := by
  obtain ⟨h1, h2, h3, h4, h5, h6⟩ := h
  have := mag_nonneg o h2
  rw [List.take_of_length_le (by omega)] at h6
  have hp : (16777216 : Int) ^ 8 = 6277101735386680763835789423207666416102355444464034512896 := by decide
  rw [hp] at *
  have : c = 0 := by omega
  subst this; omega
/-! Plus, unlike signs: the greater less the lesser. -/
def SubI (a b : List Int) (i : Nat) (o : List Int) (c : Int) : Prop := o.length = 8 ∧ digs o ∧ 0 ≤ c ∧ c ≤ 1 ∧ (∀ j, i ≤ j → dg o j = dg a j) ∧ mag o - 16777216 ^ i * c = mag a - mag (b.take i)
theorem SubI.start (a b : List Int) (ha : a.length = 8) (hd : digs a) : SubI a b 0 a 0 := ⟨ha, hd, by decide, by decide, fun _ _ => rfl, by simp [mag]⟩
theorem SubI.step0 {a b : List Int} {i : Nat} {o : List Int} {c : Int} (h : SubI a b i o c) (ha : digs a) (hb : digs b) (hlb : b.length = 8) (hi : i < 8) (hn : 0 ≤ dg a i - dg b i - c) :
    SubI a b (i + 1) (o.set i (dg a i - dg b i - c)) 0 := by
  obtain ⟨h1, h2, h3, h4, h5, h6⟩ := h
  have ka := dg_ok ha i
  have kb := dg_ok hb i
  refine ⟨by simpa using h1, digs_set h2 _ _ (by omega) (by omega), by omega, by omega, fun j hj => by rw [dg_set _ _ _ _ (by omega), if_neg (by omega)]; exact h5 j (by omega), ?_⟩
  rw [mag_set _ _ _ (by omega), mag_take_succ b i (by omega), h5 i (Nat.le_refl _), pw_succ]
  grind
theorem SubI.step1 {a b : List Int} {i : Nat} {o : List Int} {c : Int} (h : SubI a b i o c) (ha : digs a) (hb : digs b) (hlb : b.length = 8) (hi : i < 8) (hn : dg a i - dg b i - c < 0) :
    SubI a b (i + 1) (o.set i (dg a i - dg b i - c + 16777216)) 1 := by
  obtain ⟨h1, h2, h3, h4, h5, h6⟩ := h
  have ka := dg_ok ha i
  have kb := dg_ok hb i
  refine ⟨by simpa using h1, digs_set h2 _ _ (by omega) (by omega), by omega, by omega, fun j hj => by rw [dg_set _ _ _ _ (by omega), if_neg (by omega)]; exact h5 j (by omega), ?_⟩
  rw [mag_set _ _ _ (by omega), mag_take_succ b i (by omega), h5 i (Nat.le_refl _), pw_succ]
  grind
theorem SubI.done {a b o : List Int} {c : Int} (h : SubI a b 8 o c) (hlb : b.length = 8) (hs : mag b ≤ mag a) : mag o = mag a - mag b := by
  obtain ⟨h1, h2, h3, h4, h5, h6⟩ := h
  have hl := mag_lt o h2
  rw [h1] at hl
  rw [List.take_of_length_le (by omega)] at h6
  have hp : (16777216 : Int) ^ 8 = 6277101735386680763835789423207666416102355444464034512896 := by decide
  rw [hp] at *
  have : c = 0 := by omega
  subst this; omega
/-! Times. -/
/-- the inner loop: digit i of a (x), k of b's digits done; s: the sum ahead of it -/
def MulI (s x : Int) (b : List Int) (i k : Nat) (o : List Int) (c : Int) : Prop := o.length = 8 ∧ digs o ∧ 0 ≤ c ∧ c < 16777216 ∧ mag o + 16777216 ^ (i + k) * c = s + 16777216 ^ i * x * mag (b.take k)
theorem MulI.start {o : List Int} (x : Int) (b : List Int) (i : Nat) (h : o.length = 8) (hd : digs o) : MulI (mag o) x b i 0 o 0 := ⟨h, hd, by decide, by decide, by simp [mag]⟩
theorem mul_dig (u x y c : Int) (h1 : 0 ≤ u) (h2 : u < 16777216) (h3 : 0 ≤ x) (h4 : x < 16777216) (h5 : 0 ≤ y) (h6 : y < 16777216) (h7 : 0 ≤ c) (h8 : c < 16777216) : 0 ≤ x * y ∧ x * y ≤ 281474943156225 := by
  have a := Int.mul_nonneg h3 h5
  have b : x * y ≤ 16777215 * 16777215 := Int.mul_le_mul (by omega) (by omega) h5 (by decide)
  omega
theorem MulI.step {s x : Int} {b : List Int} {i k : Nat} {o : List Int} {c : Int} (h : MulI s x b i k o c) (hx0 : 0 ≤ x) (hx1 : x < 16777216) (hb : digs b) (hlb : b.length = 8) (hi : i + k < 8) :
    MulI s x b i (k + 1) (o.set (i + k) ((dg o (i + k) + x * dg b k + c) % 16777216)) ((dg o (i + k) + x * dg b k + c) / 16777216) := by
  obtain ⟨h1, h2, h3, h4, h6⟩ := h
  have ko := dg_ok h2 (i + k)
  have kb := dg_ok hb k
  have km := mul_dig (dg o (i + k)) x (dg b k) c ko.1 ko.2 hx0 hx1 kb.1 kb.2 h3 h4
  refine ⟨by simpa using h1, digs_set h2 _ _ (by omega) (by omega), by omega, by omega, ?_⟩
  rw [mag_set _ _ _ (by omega), mag_take_succ b k (by omega), ← Nat.add_assoc, pw_succ]
  have e := Int.mul_ediv_add_emod (dg o (i + k) + x * dg b k + c) 16777216
  generalize (dg o (i + k) + x * dg b k + c) % 16777216 = r at e
  generalize (dg o (i + k) + x * dg b k + c) / 16777216 = q at e
  have e2 : (16777216 : Int) ^ (i + k) = 16777216 ^ i * 16777216 ^ k := Int.pow_add ..
  rw [e2] at *
  grind
/-- the outer loop -/
def MulO (a b : List Int) (i : Nat) (o : List Int) : Prop := o.length = 8 ∧ digs o ∧ mag o = mag (a.take i) * mag b
theorem MulO.start (a b : List Int) : MulO a b 0 (List.replicate 8 0) :=
  ⟨by simp, fun x hx => by rw [List.eq_of_mem_replicate hx]; decide, by rw [mag_zeros]; simp [mag]⟩
theorem MulO.skip {a b o : List Int} {i : Nat} (h : MulO a b i o) (hla : a.length = 8) (hi : i < 8) (h0 : dg a i = 0) : MulO a b (i + 1) o := by
  obtain ⟨h1, h2, h3⟩ := h
  exact ⟨h1, h2, by rw [mag_take_succ a i (by omega), h0, h3]; simp⟩
theorem mag_take_le {l : List Int} (h : digs l) (i : Nat) (hi : i ≤ l.length) : mag (l.take i) ≤ mag l := by
  have := mag_split l i hi
  have := Int.mul_nonneg (Int.le_of_lt (pw_pos i)) (mag_nonneg _ (digs_drop h i))
  omega
theorem MulO.step {a b o o' : List Int} {i : Nat} {c : Int} (h : MulO a b i o) (hi : i < 8) (hm : MulI (mag o) (dg a i) b i (8 - i) o' c) (ha : digs a) (hb : digs b) (hla : a.length = 8) (hlb : b.length = 8) (hs : mag a * mag b < 16777216 ^ 8) :
    MulO a b (i + 1) o' := by
  obtain ⟨h1, h2, h3⟩ := h
  obtain ⟨k1, k2, k3, k4, k5⟩ := hm
  rw [show i + (8 - i) = 8 by omega] at k5
  have hb0 := mag_nonneg b hb
  have hle := mag_take_le ha (i + 1) (by omega)
  have hle2 : mag (a.take (i + 1)) * mag b ≤ mag a * mag b := Int.mul_le_mul_of_nonneg_right hle hb0
  rw [mag_take_succ a i (by omega)] at hle2
  have hsp := mag_split b (8 - i) (by omega)
  have hx := dg_ok ha i
  have hz := mag_nonneg _ (digs_drop hb (8 - i))
  have hxz := Int.mul_nonneg hx.1 hz
  have hn0 := mag_nonneg o' k2
  have e8 : (16777216 : Int) ^ i * 16777216 ^ (8 - i) = 16777216 ^ 8 := by rw [← Int.pow_add, show i + (8 - i) = 8 by omega]
  have e1 : (mag (a.take i) + 16777216 ^ i * dg a i) * mag b = mag (a.take i) * mag b + 16777216 ^ i * dg a i * mag (b.take (8 - i)) + 16777216 ^ 8 * (dg a i * mag (b.drop (8 - i))) := by
    rw [← e8]
    generalize (16777216 : Int) ^ i = p at *
    generalize (16777216 : Int) ^ (8 - i) = q at *
    grind
  have hp : (16777216 : Int) ^ 8 = 6277101735386680763835789423207666416102355444464034512896 := by decide
  rw [e1] at hle2
  rw [hp] at k5 hs hle2 e1
  refine ⟨k1, k2, ?_⟩
  rw [mag_take_succ a i (by omega), e1]
  rw [h3] at k5
  generalize mag (a.take i) * mag b = A at *
  generalize 16777216 ^ i * dg a i * mag (b.take (8 - i)) = Bx at *
  generalize dg a i * mag (b.drop (8 - i)) = C at *
  generalize mag a * mag b = D at *
  omega
end Go.Proofs.Ytckdhahceelckaa.G
namespace Go.Proofs.Ytckdhahceelckaa.G
set_option linter.unusedVariables false
theorem two_pos (n : Nat) : (0 : Int) < 2 ^ n := Int.pow_pos (by decide)
theorem two_succ (n : Nat) : (2 : Int) ^ (n + 1) = 2 * 2 ^ n := by rw [Int.pow_succ, Int.mul_comm]
/-- the bit of round j out of n -/
def bitOf (n j : Nat) : Int := if j < n then 2 ^ (n - 1 - j) else 0
theorem bitOf_half (n j : Nat) (h : j < n) : bitOf n j / 2 = bitOf n (j + 1) := by
  unfold bitOf
  rw [if_pos h]
  by_cases h2 : j + 1 < n
  · rw [if_pos h2, show n - 1 - j = (n - 1 - (j + 1)) + 1 by omega, two_succ]; omega
  · rw [if_neg h2, show n - 1 - j = 0 by omega]; decide
theorem bitOf_pos (n j : Nat) (h : j < n) : 0 < bitOf n j := by unfold bitOf; rw [if_pos h]; exact two_pos _
theorem bitOf_le (n j : Nat) : bitOf n j ≤ 2 ^ (n - 1) ∧ 0 ≤ bitOf n j := by
  unfold bitOf
  split
  · refine ⟨?_, Int.le_of_lt (two_pos _)⟩
    have : (2 : Int) ^ (n - 1) = 2 ^ (n - 1 - j) * 2 ^ j := by rw [← Int.pow_add, show n - 1 - j + j = n - 1 by omega]
    rw [this]
    have h1 := two_pos j
    have := Int.mul_le_mul_of_nonneg_left (show 1 ≤ (2 : Int) ^ j by omega) (Int.le_of_lt (two_pos (n - 1 - j)))
    omega
  · exact ⟨Int.le_of_lt (two_pos _), Int.le_refl _⟩
/-- j bits of digit d are done, D stands above it -/
def DivI (D d c : Int) (j : Nat) (q r : Int) : Prop := 0 ≤ q ∧ 0 ≤ r ∧ r < c ∧ q * c + r = D * 2 ^ j + d / 2 ^ (24 - j)
theorem DivI.start {D d c q r : Int} (hq : 0 ≤ q) (hr : 0 ≤ r) (hc : r < c) (h : q * c + r = D) (h0 : 0 ≤ d) (h1 : d < 16777216) : DivI D d c 0 q r :=
  ⟨hq, hr, hc, by rw [h, show (2 : Int) ^ (24 - 0) = 16777216 by decide, Int.ediv_eq_zero_of_lt h0 h1]; simp⟩
theorem DivI.next {D d c q r : Int} {j : Nat} (hj : j < 24) (h : DivI D d c j q r) : 2 * q * c + (2 * r + d / bitOf 24 j % 2) = D * 2 ^ (j + 1) + d / 2 ^ (24 - (j + 1)) := by
  obtain ⟨h1, h2, h3, h4⟩ := h
  unfold bitOf
  rw [if_pos hj, show 24 - 1 - j = 24 - (j + 1) by omega]
  have e : d / 2 ^ (24 - (j + 1)) / 2 = d / 2 ^ (24 - j) := by
    have e0 : (2 : Int) ^ (24 - j) = 2 ^ (24 - (j + 1)) * 2 := by rw [show 24 - j = (24 - (j + 1)) + 1 by omega, Int.pow_succ]
    rw [Int.ediv_ediv_of_nonneg (Int.le_of_lt (two_pos _)), e0]
  have e2 := Int.mul_ediv_add_emod (d / 2 ^ (24 - (j + 1))) 2
  rw [e] at e2
  rw [two_succ]
  generalize d / 2 ^ (24 - (j + 1)) % 2 = b at *
  generalize d / 2 ^ (24 - (j + 1)) = x at *
  generalize d / 2 ^ (24 - j) = y at *
  generalize (2 : Int) ^ j = p at *
  grind
theorem DivI.step0 {D d c q r : Int} {j : Nat} (hj : j < 24) (h : DivI D d c j q r) (hn : 2 * r + d / bitOf 24 j % 2 < c) : DivI D d c (j + 1) (2 * q) (2 * r + d / bitOf 24 j % 2) := by
  have h4 := h.next hj
  obtain ⟨h1, h2, h3, _⟩ := h
  have := Int.emod_nonneg (d / bitOf 24 j) (show (2 : Int) ≠ 0 by decide)
  exact ⟨by omega, by omega, hn, h4⟩
theorem DivI.step1 {D d c q r : Int} {j : Nat} (hj : j < 24) (h : DivI D d c j q r) (hn : c ≤ 2 * r + d / bitOf 24 j % 2) : DivI D d c (j + 1) (2 * q + 1) (2 * r + d / bitOf 24 j % 2 - c) := by
  have h4 := h.next hj
  obtain ⟨h1, h2, h3, _⟩ := h
  have := Int.emod_lt_of_pos (d / bitOf 24 j) (show (0 : Int) < 2 by decide)
  refine ⟨by omega, by omega, by omega, ?_⟩
  rw [← h4]; grind
theorem DivI.done {D d c q r : Int} (h : DivI D d c 24 q r) : 0 ≤ q ∧ 0 ≤ r ∧ r < c ∧ q * c + r = d + 16777216 * D := by
  obtain ⟨h1, h2, h3, h4⟩ := h
  refine ⟨h1, h2, h3, ?_⟩
  rw [h4, show (2 : Int) ^ 24 = 16777216 by decide, show 24 - 24 = 0 by rfl, Int.pow_zero, Int.ediv_one]; omega
/-- what is left fits: the quotient so far is at most half of the greatest one -/
theorem DivI.small {D d c q r M S : Int} {j : Nat} (hj : j < 24) (h : DivI D d c j q r) (hD : 0 ≤ D) (hd : 0 ≤ d) (hM : d + 16777216 * D ≤ M) (hS : M < (S + 1) * c) : 2 * q ≤ S := by
  obtain ⟨h1, h2, h3, h4⟩ := h
  have a : d / 2 ^ (24 - j) * 2 ≤ d := by
    have e : (2 : Int) ^ (24 - j) = 2 * 2 ^ (23 - j) := by rw [← two_succ, show 23 - j + 1 = 24 - j by omega]
    rw [e, ← Int.ediv_ediv_of_nonneg (by decide)]
    have p := two_pos (23 - j)
    have b : d / 2 / 2 ^ (23 - j) ≤ d / 2 := Int.ediv_le_self _ (by omega)
    omega
  have b : D * 2 ^ j * 2 ≤ 16777216 * D := by
    have e : (16777216 : Int) = 2 ^ (j + 1) * 2 ^ (23 - j) := by rw [← Int.pow_add, show j + 1 + (23 - j) = 24 by omega]; decide
    have p := two_pos (23 - j)
    have k : D * 2 ^ (j + 1) * 1 ≤ D * 2 ^ (j + 1) * 2 ^ (23 - j) := Int.mul_le_mul_of_nonneg_left (by omega) (Int.mul_nonneg hD (Int.le_of_lt (two_pos _)))
    rw [e]
    rw [two_succ] at *
    generalize (2 : Int) ^ (23 - j) = x at *
    generalize (2 : Int) ^ j = y at *
    grind
  have hc : 0 < c := by omega
  have k : 2 * q * c < (S + 1) * c := by
    have e : 2 * q * c = 2 * (q * c) := by grind
    omega
  have := Int.lt_of_mul_lt_mul_right k (Int.le_of_lt hc)
  omega
theorem divEnd {M c q r : Int} (hq : 0 ≤ q) (hr : 0 ≤ r) (hc : r < c) (h : q * c + r = M) : q = M / c ∧ r = M % c := by
  have hp : 0 < c := by omega
  have e : M / c = q := by
    rw [← h, Int.add_comm, Int.add_mul_ediv_right _ _ (by omega), Int.ediv_eq_zero_of_lt hr hc]; omega
  refine ⟨e.symm, ?_⟩
  have := Int.mul_ediv_add_emod M c
  rw [e] at this
  have : c * q = q * c := Int.mul_comm ..
  omega
/-- the floor of a wide number's quotient, c above 0 -/
theorem floor_neg (M c : Int) (hc : 0 < c) : (-M) / c = if M % c > 0 then -(M / c + 1) else -(M / c) := by
  have e := Int.mul_ediv_add_emod M c
  have h1 := Int.emod_nonneg M (show c ≠ 0 by omega)
  have h2 := Int.emod_lt_of_pos M hc
  split
  · have : -M = (c - M % c) + -(M / c + 1) * c := by grind
    rw [this, Int.add_mul_ediv_right _ _ (by omega), Int.ediv_eq_zero_of_lt (by omega) (by omega)]; omega
  · have : -M = 0 + -(M / c) * c := by grind
    rw [this, Int.add_mul_ediv_right _ _ (by omega), Int.zero_ediv]; omega
/-! The root by bits. -/
def RootI (a : Int) (j : Nat) (r : Int) : Prop := 0 ≤ r ∧ r ≤ 2 ^ 62 - 2 ^ (62 - j) ∧ r * r ≤ a ∧ a < (r + 2 ^ (62 - j)) * (r + 2 ^ (62 - j))
theorem RootI.start {a : Int} (h0 : 0 ≤ a) (h1 : a < 2 ^ 124) : RootI a 0 0 := ⟨by decide, by decide, by simpa using h0, by
  have : ((0 : Int) + 2 ^ (62 - 0)) * (0 + 2 ^ (62 - 0)) = 2 ^ 124 := by decide
  rw [this]; exact h1⟩
theorem RootI.bit {a r : Int} {j : Nat} (hj : j < 62) (h : RootI a j r) : 0 ≤ r + bitOf 62 j ∧ r + bitOf 62 j ≤ 4611686018427387904 - bitOf 62 j ∧ 0 < bitOf 62 j := by
  obtain ⟨h1, h2, h3, h4⟩ := h
  have e : bitOf 62 j = 2 ^ (61 - j) := by unfold bitOf; rw [if_pos hj]
  have e2 : (2 : Int) ^ (62 - j) = 2 * 2 ^ (61 - j) := by rw [← two_succ, show 61 - j + 1 = 62 - j by omega]
  have p := two_pos (61 - j)
  rw [e2, show (2 : Int) ^ 62 = 4611686018427387904 by decide] at h2
  rw [e]
  exact ⟨by omega, by omega, p⟩
theorem RootI.yes {a r : Int} {j : Nat} (hj : j < 62) (h : RootI a j r) (hn : (r + bitOf 62 j) * (r + bitOf 62 j) ≤ a) : RootI a (j + 1) (r + bitOf 62 j) := by
  obtain ⟨h1, h2, h3, h4⟩ := h
  have e : bitOf 62 j = 2 ^ (62 - (j + 1)) := by unfold bitOf; rw [if_pos hj, show 62 - 1 - j = 62 - (j + 1) by omega]
  have e2 : (2 : Int) ^ (62 - j) = 2 * 2 ^ (62 - (j + 1)) := by rw [← two_succ, show 62 - (j + 1) + 1 = 62 - j by omega]
  have p := two_pos (62 - (j + 1))
  rw [e2] at h2 h4
  rw [e] at hn ⊢
  refine ⟨by omega, by omega, hn, ?_⟩
  have : r + 2 * 2 ^ (62 - (j + 1)) = r + 2 ^ (62 - (j + 1)) + 2 ^ (62 - (j + 1)) := by omega
  rw [this] at h4; exact h4
theorem RootI.no {a r : Int} {j : Nat} (hj : j < 62) (h : RootI a j r) (hn : a < (r + bitOf 62 j) * (r + bitOf 62 j)) : RootI a (j + 1) r := by
  obtain ⟨h1, h2, h3, h4⟩ := h
  have e : bitOf 62 j = 2 ^ (62 - (j + 1)) := by unfold bitOf; rw [if_pos hj, show 62 - 1 - j = 62 - (j + 1) by omega]
  have e2 : (2 : Int) ^ (62 - j) = 2 * 2 ^ (62 - (j + 1)) := by rw [← two_succ, show 62 - (j + 1) + 1 = 62 - j by omega]
  have p := two_pos (62 - (j + 1))
  rw [e2] at h2
  rw [e] at hn
  exact ⟨h1, by omega, h3, hn⟩
theorem RootI.done {a r : Int} (h : RootI a 62 r) : 0 ≤ r ∧ r * r ≤ a ∧ a < (r + 1) * (r + 1) := by
  obtain ⟨h1, h2, h3, h4⟩ := h
  exact ⟨h1, h3, by simpa using h4⟩
end Go.Proofs.Ytckdhahceelckaa.G
namespace Go.Proofs.Ytckdhahceelckaa.G
open Go.RowKit Go.Proofs.YtckdhahceelckaaW.PrintWords Go.Proofs.YtckdhahceelckaaW.PrintLast Go.Proofs.YtckdhahceelckaaW.PrintMore
attribute [local go_sem] max2_mx min2_mn max_two min_two max_three min_three max_four min_four
set_option linter.unusedVariables false
set_option linter.unusedSimpArgs false
/-- the cells of a wide number -/
abbrev aW (n : Bool) (l : List Int) : Array Value := #[.bool n, .int .i64 (dg l 0), .int .i64 (dg l 1), .int .i64 (dg l 2), .int .i64 (dg l 3), .int .i64 (dg l 4), .int .i64 (dg l 5), .int .i64 (dg l 6), .int .i64 (dg l 7)]
/-- block g holds it -/
def Wd (w : World) (g : Nat) (n : Bool) (l : List Int) : Prop := w.heap[g]? = some (.cells (aW n l) 169 (0, 0))
theorem Wd.lt {w g n l} (h : Wd w g n l) : g < w.heap.size := blk_lt h
theorem Wd.neg {w g n l} (h : Wd w g n l) : w.cell? ⟨g, 0, none⟩ = some (.bool n) := (blk_cell h 0).trans rfl
theorem aW_get (n : Bool) (l : List Int) (k : Nat) (hk : k < 8) : (aW n l)[1 + k]? = some (.int .i64 (dg l k)) := by
  match k, hk with
  | 0, _ | 1, _ | 2, _ | 3, _ | 4, _ | 5, _ | 6, _ | 7, _ => rfl
theorem Wd.dig {w g n l} (h : Wd w g n l) (k : Nat) (hk : k < 8) : w.cell? ⟨g, 1 + k, none⟩ = some (.int .i64 (dg l k)) := (blk_cell h (1 + k)).trans (aW_get n l k hk)
theorem Wd.fz {w g n l} (h : Wd w g n l) (k : Nat) : w.frozen? ⟨g, k, none⟩ = false := blk_frozen h k
theorem aW_set (n : Bool) (l : List Int) (hl : l.length = 8) (k : Nat) (hk : k < 8) (x : Int) : (aW n l).setIfInBounds (1 + k) (.int .i64 x) = aW n (l.set k x) := by
  have e : ∀ j, dg (l.set k x) j = if j = k then x else dg l j := fun j => dg_set l k j x (by omega)
  unfold aW
  simp only [e]
  match k, hk with
  | 0, _ | 1, _ | 2, _ | 3, _ | 4, _ | 5, _ | 6, _ | 7, _ => rfl
theorem blk_set {w : World} {g : Nat} {cs : Array Value} {t : TypeId} (h : w.heap[g]? = some (.cells cs t (0, 0))) (j : Nat) (u : Value) : (w.setCell ⟨g, j, none⟩ u).heap[g]? = some (.cells (cs.setIfInBounds j u) t (0, 0)) := by
  simp [World.setCell, Array.getElem?_modify, h]
theorem Wd.set {w g n l} (h : Wd w g n l) (hl : l.length = 8) (k : Nat) (hk : k < 8) (x : Int) : Wd (w.setCell ⟨g, 1 + k, none⟩ (.int .i64 x)) g n (l.set k x) := by
  unfold Wd; rw [blk_set h, aW_set n l hl k hk]
theorem Wd.setn {w g n l} (h : Wd w g n l) (b : Bool) : Wd (w.setCell ⟨g, 0, none⟩ (.bool b)) g b l := by
  unfold Wd; rw [blk_set h]; rfl
theorem Wd.far {w g n l} (h : Wd w g n l) {p : Addr} (hp : p.block ≠ g) (u : Value) : Wd (w.setCell p u) g n l := (Below.heap_setCell w p u g (Ne.symm hp)).trans h
theorem Wd.below {w w1 g n l} (h : Wd w g n l) (hb : Below w.heap.size w w1) : Wd w1 g n l := (hb.block _ h.lt).trans h
/-- all nine cells -/
theorem Wd.alloc {w g n l} (h : Wd w g n l) (o : Obj) : Wd (w.alloc o) g n l := h.below ((Below.refl _ w).alloc (Nat.le_refl _) o)
theorem Wd.new (w : World) (n : Bool) (l : List Int) : Wd (w.alloc (.cells (aW n l) 169)) w.heap.size n l := heap_alloc_new w _
theorem Wd.drew {w g n l} (h : Wd w g n l) : Wd w.drew g n l := h
theorem Wd.drewN {w g n l} (h : Wd w g n l) (k : Nat) : Wd (w.drewN k) g n l := h
theorem Wd.fzs {w g n l} (h : Wd w g n l) : w.frozen? ⟨g, 0, none⟩ = false ∧ w.frozen? ⟨g, 1, none⟩ = false ∧ w.frozen? ⟨g, 2, none⟩ = false ∧ w.frozen? ⟨g, 3, none⟩ = false ∧ w.frozen? ⟨g, 4, none⟩ = false ∧ w.frozen? ⟨g, 5, none⟩ = false ∧ w.frozen? ⟨g, 6, none⟩ = false ∧ w.frozen? ⟨g, 7, none⟩ = false ∧ w.frozen? ⟨g, 8, none⟩ = false :=
  ⟨h.fz 0, h.fz 1, h.fz 2, h.fz 3, h.fz 4, h.fz 5, h.fz 6, h.fz 7, h.fz 8⟩
/-- all nine cells -/
theorem Wd.all {w g n l} (h : Wd w g n l) : w.cell? ⟨g, 0, none⟩ = some (.bool n) ∧ w.cell? ⟨g, 1, none⟩ = some (.int .i64 (dg l 0)) ∧ w.cell? ⟨g, 2, none⟩ = some (.int .i64 (dg l 1)) ∧ w.cell? ⟨g, 3, none⟩ = some (.int .i64 (dg l 2)) ∧ w.cell? ⟨g, 4, none⟩ = some (.int .i64 (dg l 3)) ∧ w.cell? ⟨g, 5, none⟩ = some (.int .i64 (dg l 4)) ∧ w.cell? ⟨g, 6, none⟩ = some (.int .i64 (dg l 5)) ∧ w.cell? ⟨g, 7, none⟩ = some (.int .i64 (dg l 6)) ∧ w.cell? ⟨g, 8, none⟩ = some (.int .i64 (dg l 7)) :=
  ⟨h.neg, h.dig 0 (by omega), h.dig 1 (by omega), h.dig 2 (by omega), h.dig 3 (by omega), h.dig 4 (by omega), h.dig 5 (by omega), h.dig 6 (by omega), h.dig 7 (by omega)⟩
/-- nine stores -/
def set9 (w : World) (g : Nat) (a0 a1 a2 a3 a4 a5 a6 a7 a8 : Value) : World := ((((((((w.setCell ⟨g, 0, none⟩ a0).setCell ⟨g, 1, none⟩ a1).setCell ⟨g, 2, none⟩ a2).setCell ⟨g, 3, none⟩ a3).setCell ⟨g, 4, none⟩ a4).setCell ⟨g, 5, none⟩ a5).setCell ⟨g, 6, none⟩ a6).setCell ⟨g, 7, none⟩ a7).setCell ⟨g, 8, none⟩ a8
theorem blk9 {W : World} {g : Nat} {b0 b1 b2 b3 b4 b5 b6 b7 b8 : Value} {t : TypeId} (h : W.heap[g]? = some (.cells #[b0, b1, b2, b3, b4, b5, b6, b7, b8] t (0, 0))) (a0 a1 a2 a3 a4 a5 a6 a7 a8 : Value) :
    (set9 W g a0 a1 a2 a3 a4 a5 a6 a7 a8).heap[g]? = some (.cells #[a0, a1, a2, a3, a4, a5, a6, a7, a8] t (0, 0)) := by
  have h0 := blk_set h 0 a0
  have h1 := blk_set h0 1 a1
  have h2 := blk_set h1 2 a2
  have h3 := blk_set h2 3 a3
  have h4 := blk_set h3 4 a4
  have h5 := blk_set h4 5 a5
  have h6 := blk_set h5 6 a6
  have h7 := blk_set h6 7 a7
  have h8 := blk_set h7 8 a8
  simp only [List.setIfInBounds_toArray, List.set_cons_zero, List.set_cons_succ] at h8
  exact h8
theorem blk9_set {W : World} {g : Nat} {n l} (h : Wd W g n l) (m : Bool) (k : List Int) :
    Wd (set9 W g (.bool m) (.int .i64 (dg k 0)) (.int .i64 (dg k 1)) (.int .i64 (dg k 2)) (.int .i64 (dg k 3)) (.int .i64 (dg k 4)) (.int .i64 (dg k 5)) (.int .i64 (dg k 6)) (.int .i64 (dg k 7))) g m k := blk9 h ..
theorem below_set9 {B : Nat} {a w : World} (h : Below B a w) {g : Nat} (hg : B ≤ g) (a0 a1 a2 a3 a4 a5 a6 a7 a8 : Value) : Below B a (set9 w g a0 a1 a2 a3 a4 a5 a6 a7 a8) :=
  ((((((((h.setCell (p := ⟨g, 0, none⟩) hg a0).setCell (p := ⟨g, 1, none⟩) hg a1).setCell (p := ⟨g, 2, none⟩) hg a2).setCell (p := ⟨g, 3, none⟩) hg a3).setCell (p := ⟨g, 4, none⟩) hg a4).setCell (p := ⟨g, 5, none⟩) hg a5).setCell (p := ⟨g, 6, none⟩) hg a6).setCell (p := ⟨g, 7, none⟩) hg a7).setCell (p := ⟨g, 8, none⟩) hg a8
theorem set9_far {w : World} {g k : Nat} (h : k ≠ g) (a0 a1 a2 a3 a4 a5 a6 a7 a8 : Value) : (set9 w g a0 a1 a2 a3 a4 a5 a6 a7 a8).heap[k]? = w.heap[k]? :=
  (Below.heap_setCell _ _ _ k h).trans ((Below.heap_setCell _ _ _ k h).trans ((Below.heap_setCell _ _ _ k h).trans ((Below.heap_setCell _ _ _ k h).trans ((Below.heap_setCell _ _ _ k h).trans ((Below.heap_setCell _ _ _ k h).trans ((Below.heap_setCell _ _ _ k h).trans ((Below.heap_setCell _ _ _ k h).trans (Below.heap_setCell _ _ _ k h))))))))
/-- a value is a wide number's, with eight digits -/
structure WV (v : Value) (x : Int) : Prop where
  out : ∃ n l, v = .agg (aW n l) ∧ l.length = 8 ∧ digs l ∧ wval n l = x
def zs8 : List Int := [0, 0, 0, 0, 0, 0, 0, 0]
theorem zs8_eq : zs8 = List.replicate 8 0 := rfl
theorem info169 : (Try.prog.info? 169).map (fun i => (i.zero, i.size, i.bytes)) = some (some (.agg (aW false zs8)), 9, 72) := by kernel_rfl
def OfPost (x : Int) (w : World) (e : Ending) (w' : World) : Prop := ∃ v, e = .returned v ∧ WV v x ∧ Below w.heap.size w w'
theorem u64_neg (x : Int) (h1 : -9223372036854775808 ≤ x) (h2 : x < 0) : IntKind.u64.wrap (-IntKind.u64.wrap x) = ((x.natAbs : Nat) : Int) := by
  have e : IntKind.u64.wrap x = x + 18446744073709551616 := by
    simp [IntKind.wrap, IntKind.bits, IntKind.signed]; omega
  rw [e]
  simp [IntKind.wrap, IntKind.bits, IntKind.signed]; omega
theorem u64_pos (x : Int) (h1 : 0 ≤ x) (h2 : x ≤ 9223372036854775807) : IntKind.u64.wrap x = ((x.natAbs : Nat) : Int) := by
  simp [IntKind.wrap, IntKind.bits, IntKind.signed]; omega
set_option maxHeartbeats 1000000 in
theorem of_calls (x : Int) (hx1 : -9223372036854775808 ≤ x) (hx2 : x ≤ 9223372036854775807) (w : World) : Calls Try.prog 152 #[.int .i64 x] w (OfPost x w) := by
  have h1 := u64_neg x hx1
  have h2 := fun h => u64_pos x h hx2
  obtain ⟨N, hN⟩ : ∃ N, x.natAbs = N := ⟨_, rfl⟩
  have hN2 : N < 16777216 ^ 8 := by omega
  have hN3 : N ≤ 9223372036854775808 := by omega
  go_enter Try.func152, Try.ntmps152
  go_wp2
  all_goals
    go_loopw [4, 5] (fun v4 v5 wr => ∃ (k u : Nat) (l : List Int) (n : Bool), k ≤ 8 ∧ v5 = .int .i64 k ∧ v4 = .int .u64 u ∧ Hid (Wd wr (w.heap.size + 1) n l) ∧ Hid (n = decide (x < 0)) ∧ Hid (Wd wr w.heap.size false zs8) ∧ Hid (OfI N k l u) ∧ Hid (Below w.heap.size w wr)) (fun _ i _ => 8 - (intOf i).toNat)
    case atStart =>
      refine ⟨0, N, zs8, decide (x < 0), by omega, rfl, by simp [*], Lib.hid ?_, rfl, Lib.hid ?_, Lib.hid (OfI.start N), Lib.hid ?_⟩
      · first
          | (rw [decide_eq_true (by assumption)]; have HB := Wd.new (w.alloc (.cells (aW false zs8) 169)) true zs8; rw [World.size_alloc] at HB; exact HB)
          | (rw [decide_eq_false (by omega)]; have HB := Wd.new (w.alloc (.cells (aW false zs8) 169)) false zs8; rw [World.size_alloc] at HB; exact HB)
      · exact (Wd.new w false zs8).alloc _
      · exact ((Below.refl _ w).alloc (Nat.le_refl _) _).alloc (by simp) _
    case round =>
      obtain ⟨k, u, l, n, hk, rfl, rfl, hB, hn, hA, hI, hW⟩ := hrel
      by_cases hlt : k < 8
      · have c0 := hB.out.dig k hlt
        have f0 := hB.out.fz (1 + k)
        have hu := hI.out.le
        have e1 : IntKind.u64.wrap ((u : Int) / 16777216) = ((u / 16777216 : Nat) : Int) := by simp [IntKind.wrap, IntKind.bits, IntKind.signed]; omega
        go_wp2
        go_roundw
        case rel => exact ⟨k + 1, u / 16777216, l.set k ((u % 16777216 : Nat) : Int), n, by omega, by go_num, by go_num, hB.out.set hI.out.1 k hlt _, hn, hA.out.far (by simp) _, hI.out.step hlt, hW.out.setCell (by simp) _⟩
        case measure => simp [intOf]; omega
      · obtain rfl : k = 8 := by omega
        obtain ⟨z0, z1, z2, z3, z4, z5, z6, z7, z8⟩ := hB.out.all
        obtain ⟨y0, y1, y2, y3, y4, y5, y6, y7, y8⟩ := hA.out.all
        obtain ⟨x0, x1, x2, x3, x4, x5, x6, x7, x8⟩ := hA.out.fzs
        have hv : WV (.agg (aW n l)) x := ⟨n, l, rfl, hI.out.1, hI.out.2.1, by have := hI.out.done hN2; rw [hn.out]; unfold wval; split <;> (simp at *; omega)⟩
        have HS := blk9_set hA.out n l
        have HW := below_set9 hW.out (Nat.le_refl _) (.bool n) (.int .i64 (dg l 0)) (.int .i64 (dg l 1)) (.int .i64 (dg l 2)) (.int .i64 (dg l 3)) (.int .i64 (dg l 4)) (.int .i64 (dg l 5)) (.int .i64 (dg l 6)) (.int .i64 (dg l 7))
        unfold set9 at HS HW
        obtain ⟨V, hV⟩ : ∃ V, ((((((((wr.setCell ⟨w.heap.size, 0, none⟩ (.bool n)).setCell ⟨w.heap.size, 1, none⟩ (.int .i64 (dg l 0))).setCell ⟨w.heap.size, 2, none⟩ (.int .i64 (dg l 1))).setCell ⟨w.heap.size, 3, none⟩ (.int .i64 (dg l 2))).setCell ⟨w.heap.size, 4, none⟩ (.int .i64 (dg l 3))).setCell ⟨w.heap.size, 5, none⟩ (.int .i64 (dg l 4))).setCell ⟨w.heap.size, 6, none⟩ (.int .i64 (dg l 5))).setCell ⟨w.heap.size, 7, none⟩ (.int .i64 (dg l 6))).setCell ⟨w.heap.size, 8, none⟩ (.int .i64 (dg l 7)) = V := ⟨_, rfl⟩
        rw [hV] at HS HW
        obtain ⟨t0, t1, t2, t3, t4, t5, t6, t7, t8⟩ := HS.all
        clear h1 h2 HS
        have HV := Lib.hid hV
        clear hV
        go_wp2
        rw [HV.out]
        exact bodyPost_ret (v := .agg (aW n l)) (by simp [results, Try.results152, go_sem, t0, t1, t2, t3, t4, t5, t6, t7, t8]) rfl ⟨_, rfl, hv, HW⟩
end Go.Proofs.Ytckdhahceelckaa.G
namespace Go.Proofs.Ytckdhahceelckaa.G
open Go.RowKit Go.Proofs.YtckdhahceelckaaW.PrintWords Go.Proofs.YtckdhahceelckaaW.PrintLast Go.Proofs.YtckdhahceelckaaW.PrintMore
attribute [local go_sem] max2_mx min2_mn max_two min_two max_three min_three max_four min_four
set_option linter.unusedVariables false
set_option linter.unusedSimpArgs false
/-- which of two lists of digits is the lesser one -/
def cmpF (l k : List Int) : Int := if mag l < mag k then -1 else if mag k < mag l then 1 else 0
theorem cmpF_lt {l k : List Int} (h : mag l < mag k) : cmpF l k = -1 := by unfold cmpF; rw [if_pos h]
theorem cmpF_gt {l k : List Int} (h : mag k < mag l) : cmpF l k = 1 := by unfold cmpF; rw [if_neg (by omega), if_pos h]
theorem cmpF_eq {l k : List Int} (h : l = k) : cmpF l k = 0 := by subst h; unfold cmpF; rw [if_neg (by omega), if_neg (by omega)]
theorem drop_step {l k : List Int} {i : Nat} (hl : l.length = 8) (hk : k.length = 8) (hi : i < 8) (h : l.drop (i + 1) = k.drop (i + 1)) (he : dg l i = dg k i) : l.drop i = k.drop i := by
  rw [List.drop_eq_getElem_cons (by omega), List.drop_eq_getElem_cons (show i < k.length by omega), h, ← dg_lt l i (by omega), ← dg_lt k i (by omega), he]
set_option maxHeartbeats 1000000 in
theorem size_calls (n m : Bool) (l k : List Int) (hl : l.length = 8) (hk : k.length = 8) (hd : digs l) (he : digs k) (w : World) :
    Calls Try.prog 181 #[.agg (aW n l), .agg (aW m k)] w fun e w' => e = .returned (.int .i64 (cmpF l k)) ∧ Below w.heap.size w w' := by
  have HL := Lib.hid hl
  have HK := Lib.hid hk
  have HD := Lib.hid hd
  have HE := Lib.hid he
  clear hl hk hd he
  have HA := Lib.hid ((Wd.new w n l).alloc (.cells (aW m k) 169))
  have HB := Lib.hid (Wd.new (w.alloc (.cells (aW n l) 169)) m k)
  rw [World.size_alloc] at HB
  have HW := Lib.hid (((Below.refl _ w).alloc (Nat.le_refl _) (.cells (aW n l) 169)).alloc (by simp) (.cells (aW m k) 169))
  go_enter Try.func181, Try.ntmps181
  go_wp2
  go_loopw [5] (fun v5 wr => ∃ z : Int, v5 = .int .i64 z ∧ -1 ≤ z ∧ z ≤ 7 ∧ Hid (l.drop (z + 1).toNat = k.drop (z + 1).toNat) ∧ Hid (Wd wr w.heap.size n l) ∧ Hid (Wd wr (w.heap.size + 1) m k) ∧ Hid (Below w.heap.size w wr)) (fun i _ => (intOf i + 1).toNat)
  case atStart => exact ⟨7, rfl, by omega, by omega, Lib.hid (by rw [List.drop_of_length_le (by rw [HL.out]; decide), List.drop_of_length_le (by rw [HK.out]; decide)]), HA, HB, HW⟩
  case round =>
    obtain ⟨z, rfl, hz1, hz2, hD, hA, hB, hW⟩ := hrel
    by_cases hz : z < 0
    · obtain rfl : z = -1 := by omega
      have E : Hid (cmpF l k = 0) := Lib.hid (cmpF_eq (by simpa using hD.out))
      go_wp2
      go_ret
      exact ⟨by rw [E.out]; rfl, hW.out⟩
    · obtain ⟨i, rfl⟩ : ∃ i : Nat, z = i := ⟨z.toNat, by omega⟩
      have hi : i < 8 := by omega
      have c0 := hA.out.dig i hi
      have c1 := hB.out.dig i hi
      have hdr : Hid (l.drop (i + 1) = k.drop (i + 1)) := hD
      clear hz hD
      rcases Int.lt_trichotomy (dg l i) (dg k i) with h | h | h
      · have t1 : decide (dg l i < dg k i) = true := by simpa using h
        have e := cmpF_lt (mag_less l k i HD.out HE.out (by rw [HL.out]; exact hi) (by rw [HK.out]; exact hi) hdr.out h)
        have E := Lib.hid e
        clear e h
        go_wp2
        go_quiet (fail)
        go_wp2
        go_ret
        exact ⟨by rw [E.out]; rfl, pw_below_drewN hW.out _⟩
      · have t1 : decide (dg l i < dg k i) = false := by simp; omega
        have t2 : decide (dg k i < dg l i) = false := by simp; omega
        have hN := Lib.hid (drop_step HL.out HK.out hi hdr.out h)
        clear h
        go_wp2
        go_quiet (fail)
        go_wp2
        go_quiet (fail)
        go_wp2
        go_roundw
        case rel => exact ⟨↑i - 1, rfl, by omega, by omega, by rw [show ((i : Int) - 1 + 1).toNat = i by omega]; exact hN, hA, hB, pw_below_drewN hW.out _⟩
        case measure => simp [intOf]
      · have t1 : decide (dg l i < dg k i) = false := by simp; omega
        have t2 : decide (dg k i < dg l i) = true := by simpa using h
        have e := cmpF_gt (mag_less k l i HE.out HD.out (by rw [HK.out]; exact hi) (by rw [HL.out]; exact hi) hdr.out.symm h)
        have E := Lib.hid e
        clear e h
        go_wp2
        go_quiet (fail)
        go_wp2
        go_quiet (fail)
        go_wp2
        go_ret
        exact ⟨by rw [E.out]; rfl, pw_below_drewN (pw_below_drewN hW.out _) _⟩
end Go.Proofs.Ytckdhahceelckaa.G
namespace Go.Proofs.Ytckdhahceelckaa.G
open Go.RowKit Go.Proofs.YtckdhahceelckaaW.PrintWords Go.Proofs.YtckdhahceelckaaW.PrintLast Go.Proofs.YtckdhahceelckaaW.PrintMore
attribute [local go_sem] max2_mx min2_mn max_two min_two max_three min_three max_four min_four
set_option linter.unusedVariables false
set_option linter.unusedSimpArgs false
set_option maxHeartbeats 2000000 in
theorem plus_same (n : Bool) (l k : List Int) (hl : l.length = 8) (hk : k.length = 8) (hd : digs l) (he : digs k) (hs : mag l + mag k < 16777216 ^ 8) (w : World) :
    Calls Try.prog 179 #[.agg (aW n l), .agg (aW n k)] w (OfPost (wval n l + wval n k) w) := by
  have HL := Lib.hid hl
  have HK := Lib.hid hk
  have HD := Lib.hid hd
  have HE := Lib.hid he
  have HS := Lib.hid hs
  have HX := Lib.hid (AddI.start l k hl hd)
  clear hl hk hd he hs
  have HA := ((Wd.new w n l).alloc (.cells (aW n k) 169)).alloc (.cells (aW false zs8) 169)
  have HB := (Wd.new (w.alloc (.cells (aW n l) 169)) n k).alloc (.cells (aW false zs8) 169)
  have HC := Wd.new ((w.alloc (.cells (aW n l) 169)).alloc (.cells (aW n k) 169)) false zs8
  rw [World.size_alloc] at HB
  rw [World.size_alloc, World.size_alloc] at HC
  have HW := (((Below.refl _ w).alloc (Nat.le_refl _) (.cells (aW n l) 169)).alloc (by simp) (.cells (aW n k) 169)).alloc (by simp; omega) (.cells (aW false zs8) 169)
  have HA := Lib.hid (HA.alloc (.cells (aW n l) 169))
  have HB := Lib.hid (HB.alloc (.cells (aW n l) 169))
  have HC := Lib.hid (HC.alloc (.cells (aW n l) 169))
  have HO := Wd.new (((w.alloc (.cells (aW n l) 169)).alloc (.cells (aW n k) 169)).alloc (.cells (aW false zs8) 169)) n l
  simp only [World.size_alloc] at HO
  have HO := Lib.hid HO
  have HW := Lib.hid (HW.alloc (by simp; omega) (.cells (aW n l) 169))
  go_enter Try.func179, Try.ntmps179
  go_wp2
  go_loopw [5, 7, 8] (fun v5 v7 v8 wr => ∃ (i : Nat) (c : Int) (o : List Int), i ≤ 8 ∧ v7 = .int .i64 i ∧ v5 = .int .i64 c ∧ 0 ≤ c ∧ c ≤ 1 ∧ Hid (Wd wr w.heap.size n l) ∧ Hid (Wd wr (w.heap.size + 1) n k) ∧ Hid (Wd wr (w.heap.size + 1 + 1) false zs8) ∧ Hid (Wd wr (w.heap.size + 1 + 1 + 1) n o) ∧ Hid (AddI l k i o c) ∧ Hid (Below w.heap.size w wr)) (fun _ i _ _ => 8 - (intOf i).toNat)
  case atStart => exact ⟨0, 0, l, by omega, rfl, rfl, by omega, by omega, HA, HB, HC, HO, HX, HW⟩
  case round =>
    clear HX HA HB HC HO HW
    obtain ⟨i, c, o, hi8, rfl, rfl, hc0, hc1, hA, hB, hC, hO, hI, hW⟩ := hrel
    by_cases hi : i < 8
    · have c0 := hA.out.dig i hi
      have c1 := hB.out.dig i hi
      have c2 := hO.out.dig i hi
      have f2 := hO.out.fz (1 + i)
      obtain ⟨a0, a1⟩ := dg_ok HD.out i
      obtain ⟨b0, b1⟩ := dg_ok HE.out i
      have hN := Lib.hid (hI.out.step HD.out HE.out HK.out hi)
      obtain ⟨x, hx⟩ : ∃ x, dg l i = x := ⟨_, rfl⟩
      obtain ⟨y, hy⟩ : ∃ y, dg k i = y := ⟨_, rfl⟩
      rw [hx] at c0 a0 a1 hN
      rw [hy] at c1 b0 b1 hN
      clear hx hy
      have e1 : IntKind.i64.wrap (x + y) = x + y := iw_id _ (by omega) (by omega)
      have e2 : IntKind.i64.wrap (x + y + c) = x + y + c := iw_id _ (by omega) (by omega)
      go_wp2
      go_quiet (fail)
      clear e1 e2
      obtain ⟨s, hs⟩ : ∃ s, x + y + c = s := ⟨_, rfl⟩
      have s0 : 0 ≤ s := by omega
      have s1 : s ≤ 33554431 := by omega
      rw [hs] at hN ⊢
      clear hs
      go_wp2
      go_roundw
      case rel => exact ⟨i + 1, s / 16777216, _, by omega, by go_num, rfl, by omega, by omega, (hA.out.drewN _).far (by simp; try omega) _, (hB.out.drewN _).far (by simp; try omega) _, (hC.out.drewN _).far (by simp; try omega) _, (hO.out.drewN _).set hI.out.1 i hi _, hN, (pw_below_drewN hW.out _).setCell (by simp; omega) _⟩
      case measure => simp [intOf]; omega
    · obtain rfl : i = 8 := by omega
      obtain ⟨z0, z1, z2, z3, z4, z5, z6, z7, z8⟩ := hO.out.all
      obtain ⟨y0, y1, y2, y3, y4, y5, y6, y7, y8⟩ := hC.out.all
      obtain ⟨x0, x1, x2, x3, x4, x5, x6, x7, x8⟩ := hC.out.fzs
      have hv : WV (.agg (aW n o)) (wval n l + wval n k) := ⟨n, o, rfl, hI.out.1, hI.out.2.1, by have := hI.out.done HK.out HS.out; unfold wval; split <;> omega⟩
      have HS := blk9_set hC.out n o
      have HW := below_set9 hW.out (g := w.heap.size + 1 + 1) (by omega) (.bool n) (.int .i64 (dg o 0)) (.int .i64 (dg o 1)) (.int .i64 (dg o 2)) (.int .i64 (dg o 3)) (.int .i64 (dg o 4)) (.int .i64 (dg o 5)) (.int .i64 (dg o 6)) (.int .i64 (dg o 7))
      obtain ⟨V, hV⟩ : ∃ V, set9 wr (w.heap.size + 1 + 1) (.bool n) (.int .i64 (dg o 0)) (.int .i64 (dg o 1)) (.int .i64 (dg o 2)) (.int .i64 (dg o 3)) (.int .i64 (dg o 4)) (.int .i64 (dg o 5)) (.int .i64 (dg o 6)) (.int .i64 (dg o 7)) = V := ⟨_, rfl⟩
      rw [hV] at HS HW
      obtain ⟨t0, t1, t2, t3, t4, t5, t6, t7, t8⟩ := HS.all
      unfold set9 at hV
      have HV := Lib.hid hV
      clear hV HS
      go_wp2
      rw [HV.out]
      exact bodyPost_ret (v := .agg (aW n o)) (by simp [results, Try.results179, go_sem, t0, t1, t2, t3, t4, t5, t6, t7, t8]) rfl ⟨_, rfl, hv, HW⟩
end Go.Proofs.Ytckdhahceelckaa.G
namespace Go.Proofs.Ytckdhahceelckaa.G
open Go.RowKit Go.Proofs.YtckdhahceelckaaW.PrintWords Go.Proofs.YtckdhahceelckaaW.PrintLast Go.Proofs.YtckdhahceelckaaW.PrintMore
attribute [local go_sem] max2_mx min2_mn max_two min_two max_three min_three max_four min_four
set_option linter.unusedVariables false
set_option linter.unusedSimpArgs false
set_option maxHeartbeats 2000000 in
theorem plus_more (n m : Bool) (l k : List Int) (hnm : (n == m) = false) (hl : l.length = 8) (hk : k.length = 8) (hd : digs l) (he : digs k) (hs : mag k ≤ mag l) (w : World) :
    Calls Try.prog 179 #[.agg (aW n l), .agg (aW m k)] w (OfPost (wval n l + wval m k) w) := by
  have HV : Hid (wval n l + wval m k = wval n l + wval m k ∧ ∀ o, mag o = mag l - mag k → wval n o = wval n l + wval m k) := by
    refine ⟨by omega, fun o ho => ?_⟩
    cases n <;> cases m <;> simp at hnm <;> (simp [wval]; omega)
  have HL := Lib.hid hl
  have HK := Lib.hid hk
  have HD := Lib.hid hd
  have HE := Lib.hid he
  have HX := Lib.hid (SubI.start l k hl hd)
  have hcmp : Hid (decide (cmpF l k < 0) = false) := by unfold cmpF; rw [if_neg (by omega)]; split <;> rfl
  have HS := Lib.hid hs
  clear hl hk hd he hs
  have HA := Lib.hid (((Wd.new w n l).alloc (.cells (aW m k) 169)).alloc (.cells (aW false zs8) 169))
  have HB := (Wd.new (w.alloc (.cells (aW n l) 169)) m k).alloc (.cells (aW false zs8) 169)
  have HC := Wd.new ((w.alloc (.cells (aW n l) 169)).alloc (.cells (aW m k) 169)) false zs8
  rw [World.size_alloc] at HB
  rw [World.size_alloc, World.size_alloc] at HC
  have HB := Lib.hid HB
  have HC := Lib.hid HC
  have HW := Lib.hid ((((Below.refl _ w).alloc (Nat.le_refl _) (.cells (aW n l) 169)).alloc (by simp) (.cells (aW m k) 169)).alloc (by simp; omega) (.cells (aW false zs8) 169))
  go_enter Try.func179, Try.ntmps179
  go_wp2_with fail
  refine (size_calls n m l k HL.out HK.out HD.out HE.out _).mono ?_
  rintro e w3 ⟨rfl, hb3⟩
  have HA3 := Lib.hid (HA.out.below hb3)
  have HB3 := Lib.hid (HB.out.below hb3)
  have HC3 := Lib.hid (HC.out.below hb3)
  have HW3 := Lib.hid (bthen HW.out hb3)
  have hz : w.heap.size + 1 + 1 + 1 ≤ w3.heap.size := by have := hb3.size; simp at this; omega
  have hc := hcmp.out
  clear HA HB HC HW hcmp hb3 hnm
  obtain ⟨p0, p1, p2, p3, p4, p5, p6, p7, p8⟩ := HA3.out.all
  obtain ⟨q0, q1, q2, q3, q4, q5, q6, q7, q8⟩ := HB3.out.all
  go_wp2
  have hA := Lib.hid (HA3.out.alloc (.cells (aW n l) 169))
  have hB := Lib.hid (HB3.out.alloc (.cells (aW n l) 169))
  have hC := Lib.hid (HC3.out.alloc (.cells (aW n l) 169))
  have hO := Lib.hid (Wd.new w3 n l)
  have hW := Lib.hid (HW3.out.alloc (by omega) (.cells (aW n l) 169))
  clear p0 p1 p2 p3 p4 p5 p6 p7 p8 q0 q1 q2 q3 q4 q5 q6 q7 q8 hc HA3 HB3 HC3 HW3
  obtain ⟨O, hO'⟩ : ∃ O, w3.heap.size = O := ⟨_, rfl⟩
  rw [hO'] at hO hz ⊢
  generalize w3.alloc (.cells (aW n l) 169) = w4 at hA hB hC hO hW ⊢
  clear hO'
  go_loopw [11, 12, 13] (fun v11 v12 v13 wr => ∃ (i : Nat) (c : Int) (o : List Int), i ≤ 8 ∧ v12 = .int .i64 i ∧ v11 = .int .i64 c ∧ 0 ≤ c ∧ c ≤ 1 ∧ Hid (Wd wr w.heap.size n l) ∧ Hid (Wd wr (w.heap.size + 1) m k) ∧ Hid (Wd wr (w.heap.size + 1 + 1) false zs8) ∧ Hid (Wd wr O n o) ∧ Hid (SubI l k i o c) ∧ Hid (Below w.heap.size w wr)) (fun _ i _ _ => 8 - (intOf i).toNat)
  case atStart => exact ⟨0, 0, l, by omega, rfl, rfl, by omega, by omega, hA, hB, hC, hO, HX, hW⟩
  case round =>
    clear HX hA hB hC hO hW
    obtain ⟨i, c, o, hi8, rfl, rfl, hc0, hc1, hA, hB, hC, hO, hI, hW⟩ := hrel
    by_cases hi : i < 8
    · have c0 := hA.out.dig i hi
      have c1 := hB.out.dig i hi
      have c2 := hO.out.dig i hi
      have f2 := hO.out.fz (1 + i)
      obtain ⟨a0, a1⟩ := dg_ok HD.out i
      obtain ⟨b0, b1⟩ := dg_ok HE.out i
      by_cases hneg : dg l i - dg k i - c < 0
      · have hN := Lib.hid (hI.out.step1 HD.out HE.out HK.out hi hneg)
        obtain ⟨x, hx⟩ : ∃ x, dg l i = x := ⟨_, rfl⟩
        obtain ⟨y, hy⟩ : ∃ y, dg k i = y := ⟨_, rfl⟩
        rw [hx] at c0 a0 a1 hN hneg
        rw [hy] at c1 b0 b1 hN hneg
        clear hx hy
        have e1 : IntKind.i64.wrap (x - y) = x - y := iw_id _ (by omega) (by omega)
        have e2 : IntKind.i64.wrap (x - y - c) = x - y - c := iw_id _ (by omega) (by omega)
        go_wp2
        go_quiet (fail)
        clear e1 e2
        obtain ⟨s, hs⟩ : ∃ s, x - y - c = s := ⟨_, rfl⟩
        have s0 : -16777216 ≤ s := by omega
        rw [hs] at hN hneg ⊢
        clear hs
        have hd : decide (s < 0) = true := by simpa using hneg
        go_wp2
        go_roundw
        case rel => exact ⟨i + 1, 1, _, by omega, by go_num, rfl, by omega, by omega, (hA.out.drewN _).far (by simp; try omega) _, (hB.out.drewN _).far (by simp; try omega) _, (hC.out.drewN _).far (by simp; try omega) _, (hO.out.drewN _).set hI.out.1 i hi _, hN, (pw_below_drewN hW.out _).setCell (by first | (simp; done) | (simp; omega) | omega) _⟩
        case measure => simp [intOf]; omega
      · have hN := Lib.hid (hI.out.step0 HD.out HE.out HK.out hi (by omega))
        obtain ⟨x, hx⟩ : ∃ x, dg l i = x := ⟨_, rfl⟩
        obtain ⟨y, hy⟩ : ∃ y, dg k i = y := ⟨_, rfl⟩
        rw [hx] at c0 a0 a1 hN hneg
        rw [hy] at c1 b0 b1 hN hneg
        clear hx hy
        have e1 : IntKind.i64.wrap (x - y) = x - y := iw_id _ (by omega) (by omega)
        have e2 : IntKind.i64.wrap (x - y - c) = x - y - c := iw_id _ (by omega) (by omega)
        go_wp2
        go_quiet (fail)
        clear e1 e2
        obtain ⟨s, hs⟩ : ∃ s, x - y - c = s := ⟨_, rfl⟩
        have s0 : s < 16777216 := by omega
        rw [hs] at hN hneg ⊢
        clear hs
        have hd : decide (s < 0) = false := by simpa using hneg
        go_wp2
        go_roundw
        case rel => exact ⟨i + 1, 0, _, by omega, by go_num, rfl, by omega, by omega, (hA.out.drewN _).far (by simp; try omega) _, (hB.out.drewN _).far (by simp; try omega) _, (hC.out.drewN _).far (by simp; try omega) _, (hO.out.drewN _).set hI.out.1 i hi _, hN, (pw_below_drewN hW.out _).setCell (by first | (simp; done) | (simp; omega) | omega) _⟩
        case measure => simp [intOf]; omega
    · obtain rfl : i = 8 := by omega
      obtain ⟨z0, z1, z2, z3, z4, z5, z6, z7, z8⟩ := hO.out.all
      obtain ⟨y0, y1, y2, y3, y4, y5, y6, y7, y8⟩ := hC.out.all
      obtain ⟨x0, x1, x2, x3, x4, x5, x6, x7, x8⟩ := hC.out.fzs
      have hv : WV (.agg (aW n o)) (wval n l + wval m k) := ⟨n, o, rfl, hI.out.1, hI.out.2.1, by rw [HV.out.2 o (hI.out.done HK.out (HS.out))]; try exact HV.out.1⟩
      have HS := blk9_set hC.out n o
      have HW := below_set9 hW.out (g := w.heap.size + 1 + 1) (by omega) (.bool n) (.int .i64 (dg o 0)) (.int .i64 (dg o 1)) (.int .i64 (dg o 2)) (.int .i64 (dg o 3)) (.int .i64 (dg o 4)) (.int .i64 (dg o 5)) (.int .i64 (dg o 6)) (.int .i64 (dg o 7))
      obtain ⟨V, hV⟩ : ∃ V, set9 wr (w.heap.size + 1 + 1) (.bool n) (.int .i64 (dg o 0)) (.int .i64 (dg o 1)) (.int .i64 (dg o 2)) (.int .i64 (dg o 3)) (.int .i64 (dg o 4)) (.int .i64 (dg o 5)) (.int .i64 (dg o 6)) (.int .i64 (dg o 7)) = V := ⟨_, rfl⟩
      rw [hV] at HS HW
      obtain ⟨t0, t1, t2, t3, t4, t5, t6, t7, t8⟩ := HS.all
      unfold set9 at hV
      have HV' := Lib.hid hV
      clear hV HS
      go_wp2
      rw [HV'.out]
      exact bodyPost_ret (v := .agg (aW n o)) (by simp [results, Try.results179, go_sem, t0, t1, t2, t3, t4, t5, t6, t7, t8]) rfl ⟨_, rfl, hv, HW⟩
set_option maxHeartbeats 2000000 in
theorem plus_less (n m : Bool) (l k : List Int) (hnm : (n == m) = false) (hl : l.length = 8) (hk : k.length = 8) (hd : digs l) (he : digs k) (hs : mag l < mag k) (w : World) :
    Calls Try.prog 179 #[.agg (aW n l), .agg (aW m k)] w (OfPost (wval n l + wval m k) w) := by
  have HV : Hid (wval m k + wval n l = wval n l + wval m k ∧ ∀ o, mag o = mag k - mag l → wval m o = wval m k + wval n l) := by
    refine ⟨by omega, fun o ho => ?_⟩
    cases n <;> cases m <;> simp at hnm <;> (simp [wval]; omega)
  have HL := Lib.hid hl
  have HK := Lib.hid hk
  have HD := Lib.hid hd
  have HE := Lib.hid he
  have HX := Lib.hid (SubI.start k l hk he)
  have hcmp : Hid (decide (cmpF l k < 0) = true) := by rw [cmpF_lt hs]; rfl
  have HS := Lib.hid hs
  clear hl hk hd he hs
  have HA := Lib.hid (((Wd.new w n l).alloc (.cells (aW m k) 169)).alloc (.cells (aW false zs8) 169))
  have HB := (Wd.new (w.alloc (.cells (aW n l) 169)) m k).alloc (.cells (aW false zs8) 169)
  have HC := Wd.new ((w.alloc (.cells (aW n l) 169)).alloc (.cells (aW m k) 169)) false zs8
  rw [World.size_alloc] at HB
  rw [World.size_alloc, World.size_alloc] at HC
  have HB := Lib.hid HB
  have HC := Lib.hid HC
  have HW := Lib.hid ((((Below.refl _ w).alloc (Nat.le_refl _) (.cells (aW n l) 169)).alloc (by simp) (.cells (aW m k) 169)).alloc (by simp; omega) (.cells (aW false zs8) 169))
  go_enter Try.func179, Try.ntmps179
  go_wp2_with fail
  refine (size_calls n m l k HL.out HK.out HD.out HE.out _).mono ?_
  rintro e w3 ⟨rfl, hb3⟩
  have HA3 := Lib.hid (HA.out.below hb3)
  have HB3 := Lib.hid (HB.out.below hb3)
  have HC3 := Lib.hid (HC.out.below hb3)
  have HW3 := Lib.hid (bthen HW.out hb3)
  have hz : w.heap.size + 1 + 1 + 1 ≤ w3.heap.size := by have := hb3.size; simp at this; omega
  have hc := hcmp.out
  clear HA HB HC HW hcmp hb3 hnm
  obtain ⟨p0, p1, p2, p3, p4, p5, p6, p7, p8⟩ := HA3.out.all
  obtain ⟨q0, q1, q2, q3, q4, q5, q6, q7, q8⟩ := HB3.out.all
  have hA := HA3.out.alloc (.cells (aW n l) 169)
  have hB := HB3.out.alloc (.cells (aW n l) 169)
  have hC := HC3.out.alloc (.cells (aW n l) 169)
  have hO := Wd.new w3 n l
  have hW := HW3.out.alloc (by omega) (.cells (aW n l) 169)
  obtain ⟨v4, hv4⟩ : ∃ v4, w3.alloc (.cells (aW n l) 169) = v4 := ⟨_, rfl⟩
  have hz4 : v4.heap.size = w3.heap.size + 1 := by rw [← hv4]; simp
  rw [hv4] at hA hB hC hO hW
  clear HA3 HB3 HC3 HW3
  have hA1 := blk9_set hA m k
  have hB1 : Wd _ _ m k := (set9_far (w := v4) (g := w.heap.size) (k := w.heap.size + 1) (by omega) (.bool m) (.int .i64 (dg k 0)) (.int .i64 (dg k 1)) (.int .i64 (dg k 2)) (.int .i64 (dg k 3)) (.int .i64 (dg k 4)) (.int .i64 (dg k 5)) (.int .i64 (dg k 6)) (.int .i64 (dg k 7))).trans hB
  have hC1 : Wd _ _ false zs8 := (set9_far (w := v4) (g := w.heap.size) (k := w.heap.size + 1 + 1) (by omega) (.bool m) (.int .i64 (dg k 0)) (.int .i64 (dg k 1)) (.int .i64 (dg k 2)) (.int .i64 (dg k 3)) (.int .i64 (dg k 4)) (.int .i64 (dg k 5)) (.int .i64 (dg k 6)) (.int .i64 (dg k 7))).trans hC
  have hO1 : Wd _ _ n l := (set9_far (w := v4) (g := w.heap.size) (k := w3.heap.size) (by omega) (.bool m) (.int .i64 (dg k 0)) (.int .i64 (dg k 1)) (.int .i64 (dg k 2)) (.int .i64 (dg k 3)) (.int .i64 (dg k 4)) (.int .i64 (dg k 5)) (.int .i64 (dg k 6)) (.int .i64 (dg k 7))).trans hO
  have hW1 := below_set9 hW (Nat.le_refl _) (.bool m) (.int .i64 (dg k 0)) (.int .i64 (dg k 1)) (.int .i64 (dg k 2)) (.int .i64 (dg k 3)) (.int .i64 (dg k 4)) (.int .i64 (dg k 5)) (.int .i64 (dg k 6)) (.int .i64 (dg k 7))
  have hz5 : (set9 v4 w.heap.size (.bool m) (.int .i64 (dg k 0)) (.int .i64 (dg k 1)) (.int .i64 (dg k 2)) (.int .i64 (dg k 3)) (.int .i64 (dg k 4)) (.int .i64 (dg k 5)) (.int .i64 (dg k 6)) (.int .i64 (dg k 7))).heap.size = w3.heap.size + 1 := by unfold set9; simp [hz4]
  obtain ⟨v5, hv5⟩ : ∃ v5, set9 v4 w.heap.size (.bool m) (.int .i64 (dg k 0)) (.int .i64 (dg k 1)) (.int .i64 (dg k 2)) (.int .i64 (dg k 3)) (.int .i64 (dg k 4)) (.int .i64 (dg k 5)) (.int .i64 (dg k 6)) (.int .i64 (dg k 7)) = v5 := ⟨_, rfl⟩
  rw [hv5] at hA1 hB1 hC1 hO1 hW1 hz5
  unfold set9 at hv5
  have hB2 := blk9_set hB1 n l
  have hA2 : Wd _ _ m k := (set9_far (w := v5) (g := w.heap.size + 1) (k := w.heap.size) (by omega) (.bool n) (.int .i64 (dg l 0)) (.int .i64 (dg l 1)) (.int .i64 (dg l 2)) (.int .i64 (dg l 3)) (.int .i64 (dg l 4)) (.int .i64 (dg l 5)) (.int .i64 (dg l 6)) (.int .i64 (dg l 7))).trans hA1
  have hC2 : Wd _ _ false zs8 := (set9_far (w := v5) (g := w.heap.size + 1) (k := w.heap.size + 1 + 1) (by omega) (.bool n) (.int .i64 (dg l 0)) (.int .i64 (dg l 1)) (.int .i64 (dg l 2)) (.int .i64 (dg l 3)) (.int .i64 (dg l 4)) (.int .i64 (dg l 5)) (.int .i64 (dg l 6)) (.int .i64 (dg l 7))).trans hC1
  have hW2 := below_set9 hW1 (g := w.heap.size + 1) (by omega) (.bool n) (.int .i64 (dg l 0)) (.int .i64 (dg l 1)) (.int .i64 (dg l 2)) (.int .i64 (dg l 3)) (.int .i64 (dg l 4)) (.int .i64 (dg l 5)) (.int .i64 (dg l 6)) (.int .i64 (dg l 7))
  have hz6 : (set9 v5 (w.heap.size + 1) (.bool n) (.int .i64 (dg l 0)) (.int .i64 (dg l 1)) (.int .i64 (dg l 2)) (.int .i64 (dg l 3)) (.int .i64 (dg l 4)) (.int .i64 (dg l 5)) (.int .i64 (dg l 6)) (.int .i64 (dg l 7))).heap.size = w3.heap.size + 1 := by unfold set9; simp [hz5]
  obtain ⟨v6, hv6⟩ : ∃ v6, set9 v5 (w.heap.size + 1) (.bool n) (.int .i64 (dg l 0)) (.int .i64 (dg l 1)) (.int .i64 (dg l 2)) (.int .i64 (dg l 3)) (.int .i64 (dg l 4)) (.int .i64 (dg l 5)) (.int .i64 (dg l 6)) (.int .i64 (dg l 7)) = v6 := ⟨_, rfl⟩
  rw [hv6] at hA2 hB2 hC2 hW2 hz6
  unfold set9 at hv6
  obtain ⟨fa0, fa1, fa2, fa3, fa4, fa5, fa6, fa7, fa8⟩ := hA.fzs
  obtain ⟨r0, r1, r2, r3, r4, r5, r6, r7, r8⟩ := hA.all
  obtain ⟨s0, s1, s2, s3, s4, s5, s6, s7, s8⟩ := hB.all
  obtain ⟨fb0, fb1, fb2, fb3, fb4, fb5, fb6, fb7, fb8⟩ := hB1.fzs
  obtain ⟨o0, o1, o2, o3, o4, o5, o6, o7, o8⟩ := hO1.all
  obtain ⟨b0, b1, b2, b3, b4, b5, b6, b7, b8⟩ := hB1.all
  obtain ⟨a0, a1, a2, a3, a4, a5, a6, a7, a8⟩ := hA2.all
  have HZ6 := Lib.hid hz6
  have HA2 := Lib.hid hA2
  have HB2 := Lib.hid hB2
  have HC2 := Lib.hid hC2
  have HW2 := Lib.hid hW2
  clear hz4 hz5 hz6 hA hB hC hO hW hA1 hB1 hC1 hO1 hW1 hA2 hB2 hC2 hW2
  go_wp2
  have hA := Lib.hid (HA2.out.alloc (.cells (aW m k) 169))
  have hB := Lib.hid (HB2.out.alloc (.cells (aW m k) 169))
  have hC := Lib.hid (HC2.out.alloc (.cells (aW m k) 169))
  have hO := Lib.hid (Wd.new v6 m k)
  have hW := Lib.hid (HW2.out.alloc (by rw [HZ6.out]; omega) (.cells (aW m k) 169))
  clear fa0 fa1 fa2 fa3 fa4 fa5 fa6 fa7 fa8 r0 r1 r2 r3 r4 r5 r6 r7 r8 s0 s1 s2 s3 s4 s5 s6 s7 s8 fb0 fb1 fb2 fb3 fb4 fb5 fb6 fb7 fb8 o0 o1 o2 o3 o4 o5 o6 o7 o8 b0 b1 b2 b3 b4 b5 b6 b7 b8 a0 a1 a2 a3 a4 a5 a6 a7 a8 p0 p1 p2 p3 p4 p5 p6 p7 p8 q0 q1 q2 q3 q4 q5 q6 q7 q8 hc hv4 hv5 hv6 HA2 HB2 HC2 HW2
  have hz : w.heap.size + 1 + 1 + 1 ≤ v6.heap.size := by rw [HZ6.out]; omega
  clear HZ6
  obtain ⟨O, hO'⟩ : ∃ O, v6.heap.size = O := ⟨_, rfl⟩
  rw [hO'] at hO hz ⊢
  generalize v6.alloc (.cells (aW m k) 169) = w4 at hA hB hC hO hW ⊢
  clear hO'
  go_loopw [11, 12, 13] (fun v11 v12 v13 wr => ∃ (i : Nat) (c : Int) (o : List Int), i ≤ 8 ∧ v12 = .int .i64 i ∧ v11 = .int .i64 c ∧ 0 ≤ c ∧ c ≤ 1 ∧ Hid (Wd wr w.heap.size m k) ∧ Hid (Wd wr (w.heap.size + 1) n l) ∧ Hid (Wd wr (w.heap.size + 1 + 1) false zs8) ∧ Hid (Wd wr O m o) ∧ Hid (SubI k l i o c) ∧ Hid (Below w.heap.size w wr)) (fun _ i _ _ => 8 - (intOf i).toNat)
  case atStart => exact ⟨0, 0, k, by omega, rfl, rfl, by omega, by omega, hA, hB, hC, hO, HX, hW⟩
  case round =>
    clear HX hA hB hC hO hW
    obtain ⟨i, c, o, hi8, rfl, rfl, hc0, hc1, hA, hB, hC, hO, hI, hW⟩ := hrel
    by_cases hi : i < 8
    · have c0 := hA.out.dig i hi
      have c1 := hB.out.dig i hi
      have c2 := hO.out.dig i hi
      have f2 := hO.out.fz (1 + i)
      obtain ⟨a0, a1⟩ := dg_ok HE.out i
      obtain ⟨b0, b1⟩ := dg_ok HD.out i
      by_cases hneg : dg k i - dg l i - c < 0
      · have hN := Lib.hid (hI.out.step1 HE.out HD.out HL.out hi hneg)
        obtain ⟨x, hx⟩ : ∃ x, dg k i = x := ⟨_, rfl⟩
        obtain ⟨y, hy⟩ : ∃ y, dg l i = y := ⟨_, rfl⟩
        rw [hx] at c0 a0 a1 hN hneg
        rw [hy] at c1 b0 b1 hN hneg
        clear hx hy
        have e1 : IntKind.i64.wrap (x - y) = x - y := iw_id _ (by omega) (by omega)
        have e2 : IntKind.i64.wrap (x - y - c) = x - y - c := iw_id _ (by omega) (by omega)
        go_wp2
        go_quiet (fail)
        clear e1 e2
        obtain ⟨s, hs⟩ : ∃ s, x - y - c = s := ⟨_, rfl⟩
        have s0 : -16777216 ≤ s := by omega
        rw [hs] at hN hneg ⊢
        clear hs
        have hd : decide (s < 0) = true := by simpa using hneg
        go_wp2
        go_roundw
        case rel => exact ⟨i + 1, 1, _, by omega, by go_num, rfl, by omega, by omega, (hA.out.drewN _).far (by simp; try omega) _, (hB.out.drewN _).far (by simp; try omega) _, (hC.out.drewN _).far (by simp; try omega) _, (hO.out.drewN _).set hI.out.1 i hi _, hN, (pw_below_drewN hW.out _).setCell (by first | (simp; done) | (simp; omega) | omega) _⟩
        case measure => simp [intOf]; omega
      · have hN := Lib.hid (hI.out.step0 HE.out HD.out HL.out hi (by omega))
        obtain ⟨x, hx⟩ : ∃ x, dg k i = x := ⟨_, rfl⟩
        obtain ⟨y, hy⟩ : ∃ y, dg l i = y := ⟨_, rfl⟩
        rw [hx] at c0 a0 a1 hN hneg
        rw [hy] at c1 b0 b1 hN hneg
        clear hx hy
        have e1 : IntKind.i64.wrap (x - y) = x - y := iw_id _ (by omega) (by omega)
        have e2 : IntKind.i64.wrap (x - y - c) = x - y - c := iw_id _ (by omega) (by omega)
        go_wp2
        go_quiet (fail)
        clear e1 e2
        obtain ⟨s, hs⟩ : ∃ s, x - y - c = s := ⟨_, rfl⟩
        have s0 : s < 16777216 := by omega
        rw [hs] at hN hneg ⊢
        clear hs
        have hd : decide (s < 0) = false := by simpa using hneg
        go_wp2
        go_roundw
        case rel => exact ⟨i + 1, 0, _, by omega, by go_num, rfl, by omega, by omega, (hA.out.drewN _).far (by simp; try omega) _, (hB.out.drewN _).far (by simp; try omega) _, (hC.out.drewN _).far (by simp; try omega) _, (hO.out.drewN _).set hI.out.1 i hi _, hN, (pw_below_drewN hW.out _).setCell (by first | (simp; done) | (simp; omega) | omega) _⟩
        case measure => simp [intOf]; omega
    · obtain rfl : i = 8 := by omega
      obtain ⟨z0, z1, z2, z3, z4, z5, z6, z7, z8⟩ := hO.out.all
      obtain ⟨y0, y1, y2, y3, y4, y5, y6, y7, y8⟩ := hC.out.all
      obtain ⟨x0, x1, x2, x3, x4, x5, x6, x7, x8⟩ := hC.out.fzs
      have hv : WV (.agg (aW m o)) (wval n l + wval m k) := ⟨m, o, rfl, hI.out.1, hI.out.2.1, by rw [HV.out.2 o (hI.out.done HL.out (Int.le_of_lt HS.out))]; try exact HV.out.1⟩
      have HS := blk9_set hC.out m o
      have HW := below_set9 hW.out (g := w.heap.size + 1 + 1) (by omega) (.bool m) (.int .i64 (dg o 0)) (.int .i64 (dg o 1)) (.int .i64 (dg o 2)) (.int .i64 (dg o 3)) (.int .i64 (dg o 4)) (.int .i64 (dg o 5)) (.int .i64 (dg o 6)) (.int .i64 (dg o 7))
      obtain ⟨V, hV⟩ : ∃ V, set9 wr (w.heap.size + 1 + 1) (.bool m) (.int .i64 (dg o 0)) (.int .i64 (dg o 1)) (.int .i64 (dg o 2)) (.int .i64 (dg o 3)) (.int .i64 (dg o 4)) (.int .i64 (dg o 5)) (.int .i64 (dg o 6)) (.int .i64 (dg o 7)) = V := ⟨_, rfl⟩
      rw [hV] at HS HW
      obtain ⟨t0, t1, t2, t3, t4, t5, t6, t7, t8⟩ := HS.all
      unfold set9 at hV
      have HV' := Lib.hid hV
      clear hV HS
      go_wp2
      rw [HV'.out]
      exact bodyPost_ret (v := .agg (aW m o)) (by simp [results, Try.results179, go_sem, t0, t1, t2, t3, t4, t5, t6, t7, t8]) rfl ⟨_, rfl, hv, HW⟩
theorem plus_calls (n m : Bool) (l k : List Int) (hl : l.length = 8) (hk : k.length = 8) (hd : digs l) (he : digs k) (hs : mag l + mag k < 16777216 ^ 8) (w : World) :
    Calls Try.prog 179 #[.agg (aW n l), .agg (aW m k)] w (OfPost (wval n l + wval m k) w) := by
  by_cases hnm : n = m
  · subst hnm; exact plus_same n l k hl hk hd he hs w
  · have h : (n == m) = false := by simpa using hnm
    by_cases hc : mag l < mag k
    · exact plus_less n m l k h hl hk hd he hc w
    · exact plus_more n m l k h hl hk hd he (by omega) w
end Go.Proofs.Ytckdhahceelckaa.G
namespace Go.Proofs.Ytckdhahceelckaa.G
open Go.RowKit Go.Proofs.YtckdhahceelckaaW.PrintWords Go.Proofs.YtckdhahceelckaaW.PrintLast Go.Proofs.YtckdhahceelckaaW.PrintMore
attribute [local go_sem] max2_mx min2_mn max_two min_two max_three min_three max_four min_four
set_option linter.unusedVariables false
set_option linter.unusedSimpArgs false
theorem wval_mul (n m : Bool) (l k o : List Int) (h : mag o = mag l * mag k) : wval (!(n == m)) o = wval n l * wval m k := by
  cases n <;> cases m <;> simp [wval, h, Int.neg_mul, Int.mul_neg]
set_option maxHeartbeats 4000000 in
theorem times_calls (n m : Bool) (l k : List Int) (hl : l.length = 8) (hk : k.length = 8) (hd : digs l) (he : digs k) (hs : mag l * mag k < 16777216 ^ 8) (w : World) :
    Calls Try.prog 151 #[.agg (aW n l), .agg (aW m k)] w (OfPost (wval n l * wval m k) w) := by
  have HL := Lib.hid hl
  have HK := Lib.hid hk
  have HD := Lib.hid hd
  have HE := Lib.hid he
  have HS := Lib.hid hs
  clear hl hk hd he hs
  have HA := Lib.hid ((((Wd.new w n l).alloc (.cells (aW m k) 169)).alloc (.cells (aW false zs8) 169)).alloc (.cells (aW false zs8) 169))
  have HB := ((Wd.new (w.alloc (.cells (aW n l) 169)) m k).alloc (.cells (aW false zs8) 169)).alloc (.cells (aW false zs8) 169)
  have HC := (Wd.new ((w.alloc (.cells (aW n l) 169)).alloc (.cells (aW m k) 169)) false zs8).alloc (.cells (aW false zs8) 169)
  have HO := Wd.new (((w.alloc (.cells (aW n l) 169)).alloc (.cells (aW m k) 169)).alloc (.cells (aW false zs8) 169)) false zs8
  simp only [World.size_alloc] at HB HC HO
  have HB := Lib.hid HB
  have HC := Lib.hid HC
  have HO := Lib.hid HO
  have HW := Lib.hid (((((Below.refl _ w).alloc (Nat.le_refl _) (.cells (aW n l) 169)).alloc (by simp) (.cells (aW m k) 169)).alloc (by simp; omega) (.cells (aW false zs8) 169)).alloc (by simp; omega) (.cells (aW false zs8) 169))
  go_enter Try.func151, Try.ntmps151
  go_wp2
  go_loopw [6, 7, 8, 9] (fun v6 v7 v8 v9 wr => ∃ (i : Nat) (o : List Int), i ≤ 8 ∧ v6 = .int .i64 i ∧ Hid (Wd wr w.heap.size n l) ∧ Hid (Wd wr (w.heap.size + 1) m k) ∧ Hid (Wd wr (w.heap.size + 1 + 1) false zs8) ∧ Hid (Wd wr (w.heap.size + 1 + 1 + 1) false o) ∧ Hid (MulO l k i o) ∧ Hid (Below w.heap.size w wr)) (fun i _ _ _ _ => 8 - (intOf i).toNat)
  case atStart => exact ⟨0, zs8, by omega, rfl, HA, HB, HC, HO, Lib.hid (MulO.start l k), HW⟩
  case round =>
    clear HA HB HC HO HW
    obtain ⟨i, o, hi8, rfl, hA, hB, hC, hO, hI, hW⟩ := hrel
    obtain ⟨wo, rfl⟩ : ∃ wo : World, wo = wr := ⟨_, rfl⟩
    by_cases hi : i < 8
    · have c0 := hA.out.dig i hi
      obtain ⟨a0, a1⟩ := dg_ok HD.out i
      by_cases h0 : dg l i = 0
      · have hN := Lib.hid (hI.out.skip HL.out hi h0)
        rw [h0] at c0
        clear h0 a0 a1
        go_wp2
        go_roundw
        case rel => exact ⟨i + 1, o, by omega, by go_num, hA, hB, hC, hO, hN, hW⟩
        case measure => simp [intOf]; omega
      · obtain ⟨x, hx⟩ : ∃ x, dg l i = x := ⟨_, rfl⟩
        rw [hx] at c0 a0 a1 h0
        have HX := Lib.hid hx
        have t0 : (x == 0) = false := by simpa using h0
        clear hx h0
        go_wp2
        go_loopw [7, 8, 9] (fun v7 v8 v9 wr => ∃ (j : Nat) (c : Int) (o' : List Int), i + j ≤ 8 ∧ v8 = .int .i64 j ∧ v7 = .int .i64 c ∧ 0 ≤ c ∧ c < 16777216 ∧ Hid (Wd wr w.heap.size n l) ∧ Hid (Wd wr (w.heap.size + 1) m k) ∧ Hid (Wd wr (w.heap.size + 1 + 1) false zs8) ∧ Hid (Wd wr (w.heap.size + 1 + 1 + 1) false o') ∧ Hid (MulI (mag o) x k i j o' c) ∧ Hid (Below w.heap.size w wr)) (fun _ j _ _ => 8 - (intOf j).toNat)
        case atStart => exact ⟨0, 0, o, by omega, rfl, rfl, by omega, by omega, hA, hB, hC, hO, Lib.hid (MulI.start x k i hI.out.1 hI.out.2.1), hW⟩
        case round =>
          clear hA hB hC hO hW t0 c0
          obtain ⟨j, c, o', hj8, rfl, rfl, k0, k1, hA, hB, hC, hO, hJ, hW⟩ := hrel
          by_cases hj : i + j < 8
          · have c0 := hA.out.dig i hi
            rw [HX.out] at c0
            have c1 := hB.out.dig j (by omega)
            have c2 := hO.out.dig (i + j) hj
            have f2 := hO.out.fz (1 + (i + j))
            obtain ⟨b0, b1⟩ := dg_ok HE.out j
            obtain ⟨d0, d1⟩ := dg_ok hJ.out.2.1 (i + j)
            have hm := mul_dig _ _ _ _ d0 d1 a0 a1 b0 b1 k0 k1
            have hN := Lib.hid (hJ.out.step a0 a1 HE.out HK.out hj)
            obtain ⟨y, hy⟩ : ∃ y, dg k j = y := ⟨_, rfl⟩
            obtain ⟨z, hz⟩ : ∃ z, dg o' (i + j) = z := ⟨_, rfl⟩
            rw [hy] at c1 b0 b1 hN hm
            rw [hz] at c2 d0 d1 hN
            clear hy hz
            obtain ⟨m0, m1⟩ := hm
            have n1 : (i : Int) + (j : Int) < 8 := by omega
            have n0 : 0 ≤ (i : Int) + (j : Int) := by omega
            have e0 : IntKind.i64.wrap ((i : Int) + (j : Int)) = (i : Int) + (j : Int) := iw_id _ (by omega) (by omega)
            have e1 : IntKind.i64.wrap (x * y) = x * y := iw_id _ (by omega) (by omega)
            have e2 : IntKind.i64.wrap (z + x * y) = z + x * y := iw_id _ (by omega) (by omega)
            have e3 : IntKind.i64.wrap (z + x * y + c) = z + x * y + c := iw_id _ (by omega) (by omega)
            have e4 : ((i : Int) + (j : Int)).toNat = i + j := by omega
            go_wp2
            go_quiet (fail)
            clear e1 e2 e3
            obtain ⟨s, hs⟩ : ∃ s, z + x * y + c = s := ⟨_, rfl⟩
            have s0 : 0 ≤ s := by omega
            have s1 : s ≤ 281474976710655 := by omega
            rw [hs] at hN ⊢
            clear hs m0 m1
            go_wp2
            go_roundw
            case rel => exact ⟨j + 1, s / 16777216, _, by omega, by go_num, rfl, by omega, by omega, (hA.out.drewN _).far (by simp; try omega) _, (hB.out.drewN _).far (by simp; try omega) _, (hC.out.drewN _).far (by simp; try omega) _, (hO.out.drewN _).set hJ.out.1 (i + j) hj _, hN, (pw_below_drewN hW.out _).setCell (by first | (simp; done) | (simp; omega) | omega) _⟩
            case measure => simp [intOf]; omega
          · obtain rfl : j = 8 - i := by omega
            have e0 : IntKind.i64.wrap ((i : Int) + ((8 - i : Nat) : Int)) = 8 := by rw [show (i : Int) + ((8 - i : Nat) : Int) = 8 by omega]; decide
            have hJ' := hJ.out
            rw [← HX.out] at hJ'
            have hN := Lib.hid (hI.out.step hi hJ' HD.out HE.out HL.out HK.out HS.out)
            clear hJ'
            go_wp2
            go_roundw
            case rel => exact ⟨i + 1, o', by omega, by go_num, hA, hB, hC, hO, hN, hW⟩
            case measure => simp [intOf]; omega
    · obtain rfl : i = 8 := by omega
      have hz := hI.out.2.2
      rw [List.take_of_length_le (by rw [HL.out]; decide)] at hz
      have hv : WV (.agg (aW (!(n == m)) o)) (wval n l * wval m k) := ⟨_, o, rfl, hI.out.1, hI.out.2.1, wval_mul n m l k o hz⟩
      clear hz
      have y0 := hA.out.neg
      have y1 := hB.out.neg
      have y2 := hO.out.neg
      have y3 := hO.out.fz 0
      have hO1 := hO.out.setn (!(n == m))
      have hC1 := hC.out.far (p := ⟨w.heap.size + 1 + 1 + 1, 0, none⟩) (by simp) (.bool (!(n == m)))
      have hW1 := hW.out.setCell (p := ⟨w.heap.size + 1 + 1 + 1, 0, none⟩) (by simp; omega) (.bool (!(n == m)))
      obtain ⟨v1, hv1⟩ : ∃ v1, wo.setCell ⟨w.heap.size + 1 + 1 + 1, 0, none⟩ (.bool (!(n == m))) = v1 := ⟨_, rfl⟩
      rw [hv1] at hO1 hC1 hW1
      obtain ⟨z0, z1, z2, z3, z4, z5, z6, z7, z8⟩ := hO1.all
      obtain ⟨x1, x2, x3, x4, x5, x6, x7, x8, x9⟩ := hC1.all
      obtain ⟨f0, f1, f2, f3, f4, f5, f6, f7, f8⟩ := hC1.fzs
      have HS := blk9_set hC1 (!(n == m)) o
      have HW := below_set9 hW1 (g := w.heap.size + 1 + 1) (by omega) (.bool (!(n == m))) (.int .i64 (dg o 0)) (.int .i64 (dg o 1)) (.int .i64 (dg o 2)) (.int .i64 (dg o 3)) (.int .i64 (dg o 4)) (.int .i64 (dg o 5)) (.int .i64 (dg o 6)) (.int .i64 (dg o 7))
      obtain ⟨V, hV⟩ : ∃ V, set9 v1 (w.heap.size + 1 + 1) (.bool (!(n == m))) (.int .i64 (dg o 0)) (.int .i64 (dg o 1)) (.int .i64 (dg o 2)) (.int .i64 (dg o 3)) (.int .i64 (dg o 4)) (.int .i64 (dg o 5)) (.int .i64 (dg o 6)) (.int .i64 (dg o 7)) = V := ⟨_, rfl⟩
      rw [hV] at HS HW
      obtain ⟨t0, t1, t2, t3, t4, t5, t6, t7, t8⟩ := HS.all
      unfold set9 at hV
      have HV := Lib.hid hV
      have HW := Lib.hid HW
      have hv := Lib.hid hv
      clear hV HS hO1 hC1 hW1
      go_wp2
      rw [HV.out]
      exact bodyPost_ret (v := .agg (aW (!(n == m)) o)) (by simp [results, Try.results151, go_sem, t0, t1, t2, t3, t4, t5, t6, t7, t8]) rfl ⟨_, rfl, hv.out, HW.out⟩
end Go.Proofs.Ytckdhahceelckaa.G
namespace Go.Proofs.Ytckdhahceelckaa.G
open Go.RowKit Go.Proofs.YtckdhahceelckaaW.PrintWords Go.Proofs.YtckdhahceelckaaW.PrintLast Go.Proofs.YtckdhahceelckaaW.PrintMore
attribute [local go_sem] max2_mx min2_mn max_two min_two max_three min_three max_four min_four
set_option linter.unusedVariables false
set_option linter.unusedSimpArgs false
def signF (x : Int) : Int := if x < 0 then -1 else if 0 < x then 1 else 0
theorem zs8_ok : zs8.length = 8 ∧ digs zs8 ∧ mag zs8 = 0 := ⟨rfl, by unfold zs8 digs; decide, by decide⟩
set_option maxHeartbeats 1000000 in
theorem sign_calls (n : Bool) (l : List Int) (hl : l.length = 8) (hd : digs l) (w : World) :
    Calls Try.prog 180 #[.agg (aW n l)] w fun e w' => e = .returned (.int .i64 (signF (wval n l))) ∧ Below w.heap.size w w' := by
  have hm := mag_nonneg l hd
  have HS := Lib.hid (size_calls n false l zs8 hl rfl hd zs8_ok.2.1)
  have HA := (Wd.new w n l).alloc (.cells (aW false zs8) 169)
  have HB := Wd.new (w.alloc (.cells (aW n l) 169)) false zs8
  rw [World.size_alloc] at HB
  have HW := Lib.hid (((Below.refl _ w).alloc (Nat.le_refl _) (.cells (aW n l) 169)).alloc (by simp) (.cells (aW false zs8) 169))
  have HA' := Lib.hid HA
  clear HA HB hl hd
  rcases Int.lt_trichotomy (mag l) 0 with h | h | h
  · omega
  · have hc : cmpF l zs8 = 0 := by unfold cmpF; rw [zs8_ok.2.2, if_neg (by omega), if_neg (by omega)]
    have hg : Hid (signF (wval n l) = 0) := by unfold signF wval; rw [h]; cases n <;> rfl
    rw [hc] at HS
    clear hc hm h
    go_enter Try.func180, Try.ntmps180
    go_wp2_with fail
    refine (HS.out _).mono ?_
    rintro e w3 ⟨rfl, hb3⟩
    have H3 := Lib.hid (bthen HW.out hb3)
    clear hb3
    go_wp2
    go_ret
    exact ⟨by rw [hg.out]; rfl, H3.out⟩
  · have hc : cmpF l zs8 = 1 := by unfold cmpF; rw [zs8_ok.2.2, if_neg (by omega), if_pos h]
    have hg : Hid (signF (wval n l) = if n then -1 else 1) := by
      unfold signF wval
      cases n
      · simp only [Bool.false_eq_true, if_false]; rw [if_neg (by omega), if_pos h]; rfl
      · simp only [if_true]; rw [if_pos (by omega)]; rfl
    rw [hc] at HS
    clear hc hm h
    go_enter Try.func180, Try.ntmps180
    go_wp2_with fail
    refine (HS.out _).mono ?_
    rintro e w3 ⟨rfl, hb3⟩
    have H3 := Lib.hid (bthen HW.out hb3)
    have c0 := (HA'.out.below hb3).neg
    clear hb3
    cases n
    · go_wp2
      go_ret
      exact ⟨by rw [hg.out]; rfl, H3.out⟩
    · go_wp2
      go_ret
      exact ⟨by rw [hg.out]; rfl, H3.out⟩
theorem wval_not (m : Bool) (k : List Int) : wval (!m) k = -wval m k := by cases m <;> simp [wval]
theorem wval_add (n m : Bool) (l k o : List Int) : wval n l + wval (!m) k = wval n l - wval m k := by rw [wval_not]; omega
set_option maxHeartbeats 1000000 in
theorem less_calls (n m : Bool) (l k : List Int) (hl : l.length = 8) (hk : k.length = 8) (hd : digs l) (he : digs k) (hs : mag l + mag k < 16777216 ^ 8) (b : Bool) (hb : decide (wval n l < wval m k) = b) (w : World) :
    Calls Try.prog 178 #[.agg (aW n l), .agg (aW m k)] w fun e w' => e = .returned (.bool b) ∧ Below w.heap.size w w' := by
  have HP := Lib.hid (plus_calls n (!m) l k hl hk hd he hs)
  have HW := Lib.hid (((Below.refl _ w).alloc (Nat.le_refl _) (.cells (aW n l) 169)).alloc (by simp) (.cells (aW (!m) k) 169))
  have Hb := Lib.hid hb
  have HE := Lib.hid (wval_add n m l k k)
  clear hl hk hd he hs hb
  go_enter Try.func178, Try.ntmps178
  go_wp2_with fail
  refine (HP.out _).mono ?_
  rintro e w3 ⟨v, rfl, ⟨p, o, rfl, ho, hd, hv⟩, hb3⟩
  have H3 := Lib.hid (bthen HW.out hb3)
  have HS := Lib.hid (sign_calls p o ho hd)
  have hq : Hid (decide (signF (wval p o) < 0) = b) := by
    rw [hv, HE.out, ← Hb.out]
    apply Lib.hid
    rw [Bool.eq_iff_iff]
    simp only [decide_eq_true_eq]
    unfold signF
    repeat' split
    all_goals omega
  clear hb3 ho hd hv
  go_wp2_with fail
  refine (HS.out _).mono ?_
  rintro e w4 ⟨rfl, hb4⟩
  have H4 := Lib.hid (bthen H3.out hb4)
  have hq' := hq.out
  clear hb4
  go_wp2
  go_ret
  exact ⟨by rw [← hq']; rfl, H4.out⟩
end Go.Proofs.Ytckdhahceelckaa.G
namespace Go.Proofs.Ytckdhahceelckaa.G
open Go.RowKit Go.Proofs.YtckdhahceelckaaW.PrintWords Go.Proofs.YtckdhahceelckaaW.PrintLast Go.Proofs.YtckdhahceelckaaW.PrintMore
attribute [local go_sem] max2_mx min2_mn max_two min_two max_three min_three max_four min_four
set_option linter.unusedVariables false
set_option linter.unusedSimpArgs false
/-- the state ahead of digit z -/
def DnI (l : List Int) (c z q r : Int) : Prop := 0 ≤ q ∧ 0 ≤ r ∧ r < c ∧ q * c + r = mag (l.drop (z + 1).toNat)
theorem DnI.start (l : List Int) (c : Int) (hl : l.length = 8) (hc : 0 < c) : DnI l c 7 0 0 := ⟨by omega, by omega, hc, by rw [List.drop_of_length_le (by omega)]; simp [mag]⟩
theorem DnI.skip {l : List Int} {c : Int} {i : Nat} (h : DnI l c i 0 0) (hl : l.length = 8) (hi : i < 8) (h0 : dg l i = 0) : DnI l c ((i : Int) - 1) 0 0 := by
  obtain ⟨h1, h2, h3, h4⟩ := h
  refine ⟨h1, h2, h3, ?_⟩
  rw [show ((i : Int) - 1 + 1).toNat = i by omega, mag_drop l i (by omega), h0]
  rw [show ((i : Int) + 1).toNat = i + 1 by omega] at h4
  rw [← h4]; simp
theorem DnI.inn {l : List Int} {c q r : Int} {i : Nat} (h : DnI l c i q r) (hd : digs l) : DivI (mag (l.drop (i + 1))) (dg l i) c 0 q r := by
  obtain ⟨h1, h2, h3, h4⟩ := h
  rw [show ((i : Int) + 1).toNat = i + 1 by omega] at h4
  exact DivI.start h1 h2 h3 h4 (dg_ok hd i).1 (dg_ok hd i).2
theorem DnI.out {l : List Int} {c q r : Int} {i : Nat} (h : DivI (mag (l.drop (i + 1))) (dg l i) c 24 q r) (hl : l.length = 8) (hi : i < 8) : DnI l c ((i : Int) - 1) q r := by
  obtain ⟨h1, h2, h3, h4⟩ := h.done
  refine ⟨h1, h2, h3, ?_⟩
  rw [show ((i : Int) - 1 + 1).toNat = i by omega, mag_drop l i (by omega), h4]
theorem DnI.q_le {l : List Int} {c q r : Int} {i j : Nat} (h : DivI (mag (l.drop (i + 1))) (dg l i) c j q r) (hj : j < 24) (hl : l.length = 8) (hd : digs l) (hi : i < 8) (hM : mag l ≤ 4611686018427387902 * c) : q ≤ 2305843009213693951 := by
  have h1 := mag_split l i (by omega)
  rw [mag_drop l i (by omega)] at h1
  have h2 := mag_nonneg _ (digs_take hd i)
  have h3 := mag_nonneg _ (digs_drop hd (i + 1))
  have h4 := dg_ok hd i
  have h5 : 1 * (dg l i + 16777216 * mag (l.drop (i + 1))) ≤ 16777216 ^ i * (dg l i + 16777216 * mag (l.drop (i + 1))) := Int.mul_le_mul_of_nonneg_right (by have := pw_pos i; omega) (by omega)
  obtain ⟨a1, a2, a3, a4⟩ := id h
  have := h.small (S := 4611686018427387902) hj h3 h4.1 (M := mag l) (by omega) (by omega)
  omega
theorem DnI.fin {l : List Int} {c q r : Int} (h : DnI l c (-1) q r) (hM : mag l ≤ 4611686018427387902 * c) : 0 ≤ q ∧ q ≤ 4611686018427387902 ∧ 0 ≤ r ∧ (0 < r → wval true l / c = -(q + 1)) ∧ (r ≤ 0 → wval true l / c = -q) ∧ wval false l / c = q := by
  obtain ⟨h1, h2, h3, h4⟩ := h
  rw [show ((-1 : Int) + 1).toNat = 0 by decide, List.drop_zero] at h4
  have hc : 0 < c := by omega
  obtain ⟨e1, e2⟩ := divEnd h1 h2 h3 h4
  have f := floor_neg (mag l) c hc
  rw [← e1, ← e2] at f
  have k : q * c ≤ 4611686018427387902 * c := by omega
  have k2 := Int.le_of_mul_le_mul_right k hc
  refine ⟨h1, k2, h2, fun hr => ?_, fun hr => ?_, e1.symm⟩
  · show (-mag l) / c = _
    rw [f, if_pos hr]
  · show (-mag l) / c = _
    rw [f, if_neg (by omega)]
set_option maxHeartbeats 4000000 in
theorem down_calls (n : Bool) (l : List Int) (c : Int) (hl : l.length = 8) (hd : digs l) (hc0 : 0 < c) (hc1 : c ≤ 4611686018427387903) (hM : mag l ≤ 4611686018427387902 * c) (w : World) :
    Calls Try.prog 150 #[.agg (aW n l), .int .i64 c] w fun e w' => e = .returned (.tuple #[.int .i64 (wval n l / c), .bool true]) ∧ Below w.heap.size w w' := by
  have HL := Lib.hid hl
  have HD := Lib.hid hd
  have HM := Lib.hid hM
  have HX := Lib.hid (DnI.start l c hl hc0)
  clear hl hd hM
  have HA := Lib.hid (Wd.new w n l)
  have HW := Lib.hid ((Below.refl _ w).alloc (Nat.le_refl _) (.cells (aW n l) 169))
  have hcn : decide (c < 0) = false := by simp; omega
  go_enter Try.func150, Try.ntmps150
  go_wp2
  clear hcn
  go_loopw [7, 8, 9, 10] (fun v7 v8 v9 v10 wr => ∃ z q r : Int, v9 = .int .i64 z ∧ v7 = .int .i64 q ∧ v8 = .int .i64 r ∧ -1 ≤ z ∧ z ≤ 7 ∧ Hid (DnI l c z q r) ∧ Hid (Wd wr w.heap.size n l) ∧ Hid (Below w.heap.size w wr)) (fun _ _ i _ _ => (intOf i + 1).toNat)
  case atStart => exact ⟨7, 0, 0, rfl, rfl, rfl, by omega, by omega, HX, HA, HW⟩
  case round =>
    clear HX HA HW
    obtain ⟨z, q, r, rfl, rfl, rfl, hz1, hz2, hI, hA, hW⟩ := hrel
    obtain ⟨wo, rfl⟩ : ∃ wo : World, wo = wr := ⟨_, rfl⟩
    by_cases hz : z < 0
    · obtain rfl : z = -1 := by omega
      obtain ⟨q0, q1, r0, v1, v2, v3⟩ := hI.out.fin HM.out
      clear hz1 hz2 hz
      cases n
      · have hd1 : decide ((4611686018427387903 : Int) < q) = false := by simp; omega
        have V := Lib.hid v3
        clear v1 v2 v3
        go_wp2
        go_ret2
        exact ⟨by rw [V.out]; rfl, hW.out⟩
      · by_cases hr : 0 < r
        · have hd1 : decide ((4611686018427387903 : Int) < q + 1) = false := by simp; omega
          have V := Lib.hid (v1 hr)
          have hr1 : decide (0 < r) = true := by simpa using hr
          clear v1 v2 v3 hr
          go_wp2
          go_ret2
          exact ⟨by rw [V.out]; rfl, hW.out⟩
        · have hd1 : decide ((4611686018427387903 : Int) < q) = false := by simp; omega
          have V := Lib.hid (v2 (by omega))
          have hr1 : decide (0 < r) = false := by simpa using hr
          clear v1 v2 v3 hr
          go_wp2
          go_ret2
          exact ⟨by rw [V.out]; rfl, hW.out⟩
    · obtain ⟨i, rfl⟩ : ∃ i : Nat, z = i := ⟨z.toNat, by omega⟩
      have hi : i < 8 := by omega
      have c0 := hA.out.dig i hi
      obtain ⟨a0, a1⟩ := dg_ok HD.out i
      obtain ⟨q0, r0, r1, _⟩ := id hI.out
      by_cases hskip : dg l i = 0 ∧ q = 0 ∧ r = 0
      · obtain ⟨h0, rfl, rfl⟩ := hskip
        have hN := Lib.hid (hI.out.skip HL.out hi h0)
        rw [h0] at c0
        clear h0 a0 a1 q0 r0 r1 hz
        go_wp2
        go_roundw
        case rel => exact ⟨_, 0, 0, rfl, rfl, rfl, by omega, by omega, hN, hA, hW⟩
        case measure => simp [intOf]
      · obtain ⟨d, hd⟩ : ∃ d, dg l i = d := ⟨_, rfl⟩
        have hN := Lib.hid (hI.out.inn HD.out)
        have HQ := Lib.hid (fun (j : Nat) (q r : Int) (h : DivI (mag (l.drop (i + 1))) (dg l i) c j q r) (hj : j < 24) => DnI.q_le h hj HL.out HD.out hi HM.out)
        have HO := Lib.hid (fun (q r : Int) (h : DivI (mag (l.drop (i + 1))) (dg l i) c 24 q r) => DnI.out h HL.out hi)
        rw [hd] at c0 a0 a1 hskip hN HQ HO
        have HDD := Lib.hid hd
        clear hd hz
        have hcase : ((d == 0) = false) ∨ ((d == 0) = true ∧ (q == 0) = false) ∨ ((d == 0) = true ∧ (q == 0) = true ∧ (r == 0) = false) := by
          by_cases x : d = 0
          · by_cases y : q = 0
            · right; right; simp [x, y] at hskip ⊢; exact hskip
            · right; left; simp [x, y]
          · left; simp [x]
        clear hskip
        generalize mag (l.drop (i + 1)) = D at hN HQ HO
        rcases hcase with t1 | ⟨t1, t2⟩ | ⟨t1, t2, t3⟩
        all_goals
          go_wp2
          go_loopw [7, 8, 10] (fun v7 v8 v10 wr => ∃ (j : Nat) (q r : Int), j ≤ 24 ∧ v10 = .int .i64 (bitOf 24 j) ∧ v7 = .int .i64 q ∧ v8 = .int .i64 r ∧ Hid (DivI D d c j q r) ∧ Hid (Wd wr w.heap.size n l) ∧ Hid (Below w.heap.size w wr)) (fun _ _ b _ => (intOf b).toNat)
          case atStart => exact ⟨0, q, r, by omega, rfl, rfl, rfl, hN, hA, hW⟩
          case round =>
            clear hN hA hW q0 r0 r1 c0
            (try clear t1)
            (try clear t2)
            (try clear t3)
            obtain ⟨j, q, r, hj24, rfl, rfl, rfl, hJ, hA, hW⟩ := hrel
            obtain ⟨q0, r0, r1, _⟩ := id hJ.out
            by_cases hj : j < 24
            · have q1 := HQ.out j q r hJ.out hj
              have b0 := bitOf_pos 24 j hj
              have b1 := (bitOf_le 24 j).1
              have HB := Lib.hid (bitOf_half 24 j hj)
              have m0 := Int.emod_nonneg (d / bitOf 24 j) (show (2 : Int) ≠ 0 by decide)
              have m1 := Int.emod_lt_of_pos (d / bitOf 24 j) (show (0 : Int) < 2 by decide)
              have HS0 := Lib.hid (fun h => hJ.out.step0 hj h)
              have HS1 := Lib.hid (fun h => hJ.out.step1 hj h)
              have c0 := hA.out.dig i hi
              rw [HDD.out] at c0
              have bb : (2 : Int) ^ (24 - 1) = 8388608 := by decide
              rw [bb] at b1
              obtain ⟨B, hB⟩ : ∃ B, bitOf 24 j = B := ⟨_, rfl⟩
              rw [hB] at b0 b1 m0 m1 HS0 HS1 HB ⊢
              have e0 : (B == 0) = false := by simp; omega
              have x0 : 0 ≤ d / B := Int.ediv_nonneg a0 (by omega)
              have x1 : d / B ≤ d := Int.ediv_le_self _ a0
              have e1 : IntKind.i64.wrap (d.tdiv B) = d / B := by rw [Int.tdiv_eq_ediv_of_nonneg a0]; exact iw_id _ (by omega) (by omega)
              clear bb hB
              have hd2 : decide ((2305843009213693951 : Int) < q) = false := by simp; omega
              obtain ⟨X, hX⟩ : ∃ X, d / B = X := ⟨_, rfl⟩
              rw [hX] at m0 m1 HS0 HS1 x0 x1 e1
              clear hX
              have hb : X % 2 = 0 ∨ X % 2 = 1 := by omega
              rcases hb with hb | hb
              · have e2 : (X % 2 == 1) = false := by rw [hb]; rfl
                rw [hb, Int.add_zero] at HS0 HS1
                clear hb m0 m1
                by_cases hc : c ≤ 2 * r
                · have hN := Lib.hid (HS1.out hc)
                  have hd3 : decide (c ≤ 2 * r) = true := by simpa using hc
                  go_wp2
                  go_roundw
                  case rel => exact ⟨j + 1, _, _, by omega, by rw [← HB.out], rfl, rfl, hN, hA, hW⟩
                  case measure => simp [intOf]; omega
                · have hN := Lib.hid (HS0.out (by omega))
                  have hd3 : decide (c ≤ 2 * r) = false := by simpa using hc
                  go_wp2
                  go_roundw
                  case rel => exact ⟨j + 1, _, _, by omega, by rw [← HB.out], rfl, rfl, hN, hA, hW⟩
                  case measure => simp [intOf]; omega
              · have e2 : (X % 2 == 1) = true := by rw [hb]; rfl
                rw [hb] at HS0 HS1
                clear hb m0 m1
                by_cases hc : c ≤ 2 * r + 1
                · have hN := Lib.hid (HS1.out hc)
                  have hd3 : decide (c ≤ 2 * r + 1) = true := by simpa using hc
                  go_wp2
                  go_roundw
                  case rel => exact ⟨j + 1, _, _, by omega, by rw [← HB.out], rfl, rfl, hN, hA, hW⟩
                  case measure => simp [intOf]; omega
                · have hN := Lib.hid (HS0.out (by omega))
                  have hd3 : decide (c ≤ 2 * r + 1) = false := by simpa using hc
                  go_wp2
                  go_roundw
                  case rel => exact ⟨j + 1, _, _, by omega, by rw [← HB.out], rfl, rfl, hN, hA, hW⟩
                  case measure => simp [intOf]; omega
            · obtain rfl : j = 24 := by omega
              have e0 : bitOf 24 24 = 0 := rfl
              have hN := Lib.hid (HO.out q r hJ.out)
              go_wp2
              go_roundw
              case rel => exact ⟨_, q, r, rfl, rfl, rfl, by omega, by omega, hN, hA, hW⟩
              case measure => simp [intOf]
end Go.Proofs.Ytckdhahceelckaa.G
namespace Go.Proofs.Ytckdhahceelckaa.G
open Go.RowKit Go.Proofs.YtckdhahceelckaaW.PrintWords Go.Proofs.YtckdhahceelckaaW.PrintLast Go.Proofs.YtckdhahceelckaaW.PrintMore
attribute [local go_sem] max2_mx min2_mn max_two min_two max_three min_three max_four min_four
set_option linter.unusedVariables false
set_option linter.unusedSimpArgs false
theorem mag_wval {n : Bool} {l : List Int} (h : digs l) : 0 ≤ mag l ∧ (mag l = wval n l ∨ mag l = -wval n l) := by
  refine ⟨mag_nonneg l h, ?_⟩
  cases n <;> simp [wval]
/-- the root, down -/
def rtI (v : Int) : Int := isq v.toNat
theorem rtI_of {v r : Int} (h0 : 0 ≤ r) (h1 : r * r ≤ v) (h2 : v < (r + 1) * (r + 1)) : r = rtI v := by
  unfold rtI
  have hv : 0 ≤ v := by have := Int.mul_nonneg h0 h0; omega
  have e : (r.toNat : Int) = r := by omega
  have e1 : ((r.toNat * r.toNat : Nat) : Int) = r * r := by rw [Int.natCast_mul, e]
  have e2 : (((r.toNat + 1) * (r.toNat + 1) : Nat) : Int) = (r + 1) * (r + 1) := by rw [Int.natCast_mul, Int.natCast_add, e]; rfl
  have := isq_unique v.toNat r.toNat (by omega) (by omega)
  omega
theorem rtI_spec {v : Int} (h : 0 ≤ v) : 0 ≤ rtI v ∧ rtI v * rtI v ≤ v ∧ v < (rtI v + 1) * (rtI v + 1) := by
  obtain ⟨h1, h2⟩ := isq_spec v.toNat
  unfold rtI
  have e1 : ((isq v.toNat * isq v.toNat : Nat) : Int) = (isq v.toNat : Int) * (isq v.toNat : Int) := Int.natCast_mul ..
  have e2 : (((isq v.toNat + 1) * (isq v.toNat + 1) : Nat) : Int) = ((isq v.toNat : Int) + 1) * ((isq v.toNat : Int) + 1) := by rw [Int.natCast_mul, Int.natCast_add]; rfl
  omega
theorem p8 : (16777216 : Int) ^ 8 = 6277101735386680763835789423207666416102355444464034512896 := by decide
theorem sq_small {t : Int} (h0 : 0 ≤ t) (h1 : t ≤ 4611686018427387904) : 0 ≤ t * t ∧ t * t ≤ 21267647932558653966460912964485513216 := by
  have a := Int.mul_nonneg h0 h0
  have b := Int.mul_le_mul h1 h1 h0 (by decide)
  omega
set_option maxHeartbeats 4000000 in
theorem rootof_calls (n : Bool) (l : List Int) (hl : l.length = 8) (hd : digs l) (h0 : 0 ≤ wval n l) (h1 : wval n l < 21267647932558653966460912964485513216) (w : World) :
    Calls Try.prog 175 #[.agg (aW n l)] w fun e w' => e = .returned (.tuple #[.int .i64 (rtI (wval n l)), .bool true]) ∧ Below w.heap.size w w' := by
  have HL := Lib.hid hl
  have HD := Lib.hid hd
  have hmm := mag_wval (n := n) hd
  have HMM := Lib.hid hmm
  have HX := Lib.hid (RootI.start h0 (by rw [show (2 : Int) ^ 124 = 21267647932558653966460912964485513216 by decide]; exact h1))
  have H0 := Lib.hid h0
  have H1 := Lib.hid h1
  clear hl hd h0 h1 hmm
  have HA := Lib.hid (Wd.new w n l)
  have HW := Lib.hid ((Below.refl _ w).alloc (Nat.le_refl _) (.cells (aW n l) 169))
  go_enter Try.func175, Try.ntmps175
  go_wp2_with fail
  refine (of_calls 4611686018427387904 (by decide) (by decide) _).mono ?_
  rintro e w1 ⟨v, rfl, ⟨n1, l1, rfl, hl1, hd1, hv1⟩, hb1⟩
  have HA1 := Lib.hid (HA.out.below hb1)
  have HW1 := Lib.hid (bthen HW.out hb1)
  clear HA HW hb1
  have hp1 := Lib.hid (And.intro hl1 (And.intro hd1 hv1))
  clear hl1 hd1 hv1
  go_wp2_with fail
  refine (of_calls 4611686018427387904 (by decide) (by decide) _).mono ?_
  rintro e w2 ⟨v, rfl, ⟨n2, l2, rfl, hl2, hd2, hv2⟩, hb2⟩
  have HA2 := Lib.hid (HA1.out.below hb2)
  have HW2 := Lib.hid (bthen HW1.out hb2)
  have hp2 := Lib.hid (And.intro hl2 (And.intro hd2 hv2))
  clear HA1 HW1 hb2 hl2 hd2 hv2
  go_wp2_with fail
  have hm1 := mag_wval (n := n1) hp1.out.2.1
  have hm2 := mag_wval (n := n2) hp2.out.2.1
  have hq1 : mag l1 = 4611686018427387904 := by have := hp1.out.2.2; omega
  have hq2 : mag l2 = 4611686018427387904 := by have := hp2.out.2.2; omega
  refine (times_calls n1 n2 l1 l2 hp1.out.1 hp2.out.1 hp1.out.2.1 hp2.out.2.1 (by rw [hq1, hq2]; decide) _).mono ?_
  rintro e w3 ⟨v, rfl, ⟨n3, l3, rfl, hl3, hd3, hv3⟩, hb3⟩
  have HA3 := Lib.hid ((HA2.out.below hb3).alloc (.cells (aW n3 l3) 169))
  have HW3 := Lib.hid ((bthen HW2.out hb3).alloc (by have := HW2.out.size; have := hb3.size; omega) (.cells (aW n3 l3) 169))
  rw [hp1.out.2.2, hp2.out.2.2] at hv3
  have HT := Lib.hid (Wd.new w3 n3 l3)
  have hm3 := mag_wval (n := n3) hd3
  have hz3 : w.heap.size + 1 ≤ w3.heap.size := by have := hb3.size; have := HA2.out.lt; omega
  have hless : Hid (∀ W, Calls Try.prog 178 #[.agg (aW n l), .agg (aW n3 l3)] W fun e w' => e = .returned (.bool true) ∧ Below W.heap.size W w') := fun W =>
    less_calls n n3 l l3 HL.out hl3 HD.out hd3 (by have := HMM.out; have := H0.out; have := H1.out; rw [p8]; omega) true (by rw [hv3]; simpa using H1.out) W
  clear HA2 HW2 hb3 hl3 hd3 hv3 hm1 hm2 hm3 hq1 hq2 hp1 hp2
  have hA3 := HA3.out
  obtain ⟨a0, a1, a2, a3, a4, a5, a6, a7, a8⟩ := hA3.all
  obtain ⟨b0, b1, b2, b3, b4, b5, b6, b7, b8⟩ := HT.out.all
  clear hA3
  go_wp2_with fail
  refine (hless.out _).mono ?_
  rintro e w4 ⟨rfl, hb4⟩
  have HA4 := Lib.hid (HA3.out.below hb4)
  have HW4 := Lib.hid (bthen HW3.out hb4)
  have hz4 : w.heap.size + 1 + 1 ≤ w4.heap.size := by have := hb4.size; simp at this; omega
  clear a0 a1 a2 a3 a4 a5 a6 a7 a8 b0 b1 b2 b3 b4 b5 b6 b7 b8 HT hless HA3 HW3 hb4
  go_wp2
  go_loopw [6, 7, 8, 9] (fun v6 v7 v8 v9 wr => ∃ (j : Nat) (r : Int), j ≤ 62 ∧ v6 = .int .i64 r ∧ v7 = .int .i64 (bitOf 62 j) ∧ Hid (RootI (wval n l) j r) ∧ Hid (Wd wr w.heap.size n l) ∧ Hid (Below w.heap.size w wr)) (fun _ b _ _ _ => (intOf b).toNat)
  case atStart => exact ⟨0, 0, by omega, rfl, rfl, HX, HA4, HW4⟩
  case round =>
    clear HX HA4 HW4
    obtain ⟨j, r, hj62, rfl, rfl, hI, hA, hW⟩ := hrel
    by_cases hj : j < 62
    · obtain ⟨x0, x1, x2⟩ := hI.out.bit hj
      have r0 := hI.out.1
      have HB := Lib.hid (bitOf_half 62 j hj)
      have HY := Lib.hid (fun h => hI.out.yes hj h)
      have HN := Lib.hid (fun h => hI.out.no hj h)
      obtain ⟨B, hB⟩ : ∃ B, bitOf 62 j = B := ⟨_, rfl⟩
      rw [hB] at x0 x1 x2 HB HY HN ⊢
      clear hB
      go_wp2_with fail
      refine (of_calls (r + B) (by omega) (by omega) _).mono ?_
      rintro e w5 ⟨v, rfl, ⟨n5, l5, rfl, hl5, hd5, hv5⟩, hb5⟩
      have hm5 := mag_wval (n := n5) hd5
      have hq5 : mag l5 = r + B := by omega
      have hsq := sq_small x0 (by omega)
      have HT5 := Lib.hid (fun W => times_calls n5 n5 l5 l5 hl5 hl5 hd5 hd5 (by rw [hq5, p8]; omega) W)
      rw [hv5] at HT5
      have HA5 := Lib.hid ((hA.out.below hb5).alloc (.cells (aW n5 l5) 169))
      have HO5 := Lib.hid (Wd.new w5 n5 l5)
      have HW5 := Lib.hid ((bthen hW.out hb5).alloc (by have := hW.out.size; have := hb5.size; omega) (.cells (aW n5 l5) 169))
      have hz5 : w.heap.size + 1 ≤ w5.heap.size := by have := hb5.size; have := hA.out.lt; omega
      clear hb5 hl5 hd5 hv5 hm5 hq5 hA hW
      obtain ⟨a0, a1, a2, a3, a4, a5, a6, a7, a8⟩ := HA5.out.all
      obtain ⟨b0, b1, b2, b3, b4, b5, b6, b7, b8⟩ := HO5.out.all
      rcases (show (r + B) * (r + B) ≤ wval n l ∨ wval n l < (r + B) * (r + B) by omega) with hc | hc
      · have hN := Lib.hid (HY.out hc)
        have HC := Lib.hid hc
        clear hc
        go_wp2_with fail
        have HA5 := Lib.hid HA5.out.drew
        have HO5 := Lib.hid HO5.out.drew
        have HW5 := Lib.hid HW5.out.drew
        go_region_held3 (fun w' => w'.cell? ⟨w.heap.size, 0, none⟩ = some (.bool n) ∧ w'.cell? ⟨w.heap.size, 1, none⟩ = some (.int .i64 (dg l 0)) ∧ w'.cell? ⟨w.heap.size, 2, none⟩ = some (.int .i64 (dg l 1)) ∧ w'.cell? ⟨w.heap.size, 3, none⟩ = some (.int .i64 (dg l 2)) ∧ w'.cell? ⟨w.heap.size, 4, none⟩ = some (.int .i64 (dg l 3)) ∧ w'.cell? ⟨w.heap.size, 5, none⟩ = some (.int .i64 (dg l 4)) ∧ w'.cell? ⟨w.heap.size, 6, none⟩ = some (.int .i64 (dg l 5)) ∧ w'.cell? ⟨w.heap.size, 7, none⟩ = some (.int .i64 (dg l 6)) ∧ w'.cell? ⟨w.heap.size, 8, none⟩ = some (.int .i64 (dg l 7)) ∧ w'.cell? ⟨w5.heap.size, 0, none⟩ = some (.bool n5) ∧ w'.cell? ⟨w5.heap.size, 1, none⟩ = some (.int .i64 (dg l5 0)) ∧ w'.cell? ⟨w5.heap.size, 2, none⟩ = some (.int .i64 (dg l5 1)) ∧ w'.cell? ⟨w5.heap.size, 3, none⟩ = some (.int .i64 (dg l5 2)) ∧ w'.cell? ⟨w5.heap.size, 4, none⟩ = some (.int .i64 (dg l5 3)) ∧ w'.cell? ⟨w5.heap.size, 5, none⟩ = some (.int .i64 (dg l5 4)) ∧ w'.cell? ⟨w5.heap.size, 6, none⟩ = some (.int .i64 (dg l5 5)) ∧ w'.cell? ⟨w5.heap.size, 7, none⟩ = some (.int .i64 (dg l5 6)) ∧ w'.cell? ⟨w5.heap.size, 8, none⟩ = some (.int .i64 (dg l5 7)))
          (first | exact ⟨a0, a1, a2, a3, a4, a5, a6, a7, a8, b0, b1, b2, b3, b4, b5, b6, b7, b8⟩ | (go_keep; done))
          (first
            | (go_at_call 151; refine (HT5.out _).mono ?_; rintro e w6 ⟨v, rfl, ⟨n6, l6, rfl, hl6, hd6, hv6⟩, hb6⟩; have HA6 := Lib.hid (HA5.out.below hb6); have HO6 := Lib.hid (HO5.out.below hb6); have HW6 := Lib.hid (bthen HW5.out hb6); have HP6 := Lib.hid (And.intro hl6 (And.intro hd6 hv6)); clear hl6 hd6 hv6 hb6; obtain ⟨a0, a1, a2, a3, a4, a5, a6, a7, a8⟩ := HA6.out.all; obtain ⟨b0, b1, b2, b3, b4, b5, b6, b7, b8⟩ := HO6.out.all)
            | (go_at_call 178; refine (less_calls n n6 l l6 HL.out HP6.out.1 HD.out HP6.out.2.1 ?_ false ?_ _).mono ?_; have m6 := mag_wval (n := n6) HP6.out.2.1; have m7 := HMM.out; have m8 := H0.out; have m9 := H1.out; have m10 := HP6.out.2.2; rw [p8]; omega; have m10 := HP6.out.2.2; have m11 := HC.out; rw [m10]; simp; omega; rintro e w7 ⟨rfl, hb7⟩; have HA7 := Lib.hid (HA6.out.below hb7); have HO7 := Lib.hid (HO6.out.below hb7); have HW7 := Lib.hid (bthen HW6.out hb7); clear hb7; obtain ⟨a0, a1, a2, a3, a4, a5, a6, a7, a8⟩ := HA7.out.all; obtain ⟨b0, b1, b2, b3, b4, b5, b6, b7, b8⟩ := HO7.out.all))
        go_wp2
        go_roundw
        case rel => exact ⟨j + 1, _, by omega, rfl, by rw [HB.out], hN, HA7, HW7⟩
        case measure => simp [intOf]; omega
      · have hN := Lib.hid (HN.out hc)
        have HC := Lib.hid hc
        clear hc
        go_wp2_with fail
        have HA5 := Lib.hid HA5.out.drew
        have HO5 := Lib.hid HO5.out.drew
        have HW5 := Lib.hid HW5.out.drew
        go_region_held3 (fun w' => w'.cell? ⟨w.heap.size, 0, none⟩ = some (.bool n) ∧ w'.cell? ⟨w.heap.size, 1, none⟩ = some (.int .i64 (dg l 0)) ∧ w'.cell? ⟨w.heap.size, 2, none⟩ = some (.int .i64 (dg l 1)) ∧ w'.cell? ⟨w.heap.size, 3, none⟩ = some (.int .i64 (dg l 2)) ∧ w'.cell? ⟨w.heap.size, 4, none⟩ = some (.int .i64 (dg l 3)) ∧ w'.cell? ⟨w.heap.size, 5, none⟩ = some (.int .i64 (dg l 4)) ∧ w'.cell? ⟨w.heap.size, 6, none⟩ = some (.int .i64 (dg l 5)) ∧ w'.cell? ⟨w.heap.size, 7, none⟩ = some (.int .i64 (dg l 6)) ∧ w'.cell? ⟨w.heap.size, 8, none⟩ = some (.int .i64 (dg l 7)) ∧ w'.cell? ⟨w5.heap.size, 0, none⟩ = some (.bool n5) ∧ w'.cell? ⟨w5.heap.size, 1, none⟩ = some (.int .i64 (dg l5 0)) ∧ w'.cell? ⟨w5.heap.size, 2, none⟩ = some (.int .i64 (dg l5 1)) ∧ w'.cell? ⟨w5.heap.size, 3, none⟩ = some (.int .i64 (dg l5 2)) ∧ w'.cell? ⟨w5.heap.size, 4, none⟩ = some (.int .i64 (dg l5 3)) ∧ w'.cell? ⟨w5.heap.size, 5, none⟩ = some (.int .i64 (dg l5 4)) ∧ w'.cell? ⟨w5.heap.size, 6, none⟩ = some (.int .i64 (dg l5 5)) ∧ w'.cell? ⟨w5.heap.size, 7, none⟩ = some (.int .i64 (dg l5 6)) ∧ w'.cell? ⟨w5.heap.size, 8, none⟩ = some (.int .i64 (dg l5 7)))
          (first | exact ⟨a0, a1, a2, a3, a4, a5, a6, a7, a8, b0, b1, b2, b3, b4, b5, b6, b7, b8⟩ | (go_keep; done))
          (first
            | (go_at_call 151; refine (HT5.out _).mono ?_; rintro e w6 ⟨v, rfl, ⟨n6, l6, rfl, hl6, hd6, hv6⟩, hb6⟩; have HA6 := Lib.hid (HA5.out.below hb6); have HO6 := Lib.hid (HO5.out.below hb6); have HW6 := Lib.hid (bthen HW5.out hb6); have HP6 := Lib.hid (And.intro hl6 (And.intro hd6 hv6)); clear hl6 hd6 hv6 hb6; obtain ⟨a0, a1, a2, a3, a4, a5, a6, a7, a8⟩ := HA6.out.all; obtain ⟨b0, b1, b2, b3, b4, b5, b6, b7, b8⟩ := HO6.out.all)
            | (go_at_call 178; refine (less_calls n n6 l l6 HL.out HP6.out.1 HD.out HP6.out.2.1 ?_ true ?_ _).mono ?_; have m6 := mag_wval (n := n6) HP6.out.2.1; have m7 := HMM.out; have m8 := H0.out; have m9 := H1.out; have m10 := HP6.out.2.2; rw [p8]; omega; have m10 := HP6.out.2.2; have m11 := HC.out; rw [m10]; simp; omega; rintro e w7 ⟨rfl, hb7⟩; have HA7 := Lib.hid (HA6.out.below hb7); have HO7 := Lib.hid (HO6.out.below hb7); have HW7 := Lib.hid (bthen HW6.out hb7); clear hb7; obtain ⟨a0, a1, a2, a3, a4, a5, a6, a7, a8⟩ := HA7.out.all; obtain ⟨b0, b1, b2, b3, b4, b5, b6, b7, b8⟩ := HO7.out.all))
        go_wp2
        go_roundw
        case rel => exact ⟨j + 1, _, by omega, rfl, by rw [HB.out], hN, HA7, HW7⟩
        case measure => simp [intOf]; omega
    · obtain rfl : j = 62 := by omega
      have e0 : bitOf 62 62 = 0 := rfl
      obtain ⟨k0, k1, k2⟩ := hI.out.done
      have E := Lib.hid (rtI_of k0 k1 k2)
      clear k1 k2
      go_wp2
      go_ret2
      exact ⟨by rw [← E.out]; rfl, hW.out⟩
end Go.Proofs.Ytckdhahceelckaa.G
namespace Go.Proofs.Ytckdhahceelckaa.G
open Go.RowKit Go.Proofs.YtckdhahceelckaaW.PrintWords Go.Proofs.YtckdhahceelckaaW.PrintLast Go.Proofs.YtckdhahceelckaaW.PrintMore
attribute [local go_sem] max2_mx min2_mn max_two min_two max_three min_three max_four min_four
set_option linter.unusedVariables false
set_option linter.unusedSimpArgs false
/-- the slice at A reads as the numbers l -/
def RdI (w : World) (A : Option Addr) (l : List Int) : Prop :=
  ∀ i x, l[i]? = some x → ∃ b o, A = some ⟨b, o, none⟩ ∧ b < w.heap.size ∧ w.cell? ⟨b, o + i, none⟩ = some (.int .i64 x)
theorem RdI.below {w w1 : World} {A l} (h : RdI w A l) (hb : Below w.heap.size w w1) : RdI w1 A l := fun i p hp => by
  obtain ⟨b, o, hA, hlt, h1⟩ := h i p hp
  exact ⟨b, o, hA, Nat.lt_of_lt_of_le hlt hb.size, (hb.cell (p := ⟨b, _, none⟩) hlt).trans h1⟩
theorem RdI.get {w : World} {A : Option Addr} {l : List Int} (h : RdI w A l) (i : Nat) (hi : i < l.length) : ∃ b o, A = some ⟨b, o, none⟩ ∧ b < w.heap.size ∧ w.cell? ⟨b, o + i, none⟩ = some (.int .i64 l[i]) :=
  h i _ (List.getElem?_eq_getElem hi)
theorem RdI.of2 {w : World} {g : Nat} {x y : Int} {t : TypeId} (h : w.heap[g]? = some (.cells #[.int .i64 x, .int .i64 y] t (0, 0))) : RdI w (some ⟨g, 0, none⟩) [x, y] := fun i p hp => by
  match i, hp with
  | 0, hp => simp at hp; subst hp; exact ⟨g, 0, rfl, blk_lt h, (blk_cell h 0).trans rfl⟩
  | 1, hp => simp at hp; subst hp; exact ⟨g, 0, rfl, blk_lt h, (blk_cell h 1).trans rfl⟩
theorem RdI.of3 {w : World} {g : Nat} {x y z : Int} {t : TypeId} (h : w.heap[g]? = some (.cells #[.int .i64 x, .int .i64 y, .int .i64 z] t (0, 0))) : RdI w (some ⟨g, 0, none⟩) [x, y, z] := fun i p hp => by
  match i, hp with
  | 0, hp => simp at hp; subst hp; exact ⟨g, 0, rfl, blk_lt h, (blk_cell h 0).trans rfl⟩
  | 1, hp => simp at hp; subst hp; exact ⟨g, 0, rfl, blk_lt h, (blk_cell h 1).trans rfl⟩
  | 2, hp => simp at hp; subst hp; exact ⟨g, 0, rfl, blk_lt h, (blk_cell h 2).trans rfl⟩
theorem RdI.of4 {w : World} {g : Nat} {x y z u : Int} {t : TypeId} (h : w.heap[g]? = some (.cells #[.int .i64 x, .int .i64 y, .int .i64 z, .int .i64 u] t (0, 0))) : RdI w (some ⟨g, 0, none⟩) [x, y, z, u] := fun i p hp => by
  match i, hp with
  | 0, hp => simp at hp; subst hp; exact ⟨g, 0, rfl, blk_lt h, (blk_cell h 0).trans rfl⟩
  | 1, hp => simp at hp; subst hp; exact ⟨g, 0, rfl, blk_lt h, (blk_cell h 1).trans rfl⟩
  | 2, hp => simp at hp; subst hp; exact ⟨g, 0, rfl, blk_lt h, (blk_cell h 2).trans rfl⟩
  | 3, hp => simp at hp; subst hp; exact ⟨g, 0, rfl, blk_lt h, (blk_cell h 3).trans rfl⟩
abbrev MO : Int := 4611686018427387903
/-- numbers that may be -/
def fits (x : Int) : Prop := -4611686018427387903 ≤ x ∧ x ≤ 4611686018427387903
set_option maxHeartbeats 1000000 in
theorem great_calls (l : List Int) (A : Option Addr) (c : Nat) (w : World) (h : RdI w A l) (hc : l.length ≤ c) (hm : l.length ≤ 100) (hf : ∀ x ∈ l, fits x) :
    Calls Try.prog 148 #[.slice A l.length c] w fun e w' => e = .returned (.bool false) ∧ w' = w := by
  have H := Lib.hid h
  have HF := Lib.hid hf
  clear h hf
  go_enter Try.func148, Try.ntmps148
  go_wp2
  go_loop [3] (fun v3 => ∃ k : Nat, k ≤ l.length ∧ v3 = .int .i64 k) (fun i => l.length - (intOf i).toNat)
  case atStart => exact ⟨0, by omega, rfl⟩
  case round =>
    obtain ⟨k, hk, rfl⟩ := hrel
    by_cases hlt : k < l.length
    · obtain ⟨b, o, rfl, hb, hx⟩ := H.out.get k hlt
      obtain ⟨f1, f2⟩ := HF.out _ (List.getElem_mem hlt)
      obtain ⟨x, hx'⟩ : ∃ x, l[k] = x := ⟨_, rfl⟩
      rw [hx'] at hx f1 f2
      clear hx'
      have d1 : decide (x < -4611686018427387903) = false := by simp; omega
      have d2 : decide (4611686018427387903 < x) = false := by simp; omega
      go_wp2
      go_round
      case rel => exact ⟨k + 1, by omega, by go_num⟩
      case measure => simp [intOf]; omega
    · go_wp2
      go_ret
      exact ⟨rfl, rfl⟩
set_option maxHeartbeats 1000000 in
theorem tells_calls (v : Value) (n : Int) (hn : fits n) (w : World) :
    Calls Try.prog 149 #[v, .int .i64 n, .bool true] w fun e w' => e = .returned (.int .i64 n) ∧ w' = w := by
  obtain ⟨f1, f2⟩ := hn
  have d1 : decide (n < -4611686018427387903) = false := by simp; omega
  have d2 : decide (4611686018427387903 < n) = false := by simp; omega
  go_enter Try.func149, Try.ntmps149
  go_wp2
  go_ret
  exact ⟨rfl, rfl⟩
set_option maxHeartbeats 1000000 in
theorem wadd_calls (v : Value) (a b : Int) (ha : fits a) (hb : fits b) (hs : fits (a + b)) (w : World) :
    Calls Try.prog 99 #[v, .int .i64 a, .int .i64 b] w fun e w' => e = .returned (.int .i64 (a + b)) ∧ Below w.heap.size w w' := by
  have HF : Hid (∀ x ∈ [a, b], fits x) := Lib.hid (by intro x hx; simp at hx; rcases hx with rfl | rfl <;> assumption)
  have HS := Lib.hid hs
  obtain ⟨a1, a2⟩ := ha
  obtain ⟨b1, b2⟩ := hb
  clear hs
  go_enter Try.func99, Try.ntmps99
  go_wp2_with fail
  refine (great_calls [a, b] _ 2 _ (RdI.of2 (heap_alloc_new w _)) (Nat.le_refl _) (by simp) HF.out).mono ?_
  rintro e w1 ⟨rfl, rfl⟩
  go_wp2_with fail
  refine (tells_calls v (a + b) HS.out _).mono ?_
  rintro e w1 ⟨rfl, rfl⟩
  go_wp2
  go_ret
  exact ⟨rfl, (Below.refl _ w).alloc (Nat.le_refl _) _⟩
set_option maxHeartbeats 1000000 in
theorem wsub_calls (v : Value) (a b : Int) (ha : fits a) (hb : fits b) (hs : fits (a - b)) (w : World) :
    Calls Try.prog 101 #[v, .int .i64 a, .int .i64 b] w fun e w' => e = .returned (.int .i64 (a - b)) ∧ Below w.heap.size w w' := by
  have HF : Hid (∀ x ∈ [a, b], fits x) := Lib.hid (by intro x hx; simp at hx; rcases hx with rfl | rfl <;> assumption)
  have HS := Lib.hid hs
  obtain ⟨a1, a2⟩ := ha
  obtain ⟨b1, b2⟩ := hb
  clear hs
  go_enter Try.func101, Try.ntmps101
  go_wp2_with fail
  refine (great_calls [a, b] _ 2 _ (RdI.of2 (heap_alloc_new w _)) (Nat.le_refl _) (by simp) HF.out).mono ?_
  rintro e w1 ⟨rfl, rfl⟩
  go_wp2_with fail
  refine (tells_calls v (a - b) HS.out _).mono ?_
  rintro e w1 ⟨rfl, rfl⟩
  go_wp2
  go_ret
  exact ⟨rfl, (Below.refl _ w).alloc (Nat.le_refl _) _⟩
theorem mag_prod {n m : Bool} {l k : List Int} (hd : digs l) (he : digs k) (X Y : Nat) (h1 : (wval n l).natAbs ≤ X) (h2 : (wval m k).natAbs ≤ Y) : mag l * mag k ≤ X * Y := by
  have a := mag_wval (n := n) hd
  have b := mag_wval (n := m) he
  exact Int.mul_le_mul (by omega) (by omega) b.1 (by omega)
set_option maxHeartbeats 2000000 in
theorem wratio_calls (v : Value) (a b c : Int) (ha : fits a) (hb : fits b) (hc : fits c) (hc0 : 0 < c) (hq : (a * b).natAbs ≤ 4611686018427387902 * c) (w : World) :
    Calls Try.prog 100 #[v, .int .i64 a, .int .i64 b, .int .i64 c] w fun e w' => e = .returned (.int .i64 (a * b / c)) ∧ Below w.heap.size w w' := by
  have HF : Hid (∀ x ∈ [a, b, c], fits x) := Lib.hid (by intro x hx; simp at hx; rcases hx with rfl | rfl | rfl <;> assumption)
  obtain ⟨a1, a2⟩ := ha
  obtain ⟨b1, b2⟩ := hb
  obtain ⟨c1, c2⟩ := hc
  have hz : (c == 0) = false := by simp; omega
  have hfit : Hid (fits (a * b / c)) := by
    have e1 : a * b / c * c ≤ a * b := Int.ediv_mul_le _ (by omega)
    have e2 : a * b < (a * b / c + 1) * c := by have := Int.lt_ediv_add_one_mul_self (a * b) hc0; exact this
    unfold fits
    constructor
    · rcases Int.le_total 0 (a * b / c + 4611686018427387903) with h | h
      · omega
      · have := Int.mul_le_mul_of_nonneg_right (show a * b / c + 1 ≤ -4611686018427387902 by omega) (Int.le_of_lt hc0); omega
    · rcases Int.le_total (a * b / c) 4611686018427387903 with h | h
      · omega
      · have := Int.mul_le_mul_of_nonneg_right h (Int.le_of_lt hc0); omega
  have HQ := Lib.hid hq
  clear hq
  go_enter Try.func100, Try.ntmps100
  go_wp2_with fail
  refine (great_calls [a, b, c] _ 3 _ (RdI.of3 (heap_alloc_new w _)) (Nat.le_refl _) (by simp) HF.out).mono ?_
  rintro e w1 ⟨rfl, rfl⟩
  go_wp2_with fail
  refine (of_calls a (by omega) (by omega) _).mono ?_
  rintro e w1 ⟨u, rfl, ⟨n1, l1, rfl, hl1, hd1, hv1⟩, hb1⟩
  have H1 := Lib.hid (And.intro hl1 (And.intro hd1 hv1))
  have HB1 := Lib.hid (bthen ((Below.refl _ w).alloc (Nat.le_refl _) _) hb1)
  clear hl1 hd1 hv1 hb1
  go_wp2_with fail
  refine (of_calls b (by omega) (by omega) _).mono ?_
  rintro e w2 ⟨u, rfl, ⟨n2, l2, rfl, hl2, hd2, hv2⟩, hb2⟩
  have H2 := Lib.hid (And.intro hl2 (And.intro hd2 hv2))
  have HB2 := Lib.hid (bthen HB1.out hb2)
  clear hl2 hd2 hv2 hb2 HB1
  go_wp2_with fail
  refine (times_calls n1 n2 l1 l2 H1.out.1 H2.out.1 H1.out.2.1 H2.out.2.1 ?_ _).mono ?_
  · have := mag_prod (n := n1) (m := n2) H1.out.2.1 H2.out.2.1 9223372036854775807 9223372036854775807 (by rw [H1.out.2.2]; omega) (by rw [H2.out.2.2]; omega)
    rw [p8]; omega
  rintro e w3 ⟨u, rfl, ⟨n3, l3, rfl, hl3, hd3, hv3⟩, hb3⟩
  rw [H1.out.2.2, H2.out.2.2] at hv3
  have H3 := Lib.hid (And.intro hl3 (And.intro hd3 hv3))
  have HB3 := Lib.hid (bthen HB2.out hb3)
  clear hl3 hd3 hv3 hb3 HB2
  go_wp2_with fail
  refine (down_calls n3 l3 c H3.out.1 H3.out.2.1 hc0 c2 ?_ _).mono ?_
  · have := mag_wval (n := n3) H3.out.2.1; have := H3.out.2.2; have := HQ.out; omega
  rintro e w4 ⟨rfl, hb4⟩
  rw [H3.out.2.2]
  have HB4 := Lib.hid (bthen HB3.out hb4)
  clear hb4 HB3
  go_wp2_with fail
  refine (tells_calls v (a * b / c) hfit.out _).mono ?_
  rintro e w5 ⟨rfl, rfl⟩
  go_wp2
  go_ret
  exact ⟨rfl, HB4.out⟩
set_option maxHeartbeats 2000000 in
theorem wdiv_calls (v : Value) (a c : Int) (ha : fits a) (hc : fits c) (hc0 : 0 < c) (hq : (a * 4294967296).natAbs ≤ 4611686018427387902 * c) (w : World) :
    Calls Try.prog 160 #[v, .int .i64 a, .int .i64 c] w fun e w' => e = .returned (.int .i64 (a * 4294967296 / c)) ∧ Below w.heap.size w w' := by
  have H := Lib.hid (wratio_calls v a 4294967296 c ha (by unfold fits; decide) hc hc0 hq)
  clear ha hc hc0 hq
  go_enter Try.func160, Try.ntmps160
  go_wp2_with fail
  refine (H.out _).mono ?_
  rintro e w1 ⟨rfl, hb1⟩
  go_wp2
  go_ret
  exact ⟨rfl, hb1⟩
end Go.Proofs.Ytckdhahceelckaa.G
namespace Go.Proofs.Ytckdhahceelckaa.G
open Go.RowKit Go.Proofs.YtckdhahceelckaaW.PrintWords Go.Proofs.YtckdhahceelckaaW.PrintLast Go.Proofs.YtckdhahceelckaaW.PrintMore
attribute [local go_sem] max2_mx min2_mn max_two min_two max_three min_three max_four min_four
set_option linter.unusedVariables false
set_option linter.unusedSimpArgs false
/-- the sum of the products -/
def dotL : List Int → List Int → Int
  | x :: l, y :: m => x * y + dotL l m
  | _, _ => 0
theorem dotL_snoc : ∀ (l m : List Int) (k : Nat) (h : k < l.length) (h' : k < m.length), dotL (l.take (k + 1)) (m.take (k + 1)) = dotL (l.take k) (m.take k) + l[k] * m[k]
  | x :: l, y :: m, 0, _, _ => by simp [dotL]
  | x :: l, y :: m, k + 1, h, h' => by
    have := dotL_snoc l m k (by simpa using h) (by simpa using h')
    simp only [List.take_succ_cons, dotL, List.getElem_cons_succ, this]; omega
theorem fits_mul {x y : Int} (hx : fits x) (hy : fits y) : (x * y).natAbs ≤ 21267647932558653957237540927630737409 := by
  rw [Int.natAbs_mul]
  obtain ⟨a, b⟩ := hx
  obtain ⟨c, d⟩ := hy
  exact Nat.mul_le_mul (show x.natAbs ≤ 4611686018427387903 by omega) (show y.natAbs ≤ 4611686018427387903 by omega)
theorem dotL_bd : ∀ (l m : List Int), (∀ x ∈ l, fits x) → (∀ x ∈ m, fits x) → (dotL l m).natAbs ≤ l.length * 21267647932558653957237540927630737409
  | [], _, _, _ => by simp [dotL]
  | x :: l, [], _, _ => by simp [dotL]
  | x :: l, y :: m, h1, h2 => by
    have a := dotL_bd l m (fun z hz => h1 z (.tail _ hz)) (fun z hz => h2 z (.tail _ hz))
    have b := fits_mul (h1 x (.head _)) (h2 y (.head _))
    simp only [dotL, List.length_cons]; omega
theorem bd8 {d n C : Nat} (h1 : d ≤ n * C) (h : n ≤ 8) : d ≤ 8 * C := Nat.le_trans h1 (Nat.mul_le_mul_right _ h)
theorem rd1 {w : World} {b o : Nat} {l : List Int} {k : Nat} (h : RdI w (some ⟨b, o, none⟩) l) (hk : k < l.length) : w.cell? ⟨b, o + k, none⟩ = some (.int .i64 l[k]) := by
  obtain ⟨b', o', e, _, hc⟩ := h.get k hk
  simp only [Option.some.injEq, Addr.mk.injEq, and_true] at e
  obtain ⟨rfl, rfl⟩ := e
  exact hc
theorem sum_m1 {n1 n2 : Bool} {l1 l2 : List Int} {x y : Int} (h1 : l1.length = 8 ∧ digs l1 ∧ wval n1 l1 = x) (h2 : l2.length = 8 ∧ digs l2 ∧ wval n2 l2 = y) (hx : fits x) (hy : fits y) : mag l1 * mag l2 < 16777216 ^ 8 := by
  obtain ⟨a, b⟩ := hx
  obtain ⟨c, d⟩ := hy
  have := mag_prod (n := n1) (m := n2) h1.2.1 h2.2.1 4611686018427387903 4611686018427387903 (by rw [h1.2.2]; omega) (by rw [h2.2.2]; omega)
  rw [p8]; omega
theorem sum_m2 {n n3 : Bool} {o l3 : List Int} {x y s : Int} (h : o.length = 8 ∧ digs o ∧ wval n o = s) (h3 : l3.length = 8 ∧ digs l3 ∧ wval n3 l3 = x * y) (hx : fits x) (hy : fits y) (hb : s.natAbs ≤ 8 * 21267647932558653957237540927630737409) : mag o + mag l3 < 16777216 ^ 8 := by
  have a := mag_wval (n := n) h.2.1
  have b := mag_wval (n := n3) h3.2.1
  have c := fits_mul hx hy
  rw [h.2.2] at a
  rw [h3.2.2] at b
  rw [p8]; omega
set_option maxHeartbeats 4000000 in
set_option maxRecDepth 100000 in
theorem sum_calls (l m : List Int) (A B : Option Addr) (c d : Nat) (w : World) (hA : RdI w A l) (hB : RdI w B m) (hlm : m.length = l.length) (h8 : l.length ≤ 8) (hc : l.length ≤ c) (hd : m.length ≤ d) (hf : ∀ x ∈ l, fits x) (hg : ∀ x ∈ m, fits x) :
    Calls Try.prog 176 #[.slice A l.length c, .slice B l.length d] w (OfPost (dotL l m) w) := by
  have HA := Lib.hid hA
  have HB := Lib.hid hB
  have HLM := Lib.hid hlm
  have HF := Lib.hid hf
  have HG := Lib.hid hg
  obtain ⟨N, hN⟩ : ∃ N, l.length = N := ⟨_, rfl⟩
  have HN := Lib.hid hN
  rw [hN] at h8 hc ⊢
  have hd' : N ≤ d := by omega
  clear hA hB hlm hf hg hN hd
  have HR := Lib.hid ((Wd.new w false zs8).alloc (.cells (aW false zs8) 169))
  have HO := Wd.new (w.alloc (.cells (aW false zs8) 169)) false zs8
  rw [World.size_alloc] at HO
  have HO := Lib.hid HO
  have HW := Lib.hid (((Below.refl _ w).alloc (Nat.le_refl _) (.cells (aW false zs8) 169)).alloc (by simp) (.cells (aW false zs8) 169))
  go_enter Try.func176, Try.ntmps176
  go_wp2
  go_loopw [6] (fun v6 wr => ∃ (k : Nat) (n : Bool) (o : List Int), k ≤ N ∧ v6 = .int .i64 k ∧ Hid (o.length = 8 ∧ digs o ∧ wval n o = dotL (l.take k) (m.take k)) ∧ Hid (Wd wr w.heap.size false zs8) ∧ Hid (Wd wr (w.heap.size + 1) n o) ∧ Hid (Below w.heap.size w wr)) (fun i _ => N - (intOf i).toNat)
  case atStart => exact ⟨0, false, zs8, by omega, rfl, Lib.hid ⟨rfl, zs8_ok.2.1, by simp [wval, zs8_ok.2.2, dotL]⟩, HR, HO, HW⟩
  case round =>
    clear HR HO HW
    obtain ⟨k, n, o, hk, rfl, hP, hR, hO, hW⟩ := hrel
    by_cases hkN : k < N
    · have hlt : k < l.length := by rw [HN.out]; exact hkN
      have hlt2 : k < m.length := by rw [HLM.out]; exact hlt
      have hA := Lib.hid (HA.out.below hW.out)
      have hB := Lib.hid (HB.out.below hW.out)
      obtain ⟨ba, oa, rfl, _, _⟩ := hA.out.get k hlt
      obtain ⟨bb, ob, rfl, _, _⟩ := hB.out.get k hlt2
      have hxx : fits l[k] := HF.out _ (List.getElem_mem _)
      have hyy : fits m[k] := HG.out _ (List.getElem_mem _)
      have hS := dotL_snoc l m k hlt hlt2
      have hbd := Lib.hid (bd8 (dotL_bd (l.take k) (m.take k) (fun x hx => HF.out x (List.mem_of_mem_take hx)) (fun x hx => HG.out x (List.mem_of_mem_take hx))) (show (l.take k).length ≤ 8 by rw [List.length_take]; omega))
      obtain ⟨x, hx⟩ : ∃ x, l[k] = x := ⟨_, rfl⟩
      obtain ⟨y, hy⟩ : ∃ y, m[k] = y := ⟨_, rfl⟩
      rw [hx] at hxx hS
      rw [hy] at hyy hS
      have hx := Lib.hid hx
      have hy := Lib.hid hy
      have hS := Lib.hid hS
      obtain ⟨q1, q2⟩ := id hxx
      obtain ⟨q3, q4⟩ := id hyy
      have hO := Lib.hid hO.out.drew
      have hR := Lib.hid hR.out.drew
      have hW := Lib.hid (pw_below_drewN hW.out 1)
      have hA := Lib.hid (HA.out.below hW.out)
      have hB := Lib.hid (HB.out.below hW.out)
      obtain ⟨z0, z1, z2, z3, z4, z5, z6, z7, z8⟩ := hO.out.all
      have cx := rd1 hA.out hlt
      have cy := rd1 hB.out hlt2
      rw [hx.out] at cx
      rw [hy.out] at cy
      have hkN1 : (k : Int) < (N : Int) := by omega
      go_wp2_with fail
      refine start_ (n := 14) (S := fun w' => w'.cell? ⟨w.heap.size + 1, 0, none⟩ = some (.bool n) ∧ w'.cell? ⟨w.heap.size + 1, 1, none⟩ = some (.int .i64 (dg o 0)) ∧ w'.cell? ⟨w.heap.size + 1, 2, none⟩ = some (.int .i64 (dg o 1)) ∧ w'.cell? ⟨w.heap.size + 1, 3, none⟩ = some (.int .i64 (dg o 2)) ∧ w'.cell? ⟨w.heap.size + 1, 4, none⟩ = some (.int .i64 (dg o 3)) ∧ w'.cell? ⟨w.heap.size + 1, 5, none⟩ = some (.int .i64 (dg o 4)) ∧ w'.cell? ⟨w.heap.size + 1, 6, none⟩ = some (.int .i64 (dg o 5)) ∧ w'.cell? ⟨w.heap.size + 1, 7, none⟩ = some (.int .i64 (dg o 6)) ∧ w'.cell? ⟨w.heap.size + 1, 8, none⟩ = some (.int .i64 (dg o 7)) ∧ w'.cell? ⟨ba, oa + k, none⟩ = some (.int .i64 x) ∧ w'.cell? ⟨bb, ob + k, none⟩ = some (.int .i64 y)) (ds := [13]) (MT 0 14) (by kernel_rfl) rfl rfl ⟨z0, z1, z2, z3, z4, z5, z6, z7, z8, cx, cy⟩ (fun hHeld => ?_)
      refine pu_ 1 14 (h := ?_)
      refine pu_ 2 15 (h := ?_)
      refine pu_ 3 16 (h := ?_)
      refine pu_ 6 19 (h := ?_)
      refine pu_ 7 20 (h := ?_)
      refine pu_ 8 21 (h := ?_)
      refine take_ (i := 0) (N := some 13) (v := ?_) (a' := ?_) #[true, true, true, true, false, false, true, true, true, false, false, false, false, false] rfl rfl (by kernel_rfl) (fun _ _ _ h => h) (Or.inl ⟨by rfl, ?_⟩) (by assumption) ?_ ?_
      rotate_left
      · rintro w' ⟨s0, s1, s2, s3, s4, s5, s6, s7, s8, s9, s10⟩
        go_simp
        with_reducible rfl
      rotate_left
      · simp only [Act.put, List.setIfInBounds_toArray, List.set_cons_zero, List.set_cons_succ]
        rfl
      refine take_ (i := 4) (N := some 17) (v := ?_) (a' := ?_) #[true, true, true, true, true, false, true, true, true, false, false, false, false, false] rfl rfl (by kernel_rfl) (fun _ _ _ h => h) (Or.inl ⟨by rfl, ?_⟩) (by assumption) ?_ ?_
      rotate_left
      · rintro w' ⟨s0, s1, s2, s3, s4, s5, s6, s7, s8, s9, s10⟩
        go_simp
        with_reducible rfl
      rotate_left
      · simp only [Act.put, List.setIfInBounds_toArray, List.set_cons_zero, List.set_cons_succ]
        rfl
      refine take_ (i := 9) (N := some 22) (v := ?_) (a' := ?_) #[true, true, true, true, true, false, true, true, true, true, false, false, false, false] rfl rfl (by kernel_rfl) (fun _ _ _ h => h) (Or.inl ⟨by rfl, ?_⟩) (by assumption) ?_ ?_
      rotate_left
      · rintro w' ⟨s0, s1, s2, s3, s4, s5, s6, s7, s8, s9, s10⟩
        go_simp
        with_reducible rfl
      rotate_left
      · simp only [Act.put, List.setIfInBounds_toArray, List.set_cons_zero, List.set_cons_succ]
        rfl
      refine on_ 5 (some 18) (h := fun K hK => ?_)
      refine goes_ Try.func152 (by kernel_rfl) rfl #[.int .i64 x] (by rfl) rfl rfl (by first | rfl | (simp only [List.map_toArray, List.map_cons, List.map_nil]; rfl)) ?_
      with_reducible refine (of_calls x (by omega) (by omega) _).mono ?_
      rintro e w1 ⟨u, rfl, ⟨n1, l1, rfl, hl1, hd1, hv1⟩, hb⟩
      have HOw1 := Lib.hid (hO.out.below hb)
      have HRw1 := Lib.hid (hR.out.below hb)
      have HWw1 := Lib.hid (bthen hW.out hb)
      have HAw1 := Lib.hid (hA.out.below hb)
      have HBw1 := Lib.hid (hB.out.below hb)
      obtain ⟨z0, z1, z2, z3, z4, z5, z6, z7, z8⟩ := HOw1.out.all
      have cx := rd1 HAw1.out hlt
      rw [hx.out] at cx
      have cy := rd1 HBw1.out hlt2
      rw [hy.out] at cy
      have P1 := Lib.hid (And.intro hl1 (And.intro hd1 hv1))
      clear hl1 hd1 hv1
      clear hb
      refine ⟨_, rfl, ?_⟩
      refine hK.out _ _ ⟨z0, z1, z2, z3, z4, z5, z6, z7, z8, cx, cy⟩ (fun hHeld => ?_)
      clear hK K
      refine no_ (h := ?_)
      refine on_ 10 (some 23) (h := fun K hK => ?_)
      refine goes_ Try.func152 (by kernel_rfl) rfl #[.int .i64 y] (by rfl) rfl rfl (by first | rfl | (simp only [List.map_toArray, List.map_cons, List.map_nil]; rfl)) ?_
      with_reducible refine (of_calls y (by omega) (by omega) _).mono ?_
      rintro e w2 ⟨u, rfl, ⟨n2, l2, rfl, hl2, hd2, hv2⟩, hb⟩
      have HOw2 := Lib.hid (HOw1.out.below hb)
      have HRw2 := Lib.hid (HRw1.out.below hb)
      have HWw2 := Lib.hid (bthen HWw1.out hb)
      have HAw2 := Lib.hid (HAw1.out.below hb)
      have HBw2 := Lib.hid (HBw1.out.below hb)
      obtain ⟨z0, z1, z2, z3, z4, z5, z6, z7, z8⟩ := HOw2.out.all
      have cx := rd1 HAw2.out hlt
      rw [hx.out] at cx
      have cy := rd1 HBw2.out hlt2
      rw [hy.out] at cy
      have P2 := Lib.hid (And.intro hl2 (And.intro hd2 hv2))
      clear hl2 hd2 hv2
      clear hb
      refine ⟨_, rfl, ?_⟩
      refine hK.out _ _ ⟨z0, z1, z2, z3, z4, z5, z6, z7, z8, cx, cy⟩ (fun hHeld => ?_)
      clear hK K
      refine no_ (h := ?_)
      refine on_ 11 (some 24) (h := fun K hK => ?_)
      refine goes_ Try.func151 (by kernel_rfl) rfl #[.agg (aW n1 l1), .agg (aW n2 l2)] (by rfl) rfl rfl (by first | rfl | (simp only [List.map_toArray, List.map_cons, List.map_nil]; rfl)) ?_
      with_reducible refine (times_calls n1 n2 l1 l2 P1.out.1 P2.out.1 P1.out.2.1 P2.out.2.1 (sum_m1 P1.out P2.out hxx hyy) _).mono ?_
      rintro e w3 ⟨u, rfl, ⟨n3, l3, rfl, hl3, hd3, hv3⟩, hb⟩
      have HOw3 := Lib.hid (HOw2.out.below hb)
      have HRw3 := Lib.hid (HRw2.out.below hb)
      have HWw3 := Lib.hid (bthen HWw2.out hb)
      have HAw3 := Lib.hid (HAw2.out.below hb)
      have HBw3 := Lib.hid (HBw2.out.below hb)
      obtain ⟨z0, z1, z2, z3, z4, z5, z6, z7, z8⟩ := HOw3.out.all
      have cx := rd1 HAw3.out hlt
      rw [hx.out] at cx
      have cy := rd1 HBw3.out hlt2
      rw [hy.out] at cy
      rw [P1.out.2.2, P2.out.2.2] at hv3
      have P3 := Lib.hid (And.intro hl3 (And.intro hd3 hv3))
      clear hl3 hd3 hv3
      clear hb
      refine ⟨_, rfl, ?_⟩
      refine hK.out _ _ ⟨z0, z1, z2, z3, z4, z5, z6, z7, z8, cx, cy⟩ (fun hHeld => ?_)
      clear hK K
      refine no_ (h := ?_)
      refine on_ 12 (some 25) (h := fun K hK => ?_)
      refine goes_ Try.func179 (by kernel_rfl) rfl #[.agg (aW n o), .agg (aW n3 l3)] (by rfl) rfl rfl (by first | rfl | (simp only [List.map_toArray, List.map_cons, List.map_nil]; rfl)) ?_
      with_reducible refine (plus_calls n n3 o l3 hP.out.1 P3.out.1 hP.out.2.1 P3.out.2.1 (sum_m2 hP.out P3.out hxx hyy hbd.out) _).mono ?_
      rintro e w4 ⟨u, rfl, ⟨n4, l4, rfl, hl4, hd4, hv4⟩, hb⟩
      have HOw4 := Lib.hid (HOw3.out.below hb)
      have HRw4 := Lib.hid (HRw3.out.below hb)
      have HWw4 := Lib.hid (bthen HWw3.out hb)
      have HAw4 := Lib.hid (HAw3.out.below hb)
      have HBw4 := Lib.hid (HBw3.out.below hb)
      obtain ⟨z0, z1, z2, z3, z4, z5, z6, z7, z8⟩ := HOw4.out.all
      have cx := rd1 HAw4.out hlt
      rw [hx.out] at cx
      have cy := rd1 HBw4.out hlt2
      rw [hy.out] at cy
      rw [hP.out.2.2, P3.out.2.2] at hv4
      have P4 := Lib.hid (And.intro hl4 (And.intro hd4 hv4))
      clear hl4 hd4 hv4
      obtain ⟨f0, f1, f2, f3, f4, f5, f6, f7, f8⟩ := HOw4.out.fzs
      clear hb
      refine ⟨_, rfl, ?_⟩
      refine hK.out _ _ ⟨z0, z1, z2, z3, z4, z5, z6, z7, z8, cx, cy⟩ (fun hHeld => ?_)
      clear hK K
      refine no_ (h := ?_)
      refine last_ (i := 13) (N := none) (MT 14 0) rfl rfl (by kernel_rfl) (by decide) (fun K hK => ?_)
      refine skip_ (w1 := ?_) (by rfl) rfl ?_ ?_
      rotate_left
      · go_simp
        rfl
      refine hK.out _ _ ?_
      clear hK K
      refine done_ (by kernel_rfl) ?_
      have hN := blk9_set HOw4.out n4 l4
      have hR' := (set9_far (w := w4) (g := w.heap.size + 1) (k := w.heap.size) (by omega) (.bool n4) (.int .i64 (dg l4 0)) (.int .i64 (dg l4 1)) (.int .i64 (dg l4 2)) (.int .i64 (dg l4 3)) (.int .i64 (dg l4 4)) (.int .i64 (dg l4 5)) (.int .i64 (dg l4 6)) (.int .i64 (dg l4 7))).trans HRw4.out
      have hW' := below_set9 HWw4.out (g := w.heap.size + 1) (by omega) (.bool n4) (.int .i64 (dg l4 0)) (.int .i64 (dg l4 1)) (.int .i64 (dg l4 2)) (.int .i64 (dg l4 3)) (.int .i64 (dg l4 4)) (.int .i64 (dg l4 5)) (.int .i64 (dg l4 6)) (.int .i64 (dg l4 7))
      unfold set9 at hN hR' hW'
      have hN := Lib.hid hN
      have hR' := Lib.hid hR'
      have hW' := Lib.hid hW'
      have hP' : Hid (l4.length = 8 ∧ digs l4 ∧ wval n4 l4 = dotL (l.take (k + 1)) (m.take (k + 1))) := Lib.hid ⟨P4.out.1, P4.out.2.1, by rw [P4.out.2.2, hS.out]⟩
      go_wp2
      go_roundw
      case rel => exact ⟨k + 1, n4, l4, by omega, by go_num, hP', hR', hN, hW'⟩
      case measure => simp [intOf]; omega
    · obtain rfl : k = N := by omega
      obtain ⟨z0, z1, z2, z3, z4, z5, z6, z7, z8⟩ := hO.out.all
      obtain ⟨x0, x1, x2, x3, x4, x5, x6, x7, x8⟩ := hR.out.all
      obtain ⟨f0, f1, f2, f3, f4, f5, f6, f7, f8⟩ := hR.out.fzs
      have hv : WV (.agg (aW n o)) (dotL l m) := ⟨n, o, rfl, hP.out.1, hP.out.2.1, by rw [hP.out.2.2, List.take_of_length_le (by rw [HN.out]; omega), List.take_of_length_le (by rw [HLM.out, HN.out]; omega)]⟩
      have HS := blk9_set hR.out n o
      have HW := below_set9 hW.out (Nat.le_refl _) (.bool n) (.int .i64 (dg o 0)) (.int .i64 (dg o 1)) (.int .i64 (dg o 2)) (.int .i64 (dg o 3)) (.int .i64 (dg o 4)) (.int .i64 (dg o 5)) (.int .i64 (dg o 6)) (.int .i64 (dg o 7))
      obtain ⟨V, hV⟩ : ∃ V, set9 wr w.heap.size (.bool n) (.int .i64 (dg o 0)) (.int .i64 (dg o 1)) (.int .i64 (dg o 2)) (.int .i64 (dg o 3)) (.int .i64 (dg o 4)) (.int .i64 (dg o 5)) (.int .i64 (dg o 6)) (.int .i64 (dg o 7)) = V := ⟨_, rfl⟩
      rw [hV] at HS HW
      obtain ⟨t0, t1, t2, t3, t4, t5, t6, t7, t8⟩ := HS.all
      unfold set9 at hV
      have HV := Lib.hid hV
      have HW := Lib.hid HW
      have hv := Lib.hid hv
      clear hV HS
      go_wp2
      rw [HV.out]
      exact bodyPost_ret (v := .agg (aW n o)) (by simp [results, Try.results176, go_sem, t0, t1, t2, t3, t4, t5, t6, t7, t8]) rfl ⟨_, rfl, hv.out, HW.out⟩
end Go.Proofs.Ytckdhahceelckaa.G
namespace Go.Proofs.Ytckdhahceelckaa.G
open Go.RowKit Go.Proofs.YtckdhahceelckaaW.PrintWords Go.Proofs.YtckdhahceelckaaW.PrintLast Go.Proofs.YtckdhahceelckaaW.PrintMore
attribute [local go_sem] max2_mx min2_mn max_two min_two max_three min_three max_four min_four
set_option linter.unusedVariables false
set_option linter.unusedSimpArgs false
theorem dotL_self : ∀ (l : List Int), 0 ≤ dotL l l
  | [] => by simp [dotL]
  | x :: l => by have := dotL_self l; have := sq_nonneg x; simp only [dotL]; omega
theorem rtI_fits {v : Int} (h0 : 0 ≤ v) (h : v < 21267647932558653966460912964485513216) : fits (rtI v) := by
  obtain ⟨a, b, _⟩ := rtI_spec h0
  refine ⟨by omega, ?_⟩
  rcases Int.le_total (rtI v) 4611686018427387903 with h1 | h1
  · exact h1
  · rcases Int.le_total (rtI v) 4611686018427387903 with h3 | h3
    · exact h3
    · by_cases h4 : rtI v = 4611686018427387903
      · omega
      · have := Int.mul_le_mul (show (4611686018427387904 : Int) ≤ rtI v by omega) (show (4611686018427387904 : Int) ≤ rtI v by omega) (by decide) (by omega)
        omega
set_option maxHeartbeats 2000000 in
theorem norm_calls (v : Value) (l : List Int) (A : Option Addr) (c : Nat) (w : World) (hA : RdI w A l) (h8 : l.length ≤ 8) (hc : l.length ≤ c) (hf : ∀ x ∈ l, fits x) (hs : dotL l l < 21267647932558653966460912964485513216) :
    Calls Try.prog 159 #[v, .slice A l.length c] w fun e w' => e = .returned (.int .i64 (rtI (dotL l l))) ∧ Below w.heap.size w w' := by
  have HG := Lib.hid (great_calls l A c w hA hc (by omega) hf)
  have HS := Lib.hid (sum_calls l l A A c c w hA hA rfl h8 hc hc hf hf)
  have HF := Lib.hid (rtI_fits (dotL_self l) hs)
  have H0 := Lib.hid (dotL_self l)
  have H1 := Lib.hid hs
  have hd : decide ((8 : Int) < (l.length : Int)) = false := by simp; omega
  have hd2 : decide (8 < l.length) = false := by simp; omega
  clear hA hf hs
  obtain ⟨N, hN⟩ : ∃ N, l.length = N := ⟨_, rfl⟩
  rw [hN] at HG HS hd hd2 h8 hc ⊢
  clear hN
  go_enter Try.func159, Try.ntmps159
  go_wp2_with fail
  refine HG.out.mono ?_
  rintro e w1 ⟨rfl, rfl⟩
  clear HG
  go_wp2_with fail
  refine HS.out.mono ?_
  rintro e w2 ⟨u, rfl, ⟨n, o, rfl, ho, hdg, hv⟩, hb⟩
  have hr := rootof_calls n o ho hdg (by rw [hv]; exact H0.out) (by rw [hv]; exact H1.out) w2
  rw [hv] at hr
  have HR := Lib.hid hr
  have HB := Lib.hid hb
  clear hr hb hv ho hdg HS hd hd2
  go_wp2_with fail
  refine HR.out.mono ?_
  rintro e w3 ⟨rfl, hb3⟩
  have HB3 := Lib.hid (bthen HB.out hb3)
  clear hb3 HR HB
  go_wp2_with fail
  refine (tells_calls v _ HF.out _).mono ?_
  rintro e w4 ⟨rfl, rfl⟩
  go_wp2
  go_ret
  exact ⟨rfl, HB3.out⟩
theorem fdiv_fits {s : Int} (h : s.natAbs ≤ 4611686018427387902 * 4294967296) : fits (s / 4294967296) := by unfold fits; omega
set_option maxHeartbeats 2000000 in
theorem wdot_calls (v : Value) (l m : List Int) (A B : Option Addr) (c d : Nat) (w : World) (hA : RdI w A l) (hB : RdI w B m) (hlm : m.length = l.length) (h8 : l.length ≤ 8) (hc : l.length ≤ c) (hdd : m.length ≤ d) (hf : ∀ x ∈ l, fits x) (hg : ∀ x ∈ m, fits x) (hs : (dotL l m).natAbs ≤ 4611686018427387902 * 4294967296) :
    Calls Try.prog 163 #[v, .slice A l.length c, .slice B l.length d] w fun e w' => e = .returned (.int .i64 (dotL l m / 4294967296)) ∧ Below w.heap.size w w' := by
  have HG := Lib.hid (great_calls l A c w hA hc (by omega) hf)
  have hg' := great_calls m B d w hB hdd (by omega) hg
  rw [hlm] at hg'
  have HG2 := Lib.hid hg'
  have HS := Lib.hid (sum_calls l m A B c d w hA hB hlm h8 hc hdd hf hg)
  have HF := Lib.hid (fdiv_fits hs)
  have H1 := Lib.hid hs
  clear hA hB hf hg hs hg' hlm hdd
  obtain ⟨N, hN⟩ : ∃ N, l.length = N := ⟨_, rfl⟩
  rw [hN] at HG HG2 HS h8 hc ⊢
  clear hN
  have hd : decide ((8 : Int) < (N : Int)) = false := by simp; omega
  have hd2 : decide (8 < N) = false := by simp; omega
  have hd3 : ((N : Int) != (N : Int)) = false := by simp
  go_enter Try.func163, Try.ntmps163
  go_wp2_with fail
  refine HG.out.mono ?_
  rintro e w1 ⟨rfl, rfl⟩
  clear HG
  go_wp2_with fail
  refine HG2.out.mono ?_
  rintro e w1 ⟨rfl, rfl⟩
  clear HG2
  go_wp2_with fail
  refine HS.out.mono ?_
  rintro e w2 ⟨u, rfl, ⟨n, o, rfl, ho, hdg, hv⟩, hb⟩
  have hmm := mag_wval (n := n) hdg
  have hr := down_calls n o 4294967296 ho hdg (by decide) (by decide) (by have := H1.out; rw [hv] at hmm; omega) w2
  rw [hv] at hr
  have HR := Lib.hid hr
  have HB := Lib.hid hb
  clear hr hb hv ho hdg HS hd hd2 hmm
  go_wp2_with fail
  refine HR.out.mono ?_
  rintro e w3 ⟨rfl, hb3⟩
  have HB3 := Lib.hid (bthen HB.out hb3)
  clear hb3 HR HB
  go_wp2_with fail
  refine (tells_calls v _ HF.out _).mono ?_
  rintro e w4 ⟨rfl, rfl⟩
  go_wp2
  go_ret
  exact ⟨rfl, HB3.out⟩
/-- a store of what lies there -/
theorem setCell_id (w : World) (g o : Nat) (v : Value) (h : w.cell? ⟨g, o, none⟩ = some v) : w.setCell ⟨g, o, none⟩ v = w := by
  have e : (w.setCell ⟨g, o, none⟩ v).heap = w.heap := by
    unfold World.setCell
    apply Array.ext_getElem?
    intro i
    simp only [Option.isSome_none, Bool.false_eq_true, if_false]
    rw [Array.getElem?_modify]
    split
    · rename_i he
      unfold World.cell? at h
      rw [← he]
      simp only [Option.isSome_none, Bool.false_eq_true, if_false] at h
      cases ho : w.heap[g]? with
      | none => rfl
      | some ob =>
        rw [ho] at h
        cases ob with
        | cells cs t fr =>
          simp only [Option.map_some, Option.some.injEq, Obj.cells.injEq, and_true] at h ⊢
          apply Array.ext_getElem?
          intro j
          rw [Array.getElem?_setIfInBounds]
          split
          · rename_i hj
            rw [← hj, h]
            have := (Array.getElem?_eq_some_iff.1 h).1
            simp [this]
          · rfl
        | _ => simp at h
    · rfl
  have e2 : w.setCell ⟨g, o, none⟩ v = { w with heap := (w.setCell ⟨g, o, none⟩ v).heap } := rfl
  rw [e2, e]
set_option maxHeartbeats 1000000 in
theorem bare_w_calls (w : World) : Calls Try.prog 158 #[] w fun e w' => e = .returned (.pointer (some ⟨w.heap.size, 0, none⟩)) ∧ w' = w.alloc (.cells #[.bool false] 85) := by
  go_enter Try.func158, Try.ntmps158
  go_wp2
  go_ret
  exact ⟨rfl, rfl⟩
set_option maxHeartbeats 1000000 in
theorem done_calls (g h : Nat) (w : World) (h1 : w.cell? ⟨g, 0, none⟩ = some (.bool false)) (f1 : w.frozen? ⟨g, 0, none⟩ = false) (h2 : w.cell? ⟨h, 0, none⟩ = some (.bool false)) :
    Calls Try.prog 161 #[.pointer (some ⟨g, 0, none⟩), .pointer (some ⟨h, 0, none⟩)] w fun e w' => e = .returned (.bool true) ∧ w' = w := by
  have hs := setCell_id w _ _ _ h1
  go_enter Try.func161, Try.ntmps161
  go_wp2
  go_ret
  exact ⟨rfl, by simp [*]⟩
end Go.Proofs.Ytckdhahceelckaa.G
namespace Go.Proofs.Ytckdhahceelckaa.G
open Go.RowKit Go.Proofs.YtckdhahceelckaaW.PrintWords Go.Proofs.YtckdhahceelckaaW.PrintLast Go.Proofs.YtckdhahceelckaaW.PrintMore
attribute [local go_sem] max2_mx min2_mn max_two min_two max_three min_three max_four min_four
set_option linter.unusedVariables false
set_option linter.unusedSimpArgs false
/-- a work that is not Bad -/
def Wk (w : World) (g : Nat) : Prop := w.heap[g]? = some (.cells #[.bool false] 85 (0, 0))
theorem Wk.below {w w1 : World} {g : Nat} (h : Wk w g) (hb : Below w.heap.size w w1) : Wk w1 g := (hb.block _ (blk_lt h)).trans h
theorem Wk.cell {w : World} {g : Nat} (h : Wk w g) : w.cell? ⟨g, 0, none⟩ = some (.bool false) := (blk_cell h 0).trans rfl
theorem Wk.fz {w : World} {g : Nat} (h : Wk w g) : w.frozen? ⟨g, 0, none⟩ = false := blk_frozen h 0
theorem Wk.alloc {w : World} {g : Nat} (h : Wk w g) (o : Obj) : Wk (w.alloc o) g := h.below ((Below.refl _ w).alloc (Nat.le_refl _) o)
theorem Wk.new (w : World) : Wk (w.alloc (.cells #[.bool false] 85)) w.heap.size := heap_alloc_new w _
/-- the wide product of two vectors, in FX -/
def vdotF (a b : P3) : Int := dotI a b / 4294967296
def fits3 (a : P3) : Prop := fits a.x ∧ fits a.y ∧ fits a.z
theorem dotL3 (a b : P3) : dotL [a.x, a.y, a.z] [b.x, b.y, b.z] = dotI a b := by simp [dotL, dotI]; omega
abbrev aP (p : P3) : Value := .agg #[.int .i64 p.x, .int .i64 p.y, .int .i64 p.z]
set_option maxHeartbeats 2000000 in
theorem vdot_calls (g : Nat) (a b : P3) (w : World) (hg : Wk w g) (ha : fits3 a) (hb : fits3 b) (hs : (dotI a b).natAbs ≤ 4611686018427387902 * 4294967296) :
    Calls Try.prog 164 #[.pointer (some ⟨g, 0, none⟩), aP a, aP b] w fun e w' => e = .returned (.int .i64 (vdotF a b)) ∧ Below w.heap.size w w' := by
  obtain ⟨ax, ay, az⟩ := a
  obtain ⟨bx, cy, bz⟩ := b
  have HG := Lib.hid hg
  have HF : Hid (∀ x ∈ [ax, ay, az], fits x) := Lib.hid (by intro x hx; simp at hx; rcases hx with rfl | rfl | rfl; exact ha.1; exact ha.2.1; exact ha.2.2)
  have HF2 : Hid (∀ x ∈ [bx, cy, bz], fits x) := Lib.hid (by intro x hx; simp at hx; rcases hx with rfl | rfl | rfl; exact hb.1; exact hb.2.1; exact hb.2.2)
  have e := dotL3 ⟨ax, ay, az⟩ ⟨bx, cy, bz⟩
  rw [← e] at hs
  have HS := Lib.hid hs
  have HE : Hid (vdotF ⟨ax, ay, az⟩ ⟨bx, cy, bz⟩ = dotL [ax, ay, az] [bx, cy, bz] / 4294967296) := Lib.hid (by unfold vdotF; rw [← e])
  clear hg ha hb hs e
  go_enter Try.func164, Try.ntmps164
  go_wp2_with fail
  refine (bare_w_calls _).mono ?_
  rintro e w1 ⟨rfl, hw1⟩
  have k0 : w1.cell? ⟨w.heap.size, 0, none⟩ = some (.int .i64 ax) ∧ w1.cell? ⟨w.heap.size, 1, none⟩ = some (.int .i64 ay) ∧ w1.cell? ⟨w.heap.size, 2, none⟩ = some (.int .i64 az) := by
    have h : w1.heap[w.heap.size]? = some (.cells #[.int .i64 ax, .int .i64 ay, .int .i64 az] 27 (0, 0)) := by rw [hw1]; exact three0 _ _ _ _
    exact ⟨(blk_cell h 0).trans rfl, (blk_cell h 1).trans rfl, (blk_cell h 2).trans rfl⟩
  have k1 : w1.cell? ⟨w.heap.size + 1, 0, none⟩ = some (.int .i64 bx) ∧ w1.cell? ⟨w.heap.size + 1, 1, none⟩ = some (.int .i64 cy) ∧ w1.cell? ⟨w.heap.size + 1, 2, none⟩ = some (.int .i64 bz) := by
    have h : w1.heap[w.heap.size + 1]? = some (.cells #[.int .i64 bx, .int .i64 cy, .int .i64 bz] 27 (0, 0)) := by rw [hw1]; exact three1 _ _ _ _
    exact ⟨(blk_cell h 0).trans rfl, (blk_cell h 1).trans rfl, (blk_cell h 2).trans rfl⟩
  have HW1 := Lib.hid (show Below w.heap.size w w1 by rw [hw1]; exact (((Below.refl _ w).alloc (Nat.le_refl _) _).alloc (by simp) _).alloc (by simp; omega) _)
  have HO1 : Hid (Wk w1 (w.heap.size + 1 + 1)) := Lib.hid (by rw [hw1]; have h := Wk.new ((w.alloc (.cells #[.int .i64 ax, .int .i64 ay, .int .i64 az] 27)).alloc (.cells #[.int .i64 bx, .int .i64 cy, .int .i64 bz] 27)); simp only [World.size_alloc] at h; exact h)
  have HG1 := Lib.hid (HG.out.below HW1.out)
  have hz1 : w1.heap.size = w.heap.size + 1 + 1 + 1 := by rw [hw1]; simp
  obtain ⟨x0, x1, x2⟩ := k0
  obtain ⟨y0, y1, y2⟩ := k1
  have lt0 : w.heap.size < w1.heap.size := by omega
  have lt1 : w.heap.size + 1 < w1.heap.size := by omega
  have HZ1 := Lib.hid hz1
  clear hw1 HG hz1
  simp only [World.size_alloc]
  go_wp2_with fail
  have hh : w1.heap.size < (w1.alloc (.cells #[.int .i64 ax, .int .i64 ay, .int .i64 az] 3)).heap.size := by simp
  refine (wdot_calls _ [ax, ay, az] [bx, cy, bz] _ _ 3 3 _ ((RdI.of3 (heap_alloc_new w1 _)).below ((Below.refl _ _).alloc (Nat.le_refl _) _)) ?_ rfl (by simp) (by simp) (by simp) HF.out HF2.out HS.out).mono ?_
  · have := RdI.of3 (heap_alloc_new (w1.alloc (.cells #[.int .i64 ax, .int .i64 ay, .int .i64 az] 3)) (.cells #[.int .i64 bx, .int .i64 cy, .int .i64 bz] 3))
    rw [World.size_alloc] at this
    exact this
  rintro e w2 ⟨rfl, hb2⟩
  have hz2 := HZ1.out
  have HW2 := Lib.hid (bthen ((HW1.out.alloc (by omega) (.cells #[.int .i64 ax, .int .i64 ay, .int .i64 az] 3)).alloc (by simp; omega) (.cells #[.int .i64 bx, .int .i64 cy, .int .i64 bz] 3)) hb2)
  have HO2 := Lib.hid (((HO1.out.alloc (.cells #[.int .i64 ax, .int .i64 ay, .int .i64 az] 3)).alloc (.cells #[.int .i64 bx, .int .i64 cy, .int .i64 bz] 3)).below hb2)
  have HG2 := Lib.hid (((HG1.out.alloc (.cells #[.int .i64 ax, .int .i64 ay, .int .i64 az] 3)).alloc (.cells #[.int .i64 bx, .int .i64 cy, .int .i64 bz] 3)).below hb2)
  clear hh hb2 hz2 x0 x1 x2 y0 y1 y2
  go_wp2_with fail
  refine (done_calls g (w.heap.size + 1 + 1) w2 HG2.out.cell HG2.out.fz HO2.out.cell).mono ?_
  rintro e w3 ⟨rfl, rfl⟩
  go_wp2
  go_ret
  exact ⟨by rw [HE.out]; rfl, HW2.out⟩
end Go.Proofs.Ytckdhahceelckaa.G
namespace Go.Proofs.Ytckdhahceelckaa.G
open Go.RowKit Go.Proofs.YtckdhahceelckaaW.PrintWords Go.Proofs.YtckdhahceelckaaW.PrintLast Go.Proofs.YtckdhahceelckaaW.PrintMore
attribute [local go_sem] max2_mx min2_mn max_two min_two max_three min_three max_four min_four
set_option linter.unusedVariables false
set_option linter.unusedSimpArgs false
def addI (a b : P3) : P3 := ⟨a.x + b.x, a.y + b.y, a.z + b.z⟩
theorem c3_of {w : World} {g : Nat} {a b c : Value} {t : TypeId} (h : w.heap[g]? = some (.cells #[a, b, c] t (0, 0))) : C3 w g a b c := C3.of h
set_option maxHeartbeats 4000000 in
theorem vadd_calls (g : Nat) (a b : P3) (w : World) (hg : Wk w g) (ha : fits3 a) (hb : fits3 b) (hs : fits3 (addI a b)) :
    Calls Try.prog 110 #[.pointer (some ⟨g, 0, none⟩), aP a, aP b] w fun e w' => e = .returned (aP (addI a b)) ∧ Below w.heap.size w w' := by
  obtain ⟨ax, ay, az⟩ := a
  obtain ⟨bx, cy, bz⟩ := b
  have HG := Lib.hid hg
  have HA := Lib.hid ha
  have HB := Lib.hid hb
  have HS := Lib.hid hs
  clear hg ha hb hs
  go_enter Try.func110, Try.ntmps110
  go_wp2_with fail
  refine (bare_w_calls _).mono ?_
  rintro e w1 ⟨rfl, hw1⟩
  have P1 : Hid (C3 w1 w.heap.size (.int .i64 ax) (.int .i64 ay) (.int .i64 az)) := Lib.hid (by rw [hw1]; exact (C3.of (three0 w _ _ _)).alloc _)
  have Q1 : Hid (C3 w1 (w.heap.size + 1) (.int .i64 bx) (.int .i64 cy) (.int .i64 bz)) := Lib.hid (by rw [hw1]; exact (C3.of (three1 w _ _ _)).alloc _)
  have R1 : Hid (C3 w1 (w.heap.size + 1 + 1) (.int .i64 0) (.int .i64 0) (.int .i64 0)) := Lib.hid (by rw [hw1]; exact (C3.of (three2 w _ _ _)).alloc _)
  have HW1 := Lib.hid (show Below w.heap.size w w1 by rw [hw1]; exact ((((Below.refl _ w).alloc (Nat.le_refl _) _).alloc (by simp) _).alloc (by simp; omega) _).alloc (by simp; omega) _)
  have HO1 : Hid (Wk w1 (w.heap.size + 1 + 1 + 1)) := Lib.hid (by rw [hw1]; have h := Wk.new (((w.alloc (.cells #[.int .i64 ax, .int .i64 ay, .int .i64 az] 27)).alloc (.cells #[.int .i64 bx, .int .i64 cy, .int .i64 bz] 27)).alloc (.cells #[.int .i64 0, .int .i64 0, .int .i64 0] 27)); simp only [World.size_alloc] at h; exact h)
  have HG1 := Lib.hid (HG.out.below HW1.out)
  clear hw1 HG
  simp only [World.size_alloc]
  obtain ⟨x0, x1, x2, _, _, _⟩ := P1.out
  obtain ⟨y0, y1, y2, _, _, _⟩ := Q1.out
  go_wp2_with fail
  refine (wadd_calls _ ax bx HA.out.1 HB.out.1 HS.out.1 _).mono ?_
  rintro e w2 ⟨rfl, hb2⟩
  have P2 := Lib.hid (P1.out.below hb2)
  have Q2 := Lib.hid (Q1.out.below hb2)
  have R2 := Lib.hid (R1.out.below hb2)
  have HW2 := Lib.hid (bthen HW1.out hb2)
  have HO2 := Lib.hid (HO1.out.below hb2)
  have HG2 := Lib.hid (HG1.out.below hb2)
  clear x0 x1 x2 y0 y1 y2 P1 Q1 R1 HW1 HO1 HG1 hb2
  obtain ⟨x0, x1, x2, _, _, _⟩ := P2.out
  obtain ⟨y0, y1, y2, _, _, _⟩ := Q2.out
  go_wp2_with fail
  refine (wadd_calls _ ay cy HA.out.2.1 HB.out.2.1 HS.out.2.1 _).mono ?_
  rintro e w3 ⟨rfl, hb2⟩
  have P3 := Lib.hid (P2.out.below hb2)
  have Q3 := Lib.hid (Q2.out.below hb2)
  have R3 := Lib.hid (R2.out.below hb2)
  have HW3 := Lib.hid (bthen HW2.out hb2)
  have HO3 := Lib.hid (HO2.out.below hb2)
  have HG3 := Lib.hid (HG2.out.below hb2)
  clear x0 x1 x2 y0 y1 y2 P2 Q2 R2 HW2 HO2 HG2 hb2
  obtain ⟨x0, x1, x2, _, _, _⟩ := P3.out
  obtain ⟨y0, y1, y2, _, _, _⟩ := Q3.out
  go_wp2_with fail
  refine (wadd_calls _ az bz HA.out.2.2 HB.out.2.2 HS.out.2.2 _).mono ?_
  rintro e w4 ⟨rfl, hb2⟩
  have R4 := Lib.hid (R3.out.below hb2)
  have HW4 := Lib.hid (bthen HW3.out hb2)
  have HO4 := Lib.hid (HO3.out.below hb2)
  have HG4 := Lib.hid (HG3.out.below hb2)
  clear x0 x1 x2 y0 y1 y2 P3 Q3 R3 HW3 HO3 HG3 hb2
  go_wp2_with fail
  refine (done_calls g (w.heap.size + 1 + 1 + 1) w4 HG4.out.cell HG4.out.fz HO4.out.cell).mono ?_
  rintro e w5 ⟨rfl, rfl⟩
  obtain ⟨c0, c1, c2, f0, f1, f2⟩ := R4.out
  go_wp2
  exact bodyPost_ret (v := aP (addI ⟨ax, ay, az⟩ ⟨bx, cy, bz⟩)) (by simp [results, Try.results110, go_sem, c0, c1, c2, addI]) rfl ⟨rfl, below_set3 HW4.out (by omega) _ _ _⟩
/-- the rows of a turn -/
structure M3 where
  a : P3
  b : P3
  c : P3
abbrev aM (m : M3) : Value := .agg #[.int .i64 m.a.x, .int .i64 m.a.y, .int .i64 m.a.z, .int .i64 m.b.x, .int .i64 m.b.y, .int .i64 m.b.z, .int .i64 m.c.x, .int .i64 m.c.y, .int .i64 m.c.z]
def turnF (m : M3) (v : P3) : P3 := ⟨vdotF m.a v, vdotF m.b v, vdotF m.c v⟩
def dotOk (a b : P3) : Prop := fits3 a ∧ fits3 b ∧ (dotI a b).natAbs ≤ 4611686018427387902 * 4294967296
/-- block g holds the rows -/
def Mk (w : World) (g : Nat) (m : M3) : Prop := w.heap[g]? = some (.cells #[.int .i64 m.a.x, .int .i64 m.a.y, .int .i64 m.a.z, .int .i64 m.b.x, .int .i64 m.b.y, .int .i64 m.b.z, .int .i64 m.c.x, .int .i64 m.c.y, .int .i64 m.c.z] 138 (0, 0))
theorem Mk.below {w w1 : World} {g : Nat} {m : M3} (h : Mk w g m) (hb : Below w.heap.size w w1) : Mk w1 g m := (hb.block _ (blk_lt h)).trans h
theorem Mk.all {w g m} (h : Mk w g m) : w.cell? ⟨g, 0, none⟩ = some (.int .i64 m.a.x) ∧ w.cell? ⟨g, 1, none⟩ = some (.int .i64 m.a.y) ∧ w.cell? ⟨g, 2, none⟩ = some (.int .i64 m.a.z) ∧ w.cell? ⟨g, 3, none⟩ = some (.int .i64 m.b.x) ∧ w.cell? ⟨g, 4, none⟩ = some (.int .i64 m.b.y) ∧ w.cell? ⟨g, 5, none⟩ = some (.int .i64 m.b.z) ∧ w.cell? ⟨g, 6, none⟩ = some (.int .i64 m.c.x) ∧ w.cell? ⟨g, 7, none⟩ = some (.int .i64 m.c.y) ∧ w.cell? ⟨g, 8, none⟩ = some (.int .i64 m.c.z) :=
  ⟨(blk_cell h 0).trans rfl, (blk_cell h 1).trans rfl, (blk_cell h 2).trans rfl, (blk_cell h 3).trans rfl, (blk_cell h 4).trans rfl, (blk_cell h 5).trans rfl, (blk_cell h 6).trans rfl, (blk_cell h 7).trans rfl, (blk_cell h 8).trans rfl⟩
set_option maxHeartbeats 4000000 in
theorem turn_calls (g : Nat) (m : M3) (v : P3) (w : World) (hg : Wk w g) (h1 : dotOk m.a v) (h2 : dotOk m.b v) (h3 : dotOk m.c v) :
    Calls Try.prog 111 #[.pointer (some ⟨g, 0, none⟩), aM m, aP v] w fun e w' => e = .returned (aP (turnF m v)) ∧ Below w.heap.size w w' := by
  have HG := Lib.hid hg
  have H1 := Lib.hid h1
  have H2 := Lib.hid h2
  have H3 := Lib.hid h3
  clear hg h1 h2 h3
  go_enter Try.func111, Try.ntmps111
  go_wp2_with fail
  refine (bare_w_calls _).mono ?_
  rintro e w1 ⟨rfl, hw1⟩
  have P1 : Hid (Mk w1 w.heap.size m) := Lib.hid (by rw [hw1]; exact (Below.heap_alloc _ _ _ (by simp; omega)).trans (three0 w _ _ _))
  have Q1 : Hid (C3 w1 (w.heap.size + 1) (.int .i64 v.x) (.int .i64 v.y) (.int .i64 v.z)) := Lib.hid (by rw [hw1]; exact (C3.of (three1 w _ _ _)).alloc _)
  have R1 : Hid (C3 w1 (w.heap.size + 1 + 1) (.int .i64 0) (.int .i64 0) (.int .i64 0)) := Lib.hid (by rw [hw1]; exact (C3.of (three2 w _ _ _)).alloc _)
  have HW1 := Lib.hid (show Below w.heap.size w w1 by rw [hw1]; exact ((((Below.refl _ w).alloc (Nat.le_refl _) _).alloc (by simp) _).alloc (by simp; omega) _).alloc (by simp; omega) _)
  have HO1 : Hid (Wk w1 (w.heap.size + 1 + 1 + 1)) := Lib.hid (by rw [hw1]; have h := Wk.new (((w.alloc (.cells #[.int .i64 m.a.x, .int .i64 m.a.y, .int .i64 m.a.z, .int .i64 m.b.x, .int .i64 m.b.y, .int .i64 m.b.z, .int .i64 m.c.x, .int .i64 m.c.y, .int .i64 m.c.z] 138)).alloc (.cells #[.int .i64 v.x, .int .i64 v.y, .int .i64 v.z] 27)).alloc (.cells #[.int .i64 0, .int .i64 0, .int .i64 0] 27)); simp only [World.size_alloc] at h; exact h)
  have HG1 := Lib.hid (HG.out.below HW1.out)
  clear hw1 HG
  simp only [World.size_alloc]
  obtain ⟨x0, x1, x2, x3, x4, x5, x6, x7, x8⟩ := P1.out.all
  obtain ⟨y0, y1, y2, _, _, _⟩ := Q1.out
  go_wp2_with fail
  refine (vdot_calls _ m.a v _ HO1.out H1.out.1 H1.out.2.1 H1.out.2.2).mono ?_
  rintro e w2 ⟨rfl, hb2⟩
  have P2 := Lib.hid (P1.out.below hb2)
  have Q2 := Lib.hid (Q1.out.below hb2)
  have R2 := Lib.hid (R1.out.below hb2)
  have HW2 := Lib.hid (bthen HW1.out hb2)
  have HO2 := Lib.hid (HO1.out.below hb2)
  have HG2 := Lib.hid (HG1.out.below hb2)
  clear x0 x1 x2 x3 x4 x5 x6 x7 x8 y0 y1 y2 P1 Q1 R1 HW1 HO1 HG1 hb2
  obtain ⟨x0, x1, x2, x3, x4, x5, x6, x7, x8⟩ := P2.out.all
  obtain ⟨y0, y1, y2, _, _, _⟩ := Q2.out
  go_wp2_with fail
  refine (vdot_calls _ m.b v _ HO2.out H2.out.1 H2.out.2.1 H2.out.2.2).mono ?_
  rintro e w3 ⟨rfl, hb2⟩
  have P3 := Lib.hid (P2.out.below hb2)
  have Q3 := Lib.hid (Q2.out.below hb2)
  have R3 := Lib.hid (R2.out.below hb2)
  have HW3 := Lib.hid (bthen HW2.out hb2)
  have HO3 := Lib.hid (HO2.out.below hb2)
  have HG3 := Lib.hid (HG2.out.below hb2)
  clear x0 x1 x2 x3 x4 x5 x6 x7 x8 y0 y1 y2 P2 Q2 R2 HW2 HO2 HG2 hb2
  obtain ⟨x0, x1, x2, x3, x4, x5, x6, x7, x8⟩ := P3.out.all
  obtain ⟨y0, y1, y2, _, _, _⟩ := Q3.out
  go_wp2_with fail
  refine (vdot_calls _ m.c v _ HO3.out H3.out.1 H3.out.2.1 H3.out.2.2).mono ?_
  rintro e w4 ⟨rfl, hb2⟩
  have R4 := Lib.hid (R3.out.below hb2)
  have HW4 := Lib.hid (bthen HW3.out hb2)
  have HO4 := Lib.hid (HO3.out.below hb2)
  have HG4 := Lib.hid (HG3.out.below hb2)
  clear x0 x1 x2 x3 x4 x5 x6 x7 x8 y0 y1 y2 P3 Q3 R3 HW3 HO3 HG3 hb2
  go_wp2_with fail
  refine (done_calls g (w.heap.size + 1 + 1 + 1) w4 HG4.out.cell HG4.out.fz HO4.out.cell).mono ?_
  rintro e w5 ⟨rfl, rfl⟩
  obtain ⟨c0, c1, c2, f0, f1, f2⟩ := R4.out
  go_wp2
  exact bodyPost_ret (v := aP (turnF m v)) (by simp [results, Try.results111, go_sem, c0, c1, c2, turnF]) rfl ⟨rfl, below_set3 HW4.out (by omega) _ _ _⟩
end Go.Proofs.Ytckdhahceelckaa.G
namespace Go.Proofs.Ytckdhahceelckaa.G
open Go.RowKit Go.Proofs.YtckdhahceelckaaW.PrintWords Go.Proofs.YtckdhahceelckaaW.PrintLast Go.Proofs.YtckdhahceelckaaW.PrintMore
attribute [local go_sem] max2_mx min2_mn max_two min_two max_three min_three max_four min_four
set_option linter.unusedVariables false
set_option linter.unusedSimpArgs false
structure Q4 where
  w : Int
  x : Int
  y : Int
  z : Int
abbrev aQ (q : Q4) : Value := .agg #[.int .i64 q.w, .int .i64 q.x, .int .i64 q.y, .int .i64 q.z]
/-- block g holds a turn -/
def Qk (w : World) (g : Nat) (q : Q4) : Prop := w.heap[g]? = some (.cells #[.int .i64 q.w, .int .i64 q.x, .int .i64 q.y, .int .i64 q.z] 29 (0, 0))
theorem Qk.below {w w1 : World} {g : Nat} {m : Q4} (h : Qk w g m) (hb : Below w.heap.size w w1) : Qk w1 g m := (hb.block _ (blk_lt h)).trans h
theorem Qk.all {w g q} (h : Qk w g q) : w.cell? ⟨g, 0, none⟩ = some (.int .i64 q.w) ∧ w.cell? ⟨g, 1, none⟩ = some (.int .i64 q.x) ∧ w.cell? ⟨g, 2, none⟩ = some (.int .i64 q.y) ∧ w.cell? ⟨g, 3, none⟩ = some (.int .i64 q.z) :=
  ⟨(blk_cell h 0).trans rfl, (blk_cell h 1).trans rfl, (blk_cell h 2).trans rfl, (blk_cell h 3).trans rfl⟩
theorem Qk.fzs {w g q} (h : Qk w g q) : w.frozen? ⟨g, 0, none⟩ = false ∧ w.frozen? ⟨g, 1, none⟩ = false ∧ w.frozen? ⟨g, 2, none⟩ = false ∧ w.frozen? ⟨g, 3, none⟩ = false :=
  ⟨blk_frozen h 0, blk_frozen h 1, blk_frozen h 2, blk_frozen h 3⟩
/-- the size of a raw turn -/
def lenF (q : Q4) : Int := rtI (q.w * q.w + q.x * q.x + q.y * q.y + q.z * q.z)
def unitF (q : Q4) : Q4 := ⟨q.w * 4294967296 / lenF q, q.x * 4294967296 / lenF q, q.y * 4294967296 / lenF q, q.z * 4294967296 / lenF q⟩
def raw40 (x : Int) : Prop := -1099511627776 ≤ x ∧ x ≤ 1099511627776
theorem raw40.fits {x : Int} (h : raw40 x) : fits x := by unfold raw40 at h; unfold G.fits; omega
theorem raw40.sq {x : Int} (h : raw40 x) : 0 ≤ x * x ∧ x * x ≤ 1208925819614629174706176 := by
  refine ⟨sq_nonneg x, ?_⟩
  have : (x * x).natAbs ≤ 1099511627776 * 1099511627776 := by rw [Int.natAbs_mul]; unfold raw40 at h; exact Nat.mul_le_mul (by omega) (by omega)
  omega
theorem dotL4 (a b c d : Int) : dotL [a, b, c, d] [a, b, c, d] = a * a + b * b + c * c + d * d := by simp [dotL]; omega
theorem lenF_fits {q : Q4} (h1 : raw40 q.w) (h2 : raw40 q.x) (h3 : raw40 q.y) (h4 : raw40 q.z) : fits (lenF q) := by
  have a := h1.sq; have b := h2.sq; have c := h3.sq; have d := h4.sq
  exact rtI_fits (by omega) (by omega)
theorem unit_q {x n : Int} (h : raw40 x) (hn : 2147483648 ≤ n) : (x * 4294967296).natAbs ≤ 4611686018427387902 * n := by unfold raw40 at h; omega
set_option maxHeartbeats 4000000 in
theorem whole_good (g : Nat) (q : Q4) (w : World) (hg : Wk w g) (h1 : raw40 q.w) (h2 : raw40 q.x) (h3 : raw40 q.y) (h4 : raw40 q.z) (hn : 2147483648 ≤ lenF q) :
    Calls Try.prog 106 #[.pointer (some ⟨g, 0, none⟩), aQ q] w fun e w' => e = .returned (aQ (unitF q)) ∧ Below w.heap.size w w' := by
  have HF := Lib.hid (lenF_fits h1 h2 h3 h4)
  obtain ⟨qw, qx, qy, qz⟩ := q
  have HG := Lib.hid hg
  have HA : Hid (raw40 qw ∧ raw40 qx ∧ raw40 qy ∧ raw40 qz) := Lib.hid ⟨h1, h2, h3, h4⟩
  have HL : Hid (∀ x ∈ [qw, qx, qy, qz], fits x) := Lib.hid (by intro x hx; simp at hx; rcases hx with rfl | rfl | rfl | rfl; exact h1.fits; exact h2.fits; exact h3.fits; exact h4.fits)
  have HS : Hid (dotL [qw, qx, qy, qz] [qw, qx, qy, qz] < 21267647932558653966460912964485513216) := Lib.hid (by
    rw [dotL4]; have a := h1.sq; have b := h2.sq; have c := h3.sq; have d := h4.sq; simp only at a b c d; omega)
  have HN : Hid (rtI (dotL [qw, qx, qy, qz] [qw, qx, qy, qz]) = lenF ⟨qw, qx, qy, qz⟩) := Lib.hid (by rw [dotL4]; rfl)
  have HU : Hid (unitF ⟨qw, qx, qy, qz⟩ = ⟨qw * 4294967296 / lenF ⟨qw, qx, qy, qz⟩, qx * 4294967296 / lenF ⟨qw, qx, qy, qz⟩, qy * 4294967296 / lenF ⟨qw, qx, qy, qz⟩, qz * 4294967296 / lenF ⟨qw, qx, qy, qz⟩⟩) := Lib.hid rfl
  clear hg h1 h2 h3 h4
  obtain ⟨N, hN⟩ : ∃ N, lenF ⟨qw, qx, qy, qz⟩ = N := ⟨_, rfl⟩
  rw [hN] at HN HU hn HF
  clear hN
  have hd : decide (N < 2147483648) = false := by simp; omega
  go_enter Try.func106, Try.ntmps106
  go_wp2_with fail
  refine (bare_w_calls _).mono ?_
  rintro e w1 ⟨rfl, hw1⟩
  have Q1 : Hid (Qk w1 w.heap.size ⟨qw, qx, qy, qz⟩) := Lib.hid (by rw [hw1]; exact (Below.heap_alloc _ _ _ (by simp; omega)).trans ((Below.heap_alloc _ _ _ (by simp)).trans (heap_alloc_new w _)))
  have R1 : Hid (Qk w1 (w.heap.size + 1) ⟨0, 0, 0, 0⟩) := Lib.hid (by
    rw [hw1]
    have h := heap_alloc_new (w.alloc (.cells #[.int .i64 qw, .int .i64 qx, .int .i64 qy, .int .i64 qz] 29)) (.cells #[.int .i64 0, .int .i64 0, .int .i64 0, .int .i64 0] 29)
    rw [World.size_alloc] at h
    exact (Below.heap_alloc _ _ _ (by simp)).trans h)
  have W1 := Lib.hid (show Below w.heap.size w w1 by rw [hw1]; exact (((Below.refl _ w).alloc (Nat.le_refl _) _).alloc (by simp) _).alloc (by simp; omega) _)
  have O1 : Hid (Wk w1 (w.heap.size + 1 + 1)) := Lib.hid (by
    rw [hw1]
    have h := Wk.new ((w.alloc (.cells #[.int .i64 qw, .int .i64 qx, .int .i64 qy, .int .i64 qz] 29)).alloc (.cells #[.int .i64 0, .int .i64 0, .int .i64 0, .int .i64 0] 29))
    simp only [World.size_alloc] at h
    exact h)
  have G1 := Lib.hid (HG.out.below W1.out)
  have lt1 : w.heap.size + 1 + 1 < w1.heap.size := by rw [hw1]; simp
  have lq1 : w.heap.size < w1.heap.size := by omega
  clear hw1 HG
  simp only [World.size_alloc]
  obtain ⟨x0, x1, x2, x3⟩ := Q1.out.all
  go_wp2_with fail
  refine (norm_calls _ [qw, qx, qy, qz] _ 4 _ (RdI.of4 (heap_alloc_new w1 _)) (by simp) (by simp) HL.out HS.out).mono ?_
  rintro e w2 ⟨rfl, hb⟩
  rw [HN.out]
  have Q2 := Lib.hid ((Q1.out.below ((Below.refl _ _).alloc (Nat.le_refl _) (.cells #[.int .i64 qw, .int .i64 qx, .int .i64 qy, .int .i64 qz] 3))).below hb)
  have R2 := Lib.hid ((R1.out.below ((Below.refl _ _).alloc (Nat.le_refl _) (.cells #[.int .i64 qw, .int .i64 qx, .int .i64 qy, .int .i64 qz] 3))).below hb)
  have O2 := Lib.hid ((O1.out.alloc (.cells #[.int .i64 qw, .int .i64 qx, .int .i64 qy, .int .i64 qz] 3)).below hb)
  have G2 := Lib.hid ((G1.out.alloc (.cells #[.int .i64 qw, .int .i64 qx, .int .i64 qy, .int .i64 qz] 3)).below hb)
  have W2 := Lib.hid (bthen (W1.out.alloc W1.out.size (.cells #[.int .i64 qw, .int .i64 qx, .int .i64 qy, .int .i64 qz] 3)) hb)
  clear hb Q1 R1 O1 G1 W1 lt1 lq1 x0 x1 x2 x3
  obtain ⟨x0, x1, x2, x3⟩ := Q2.out.all
  go_wp2_with fail
  refine (wdiv_calls _ qw N HA.out.1.fits HF.out (by omega) (unit_q HA.out.1 hn) _).mono ?_
  rintro e w3 ⟨rfl, hb⟩
  have Q3 := Lib.hid (Q2.out.below hb)
  have R3 := Lib.hid (R2.out.below hb)
  have O3 := Lib.hid (O2.out.below hb)
  have G3 := Lib.hid (G2.out.below hb)
  have W3 := Lib.hid (bthen W2.out hb)
  clear hb Q2 R2 O2 G2 W2 x0 x1 x2 x3
  obtain ⟨x0, x1, x2, x3⟩ := Q3.out.all
  go_wp2_with fail
  refine (wdiv_calls _ qx N HA.out.2.1.fits HF.out (by omega) (unit_q HA.out.2.1 hn) _).mono ?_
  rintro e w4 ⟨rfl, hb⟩
  have Q4 := Lib.hid (Q3.out.below hb)
  have R4 := Lib.hid (R3.out.below hb)
  have O4 := Lib.hid (O3.out.below hb)
  have G4 := Lib.hid (G3.out.below hb)
  have W4 := Lib.hid (bthen W3.out hb)
  clear hb Q3 R3 O3 G3 W3 x0 x1 x2 x3
  obtain ⟨x0, x1, x2, x3⟩ := Q4.out.all
  go_wp2_with fail
  refine (wdiv_calls _ qy N HA.out.2.2.1.fits HF.out (by omega) (unit_q HA.out.2.2.1 hn) _).mono ?_
  rintro e w5 ⟨rfl, hb⟩
  have Q5 := Lib.hid (Q4.out.below hb)
  have R5 := Lib.hid (R4.out.below hb)
  have O5 := Lib.hid (O4.out.below hb)
  have G5 := Lib.hid (G4.out.below hb)
  have W5 := Lib.hid (bthen W4.out hb)
  clear hb Q4 R4 O4 G4 W4 x0 x1 x2 x3
  obtain ⟨x0, x1, x2, x3⟩ := Q5.out.all
  go_wp2_with fail
  refine (wdiv_calls _ qz N HA.out.2.2.2.fits HF.out (by omega) (unit_q HA.out.2.2.2 hn) _).mono ?_
  rintro e w6 ⟨rfl, hb⟩
  have R6 := Lib.hid (R5.out.below hb)
  have O6 := Lib.hid (O5.out.below hb)
  have G6 := Lib.hid (G5.out.below hb)
  have W6 := Lib.hid (bthen W5.out hb)
  clear hb Q5 R5 O5 G5 W5 x0 x1 x2 x3
  go_wp2_with fail
  refine (done_calls g (w.heap.size + 1 + 1) w6 G6.out.cell G6.out.fz O6.out.cell).mono ?_
  rintro e w7 ⟨rfl, rfl⟩
  obtain ⟨c0, c1, c2, c3⟩ := R6.out.all
  obtain ⟨f0, f1, f2, f3⟩ := R6.out.fzs
  go_wp2
  rw [HU.out]
  exact bodyPost_ret (v := aQ ⟨qw * 4294967296 / N, qx * 4294967296 / N, qy * 4294967296 / N, qz * 4294967296 / N⟩) (by simp [results, Try.results106, go_sem, c0, c1, c2, c3]) rfl ⟨rfl, below_set4 W6.out (by omega) _ _ _ _⟩
end Go.Proofs.Ytckdhahceelckaa.G
namespace Go.Proofs.Ytckdhahceelckaa.G
open Go.RowKit Go.Proofs.YtckdhahceelckaaW.PrintWords Go.Proofs.YtckdhahceelckaaW.PrintLast Go.Proofs.YtckdhahceelckaaW.PrintMore
attribute [local go_sem] max2_mx min2_mn max_two min_two max_three min_three max_four min_four
set_option linter.unusedVariables false
set_option linter.unusedSimpArgs false
def D2 (a b c d : Int) : Int := (a * c + b * d) / 4294967296
theorem dotL2 (a b c d : Int) : dotL [a, b] [c, d] = a * c + b * d := by simp [dotL]
def small (x : Int) : Prop := -17179869184 ≤ x ∧ x ≤ 17179869184
theorem small.fits {x : Int} (h : small x) : fits x := by unfold small at h; unfold G.fits; omega
theorem small_mul {a b : Int} (ha : small a) (hb : small b) : -295147905179352825856 ≤ a * b ∧ a * b ≤ 295147905179352825856 := by
  have h : (a * b).natAbs ≤ 17179869184 * 17179869184 := by
    rw [Int.natAbs_mul]; unfold small at ha hb; exact Nat.mul_le_mul (by omega) (by omega)
  omega
theorem D2_bd {a b c d : Int} (ha : small a) (hb : small b) (hc : small c) (hd : small d) : -137438953472 ≤ D2 a b c d ∧ D2 a b c d ≤ 137438953472 := by
  have := small_mul ha hc
  have := small_mul hb hd
  unfold D2; omega
theorem D2_fits {a b c d : Int} (ha : small a) (hb : small b) (hc : small c) (hd : small d) : fits (D2 a b c d) ∧ fits (4294967296 - D2 a b c d) := by
  have := D2_bd ha hb hc hd
  unfold G.fits; omega
set_option maxHeartbeats 1000000 in
theorem wdot2_calls (v : Value) (a b c d : Int) (W : World) (ha : small a) (hb : small b) (hc : small c) (hd : small d) :
    Calls Try.prog 163 #[v, .slice (some ⟨W.heap.size, 0, none⟩) 2 2, .slice (some ⟨W.heap.size + 1, 0, none⟩) 2 2] ((W.alloc (.cells #[.int .i64 a, .int .i64 b] 3)).alloc (.cells #[.int .i64 c, .int .i64 d] 3)) fun e w' => e = .returned (.int .i64 (D2 a b c d)) ∧ Below W.heap.size W w' := by
  have h1 := (RdI.of2 (heap_alloc_new W (.cells #[.int .i64 a, .int .i64 b] 3))).below ((Below.refl _ _).alloc (Nat.le_refl _) (.cells #[.int .i64 c, .int .i64 d] 3))
  have h2 := RdI.of2 (heap_alloc_new (W.alloc (.cells #[.int .i64 a, .int .i64 b] 3)) (.cells #[.int .i64 c, .int .i64 d] 3))
  rw [World.size_alloc] at h2
  have := wdot_calls v [a, b] [c, d] _ _ 2 2 _ h1 h2 rfl (by simp) (by simp) (by simp) (by intro x hx; simp at hx; rcases hx with rfl | rfl; exact ha.fits; exact hb.fits) (by intro x hx; simp at hx; rcases hx with rfl | rfl; exact hc.fits; exact hd.fits) (by rw [dotL2]; have := small_mul ha hc; have := small_mul hb hd; omega)
  rw [dotL2] at this
  refine this.mono ?_
  rintro e w' ⟨rfl, hb⟩
  exact ⟨rfl, bthen (((Below.refl _ W).alloc (Nat.le_refl _) _).alloc (by simp) _) hb⟩
def rowsF (q : Q4) : M3 :=
  ⟨⟨4294967296 - D2 (q.y + q.y) (q.z + q.z) q.y q.z, D2 (q.x + q.x) (q.w + q.w) q.y (-q.z), D2 (q.x + q.x) (q.w + q.w) q.z q.y⟩,
   ⟨D2 (q.x + q.x) (q.w + q.w) q.y q.z, 4294967296 - D2 (q.x + q.x) (q.z + q.z) q.x q.z, D2 (q.y + q.y) (q.w + q.w) q.z (-q.x)⟩,
   ⟨D2 (q.x + q.x) (q.w + q.w) q.z (-q.y), D2 (q.y + q.y) (q.w + q.w) q.z q.x, 4294967296 - D2 (q.x + q.x) (q.y + q.y) q.x q.y⟩⟩
def quat (q : Q4) : Prop := -8589934592 ≤ q.w ∧ q.w ≤ 8589934592 ∧ -8589934592 ≤ q.x ∧ q.x ≤ 8589934592 ∧ -8589934592 ≤ q.y ∧ q.y ≤ 8589934592 ∧ -8589934592 ≤ q.z ∧ q.z ≤ 8589934592
/-- nine cells of a block -/
def Nk (w : World) (g : Nat) (a0 a1 a2 a3 a4 a5 a6 a7 a8 : Int) : Prop := w.heap[g]? = some (.cells #[.int .i64 a0, .int .i64 a1, .int .i64 a2, .int .i64 a3, .int .i64 a4, .int .i64 a5, .int .i64 a6, .int .i64 a7, .int .i64 a8] 138 (0, 0))
theorem Nk.below {w w1 : World} {g : Nat} {a0 a1 a2 a3 a4 a5 a6 a7 a8} (h : Nk w g a0 a1 a2 a3 a4 a5 a6 a7 a8) (hb : Below w.heap.size w w1) : Nk w1 g a0 a1 a2 a3 a4 a5 a6 a7 a8 := (hb.block _ (blk_lt h)).trans h
theorem Nk.set0 {w : World} {g : Nat} {a0 a1 a2 a3 a4 a5 a6 a7 a8} (h : Nk w g a0 a1 a2 a3 a4 a5 a6 a7 a8) (x : Int) : Nk (w.setCell ⟨g, 0, none⟩ (.int .i64 x)) g x a1 a2 a3 a4 a5 a6 a7 a8 := by
  have h8 := blk_set h 0 (.int .i64 x)
  simp only [List.setIfInBounds_toArray, List.set_cons_zero, List.set_cons_succ] at h8
  exact h8
theorem Nk.set1 {w : World} {g : Nat} {a0 a1 a2 a3 a4 a5 a6 a7 a8} (h : Nk w g a0 a1 a2 a3 a4 a5 a6 a7 a8) (x : Int) : Nk (w.setCell ⟨g, 1, none⟩ (.int .i64 x)) g a0 x a2 a3 a4 a5 a6 a7 a8 := by
  have h8 := blk_set h 1 (.int .i64 x)
  simp only [List.setIfInBounds_toArray, List.set_cons_zero, List.set_cons_succ] at h8
  exact h8
theorem Nk.set2 {w : World} {g : Nat} {a0 a1 a2 a3 a4 a5 a6 a7 a8} (h : Nk w g a0 a1 a2 a3 a4 a5 a6 a7 a8) (x : Int) : Nk (w.setCell ⟨g, 2, none⟩ (.int .i64 x)) g a0 a1 x a3 a4 a5 a6 a7 a8 := by
  have h8 := blk_set h 2 (.int .i64 x)
  simp only [List.setIfInBounds_toArray, List.set_cons_zero, List.set_cons_succ] at h8
  exact h8
theorem Nk.set3 {w : World} {g : Nat} {a0 a1 a2 a3 a4 a5 a6 a7 a8} (h : Nk w g a0 a1 a2 a3 a4 a5 a6 a7 a8) (x : Int) : Nk (w.setCell ⟨g, 3, none⟩ (.int .i64 x)) g a0 a1 a2 x a4 a5 a6 a7 a8 := by
  have h8 := blk_set h 3 (.int .i64 x)
  simp only [List.setIfInBounds_toArray, List.set_cons_zero, List.set_cons_succ] at h8
  exact h8
theorem Nk.set4 {w : World} {g : Nat} {a0 a1 a2 a3 a4 a5 a6 a7 a8} (h : Nk w g a0 a1 a2 a3 a4 a5 a6 a7 a8) (x : Int) : Nk (w.setCell ⟨g, 4, none⟩ (.int .i64 x)) g a0 a1 a2 a3 x a5 a6 a7 a8 := by
  have h8 := blk_set h 4 (.int .i64 x)
  simp only [List.setIfInBounds_toArray, List.set_cons_zero, List.set_cons_succ] at h8
  exact h8
theorem Nk.set5 {w : World} {g : Nat} {a0 a1 a2 a3 a4 a5 a6 a7 a8} (h : Nk w g a0 a1 a2 a3 a4 a5 a6 a7 a8) (x : Int) : Nk (w.setCell ⟨g, 5, none⟩ (.int .i64 x)) g a0 a1 a2 a3 a4 x a6 a7 a8 := by
  have h8 := blk_set h 5 (.int .i64 x)
  simp only [List.setIfInBounds_toArray, List.set_cons_zero, List.set_cons_succ] at h8
  exact h8
theorem Nk.set6 {w : World} {g : Nat} {a0 a1 a2 a3 a4 a5 a6 a7 a8} (h : Nk w g a0 a1 a2 a3 a4 a5 a6 a7 a8) (x : Int) : Nk (w.setCell ⟨g, 6, none⟩ (.int .i64 x)) g a0 a1 a2 a3 a4 a5 x a7 a8 := by
  have h8 := blk_set h 6 (.int .i64 x)
  simp only [List.setIfInBounds_toArray, List.set_cons_zero, List.set_cons_succ] at h8
  exact h8
theorem Nk.set7 {w : World} {g : Nat} {a0 a1 a2 a3 a4 a5 a6 a7 a8} (h : Nk w g a0 a1 a2 a3 a4 a5 a6 a7 a8) (x : Int) : Nk (w.setCell ⟨g, 7, none⟩ (.int .i64 x)) g a0 a1 a2 a3 a4 a5 a6 x a8 := by
  have h8 := blk_set h 7 (.int .i64 x)
  simp only [List.setIfInBounds_toArray, List.set_cons_zero, List.set_cons_succ] at h8
  exact h8
theorem Nk.set8 {w : World} {g : Nat} {a0 a1 a2 a3 a4 a5 a6 a7 a8} (h : Nk w g a0 a1 a2 a3 a4 a5 a6 a7 a8) (x : Int) : Nk (w.setCell ⟨g, 8, none⟩ (.int .i64 x)) g a0 a1 a2 a3 a4 a5 a6 a7 x := by
  have h8 := blk_set h 8 (.int .i64 x)
  simp only [List.setIfInBounds_toArray, List.set_cons_zero, List.set_cons_succ] at h8
  exact h8
set_option maxHeartbeats 8000000 in
set_option maxRecDepth 100000 in
theorem rows_calls (g : Nat) (q : Q4) (w : World) (hg : Wk w g) (hq : quat q) :
    Calls Try.prog 108 #[.pointer (some ⟨g, 0, none⟩), aQ q] w fun e w' => e = .returned (aM (rowsF q)) ∧ Below w.heap.size w w' := by
  obtain ⟨qw, qx, qy, qz⟩ := q
  obtain ⟨l1, u1, l2, u2, l3, u3, l4, u4⟩ := hq
  simp only at l1 u1 l2 u2 l3 u3 l4 u4
  have SW : Hid (small qw ∧ small qx ∧ small qy ∧ small qz) := Lib.hid (by unfold small; omega)
  have SD : Hid (small (qw + qw) ∧ small (qx + qx) ∧ small (qy + qy) ∧ small (qz + qz)) := Lib.hid (by unfold small; omega)
  have SN : Hid (small (-qx) ∧ small (-qy) ∧ small (-qz)) := Lib.hid (by unfold small; omega)
  have F1 : Hid (fits 4294967296 ∧ fits 0) := Lib.hid (by unfold G.fits; decide)
  have HG := Lib.hid hg
  have hgl : g < w.heap.size := blk_lt hg
  clear hg
  go_enter Try.func108, Try.ntmps108
  go_wp2_with fail
  refine (bare_w_calls _).mono ?_
  rintro e w0 ⟨rfl, hw1⟩
  have Q0 : Hid (Qk w0 w.heap.size ⟨qw, qx, qy, qz⟩) := Lib.hid (by rw [hw1]; exact (Below.heap_alloc _ _ _ (by simp; omega)).trans ((Below.heap_alloc _ _ _ (by simp)).trans (heap_alloc_new w _)))
  have R0 : Hid (Nk w0 (w.heap.size + 1) 0 0 0 0 0 0 0 0 0) := Lib.hid (by
    rw [hw1]
    have h := heap_alloc_new (w.alloc (.cells #[.int .i64 qw, .int .i64 qx, .int .i64 qy, .int .i64 qz] 29)) (.cells #[.int .i64 0, .int .i64 0, .int .i64 0, .int .i64 0, .int .i64 0, .int .i64 0, .int .i64 0, .int .i64 0, .int .i64 0] 138)
    rw [World.size_alloc] at h
    exact (Below.heap_alloc _ _ _ (by simp)).trans h)
  have W0 := Lib.hid (show Below w.heap.size w w0 by rw [hw1]; exact (((Below.refl _ w).alloc (Nat.le_refl _) _).alloc (by simp) _).alloc (by simp; omega) _)
  have O0 : Hid (Wk w0 (w.heap.size + 1 + 1)) := Lib.hid (by
    rw [hw1]
    have h := Wk.new ((w.alloc (.cells #[.int .i64 qw, .int .i64 qx, .int .i64 qy, .int .i64 qz] 29)).alloc (.cells #[.int .i64 0, .int .i64 0, .int .i64 0, .int .i64 0, .int .i64 0, .int .i64 0, .int .i64 0, .int .i64 0, .int .i64 0] 138))
    simp only [World.size_alloc] at h
    exact h)
  have G0 := Lib.hid (HG.out.below W0.out)
  have lt0 : w.heap.size + 1 + 1 < w0.heap.size := by rw [hw1]; simp
  have lq0 : w.heap.size < w0.heap.size := by omega
  clear hw1 HG
  simp only [World.size_alloc]
  obtain ⟨x0, x1, x2, x3⟩ := Q0.out.all
  go_wp2_with fail
  refine (wadd_calls _ qw qw SW.out.1.fits SW.out.1.fits (small.fits SD.out.1) _).mono ?_
  rintro e w1 ⟨rfl, hb⟩
  have Q1 := Lib.hid (Q0.out.below hb)
  have R1 := Lib.hid (R0.out.below hb)
  have W1 := Lib.hid (bthen W0.out hb)
  have O1 := Lib.hid (O0.out.below hb)
  have G1 := Lib.hid (G0.out.below hb)
  have lt1 : w.heap.size + 1 + 1 < w1.heap.size := by have := hb.size; omega
  have lq1 : w.heap.size < w1.heap.size := by omega
  clear hb Q0 R0 W0 O0 G0 lt0 lq0 x0 x1 x2 x3
  obtain ⟨x0, x1, x2, x3⟩ := Q1.out.all
  go_wp2_with fail
  refine (wadd_calls _ qx qx SW.out.2.1.fits SW.out.2.1.fits (small.fits SD.out.2.1) _).mono ?_
  rintro e w2 ⟨rfl, hb⟩
  have Q2 := Lib.hid (Q1.out.below hb)
  have R2 := Lib.hid (R1.out.below hb)
  have W2 := Lib.hid (bthen W1.out hb)
  have O2 := Lib.hid (O1.out.below hb)
  have G2 := Lib.hid (G1.out.below hb)
  have lt2 : w.heap.size + 1 + 1 < w2.heap.size := by have := hb.size; omega
  have lq2 : w.heap.size < w2.heap.size := by omega
  clear hb Q1 R1 W1 O1 G1 lt1 lq1 x0 x1 x2 x3
  obtain ⟨x0, x1, x2, x3⟩ := Q2.out.all
  go_wp2_with fail
  refine (wadd_calls _ qy qy SW.out.2.2.1.fits SW.out.2.2.1.fits (small.fits SD.out.2.2.1) _).mono ?_
  rintro e w3 ⟨rfl, hb⟩
  have Q3 := Lib.hid (Q2.out.below hb)
  have R3 := Lib.hid (R2.out.below hb)
  have W3 := Lib.hid (bthen W2.out hb)
  have O3 := Lib.hid (O2.out.below hb)
  have G3 := Lib.hid (G2.out.below hb)
  have lt3 : w.heap.size + 1 + 1 < w3.heap.size := by have := hb.size; omega
  have lq3 : w.heap.size < w3.heap.size := by omega
  clear hb Q2 R2 W2 O2 G2 lt2 lq2 x0 x1 x2 x3
  obtain ⟨x0, x1, x2, x3⟩ := Q3.out.all
  go_wp2_with fail
  refine (wadd_calls _ qz qz SW.out.2.2.2.fits SW.out.2.2.2.fits (small.fits SD.out.2.2.2) _).mono ?_
  rintro e w4 ⟨rfl, hb⟩
  have Q4 := Lib.hid (Q3.out.below hb)
  have R4 := Lib.hid (R3.out.below hb)
  have W4 := Lib.hid (bthen W3.out hb)
  have O4 := Lib.hid (O3.out.below hb)
  have G4 := Lib.hid (G3.out.below hb)
  have lt4 : w.heap.size + 1 + 1 < w4.heap.size := by have := hb.size; omega
  have lq4 : w.heap.size < w4.heap.size := by omega
  clear hb Q3 R3 W3 O3 G3 lt3 lq3 x0 x1 x2 x3
  obtain ⟨x0, x1, x2, x3⟩ := Q4.out.all
  go_wp2_with fail
  refine (wsub_calls _ 0 qx F1.out.2 SW.out.2.1.fits (by have := small.fits SN.out.1; rwa [Int.zero_sub]) _).mono ?_
  rintro e w5 ⟨rfl, hb⟩
  have Q5 := Lib.hid (Q4.out.below hb)
  have R5 := Lib.hid (R4.out.below hb)
  have W5 := Lib.hid (bthen W4.out hb)
  have O5 := Lib.hid (O4.out.below hb)
  have G5 := Lib.hid (G4.out.below hb)
  have lt5 : w.heap.size + 1 + 1 < w5.heap.size := by have := hb.size; omega
  have lq5 : w.heap.size < w5.heap.size := by omega
  clear hb Q4 R4 W4 O4 G4 lt4 lq4 x0 x1 x2 x3
  obtain ⟨x0, x1, x2, x3⟩ := Q5.out.all
  go_wp2_with fail
  refine (wsub_calls _ 0 qy F1.out.2 SW.out.2.2.1.fits (by have := small.fits SN.out.2.1; rwa [Int.zero_sub]) _).mono ?_
  rintro e w6 ⟨rfl, hb⟩
  have Q6 := Lib.hid (Q5.out.below hb)
  have R6 := Lib.hid (R5.out.below hb)
  have W6 := Lib.hid (bthen W5.out hb)
  have O6 := Lib.hid (O5.out.below hb)
  have G6 := Lib.hid (G5.out.below hb)
  have lt6 : w.heap.size + 1 + 1 < w6.heap.size := by have := hb.size; omega
  have lq6 : w.heap.size < w6.heap.size := by omega
  clear hb Q5 R5 W5 O5 G5 lt5 lq5 x0 x1 x2 x3
  obtain ⟨x0, x1, x2, x3⟩ := Q6.out.all
  go_wp2_with fail
  refine (wsub_calls _ 0 qz F1.out.2 SW.out.2.2.2.fits (by have := small.fits SN.out.2.2; rwa [Int.zero_sub]) _).mono ?_
  rintro e w7 ⟨rfl, hb⟩
  have Q7 := Lib.hid (Q6.out.below hb)
  have R7 := Lib.hid (R6.out.below hb)
  have W7 := Lib.hid (bthen W6.out hb)
  have O7 := Lib.hid (O6.out.below hb)
  have G7 := Lib.hid (G6.out.below hb)
  have lt7 : w.heap.size + 1 + 1 < w7.heap.size := by have := hb.size; omega
  have lq7 : w.heap.size < w7.heap.size := by omega
  clear hb Q6 R6 W6 O6 G6 lt6 lq6 x0 x1 x2 x3
  obtain ⟨x0, x1, x2, x3⟩ := Q7.out.all
  have Mn := Lib.hid (show Nk (w7.alloc (.cells #[.int .i64 0, .int .i64 0, .int .i64 0, .int .i64 0, .int .i64 0, .int .i64 0, .int .i64 0, .int .i64 0, .int .i64 0] 138)) w7.heap.size 0 0 0 0 0 0 0 0 0 from heap_alloc_new w7 _)
  have hb : Below w7.heap.size w7 (w7.alloc (.cells #[.int .i64 0, .int .i64 0, .int .i64 0, .int .i64 0, .int .i64 0, .int .i64 0, .int .i64 0, .int .i64 0, .int .i64 0] 138)) := (Below.refl _ _).alloc (Nat.le_refl _) _
  go_wp2_with fail
  obtain ⟨w8, hw⟩ : ∃ w', w7.alloc (.cells #[.int .i64 0, .int .i64 0, .int .i64 0, .int .i64 0, .int .i64 0, .int .i64 0, .int .i64 0, .int .i64 0, .int .i64 0] 138) = w' := ⟨_, rfl⟩
  have ltm8 : w7.heap.size < w8.heap.size := by rw [← hw]; simp
  have hsz : w7.heap.size + 1 = w8.heap.size := by rw [← hw]; simp
  rw [hw] at hb Mn ⊢
  simp only [World.size_alloc, hsz]
  obtain ⟨MB, hMB⟩ : ∃ MB, w7.heap.size = MB := ⟨_, rfl⟩
  have hMB2 : w.heap.size + 1 + 1 < MB := by omega
  have Q8 := Lib.hid (Q7.out.below hb)
  have R8 := Lib.hid (R7.out.below hb)
  have W8 := Lib.hid (bthen W7.out hb)
  have O8 := Lib.hid (O7.out.below hb)
  have G8 := Lib.hid (G7.out.below hb)
  have lt8 : w.heap.size + 1 + 1 < w8.heap.size := by have := hb.size; omega
  have lq8 : w.heap.size < w8.heap.size := by omega
  rw [hMB] at Mn ltm8 ⊢
  have M8 := Mn
  clear hb hw hsz hMB Mn Q7 R7 W7 O7 G7 lt7 lq7 x0 x1 x2 x3
  obtain ⟨x0, x1, x2, x3⟩ := Q8.out.all
  refine (wdot2_calls _ (qy + qy) (qz + qz) qy qz w8 SD.out.2.2.1 SD.out.2.2.2 SW.out.2.2.1 SW.out.2.2.2).mono ?_
  rintro e w9 ⟨rfl, hb⟩
  have Q9 := Lib.hid (Q8.out.below hb)
  have R9 := Lib.hid (R8.out.below hb)
  have W9 := Lib.hid (bthen W8.out hb)
  have O9 := Lib.hid (O8.out.below hb)
  have G9 := Lib.hid (G8.out.below hb)
  have M9 := Lib.hid (M8.out.below hb)
  have ltm9 : MB < w9.heap.size := by have := hb.size; omega
  have lt9 : w.heap.size + 1 + 1 < w9.heap.size := by have := hb.size; omega
  have lq9 : w.heap.size < w9.heap.size := by omega
  clear hb Q8 R8 W8 O8 G8 lt8 lq8 x0 x1 x2 x3 M8 ltm8
  obtain ⟨x0, x1, x2, x3⟩ := Q9.out.all
  go_wp2_with fail
  refine (wsub_calls _ 4294967296 (D2 (qy + qy) (qz + qz) qy qz) F1.out.1 (D2_fits SD.out.2.2.1 SD.out.2.2.2 SW.out.2.2.1 SW.out.2.2.2).1 (D2_fits SD.out.2.2.1 SD.out.2.2.2 SW.out.2.2.1 SW.out.2.2.2).2 _).mono ?_
  rintro e w10 ⟨rfl, hb⟩
  have Q10 := Lib.hid (Q9.out.below hb)
  have R10 := Lib.hid (R9.out.below hb)
  have W10 := Lib.hid (bthen W9.out hb)
  have O10 := Lib.hid (O9.out.below hb)
  have G10 := Lib.hid (G9.out.below hb)
  have M10 := Lib.hid (M9.out.below hb)
  have ltm10 : MB < w10.heap.size := by have := hb.size; omega
  have lt10 : w.heap.size + 1 + 1 < w10.heap.size := by have := hb.size; omega
  have lq10 : w.heap.size < w10.heap.size := by omega
  clear hb Q9 R9 W9 O9 G9 lt9 lq9 x0 x1 x2 x3 M9 ltm9
  obtain ⟨x0, x1, x2, x3⟩ := Q10.out.all
  have mc : w10.cell? ⟨MB, 0, none⟩ = some (.int .i64 0) := (blk_cell M10.out 0).trans rfl
  have mf : w10.frozen? ⟨MB, 0, none⟩ = false := blk_frozen M10.out 0
  have Mn := M10.out.set0 (4294967296 - D2 (qy + qy) (qz + qz) qy qz)
  have Qn := (Below.heap_setCell w10 ⟨MB, 0, none⟩ (.int .i64 (4294967296 - D2 (qy + qy) (qz + qz) qy qz)) w.heap.size (by simp; omega)).trans Q10.out
  have Rn := (Below.heap_setCell w10 ⟨MB, 0, none⟩ (.int .i64 (4294967296 - D2 (qy + qy) (qz + qz) qy qz)) (w.heap.size + 1) (by simp; omega)).trans R10.out
  have On := (Below.heap_setCell w10 ⟨MB, 0, none⟩ (.int .i64 (4294967296 - D2 (qy + qy) (qz + qz) qy qz)) (w.heap.size + 1 + 1) (by simp; omega)).trans O10.out
  have Wn := W10.out.setCell (p := ⟨MB, 0, none⟩) (by simp; omega) (.int .i64 (4294967296 - D2 (qy + qy) (qz + qz) qy qz))
  have ltn : w.heap.size + 1 + 1 < (w10.setCell ⟨MB, 0, none⟩ (.int .i64 (4294967296 - D2 (qy + qy) (qz + qz) qy qz))).heap.size := by simp; omega
  have ltmn : MB < (w10.setCell ⟨MB, 0, none⟩ (.int .i64 (4294967296 - D2 (qy + qy) (qz + qz) qy qz))).heap.size := by simp; omega
  have gne : g ≠ MB := by omega
  have Gn := (Below.heap_setCell w10 ⟨MB, 0, none⟩ (.int .i64 (4294967296 - D2 (qy + qy) (qz + qz) qy qz)) g (by simpa using gne)).trans G10.out
  obtain ⟨w11, hw⟩ : ∃ w', w10.setCell ⟨MB, 0, none⟩ (.int .i64 (4294967296 - D2 (qy + qy) (qz + qz) qy qz)) = w' := ⟨_, rfl⟩
  rw [hw] at Mn Qn Rn On Wn Gn ltn ltmn
  have Q11 : Hid (Qk w11 w.heap.size ⟨qw, qx, qy, qz⟩) := Lib.hid Qn
  have R11 : Hid (Nk w11 (w.heap.size + 1) 0 0 0 0 0 0 0 0 0) := Lib.hid Rn
  have O11 : Hid (Wk w11 (w.heap.size + 1 + 1)) := Lib.hid On
  have G11 : Hid (Wk w11 g) := Lib.hid Gn
  have W11 := Lib.hid Wn
  have M11 := Lib.hid Mn
  have lt11 := ltn
  have ltm11 := ltmn
  have lq11 : w.heap.size < w11.heap.size := by omega
  clear Mn Qn Rn On Wn Gn ltn ltmn gne Q10 R10 W10 O10 G10 M10 lt10 lq10 ltm10 x0 x1 x2 x3
  obtain ⟨x0, x1, x2, x3⟩ := Q11.out.all
  go_wp2_with fail
  clear mc mf hw
  refine (wdot2_calls _ (qx + qx) (qw + qw) qy (-qz) w11 SD.out.2.1 SD.out.1 SW.out.2.2.1 SN.out.2.2).mono ?_
  rintro e w12 ⟨rfl, hb⟩
  have Q12 := Lib.hid (Q11.out.below hb)
  have R12 := Lib.hid (R11.out.below hb)
  have W12 := Lib.hid (bthen W11.out hb)
  have O12 := Lib.hid (O11.out.below hb)
  have G12 := Lib.hid (G11.out.below hb)
  have M12 := Lib.hid (M11.out.below hb)
  have ltm12 : MB < w12.heap.size := by have := hb.size; omega
  have lt12 : w.heap.size + 1 + 1 < w12.heap.size := by have := hb.size; omega
  have lq12 : w.heap.size < w12.heap.size := by omega
  clear hb Q11 R11 W11 O11 G11 lt11 lq11 x0 x1 x2 x3 M11 ltm11
  obtain ⟨x0, x1, x2, x3⟩ := Q12.out.all
  have mc : w12.cell? ⟨MB, 1, none⟩ = some (.int .i64 0) := (blk_cell M12.out 1).trans rfl
  have mf : w12.frozen? ⟨MB, 1, none⟩ = false := blk_frozen M12.out 1
  have Mn := M12.out.set1 (D2 (qx + qx) (qw + qw) qy (-qz))
  have Qn := (Below.heap_setCell w12 ⟨MB, 1, none⟩ (.int .i64 (D2 (qx + qx) (qw + qw) qy (-qz))) w.heap.size (by simp; omega)).trans Q12.out
  have Rn := (Below.heap_setCell w12 ⟨MB, 1, none⟩ (.int .i64 (D2 (qx + qx) (qw + qw) qy (-qz))) (w.heap.size + 1) (by simp; omega)).trans R12.out
  have On := (Below.heap_setCell w12 ⟨MB, 1, none⟩ (.int .i64 (D2 (qx + qx) (qw + qw) qy (-qz))) (w.heap.size + 1 + 1) (by simp; omega)).trans O12.out
  have Wn := W12.out.setCell (p := ⟨MB, 1, none⟩) (by simp; omega) (.int .i64 (D2 (qx + qx) (qw + qw) qy (-qz)))
  have ltn : w.heap.size + 1 + 1 < (w12.setCell ⟨MB, 1, none⟩ (.int .i64 (D2 (qx + qx) (qw + qw) qy (-qz)))).heap.size := by simp; omega
  have ltmn : MB < (w12.setCell ⟨MB, 1, none⟩ (.int .i64 (D2 (qx + qx) (qw + qw) qy (-qz)))).heap.size := by simp; omega
  have gne : g ≠ MB := by omega
  have Gn := (Below.heap_setCell w12 ⟨MB, 1, none⟩ (.int .i64 (D2 (qx + qx) (qw + qw) qy (-qz))) g (by simpa using gne)).trans G12.out
  obtain ⟨w13, hw⟩ : ∃ w', w12.setCell ⟨MB, 1, none⟩ (.int .i64 (D2 (qx + qx) (qw + qw) qy (-qz))) = w' := ⟨_, rfl⟩
  rw [hw] at Mn Qn Rn On Wn Gn ltn ltmn
  have Q13 : Hid (Qk w13 w.heap.size ⟨qw, qx, qy, qz⟩) := Lib.hid Qn
  have R13 : Hid (Nk w13 (w.heap.size + 1) 0 0 0 0 0 0 0 0 0) := Lib.hid Rn
  have O13 : Hid (Wk w13 (w.heap.size + 1 + 1)) := Lib.hid On
  have G13 : Hid (Wk w13 g) := Lib.hid Gn
  have W13 := Lib.hid Wn
  have M13 := Lib.hid Mn
  have lt13 := ltn
  have ltm13 := ltmn
  have lq13 : w.heap.size < w13.heap.size := by omega
  clear Mn Qn Rn On Wn Gn ltn ltmn gne Q12 R12 W12 O12 G12 M12 lt12 lq12 ltm12 x0 x1 x2 x3
  obtain ⟨x0, x1, x2, x3⟩ := Q13.out.all
  go_wp2_with fail
  clear mc mf hw
  refine (wdot2_calls _ (qx + qx) (qw + qw) qz qy w13 SD.out.2.1 SD.out.1 SW.out.2.2.2 SW.out.2.2.1).mono ?_
  rintro e w14 ⟨rfl, hb⟩
  have Q14 := Lib.hid (Q13.out.below hb)
  have R14 := Lib.hid (R13.out.below hb)
  have W14 := Lib.hid (bthen W13.out hb)
  have O14 := Lib.hid (O13.out.below hb)
  have G14 := Lib.hid (G13.out.below hb)
  have M14 := Lib.hid (M13.out.below hb)
  have ltm14 : MB < w14.heap.size := by have := hb.size; omega
  have lt14 : w.heap.size + 1 + 1 < w14.heap.size := by have := hb.size; omega
  have lq14 : w.heap.size < w14.heap.size := by omega
  clear hb Q13 R13 W13 O13 G13 lt13 lq13 x0 x1 x2 x3 M13 ltm13
  obtain ⟨x0, x1, x2, x3⟩ := Q14.out.all
  have mc : w14.cell? ⟨MB, 2, none⟩ = some (.int .i64 0) := (blk_cell M14.out 2).trans rfl
  have mf : w14.frozen? ⟨MB, 2, none⟩ = false := blk_frozen M14.out 2
  have Mn := M14.out.set2 (D2 (qx + qx) (qw + qw) qz qy)
  have Qn := (Below.heap_setCell w14 ⟨MB, 2, none⟩ (.int .i64 (D2 (qx + qx) (qw + qw) qz qy)) w.heap.size (by simp; omega)).trans Q14.out
  have Rn := (Below.heap_setCell w14 ⟨MB, 2, none⟩ (.int .i64 (D2 (qx + qx) (qw + qw) qz qy)) (w.heap.size + 1) (by simp; omega)).trans R14.out
  have On := (Below.heap_setCell w14 ⟨MB, 2, none⟩ (.int .i64 (D2 (qx + qx) (qw + qw) qz qy)) (w.heap.size + 1 + 1) (by simp; omega)).trans O14.out
  have Wn := W14.out.setCell (p := ⟨MB, 2, none⟩) (by simp; omega) (.int .i64 (D2 (qx + qx) (qw + qw) qz qy))
  have ltn : w.heap.size + 1 + 1 < (w14.setCell ⟨MB, 2, none⟩ (.int .i64 (D2 (qx + qx) (qw + qw) qz qy))).heap.size := by simp; omega
  have ltmn : MB < (w14.setCell ⟨MB, 2, none⟩ (.int .i64 (D2 (qx + qx) (qw + qw) qz qy))).heap.size := by simp; omega
  have gne : g ≠ MB := by omega
  have Gn := (Below.heap_setCell w14 ⟨MB, 2, none⟩ (.int .i64 (D2 (qx + qx) (qw + qw) qz qy)) g (by simpa using gne)).trans G14.out
  obtain ⟨w15, hw⟩ : ∃ w', w14.setCell ⟨MB, 2, none⟩ (.int .i64 (D2 (qx + qx) (qw + qw) qz qy)) = w' := ⟨_, rfl⟩
  rw [hw] at Mn Qn Rn On Wn Gn ltn ltmn
  have Q15 : Hid (Qk w15 w.heap.size ⟨qw, qx, qy, qz⟩) := Lib.hid Qn
  have R15 : Hid (Nk w15 (w.heap.size + 1) 0 0 0 0 0 0 0 0 0) := Lib.hid Rn
  have O15 : Hid (Wk w15 (w.heap.size + 1 + 1)) := Lib.hid On
  have G15 : Hid (Wk w15 g) := Lib.hid Gn
  have W15 := Lib.hid Wn
  have M15 := Lib.hid Mn
  have lt15 := ltn
  have ltm15 := ltmn
  have lq15 : w.heap.size < w15.heap.size := by omega
  clear Mn Qn Rn On Wn Gn ltn ltmn gne Q14 R14 W14 O14 G14 M14 lt14 lq14 ltm14 x0 x1 x2 x3
  obtain ⟨x0, x1, x2, x3⟩ := Q15.out.all
  go_wp2_with fail
  clear mc mf hw
  refine (wdot2_calls _ (qx + qx) (qw + qw) qy qz w15 SD.out.2.1 SD.out.1 SW.out.2.2.1 SW.out.2.2.2).mono ?_
  rintro e w16 ⟨rfl, hb⟩
  have Q16 := Lib.hid (Q15.out.below hb)
  have R16 := Lib.hid (R15.out.below hb)
  have W16 := Lib.hid (bthen W15.out hb)
  have O16 := Lib.hid (O15.out.below hb)
  have G16 := Lib.hid (G15.out.below hb)
  have M16 := Lib.hid (M15.out.below hb)
  have ltm16 : MB < w16.heap.size := by have := hb.size; omega
  have lt16 : w.heap.size + 1 + 1 < w16.heap.size := by have := hb.size; omega
  have lq16 : w.heap.size < w16.heap.size := by omega
  clear hb Q15 R15 W15 O15 G15 lt15 lq15 x0 x1 x2 x3 M15 ltm15
  obtain ⟨x0, x1, x2, x3⟩ := Q16.out.all
  have mc : w16.cell? ⟨MB, 3, none⟩ = some (.int .i64 0) := (blk_cell M16.out 3).trans rfl
  have mf : w16.frozen? ⟨MB, 3, none⟩ = false := blk_frozen M16.out 3
  have Mn := M16.out.set3 (D2 (qx + qx) (qw + qw) qy qz)
  have Qn := (Below.heap_setCell w16 ⟨MB, 3, none⟩ (.int .i64 (D2 (qx + qx) (qw + qw) qy qz)) w.heap.size (by simp; omega)).trans Q16.out
  have Rn := (Below.heap_setCell w16 ⟨MB, 3, none⟩ (.int .i64 (D2 (qx + qx) (qw + qw) qy qz)) (w.heap.size + 1) (by simp; omega)).trans R16.out
  have On := (Below.heap_setCell w16 ⟨MB, 3, none⟩ (.int .i64 (D2 (qx + qx) (qw + qw) qy qz)) (w.heap.size + 1 + 1) (by simp; omega)).trans O16.out
  have Wn := W16.out.setCell (p := ⟨MB, 3, none⟩) (by simp; omega) (.int .i64 (D2 (qx + qx) (qw + qw) qy qz))
  have ltn : w.heap.size + 1 + 1 < (w16.setCell ⟨MB, 3, none⟩ (.int .i64 (D2 (qx + qx) (qw + qw) qy qz))).heap.size := by simp; omega
  have ltmn : MB < (w16.setCell ⟨MB, 3, none⟩ (.int .i64 (D2 (qx + qx) (qw + qw) qy qz))).heap.size := by simp; omega
  have gne : g ≠ MB := by omega
  have Gn := (Below.heap_setCell w16 ⟨MB, 3, none⟩ (.int .i64 (D2 (qx + qx) (qw + qw) qy qz)) g (by simpa using gne)).trans G16.out
  obtain ⟨w17, hw⟩ : ∃ w', w16.setCell ⟨MB, 3, none⟩ (.int .i64 (D2 (qx + qx) (qw + qw) qy qz)) = w' := ⟨_, rfl⟩
  rw [hw] at Mn Qn Rn On Wn Gn ltn ltmn
  have Q17 : Hid (Qk w17 w.heap.size ⟨qw, qx, qy, qz⟩) := Lib.hid Qn
  have R17 : Hid (Nk w17 (w.heap.size + 1) 0 0 0 0 0 0 0 0 0) := Lib.hid Rn
  have O17 : Hid (Wk w17 (w.heap.size + 1 + 1)) := Lib.hid On
  have G17 : Hid (Wk w17 g) := Lib.hid Gn
  have W17 := Lib.hid Wn
  have M17 := Lib.hid Mn
  have lt17 := ltn
  have ltm17 := ltmn
  have lq17 : w.heap.size < w17.heap.size := by omega
  clear Mn Qn Rn On Wn Gn ltn ltmn gne Q16 R16 W16 O16 G16 M16 lt16 lq16 ltm16 x0 x1 x2 x3
  obtain ⟨x0, x1, x2, x3⟩ := Q17.out.all
  go_wp2_with fail
  clear mc mf hw
  refine (wdot2_calls _ (qx + qx) (qz + qz) qx qz w17 SD.out.2.1 SD.out.2.2.2 SW.out.2.1 SW.out.2.2.2).mono ?_
  rintro e w18 ⟨rfl, hb⟩
  have Q18 := Lib.hid (Q17.out.below hb)
  have R18 := Lib.hid (R17.out.below hb)
  have W18 := Lib.hid (bthen W17.out hb)
  have O18 := Lib.hid (O17.out.below hb)
  have G18 := Lib.hid (G17.out.below hb)
  have M18 := Lib.hid (M17.out.below hb)
  have ltm18 : MB < w18.heap.size := by have := hb.size; omega
  have lt18 : w.heap.size + 1 + 1 < w18.heap.size := by have := hb.size; omega
  have lq18 : w.heap.size < w18.heap.size := by omega
  clear hb Q17 R17 W17 O17 G17 lt17 lq17 x0 x1 x2 x3 M17 ltm17
  obtain ⟨x0, x1, x2, x3⟩ := Q18.out.all
  go_wp2_with fail
  refine (wsub_calls _ 4294967296 (D2 (qx + qx) (qz + qz) qx qz) F1.out.1 (D2_fits SD.out.2.1 SD.out.2.2.2 SW.out.2.1 SW.out.2.2.2).1 (D2_fits SD.out.2.1 SD.out.2.2.2 SW.out.2.1 SW.out.2.2.2).2 _).mono ?_
  rintro e w19 ⟨rfl, hb⟩
  have Q19 := Lib.hid (Q18.out.below hb)
  have R19 := Lib.hid (R18.out.below hb)
  have W19 := Lib.hid (bthen W18.out hb)
  have O19 := Lib.hid (O18.out.below hb)
  have G19 := Lib.hid (G18.out.below hb)
  have M19 := Lib.hid (M18.out.below hb)
  have ltm19 : MB < w19.heap.size := by have := hb.size; omega
  have lt19 : w.heap.size + 1 + 1 < w19.heap.size := by have := hb.size; omega
  have lq19 : w.heap.size < w19.heap.size := by omega
  clear hb Q18 R18 W18 O18 G18 lt18 lq18 x0 x1 x2 x3 M18 ltm18
  obtain ⟨x0, x1, x2, x3⟩ := Q19.out.all
  have mc : w19.cell? ⟨MB, 4, none⟩ = some (.int .i64 0) := (blk_cell M19.out 4).trans rfl
  have mf : w19.frozen? ⟨MB, 4, none⟩ = false := blk_frozen M19.out 4
  have Mn := M19.out.set4 (4294967296 - D2 (qx + qx) (qz + qz) qx qz)
  have Qn := (Below.heap_setCell w19 ⟨MB, 4, none⟩ (.int .i64 (4294967296 - D2 (qx + qx) (qz + qz) qx qz)) w.heap.size (by simp; omega)).trans Q19.out
  have Rn := (Below.heap_setCell w19 ⟨MB, 4, none⟩ (.int .i64 (4294967296 - D2 (qx + qx) (qz + qz) qx qz)) (w.heap.size + 1) (by simp; omega)).trans R19.out
  have On := (Below.heap_setCell w19 ⟨MB, 4, none⟩ (.int .i64 (4294967296 - D2 (qx + qx) (qz + qz) qx qz)) (w.heap.size + 1 + 1) (by simp; omega)).trans O19.out
  have Wn := W19.out.setCell (p := ⟨MB, 4, none⟩) (by simp; omega) (.int .i64 (4294967296 - D2 (qx + qx) (qz + qz) qx qz))
  have ltn : w.heap.size + 1 + 1 < (w19.setCell ⟨MB, 4, none⟩ (.int .i64 (4294967296 - D2 (qx + qx) (qz + qz) qx qz))).heap.size := by simp; omega
  have ltmn : MB < (w19.setCell ⟨MB, 4, none⟩ (.int .i64 (4294967296 - D2 (qx + qx) (qz + qz) qx qz))).heap.size := by simp; omega
  have gne : g ≠ MB := by omega
  have Gn := (Below.heap_setCell w19 ⟨MB, 4, none⟩ (.int .i64 (4294967296 - D2 (qx + qx) (qz + qz) qx qz)) g (by simpa using gne)).trans G19.out
  obtain ⟨w20, hw⟩ : ∃ w', w19.setCell ⟨MB, 4, none⟩ (.int .i64 (4294967296 - D2 (qx + qx) (qz + qz) qx qz)) = w' := ⟨_, rfl⟩
  rw [hw] at Mn Qn Rn On Wn Gn ltn ltmn
  have Q20 : Hid (Qk w20 w.heap.size ⟨qw, qx, qy, qz⟩) := Lib.hid Qn
  have R20 : Hid (Nk w20 (w.heap.size + 1) 0 0 0 0 0 0 0 0 0) := Lib.hid Rn
  have O20 : Hid (Wk w20 (w.heap.size + 1 + 1)) := Lib.hid On
  have G20 : Hid (Wk w20 g) := Lib.hid Gn
  have W20 := Lib.hid Wn
  have M20 := Lib.hid Mn
  have lt20 := ltn
  have ltm20 := ltmn
  have lq20 : w.heap.size < w20.heap.size := by omega
  clear Mn Qn Rn On Wn Gn ltn ltmn gne Q19 R19 W19 O19 G19 M19 lt19 lq19 ltm19 x0 x1 x2 x3
  obtain ⟨x0, x1, x2, x3⟩ := Q20.out.all
  go_wp2_with fail
  clear mc mf hw
  refine (wdot2_calls _ (qy + qy) (qw + qw) qz (-qx) w20 SD.out.2.2.1 SD.out.1 SW.out.2.2.2 SN.out.1).mono ?_
  rintro e w21 ⟨rfl, hb⟩
  have Q21 := Lib.hid (Q20.out.below hb)
  have R21 := Lib.hid (R20.out.below hb)
  have W21 := Lib.hid (bthen W20.out hb)
  have O21 := Lib.hid (O20.out.below hb)
  have G21 := Lib.hid (G20.out.below hb)
  have M21 := Lib.hid (M20.out.below hb)
  have ltm21 : MB < w21.heap.size := by have := hb.size; omega
  have lt21 : w.heap.size + 1 + 1 < w21.heap.size := by have := hb.size; omega
  have lq21 : w.heap.size < w21.heap.size := by omega
  clear hb Q20 R20 W20 O20 G20 lt20 lq20 x0 x1 x2 x3 M20 ltm20
  obtain ⟨x0, x1, x2, x3⟩ := Q21.out.all
  have mc : w21.cell? ⟨MB, 5, none⟩ = some (.int .i64 0) := (blk_cell M21.out 5).trans rfl
  have mf : w21.frozen? ⟨MB, 5, none⟩ = false := blk_frozen M21.out 5
  have Mn := M21.out.set5 (D2 (qy + qy) (qw + qw) qz (-qx))
  have Qn := (Below.heap_setCell w21 ⟨MB, 5, none⟩ (.int .i64 (D2 (qy + qy) (qw + qw) qz (-qx))) w.heap.size (by simp; omega)).trans Q21.out
  have Rn := (Below.heap_setCell w21 ⟨MB, 5, none⟩ (.int .i64 (D2 (qy + qy) (qw + qw) qz (-qx))) (w.heap.size + 1) (by simp; omega)).trans R21.out
  have On := (Below.heap_setCell w21 ⟨MB, 5, none⟩ (.int .i64 (D2 (qy + qy) (qw + qw) qz (-qx))) (w.heap.size + 1 + 1) (by simp; omega)).trans O21.out
  have Wn := W21.out.setCell (p := ⟨MB, 5, none⟩) (by simp; omega) (.int .i64 (D2 (qy + qy) (qw + qw) qz (-qx)))
  have ltn : w.heap.size + 1 + 1 < (w21.setCell ⟨MB, 5, none⟩ (.int .i64 (D2 (qy + qy) (qw + qw) qz (-qx)))).heap.size := by simp; omega
  have ltmn : MB < (w21.setCell ⟨MB, 5, none⟩ (.int .i64 (D2 (qy + qy) (qw + qw) qz (-qx)))).heap.size := by simp; omega
  have gne : g ≠ MB := by omega
  have Gn := (Below.heap_setCell w21 ⟨MB, 5, none⟩ (.int .i64 (D2 (qy + qy) (qw + qw) qz (-qx))) g (by simpa using gne)).trans G21.out
  obtain ⟨w22, hw⟩ : ∃ w', w21.setCell ⟨MB, 5, none⟩ (.int .i64 (D2 (qy + qy) (qw + qw) qz (-qx))) = w' := ⟨_, rfl⟩
  rw [hw] at Mn Qn Rn On Wn Gn ltn ltmn
  have Q22 : Hid (Qk w22 w.heap.size ⟨qw, qx, qy, qz⟩) := Lib.hid Qn
  have R22 : Hid (Nk w22 (w.heap.size + 1) 0 0 0 0 0 0 0 0 0) := Lib.hid Rn
  have O22 : Hid (Wk w22 (w.heap.size + 1 + 1)) := Lib.hid On
  have G22 : Hid (Wk w22 g) := Lib.hid Gn
  have W22 := Lib.hid Wn
  have M22 := Lib.hid Mn
  have lt22 := ltn
  have ltm22 := ltmn
  have lq22 : w.heap.size < w22.heap.size := by omega
  clear Mn Qn Rn On Wn Gn ltn ltmn gne Q21 R21 W21 O21 G21 M21 lt21 lq21 ltm21 x0 x1 x2 x3
  obtain ⟨x0, x1, x2, x3⟩ := Q22.out.all
  go_wp2_with fail
  clear mc mf hw
  refine (wdot2_calls _ (qx + qx) (qw + qw) qz (-qy) w22 SD.out.2.1 SD.out.1 SW.out.2.2.2 SN.out.2.1).mono ?_
  rintro e w23 ⟨rfl, hb⟩
  have Q23 := Lib.hid (Q22.out.below hb)
  have R23 := Lib.hid (R22.out.below hb)
  have W23 := Lib.hid (bthen W22.out hb)
  have O23 := Lib.hid (O22.out.below hb)
  have G23 := Lib.hid (G22.out.below hb)
  have M23 := Lib.hid (M22.out.below hb)
  have ltm23 : MB < w23.heap.size := by have := hb.size; omega
  have lt23 : w.heap.size + 1 + 1 < w23.heap.size := by have := hb.size; omega
  have lq23 : w.heap.size < w23.heap.size := by omega
  clear hb Q22 R22 W22 O22 G22 lt22 lq22 x0 x1 x2 x3 M22 ltm22
  obtain ⟨x0, x1, x2, x3⟩ := Q23.out.all
  have mc : w23.cell? ⟨MB, 6, none⟩ = some (.int .i64 0) := (blk_cell M23.out 6).trans rfl
  have mf : w23.frozen? ⟨MB, 6, none⟩ = false := blk_frozen M23.out 6
  have Mn := M23.out.set6 (D2 (qx + qx) (qw + qw) qz (-qy))
  have Qn := (Below.heap_setCell w23 ⟨MB, 6, none⟩ (.int .i64 (D2 (qx + qx) (qw + qw) qz (-qy))) w.heap.size (by simp; omega)).trans Q23.out
  have Rn := (Below.heap_setCell w23 ⟨MB, 6, none⟩ (.int .i64 (D2 (qx + qx) (qw + qw) qz (-qy))) (w.heap.size + 1) (by simp; omega)).trans R23.out
  have On := (Below.heap_setCell w23 ⟨MB, 6, none⟩ (.int .i64 (D2 (qx + qx) (qw + qw) qz (-qy))) (w.heap.size + 1 + 1) (by simp; omega)).trans O23.out
  have Wn := W23.out.setCell (p := ⟨MB, 6, none⟩) (by simp; omega) (.int .i64 (D2 (qx + qx) (qw + qw) qz (-qy)))
  have ltn : w.heap.size + 1 + 1 < (w23.setCell ⟨MB, 6, none⟩ (.int .i64 (D2 (qx + qx) (qw + qw) qz (-qy)))).heap.size := by simp; omega
  have ltmn : MB < (w23.setCell ⟨MB, 6, none⟩ (.int .i64 (D2 (qx + qx) (qw + qw) qz (-qy)))).heap.size := by simp; omega
  have gne : g ≠ MB := by omega
  have Gn := (Below.heap_setCell w23 ⟨MB, 6, none⟩ (.int .i64 (D2 (qx + qx) (qw + qw) qz (-qy))) g (by simpa using gne)).trans G23.out
  obtain ⟨w24, hw⟩ : ∃ w', w23.setCell ⟨MB, 6, none⟩ (.int .i64 (D2 (qx + qx) (qw + qw) qz (-qy))) = w' := ⟨_, rfl⟩
  rw [hw] at Mn Qn Rn On Wn Gn ltn ltmn
  have Q24 : Hid (Qk w24 w.heap.size ⟨qw, qx, qy, qz⟩) := Lib.hid Qn
  have R24 : Hid (Nk w24 (w.heap.size + 1) 0 0 0 0 0 0 0 0 0) := Lib.hid Rn
  have O24 : Hid (Wk w24 (w.heap.size + 1 + 1)) := Lib.hid On
  have G24 : Hid (Wk w24 g) := Lib.hid Gn
  have W24 := Lib.hid Wn
  have M24 := Lib.hid Mn
  have lt24 := ltn
  have ltm24 := ltmn
  have lq24 : w.heap.size < w24.heap.size := by omega
  clear Mn Qn Rn On Wn Gn ltn ltmn gne Q23 R23 W23 O23 G23 M23 lt23 lq23 ltm23 x0 x1 x2 x3
  obtain ⟨x0, x1, x2, x3⟩ := Q24.out.all
  go_wp2_with fail
  clear mc mf hw
  refine (wdot2_calls _ (qy + qy) (qw + qw) qz qx w24 SD.out.2.2.1 SD.out.1 SW.out.2.2.2 SW.out.2.1).mono ?_
  rintro e w25 ⟨rfl, hb⟩
  have Q25 := Lib.hid (Q24.out.below hb)
  have R25 := Lib.hid (R24.out.below hb)
  have W25 := Lib.hid (bthen W24.out hb)
  have O25 := Lib.hid (O24.out.below hb)
  have G25 := Lib.hid (G24.out.below hb)
  have M25 := Lib.hid (M24.out.below hb)
  have ltm25 : MB < w25.heap.size := by have := hb.size; omega
  have lt25 : w.heap.size + 1 + 1 < w25.heap.size := by have := hb.size; omega
  have lq25 : w.heap.size < w25.heap.size := by omega
  clear hb Q24 R24 W24 O24 G24 lt24 lq24 x0 x1 x2 x3 M24 ltm24
  obtain ⟨x0, x1, x2, x3⟩ := Q25.out.all
  have mc : w25.cell? ⟨MB, 7, none⟩ = some (.int .i64 0) := (blk_cell M25.out 7).trans rfl
  have mf : w25.frozen? ⟨MB, 7, none⟩ = false := blk_frozen M25.out 7
  have Mn := M25.out.set7 (D2 (qy + qy) (qw + qw) qz qx)
  have Qn := (Below.heap_setCell w25 ⟨MB, 7, none⟩ (.int .i64 (D2 (qy + qy) (qw + qw) qz qx)) w.heap.size (by simp; omega)).trans Q25.out
  have Rn := (Below.heap_setCell w25 ⟨MB, 7, none⟩ (.int .i64 (D2 (qy + qy) (qw + qw) qz qx)) (w.heap.size + 1) (by simp; omega)).trans R25.out
  have On := (Below.heap_setCell w25 ⟨MB, 7, none⟩ (.int .i64 (D2 (qy + qy) (qw + qw) qz qx)) (w.heap.size + 1 + 1) (by simp; omega)).trans O25.out
  have Wn := W25.out.setCell (p := ⟨MB, 7, none⟩) (by simp; omega) (.int .i64 (D2 (qy + qy) (qw + qw) qz qx))
  have ltn : w.heap.size + 1 + 1 < (w25.setCell ⟨MB, 7, none⟩ (.int .i64 (D2 (qy + qy) (qw + qw) qz qx))).heap.size := by simp; omega
  have ltmn : MB < (w25.setCell ⟨MB, 7, none⟩ (.int .i64 (D2 (qy + qy) (qw + qw) qz qx))).heap.size := by simp; omega
  have gne : g ≠ MB := by omega
  have Gn := (Below.heap_setCell w25 ⟨MB, 7, none⟩ (.int .i64 (D2 (qy + qy) (qw + qw) qz qx)) g (by simpa using gne)).trans G25.out
  obtain ⟨w26, hw⟩ : ∃ w', w25.setCell ⟨MB, 7, none⟩ (.int .i64 (D2 (qy + qy) (qw + qw) qz qx)) = w' := ⟨_, rfl⟩
  rw [hw] at Mn Qn Rn On Wn Gn ltn ltmn
  have Q26 : Hid (Qk w26 w.heap.size ⟨qw, qx, qy, qz⟩) := Lib.hid Qn
  have R26 : Hid (Nk w26 (w.heap.size + 1) 0 0 0 0 0 0 0 0 0) := Lib.hid Rn
  have O26 : Hid (Wk w26 (w.heap.size + 1 + 1)) := Lib.hid On
  have G26 : Hid (Wk w26 g) := Lib.hid Gn
  have W26 := Lib.hid Wn
  have M26 := Lib.hid Mn
  have lt26 := ltn
  have ltm26 := ltmn
  have lq26 : w.heap.size < w26.heap.size := by omega
  clear Mn Qn Rn On Wn Gn ltn ltmn gne Q25 R25 W25 O25 G25 M25 lt25 lq25 ltm25 x0 x1 x2 x3
  obtain ⟨x0, x1, x2, x3⟩ := Q26.out.all
  go_wp2_with fail
  clear mc mf hw
  refine (wdot2_calls _ (qx + qx) (qy + qy) qx qy w26 SD.out.2.1 SD.out.2.2.1 SW.out.2.1 SW.out.2.2.1).mono ?_
  rintro e w27 ⟨rfl, hb⟩
  have Q27 := Lib.hid (Q26.out.below hb)
  have R27 := Lib.hid (R26.out.below hb)
  have W27 := Lib.hid (bthen W26.out hb)
  have O27 := Lib.hid (O26.out.below hb)
  have G27 := Lib.hid (G26.out.below hb)
  have M27 := Lib.hid (M26.out.below hb)
  have ltm27 : MB < w27.heap.size := by have := hb.size; omega
  have lt27 : w.heap.size + 1 + 1 < w27.heap.size := by have := hb.size; omega
  have lq27 : w.heap.size < w27.heap.size := by omega
  clear hb Q26 R26 W26 O26 G26 lt26 lq26 x0 x1 x2 x3 M26 ltm26
  obtain ⟨x0, x1, x2, x3⟩ := Q27.out.all
  go_wp2_with fail
  refine (wsub_calls _ 4294967296 (D2 (qx + qx) (qy + qy) qx qy) F1.out.1 (D2_fits SD.out.2.1 SD.out.2.2.1 SW.out.2.1 SW.out.2.2.1).1 (D2_fits SD.out.2.1 SD.out.2.2.1 SW.out.2.1 SW.out.2.2.1).2 _).mono ?_
  rintro e w28 ⟨rfl, hb⟩
  have Q28 := Lib.hid (Q27.out.below hb)
  have R28 := Lib.hid (R27.out.below hb)
  have W28 := Lib.hid (bthen W27.out hb)
  have O28 := Lib.hid (O27.out.below hb)
  have G28 := Lib.hid (G27.out.below hb)
  have M28 := Lib.hid (M27.out.below hb)
  have ltm28 : MB < w28.heap.size := by have := hb.size; omega
  have lt28 : w.heap.size + 1 + 1 < w28.heap.size := by have := hb.size; omega
  have lq28 : w.heap.size < w28.heap.size := by omega
  clear hb Q27 R27 W27 O27 G27 lt27 lq27 x0 x1 x2 x3 M27 ltm27
  obtain ⟨x0, x1, x2, x3⟩ := Q28.out.all
  have mc : w28.cell? ⟨MB, 8, none⟩ = some (.int .i64 0) := (blk_cell M28.out 8).trans rfl
  have mf : w28.frozen? ⟨MB, 8, none⟩ = false := blk_frozen M28.out 8
  have Mn := M28.out.set8 (4294967296 - D2 (qx + qx) (qy + qy) qx qy)
  have Qn := (Below.heap_setCell w28 ⟨MB, 8, none⟩ (.int .i64 (4294967296 - D2 (qx + qx) (qy + qy) qx qy)) w.heap.size (by simp; omega)).trans Q28.out
  have Rn := (Below.heap_setCell w28 ⟨MB, 8, none⟩ (.int .i64 (4294967296 - D2 (qx + qx) (qy + qy) qx qy)) (w.heap.size + 1) (by simp; omega)).trans R28.out
  have On := (Below.heap_setCell w28 ⟨MB, 8, none⟩ (.int .i64 (4294967296 - D2 (qx + qx) (qy + qy) qx qy)) (w.heap.size + 1 + 1) (by simp; omega)).trans O28.out
  have Wn := W28.out.setCell (p := ⟨MB, 8, none⟩) (by simp; omega) (.int .i64 (4294967296 - D2 (qx + qx) (qy + qy) qx qy))
  have ltn : w.heap.size + 1 + 1 < (w28.setCell ⟨MB, 8, none⟩ (.int .i64 (4294967296 - D2 (qx + qx) (qy + qy) qx qy))).heap.size := by simp; omega
  have ltmn : MB < (w28.setCell ⟨MB, 8, none⟩ (.int .i64 (4294967296 - D2 (qx + qx) (qy + qy) qx qy))).heap.size := by simp; omega
  have gne : g ≠ MB := by omega
  have Gn := (Below.heap_setCell w28 ⟨MB, 8, none⟩ (.int .i64 (4294967296 - D2 (qx + qx) (qy + qy) qx qy)) g (by simpa using gne)).trans G28.out
  obtain ⟨w29, hw⟩ : ∃ w', w28.setCell ⟨MB, 8, none⟩ (.int .i64 (4294967296 - D2 (qx + qx) (qy + qy) qx qy)) = w' := ⟨_, rfl⟩
  rw [hw] at Mn Qn Rn On Wn Gn ltn ltmn
  have Q29 : Hid (Qk w29 w.heap.size ⟨qw, qx, qy, qz⟩) := Lib.hid Qn
  have R29 : Hid (Nk w29 (w.heap.size + 1) 0 0 0 0 0 0 0 0 0) := Lib.hid Rn
  have O29 : Hid (Wk w29 (w.heap.size + 1 + 1)) := Lib.hid On
  have G29 : Hid (Wk w29 g) := Lib.hid Gn
  have W29 := Lib.hid Wn
  have M29 := Lib.hid Mn
  have lt29 := ltn
  have ltm29 := ltmn
  have lq29 : w.heap.size < w29.heap.size := by omega
  clear Mn Qn Rn On Wn Gn ltn ltmn gne Q28 R28 W28 O28 G28 M28 lt28 lq28 ltm28 x0 x1 x2 x3
  obtain ⟨x0, x1, x2, x3⟩ := Q29.out.all
  go_wp2_with fail
  clear mc mf hw
  refine (done_calls g (w.heap.size + 1 + 1) w29 G29.out.cell G29.out.fz O29.out.cell).mono ?_
  rintro e w30 ⟨rfl, rfl⟩
  clear x0 x1 x2 x3
  have HF : rowsF ⟨qw, qx, qy, qz⟩ = ⟨⟨4294967296 - D2 (qy + qy) (qz + qz) qy qz, D2 (qx + qx) (qw + qw) qy (-qz), D2 (qx + qx) (qw + qw) qz qy⟩, ⟨D2 (qx + qx) (qw + qw) qy qz, 4294967296 - D2 (qx + qx) (qz + qz) qx qz, D2 (qy + qy) (qw + qw) qz (-qx)⟩, ⟨D2 (qx + qx) (qw + qw) qz (-qy), D2 (qy + qy) (qw + qw) qz qx, 4294967296 - D2 (qx + qx) (qy + qy) qx qy⟩⟩ := rfl
  have HFF := Lib.hid HF
  clear HF
  generalize 4294967296 - D2 (qy + qy) (qz + qz) qy qz = r0 at M29 HFF
  generalize D2 (qx + qx) (qw + qw) qy (-qz) = r1 at M29 HFF
  generalize D2 (qx + qx) (qw + qw) qz qy = r2 at M29 HFF
  generalize D2 (qx + qx) (qw + qw) qy qz = r3 at M29 HFF
  generalize 4294967296 - D2 (qx + qx) (qz + qz) qx qz = r4 at M29 HFF
  generalize D2 (qy + qy) (qw + qw) qz (-qx) = r5 at M29 HFF
  generalize D2 (qx + qx) (qw + qw) qz (-qy) = r6 at M29 HFF
  generalize D2 (qy + qy) (qw + qw) qz qx = r7 at M29 HFF
  generalize 4294967296 - D2 (qx + qx) (qy + qy) qx qy = r8 at M29 HFF
  have m0 : w30.cell? ⟨MB, 0, none⟩ = some (.int .i64 r0) := (blk_cell M29.out 0).trans rfl
  have k0 : w30.cell? ⟨w.heap.size + 1, 0, none⟩ = some (.int .i64 0) := (blk_cell R29.out 0).trans rfl
  have f0 : w30.frozen? ⟨w.heap.size + 1, 0, none⟩ = false := blk_frozen R29.out 0
  have m1 : w30.cell? ⟨MB, 1, none⟩ = some (.int .i64 r1) := (blk_cell M29.out 1).trans rfl
  have k1 : w30.cell? ⟨w.heap.size + 1, 1, none⟩ = some (.int .i64 0) := (blk_cell R29.out 1).trans rfl
  have f1 : w30.frozen? ⟨w.heap.size + 1, 1, none⟩ = false := blk_frozen R29.out 1
  have m2 : w30.cell? ⟨MB, 2, none⟩ = some (.int .i64 r2) := (blk_cell M29.out 2).trans rfl
  have k2 : w30.cell? ⟨w.heap.size + 1, 2, none⟩ = some (.int .i64 0) := (blk_cell R29.out 2).trans rfl
  have f2 : w30.frozen? ⟨w.heap.size + 1, 2, none⟩ = false := blk_frozen R29.out 2
  have m3 : w30.cell? ⟨MB, 3, none⟩ = some (.int .i64 r3) := (blk_cell M29.out 3).trans rfl
  have k3 : w30.cell? ⟨w.heap.size + 1, 3, none⟩ = some (.int .i64 0) := (blk_cell R29.out 3).trans rfl
  have f3 : w30.frozen? ⟨w.heap.size + 1, 3, none⟩ = false := blk_frozen R29.out 3
  have m4 : w30.cell? ⟨MB, 4, none⟩ = some (.int .i64 r4) := (blk_cell M29.out 4).trans rfl
  have k4 : w30.cell? ⟨w.heap.size + 1, 4, none⟩ = some (.int .i64 0) := (blk_cell R29.out 4).trans rfl
  have f4 : w30.frozen? ⟨w.heap.size + 1, 4, none⟩ = false := blk_frozen R29.out 4
  have m5 : w30.cell? ⟨MB, 5, none⟩ = some (.int .i64 r5) := (blk_cell M29.out 5).trans rfl
  have k5 : w30.cell? ⟨w.heap.size + 1, 5, none⟩ = some (.int .i64 0) := (blk_cell R29.out 5).trans rfl
  have f5 : w30.frozen? ⟨w.heap.size + 1, 5, none⟩ = false := blk_frozen R29.out 5
  have m6 : w30.cell? ⟨MB, 6, none⟩ = some (.int .i64 r6) := (blk_cell M29.out 6).trans rfl
  have k6 : w30.cell? ⟨w.heap.size + 1, 6, none⟩ = some (.int .i64 0) := (blk_cell R29.out 6).trans rfl
  have f6 : w30.frozen? ⟨w.heap.size + 1, 6, none⟩ = false := blk_frozen R29.out 6
  have m7 : w30.cell? ⟨MB, 7, none⟩ = some (.int .i64 r7) := (blk_cell M29.out 7).trans rfl
  have k7 : w30.cell? ⟨w.heap.size + 1, 7, none⟩ = some (.int .i64 0) := (blk_cell R29.out 7).trans rfl
  have f7 : w30.frozen? ⟨w.heap.size + 1, 7, none⟩ = false := blk_frozen R29.out 7
  have m8 : w30.cell? ⟨MB, 8, none⟩ = some (.int .i64 r8) := (blk_cell M29.out 8).trans rfl
  have k8 : w30.cell? ⟨w.heap.size + 1, 8, none⟩ = some (.int .i64 0) := (blk_cell R29.out 8).trans rfl
  have f8 : w30.frozen? ⟨w.heap.size + 1, 8, none⟩ = false := blk_frozen R29.out 8
  have HS : Nk _ _ _ _ _ _ _ _ _ _ _ := blk9 R29.out (.int .i64 r0) (.int .i64 r1) (.int .i64 r2) (.int .i64 r3) (.int .i64 r4) (.int .i64 r5) (.int .i64 r6) (.int .i64 r7) (.int .i64 r8)
  have HW := below_set9 W29.out (g := w.heap.size + 1) (by omega) (.int .i64 r0) (.int .i64 r1) (.int .i64 r2) (.int .i64 r3) (.int .i64 r4) (.int .i64 r5) (.int .i64 r6) (.int .i64 r7) (.int .i64 r8)
  obtain ⟨V, hV⟩ : ∃ V, set9 w30 (w.heap.size + 1) (.int .i64 r0) (.int .i64 r1) (.int .i64 r2) (.int .i64 r3) (.int .i64 r4) (.int .i64 r5) (.int .i64 r6) (.int .i64 r7) (.int .i64 r8) = V := ⟨_, rfl⟩
  rw [hV] at HS HW
  have t0 : V.cell? ⟨w.heap.size + 1, 0, none⟩ = some (.int .i64 r0) := (blk_cell HS 0).trans rfl
  have t1 : V.cell? ⟨w.heap.size + 1, 1, none⟩ = some (.int .i64 r1) := (blk_cell HS 1).trans rfl
  have t2 : V.cell? ⟨w.heap.size + 1, 2, none⟩ = some (.int .i64 r2) := (blk_cell HS 2).trans rfl
  have t3 : V.cell? ⟨w.heap.size + 1, 3, none⟩ = some (.int .i64 r3) := (blk_cell HS 3).trans rfl
  have t4 : V.cell? ⟨w.heap.size + 1, 4, none⟩ = some (.int .i64 r4) := (blk_cell HS 4).trans rfl
  have t5 : V.cell? ⟨w.heap.size + 1, 5, none⟩ = some (.int .i64 r5) := (blk_cell HS 5).trans rfl
  have t6 : V.cell? ⟨w.heap.size + 1, 6, none⟩ = some (.int .i64 r6) := (blk_cell HS 6).trans rfl
  have t7 : V.cell? ⟨w.heap.size + 1, 7, none⟩ = some (.int .i64 r7) := (blk_cell HS 7).trans rfl
  have t8 : V.cell? ⟨w.heap.size + 1, 8, none⟩ = some (.int .i64 r8) := (blk_cell HS 8).trans rfl
  unfold set9 at hV
  have HV := Lib.hid hV
  have HW := Lib.hid HW
  clear hV HS
  go_wp2
  rw [HV.out, HFF.out]
  exact bodyPost_ret (v := aM ⟨⟨r0, r1, r2⟩, ⟨r3, r4, r5⟩, ⟨r6, r7, r8⟩⟩) (by simp [results, Try.results108, go_sem, t0, t1, t2, t3, t4, t5, t6, t7, t8]) rfl ⟨rfl, HW.out⟩
end Go.Proofs.Ytckdhahceelckaa.G
namespace Go.Proofs.Ytckdhahceelckaa.G
open Go.RowKit Go.Proofs.YtckdhahceelckaaW.PrintWords Go.Proofs.YtckdhahceelckaaW.PrintLast Go.Proofs.YtckdhahceelckaaW.PrintMore
attribute [local go_sem] max2_mx min2_mn max_two min_two max_three min_three max_four min_four
set_option linter.unusedVariables false
set_option linter.unusedSimpArgs false
theorem bs1 {W : World} {g : Nat} {b0 : Value} {t : TypeId} (h : W.heap[g]? = some (.cells #[b0] t (0, 0))) (a0 : Value) :
    (W.setCell ⟨g, 0, none⟩ a0).heap[g]? = some (.cells #[a0] t (0, 0)) := by
  have h0 := blk_set h 0 a0
  simp only [List.setIfInBounds_toArray, List.set_cons_zero, List.set_cons_succ] at h0
  exact h0
theorem bb1 {B : Nat} {A W : World} {g : Nat} (h : Below B A W) (hg : B ≤ g) (a0 : Value) : Below B A (W.setCell ⟨g, 0, none⟩ a0) := (h.setCell (p := ⟨g, 0, none⟩) hg a0)
theorem bo1 {W : World} {g k : Nat} (h : k ≠ g) (a0 : Value) : (W.setCell ⟨g, 0, none⟩ a0).heap[k]? = W.heap[k]? :=
   (Below.heap_setCell _ _ _ k h)
theorem bs3 {W : World} {g : Nat} {b0 b1 b2 : Value} {t : TypeId} (h : W.heap[g]? = some (.cells #[b0, b1, b2] t (0, 0))) (a0 a1 a2 : Value) :
    (((W.setCell ⟨g, 0, none⟩ a0).setCell ⟨g, 1, none⟩ a1).setCell ⟨g, 2, none⟩ a2).heap[g]? = some (.cells #[a0, a1, a2] t (0, 0)) := by
  have h0 := blk_set h 0 a0
  have h1 := blk_set h0 1 a1
  have h2 := blk_set h1 2 a2
  simp only [List.setIfInBounds_toArray, List.set_cons_zero, List.set_cons_succ] at h2
  exact h2
theorem bb3 {B : Nat} {A W : World} {g : Nat} (h : Below B A W) (hg : B ≤ g) (a0 a1 a2 : Value) : Below B A (((W.setCell ⟨g, 0, none⟩ a0).setCell ⟨g, 1, none⟩ a1).setCell ⟨g, 2, none⟩ a2) := (((h.setCell (p := ⟨g, 0, none⟩) hg a0).setCell (p := ⟨g, 1, none⟩) hg a1).setCell (p := ⟨g, 2, none⟩) hg a2)
theorem bo3 {W : World} {g k : Nat} (h : k ≠ g) (a0 a1 a2 : Value) : (((W.setCell ⟨g, 0, none⟩ a0).setCell ⟨g, 1, none⟩ a1).setCell ⟨g, 2, none⟩ a2).heap[k]? = W.heap[k]? :=
  (Below.heap_setCell _ _ _ k h).trans ( (Below.heap_setCell _ _ _ k h).trans ( (Below.heap_setCell _ _ _ k h)))
theorem bs4 {W : World} {g : Nat} {b0 b1 b2 b3 : Value} {t : TypeId} (h : W.heap[g]? = some (.cells #[b0, b1, b2, b3] t (0, 0))) (a0 a1 a2 a3 : Value) :
    ((((W.setCell ⟨g, 0, none⟩ a0).setCell ⟨g, 1, none⟩ a1).setCell ⟨g, 2, none⟩ a2).setCell ⟨g, 3, none⟩ a3).heap[g]? = some (.cells #[a0, a1, a2, a3] t (0, 0)) := by
  have h0 := blk_set h 0 a0
  have h1 := blk_set h0 1 a1
  have h2 := blk_set h1 2 a2
  have h3 := blk_set h2 3 a3
  simp only [List.setIfInBounds_toArray, List.set_cons_zero, List.set_cons_succ] at h3
  exact h3
theorem bb4 {B : Nat} {A W : World} {g : Nat} (h : Below B A W) (hg : B ≤ g) (a0 a1 a2 a3 : Value) : Below B A ((((W.setCell ⟨g, 0, none⟩ a0).setCell ⟨g, 1, none⟩ a1).setCell ⟨g, 2, none⟩ a2).setCell ⟨g, 3, none⟩ a3) := ((((h.setCell (p := ⟨g, 0, none⟩) hg a0).setCell (p := ⟨g, 1, none⟩) hg a1).setCell (p := ⟨g, 2, none⟩) hg a2).setCell (p := ⟨g, 3, none⟩) hg a3)
theorem bo4 {W : World} {g k : Nat} (h : k ≠ g) (a0 a1 a2 a3 : Value) : ((((W.setCell ⟨g, 0, none⟩ a0).setCell ⟨g, 1, none⟩ a1).setCell ⟨g, 2, none⟩ a2).setCell ⟨g, 3, none⟩ a3).heap[k]? = W.heap[k]? :=
  (Below.heap_setCell _ _ _ k h).trans ( (Below.heap_setCell _ _ _ k h).trans ( (Below.heap_setCell _ _ _ k h).trans ( (Below.heap_setCell _ _ _ k h))))
theorem bs6 {W : World} {g : Nat} {b0 b1 b2 b3 b4 b5 : Value} {t : TypeId} (h : W.heap[g]? = some (.cells #[b0, b1, b2, b3, b4, b5] t (0, 0))) (a0 a1 a2 a3 a4 a5 : Value) :
    ((((((W.setCell ⟨g, 0, none⟩ a0).setCell ⟨g, 1, none⟩ a1).setCell ⟨g, 2, none⟩ a2).setCell ⟨g, 3, none⟩ a3).setCell ⟨g, 4, none⟩ a4).setCell ⟨g, 5, none⟩ a5).heap[g]? = some (.cells #[a0, a1, a2, a3, a4, a5] t (0, 0)) := by
  have h0 := blk_set h 0 a0
  have h1 := blk_set h0 1 a1
  have h2 := blk_set h1 2 a2
  have h3 := blk_set h2 3 a3
  have h4 := blk_set h3 4 a4
  have h5 := blk_set h4 5 a5
  simp only [List.setIfInBounds_toArray, List.set_cons_zero, List.set_cons_succ] at h5
  exact h5
theorem bb6 {B : Nat} {A W : World} {g : Nat} (h : Below B A W) (hg : B ≤ g) (a0 a1 a2 a3 a4 a5 : Value) : Below B A ((((((W.setCell ⟨g, 0, none⟩ a0).setCell ⟨g, 1, none⟩ a1).setCell ⟨g, 2, none⟩ a2).setCell ⟨g, 3, none⟩ a3).setCell ⟨g, 4, none⟩ a4).setCell ⟨g, 5, none⟩ a5) := ((((((h.setCell (p := ⟨g, 0, none⟩) hg a0).setCell (p := ⟨g, 1, none⟩) hg a1).setCell (p := ⟨g, 2, none⟩) hg a2).setCell (p := ⟨g, 3, none⟩) hg a3).setCell (p := ⟨g, 4, none⟩) hg a4).setCell (p := ⟨g, 5, none⟩) hg a5)
theorem bo6 {W : World} {g k : Nat} (h : k ≠ g) (a0 a1 a2 a3 a4 a5 : Value) : ((((((W.setCell ⟨g, 0, none⟩ a0).setCell ⟨g, 1, none⟩ a1).setCell ⟨g, 2, none⟩ a2).setCell ⟨g, 3, none⟩ a3).setCell ⟨g, 4, none⟩ a4).setCell ⟨g, 5, none⟩ a5).heap[k]? = W.heap[k]? :=
  (Below.heap_setCell _ _ _ k h).trans ( (Below.heap_setCell _ _ _ k h).trans ( (Below.heap_setCell _ _ _ k h).trans ( (Below.heap_setCell _ _ _ k h).trans ( (Below.heap_setCell _ _ _ k h).trans ( (Below.heap_setCell _ _ _ k h))))))
theorem bs7 {W : World} {g : Nat} {b0 b1 b2 b3 b4 b5 b6 : Value} {t : TypeId} (h : W.heap[g]? = some (.cells #[b0, b1, b2, b3, b4, b5, b6] t (0, 0))) (a0 a1 a2 a3 a4 a5 a6 : Value) :
    (((((((W.setCell ⟨g, 0, none⟩ a0).setCell ⟨g, 1, none⟩ a1).setCell ⟨g, 2, none⟩ a2).setCell ⟨g, 3, none⟩ a3).setCell ⟨g, 4, none⟩ a4).setCell ⟨g, 5, none⟩ a5).setCell ⟨g, 6, none⟩ a6).heap[g]? = some (.cells #[a0, a1, a2, a3, a4, a5, a6] t (0, 0)) := by
  have h0 := blk_set h 0 a0
  have h1 := blk_set h0 1 a1
  have h2 := blk_set h1 2 a2
  have h3 := blk_set h2 3 a3
  have h4 := blk_set h3 4 a4
  have h5 := blk_set h4 5 a5
  have h6 := blk_set h5 6 a6
  simp only [List.setIfInBounds_toArray, List.set_cons_zero, List.set_cons_succ] at h6
  exact h6
theorem bb7 {B : Nat} {A W : World} {g : Nat} (h : Below B A W) (hg : B ≤ g) (a0 a1 a2 a3 a4 a5 a6 : Value) : Below B A (((((((W.setCell ⟨g, 0, none⟩ a0).setCell ⟨g, 1, none⟩ a1).setCell ⟨g, 2, none⟩ a2).setCell ⟨g, 3, none⟩ a3).setCell ⟨g, 4, none⟩ a4).setCell ⟨g, 5, none⟩ a5).setCell ⟨g, 6, none⟩ a6) := (((((((h.setCell (p := ⟨g, 0, none⟩) hg a0).setCell (p := ⟨g, 1, none⟩) hg a1).setCell (p := ⟨g, 2, none⟩) hg a2).setCell (p := ⟨g, 3, none⟩) hg a3).setCell (p := ⟨g, 4, none⟩) hg a4).setCell (p := ⟨g, 5, none⟩) hg a5).setCell (p := ⟨g, 6, none⟩) hg a6)
theorem bo7 {W : World} {g k : Nat} (h : k ≠ g) (a0 a1 a2 a3 a4 a5 a6 : Value) : (((((((W.setCell ⟨g, 0, none⟩ a0).setCell ⟨g, 1, none⟩ a1).setCell ⟨g, 2, none⟩ a2).setCell ⟨g, 3, none⟩ a3).setCell ⟨g, 4, none⟩ a4).setCell ⟨g, 5, none⟩ a5).setCell ⟨g, 6, none⟩ a6).heap[k]? = W.heap[k]? :=
  (Below.heap_setCell _ _ _ k h).trans ( (Below.heap_setCell _ _ _ k h).trans ( (Below.heap_setCell _ _ _ k h).trans ( (Below.heap_setCell _ _ _ k h).trans ( (Below.heap_setCell _ _ _ k h).trans ( (Below.heap_setCell _ _ _ k h).trans ( (Below.heap_setCell _ _ _ k h)))))))
theorem ha_new {B : Nat} {A W : World} (h : Below B A W) (o : Obj) : (W.alloc o).heap[W.heap.size]? = some o := heap_alloc_new W o
/-- a raw number as one from -m to m -/
def partF (c m : Int) : Int := pickF c (2 * m + 1) - m
theorem partF_bd (c m : Int) (hm : 0 < m) : -m ≤ partF c m ∧ partF c m ≤ m := by have := pickF_bd c (2 * m + 1) (by omega); unfold partF; omega
set_option maxHeartbeats 1000000 in
theorem pick6_calls (c n : Int) (hc1 : -9223372036854775808 ≤ c) (hc2 : c ≤ 9223372036854775807) (hn : 0 < n) (hn2 : n ≤ 1152921504606846976) (w : World) :
    Calls Try.prog 162 #[.int .i64 c, .int .i64 n] w fun e w' => e = .returned (.int .i64 (pickF c n)) ∧ w' = w := by
  have hb := pickF_bd c n hn
  have hn0 : n ≠ 0 := by omega
  have hn1 : n ≠ -1 := by omega
  by_cases h : c < 0
  · have hd : decide (c < 0) = true := by simpa using h
    have e1 : IntKind.i64.wrap (c + 1) = c + 1 := iw_id _ (by omega) (by omega)
    have e2 : IntKind.i64.wrap (-(c + 1)) = -(c + 1) := iw_id _ (by omega) (by omega)
    have e3 : pickF c n = (-(c + 1)).tmod n := by unfold pickF; rw [if_pos h]
    have e4 : IntKind.i64.wrap ((-(c + 1)).tmod n) = (-(c + 1)).tmod n := iw_id _ (by rw [← e3]; omega) (by rw [← e3]; omega)
    rw [e3]
    go_enter Try.func162, Try.ntmps162
    go_wp2
    go_ret
    exact ⟨by show Ending.returned (Value.int .i64 (-(c + 1).tmod n)) = _; rw [Int.neg_tmod], rfl⟩
  · have hd : decide (c < 0) = false := by simpa using h
    have e3 : pickF c n = c.tmod n := by unfold pickF; rw [if_neg h]
    have e4 : IntKind.i64.wrap (c.tmod n) = c.tmod n := iw_id _ (by rw [← e3]; omega) (by rw [← e3]; omega)
    rw [e3]
    go_enter Try.func162, Try.ntmps162
    go_wp2
    go_ret
    exact ⟨by show Ending.returned (Value.int .i64 (c % n)) = _; rw [Int.tmod_eq_emod_of_nonneg (by omega)], rfl⟩
set_option maxHeartbeats 1000000 in
theorem part6_calls (c m : Int) (hc1 : -9223372036854775808 ≤ c) (hc2 : c ≤ 9223372036854775807) (hm : 0 < m) (hm2 : m ≤ 288230376151711744) (w : World) :
    Calls Try.prog 107 #[.int .i64 c, .int .i64 m] w fun e w' => e = .returned (.int .i64 (partF c m)) ∧ w' = w := by
  have hb := pickF_bd c (2 * m + 1) (by omega)
  have hq := Lib.hid (pick6_calls c (2 * m + 1) hc1 hc2 (by omega) (by omega))
  have hf : Hid (partF c m = pickF c (2 * m + 1) - m) := Lib.hid rfl
  obtain ⟨x, hx⟩ : ∃ x, pickF c (2 * m + 1) = x := ⟨_, rfl⟩
  rw [hx] at hq hf hb
  clear hx
  obtain ⟨b1, b2⟩ := hb
  go_enter Try.func107, Try.ntmps107
  go_wp2_with fail
  refine (hq.out _).mono ?_
  rintro e w1 ⟨rfl, rfl⟩
  go_wp2
  go_ret
  exact ⟨by rw [hf.out]; rfl, rfl⟩
set_option maxHeartbeats 1000000 in
theorem pick5_calls (c n : Int) (hc1 : -9223372036854775808 ≤ c) (hc2 : c ≤ 9223372036854775807) (hn : 0 < n) (hn2 : n ≤ 1152921504606846976) (w : World) :
    Calls Try.prog 104 #[.int .i64 c, .int .i64 n] w fun e w' => e = .returned (.int .i64 (pickF c n)) ∧ w' = w := by
  have hb := pickF_bd c n hn
  have hn0 : n ≠ 0 := by omega
  have hn1 : n ≠ -1 := by omega
  by_cases h : c < 0
  · have hd : decide (c < 0) = true := by simpa using h
    have e1 : IntKind.i64.wrap (c + 1) = c + 1 := iw_id _ (by omega) (by omega)
    have e2 : IntKind.i64.wrap (-(c + 1)) = -(c + 1) := iw_id _ (by omega) (by omega)
    have e3 : pickF c n = (-(c + 1)).tmod n := by unfold pickF; rw [if_pos h]
    have e4 : IntKind.i64.wrap ((-(c + 1)).tmod n) = (-(c + 1)).tmod n := iw_id _ (by rw [← e3]; omega) (by rw [← e3]; omega)
    rw [e3]
    go_enter Try.func104, Try.ntmps104
    go_wp2
    go_ret
    exact ⟨by show Ending.returned (Value.int .i64 (-(c + 1).tmod n)) = _; rw [Int.neg_tmod], rfl⟩
  · have hd : decide (c < 0) = false := by simpa using h
    have e3 : pickF c n = c.tmod n := by unfold pickF; rw [if_neg h]
    have e4 : IntKind.i64.wrap (c.tmod n) = c.tmod n := iw_id _ (by rw [← e3]; omega) (by rw [← e3]; omega)
    rw [e3]
    go_enter Try.func104, Try.ntmps104
    go_wp2
    go_ret
    exact ⟨by show Ending.returned (Value.int .i64 (c % n)) = _; rw [Int.tmod_eq_emod_of_nonneg (by omega)], rfl⟩
set_option maxHeartbeats 1000000 in
theorem part5_calls (c m : Int) (hc1 : -9223372036854775808 ≤ c) (hc2 : c ≤ 9223372036854775807) (hm : 0 < m) (hm2 : m ≤ 288230376151711744) (w : World) :
    Calls Try.prog 105 #[.int .i64 c, .int .i64 m] w fun e w' => e = .returned (.int .i64 (partF c m)) ∧ w' = w := by
  have hb := pickF_bd c (2 * m + 1) (by omega)
  have hq := Lib.hid (pick5_calls c (2 * m + 1) hc1 hc2 (by omega) (by omega))
  have hf : Hid (partF c m = pickF c (2 * m + 1) - m) := Lib.hid rfl
  obtain ⟨x, hx⟩ : ∃ x, pickF c (2 * m + 1) = x := ⟨_, rfl⟩
  rw [hx] at hq hf hb
  clear hx
  obtain ⟨b1, b2⟩ := hb
  go_enter Try.func105, Try.ntmps105
  go_wp2_with fail
  refine (hq.out _).mono ?_
  rintro e w1 ⟨rfl, rfl⟩
  go_wp2
  go_ret
  exact ⟨by rw [hf.out]; rfl, rfl⟩
set_option maxHeartbeats 4000000 in
theorem whole_bad (g : Nat) (q : Q4) (w : World) (hg : Wk w g) (h1 : raw40 q.w) (h2 : raw40 q.x) (h3 : raw40 q.y) (h4 : raw40 q.z) (hn : lenF q < 2147483648) :
    Calls Try.prog 106 #[.pointer (some ⟨g, 0, none⟩), aQ q] w fun e w' => e = .returned (aQ ⟨0, 0, 0, 0⟩) ∧ Below g w w' ∧ w'.cell? ⟨g, 0, none⟩ = some (.bool true) ∧ ∀ k, k < w.heap.size → k ≠ g → w'.heap[k]? = w.heap[k]? := by
  obtain ⟨qw, qx, qy, qz⟩ := q
  have HG := Lib.hid hg
  have hgl : g < w.heap.size := blk_lt hg
  have HL : Hid (∀ x ∈ [qw, qx, qy, qz], fits x) := Lib.hid (by intro x hx; simp at hx; rcases hx with rfl | rfl | rfl | rfl; exact h1.fits; exact h2.fits; exact h3.fits; exact h4.fits)
  have HS : Hid (dotL [qw, qx, qy, qz] [qw, qx, qy, qz] < 21267647932558653966460912964485513216) := Lib.hid (by
    rw [dotL4]; have a := h1.sq; have b := h2.sq; have c := h3.sq; have d := h4.sq; simp only at a b c d; omega)
  have HN : Hid (rtI (dotL [qw, qx, qy, qz] [qw, qx, qy, qz]) = lenF ⟨qw, qx, qy, qz⟩) := Lib.hid (by rw [dotL4]; rfl)
  clear hg h1 h2 h3 h4
  obtain ⟨N, hN⟩ : ∃ N, lenF ⟨qw, qx, qy, qz⟩ = N := ⟨_, rfl⟩
  rw [hN] at HN hn
  clear hN
  have hd : decide (N < 2147483648) = true := by simpa using hn
  go_enter Try.func106, Try.ntmps106
  go_wp2_with fail
  refine (bare_w_calls _).mono ?_
  rintro e w1 ⟨rfl, hw1⟩
  have Q1 : Hid (Qk w1 w.heap.size ⟨qw, qx, qy, qz⟩) := Lib.hid (by rw [hw1]; exact (Below.heap_alloc _ _ _ (by simp; omega)).trans ((Below.heap_alloc _ _ _ (by simp)).trans (heap_alloc_new w _)))
  have R1 : Hid (Qk w1 (w.heap.size + 1) ⟨0, 0, 0, 0⟩) := Lib.hid (by
    rw [hw1]
    have h := heap_alloc_new (w.alloc (.cells #[.int .i64 qw, .int .i64 qx, .int .i64 qy, .int .i64 qz] 29)) (.cells #[.int .i64 0, .int .i64 0, .int .i64 0, .int .i64 0] 29)
    rw [World.size_alloc] at h
    exact (Below.heap_alloc _ _ _ (by simp)).trans h)
  have W1 := Lib.hid (show Below w.heap.size w w1 by rw [hw1]; exact (((Below.refl _ w).alloc (Nat.le_refl _) _).alloc (by simp) _).alloc (by simp; omega) _)
  have G1 := Lib.hid (HG.out.below W1.out)
  have lt1 : w.heap.size + 1 + 1 < w1.heap.size := by rw [hw1]; simp
  have lq1 : w.heap.size < w1.heap.size := by omega
  clear hw1 HG
  simp only [World.size_alloc]
  obtain ⟨x0, x1, x2, x3⟩ := Q1.out.all
  go_wp2_with fail
  refine (norm_calls _ [qw, qx, qy, qz] _ 4 _ (RdI.of4 (heap_alloc_new w1 _)) (by simp) (by simp) HL.out HS.out).mono ?_
  rintro e w2 ⟨rfl, hb⟩
  rw [HN.out]
  have R2 := Lib.hid ((R1.out.below ((Below.refl _ _).alloc (Nat.le_refl _) (.cells #[.int .i64 qw, .int .i64 qx, .int .i64 qy, .int .i64 qz] 3))).below hb)
  have G2 := Lib.hid ((G1.out.alloc (.cells #[.int .i64 qw, .int .i64 qx, .int .i64 qy, .int .i64 qz] 3)).below hb)
  have W2 := Lib.hid (bthen (W1.out.alloc W1.out.size (.cells #[.int .i64 qw, .int .i64 qx, .int .i64 qy, .int .i64 qz] 3)) hb)
  clear hb Q1 R1 G1 W1 lt1 lq1 x0 x1 x2 x3
  have g0 := G2.out.cell
  have g1 := G2.out.fz
  have G3 := Lib.hid (show (w2.setCell ⟨g, 0, none⟩ (.bool true)).heap[g]? = some (.cells #[.bool true] 85 (0, 0)) from bs1 G2.out _)
  have R3 : Hid (Qk (w2.setCell ⟨g, 0, none⟩ (.bool true)) (w.heap.size + 1) ⟨0, 0, 0, 0⟩) := Lib.hid ((Below.heap_setCell w2 ⟨g, 0, none⟩ (.bool true) (w.heap.size + 1) (by simp; omega)).trans R2.out)
  have W3 := Lib.hid ((W2.out.mono (Nat.le_of_lt hgl)).setCell (p := ⟨g, 0, none⟩) (Nat.le_refl _) (.bool true))
  have K3 := Lib.hid (fun (k : Nat) (hk : k < w.heap.size) (hne : k ≠ g) => (Below.heap_setCell w2 ⟨g, 0, none⟩ (.bool true) k (by simpa using hne)).trans (W2.out.block k hk))
  obtain ⟨w3, hw3⟩ : ∃ w3, w2.setCell ⟨g, 0, none⟩ (.bool true) = w3 := ⟨_, rfl⟩
  rw [hw3] at G3 R3 W3 K3
  obtain ⟨c0, c1, c2, c3⟩ := R3.out.all
  obtain ⟨f0, f1, f2, f3⟩ := R3.out.fzs
  go_wp2
  exact bodyPost_ret (v := aQ ⟨0, 0, 0, 0⟩) (by simp [results, Try.results106, go_sem, c0, c1, c2, c3]) rfl ⟨rfl, below_set4 W3.out (by omega) _ _ _ _, (blk_cell ((bo4 (show g ≠ w.heap.size + 1 by omega) _ _ _ _).trans G3.out) 0).trans rfl, fun k hk hne => (bo4 (show k ≠ w.heap.size + 1 by omega) _ _ _ _).trans (K3.out k hk hne)⟩
end Go.Proofs.Ytckdhahceelckaa.G
