/- A number of any length, rounded to the nearest: what is cut off counts by whether it is nought. -/
namespace Rnd

/-- N / 2^k to the nearest, ties to even; 'more': a very little more is behind N. -/
def rnes (N k : Nat) (more : Bool) : Nat :=
  if 2 * (N % 2^k) > 2^k ∨ (2 * (N % 2^k) = 2^k ∧ (more = true ∨ N / 2^k % 2 = 1)) then N / 2^k + 1 else N / 2^k

def unit (n : Nat) (least : Int) (N : Nat) (x : Int) : Int := max least (x + N.log2) - n

def pk (n : Nat) (least : Int) (top : Nat) (N : Nat) (x : Int) (more : Bool) : Nat :=
  min ((if unit n least N x ≤ x then N * 2^(x - unit n least N x).toNat else rnes N (unit n least N x - x).toNat more)
    + (unit n least N x + n - least).toNat * 2^n) (top * 2^n)

theorem log2_div (N k : Nat) (h : N / 2^k ≠ 0) : (N / 2^k).log2 + k = N.log2 := by
  have hN : N ≠ 0 := by intro h0; simp [h0] at h
  have h1 := Nat.log2_self_le h
  have h2 := @Nat.lt_log2_self (N / 2^k)
  apply Eq.symm
  rw [Nat.log2_eq_iff hN]
  constructor
  · rw [Nat.pow_add]
    have := Nat.mul_le_of_le_div _ _ _ h1
    exact this
  · have h3 : N / 2^k < 2^((N / 2^k).log2 + 1) := h2
    rw [Nat.div_lt_iff_lt_mul (Nat.pow_pos (by decide)), ← Nat.pow_add] at h3
    rw [show (N / 2^k).log2 + k + 1 = (N / 2^k).log2 + 1 + k from by omega]; exact h3

theorem log2_mul (N k : Nat) (h : N ≠ 0) : (N * 2^k).log2 = N.log2 + k := by
  have hp : (2:Nat)^k ≠ 0 := Nat.ne_of_gt (Nat.pow_pos (by decide))
  have e : N * 2^k / 2^k = N := Nat.mul_div_cancel _ (Nat.pow_pos (by decide))
  have := log2_div (N * 2^k) k (by rw [e]; exact h)
  rw [e] at this; omega

theorem ite_iff {α : Type} {p q : Prop} [Decidable p] [Decidable q] (h : p ↔ q) (a b : α) : (if p then a else b) = if q then a else b := by
  by_cases hp : p
  · rw [if_pos hp, if_pos (h.mp hp)]
  · rw [if_neg hp, if_neg (fun c => hp (h.mpr c))]

theorem rnes_shift (N j k : Nat) (more : Bool) (hj : 1 ≤ j) :
    rnes N (j + k) more = rnes (N / 2^k) j (more || decide (N % 2^k ≠ 0)) := by
  have hq : N / 2^(j+k) = N / 2^k / 2^j := by rw [Nat.div_div_eq_div_mul, ← Nat.pow_add, Nat.add_comm k j]
  have hr : N % 2^(j+k) = (N / 2^k % 2^j) * 2^k + N % 2^k := by
    rw [Nat.add_comm j k, Nat.pow_add, Nat.mod_mul]; rw [Nat.mul_comm]; omega
  have hs : N % 2^k < 2^k := Nat.mod_lt _ (Nat.pow_pos (by decide))
  obtain ⟨i, rfl⟩ : ∃ i, j = i + 1 := ⟨j - 1, by omega⟩
  unfold rnes
  rw [hq, hr]
  generalize N / 2^k % 2^(i+1) = R
  generalize N % 2^k = s at *
  generalize N / 2^k / 2^(i+1) = Q
  have e1 : (2:Nat)^(i+1) = 2 * 2^i := by rw [Nat.pow_succ]; omega
  have e2 : (2:Nat)^(i+1+k) = 2 * 2^i * 2^k := by rw [Nat.pow_add, e1]
  rw [e1, e2]
  generalize (2:Nat)^i = I
  generalize (2:Nat)^k = K at *
  have key : (2 * (R * K + s) > 2 * I * K ↔ (R > I ∨ (R = I ∧ s ≠ 0))) ∧ (2 * (R * K + s) = 2 * I * K ↔ (R = I ∧ s = 0)) := by
    have hc : R < I ∨ R = I ∨ R > I := by omega
    rcases hc with hc | hc | hc
    · have : (R + 1) * K ≤ I * K := Nat.mul_le_mul_right K hc
      rw [Nat.add_mul] at this
      constructor <;> constructor <;> intro h
      · rw [Nat.mul_assoc] at h; omega
      · omega
      · rw [Nat.mul_assoc] at h; omega
      · omega
    · subst hc
      rw [Nat.mul_assoc]
      constructor <;> constructor <;> intro h <;> omega
    · have : (I + 1) * K ≤ R * K := Nat.mul_le_mul_right K hc
      rw [Nat.add_mul] at this
      constructor <;> constructor <;> intro h
      · omega
      · rw [Nat.mul_assoc]; omega
      · rw [Nat.mul_assoc] at h; omega
      · omega
  have k2 : (2 * R > 2 * I) ↔ (R > I) := by omega
  have k3 : (2 * R = 2 * I) ↔ (R = I) := by omega
  refine ite_iff ?_ _ _
  rw [key.1, key.2, k2, k3]
  by_cases hs0 : s = 0
  · simp [hs0]
  · by_cases c : R = I
    · simp [hs0, c]
    · simp [hs0, c]

/-- Bits that are cut off are told by 'more', where enough stay. -/
theorem pk_shift (n : Nat) (least : Int) (top N k : Nat) (x : Int) (more : Bool) (h : 2^(n+1) ≤ N / 2^k) :
    pk n least top N x more = pk n least top (N / 2^k) (x + k) (more || decide (N % 2^k ≠ 0)) := by
  have h0 : N / 2^k ≠ 0 := by have := Nat.pow_pos (a := 2) (n := n+1) (by decide); omega
  have hl := log2_div N k h0
  have hn : n + 1 ≤ (N / 2^k).log2 := (Nat.le_log2 h0).mpr h
  have hu : unit n least (N / 2^k) (x + k) = unit n least N x := by unfold unit; rw [← hl]; push_cast; congr 2; omega
  unfold pk
  rw [hu]
  generalize hU : unit n least N x = U
  have hU2 : x + k + 1 ≤ U := by rw [← hU]; unfold unit; rw [← hl]; push_cast; omega
  rw [if_neg (by omega), if_neg (by omega)]
  rw [show (U - x).toNat = (U - (x + k)).toNat + k from by omega, rnes_shift _ _ _ _ (by omega)]

theorem rnes_mul (N j k : Nat) : rnes (N * 2^k) (j + k) false = rnes N j false := by
  unfold rnes
  have hK : 0 < 2^k := Nat.pow_pos (by decide)
  have hq : N * 2^k / 2^(j+k) = N / 2^j := by rw [Nat.pow_add, Nat.mul_div_mul_right _ _ hK]
  have hr : N * 2^k % 2^(j+k) = N % 2^j * 2^k := by rw [Nat.pow_add, Nat.mul_mod_mul_right]
  rw [hq, hr]
  rw [show (2:Nat)^(j+k) = 2^j * 2^k from Nat.pow_add _ _ _, ← Nat.mul_assoc]
  refine ite_iff ?_ _ _
  have a1 : (2 * (N % 2^j) * 2^k > 2^j * 2^k) ↔ (2 * (N % 2^j) > 2^j) := Nat.mul_lt_mul_right hK
  have a2 : (2 * (N % 2^j) * 2^k = 2^j * 2^k) ↔ (2 * (N % 2^j) = 2^j) := Nat.mul_left_inj (by omega)
  rw [a1, a2]

theorem rnes_small (N j k : Nat) (h : j ≤ k) : rnes (N * 2^k) j false = N * 2^(k-j) := by
  obtain ⟨i, rfl⟩ : ∃ i, k = j + i := ⟨k - j, by omega⟩
  unfold rnes
  have hJ : 0 < 2^j := Nat.pow_pos (by decide)
  have e : N * 2^(j+i) = 2^j * (N * 2^i) := by rw [Nat.pow_add, ← Nat.mul_assoc, ← Nat.mul_assoc, Nat.mul_comm N]
  rw [e, Nat.mul_mod_right, Nat.mul_div_cancel_left _ hJ]
  rw [if_neg (by simp; omega)]
  congr 2; omega

/-- The same number, written with k noughts more. -/
theorem pk_mul (n : Nat) (least : Int) (top N k : Nat) (x : Int) (h : N ≠ 0) :
    pk n least top (N * 2^k) (x - k) false = pk n least top N x false := by
  have hl := log2_mul N k h
  have hu : unit n least (N * 2^k) (x - k) = unit n least N x := by unfold unit; rw [hl]; push_cast; congr 2; omega
  unfold pk
  rw [hu]
  generalize unit n least N x = U
  congr 2
  by_cases h1 : U ≤ x - k
  · rw [if_pos h1, if_pos (by omega), show (x - U).toNat = k + (x - k - U).toNat from by omega, Nat.pow_add, Nat.mul_assoc]
  · rw [if_neg h1]
    by_cases h2 : U ≤ x
    · rw [if_pos h2, rnes_small _ _ _ (by omega)]
      congr 2; omega
    · rw [if_neg h2, show (U - (x - k)).toNat = (U - x).toNat + k from by omega, rnes_mul]

end Rnd
