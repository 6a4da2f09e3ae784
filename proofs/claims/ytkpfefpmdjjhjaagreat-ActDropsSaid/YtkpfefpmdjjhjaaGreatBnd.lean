/- Bounds of a rounded number by powers of two. -/
import Derived.Test.YtkpfefpmdjjhjaaGreatAr4
namespace Anneal
open Go
theorem pack_code (neg : Bool) (exp sig : Int) (more : Bool) (h0 : 0 < sig) (h1 : sig < 18446744073709551616) :
    pack 2 neg exp sig more = sgB 2 neg + min (q1 2 exp sig more + (unI 2 exp sig + 149) * 8388608) 2139095040 := by
  have hf : Fm 2 := by decide
  have hk := q1_nat 2 exp sig more hf h0 h1
  have hu : leastE 2 - mW 2 ≤ unI 2 exp sig := by unfold unI; rw [if_pos h0]; omega
  unfold pack
  rw [if_neg (by omega)]
  unfold Rnd.pk
  rw [unit_eq 2 exp sig h0]
  have e1 : leastE 2 = -126 := rfl
  have e2 : mW 2 = 23 := rfl
  have e3 : ((eP 2 - 1).toNat * 2 ^ mW 2 : Nat) = 2139095040 := by decide
  rw [e3, cast_min, Int.natCast_add, ← hk, Int.natCast_mul]
  rw [e1, e2] at hu
  rw [e1, e2, Int.toNat_of_nonneg (by omega)]
  have e4 : ((2 ^ 23 : Nat) : Int) = 8388608 := rfl
  rw [e4, show unI 2 exp sig + ((23 : Nat) : Int) - -126 = unI 2 exp sig + 149 by omega]
  rfl
theorem pack_ge (exp sig : Int) (more : Bool) (k : Int) (h0 : 0 < sig) (h1 : sig < 18446744073709551616) (k0 : -125 ≤ k) (k1 : k ≤ 127) (h : k ≤ exp + bl sig - 1) :
    (k + 127) * 8388608 ≤ pack 2 false exp sig more := by
  rw [pack_code false exp sig more h0 h1]
  obtain ⟨a, b, c⟩ := q1_range 2 exp sig more (by decide) h0 h1
  have e1 : leastE 2 = -126 := rfl
  have e2 : ((mW 2 : Nat) : Int) = 23 := rfl
  have e3 : mP 2 = 8388608 := rfl
  have e4 : sgB 2 false = 0 := rfl
  have hu : unI 2 exp sig = max (-126) (exp + bl sig - 1) - 23 := by unfold unI; rw [if_pos h0, e1, e2]
  rw [e1, e2, e3] at c
  have := c (by omega)
  rw [e4]
  omega
theorem pack_le (exp sig : Int) (more : Bool) (k : Int) (h0 : 0 < sig) (h1 : sig < 18446744073709551616) (k0 : -125 ≤ k) (k1 : k ≤ 127) (h : exp + bl sig - 1 < k) :
    pack 2 false exp sig more ≤ (k + 127) * 8388608 := by
  rw [pack_code false exp sig more h0 h1]
  obtain ⟨a, b, c⟩ := q1_range 2 exp sig more (by decide) h0 h1
  have e1 : leastE 2 = -126 := rfl
  have e2 : ((mW 2 : Nat) : Int) = 23 := rfl
  have e3 : mP 2 = 8388608 := rfl
  have e4 : sgB 2 false = 0 := rfl
  have hu : unI 2 exp sig = max (-126) (exp + bl sig - 1) - 23 := by unfold unI; rw [if_pos h0, e1, e2]
  rw [e3] at b
  rw [e4]
  omega
/-- how many bits: between powers of two -/
theorem bl_of_le (x : Int) (k : Nat) (h0 : 0 < x) (h : 2 ^ k ≤ x) : (k : Int) + 1 ≤ bl x := by
  obtain ⟨b1, b2, b3⟩ := bl_spec x h0
  obtain ⟨N, rfl⟩ := Int.eq_ofNat_of_zero_le (Int.le_of_lt h0)
  rw [Int.toNat_natCast] at *
  have : 2 ^ k ≤ N := by exact_mod_cast h
  have := (Nat.le_log2 (by omega)).mpr this
  omega
theorem bl_of_lt (x : Int) (k : Nat) (h0 : 0 < x) (h : x < 2 ^ k) : bl x ≤ k := by
  obtain ⟨b1, b2, b3⟩ := bl_spec x h0
  obtain ⟨N, rfl⟩ := Int.eq_ofNat_of_zero_le (Int.le_of_lt h0)
  rw [Int.toNat_natCast] at *
  have : N < 2 ^ k := by exact_mod_cast h
  have := (Nat.log2_lt (by omega)).mpr this
  omega
/-- a whole number between 2^31 and 2^32, as a single one -/
theorem fint_32 (n : Int) (h0 : 2147483648 ≤ n) (h1 : n ≤ 4294967296) : 1325400064 ≤ fint n ∧ fint n ≤ 1333788672 := by
  unfold fint
  rw [show decide (n < 0) = false from decide_eq_false (by omega), show ((n.natAbs : Nat) : Int) = n by omega]
  have b1 := bl_of_le n 31 (by omega) (by omega)
  have b2 := bl_of_lt n 33 (by omega) (by omega)
  have g := pack_ge 0 n false 31 (by omega) (by omega) (by omega) (by omega) (by omega)
  by_cases c : n = 4294967296
  · subst c
    have : pack 2 false 0 4294967296 false = 1333788672 := by decide +kernel
    omega
  · have b3 := bl_of_lt n 32 (by omega) (by omega)
    have l := pack_le 0 n false 32 (by omega) (by omega) (by omega) (by omega) (by omega)
    omega
/-- the parts of a number between 2^31 and 2^32 -/
theorem parts_32 (b : Int) (h0 : 1325400064 ≤ b) (h1 : b ≤ 1333788672) : cls 2 b = 2 ∧ pS 2 b = false ∧ ((uE 2 b = 8 ∧ 8388608 ≤ uS 2 b ∧ uS 2 b < 16777216) ∨ (uE 2 b = 9 ∧ uS 2 b = 8388608)) := by
  have e1 : leastE 2 = -126 := rfl
  have e2 : ((mW 2 : Nat) : Int) = 23 := rfl
  have e3 : mP 2 = 8388608 := rfl
  have e5 : eP 2 = 256 := rfl
  have hE : pE 2 b = b / 8388608 % 256 := rfl
  have hF : pF 2 b = b % 8388608 := rfl
  have hS : pS 2 b = (b / (8388608 * 256) % 2 == 1) := rfl
  refine ⟨?_, ?_, ?_⟩
  · unfold cls; rw [hE, hF, e5]; rw [if_neg (by omega), if_pos (by omega)]
  · rw [hS]; simp; omega
  · unfold uE uS; rw [hE, hF, e1, e2, e3, e5]
    rw [if_neg (by omega), if_neg (by omega), if_neg (by omega), if_neg (by omega)]
    omega
theorem fdiv_32 (b : Int) (h0 : 1325400064 ≤ b) (h1 : b ≤ 1333788672) : 1065353216 ≤ fdiv 1333788672 b ∧ fdiv 1333788672 b ≤ 1073741824 := by
  obtain ⟨c, s, hp⟩ := parts_32 b h0 h1
  have a1 : cls 2 1333788672 = 2 := by decide +kernel
  have a2 : pS 2 1333788672 = false := by decide +kernel
  have a3 : uE 2 1333788672 = 9 := by decide +kernel
  have a4 : uS 2 1333788672 = 8388608 := by decide +kernel
  have a5 : bl 8388608 = 24 := by decide +kernel
  have a6 : nrm 8388608 = 2305843009213693952 := by decide +kernel
  unfold fdiv
  have hn : oneNan 2 [1333788672, b] = false := by simp [oneNan, isNan, a1, c]
  rw [hn, if_neg (by decide), a1, a2, a3, a4, a5, a6, c, s]
  rw [if_neg (by omega), if_neg (by omega), if_neg (by omega), if_neg (by omega)]
  rcases hp with ⟨x, y, z⟩ | ⟨x, y⟩
  · rw [x]
    have q1 : 137438953472 ≤ 2305843009213693952 / uS 2 b := Int.le_ediv_of_mul_le (by omega) (by omega)
    have q2 : 2305843009213693952 / uS 2 b ≤ 274877906944 := Int.ediv_le_of_le_mul (by omega) (by omega)
    have q3 := Int.ediv_mul_le 2305843009213693952 (show uS 2 b ≠ 0 by omega)
    have b1 := bl_of_le (2305843009213693952 / uS 2 b) 37 (by omega) (by omega)
    have g := pack_ge (9 - (62 - 24) - 8) (2305843009213693952 / uS 2 b) (2305843009213693952 % uS 2 b != 0) 0 (by omega) (by omega) (by omega) (by omega) (by omega)
    refine ⟨by simpa using g, ?_⟩
    by_cases e : 2305843009213693952 / uS 2 b = 274877906944
    · have hu : uS 2 b = 8388608 := by rw [e] at q3; omega
      rw [hu]; decide +kernel
    · have b2 := bl_of_lt (2305843009213693952 / uS 2 b) 38 (by omega) (by omega)
      have l := pack_le (9 - (62 - 24) - 8) (2305843009213693952 / uS 2 b) (2305843009213693952 % uS 2 b != 0) 1 (by omega) (by omega) (by omega) (by omega) (by omega)
      simpa using l
  · rw [x, y]; decide +kernel
/-- no number from 1 to 2 is below 1 -/
theorem fabove_1 (v : Int) (h0 : 1065353216 ≤ v) (h1 : v ≤ 1073741824) : fabove 1065353216 v = false := by
  have hE : pE 2 v = v / 8388608 % 256 := rfl
  have hF : pF 2 v = v % 8388608 := rfl
  have hS : pS 2 v = (v / (8388608 * 256) % 2 == 1) := rfl
  have e5 : eP 2 = 256 := rfl
  have c : cls 2 v = 2 := by
    unfold cls; rw [hE, hF, e5]; rw [if_neg (by omega), if_pos (by omega)]
  have s : pS 2 v = false := by rw [hS]; simp; omega
  have a1 : cls 2 1065353216 = 2 := by decide +kernel
  have a2 : pS 2 1065353216 = false := by decide +kernel
  unfold fabove fcmp isNan isZero fkey
  rw [c, s, a1, a2]
  simp
  split <;> omega
end Anneal
