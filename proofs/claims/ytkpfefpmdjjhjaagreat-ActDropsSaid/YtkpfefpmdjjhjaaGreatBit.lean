/- Plain arithmetic of bits, and what numbers are by their bits. -/
import Derived.WalkKit
import Derived.Laws.BitsLemmas
namespace Anneal
open Go Go.RowKit

theorem wraps_u32 (n : Int) (h0 : 0 ≤ n) (h1 : n < 2 ^ 32) : IntKind.u32.wrap n = n := by rw [IntKind.wrap_u32]; omega
theorem wrap_u64 (n : Int) : IntKind.u64.wrap n = n % 18446744073709551616 := by simp [IntKind.wrap, IntKind.bits, IntKind.signed]
theorem wraps_u64 (n : Int) (h0 : 0 ≤ n) (h1 : n < 2 ^ 64) : IntKind.u64.wrap n = n := by rw [wrap_u64]; omega
theorem and32 (i : Nat) (hi : i ≤ 32) (m : Int) (hm : m = 2 ^ i - 1) (x : Int) (h0 : 0 ≤ x) (h1 : x < 4294967296) : bits .and .u32 x m = x % 2 ^ i := by
  rw [hm]; exact bits_mask .u32 32 (by decide) wraps_u32 i hi x h0 (by omega)
theorem and64 (i : Nat) (hi : i ≤ 64) (m : Int) (hm : m = 2 ^ i - 1) (x : Int) (h0 : 0 ≤ x) (h1 : x < 18446744073709551616) : bits .and .u64 x m = x % 2 ^ i := by
  rw [hm]; exact bits_mask .u64 64 (by decide) wraps_u64 i hi x h0 (by omega)
theorem or32 (i : Nat) (x y : Int) (hx0 : 0 ≤ x) (hx : x % 2 ^ i = 0) (hx1 : x < 4294967296) (h0 : 0 ≤ y) (h1 : y < 2 ^ i) (h2 : y < 4294967296) : bits .or .u32 x y = x + y :=
  bits_join .u32 32 (by decide) wraps_u32 i x y hx0 hx hx1 h0 h1 h2
theorem or64 (i : Nat) (x y : Int) (hx0 : 0 ≤ x) (hx : x % 2 ^ i = 0) (hx1 : x < 18446744073709551616) (h0 : 0 ≤ y) (h1 : y < 2 ^ i) (h2 : y < 18446744073709551616) : bits .or .u64 x y = x + y :=
  bits_join .u64 64 (by decide) wraps_u64 i x y hx0 hx hx1 h0 h1 h2
theorem bits_or_comm (k : IntKind) (x y : Int) : bits .or k x y = bits .or k y x := by simp only [bits, BitVec.or_comm]
theorem wrap64_of {x : Int} (h0 : -9223372036854775808 ≤ x) (h1 : x ≤ 9223372036854775807) : wrap64 x = x := by unfold wrap64; omega

theorem nat_xor_pow (r i : Nat) (h : r < 2 ^ i) : r ^^^ 2 ^ i = r + 2 ^ i := by
  apply Nat.eq_of_testBit_eq
  intro j
  rw [Nat.testBit_xor, Nat.testBit_two_pow]
  rcases Nat.lt_trichotomy j i with c | c | c
  · rw [Nat.add_comm, Nat.testBit_two_pow_add_gt c, show decide (i = j) = false from decide_eq_false (by omega), Bool.xor_false]
  · subst c
    rw [Nat.add_comm, Nat.testBit_two_pow_add_eq, Nat.testBit_lt_two_pow h]; simp
  · have h1 : r + 2 ^ i < 2 ^ j := by
      have := Nat.pow_le_pow_right (n := 2) (by decide) c
      rw [Nat.pow_succ] at this; omega
    have h2 : r < 2 ^ j := Nat.lt_trans h (Nat.pow_lt_pow_right (by decide) c)
    rw [Nat.testBit_lt_two_pow h1, Nat.testBit_lt_two_pow h2, show decide (i = j) = false from decide_eq_false (by omega)]; rfl
theorem xor32 (i : Nat) (hi : i < 32) (m : Int) (hm : m = 2 ^ i) (x : Int) (h0 : 0 ≤ x) (h1 : x < 2 ^ i * 2) : bits .xor .u32 x m = if x < m then x + m else x - m := by
  subst hm
  obtain ⟨a, rfl⟩ := Int.eq_ofNat_of_zero_le h0
  have hp : 2 ^ (i + 1) ≤ 2 ^ 32 := Nat.pow_le_pow_right (by decide) hi
  have hq : 2 ^ (i + 1) = 2 ^ i * 2 := Nat.pow_succ ..
  have h1' : a < 2 ^ i * 2 := by exact_mod_cast h1
  have ha : a % 2 ^ 32 = a := Nat.mod_eq_of_lt (by omega)
  have hb : 2 ^ i % 2 ^ 32 = 2 ^ i := Nat.mod_eq_of_lt (by omega)
  have e : ((2 : Int) ^ i) = ((2 ^ i : Nat) : Int) := by simp
  have key : bits .xor .u32 (a : Int) ((2 ^ i : Nat) : Int) = ((a ^^^ 2 ^ i : Nat) : Int) := by
    simp only [bits, BitVec.ofInt_natCast, BitVec.toNat_xor, BitVec.toNat_ofNat]
    rw [show IntKind.u32.bits = 32 from rfl, ha, hb]
    refine wraps_u32 _ (Int.natCast_nonneg _) ?_
    have : a ^^^ 2 ^ i < 2 ^ (i + 1) := Nat.xor_lt_two_pow (by omega) (by omega)
    exact_mod_cast Nat.lt_of_lt_of_le this hp
  rw [e, key]
  by_cases c : a < 2 ^ i
  · rw [if_pos (by exact_mod_cast c), nat_xor_pow a i c]; simp
  · rw [if_neg (by exact_mod_cast c)]
    obtain ⟨r, rfl⟩ : ∃ r, a = r + 2 ^ i := ⟨a - 2 ^ i, by omega⟩
    have hr : r < 2 ^ i := by omega
    rw [← nat_xor_pow r i hr, Nat.xor_assoc, Nat.xor_self, Nat.xor_zero, nat_xor_pow r i hr]; simp

abbrev Fm (f : Int) : Prop := f = 0 ∨ f = 1 ∨ f = 2
/-- u32 -/
abbrev U32 (v : Int) : Prop := 0 ≤ v ∧ v < 4294967296
def mW (f : Int) : Nat := if f = 0 then 10 else if f = 1 then 7 else 23
def eW (f : Int) : Nat := if f = 0 then 5 else 8
/-- 2 to the fraction's width, to the exponent's -/
def mP (f : Int) : Int := if f = 0 then 1024 else if f = 1 then 128 else 8388608
def eP (f : Int) : Int := if f = 0 then 32 else 256
/-- sign, exponent, fraction as they stand -/
def pS (f v : Int) : Bool := v / (mP f * eP f) % 2 == 1
def pE (f v : Int) : Int := v / mP f % eP f
def pF (f v : Int) : Int := v % mP f
def leastE (f : Int) : Int := if f = 0 then -14 else -126
def sgB (f : Int) (neg : Bool) : Int := if neg then mP f * eP f else 0
def fJoin (f : Int) (neg : Bool) (exp frac : Int) : Int := sgB f neg + exp * mP f + frac
def fMask (f : Int) : Int := mP f * eP f * 2 - 1
def cls (f v : Int) : Int :=
  if pE f v = 0 then (if pF f v = 0 then 0 else 1) else if pE f v < eP f - 1 then 2 else if pF f v = 0 then 3 else if pF f v / (mP f / 2) = 1 then 4 else 5
def uE (f v : Int) : Int := if pE f v = 0 then leastE f - mW f else if pE f v = eP f - 1 then 0 else leastE f - mW f + pE f v - 1
def uS (f v : Int) : Int := if pE f v = 0 then pF f v else if pE f v = eP f - 1 then 0 else pF f v + mP f
def fTurn (f v : Int) : Int := if pS f v then v % (mP f * eP f) else v % (mP f * eP f) + mP f * eP f

def fInf (f : Int) (neg : Bool) : Int := sgB f neg + (eP f - 1) * mP f
def fGreat (f : Int) (neg : Bool) : Int := sgB f neg + (eP f - 1) * mP f - 1
def fNan (f : Int) : Int := (eP f - 1) * mP f + mP f / 2
/-- a shift to the right: the number, and whether ones went out -/
def shV (v n : Int) : Int := if 64 ≤ n ∨ n ≤ -64 then 0 else if 0 ≤ n then v / 2 ^ n.toNat else v * 2 ^ (-n).toNat % 18446744073709551616
def shB (v n : Int) : Bool := if 64 ≤ n ∨ n ≤ -64 then v != 0 else if 0 ≤ n then v % 2 ^ n.toNat != 0 else v * 2 ^ (-n).toNat % 18446744073709551616 / 2 ^ (-n).toNat != v
/-- what is left beside whole units: nothing, less than a half, a half, more -/
def uL (sig by_ : Int) (more : Bool) : Int :=
  if by_ ≤ 0 ∨ shB sig by_ = false then (if more then 1 else 0) else if shV sig (by_ - 1) % 2 = 0 then 1 else if shB sig (by_ - 1) || more then 3 else 2
/-- how many bits a number has -/
def bl (x : Int) : Int := if x = 0 then 0 else x.toNat.log2 + 1
def unI (f exp sig : Int) : Int := (if 0 < sig then max (leastE f) (exp + bl sig - 1) else leastE f) - mW f
def upN (q left : Int) : Bool := left == 3 || (left == 2 && q % 2 == 1)
theorem pE_range (f v : Int) (hf : Fm f) : 0 ≤ pE f v ∧ pE f v < eP f := by
  rcases hf with rfl | rfl | rfl <;> (simp only [pE, eP, mP]; simp; omega)
theorem pF_range (f v : Int) (hf : Fm f) : 0 ≤ pF f v ∧ pF f v < mP f := by
  rcases hf with rfl | rfl | rfl <;> (simp only [pF, mP]; simp; omega)
end Anneal
