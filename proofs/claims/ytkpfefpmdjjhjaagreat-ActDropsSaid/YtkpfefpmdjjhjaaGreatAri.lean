/- The operations of numbers, as plain functions. -/
import Derived.Test.YtkpfefpmdjjhjaaGreatPk
namespace Anneal
open Go
def isNan (f v : Int) : Bool := decide (4 ≤ cls f v)
def isInf (f v : Int) : Bool := cls f v == 3
def isZero (f v : Int) : Bool := cls f v == 0
def oneNan (f : Int) (l : List Int) : Bool := l.any (isNan f)
def oneSig (f : Int) (l : List Int) : Bool := l.any fun v => cls f v == 5
theorem one_snoc (l : List Int) (k : Nat) (hk : k < l.length) (p : Int → Bool) : (l.take (k + 1)).any p = ((l.take k).any p || p (l.getD k 0)) := by
  rw [List.take_succ_eq_append_getElem hk, List.any_append]
  simp only [List.any_cons, List.any_nil, Bool.or_false, List.getD_eq_getElem?_getD, List.getElem?_eq_getElem hk, Option.getD_some]
/-- a whole number with all its 62 bits -/
def nrm (s : Int) : Int := s * 2 ^ (62 - bl s).toNat
theorem nrm_range (s : Int) (h0 : 0 < s) (h1 : s < 4611686018427387904) : 1 ≤ bl s ∧ bl s ≤ 62 ∧ 2305843009213693952 ≤ nrm s ∧ nrm s < 4611686018427387904 := by
  obtain ⟨b1, b2, b3⟩ := bl_spec s h0
  obtain ⟨N, rfl⟩ := Int.eq_ofNat_of_zero_le (Int.le_of_lt h0)
  rw [Int.toNat_natCast] at *
  have hl : N.log2 < 62 := (Nat.log2_lt (by omega)).mpr (by omega)
  have e : (62 - bl (N : Int)).toNat = 61 - N.log2 := by omega
  have e2 : nrm N = ((N * 2 ^ (61 - N.log2) : Nat) : Int) := by unfold nrm; rw [e]; simp
  have k1 : 2 ^ N.log2 * 2 ^ (61 - N.log2) ≤ N * 2 ^ (61 - N.log2) := Nat.mul_le_mul_right _ b2
  have k2 : N * 2 ^ (61 - N.log2) < 2 ^ (N.log2 + 1) * 2 ^ (61 - N.log2) := Nat.mul_lt_mul_of_pos_right b3 (Nat.pow_pos (by decide))
  rw [← Nat.pow_add, show N.log2 + (61 - N.log2) = 61 by omega] at k1
  rw [← Nat.pow_add, show N.log2 + 1 + (61 - N.log2) = 62 by omega] at k2
  rw [e2]; omega
theorem shV_nrm (s : Int) (h0 : 0 < s) (h1 : s < 4611686018427387904) : shV s (-(62 - bl s)) = nrm s := by
  obtain ⟨l0, l1, l2, l3⟩ := nrm_range s h0 h1
  unfold shV
  rw [if_neg (by omega)]
  by_cases c : 0 ≤ -(62 - bl s)
  · rw [if_pos c, show (-(62 - bl s)).toNat = 0 by omega]
    unfold nrm; rw [show (62 - bl s).toNat = 0 by omega]; simp
  · rw [if_neg c, Int.neg_neg]
    exact Int.emod_eq_of_lt (by show 0 ≤ nrm s; omega) (by show nrm s < _; omega)
/-- the units of a sum: of like signs, or not; are there ones behind what is taken away? -/
def exS (like ones : Bool) (P low : Int) : Int := if like then P + low else if ones then P - low - 1 else P - low
end Anneal
