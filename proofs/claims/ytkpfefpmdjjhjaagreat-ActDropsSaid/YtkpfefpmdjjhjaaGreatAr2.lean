/- Sums, as plain functions. -/
import Derived.Test.YtkpfefpmdjjhjaaGreatAri
namespace Anneal
open Go
/-- sum.Exact -/
def exQ (n1 : Bool) (e1 s1 : Int) (n2 : Bool) (e2 s2 : Int) : Bool × Int × Int × Bool :=
  if s1 = 0 then (n2, e2, s2, false) else if s2 = 0 then (n1, e1, s1, false) else
  if e1 - (62 - bl s1) < e2 - (62 - bl s2) ∨ (e1 - (62 - bl s1) = e2 - (62 - bl s2) ∧ nrm s1 < nrm s2) then
    (n2, e2 - (62 - bl s2), exS (n2 == n1) (shB (nrm s1) (e2 - (62 - bl s2) - (e1 - (62 - bl s1)))) (nrm s2) (shV (nrm s1) (e2 - (62 - bl s2) - (e1 - (62 - bl s1)))), shB (nrm s1) (e2 - (62 - bl s2) - (e1 - (62 - bl s1))))
  else
    (n1, e1 - (62 - bl s1), exS (n1 == n2) (shB (nrm s2) (e1 - (62 - bl s1) - (e2 - (62 - bl s2)))) (nrm s1) (shV (nrm s2) (e1 - (62 - bl s1) - (e2 - (62 - bl s2)))), shB (nrm s2) (e1 - (62 - bl s1) - (e2 - (62 - bl s2))))
/-- what a shift leaves is no more than the greater number -/
theorem shV_le (A B d : Int) (a0 : 2305843009213693952 ≤ A) (b0 : 2305843009213693952 ≤ B) (b1 : B < 4611686018427387904) (h : 0 < d ∨ (d = 0 ∧ B ≤ A)) :
    0 ≤ shV B d ∧ shV B d ≤ A ∧ (shB B d = true → shV B d < A) := by
  obtain ⟨N, rfl⟩ := Int.eq_ofNat_of_zero_le (show 0 ≤ B by omega)
  obtain ⟨k, rfl⟩ := Int.eq_ofNat_of_zero_le (show 0 ≤ d by omega)
  have hN : N < 18446744073709551616 := by omega
  rw [shV_nat N k hN, shB_nat N k hN]
  have h1 : N / 2 ^ k ≤ N := Nat.div_le_self ..
  rcases h with h | ⟨h, h2⟩
  · have h3 : N / 2 ^ k ≤ N / 2 ^ 1 := Nat.div_le_div_left (Nat.pow_le_pow_right (by decide) (by omega)) (by decide)
    generalize N / 2 ^ k = Z at *
    refine ⟨by omega, by omega, fun _ => by omega⟩
  · obtain rfl : k = 0 := by omega
    refine ⟨by omega, by simp; omega, fun hh => ?_⟩
    simp [Nat.mod_one] at hh
/-- the sum of two finite numbers, rounded -/
def sumF (n1 : Bool) (e1 s1 : Int) (n2 : Bool) (e2 s2 : Int) : Int :=
  if (exQ n1 e1 s1 n2 e2 s2).2.2.1 = 0 ∧ (exQ n1 e1 s1 n2 e2 s2).2.2.2 = false then (if n1 && n2 then 2147483648 else 0)
  else pack 2 (exQ n1 e1 s1 n2 e2 s2).1 (exQ n1 e1 s1 n2 e2 s2).2.1 (exQ n1 e1 s1 n2 e2 s2).2.2.1 (exQ n1 e1 s1 n2 e2 s2).2.2.2
/-- the sum where one is infinite -/
def infS (a b x y : Bool) : Int := if x && y && (a != b) then 2143289344 else if x then fInf 2 a else fInf 2 b
def fadd (a b : Int) : Int :=
  if oneNan 2 [a, b] then 2143289344 else if isInf 2 a || isInf 2 b then infS (pS 2 a) (pS 2 b) (isInf 2 a) (isInf 2 b)
  else sumF (pS 2 a) (uE 2 a) (uS 2 a) (pS 2 b) (uE 2 b) (uS 2 b)
theorem exQ_range (n1 n2 : Bool) (e1 s1 e2 s2 : Int) (h1 : 0 ≤ s1) (h2 : s1 < 4611686018427387904) (h3 : 0 ≤ s2) (h4 : s2 < 4611686018427387904) (b1 : -1000 ≤ e1) (b2 : e1 ≤ 1000) (b3 : -1000 ≤ e2) (b4 : e2 ≤ 1000) :
    0 ≤ (exQ n1 e1 s1 n2 e2 s2).2.2.1 ∧ (exQ n1 e1 s1 n2 e2 s2).2.2.1 < 18446744073709551616 ∧ -10000 ≤ (exQ n1 e1 s1 n2 e2 s2).2.1 ∧ (exQ n1 e1 s1 n2 e2 s2).2.1 ≤ 10000 := by
  unfold exQ
  by_cases c1 : s1 = 0
  · rw [if_pos c1]; simp; omega
  by_cases c2 : s2 = 0
  · rw [if_neg c1, if_pos c2]; simp; omega
  rw [if_neg c1, if_neg c2]
  obtain ⟨l1, l2, l3, l4⟩ := nrm_range s1 (by omega) h2
  obtain ⟨m1, m2, m3, m4⟩ := nrm_range s2 (by omega) h4
  by_cases c : e1 - (62 - bl s1) < e2 - (62 - bl s2) ∨ (e1 - (62 - bl s1) = e2 - (62 - bl s2) ∧ nrm s1 < nrm s2)
  · rw [if_pos c]
    obtain ⟨k1, k2, k3⟩ := shV_le (nrm s2) (nrm s1) (e2 - (62 - bl s2) - (e1 - (62 - bl s1))) m3 l3 l4 (by omega)
    refine ⟨?_, ?_, by show _ ≤ e2 - _; omega, by show e2 - _ ≤ _; omega⟩ <;> (simp only [exS]; (repeat' split) <;> first | omega | (have := k3 (by assumption); omega))
  · rw [if_neg c]
    obtain ⟨k1, k2, k3⟩ := shV_le (nrm s1) (nrm s2) (e1 - (62 - bl s1) - (e2 - (62 - bl s2))) l3 m3 m4 (by omega)
    refine ⟨?_, ?_, by show _ ≤ e1 - _; omega, by show e1 - _ ≤ _; omega⟩ <;> (simp only [exS]; (repeat' split) <;> first | omega | (have := k3 (by assumption); omega))
end Anneal
