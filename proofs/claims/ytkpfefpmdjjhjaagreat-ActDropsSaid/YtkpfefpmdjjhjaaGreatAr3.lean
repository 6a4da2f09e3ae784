/- Products, quotients, differences, whole numbers, as plain functions. -/
import Derived.Test.YtkpfefpmdjjhjaaGreatAr2
namespace Anneal
open Go
def fsub (a b : Int) : Int := if oneNan 2 [a, b] then 2143289344 else fadd a (fTurn 2 b)
def torn (a b : Int) : Bool := (isZero 2 a && isInf 2 b) || (isInf 2 a && isZero 2 b)
def fmul (a b : Int) : Int :=
  if oneNan 2 [a, b] then 2143289344 else if torn a b then 2143289344 else if isInf 2 a || isInf 2 b then fInf 2 (!(pS 2 a == pS 2 b))
  else pack 2 (!(pS 2 a == pS 2 b)) (uE 2 a + uE 2 b) (uS 2 a * uS 2 b) false
def ffma (a b c : Int) : Int :=
  if oneNan 2 [a, b, c] then 2143289344 else if torn a b then 2143289344 else if (isInf 2 a || isInf 2 b) || isInf 2 c then infS (!(pS 2 a == pS 2 b)) (pS 2 c) (isInf 2 a || isInf 2 b) (isInf 2 c)
  else sumF (!(pS 2 a == pS 2 b)) (uE 2 a + uE 2 b) (uS 2 a * uS 2 b) (pS 2 c) (uE 2 c) (uS 2 c)
def fdiv (a b : Int) : Int :=
  if oneNan 2 [a, b] then 2143289344 else
  if cls 2 a = cls 2 b ∧ (cls 2 a = 0 ∨ cls 2 a = 3) then 2143289344 else
  if cls 2 a = 3 then fInf 2 (!(pS 2 a == pS 2 b)) else
  if cls 2 b = 3 ∨ cls 2 a = 0 then sgB 2 (!(pS 2 a == pS 2 b)) else
  if cls 2 b = 0 then fInf 2 (!(pS 2 a == pS 2 b)) else
  pack 2 (!(pS 2 a == pS 2 b)) (uE 2 a - (62 - bl (uS 2 a)) - uE 2 b) (nrm (uS 2 a) / uS 2 b) (nrm (uS 2 a) % uS 2 b != 0)
def fint (n : Int) : Int := pack 2 (decide (n < 0)) 0 n.natAbs false
theorem uS_range (v : Int) : 0 ≤ uS 2 v ∧ uS 2 v < 16777216 := by
  obtain ⟨a, b⟩ := pF_range 2 v (by decide)
  have e : mP 2 = 8388608 := rfl
  rw [e] at b
  unfold uS; rw [e]
  (repeat' split) <;> omega
theorem uE_range (v : Int) : -149 ≤ uE 2 v ∧ uE 2 v ≤ 104 := by
  obtain ⟨a, b⟩ := pE_range 2 v (by decide)
  have e : eP 2 = 256 := rfl
  have e1 : leastE 2 = -126 := rfl
  have e2 : mW 2 = 23 := rfl
  rw [e] at b
  unfold uE; rw [e1, e2]
  (repeat' split) <;> omega
theorem cls_range (f v : Int) : 0 ≤ cls f v ∧ cls f v ≤ 5 := by
  unfold cls; (repeat' split) <;> omega
theorem uS_pos (v : Int) (h0 : cls 2 v ≠ 0) (h3 : cls 2 v < 3) : 0 < uS 2 v := by
  obtain ⟨a, b⟩ := pF_range 2 v (by decide)
  obtain ⟨a2, b2⟩ := pE_range 2 v (by decide)
  have e : mP 2 = 8388608 := rfl
  have e2 : eP 2 = 256 := rfl
  rw [e] at b; rw [e2] at b2
  unfold cls at h0 h3
  unfold uS
  rw [e, e2] at h0 h3
  rw [e, e2]
  (repeat' split at h0) <;> (repeat' split at h3) <;> (repeat' split) <;> omega
theorem mulU (a b : Int) : 0 ≤ uS 2 a * uS 2 b ∧ uS 2 a * uS 2 b < 281474976710656 := by
  obtain ⟨a1, a2⟩ := uS_range a
  obtain ⟨b1, b2⟩ := uS_range b
  refine ⟨Int.mul_nonneg a1 b1, ?_⟩
  have h1 : uS 2 a * uS 2 b ≤ 16777215 * uS 2 b := Int.mul_le_mul_of_nonneg_right (by omega) b1
  omega
end Anneal
