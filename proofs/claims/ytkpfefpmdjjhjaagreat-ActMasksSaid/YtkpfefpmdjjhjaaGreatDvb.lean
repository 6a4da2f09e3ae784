/- The quotient that the program rounds and the one that the reference rounds are rounded alike. -/
import Derived.Test.YtkpfefpmdjjhjaaGreatAr4
namespace Anneal
open Go
def pkq (A B : Nat) (e : Int) (u : Nat) : Nat := Rnd.pk 23 (-126) 255 (A * 2 ^ u / B) (e - u) (decide (A * 2 ^ u % B ≠ 0))
theorem pkq_step (A B : Nat) (e : Int) (u t : Nat) (hB : 0 < B) (h : 2 ^ 24 ≤ A * 2 ^ u / B) : pkq A B e (u + t) = pkq A B e u := by
  have ht : 0 < 2 ^ t := Nat.pow_pos (by decide)
  have e1 : A * 2 ^ (u + t) = A * 2 ^ u * 2 ^ t := by rw [Nat.pow_add, Nat.mul_assoc]
  have d : A * 2 ^ (u + t) / B / 2 ^ t = A * 2 ^ u / B := by rw [Nat.div_div_eq_div_mul, e1, Nat.mul_div_mul_right _ _ ht]
  have m : A * 2 ^ (u + t) % (B * 2 ^ t) = (A * 2 ^ u % B) * 2 ^ t := by rw [e1, Nat.mul_mod_mul_right]
  rw [Nat.mod_mul] at m
  unfold pkq
  rw [Rnd.pk_shift 23 (-126) 255 _ t _ _ (by rw [d]; exact h), d]
  congr 1
  · omega
  · by_cases c : A * 2 ^ u % B = 0
    · rw [c, Nat.zero_mul] at m
      have m1 : A * 2 ^ (u + t) % B = 0 := by omega
      have m2 : A * 2 ^ (u + t) / B % 2 ^ t = 0 := by
        have : B * (A * 2 ^ (u + t) / B % 2 ^ t) = 0 := by omega
        rcases Nat.mul_eq_zero.mp this with h | h
        · omega
        · exact h
      simp [c, m1, m2]
    · have m0 : 0 < (A * 2 ^ u % B) * 2 ^ t := Nat.mul_pos (by omega) ht
      by_cases c1 : A * 2 ^ (u + t) % B = 0
      · have c2 : A * 2 ^ (u + t) / B % 2 ^ t ≠ 0 := by
          intro hh; rw [hh, c1] at m; omega
        simp [c, c1, c2]
      · simp [c, c1]
theorem pkq_eq (A B : Nat) (e : Int) (u v : Nat) (hB : 0 < B) (h : 2 ^ 24 ≤ A * 2 ^ u / B) (h2 : 2 ^ 24 ≤ A * 2 ^ v / B) : pkq A B e u = pkq A B e v := by
  rcases Nat.le_total u v with c | c
  · obtain ⟨t, rfl⟩ := Nat.exists_eq_add_of_le c
    exact (pkq_step A B e u t hB h).symm
  · obtain ⟨t, rfl⟩ := Nat.exists_eq_add_of_le c
    exact pkq_step A B e v t hB h2
theorem pack_q (S : Bool) (x : Int) (K : Nat) (T : Bool) (h : 0 < K) : pack 2 S x K T = sgB 2 S + Rnd.pk 23 (-126) 255 K x T := by
  unfold pack
  rw [if_neg (by omega), Int.toNat_natCast]
  rfl
theorem cast_lt16 (B j : Nat) (h : (B : Int) * 2 ^ j < 16777216) : B * 2 ^ j < 16777216 := by
  have c2 : (B : Int) * 2 ^ j = ((B * 2 ^ j : Nat) : Int) := by simp
  rw [c2] at h
  exact (Int.ofNat_lt (n := B * 2 ^ j) (m := 16777216)).mp h
theorem cast_le16 (B j : Nat) (h : 8388608 ≤ (B : Int) * 2 ^ j) : 8388608 ≤ B * 2 ^ j := by
  have c2 : (B : Int) * 2 ^ j = ((B * 2 ^ j : Nat) : Int) := by simp
  rw [c2] at h
  exact (Int.ofNat_le (m := 8388608) (n := B * 2 ^ j)).mp h
theorem div_bridge (S : Bool) (e1 s1 e2 s2 : Int) (u1 : 0 < s1) (u2 : s1 < 16777216) (u3 : 0 < s2) (u4 : s2 < 16777216) (i j : Nat)
    (a0 : 8388608 ≤ s1 * 2 ^ i) (a1 : s1 * 2 ^ i < 16777216) (b0 : 8388608 ≤ s2 * 2 ^ j) (b1 : s2 * 2 ^ j < 16777216) :
    pack 2 S (e1 - i - (e2 - j) - 40) (s1 * 2 ^ i * 1099511627776 / (s2 * 2 ^ j)) (s1 * 2 ^ i * 1099511627776 % (s2 * 2 ^ j) != 0) =
    pack 2 S (e1 - (62 - bl s1) - e2) (nrm s1 / s2) (nrm s1 % s2 != 0) := by
  obtain ⟨l1, l2, l3, l4⟩ := nrm_range s1 u1 (by omega)
  obtain ⟨A, rfl⟩ := Int.eq_ofNat_of_zero_le (Int.le_of_lt u1)
  obtain ⟨B, rfl⟩ := Int.eq_ofNat_of_zero_le (Int.le_of_lt u3)
  have hB : 0 < B := by omega
  obtain ⟨s, hs⟩ : ∃ s : Nat, (62 - bl (A : Int)) = s := ⟨(62 - bl (A : Int)).toNat, by omega⟩
  have n1 : nrm (A : Int) = ((A * 2 ^ s : Nat) : Int) := by unfold nrm; rw [hs, Int.toNat_natCast]; simp
  rw [n1] at l3 l4 ⊢
  rw [hs]
  have jj : j < 24 := by
    rcases Nat.lt_or_ge j 24 with c | c
    · exact c
    · exfalso
      have h1 : 2 ^ 24 ≤ 2 ^ j := Nat.pow_le_pow_right (by decide) c
      have h2 : 1 * 2 ^ j ≤ B * 2 ^ j := Nat.mul_le_mul_right _ hB
      have h3 := cast_lt16 B j b1
      omega
  obtain ⟨u, hu⟩ : ∃ u, i + 40 = u + j := ⟨i + 40 - j, by omega⟩
  have c1 : (A : Int) * 2 ^ i * 1099511627776 = ((A * 2 ^ u * 2 ^ j : Nat) : Int) := by
    have : A * 2 ^ i * 2 ^ 40 = A * 2 ^ u * 2 ^ j := by rw [Nat.mul_assoc, ← Nat.pow_add, hu, Nat.pow_add, ← Nat.mul_assoc]
    rw [← this]; simp
  have c2 : (B : Int) * 2 ^ j = ((B * 2 ^ j : Nat) : Int) := by simp
  have pj : 0 < 2 ^ j := Nat.pow_pos (by decide)
  rw [c1, c2]
  have q1 : ((A * 2 ^ u * 2 ^ j : Nat) : Int) / ((B * 2 ^ j : Nat) : Int) = ((A * 2 ^ u / B : Nat) : Int) := by
    rw [← Int.natCast_ediv, Nat.mul_div_mul_right _ _ pj]
  have q2 : (((A * 2 ^ u * 2 ^ j : Nat) : Int) % ((B * 2 ^ j : Nat) : Int) != 0) = decide (A * 2 ^ u % B ≠ 0) := by
    rw [← Int.natCast_emod, Nat.mul_mod_mul_right, Bool.eq_iff_iff]
    simp only [bne_iff_ne, ne_eq, decide_eq_true_eq]
    rw [show ((0 : Int) = ((0 : Nat) : Int)) from rfl, Int.natCast_inj, Nat.mul_eq_zero]
    omega
  have q3 : ((A * 2 ^ s : Nat) : Int) / (B : Int) = ((A * 2 ^ s / B : Nat) : Int) := by rw [← Int.natCast_ediv]
  have q4 : (((A * 2 ^ s : Nat) : Int) % (B : Int) != 0) = decide (A * 2 ^ s % B ≠ 0) := by
    rw [← Int.natCast_emod, Bool.eq_iff_iff]
    simp only [bne_iff_ne, ne_eq, decide_eq_true_eq]
    omega
  rw [q1, q2, q3, q4]
  have g1 : 2 ^ 24 ≤ A * 2 ^ u / B := by
    rw [← Nat.mul_div_mul_right _ _ pj, Nat.le_div_iff_mul_le (by exact Nat.mul_pos hB pj)]
    have a0' := cast_le16 A i a0
    have b1' := cast_lt16 B j b1
    have e3 : A * 2 ^ u * 2 ^ j = A * 2 ^ i * 2 ^ 40 := by rw [Nat.mul_assoc, ← Nat.pow_add, ← hu, Nat.pow_add, ← Nat.mul_assoc]
    rw [e3]; omega
  have g2 : 2 ^ 24 ≤ A * 2 ^ s / B := by
    rw [Nat.le_div_iff_mul_le hB]; omega
  rw [pack_q S _ _ _ (by omega), pack_q S _ _ _ (by omega)]
  have key := pkq_eq A B (e1 - e2) u s hB g1 g2
  unfold pkq at key
  rw [show e1 - (i : Int) - (e2 - j) - 40 = e1 - e2 - u by omega, show e1 - (s : Int) - e2 = e1 - e2 - s by omega, key]
end Anneal
