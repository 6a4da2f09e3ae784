/- What round.Pack reckons is the rounding of Rnd. -/
import Derived.Test.YtkpfefpmdjjhjaaGreatBit
import Derived.Test.YtkpfefpmdjjhjaaGreatRnd
namespace Anneal
open Go
set_option linter.unusedSimpArgs false

/-- whole units, rounded -/
def qU (f exp sig : Int) : Int := shV sig (unI f exp sig - exp)
def q1 (f exp sig : Int) (more : Bool) : Int :=
  if upN (qU f exp sig) (uL sig (unI f exp sig - exp) more) then qU f exp sig + 1 else qU f exp sig
def pack (f : Int) (neg : Bool) (exp sig : Int) (more : Bool) : Int :=
  if sig = 0 then sgB f neg else sgB f neg + Rnd.pk (mW f) (leastE f) (eP f - 1).toNat sig.toNat exp more

theorem cast_min (a b : Nat) : ((min a b : Nat) : Int) = min (a : Int) b := by omega
theorem mP_pow (f : Int) (hf : Fm f) : mP f = 2 ^ mW f := by rcases hf with rfl | rfl | rfl <;> rfl

theorem bl_spec (x : Int) (h0 : 0 < x) : bl x = x.toNat.log2 + 1 ∧ 2 ^ x.toNat.log2 ≤ x.toNat ∧ x.toNat < 2 ^ (x.toNat.log2 + 1) := by
  refine ⟨by unfold bl; rw [if_neg (by omega)], Nat.log2_self_le (by omega), Nat.lt_log2_self⟩

theorem unit_eq (f exp sig : Int) (h0 : 0 < sig) : Rnd.unit (mW f) (leastE f) sig.toNat exp = unI f exp sig := by
  unfold Rnd.unit unI
  rw [if_pos h0, (bl_spec sig h0).1]
  congr 2; omega

theorem shV_nat (N k : Nat) (h : N < 18446744073709551616) : shV N k = ((N / 2 ^ k : Nat) : Int) := by
  unfold shV
  by_cases hk : 64 ≤ k
  · rw [if_pos (by omega), Nat.div_eq_of_lt (Nat.lt_of_lt_of_le h (Nat.pow_le_pow_right (n := 2) (by decide) hk))]; rfl
  · rw [if_neg (by omega), if_pos (by omega), Int.toNat_natCast]; simp
theorem shB_nat (N k : Nat) (h : N < 18446744073709551616) : shB N k = decide (N % 2 ^ k ≠ 0) := by
  unfold shB
  by_cases hk : 64 ≤ k
  · rw [if_pos (by omega), Nat.mod_eq_of_lt (Nat.lt_of_lt_of_le h (Nat.pow_le_pow_right (n := 2) (by decide) hk))]
    rw [Bool.eq_iff_iff]; simp
  · rw [if_neg (by omega), if_pos (by omega), Int.toNat_natCast]
    rw [Bool.eq_iff_iff]
    have e : ((N : Int) % 2 ^ k) = ((N % 2 ^ k : Nat) : Int) := by simp
    rw [e]; simp only [bne_iff_ne, ne_eq, decide_eq_true_eq]; omega

/-- is the unit above taken? -/
theorem up_nat (N j : Nat) (more : Bool) (h : N < 18446744073709551616) :
    upN (shV N ((j + 1 : Nat) : Int)) (uL N ((j + 1 : Nat) : Int) more) = true ↔ (2 * (N % 2 ^ (j + 1)) > 2 ^ (j + 1) ∨ (2 * (N % 2 ^ (j + 1)) = 2 ^ (j + 1) ∧ (more = true ∨ N / 2 ^ (j + 1) % 2 = 1))) := by
  have hr : N % 2 ^ (j + 1) = N % 2 ^ j + 2 ^ j * (N / 2 ^ j % 2) := by rw [Nat.pow_succ, Nat.mod_mul]
  have hs : N % 2 ^ j < 2 ^ j := Nat.mod_lt _ (Nat.pow_pos (by decide))
  have hh : N / 2 ^ j % 2 = 0 ∨ N / 2 ^ j % 2 = 1 := by omega
  have e1 : (((j + 1 : Nat) : Int) - 1) = ((j : Nat) : Int) := by omega
  unfold upN uL
  rw [e1, shB_nat N _ h, shB_nat N _ h, shV_nat N _ h, shV_nat N _ h, hr]
  have hp : (2 : Nat) ^ (j + 1) = 2 * 2 ^ j := by rw [Nat.pow_succ]; omega
  rw [hp]
  have c0 : ¬ (((j + 1 : Nat) : Int) ≤ 0) := by omega
  generalize N % 2 ^ j = r at *
  have e2 : ((N / 2 ^ j : Nat) : Int) % 2 = ((N / 2 ^ j % 2 : Nat) : Int) := by simp
  have e3 : ((N / (2 * 2 ^ j) : Nat) : Int) % 2 = ((N / (2 * 2 ^ j) % 2 : Nat) : Int) := by simp
  rw [e2, e3]
  generalize N / (2 * 2 ^ j) % 2 = o
  generalize (2 : Nat) ^ j = J at *
  rcases hh with hh | hh
  · rw [hh]
    by_cases h0 : r = 0
    · subst h0
      cases more <;> simp [c0] <;> omega
    · cases more <;> simp [c0, h0] <;> omega
  · rw [hh]
    by_cases h0 : r = 0
    · subst h0
      have : J ≠ 0 := by omega
      cases more <;> simp [c0, this] <;> omega
    · cases more <;> simp [c0, h0] <;> omega

/-- the units before they are rounded, as natural numbers -/
theorem qU_nat (f exp sig : Int) (hf : Fm f) (h0 : 0 < sig) (h1 : sig < 18446744073709551616) :
    qU f exp sig = ((if unI f exp sig ≤ exp then sig.toNat * 2 ^ (exp - unI f exp sig).toNat else sig.toNat / 2 ^ (unI f exp sig - exp).toNat : Nat) : Int) := by
  obtain ⟨b1, b2, b3⟩ := bl_spec sig h0
  have hm : mW f ≤ 23 := by rcases hf with rfl | rfl | rfl <;> decide
  have hu : exp + bl sig - 1 - mW f ≤ unI f exp sig := by unfold unI; rw [if_pos h0]; omega
  obtain ⟨N, rfl⟩ := Int.eq_ofNat_of_zero_le (Int.le_of_lt h0)
  rw [Int.toNat_natCast] at *
  generalize hU : unI f exp N = U at *
  have hN : N < 18446744073709551616 := by omega
  by_cases c : U ≤ exp
  · rw [if_pos c]
    obtain ⟨k, hk⟩ := Int.eq_ofNat_of_zero_le (show 0 ≤ exp - U by omega)
    rw [hk, Int.toNat_natCast]
    have hk2 : N.log2 + 1 + k ≤ 24 := by omega
    unfold qU
    rw [hU, show U - exp = -(k : Int) by omega]
    unfold shV
    by_cases hk0 : k = 0
    · subst hk0; simp
    · rw [if_neg (by omega), if_neg (by omega), Int.neg_neg, Int.toNat_natCast]
      have : N * 2 ^ k < 2 ^ 24 := by
        have a1 : N * 2 ^ k < 2 ^ (N.log2 + 1) * 2 ^ k := Nat.mul_lt_mul_of_pos_right b3 (Nat.pow_pos (by decide))
        rw [← Nat.pow_add] at a1
        exact Nat.lt_of_lt_of_le a1 (Nat.pow_le_pow_right (by decide) hk2)
      have e : (N : Int) * 2 ^ k = ((N * 2 ^ k : Nat) : Int) := by simp
      rw [e]; omega
  · rw [if_neg c]
    obtain ⟨k, hk⟩ := Int.eq_ofNat_of_zero_le (show 0 ≤ U - exp by omega)
    unfold qU
    rw [hU, hk, Int.toNat_natCast, shV_nat N k hN]

/-- how many units there are at the most, and, but for small numbers, at the least -/
theorem qU_range (f exp sig : Int) (hf : Fm f) (h0 : 0 < sig) (h1 : sig < 18446744073709551616) :
    0 ≤ qU f exp sig ∧ qU f exp sig < 2 * mP f ∧ (leastE f - mW f < unI f exp sig → mP f ≤ qU f exp sig) := by
  rw [qU_nat f exp sig hf h0 h1, mP_pow f hf]
  obtain ⟨b1, b2, b3⟩ := bl_spec sig h0
  have hu : unI f exp sig = max (leastE f) (exp + bl sig - 1) - mW f := by unfold unI; rw [if_pos h0]
  rw [b1] at hu
  generalize sig.toNat = N at *
  generalize unI f exp sig = U at *
  have e2 : (2 : Int) * 2 ^ mW f = ((2 ^ (mW f + 1) : Nat) : Int) := by rw [Nat.pow_succ]; simp; omega
  have e3 : (2 : Int) ^ mW f = ((2 ^ mW f : Nat) : Int) := by simp
  rw [e2, e3]
  generalize mW f = m at *
  refine ⟨by omega, ?_, ?_⟩
  · apply Int.ofNat_lt.mpr
    split
    · have a1 : N * 2 ^ (exp - U).toNat < 2 ^ (N.log2 + 1) * 2 ^ (exp - U).toNat := Nat.mul_lt_mul_of_pos_right b3 (Nat.pow_pos (by decide))
      rw [← Nat.pow_add] at a1
      exact Nat.lt_of_lt_of_le a1 (Nat.pow_le_pow_right (by decide) (by omega))
    · rw [Nat.div_lt_iff_lt_mul (Nat.pow_pos (by decide)), ← Nat.pow_add]
      exact Nat.lt_of_lt_of_le b3 (Nat.pow_le_pow_right (by decide) (by omega))
  · intro hl
    apply Int.ofNat_le.mpr
    split
    · have a1 : 2 ^ N.log2 * 2 ^ (exp - U).toNat ≤ N * 2 ^ (exp - U).toNat := Nat.mul_le_mul_right _ b2
      rw [← Nat.pow_add] at a1
      exact Nat.le_trans (Nat.pow_le_pow_right (by decide) (by omega)) a1
    · rw [Nat.le_div_iff_mul_le (Nat.pow_pos (by decide)), ← Nat.pow_add]
      exact Nat.le_trans (Nat.pow_le_pow_right (by decide) (by omega)) b2

theorem q1_nat (f exp sig : Int) (more : Bool) (hf : Fm f) (h0 : 0 < sig) (h1 : sig < 18446744073709551616) :
    q1 f exp sig more = ((if unI f exp sig ≤ exp then sig.toNat * 2 ^ (exp - unI f exp sig).toNat else Rnd.rnes sig.toNat (unI f exp sig - exp).toNat more : Nat) : Int) := by
  have hq := qU_nat f exp sig hf h0 h1
  unfold q1
  by_cases c : unI f exp sig ≤ exp
  · rw [if_pos c] at hq ⊢
    rw [hq, if_neg]
    unfold upN uL
    rw [if_pos (by omega)]
    cases more <;> simp
  · rw [if_neg c] at hq ⊢
    obtain ⟨N, rfl⟩ := Int.eq_ofNat_of_zero_le (Int.le_of_lt h0)
    have hN : N < 18446744073709551616 := by omega
    rw [Int.toNat_natCast] at *
    obtain ⟨j, hj⟩ : ∃ j : Nat, unI f exp N - exp = ((j + 1 : Nat) : Int) := ⟨(unI f exp N - exp).toNat - 1, by omega⟩
    have hu := up_nat N j more hN
    unfold qU at *
    rw [hj, Int.toNat_natCast] at hq
    rw [hj, Int.toNat_natCast]
    unfold Rnd.rnes
    rw [hq]
    rw [hq] at hu
    by_cases u : upN ((N / 2 ^ (j + 1) : Nat) : Int) (uL (N : Int) ((j + 1 : Nat) : Int) more) = true
    · rw [if_pos u, if_pos (hu.mp u)]; simp
    · rw [if_neg u, if_neg (fun h => u (hu.mpr h))]
theorem q1_range (f exp sig : Int) (more : Bool) (hf : Fm f) (h0 : 0 < sig) (h1 : sig < 18446744073709551616) :
    0 ≤ q1 f exp sig more ∧ q1 f exp sig more ≤ 2 * mP f ∧ (leastE f - mW f < unI f exp sig → mP f ≤ q1 f exp sig more) := by
  obtain ⟨a, b, c⟩ := qU_range f exp sig hf h0 h1
  unfold q1
  split <;> exact ⟨by omega, by omega, fun h => by have := c h; omega⟩

/-- the exponent as it stands, and the fraction, by the rounded units -/
def atX (f q un : Int) : Int := if q < mP f then 0 else un + mW f - leastE f + 1
theorem pack_eq (f : Int) (neg : Bool) (exp sig : Int) (more : Bool) (hf : Fm f) (h0 : 0 < sig) (h1 : sig < 18446744073709551616) (q un : Int)
    (hq : (q1 f exp sig more < 2 * mP f ∧ q = q1 f exp sig more ∧ un = unI f exp sig) ∨ (q1 f exp sig more = 2 * mP f ∧ q = mP f ∧ un = unI f exp sig + 1)) :
    pack f neg exp sig more = if eP f - 1 ≤ atX f q un then fInf f neg else fJoin f neg (atX f q un) (q % mP f) := by
  obtain ⟨a, b, c⟩ := q1_range f exp sig more hf h0 h1
  have hu : leastE f - mW f ≤ unI f exp sig := by unfold unI; rw [if_pos h0]; omega
  have hm : 0 < mP f := by rcases hf with rfl | rfl | rfl <;> decide
  have he : 0 < eP f := by rcases hf with rfl | rfl | rfl <;> decide
  have hk := q1_nat f exp sig more hf h0 h1
  unfold pack
  rw [if_neg (by omega)]
  unfold Rnd.pk
  rw [unit_eq f exp sig h0]
  have key : (((if unI f exp sig ≤ exp then sig.toNat * 2 ^ (exp - unI f exp sig).toNat else Rnd.rnes sig.toNat (unI f exp sig - exp).toNat more) + (unI f exp sig + mW f - leastE f).toNat * 2 ^ mW f : Nat) : Int) = q1 f exp sig more + (unI f exp sig + mW f - leastE f) * mP f := by
    rw [Int.natCast_add, ← hk, Int.natCast_mul, mP_pow f hf, Int.toNat_of_nonneg (by omega)]; simp
  have key2 : (((eP f - 1).toNat * 2 ^ mW f : Nat) : Int) = (eP f - 1) * mP f := by
    rw [Int.natCast_mul, mP_pow f hf, Int.toNat_of_nonneg (by omega)]; simp
  rw [cast_min, key, key2]
  generalize q1 f exp sig more = Q at *
  generalize unI f exp sig = U at *
  clear hk key key2
  unfold atX fInf fJoin
  obtain ⟨D, hD⟩ : ∃ D, D = U + mW f - leastE f := ⟨_, rfl⟩
  rcases hq with ⟨q0, rfl, rfl⟩ | ⟨q0, rfl, rfl⟩
  · rw [← hD]
    by_cases c0 : q < mP f
    · have : D = 0 := by
        rcases Int.lt_or_le (leastE f - mW f) un with h | h
        · have := c h; omega
        · omega
      rw [if_pos c0, if_neg (by rcases hf with rfl | rfl | rfl <;> simp [eP]), this, Int.emod_eq_of_lt a c0]
      have : (0 : Int) * mP f = 0 := by omega
      have : q ≤ (eP f - 1) * mP f := by
        have : 1 * mP f ≤ (eP f - 1) * mP f := Int.mul_le_mul_of_nonneg_right (by rcases hf with rfl | rfl | rfl <;> simp [eP]) (by omega)
        omega
      omega
    · rw [if_neg c0]
      have e : q % mP f = q - mP f := by
        rw [← Int.emod_eq_of_lt (show 0 ≤ q - mP f by omega) (show q - mP f < mP f by omega), Int.sub_emod_right]
      have e2 : (D + 1) * mP f = D * mP f + mP f := by rw [Int.add_mul]; omega
      by_cases c1 : eP f - 1 ≤ D + 1
      · rw [if_pos c1]
        have : (eP f - 1) * mP f ≤ (D + 1) * mP f := Int.mul_le_mul_of_nonneg_right c1 (by omega)
        omega
      · rw [if_neg c1, e]
        have : (D + 2) * mP f ≤ (eP f - 1) * mP f := Int.mul_le_mul_of_nonneg_right (by omega) (by omega)
        have e3 : (D + 2) * mP f = D * mP f + 2 * mP f := by rw [Int.add_mul]
        omega
  · rw [show U + 1 + mW f - leastE f + 1 = D + 2 by omega, ← hD, if_neg (show ¬ mP f < mP f by omega), Int.emod_self]
    have e3 : (D + 2) * mP f = D * mP f + 2 * mP f := by rw [Int.add_mul]
    by_cases c1 : eP f - 1 ≤ D + 2
    · rw [if_pos c1]
      have : (eP f - 1) * mP f ≤ (D + 2) * mP f := Int.mul_le_mul_of_nonneg_right c1 (by omega)
      omega
    · rw [if_neg c1]
      have : (D + 2) * mP f ≤ (eP f - 1) * mP f := Int.mul_le_mul_of_nonneg_right (by omega) (by omega)
      omega

/-- what is told of a rounded number -/
def Says (f : Int) (neg : Bool) (V Q U : Int) : Prop :=
  ∀ q un, ((Q < 2 * mP f ∧ q = Q ∧ un = U) ∨ (Q = 2 * mP f ∧ q = mP f ∧ un = U + 1)) → V = if eP f - 1 ≤ atX f q un then fInf f neg else fJoin f neg (atX f q un) (q % mP f)
theorem V_small (f : Int) (neg : Bool) (V Q U fr : Int) (hf : Fm f) (hV : Says f neg V Q U) (h0 : 0 ≤ Q) (h : Q < mP f) (e : fr = Q) : fJoin f neg 0 fr = V := by
  have he : 1 < eP f := by rcases hf with rfl | rfl | rfl <;> decide
  rw [hV Q U (Or.inl ⟨by omega, rfl, rfl⟩), atX, if_pos h, if_neg (by omega), e, Int.emod_eq_of_lt h0 h]
theorem V_norm (f : Int) (neg : Bool) (V Q U A fr : Int) (hV : Says f neg V Q U) (h0 : mP f ≤ Q) (h : Q < 2 * mP f) (eA : A = U + mW f - leastE f + 1) (hA : A < eP f - 1) (e : fr = Q - mP f) : fJoin f neg A fr = V := by
  have e1 : Q % mP f = Q - mP f := by
    rw [← Int.emod_eq_of_lt (show 0 ≤ Q - mP f by omega) (show Q - mP f < mP f by omega), Int.sub_emod_right]
  rw [hV Q U (Or.inl ⟨h, rfl, rfl⟩), atX, if_neg (show ¬ Q < mP f by omega), if_neg (by omega), e1, e, eA]
theorem V_inf (f : Int) (neg : Bool) (V Q U A : Int) (hV : Says f neg V Q U) (h0 : mP f ≤ Q) (h : Q < 2 * mP f) (eA : A = U + mW f - leastE f + 1) (hA : eP f - 1 ≤ A) : fInf f neg = V := by
  rw [hV Q U (Or.inl ⟨h, rfl, rfl⟩), atX, if_neg (show ¬ Q < mP f by omega), if_pos (by omega)]
theorem V_norm2 (f : Int) (neg : Bool) (V Q U A fr : Int) (hV : Says f neg V Q U) (h0 : Q = 2 * mP f) (eA : A = U + 1 + mW f - leastE f + 1) (hA : A < eP f - 1) (e : fr = 0) : fJoin f neg A fr = V := by
  rw [hV (mP f) (U + 1) (Or.inr ⟨h0, rfl, rfl⟩), atX, if_neg (show ¬ mP f < mP f by omega), if_neg (by omega), e, eA, Int.emod_self]
theorem V_inf2 (f : Int) (neg : Bool) (V Q U A : Int) (hV : Says f neg V Q U) (h0 : Q = 2 * mP f) (eA : A = U + 1 + mW f - leastE f + 1) (hA : eP f - 1 ≤ A) : fInf f neg = V := by
  rw [hV (mP f) (U + 1) (Or.inr ⟨h0, rfl, rfl⟩), atX, if_neg (show ¬ mP f < mP f by omega), if_pos (by omega)]
end Anneal
