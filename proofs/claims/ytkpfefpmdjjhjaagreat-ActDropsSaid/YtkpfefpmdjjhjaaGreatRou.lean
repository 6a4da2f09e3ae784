/- The walks of packages bits and round. -/
import Derived.Test.YtkpfefpmdjjhjaaGreatFmt
import Derived.Test.YtkpfefpmdjjhjaaGreatShelf
import Derived.Lib.ItoaNum
namespace Go.Proofs.YtkpfefpmdjjhjaaGreat
open Go.RowKit Anneal
set_option linter.unusedSimpArgs false
set_option linter.unusedVariables false

theorem bl_of (x : Int) (h0 : 0 ≤ x) (h1 : x < 18446744073709551616) : (Lib.bitLen x.toNat : Int) = bl x := by
  unfold bl
  split
  · rename_i h; subst h; decide
  · rename_i h
    have hn : x.toNat ≠ 0 := by omega
    obtain ⟨a, b, c⟩ := Lib.bitLenAux_bounds 64 x.toNat (by omega) hn
    have : x.toNat.log2 = Lib.bitLen x.toNat - 1 := by
      rw [Nat.log2_eq_iff hn]
      refine ⟨b, ?_⟩
      have e : Lib.bitLen x.toNat - 1 + 1 = Lib.bitLenAux 64 x.toNat := Nat.sub_add_cancel a
      rw [e]; exact c
    rw [this]
    have : 1 ≤ Lib.bitLen x.toNat := a
    omega
theorem bl_range (x : Int) (h0 : 0 ≤ x) (h1 : x < 18446744073709551616) : 0 ≤ bl x ∧ bl x ≤ 64 := by
  rw [← bl_of x h0 h1]
  have := Lib.bitLen_le x.toNat 64 (by decide) (by omega)
  omega
theorem bits_Len (x : Int) (h0 : 0 ≤ x) (h1 : x < 18446744073709551616) (w : World) : Calls Tryz.prog 176 #[.int .u64 x] w fun e w' => e = .returned (.int .i64 (bl x)) ∧ w = w' := by
  rw [← bl_of x h0 h1]
  have h2 : x ≤ 18446744073709551615 := by omega
  go_enter Tryz.func176, Tryz.ntmps176
  go_wp2_with (go_at_call 233; (with_reducible refine Calls.mono (Tryz.bits_Len64 x _ h0 h2) ?_); rintro e w' ⟨rfl, rfl⟩)
  go_ret
  exact ⟨rfl, rfl⟩

theorem bits_Shift (v n : Int) (h0 : 0 ≤ v) (h1 : v < 18446744073709551616) (w : World) : Calls Tryz.prog 224 #[.int .u64 v, .int .i64 n] w fun e w' => e = .returned (.tuple #[.int .u64 (shV v n), .bool (shB v n)]) ∧ w = w' := by
  have hc : 64 ≤ n ∨ n ≤ -64 ∨ (0 ≤ n ∧ n < 64) ∨ (n < 0 ∧ -64 < n) := by omega
  rcases hc with hc | hc | ⟨hc, hd⟩ | ⟨hc, hd⟩
  all_goals
    go_enter Tryz.func224, Tryz.ntmps224
    go_wp2
    go_ret2
    refine ⟨ret2_ (congrArg (Value.int .u64) ?_) (congrArg Value.bool ?_), rfl⟩
  · simp [shV, hc]
  · simp [shB, hc]
  · simp [shV, hc]
  · simp [shB, hc]
  · rw [shV, if_neg (by omega), if_pos hc]
  · obtain ⟨k, rfl⟩ := Int.eq_ofNat_of_zero_le hc
    rw [shB, if_neg (by omega), if_pos hc, Int.toNat_natCast, wrap_u64]
    have e := Int.emod_add_mul_ediv v (2 ^ k)
    have hp : (0 : Int) < 2 ^ k := Int.pow_pos (by decide)
    have e1 := Int.emod_nonneg v (Int.ne_of_gt hp)
    have e2 : v / 2 ^ k * 2 ^ k = 2 ^ k * (v / 2 ^ k) := Int.mul_comm _ _
    have e3 : 0 ≤ v / 2 ^ k * 2 ^ k := Int.mul_nonneg (Int.ediv_nonneg h0 (Int.le_of_lt hp)) (Int.le_of_lt hp)
    rw [Int.emod_eq_of_lt e3 (by omega)]
    rw [Bool.eq_iff_iff]; simp only [bne_iff_ne]; omega
  · rw [shV, if_neg (by omega), if_neg (by omega), wrap_u64]
  · rw [shB, if_neg (by omega), if_neg (by omega), wrap_u64]

theorem bits_Cut (v n : Int) (h0 : 0 ≤ v) (h1 : v < 18446744073709551616) (hn : 0 ≤ n) (w : World) : Calls Tryz.prog 247 #[.int .u64 v, .int .i64 n] w fun e w' => e = .returned (.int .u64 (if 64 ≤ n then v else v % 2 ^ n.toNat)) ∧ w = w' := by
  have hc : n < 1 ∨ 64 ≤ n ∨ (1 ≤ n ∧ n < 64) := by omega
  rcases hc with hc | hc | ⟨hc, hd⟩
  all_goals
    go_enter Tryz.func247, Tryz.ntmps247
    go_wp2
    go_ret
    refine ⟨ret1_ (congrArg (Value.int .u64) ?_), rfl⟩
  · obtain rfl : n = 0 := by omega
    simp [Int.emod_one]
  · rfl
  · obtain ⟨k, rfl⟩ := Int.eq_ofNat_of_zero_le hn
    have hp : (0 : Int) < 2 ^ k := Int.pow_pos (by decide)
    have hq : (2 : Int) ^ k ≤ 2 ^ 63 := by
      have : 2 ^ k ≤ 2 ^ 63 := Nat.pow_le_pow_right (by decide) (by omega)
      exact_mod_cast this
    rw [Int.toNat_natCast, wrap_u64, wrap_u64, Int.emod_eq_of_lt (by omega) (by omega), Int.emod_eq_of_lt (by omega) (by omega)]
    exact and64 k (by omega) _ rfl v h0 h1
theorem shV_range (v n : Int) (h0 : 0 ≤ v) (h1 : v < 18446744073709551616) : 0 ≤ shV v n ∧ shV v n < 18446744073709551616 := by
  unfold shV
  split
  · omega
  · split
    · exact ⟨Int.ediv_nonneg h0 (Int.le_of_lt (Int.pow_pos (by decide))), Int.lt_of_le_of_lt (Int.ediv_le_self _ h0) h1⟩
    · omega
theorem round_Units (sig by_ : Int) (more : Bool) (h0 : 0 ≤ sig) (h1 : sig < 18446744073709551616) (b1 : -100000 ≤ by_) (b2 : by_ ≤ 100000) (w : World) : Calls Tryz.prog 252 #[.int .u64 sig, .int .i64 by_, .bool more] w fun e w' => e = .returned (.tuple #[.int .u64 (shV sig by_), .int .i64 (uL sig by_ more)]) ∧ w = w' := by
  have hr := shV_range sig (by_ - 1) h0 h1
  have hh := and64 1 (by decide) 1 (by decide) (shV sig (by_ - 1)) hr.1 hr.2
  have hc : by_ ≤ 0 ∨ 0 < by_ := by omega
  rcases hc with hc | hc
  · cases more
    all_goals
      go_enter Tryz.func252, Tryz.ntmps252
      go_wp2_with (first | (go_at_call 224; (with_reducible refine Calls.mono (bits_Shift _ _ (by assumption) (by assumption) _) ?_); rintro e w' ⟨rfl, rfl⟩))
      go_ret2
      exact ⟨ret2_ rfl (by simp [uL, hc]), rfl⟩
  · cases h : shB sig by_
    all_goals
      cases more
      all_goals
        go_enter Tryz.func252, Tryz.ntmps252
        go_wp2_with (first | (go_at_call 224; (with_reducible refine Calls.mono (bits_Shift _ _ (by assumption) (by assumption) _) ?_); rintro e w' ⟨rfl, rfl⟩))
        all_goals (go_ret2; refine ⟨ret2_ rfl (congrArg (Value.int .i64) ?_), rfl⟩; simp only [uL, h])
        all_goals (first | (simp_all; done) | (simp_all; omega))
theorem uL_range (sig by_ : Int) (more : Bool) : 0 ≤ uL sig by_ more ∧ uL sig by_ more ≤ 3 := by unfold uL; (repeat' split) <;> omega
theorem round_Up (neg : Bool) (q left : Int) (h0 : 0 ≤ q) (h1 : q < 18446744073709551616) (w : World) : Calls Tryz.prog 253 #[.int .i64 0, .bool neg, .int .u64 q, .int .i64 left] w fun e w' => e = .returned (.bool (upN q left)) ∧ w = w' := by
  unfold upN
  have hh := and64 1 (by decide) 1 (by decide) q h0 h1
  go_enter Tryz.func253, Tryz.ntmps253
  go_wp2
  all_goals (go_ret; refine ⟨ret1_ (congrArg Value.bool ?_), rfl⟩)
  all_goals (first | (simp_all; done) | (simp_all; omega))
theorem round_Unit (f exp sig : Int) (hf : Fm f) (h0 : 0 ≤ sig) (h1 : sig < 18446744073709551616) (b1 : -100000 ≤ exp) (b2 : exp ≤ 100000) (w : World) : Calls Tryz.prog 245 #[.int .i64 f, .int .i64 exp, .int .u64 sig] w fun e w' => e = .returned (.int .i64 (unI f exp sig)) ∧ w = w' := by
  obtain ⟨l0, l1⟩ := bl_range sig h0 h1
  have hs : 0 < sig ∨ sig = 0 := by omega
  rcases hs with hs | hs
  all_goals
    rcases hf with rfl | rfl | rfl
    all_goals
      go_enter Tryz.func245, Tryz.ntmps245
      go_wp2_with (first | (go_at_call 210; (with_reducible refine Calls.mono (fmtW0 _) ?_); rintro e w' ⟨rfl, rfl⟩) | (go_at_call 210; (with_reducible refine Calls.mono (fmtW1 _) ?_); rintro e w' ⟨rfl, rfl⟩) | (go_at_call 210; (with_reducible refine Calls.mono (fmtW2 _) ?_); rintro e w' ⟨rfl, rfl⟩) | (go_at_call 232; (with_reducible refine Calls.mono (fmtL0 _) ?_); rintro e w' ⟨rfl, rfl⟩) | (go_at_call 232; (with_reducible refine Calls.mono (fmtL1 _) ?_); rintro e w' ⟨rfl, rfl⟩) | (go_at_call 232; (with_reducible refine Calls.mono (fmtL2 _) ?_); rintro e w' ⟨rfl, rfl⟩) | (go_at_call 176; (with_reducible refine Calls.mono (bits_Len sig h0 h1 _) ?_); rintro e w' ⟨rfl, rfl⟩))
      go_ret
      refine ⟨ret1_ (congrArg (Value.int .i64) ?_), rfl⟩
      simp [unI, leastE, mW, hs]
theorem bits_Cut7 (v : Int) (h0 : 0 ≤ v) (h1 : v < 18446744073709551616) (w : World) : Calls Tryz.prog 247 #[.int .u64 v, .int .i64 7] w fun e w' => e = .returned (.int .u64 (v % 128)) ∧ w = w' := bits_Cut v 7 h0 h1 (by decide) w
theorem bits_Cut10 (v : Int) (h0 : 0 ≤ v) (h1 : v < 18446744073709551616) (w : World) : Calls Tryz.prog 247 #[.int .u64 v, .int .i64 10] w fun e w' => e = .returned (.int .u64 (v % 1024)) ∧ w = w' := bits_Cut v 10 h0 h1 (by decide) w
theorem bits_Cut23 (v : Int) (h0 : 0 ≤ v) (h1 : v < 18446744073709551616) (w : World) : Calls Tryz.prog 247 #[.int .u64 v, .int .i64 23] w fun e w' => e = .returned (.int .u64 (v % 8388608)) ∧ w = w' := bits_Cut v 23 h0 h1 (by decide) w
end Go.Proofs.YtkpfefpmdjjhjaaGreat
