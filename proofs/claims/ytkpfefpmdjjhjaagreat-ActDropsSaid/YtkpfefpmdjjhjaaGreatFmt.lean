/- The walks of package format: each call tells what the plain functions of Anneal tell. -/
import Derived.Test.YtkpfefpmdjjhjaaGreatProg
import Derived.Test.YtkpfefpmdjjhjaaGreatBit
import Derived.WalkKit
import Derived.WalkSpells
import Derived.KernelRfl
import Derived.RowKit3
import Derived.Deep.QuietTactic
import Derived.BigQuiet
import Derived.Deep.RegionHeld3
namespace Go.Proofs.YtkpfefpmdjjhjaaGreat
set_option linter.unusedSimpArgs false
set_option linter.unusedVariables false
open Go.RowKit Anneal

theorem ret1_ {a a' : Value} (h1 : a = a') : Ending.returned a = .returned a' := by rw [h1]
theorem ret2_ {a b a' b' : Value} (h1 : a = a') (h2 : b = b') : Ending.returned (.tuple #[a, b]) = .returned (.tuple #[a', b']) := by rw [h1, h2]
theorem ret3_ {a b c a' b' c' : Value} (h1 : a = a') (h2 : b = b') (h3 : c = c') : Ending.returned (.tuple #[a, b, c]) = .returned (.tuple #[a', b', c']) := by rw [h1, h2, h3]

theorem fmtW0 (w : World) : Calls Tryz.prog 210 #[.int .i64 0] w fun e w' => e = .returned (.tuple #[.int .i64 5, .int .i64 10]) ∧ w = w' := by
  go_enter Tryz.func210, Tryz.ntmps210; go_wp2; go_ret2; exact ⟨rfl, rfl⟩
theorem fmtW1 (w : World) : Calls Tryz.prog 210 #[.int .i64 1] w fun e w' => e = .returned (.tuple #[.int .i64 8, .int .i64 7]) ∧ w = w' := by
  go_enter Tryz.func210, Tryz.ntmps210; go_wp2; go_ret2; exact ⟨rfl, rfl⟩
theorem fmtW2 (w : World) : Calls Tryz.prog 210 #[.int .i64 2] w fun e w' => e = .returned (.tuple #[.int .i64 8, .int .i64 23]) ∧ w = w' := by
  go_enter Tryz.func210, Tryz.ntmps210; go_wp2; go_ret2; exact ⟨rfl, rfl⟩

theorem format_Parts (f v : Int) (hf : Fm f) (h0 : 0 ≤ v) (h1 : v < 4294967296) (w : World) : Calls Tryz.prog 213 #[.int .i64 f, .int .u32 v] w fun e w' => e = .returned (.tuple #[.bool (pS f v), .int .i64 (pE f v), .int .u32 (pF f v)]) ∧ w = w' := by
  rcases hf with rfl | rfl | rfl
  all_goals
    go_enter Tryz.func213, Tryz.ntmps213
    go_wp2_with (first | (go_at_call 210; (with_reducible refine Calls.mono (fmtW0 _) ?_); rintro e w' ⟨rfl, rfl⟩) | (go_at_call 210; (with_reducible refine Calls.mono (fmtW1 _) ?_); rintro e w' ⟨rfl, rfl⟩) | (go_at_call 210; (with_reducible refine Calls.mono (fmtW2 _) ?_); rintro e w' ⟨rfl, rfl⟩))
    go_ret3
    refine ⟨ret3_ (congrArg Value.bool ?_) (congrArg (Value.int .i64) ?_) (congrArg (Value.int .u32) ?_), rfl⟩
  · rw [and32 1 (by decide) 1 (by decide) _ (by omega) (by omega)]; rfl
  · rw [and32 5 (by decide) 31 (by decide) _ (by omega) (by omega), wrap64_of (by omega) (by omega)]; rfl
  · rw [and32 10 (by decide) 1023 (by decide) _ (by omega) (by omega)]; rfl
  · rw [and32 1 (by decide) 1 (by decide) _ (by omega) (by omega)]; rfl
  · rw [and32 8 (by decide) 255 (by decide) _ (by omega) (by omega), wrap64_of (by omega) (by omega)]; rfl
  · rw [and32 7 (by decide) 127 (by decide) _ (by omega) (by omega)]; rfl
  · rw [and32 1 (by decide) 1 (by decide) _ (by omega) (by omega)]; rfl
  · rw [and32 8 (by decide) 255 (by decide) _ (by omega) (by omega), wrap64_of (by omega) (by omega)]; rfl
  · rw [and32 23 (by decide) 8388607 (by decide) _ (by omega) (by omega)]; rfl

theorem format_Top (f : Int) (hf : Fm f) (w : World) : Calls Tryz.prog 212 #[.int .i64 f] w fun e w' => e = .returned (.int .i64 (eP f - 1)) ∧ w = w' := by
  rcases hf with rfl | rfl | rfl
  all_goals
    go_enter Tryz.func212, Tryz.ntmps212
    go_wp2_with (first | (go_at_call 210; (with_reducible refine Calls.mono (fmtW0 _) ?_); rintro e w' ⟨rfl, rfl⟩) | (go_at_call 210; (with_reducible refine Calls.mono (fmtW1 _) ?_); rintro e w' ⟨rfl, rfl⟩) | (go_at_call 210; (with_reducible refine Calls.mono (fmtW2 _) ?_); rintro e w' ⟨rfl, rfl⟩))
    go_ret
    exact ⟨rfl, rfl⟩

theorem format_Least (f : Int) (hf : Fm f) (w : World) : Calls Tryz.prog 232 #[.int .i64 f] w fun e w' => e = .returned (.int .i64 (leastE f)) ∧ w = w' := by
  rcases hf with rfl | rfl | rfl
  all_goals
    go_enter Tryz.func232, Tryz.ntmps232
    go_wp2_with (first | (go_at_call 210; (with_reducible refine Calls.mono (fmtW0 _) ?_); rintro e w' ⟨rfl, rfl⟩) | (go_at_call 210; (with_reducible refine Calls.mono (fmtW1 _) ?_); rintro e w' ⟨rfl, rfl⟩) | (go_at_call 210; (with_reducible refine Calls.mono (fmtW2 _) ?_); rintro e w' ⟨rfl, rfl⟩))
    go_ret
    exact ⟨rfl, rfl⟩

theorem format_Mask (f : Int) (hf : Fm f) (w : World) : Calls Tryz.prog 164 #[.int .i64 f] w fun e w' => e = .returned (.int .u32 (fMask f)) ∧ w = w' := by
  rcases hf with rfl | rfl | rfl
  all_goals
    go_enter Tryz.func164, Tryz.ntmps164
    go_wp2_with (first | (go_at_call 210; (with_reducible refine Calls.mono (fmtW0 _) ?_); rintro e w' ⟨rfl, rfl⟩) | (go_at_call 210; (with_reducible refine Calls.mono (fmtW1 _) ?_); rintro e w' ⟨rfl, rfl⟩) | (go_at_call 210; (with_reducible refine Calls.mono (fmtW2 _) ?_); rintro e w' ⟨rfl, rfl⟩))
    go_ret
    exact ⟨rfl, rfl⟩

theorem fmtT0 (w : World) : Calls Tryz.prog 212 #[.int .i64 0] w fun e w' => e = .returned (.int .i64 31) ∧ w = w' := format_Top 0 (by decide) w
theorem fmtT1 (w : World) : Calls Tryz.prog 212 #[.int .i64 1] w fun e w' => e = .returned (.int .i64 255) ∧ w = w' := format_Top 1 (by decide) w
theorem fmtT2 (w : World) : Calls Tryz.prog 212 #[.int .i64 2] w fun e w' => e = .returned (.int .i64 255) ∧ w = w' := format_Top 2 (by decide) w
theorem fmtL0 (w : World) : Calls Tryz.prog 232 #[.int .i64 0] w fun e w' => e = .returned (.int .i64 (-14)) ∧ w = w' := format_Least 0 (by decide) w
theorem fmtL1 (w : World) : Calls Tryz.prog 232 #[.int .i64 1] w fun e w' => e = .returned (.int .i64 (-126)) ∧ w = w' := format_Least 1 (by decide) w
theorem fmtL2 (w : World) : Calls Tryz.prog 232 #[.int .i64 2] w fun e w' => e = .returned (.int .i64 (-126)) ∧ w = w' := format_Least 2 (by decide) w
theorem fmtM0 (w : World) : Calls Tryz.prog 164 #[.int .i64 0] w fun e w' => e = .returned (.int .u32 65535) ∧ w = w' := format_Mask 0 (by decide) w
theorem fmtM1 (w : World) : Calls Tryz.prog 164 #[.int .i64 1] w fun e w' => e = .returned (.int .u32 65535) ∧ w = w' := format_Mask 1 (by decide) w
theorem fmtM2 (w : World) : Calls Tryz.prog 164 #[.int .i64 2] w fun e w' => e = .returned (.int .u32 4294967295) ∧ w = w' := format_Mask 2 (by decide) w

theorem format_Join (f : Int) (neg : Bool) (exp frac : Int) (hf : Fm f) (h0 : 0 ≤ exp) (h1 : exp < eP f) (h2 : 0 ≤ frac) (h3 : frac < mP f) (w : World) :
    Calls Tryz.prog 211 #[.int .i64 f, .bool neg, .int .i64 exp, .int .u32 frac] w fun e w' => e = .returned (.int .u32 (fJoin f neg exp frac)) ∧ w = w' := by
  rcases hf with rfl | rfl | rfl
  all_goals
    cases neg
    all_goals
      simp only [eP, mP] at h1 h3
      simp at h1 h3
      go_enter Tryz.func211, Tryz.ntmps211
      go_wp2_with (first | (go_at_call 210; (with_reducible refine Calls.mono (fmtW0 _) ?_); rintro e w' ⟨rfl, rfl⟩) | (go_at_call 210; (with_reducible refine Calls.mono (fmtW1 _) ?_); rintro e w' ⟨rfl, rfl⟩) | (go_at_call 210; (with_reducible refine Calls.mono (fmtW2 _) ?_); rintro e w' ⟨rfl, rfl⟩))
      go_ret
      refine ⟨ret1_ (congrArg (Value.int .u32) ?_), rfl⟩
      first
        | (rw [or32 10 _ _ (by omega) (by omega) (by omega) (by omega) (by omega) (by omega)]; simp [fJoin, sgB, mP, eP]; done)
        | (rw [or32 7 _ _ (by omega) (by omega) (by omega) (by omega) (by omega) (by omega)]; simp [fJoin, sgB, mP, eP]; done)
        | (rw [or32 23 _ _ (by omega) (by omega) (by omega) (by omega) (by omega) (by omega)]; simp [fJoin, sgB, mP, eP]; done)
        | (rw [or32 10 (exp * 1024) _ (by omega) (by omega) (by omega) (by omega) (by omega) (by omega), bits_or_comm, or32 15 _ _ (by omega) (by omega) (by omega) (by omega) (by omega) (by omega)]; simp [fJoin, sgB, mP, eP]; omega)
        | (rw [or32 7 (exp * 128) _ (by omega) (by omega) (by omega) (by omega) (by omega) (by omega), bits_or_comm, or32 15 _ _ (by omega) (by omega) (by omega) (by omega) (by omega) (by omega)]; simp [fJoin, sgB, mP, eP]; omega)
        | (rw [or32 23 (exp * 8388608) _ (by omega) (by omega) (by omega) (by omega) (by omega) (by omega), bits_or_comm, or32 31 _ _ (by omega) (by omega) (by omega) (by omega) (by omega) (by omega)]; simp [fJoin, sgB, mP, eP]; omega)

theorem format_Class (f v : Int) (hf : Fm f) (h0 : 0 ≤ v) (h1 : v < 4294967296) (w : World) : Calls Tryz.prog 209 #[.int .i64 f, .int .u32 v] w fun e w' => e = .returned (.int .i64 (cls f v)) ∧ w = w' := by
  have a := pE_range f v hf
  have b := pF_range f v hf
  rcases hf with rfl | rfl | rfl
  all_goals
    simp only [eP, mP] at a b
    simp at a b
    obtain ⟨a1, a2⟩ := a
    obtain ⟨b1, b2⟩ := b
    go_enter Tryz.func209, Tryz.ntmps209
    go_wp2_with (first | (go_at_call 210; (with_reducible refine Calls.mono (fmtW0 _) ?_); rintro e w' ⟨rfl, rfl⟩) | (go_at_call 210; (with_reducible refine Calls.mono (fmtW1 _) ?_); rintro e w' ⟨rfl, rfl⟩) | (go_at_call 210; (with_reducible refine Calls.mono (fmtW2 _) ?_); rintro e w' ⟨rfl, rfl⟩) | (go_at_call 213; (with_reducible refine Calls.mono (format_Parts _ v (by decide) h0 h1 _) ?_); rintro e w' ⟨rfl, rfl⟩) | (go_at_call 212; (with_reducible refine Calls.mono (fmtT0 _) ?_); rintro e w' ⟨rfl, rfl⟩) | (go_at_call 212; (with_reducible refine Calls.mono (fmtT1 _) ?_); rintro e w' ⟨rfl, rfl⟩) | (go_at_call 212; (with_reducible refine Calls.mono (fmtT2 _) ?_); rintro e w' ⟨rfl, rfl⟩))
    all_goals (go_ret; refine ⟨ret1_ (congrArg (Value.int .i64) ?_), rfl⟩; simp only [cls, eP, mP]; simp; (try simp only [beq_iff_eq, beq_eq_false_iff_ne, bne_iff_ne, ne_eq, decide_eq_true_eq, decide_eq_false_iff_not, bne_eq_false_iff_eq, Bool.not_eq_true] at *); (repeat' split) <;> first | rfl | omega)
theorem format_Unpack (f v : Int) (hf : Fm f) (h0 : 0 ≤ v) (h1 : v < 4294967296) (w : World) : Calls Tryz.prog 175 #[.int .i64 f, .int .u32 v] w fun e w' => e = .returned (.tuple #[.bool (pS f v), .int .i64 (uE f v), .int .u64 (uS f v)]) ∧ w = w' := by
  have a := pE_range f v hf
  have b := pF_range f v hf
  rcases hf with rfl | rfl | rfl
  all_goals
    simp only [eP, mP] at a b
    simp at a b
    obtain ⟨a1, a2⟩ := a
    obtain ⟨b1, b2⟩ := b
    go_enter Tryz.func175, Tryz.ntmps175
    go_wp2_with (first | (go_at_call 210; (with_reducible refine Calls.mono (fmtW0 _) ?_); rintro e w' ⟨rfl, rfl⟩) | (go_at_call 210; (with_reducible refine Calls.mono (fmtW1 _) ?_); rintro e w' ⟨rfl, rfl⟩) | (go_at_call 210; (with_reducible refine Calls.mono (fmtW2 _) ?_); rintro e w' ⟨rfl, rfl⟩) | (go_at_call 213; (with_reducible refine Calls.mono (format_Parts _ v (by decide) h0 h1 _) ?_); rintro e w' ⟨rfl, rfl⟩) | (go_at_call 212; (with_reducible refine Calls.mono (fmtT0 _) ?_); rintro e w' ⟨rfl, rfl⟩) | (go_at_call 212; (with_reducible refine Calls.mono (fmtT1 _) ?_); rintro e w' ⟨rfl, rfl⟩) | (go_at_call 212; (with_reducible refine Calls.mono (fmtT2 _) ?_); rintro e w' ⟨rfl, rfl⟩) | (go_at_call 232; (with_reducible refine Calls.mono (fmtL0 _) ?_); rintro e w' ⟨rfl, rfl⟩) | (go_at_call 232; (with_reducible refine Calls.mono (fmtL1 _) ?_); rintro e w' ⟨rfl, rfl⟩) | (go_at_call 232; (with_reducible refine Calls.mono (fmtL2 _) ?_); rintro e w' ⟨rfl, rfl⟩))
    all_goals (go_ret3; refine ⟨ret3_ rfl (congrArg (Value.int .i64) ?_) (congrArg (Value.int .u64) ?_), rfl⟩)
    all_goals (simp only [uE, uS, eP, mP, leastE, mW]; simp; try rw [bits_or_comm])
    all_goals (try first | rw [or64 10 _ _ (by omega) (by omega) (by omega) (by omega) (by omega) (by omega)] | rw [or64 7 _ _ (by omega) (by omega) (by omega) (by omega) (by omega) (by omega)] | rw [or64 23 _ _ (by omega) (by omega) (by omega) (by omega) (by omega) (by omega)])
    all_goals (try simp only [beq_iff_eq, beq_eq_false_iff_ne, bne_iff_ne, ne_eq, decide_eq_true_eq, decide_eq_false_iff_not, bne_eq_false_iff_eq, Bool.not_eq_true] at *); (repeat' split) <;> first | rfl | omega

theorem format_Zero (f : Int) (neg : Bool) (hf : Fm f) (w : World) : Calls Tryz.prog 223 #[.int .i64 f, .bool neg] w fun e w' => e = .returned (.int .u32 (sgB f neg)) ∧ w = w' := by
  have h : fJoin f neg 0 0 = sgB f neg := by unfold fJoin; omega
  have he : 0 < eP f := by rcases hf with rfl | rfl | rfl <;> decide
  have hm : 0 < mP f := by rcases hf with rfl | rfl | rfl <;> decide
  go_enter Tryz.func223, Tryz.ntmps223
  go_wp2_with (go_at_call 211; (with_reducible refine Calls.mono (format_Join f neg 0 0 hf (by decide) he (by decide) hm _) ?_); rintro e w' ⟨rfl, rfl⟩)
  go_ret
  exact ⟨rfl, rfl⟩
theorem format_Inf (f : Int) (neg : Bool) (hf : Fm f) (w : World) : Calls Tryz.prog 173 #[.int .i64 f, .bool neg] w fun e w' => e = .returned (.int .u32 (fInf f neg)) ∧ w = w' := by
  rcases hf with rfl | rfl | rfl
  all_goals
    go_enter Tryz.func173, Tryz.ntmps173
    go_wp2_with (first | (go_at_call 212; (with_reducible refine Calls.mono (fmtT0 _) ?_); rintro e w' ⟨rfl, rfl⟩) | (go_at_call 212; (with_reducible refine Calls.mono (fmtT1 _) ?_); rintro e w' ⟨rfl, rfl⟩) | (go_at_call 212; (with_reducible refine Calls.mono (fmtT2 _) ?_); rintro e w' ⟨rfl, rfl⟩) | (go_at_call 211; (with_reducible refine Calls.mono (format_Join _ neg _ 0 (by decide) (by decide) (by decide) (by decide) (by decide) _) ?_); rintro e w' ⟨rfl, rfl⟩))
    go_ret
    exact ⟨ret1_ (by simp only [fInf, fJoin, eP, mP]; simp), rfl⟩
theorem format_Greatest (f : Int) (neg : Bool) (hf : Fm f) (w : World) : Calls Tryz.prog 264 #[.int .i64 f, .bool neg] w fun e w' => e = .returned (.int .u32 (fGreat f neg)) ∧ w = w' := by
  rcases hf with rfl | rfl | rfl
  all_goals
    go_enter Tryz.func264, Tryz.ntmps264
    go_wp2_with (first | (go_at_call 210; (with_reducible refine Calls.mono (fmtW0 _) ?_); rintro e w' ⟨rfl, rfl⟩) | (go_at_call 210; (with_reducible refine Calls.mono (fmtW1 _) ?_); rintro e w' ⟨rfl, rfl⟩) | (go_at_call 210; (with_reducible refine Calls.mono (fmtW2 _) ?_); rintro e w' ⟨rfl, rfl⟩) | (go_at_call 212; (with_reducible refine Calls.mono (fmtT0 _) ?_); rintro e w' ⟨rfl, rfl⟩) | (go_at_call 212; (with_reducible refine Calls.mono (fmtT1 _) ?_); rintro e w' ⟨rfl, rfl⟩) | (go_at_call 212; (with_reducible refine Calls.mono (fmtT2 _) ?_); rintro e w' ⟨rfl, rfl⟩) | (go_at_call 211; (with_reducible refine Calls.mono (format_Join _ neg _ _ (by decide) (by decide) (by decide) (by decide) (by decide) _) ?_); rintro e w' ⟨rfl, rfl⟩))
    go_ret
    exact ⟨ret1_ (by simp only [fGreat, fJoin, eP, mP]; simp; omega), rfl⟩
theorem format_Nan (f : Int) (hf : Fm f) (w : World) : Calls Tryz.prog 148 #[.int .i64 f] w fun e w' => e = .returned (.int .u32 (fNan f)) ∧ w = w' := by
  rcases hf with rfl | rfl | rfl
  all_goals
    go_enter Tryz.func148, Tryz.ntmps148
    go_wp2_with (first | (go_at_call 210; (with_reducible refine Calls.mono (fmtW0 _) ?_); rintro e w' ⟨rfl, rfl⟩) | (go_at_call 210; (with_reducible refine Calls.mono (fmtW1 _) ?_); rintro e w' ⟨rfl, rfl⟩) | (go_at_call 210; (with_reducible refine Calls.mono (fmtW2 _) ?_); rintro e w' ⟨rfl, rfl⟩) | (go_at_call 212; (with_reducible refine Calls.mono (fmtT0 _) ?_); rintro e w' ⟨rfl, rfl⟩) | (go_at_call 212; (with_reducible refine Calls.mono (fmtT1 _) ?_); rintro e w' ⟨rfl, rfl⟩) | (go_at_call 212; (with_reducible refine Calls.mono (fmtT2 _) ?_); rintro e w' ⟨rfl, rfl⟩) | (go_at_call 211; (with_reducible refine Calls.mono (format_Join _ _ _ _ (by decide) (by decide) (by decide) (by decide) (by decide) _) ?_); rintro e w' ⟨rfl, rfl⟩))
    go_ret
    exact ⟨ret1_ rfl, rfl⟩
theorem format_Finite (f v : Int) (hf : Fm f) (h0 : 0 ≤ v) (h1 : v < 4294967296) (w : World) : Calls Tryz.prog 244 #[.int .i64 f, .int .u32 v] w fun e w' => e = .returned (.bool (decide (pE f v < eP f - 1))) ∧ w = w' := by
  rcases hf with rfl | rfl | rfl
  all_goals
    go_enter Tryz.func244, Tryz.ntmps244
    go_wp2_with (first | (go_at_call 213; (with_reducible refine Calls.mono (format_Parts _ v (by decide) h0 h1 _) ?_); rintro e w' ⟨rfl, rfl⟩) | (go_at_call 212; (with_reducible refine Calls.mono (fmtT0 _) ?_); rintro e w' ⟨rfl, rfl⟩) | (go_at_call 212; (with_reducible refine Calls.mono (fmtT1 _) ?_); rintro e w' ⟨rfl, rfl⟩) | (go_at_call 212; (with_reducible refine Calls.mono (fmtT2 _) ?_); rintro e w' ⟨rfl, rfl⟩))
    go_ret
    exact ⟨ret1_ rfl, rfl⟩
theorem format_IsNan (f v : Int) (hf : Fm f) (h0 : 0 ≤ v) (h1 : v < 4294967296) (w : World) : Calls Tryz.prog 147 #[.int .i64 f, .int .u32 v] w fun e w' => e = .returned (.bool (decide (4 ≤ cls f v))) ∧ w = w' := by
  go_enter Tryz.func147, Tryz.ntmps147
  go_wp2_with (go_at_call 209; (with_reducible refine Calls.mono (format_Class f v hf h0 h1 _) ?_); rintro e w' ⟨rfl, rfl⟩)
  go_ret
  exact ⟨ret1_ rfl, rfl⟩
theorem format_IsInf (f v : Int) (hf : Fm f) (h0 : 0 ≤ v) (h1 : v < 4294967296) (w : World) : Calls Tryz.prog 174 #[.int .i64 f, .int .u32 v] w fun e w' => e = .returned (.bool (cls f v == 3)) ∧ w = w' := by
  go_enter Tryz.func174, Tryz.ntmps174
  go_wp2_with (go_at_call 209; (with_reducible refine Calls.mono (format_Class f v hf h0 h1 _) ?_); rintro e w' ⟨rfl, rfl⟩)
  go_ret
  exact ⟨ret1_ rfl, rfl⟩
theorem format_IsZero (f v : Int) (hf : Fm f) (h0 : 0 ≤ v) (h1 : v < 4294967296) (w : World) : Calls Tryz.prog 151 #[.int .i64 f, .int .u32 v] w fun e w' => e = .returned (.bool (cls f v == 0)) ∧ w = w' := by
  go_enter Tryz.func151, Tryz.ntmps151
  go_wp2_with (go_at_call 209; (with_reducible refine Calls.mono (format_Class f v hf h0 h1 _) ?_); rintro e w' ⟨rfl, rfl⟩)
  go_ret
  exact ⟨ret1_ rfl, rfl⟩
theorem format_Neg (f v : Int) (hf : Fm f) (h0 : 0 ≤ v) (h1 : v < 4294967296) (w : World) : Calls Tryz.prog 152 #[.int .i64 f, .int .u32 v] w fun e w' => e = .returned (.bool (pS f v)) ∧ w = w' := by
  go_enter Tryz.func152, Tryz.ntmps152
  go_wp2_with (go_at_call 213; (with_reducible refine Calls.mono (format_Parts f v hf h0 h1 _) ?_); rintro e w' ⟨rfl, rfl⟩)
  go_ret
  exact ⟨ret1_ rfl, rfl⟩
theorem format_Turn (f v : Int) (hf : Fm f) (h0 : 0 ≤ v) (h1 : v < 4294967296) (w : World) : Calls Tryz.prog 214 #[.int .i64 f, .int .u32 v] w fun e w' => e = .returned (.int .u32 (fTurn f v)) ∧ w = w' := by
  rcases hf with rfl | rfl | rfl
  all_goals
    go_enter Tryz.func214, Tryz.ntmps214
    go_wp2_with (first | (go_at_call 210; (with_reducible refine Calls.mono (fmtW0 _) ?_); rintro e w' ⟨rfl, rfl⟩) | (go_at_call 210; (with_reducible refine Calls.mono (fmtW1 _) ?_); rintro e w' ⟨rfl, rfl⟩) | (go_at_call 210; (with_reducible refine Calls.mono (fmtW2 _) ?_); rintro e w' ⟨rfl, rfl⟩) | (go_at_call 164; (with_reducible refine Calls.mono (fmtM0 _) ?_); rintro e w' ⟨rfl, rfl⟩) | (go_at_call 164; (with_reducible refine Calls.mono (fmtM1 _) ?_); rintro e w' ⟨rfl, rfl⟩) | (go_at_call 164; (with_reducible refine Calls.mono (fmtM2 _) ?_); rintro e w' ⟨rfl, rfl⟩))
    go_ret
    refine ⟨ret1_ (congrArg (Value.int .u32) ?_), rfl⟩
    simp only [fTurn, pS, mP, eP]
    simp
    first | rw [and32 16 (by decide) 65535 (by decide) _ (by omega) (by omega), xor32 15 (by decide) 32768 (by decide) _ (by omega) (by omega)] | rw [and32 32 (by decide) 4294967295 (by decide) _ (by omega) (by omega), xor32 31 (by decide) 2147483648 (by decide) _ (by omega) (by omega)]
    (try simp only [beq_iff_eq, beq_eq_false_iff_ne, bne_iff_ne, ne_eq, decide_eq_true_eq, decide_eq_false_iff_not, bne_eq_false_iff_eq, Bool.not_eq_true] at *); (repeat' split) <;> first | rfl | omega
end Go.Proofs.YtkpfefpmdjjhjaaGreat
