/- annealref1.Div tells fdiv; annealref10.Div, Int. -/
import Derived.Test.YtkpfefpmdjjhjaaGreatRf7
import Derived.Test.YtkpfefpmdjjhjaaGreatDvb
import Derived.Test.YtkpfefpmdjjhjaaGreatMk
import Derived.Lib.Hide
namespace Go.Proofs.YtkpfefpmdjjhjaaGreat
open Go.RowKit Anneal
set_option linter.unusedSimpArgs false
set_option linter.unusedVariables false
attribute [local go_sem] mk_size mk_cell mk_frozen mk_set mk_drew drew_mk lt_inst le_inst
theorem r1_Div (a b : Int) (a0 : 0 ≤ a) (a1 : a < 4294967296) (b0 : 0 ≤ b) (b1 : b < 4294967296) (w : World) :
    Calls Tryz.prog 109 #[.int .i64 2, .int .i64 0, .int .u32 a, .int .u32 b] w (Num5 (fdiv a b) w) := by
  unfold fdiv
  cases hn : oneNan 2 [a, b]
  · rw [if_neg (by decide)]
    have ca := cls_range 2 a
    have cb := cls_range 2 b
    by_cases ho : cls 2 a = 0 ∨ cls 2 a = 3 ∨ cls 2 b = 0 ∨ cls 2 b = 3
    · have h := r1Div_odd a b a0 a1 b0 b1 hn _ _ _ _ rfl rfl rfl rfl (by unfold isZero isInf; simp; omega) (by unfold isZero isInf; simp; omega) (by unfold isZero isInf; simp; omega) w
      unfold divR isZero isInf at h
      simp only [Bool.or_eq_true, Bool.and_eq_true, beq_iff_eq] at h
      by_cases k1 : cls 2 a = cls 2 b ∧ (cls 2 a = 0 ∨ cls 2 a = 3)
      · rw [if_pos k1]; rw [if_pos (by omega)] at h; exact h
      rw [if_neg k1]; rw [if_neg (by omega)] at h
      by_cases k2 : cls 2 a = 3
      · rw [if_pos k2] at h ⊢; exact h
      rw [if_neg k2] at h ⊢
      by_cases k3 : cls 2 b = 3 ∨ cls 2 a = 0
      · rw [if_pos k3] at h ⊢; exact h
      rw [if_neg k3] at h ⊢
      rw [if_pos (by omega)]; exact h
    · rw [if_neg (by omega), if_neg (by omega), if_neg (by omega), if_neg (by omega)]
      have na : cls 2 a < 4 := by
        simp [oneNan, isNan] at hn; omega
      have nb : cls 2 b < 4 := by
        simp [oneNan, isNan] at hn; omega
      have sa := uS_pos a (by omega) (by omega)
      have sb := uS_pos b (by omega) (by omega)
      obtain ⟨p1, p2⟩ := uS_range a
      obtain ⟨p3, p4⟩ := uS_range b
      obtain ⟨p5, p6⟩ := uE_range a
      obtain ⟨p7, p8⟩ := uE_range b
      exact r1Div_fin a b a0 a1 b0 b1 hn (by unfold isZero; simp; omega) (by unfold isInf; simp; omega) (by unfold isZero; simp; omega) (by unfold isInf; simp; omega) (pS 2 a) (pS 2 b) (uE 2 a) (uS 2 a) (uE 2 b) (uS 2 b) _ _ rfl sa p2 sb p4 p5 p6 p7 p8
        (r1_Unpack 2 a (by decide) a0 a1) (r1_Unpack 2 b (by decide) b0 b1) (fun i j h1 h2 h3 h4 => div_bridge _ _ _ _ _ sa p2 sb p4 i j h1 h2 h3 h4) w
  · rw [if_pos rfl]
    exact r1Div_nan a b a0 a1 b0 b1 hn w
theorem r10_Div (a b : Int) (a0 : 0 ≤ a) (a1 : a < 4294967296) (b0 : 0 ≤ b) (b1 : b < 4294967296) (w : World) :
    Calls Tryz.prog 38 #[.int .u32 a, .int .u32 b] w fun e w' => e = .returned (.int .u32 (fdiv a b)) ∧ Below w.heap.size w w' := by
  go_enter Tryz.func38, Tryz.ntmps38
  go_wp2_with (go_at_call 109; (with_reducible refine Calls.mono (r1_Div a b a0 a1 b0 b1 _) ?_); rintro e w1 ⟨⟨p1, p2, p3, p4, p5, rfl⟩, hb⟩; obtain ⟨o1, d1, rfl⟩ := made hb; clear hb)
  refine bodyPost_ret (v := .int .u32 (fdiv a b)) ?_ rfl ⟨rfl, by (repeat (first | exact Below.refl _ _ | (refine Below.drew ?_) | (refine Below.setCell ?_ (by simp [mk_size] <;> omega) _) | (refine Below.alloc ?_ (by simp [mk_size] <;> omega) _) | (refine below_mk ?_ (by simp [mk_size] <;> omega) _ _) | (refine Below.trans ?_ (Below.mono (by assumption) (by simp <;> omega)))))⟩
  simp [results, Tryz.results38, go_sem, *]
theorem r10_Int (n : Int) (h0 : -9223372036854775808 ≤ n) (h1 : n < 9223372036854775808) (w : World) :
    Calls Tryz.prog 39 #[.int .i64 n] w fun e w' => e = .returned (.int .u32 (fint n)) ∧ Below w.heap.size w w' := by
  go_enter Tryz.func39, Tryz.ntmps39
  go_wp2_with (go_at_call 110; (with_reducible refine Calls.mono (r1_FromInt n h0 h1 _) ?_); rintro e w1 ⟨⟨p1, p2, p3, p4, p5, rfl⟩, hb⟩; obtain ⟨o1, d1, rfl⟩ := made hb; clear hb)
  refine bodyPost_ret (v := .int .u32 (fint n)) ?_ rfl ⟨rfl, by (repeat (first | exact Below.refl _ _ | (refine Below.drew ?_) | (refine Below.setCell ?_ (by simp [mk_size] <;> omega) _) | (refine Below.alloc ?_ (by simp [mk_size] <;> omega) _) | (refine below_mk ?_ (by simp [mk_size] <;> omega) _ _) | (refine Below.trans ?_ (Below.mono (by assumption) (by simp <;> omega)))))⟩
  simp [results, Tryz.results39, go_sem, *]
end Go.Proofs.YtkpfefpmdjjhjaaGreat
