/- The walks of the reference's classes (annealref1). -/
import Derived.Test.YtkpfefpmdjjhjaaGreatRf1
import Derived.Test.YtkpfefpmdjjhjaaGreatMk
import Derived.Test.YtkpfefpmdjjhjaaGreatAri
namespace Go.Proofs.YtkpfefpmdjjhjaaGreat
open Go.RowKit Anneal
set_option linter.unusedSimpArgs false
set_option linter.unusedVariables false
attribute [local go_sem] mk_size mk_cell mk_frozen mk_set mk_drew drew_mk lt_inst le_inst
theorem r1_Class (f v : Int) (hf : Fm f) (h0 : 0 ≤ v) (h1 : v < 4294967296) (w : World) : Calls Tryz.prog 113 #[.int .i64 f, .int .u32 v] w fun e w' => e = .returned (.int .i64 (cls f v)) ∧ Below w.heap.size w w' := by
  have a := pE_range f v hf
  have b := pF_range f v hf
  rcases hf with rfl | rfl | rfl
  all_goals
    simp only [eP, mP] at a b
    simp at a b
    obtain ⟨a1, a2⟩ := a
    obtain ⟨b1, b2⟩ := b
    go_enter Tryz.func113, Tryz.ntmps113
    go_wp2_with (first | (go_at_call 61; (with_reducible refine Calls.mono (r1W0 _) ?_); rintro e w' ⟨rfl, rfl⟩) | (go_at_call 61; (with_reducible refine Calls.mono (r1W1 _) ?_); rintro e w' ⟨rfl, rfl⟩) | (go_at_call 61; (with_reducible refine Calls.mono (r1W2 _) ?_); rintro e w' ⟨rfl, rfl⟩) | (go_at_call 190; (with_reducible refine Calls.mono (r1_parts _ v (by decide) h0 h1 _) ?_); rintro e w1 ⟨rfl, hb⟩; obtain ⟨o0, d0, rfl⟩ := made hb; clear hb))
    all_goals (go_ret; refine ⟨ret1_ (congrArg (Value.int .i64) ?_), by (repeat (first | exact Below.refl _ _ | (refine Below.drew ?_) | (refine Below.setCell ?_ (by simp [mk_size] <;> omega) _) | (refine Below.alloc ?_ (by simp [mk_size] <;> omega) _) | (refine below_mk ?_ (by simp [mk_size] <;> omega) _ _) | (refine Below.trans ?_ (Below.mono (by assumption) (by simp <;> omega)))))⟩; simp only [cls, eP, mP]; simp; (try simp only [beq_iff_eq, beq_eq_false_iff_ne, bne_iff_ne, ne_eq, decide_eq_true_eq, decide_eq_false_iff_not, bne_eq_false_iff_eq, Bool.not_eq_true] at *); (repeat' split) <;> first | rfl | omega)
theorem r1_bias (f : Int) (hf : Fm f) (w : World) : Calls Tryz.prog 191 #[.int .i64 f] w fun e w' => e = .returned (.int .i64 (1 - leastE f)) ∧ w = w' := by
  rcases hf with rfl | rfl | rfl
  all_goals
    go_enter Tryz.func191, Tryz.ntmps191
    go_wp2_with (first | (go_at_call 61; (with_reducible refine Calls.mono (r1W0 _) ?_); rintro e w' ⟨rfl, rfl⟩) | (go_at_call 61; (with_reducible refine Calls.mono (r1W1 _) ?_); rintro e w' ⟨rfl, rfl⟩) | (go_at_call 61; (with_reducible refine Calls.mono (r1W2 _) ?_); rintro e w' ⟨rfl, rfl⟩))
    go_ret
    exact ⟨rfl, rfl⟩
theorem r1_sign (f : Int) (neg : Bool) (hf : Fm f) (w : World) : Calls Tryz.prog 146 #[.int .i64 f, .bool neg] w fun e w' => e = .returned (.int .u32 (sgB f neg)) ∧ w = w' := by
  cases neg <;> rcases hf with rfl | rfl | rfl
  all_goals
    go_enter Tryz.func146, Tryz.ntmps146
    go_wp2_with (first | (go_at_call 61; (with_reducible refine Calls.mono (r1W0 _) ?_); rintro e w' ⟨rfl, rfl⟩) | (go_at_call 61; (with_reducible refine Calls.mono (r1W1 _) ?_); rintro e w' ⟨rfl, rfl⟩) | (go_at_call 61; (with_reducible refine Calls.mono (r1W2 _) ?_); rintro e w' ⟨rfl, rfl⟩))
    go_ret
    exact ⟨rfl, rfl⟩
theorem r1_Zero (f : Int) (neg : Bool) (hf : Fm f) (w : World) : Calls Tryz.prog 63 #[.int .i64 f, .bool neg] w fun e w' => e = .returned (.int .u32 (sgB f neg)) ∧ w = w' := by
  go_enter Tryz.func63, Tryz.ntmps63
  go_wp2_with (first | (go_at_call 146; (with_reducible refine Calls.mono (r1_sign f neg hf _) ?_); rintro e w' ⟨rfl, rfl⟩))
  go_ret
  exact ⟨rfl, rfl⟩
theorem r1_Inf (f : Int) (neg : Bool) (hf : Fm f) (w : World) : Calls Tryz.prog 128 #[.int .i64 f, .bool neg] w fun e w' => e = .returned (.int .u32 (fInf f neg)) ∧ Below w.heap.size w w' := by
  have k1 : IntKind.i64.wrap 15 = 15 := rfl; have k2 : IntKind.i64.wrap 31 = 31 := rfl; have k3 : IntKind.u32.wrap (IntKind.u32.wrap 32 - 1) = 31 := rfl; have k4 : IntKind.u32.wrap (IntKind.u32.wrap 256 - 1) = 255 := rfl; have k5 : IntKind.u32.wrap (IntKind.u32.wrap 1024 - 1) = 1023 := rfl; have k6 : IntKind.u32.wrap (IntKind.u32.wrap 128 - 1) = 127 := rfl; have k7 : IntKind.u32.wrap (IntKind.u32.wrap 8388608 - 1) = 8388607 := rfl
  cases neg <;> rcases hf with rfl | rfl | rfl
  all_goals
    go_enter Tryz.func128, Tryz.ntmps128
    go_wp2_with (first | (go_at_call 61; (with_reducible refine Calls.mono (r1W0 _) ?_); rintro e w' ⟨rfl, rfl⟩) | (go_at_call 61; (with_reducible refine Calls.mono (r1W1 _) ?_); rintro e w' ⟨rfl, rfl⟩) | (go_at_call 61; (with_reducible refine Calls.mono (r1W2 _) ?_); rintro e w' ⟨rfl, rfl⟩))
    go_region_held3 (fun _ => True) (trivial) (first | (go_at_call 146; (with_reducible refine Calls.mono (r1_sign _ _ (by decide) _) ?_); rintro e w' ⟨rfl, rfl⟩)); go_wp2
    go_ret
    exact ⟨rfl, by (repeat (first | exact Below.refl _ _ | (refine Below.drew ?_) | (refine Below.setCell ?_ (by simp [mk_size] <;> omega) _) | (refine Below.alloc ?_ (by simp [mk_size] <;> omega) _) | (refine below_mk ?_ (by simp [mk_size] <;> omega) _ _) | (refine Below.trans ?_ (Below.mono (by assumption) (by simp <;> omega)))))⟩
