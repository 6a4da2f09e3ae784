/- The walks of the reference's formats (annealref1). -/
import Derived.Test.YtkpfefpmdjjhjaaGreatFmt
import Derived.Test.YtkpfefpmdjjhjaaGreatMk
import Derived.Test.YtkpfefpmdjjhjaaGreatAri
namespace Go.Proofs.YtkpfefpmdjjhjaaGreat
open Go.RowKit Anneal
set_option linter.unusedSimpArgs false
set_option linter.unusedVariables false
attribute [local go_sem] mk_size mk_cell mk_frozen mk_set mk_drew drew_mk lt_inst le_inst
theorem wrap_i64m (n : Int) : IntKind.i64.wrap n = (n + 9223372036854775808) % 18446744073709551616 - 9223372036854775808 := by
  simp only [IntKind.wrap, IntKind.bits, IntKind.signed]; simp; try omega
theorem r1W0 (w : World) : Calls Tryz.prog 61 #[.int .i64 0] w fun e w' => e = .returned (.tuple #[.int .i64 5, .int .i64 10]) ∧ w = w' := by
  go_enter Tryz.func61, Tryz.ntmps61; go_wp2; go_ret2; exact ⟨rfl, rfl⟩
theorem r1W1 (w : World) : Calls Tryz.prog 61 #[.int .i64 1] w fun e w' => e = .returned (.tuple #[.int .i64 8, .int .i64 7]) ∧ w = w' := by
  go_enter Tryz.func61, Tryz.ntmps61; go_wp2; go_ret2; exact ⟨rfl, rfl⟩
theorem r1W2 (w : World) : Calls Tryz.prog 61 #[.int .i64 2] w fun e w' => e = .returned (.tuple #[.int .i64 8, .int .i64 23]) ∧ w = w' := by
  go_enter Tryz.func61, Tryz.ntmps61; go_wp2; go_ret2; exact ⟨rfl, rfl⟩
theorem r1M0 (w : World) : Calls Tryz.prog 62 #[.int .i64 0] w fun e w' => e = .returned (.int .u32 65535) ∧ w = w' := by
  go_enter Tryz.func62, Tryz.ntmps62; go_wp2_with (first | (go_at_call 61; (with_reducible refine Calls.mono (r1W0 _) ?_); rintro e w' ⟨rfl, rfl⟩) | (go_at_call 61; (with_reducible refine Calls.mono (r1W1 _) ?_); rintro e w' ⟨rfl, rfl⟩) | (go_at_call 61; (with_reducible refine Calls.mono (r1W2 _) ?_); rintro e w' ⟨rfl, rfl⟩)); go_ret; exact ⟨rfl, rfl⟩
theorem r1M1 (w : World) : Calls Tryz.prog 62 #[.int .i64 1] w fun e w' => e = .returned (.int .u32 65535) ∧ w = w' := by
  go_enter Tryz.func62, Tryz.ntmps62; go_wp2_with (first | (go_at_call 61; (with_reducible refine Calls.mono (r1W0 _) ?_); rintro e w' ⟨rfl, rfl⟩) | (go_at_call 61; (with_reducible refine Calls.mono (r1W1 _) ?_); rintro e w' ⟨rfl, rfl⟩) | (go_at_call 61; (with_reducible refine Calls.mono (r1W2 _) ?_); rintro e w' ⟨rfl, rfl⟩)); go_ret; exact ⟨rfl, rfl⟩
theorem r1M2 (w : World) : Calls Tryz.prog 62 #[.int .i64 2] w fun e w' => e = .returned (.int .u32 4294967295) ∧ w = w' := by
  go_enter Tryz.func62, Tryz.ntmps62; go_wp2_with (first | (go_at_call 61; (with_reducible refine Calls.mono (r1W0 _) ?_); rintro e w' ⟨rfl, rfl⟩) | (go_at_call 61; (with_reducible refine Calls.mono (r1W1 _) ?_); rintro e w' ⟨rfl, rfl⟩) | (go_at_call 61; (with_reducible refine Calls.mono (r1W2 _) ?_); rintro e w' ⟨rfl, rfl⟩)); go_ret; exact ⟨rfl, rfl⟩
theorem r1_parts (f v : Int) (hf : Fm f) (h0 : 0 ≤ v) (h1 : v < 4294967296) (w : World) : Calls Tryz.prog 190 #[.int .i64 f, .int .u32 v] w fun e w' => e = .returned (.tuple #[.bool (pS f v), .int .i64 (pE f v), .int .u64 (pF f v)]) ∧ Below w.heap.size w w' := by
  have m16 : bits BinOp.and IntKind.u32 v 65535 = v % 65536 := by rw [and32 16 (by decide) 65535 (by decide) _ (by omega) (by omega)]; rfl
  have m32 : bits BinOp.and IntKind.u32 v 4294967295 = v := by rw [and32 32 (by decide) 4294967295 (by decide) _ (by omega) (by omega)]; omega
  have k1 : IntKind.i64.wrap 15 = 15 := rfl; have k2 : IntKind.i64.wrap 31 = 31 := rfl; have k3 : IntKind.u32.wrap (IntKind.u32.wrap 32 - 1) = 31 := rfl; have k4 : IntKind.u32.wrap (IntKind.u32.wrap 256 - 1) = 255 := rfl; have k5 : IntKind.u32.wrap (IntKind.u32.wrap 1024 - 1) = 1023 := rfl; have k6 : IntKind.u32.wrap (IntKind.u32.wrap 128 - 1) = 127 := rfl; have k7 : IntKind.u32.wrap (IntKind.u32.wrap 8388608 - 1) = 8388607 := rfl
  rcases hf with rfl | rfl | rfl
  all_goals
    go_enter Tryz.func190, Tryz.ntmps190
    go_wp2_with (first | (go_at_call 61; (with_reducible refine Calls.mono (r1W0 _) ?_); rintro e w' ⟨rfl, rfl⟩) | (go_at_call 61; (with_reducible refine Calls.mono (r1W1 _) ?_); rintro e w' ⟨rfl, rfl⟩) | (go_at_call 61; (with_reducible refine Calls.mono (r1W2 _) ?_); rintro e w' ⟨rfl, rfl⟩) | (go_at_call 62; (with_reducible refine Calls.mono (r1M0 _) ?_); rintro e w' ⟨rfl, rfl⟩) | (go_at_call 62; (with_reducible refine Calls.mono (r1M1 _) ?_); rintro e w' ⟨rfl, rfl⟩) | (go_at_call 62; (with_reducible refine Calls.mono (r1M2 _) ?_); rintro e w' ⟨rfl, rfl⟩))
    go_region_held3 (fun _ => True) (trivial) (first | fail); go_wp2
    go_ret3
    refine ⟨ret3_ (congrArg Value.bool ?_) (congrArg (Value.int .i64) ?_) (congrArg (Value.int .u64) ?_), by (repeat (first | exact Below.refl _ _ | (refine Below.drew ?_) | (refine Below.setCell ?_ (by simp [mk_size] <;> omega) _) | (refine Below.alloc ?_ (by simp [mk_size] <;> omega) _) | (refine below_mk ?_ (by simp [mk_size] <;> omega) _ _) | (refine Below.trans ?_ (Below.mono (by assumption) (by simp <;> omega)))))⟩
    · simp only [pS, eP, mP]; simp; rw [Bool.eq_iff_iff]; simp; omega
    · simp only [pE, eP, mP]; simp
      first
        | (rw [and32 5 (by decide) 31 (by decide) _ (by omega) (by omega), wrap_i64m]; omega)
        | (rw [and32 8 (by decide) 255 (by decide) _ (by omega) (by omega), wrap_i64m]; omega)
    · simp only [pF, eP, mP]; simp
      first
        | (rw [and32 10 (by decide) 1023 (by decide) _ (by omega) (by omega), wrap_u64]; omega)
        | (rw [and32 7 (by decide) 127 (by decide) _ (by omega) (by omega), wrap_u64]; omega)
        | (rw [and32 23 (by decide) 8388607 (by decide) _ (by omega) (by omega), wrap_u64]; omega)
end Go.Proofs.YtkpfefpmdjjhjaaGreat
