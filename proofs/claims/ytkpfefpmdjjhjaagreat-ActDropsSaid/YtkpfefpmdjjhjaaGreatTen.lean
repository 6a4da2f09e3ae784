/- Tensors: New. -/
import Derived.Test.YtkpfefpmdjjhjaaGreatPh2
import Derived.Deep.OwnRows
namespace Go.Proofs.YtkpfefpmdjjhjaaGreat
open Go.RowKit Anneal
set_option linter.unusedSimpArgs false
set_option linter.unusedVariables false
attribute [local go_sem] mk_size mk_cell mk_frozen mk_set mk_drew drew_mk lt_inst le_inst
def knownF (f : Int) : Bool := f == 0 || f == 1 || f == 2
theorem info25 : (Tryz.prog.info? 25).map (fun i => (i.zero, i.size, i.bytes)) = some (some (.int .u32 0), 1, 4) := by kernel_rfl
theorem tensor_known (f : Int) (w : World) : Calls Tryz.prog 161 #[.int .i64 f] w fun e w' => e = .returned (.bool (knownF f)) ∧ w = w' := by
  go_enter Tryz.func161, Tryz.ntmps161
  go_wp2
  all_goals
    go_ret
    refine ⟨ret1_ (congrArg Value.bool ?_), rfl⟩
    unfold knownF
    simp_all
theorem tensor_known2 (w : World) : Calls Tryz.prog 161 #[.int .i64 2] w fun e w' => e = .returned (.bool true) ∧ w = w' := tensor_known 2 w
/-- a tensor of noughts, made anew -/
def NewP (r c f : Int) (n : Nat) (w : World) (e : Ending) (w' : World) : Prop :=
  ∃ B : Nat, e = .returned (.agg #[.int .i64 r, .int .i64 c, .int .i64 f, .slice (some ⟨B, 0, none⟩) n n]) ∧ w.heap.size ≤ B ∧ w'.rowIs B 25 n (fun _ => .int .u32 0) ∧ Below w.heap.size w w'
theorem r13_known (f : Int) (w : World) : Calls Tryz.prog 145 #[.int .i64 f] w fun e w' => e = .returned (.bool (knownF f)) ∧ w = w' := by
  go_enter Tryz.func145, Tryz.ntmps145
  go_wp2
  all_goals
    go_ret
    refine ⟨ret1_ (congrArg Value.bool ?_), rfl⟩
    unfold knownF
    simp_all
theorem r13_known2 (w : World) : Calls Tryz.prog 145 #[.int .i64 2] w fun e w' => e = .returned (.bool true) ∧ w = w' := r13_known 2 w
set_option maxRecDepth 50000 in
theorem tensor_New2n (rows cols x y r c : Int) (n : Nat) (hx : (if rows < 0 then 0 else rows) = x) (hy : (if cols < 0 then 0 else cols) = y) (hr : (if 4096 < x then 4096 else x) = r) (hc : (if 4096 < y then 4096 else y) = c) (hn : r * c = n) (hm : n ≤ 262144) (w : World) :
    Calls Tryz.prog 89 #[.int .i64 rows, .int .i64 cols, .int .i64 2] w (NewP r c 2 n w) := by
  have x0 : 0 ≤ x := by split at hx <;> omega
  have y0 : 0 ≤ y := by split at hy <;> omega
  have r0 : 0 ≤ r := by split at hr <;> omega
  have r1 : r ≤ 4096 := by split at hr <;> omega
  have c0 : 0 ≤ c := by split at hc <;> omega
  have c1 : c ≤ 4096 := by split at hc <;> omega
  have k5 : IntKind.i64.wrap (n : Int) = n := by rw [wrap_i64m]; omega
  have k6 : ¬ 262144 < (n : Int) := by omega
  have hmk := run_make_row' (P := Tryz.prog) 22 25 (.int .u32 0) 4 Tryz.underlying22 info25 rfl .i64 .i64 n (by omega) (by omega)
  go_enter Tryz.func89, Tryz.ntmps89
  go_wp2_with (first | (go_at_call 161; (with_reducible refine Calls.mono (tensor_known2 _) ?_); rintro e w' ⟨rfl, rfl⟩))
  refine bodyPost_ret (v := .agg #[.int .i64 r, .int .i64 c, .int .i64 2, .slice (some ⟨w.heap.size + 1, 0, none⟩) n n]) ?_ rfl ⟨w.heap.size + 1, rfl, by omega, ?_, by (repeat (first | exact Below.refl _ _ | (refine Below.drew ?_) | (refine Below.setCell ?_ (by simp [mk_size] <;> omega) _) | (refine Below.alloc ?_ (by simp [mk_size] <;> omega) _) | (refine below_mk ?_ (by simp [mk_size] <;> omega) _ _) | (refine Below.trans ?_ (Below.mono (by assumption) (by simp <;> omega)))))⟩
  · simp [results, Tryz.results89, go_sem]
  · have h := World.rowIs_made (w.alloc (.cells #[.int .i64 r, .int .i64 c, .int .i64 2, .slice (some ⟨w.heap.size + 1, 0, none⟩) n n] 24)) (.int .u32 0) n 25
    simpa using h
set_option maxRecDepth 50000 in
theorem tensor_NewTop (rows cols x y r c : Int) (hx : (if rows < 0 then 0 else rows) = x) (hy : (if cols < 0 then 0 else cols) = y) (hr : (if 4096 < x then 4096 else x) = r) (hc : (if 4096 < y then 4096 else y) = c) (hm : 262144 < r * c) (w : World) :
    Calls Tryz.prog 89 #[.int .i64 rows, .int .i64 cols, .int .i64 2] w (NewP 0 0 2 0 w) := by
  have x0 : 0 ≤ x := by split at hx <;> omega
  have y0 : 0 ≤ y := by split at hy <;> omega
  have r0 : 0 ≤ r := by split at hr <;> omega
  have r1 : r ≤ 4096 := by split at hr <;> omega
  have c0 : 0 ≤ c := by split at hc <;> omega
  have c1 : c ≤ 4096 := by split at hc <;> omega
  have h16 : r * c ≤ 4096 * 4096 := Int.mul_le_mul (by omega) (by omega) (by omega) (by omega)
  generalize hn : r * c = n at *
  have k5 : IntKind.i64.wrap n = n := by rw [wrap_i64m]; omega
  have hmk := run_make_row' (P := Tryz.prog) 22 25 (.int .u32 0) 4 Tryz.underlying22 info25 rfl .i64 .i64 0 (by omega) (by omega)
  simp only [Int.natCast_zero] at hmk
  go_enter Tryz.func89, Tryz.ntmps89
  go_wp2_with (first | (go_at_call 161; (with_reducible refine Calls.mono (tensor_known2 _) ?_); rintro e w' ⟨rfl, rfl⟩))
  refine bodyPost_ret (v := .agg #[.int .i64 0, .int .i64 0, .int .i64 2, .slice (some ⟨w.heap.size + 1, 0, none⟩) 0 0]) ?_ rfl ⟨w.heap.size + 1, rfl, by omega, ?_, by (repeat (first | exact Below.refl _ _ | (refine Below.drew ?_) | (refine Below.setCell ?_ (by simp [mk_size] <;> omega) _) | (refine Below.alloc ?_ (by simp [mk_size] <;> omega) _) | (refine below_mk ?_ (by simp [mk_size] <;> omega) _ _) | (refine Below.trans ?_ (Below.mono (by assumption) (by simp <;> omega)))))⟩
  · simp [results, Tryz.results89, go_sem]
  · have h := World.rowIs_made (w.alloc (.cells #[.int .i64 0, .int .i64 0, .int .i64 2, .slice (some ⟨w.heap.size + 1, 0, none⟩) 0 0] 24)) (.int .u32 0) 0 25
    simpa using h
set_option maxRecDepth 50000 in
theorem r13_New2n (rows cols x y r c : Int) (n : Nat) (hx : (if rows < 0 then 0 else rows) = x) (hy : (if cols < 0 then 0 else cols) = y) (hr : (if 4096 < x then 4096 else x) = r) (hc : (if 4096 < y then 4096 else y) = c) (hn : r * c = n) (hm : n ≤ 262144) (w : World) :
    Calls Tryz.prog 92 #[.int .i64 rows, .int .i64 cols, .int .i64 2] w (NewP r c 2 n w) := by
  have x0 : 0 ≤ x := by split at hx <;> omega
  have y0 : 0 ≤ y := by split at hy <;> omega
  have r0 : 0 ≤ r := by split at hr <;> omega
  have r1 : r ≤ 4096 := by split at hr <;> omega
  have c0 : 0 ≤ c := by split at hc <;> omega
  have c1 : c ≤ 4096 := by split at hc <;> omega
  have k5 : IntKind.i64.wrap (n : Int) = n := by rw [wrap_i64m]; omega
  have k6 : ¬ 262144 < (n : Int) := by omega
  have hmk := run_make_row' (P := Tryz.prog) 22 25 (.int .u32 0) 4 Tryz.underlying22 info25 rfl .i64 .i64 n (by omega) (by omega)
  go_enter Tryz.func92, Tryz.ntmps92
  go_wp2_with (first | (go_at_call 145; (with_reducible refine Calls.mono (r13_known2 _) ?_); rintro e w' ⟨rfl, rfl⟩))
  refine bodyPost_ret (v := .agg #[.int .i64 r, .int .i64 c, .int .i64 2, .slice (some ⟨w.heap.size + 1, 0, none⟩) n n]) ?_ rfl ⟨w.heap.size + 1, rfl, by omega, ?_, by (repeat (first | exact Below.refl _ _ | (refine Below.drew ?_) | (refine Below.setCell ?_ (by simp [mk_size] <;> omega) _) | (refine Below.alloc ?_ (by simp [mk_size] <;> omega) _) | (refine below_mk ?_ (by simp [mk_size] <;> omega) _ _) | (refine Below.trans ?_ (Below.mono (by assumption) (by simp <;> omega)))))⟩
  · simp [results, Tryz.results92, go_sem]
  · have h := World.rowIs_made (w.alloc (.cells #[.int .i64 r, .int .i64 c, .int .i64 2, .slice (some ⟨w.heap.size + 1, 0, none⟩) n n] 24)) (.int .u32 0) n 25
    simpa using h
set_option maxRecDepth 50000 in
theorem r13_NewTop (rows cols x y r c : Int) (hx : (if rows < 0 then 0 else rows) = x) (hy : (if cols < 0 then 0 else cols) = y) (hr : (if 4096 < x then 4096 else x) = r) (hc : (if 4096 < y then 4096 else y) = c) (hm : 262144 < r * c) (w : World) :
    Calls Tryz.prog 92 #[.int .i64 rows, .int .i64 cols, .int .i64 2] w (NewP 0 0 2 0 w) := by
  have x0 : 0 ≤ x := by split at hx <;> omega
  have y0 : 0 ≤ y := by split at hy <;> omega
  have r0 : 0 ≤ r := by split at hr <;> omega
  have r1 : r ≤ 4096 := by split at hr <;> omega
  have c0 : 0 ≤ c := by split at hc <;> omega
  have c1 : c ≤ 4096 := by split at hc <;> omega
  have h16 : r * c ≤ 4096 * 4096 := Int.mul_le_mul (by omega) (by omega) (by omega) (by omega)
  generalize hn : r * c = n at *
  have k5 : IntKind.i64.wrap n = n := by rw [wrap_i64m]; omega
  have hmk := run_make_row' (P := Tryz.prog) 22 25 (.int .u32 0) 4 Tryz.underlying22 info25 rfl .i64 .i64 0 (by omega) (by omega)
  simp only [Int.natCast_zero] at hmk
  go_enter Tryz.func92, Tryz.ntmps92
  go_wp2_with (first | (go_at_call 145; (with_reducible refine Calls.mono (r13_known2 _) ?_); rintro e w' ⟨rfl, rfl⟩))
  refine bodyPost_ret (v := .agg #[.int .i64 0, .int .i64 0, .int .i64 2, .slice (some ⟨w.heap.size + 1, 0, none⟩) 0 0]) ?_ rfl ⟨w.heap.size + 1, rfl, by omega, ?_, by (repeat (first | exact Below.refl _ _ | (refine Below.drew ?_) | (refine Below.setCell ?_ (by simp [mk_size] <;> omega) _) | (refine Below.alloc ?_ (by simp [mk_size] <;> omega) _) | (refine below_mk ?_ (by simp [mk_size] <;> omega) _ _) | (refine Below.trans ?_ (Below.mono (by assumption) (by simp <;> omega)))))⟩
  · simp [results, Tryz.results92, go_sem]
  · have h := World.rowIs_made (w.alloc (.cells #[.int .i64 0, .int .i64 0, .int .i64 2, .slice (some ⟨w.heap.size + 1, 0, none⟩) 0 0] 24)) (.int .u32 0) 0 25
    simpa using h
end Go.Proofs.YtkpfefpmdjjhjaaGreat
