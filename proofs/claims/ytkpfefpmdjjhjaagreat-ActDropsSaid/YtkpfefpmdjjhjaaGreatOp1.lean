/- The walks of sum.Sub, prod.product, torn, Mul. -/
import Derived.Test.YtkpfefpmdjjhjaaGreatAd2
import Derived.Lib.Hide
namespace Go.Proofs.YtkpfefpmdjjhjaaGreat
open Go.RowKit Anneal
set_option linter.unusedSimpArgs false
set_option linter.unusedVariables false
attribute [local go_sem] mk_size mk_cell mk_frozen mk_set mk_drew drew_mk lt_inst le_inst
theorem Sub_nan (a b : Int) (a0 : 0 ≤ a) (a1 : a < 4294967296) (b0 : 0 ≤ b) (b1 : b < 4294967296) (hn : oneNan 2 [a, b] = true) (w : World) :
    Calls Tryz.prog 158 #[.int .i64 2, .int .i64 0, .int .u32 a, .int .u32 b] w (Num5 2143289344 w) := by
  go_enter Tryz.func158, Tryz.ntmps158
  go_wp2_with (first | (go_at_call 216; (with_reducible refine Calls.mono (sum_Nans2 a b a0 a1 b0 b1 _ _ (by simp [go_sem]) (by simp [go_sem])) ?_); rintro e w1 ⟨⟨q0, rfl⟩, hb⟩; obtain ⟨o0, d0, rfl⟩ := made hb; clear hb))
  go_region_held3 (fun w' => w'.cell? ⟨w.heap.size + 1 + 1 + o0.size, 0, none⟩ = some (.bool q0) ∧ w'.cell? ⟨w.heap.size + 1 + 1 + o0.size, 1, none⟩ = some (.bool false) ∧ w'.cell? ⟨w.heap.size + 1 + 1 + o0.size, 2, none⟩ = some (.bool false) ∧ w'.cell? ⟨w.heap.size + 1 + 1 + o0.size, 3, none⟩ = some (.bool false) ∧ w'.cell? ⟨w.heap.size + 1 + 1 + o0.size, 4, none⟩ = some (.bool false)) (simp [go_sem, World.cell?_alloc_past]) (first | fail)
  go_wp2
  refine bodyPost_ret (v := .tuple #[.int .u32 2143289344, .agg #[.bool q0, .bool false, .bool false, .bool false, .bool false]]) ?_ rfl ⟨⟨_, _, _, _, _, rfl⟩, by (repeat (first | exact Below.refl _ _ | (refine Below.drew ?_) | (refine Below.setCell ?_ (by simp [mk_size] <;> omega) _) | (refine Below.alloc ?_ (by simp [mk_size] <;> omega) _) | (refine below_mk ?_ (by simp [mk_size] <;> omega) _ _) | (refine Below.trans ?_ (Below.mono (by assumption) (by simp <;> omega)))))⟩
  simp [results, Tryz.results158, go_sem, *]
theorem fTurn_range (v : Int) : 0 ≤ fTurn 2 v ∧ fTurn 2 v < 4294967296 := by
  unfold fTurn
  have e : mP 2 * eP 2 = 2147483648 := by decide
  rw [e]
  split <;> omega
set_option maxHeartbeats 4000000 in
theorem sum_Sub (a b : Int) (a0 : 0 ≤ a) (a1 : a < 4294967296) (b0 : 0 ≤ b) (b1 : b < 4294967296) (w : World) :
    Calls Tryz.prog 158 #[.int .i64 2, .int .i64 0, .int .u32 a, .int .u32 b] w (Num5 (fsub a b) w) := by
  unfold fsub
  cases hn : oneNan 2 [a, b]
  · rw [if_neg (by decide)]
    obtain ⟨t0, t1⟩ := fTurn_range b
    go_enter Tryz.func158, Tryz.ntmps158
    go_wp2_with (first | (go_at_call 216; (with_reducible refine Calls.mono (sum_Nans2 a b a0 a1 b0 b1 _ _ (by simp [go_sem]) (by simp [go_sem])) ?_); rintro e w1 ⟨⟨q0, rfl⟩, hb⟩; obtain ⟨o0, d0, rfl⟩ := made hb; clear hb) | (go_at_call 214; (with_reducible refine Calls.mono (format_Turn 2 b (by decide) b0 b1 _) ?_); rintro e w' ⟨rfl, rfl⟩) | (go_at_call 172; (with_reducible refine Calls.mono (sum_Add a (fTurn 2 b) a0 a1 t0 t1 _) ?_); rintro e w1 ⟨⟨p1, p2, p3, p4, p5, rfl⟩, hb⟩; obtain ⟨o1, d1, rfl⟩ := made hb; clear hb))
    (first | (refine bodyPost_ret (v := .tuple #[.int .u32 (fadd a (fTurn 2 b)), .agg #[.bool false, .bool false, .bool false, .bool false, .bool false]]) ?_ rfl ?_; (focus (simp [results, Tryz.results158, go_sem, *]; done)); exact ⟨⟨_, _, _, _, _, rfl⟩, by (repeat (first | exact Below.refl _ _ | (refine Below.drew ?_) | (refine Below.setCell ?_ (by simp [mk_size] <;> omega) _) | (refine Below.alloc ?_ (by simp [mk_size] <;> omega) _) | (refine below_mk ?_ (by simp [mk_size] <;> omega) _ _) | (refine Below.trans ?_ (Below.mono (by assumption) (by simp <;> omega)))))⟩) | (refine bodyPost_ret (v := .tuple #[.int .u32 (fadd a (fTurn 2 b)), .agg #[.bool p1, .bool p2, .bool p3, .bool p4, .bool p5]]) ?_ rfl ?_; (focus (simp [results, Tryz.results158, go_sem, *]; done)); exact ⟨⟨_, _, _, _, _, rfl⟩, by (repeat (first | exact Below.refl _ _ | (refine Below.drew ?_) | (refine Below.setCell ?_ (by simp [mk_size] <;> omega) _) | (refine Below.alloc ?_ (by simp [mk_size] <;> omega) _) | (refine below_mk ?_ (by simp [mk_size] <;> omega) _ _) | (refine Below.trans ?_ (Below.mono (by assumption) (by simp <;> omega)))))⟩) | (refine bodyPost_ret (v := .tuple #[.int .u32 (fadd a (fTurn 2 b)), .agg #[.bool true, .bool false, .bool false, .bool false, .bool false]]) ?_ rfl ?_; (focus (simp [results, Tryz.results158, go_sem, *]; done)); exact ⟨⟨_, _, _, _, _, rfl⟩, by (repeat (first | exact Below.refl _ _ | (refine Below.drew ?_) | (refine Below.setCell ?_ (by simp [mk_size] <;> omega) _) | (refine Below.alloc ?_ (by simp [mk_size] <;> omega) _) | (refine below_mk ?_ (by simp [mk_size] <;> omega) _ _) | (refine Below.trans ?_ (Below.mono (by assumption) (by simp <;> omega)))))⟩) | (refine bodyPost_ret (v := .tuple #[.int .u32 (fadd a (fTurn 2 b)), .agg #[.bool false, .bool true, .bool false, .bool false, .bool false]]) ?_ rfl ?_; (focus (simp [results, Tryz.results158, go_sem, *]; done)); exact ⟨⟨_, _, _, _, _, rfl⟩, by (repeat (first | exact Below.refl _ _ | (refine Below.drew ?_) | (refine Below.setCell ?_ (by simp [mk_size] <;> omega) _) | (refine Below.alloc ?_ (by simp [mk_size] <;> omega) _) | (refine below_mk ?_ (by simp [mk_size] <;> omega) _ _) | (refine Below.trans ?_ (Below.mono (by assumption) (by simp <;> omega)))))⟩))
  · rw [if_pos rfl]
    exact Sub_nan a b a0 a1 b0 b1 hn w
theorem prod_torn (a b : Int) (a0 : 0 ≤ a) (a1 : a < 4294967296) (b0 : 0 ≤ b) (b1 : b < 4294967296) (w : World) :
    Calls Tryz.prog 217 #[.int .i64 2, .int .u32 a, .int .u32 b] w fun e w' => e = .returned (.bool (torn a b)) ∧ w = w' := by
  go_enter Tryz.func217, Tryz.ntmps217
  go_wp2_with (first | (go_at_call 174; (with_reducible refine Calls.mono (IsInf2 a a0 a1 _) ?_); rintro e w' ⟨rfl, rfl⟩) | (go_at_call 174; (with_reducible refine Calls.mono (IsInf2 b b0 b1 _) ?_); rintro e w' ⟨rfl, rfl⟩) | (go_at_call 152; (with_reducible refine Calls.mono (format_Neg 2 a (by decide) a0 a1 _) ?_); rintro e w' ⟨rfl, rfl⟩) | (go_at_call 152; (with_reducible refine Calls.mono (format_Neg 2 b (by decide) b0 b1 _) ?_); rintro e w' ⟨rfl, rfl⟩) | (go_at_call 151; (with_reducible refine Calls.mono (IsZero2 a a0 a1 _) ?_); rintro e w' ⟨rfl, rfl⟩) | (go_at_call 151; (with_reducible refine Calls.mono (IsZero2 b b0 b1 _) ?_); rintro e w' ⟨rfl, rfl⟩))
  all_goals
    go_ret
    refine ⟨ret1_ (congrArg Value.bool ?_), rfl⟩
    unfold torn
    simp_all
set_option maxHeartbeats 4000000 in
theorem prod_product (a b : Int) (a0 : 0 ≤ a) (a1 : a < 4294967296) (b0 : 0 ≤ b) (b1 : b < 4294967296) (w : World) :
    Calls Tryz.prog 219 #[.int .i64 2, .int .u32 a, .int .u32 b] w fun e w' => e = .returned (.agg #[.bool (!(pS 2 a == pS 2 b)), .int .i64 (uE 2 a + uE 2 b), .int .u64 (uS 2 a * uS 2 b), .bool false]) ∧ Below w.heap.size w w' := by
  obtain ⟨p1, p2⟩ := uS_range a
  obtain ⟨p3, p4⟩ := uS_range b
  obtain ⟨p5, p6⟩ := uE_range a
  obtain ⟨p7, p8⟩ := uE_range b
  obtain ⟨m1, m2⟩ := mulU a b
  have M : IntKind.u64.wrap (uS 2 a * uS 2 b) = uS 2 a * uS 2 b := by rw [wrap_u64]; omega
  have M2 : IntKind.i64.wrap (uE 2 a + uE 2 b) = uE 2 a + uE 2 b := by
    first
      | (simp only [IntKind.wrap, IntKind.bits, IntKind.signed]; simp; omega)
      | (simp only [IntKind.wrap, IntKind.bits, IntKind.signed, Int.bmod]; simp; split <;> omega)
  go_enter Tryz.func219, Tryz.ntmps219
  go_wp2_with (first | (go_at_call 222; (with_reducible refine Calls.mono (sum_Of 2 a (by decide) a0 a1 _) ?_); rintro e w1 ⟨rfl, hb⟩; obtain ⟨o1, d1, rfl⟩ := made hb; clear hb) | (go_at_call 222; (with_reducible refine Calls.mono (sum_Of 2 b (by decide) b0 b1 _) ?_); rintro e w1 ⟨rfl, hb⟩; obtain ⟨o2, d2, rfl⟩ := made hb; clear hb))
  refine bodyPost_ret (v := .agg #[.bool (!(pS 2 a == pS 2 b)), .int .i64 (uE 2 a + uE 2 b), .int .u64 (uS 2 a * uS 2 b), .bool false]) ?_ rfl ⟨rfl, by (repeat (first | exact Below.refl _ _ | (refine Below.drew ?_) | (refine Below.setCell ?_ (by simp [mk_size] <;> omega) _) | (refine Below.alloc ?_ (by simp [mk_size] <;> omega) _) | (refine below_mk ?_ (by simp [mk_size] <;> omega) _ _) | (refine Below.trans ?_ (Below.mono (by assumption) (by simp <;> omega)))))⟩
  simp [results, Tryz.results219, go_sem, *]
end Go.Proofs.YtkpfefpmdjjhjaaGreat
