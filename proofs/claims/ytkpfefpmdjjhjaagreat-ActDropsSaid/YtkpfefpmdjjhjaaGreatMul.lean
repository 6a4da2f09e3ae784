/- The walk of prod.Mul. -/
import Derived.Test.YtkpfefpmdjjhjaaGreatOp1
import Derived.Lib.Hide
namespace Go.Proofs.YtkpfefpmdjjhjaaGreat
open Go.RowKit Anneal
set_option linter.unusedSimpArgs false
set_option linter.unusedVariables false
attribute [local go_sem] mk_size mk_cell mk_frozen mk_set mk_drew drew_mk lt_inst le_inst
set_option maxHeartbeats 4000000 in
theorem Mul_nan (a b : Int) (a0 : 0 ≤ a) (a1 : a < 4294967296) (b0 : 0 ≤ b) (b1 : b < 4294967296) (hn : oneNan 2 [a, b] = true) (w : World) :
    Calls Tryz.prog 159 #[.int .i64 2, .int .i64 0, .int .u32 a, .int .u32 b] w (Num5 2143289344 w) := by
  go_enter Tryz.func159, Tryz.ntmps159
  go_wp2_with (first | (go_at_call 216; (with_reducible refine Calls.mono (sum_Nans2 a b a0 a1 b0 b1 _ _ (by simp [go_sem]) (by simp [go_sem])) ?_); rintro e w1 ⟨⟨q0, rfl⟩, hb⟩; obtain ⟨o0, d0, rfl⟩ := made hb; clear hb))
  go_region_held3 (fun w' => w'.cell? ⟨w.heap.size + 1 + 1 + o0.size, 0, none⟩ = some (.bool q0) ∧ w'.cell? ⟨w.heap.size + 1 + 1 + o0.size, 1, none⟩ = some (.bool false) ∧ w'.cell? ⟨w.heap.size + 1 + 1 + o0.size, 2, none⟩ = some (.bool false) ∧ w'.cell? ⟨w.heap.size + 1 + 1 + o0.size, 3, none⟩ = some (.bool false) ∧ w'.cell? ⟨w.heap.size + 1 + 1 + o0.size, 4, none⟩ = some (.bool false)) (simp [go_sem, World.cell?_alloc_past]) (first | fail)
  go_wp2
  refine bodyPost_ret (v := .tuple #[.int .u32 2143289344, .agg #[.bool q0, .bool false, .bool false, .bool false, .bool false]]) ?_ rfl ⟨⟨_, _, _, _, _, rfl⟩, by (repeat (first | exact Below.refl _ _ | (refine Below.drew ?_) | (refine Below.setCell ?_ (by simp [mk_size] <;> omega) _) | (refine Below.alloc ?_ (by simp [mk_size] <;> omega) _) | (refine below_mk ?_ (by simp [mk_size] <;> omega) _ _) | (refine Below.trans ?_ (Below.mono (by assumption) (by simp <;> omega)))))⟩
  simp [results, Tryz.results159, go_sem, *]
set_option maxHeartbeats 4000000 in
theorem Mul_torn (a b : Int) (a0 : 0 ≤ a) (a1 : a < 4294967296) (b0 : 0 ≤ b) (b1 : b < 4294967296) (hn : oneNan 2 [a, b] = false) (ht : torn a b = true) (w : World) :
    Calls Tryz.prog 159 #[.int .i64 2, .int .i64 0, .int .u32 a, .int .u32 b] w (Num5 2143289344 w) := by
  go_enter Tryz.func159, Tryz.ntmps159
  go_wp2_with (first | (go_at_call 216; (with_reducible refine Calls.mono (sum_Nans2 a b a0 a1 b0 b1 _ _ (by simp [go_sem]) (by simp [go_sem])) ?_); rintro e w1 ⟨⟨q0, rfl⟩, hb⟩; obtain ⟨o0, d0, rfl⟩ := made hb; clear hb) | (go_at_call 217; (with_reducible refine Calls.mono (prod_torn a b a0 a1 b0 b1 _) ?_); rintro e w' ⟨rfl, rfl⟩) | (go_at_call 218; (with_reducible refine Calls.mono (sum_Bad 2 (by decide) _) ?_); rintro e w1 ⟨rfl, hb⟩; obtain ⟨o1, d1, rfl⟩ := made hb; clear hb))
  refine bodyPost_ret (v := .tuple #[.int .u32 2143289344, .agg #[.bool true, .bool false, .bool false, .bool false, .bool false]]) ?_ rfl ⟨⟨_, _, _, _, _, rfl⟩, by (repeat (first | exact Below.refl _ _ | (refine Below.drew ?_) | (refine Below.setCell ?_ (by simp [mk_size] <;> omega) _) | (refine Below.alloc ?_ (by simp [mk_size] <;> omega) _) | (refine below_mk ?_ (by simp [mk_size] <;> omega) _ _) | (refine Below.trans ?_ (Below.mono (by assumption) (by simp <;> omega)))))⟩
  simp [results, Tryz.results159, go_sem, *]
  rfl
set_option maxHeartbeats 4000000 in
theorem Mul_inf (a b : Int) (a0 : 0 ≤ a) (a1 : a < 4294967296) (b0 : 0 ≤ b) (b1 : b < 4294967296) (hn : oneNan 2 [a, b] = false) (ht : torn a b = false) (hi : (isInf 2 a || isInf 2 b) = true) (w : World) :
    Calls Tryz.prog 159 #[.int .i64 2, .int .i64 0, .int .u32 a, .int .u32 b] w (Num5 (fInf 2 (!(pS 2 a == pS 2 b))) w) := by
  generalize hx : isInf 2 a = x at hi
  generalize hy : isInf 2 b = y at hi
  cases x <;> cases y <;> simp at hi
  all_goals
    go_enter Tryz.func159, Tryz.ntmps159
    go_wp2_with (first | (go_at_call 216; (with_reducible refine Calls.mono (sum_Nans2 a b a0 a1 b0 b1 _ _ (by simp [go_sem]) (by simp [go_sem])) ?_); rintro e w1 ⟨⟨q0, rfl⟩, hb⟩; obtain ⟨o0, d0, rfl⟩ := made hb; clear hb) | (go_at_call 217; (with_reducible refine Calls.mono (prod_torn a b a0 a1 b0 b1 _) ?_); rintro e w' ⟨rfl, rfl⟩) | (go_at_call 174; (with_reducible refine Calls.mono (IsInf2 a a0 a1 _) ?_); rintro e w' ⟨rfl, rfl⟩) | (go_at_call 174; (with_reducible refine Calls.mono (IsInf2 b b0 b1 _) ?_); rintro e w' ⟨rfl, rfl⟩) | (go_at_call 152; (with_reducible refine Calls.mono (format_Neg 2 a (by decide) a0 a1 _) ?_); rintro e w' ⟨rfl, rfl⟩) | (go_at_call 152; (with_reducible refine Calls.mono (format_Neg 2 b (by decide) b0 b1 _) ?_); rintro e w' ⟨rfl, rfl⟩) | (go_at_call 173; (with_reducible refine Calls.mono (format_Inf 2 _ (by decide) _) ?_); rintro e w' ⟨rfl, rfl⟩))
    (first | (refine bodyPost_ret (v := .tuple #[.int .u32 (fInf 2 (!(pS 2 a == pS 2 b))), .agg #[.bool false, .bool false, .bool false, .bool false, .bool false]]) ?_ rfl ?_; (focus (simp [results, Tryz.results159, go_sem, *]; done)); exact ⟨⟨_, _, _, _, _, rfl⟩, by (repeat (first | exact Below.refl _ _ | (refine Below.drew ?_) | (refine Below.setCell ?_ (by simp [mk_size] <;> omega) _) | (refine Below.alloc ?_ (by simp [mk_size] <;> omega) _) | (refine below_mk ?_ (by simp [mk_size] <;> omega) _ _) | (refine Below.trans ?_ (Below.mono (by assumption) (by simp <;> omega)))))⟩) | (refine bodyPost_ret (v := .tuple #[.int .u32 (fInf 2 (!(pS 2 a == pS 2 b))), .agg #[.bool p1, .bool p2, .bool p3, .bool p4, .bool p5]]) ?_ rfl ?_; (focus (simp [results, Tryz.results159, go_sem, *]; done)); exact ⟨⟨_, _, _, _, _, rfl⟩, by (repeat (first | exact Below.refl _ _ | (refine Below.drew ?_) | (refine Below.setCell ?_ (by simp [mk_size] <;> omega) _) | (refine Below.alloc ?_ (by simp [mk_size] <;> omega) _) | (refine below_mk ?_ (by simp [mk_size] <;> omega) _ _) | (refine Below.trans ?_ (Below.mono (by assumption) (by simp <;> omega)))))⟩) | (refine bodyPost_ret (v := .tuple #[.int .u32 (fInf 2 (!(pS 2 a == pS 2 b))), .agg #[.bool true, .bool false, .bool false, .bool false, .bool false]]) ?_ rfl ?_; (focus (simp [results, Tryz.results159, go_sem, *]; done)); exact ⟨⟨_, _, _, _, _, rfl⟩, by (repeat (first | exact Below.refl _ _ | (refine Below.drew ?_) | (refine Below.setCell ?_ (by simp [mk_size] <;> omega) _) | (refine Below.alloc ?_ (by simp [mk_size] <;> omega) _) | (refine below_mk ?_ (by simp [mk_size] <;> omega) _ _) | (refine Below.trans ?_ (Below.mono (by assumption) (by simp <;> omega)))))⟩) | (refine bodyPost_ret (v := .tuple #[.int .u32 (fInf 2 (!(pS 2 a == pS 2 b))), .agg #[.bool false, .bool true, .bool false, .bool false, .bool false]]) ?_ rfl ?_; (focus (simp [results, Tryz.results159, go_sem, *]; done)); exact ⟨⟨_, _, _, _, _, rfl⟩, by (repeat (first | exact Below.refl _ _ | (refine Below.drew ?_) | (refine Below.setCell ?_ (by simp [mk_size] <;> omega) _) | (refine Below.alloc ?_ (by simp [mk_size] <;> omega) _) | (refine below_mk ?_ (by simp [mk_size] <;> omega) _ _) | (refine Below.trans ?_ (Below.mono (by assumption) (by simp <;> omega)))))⟩))
set_option maxHeartbeats 4000000 in
theorem Mul_fin (a b : Int) (a0 : 0 ≤ a) (a1 : a < 4294967296) (b0 : 0 ≤ b) (b1 : b < 4294967296) (hn : oneNan 2 [a, b] = false) (ht : torn a b = false) (hx : isInf 2 a = false) (hy : isInf 2 b = false)
    (qn : Bool) (qe qs : Int) (u1 : 0 ≤ qs) (u2 : qs < 18446744073709551616) (u3 : -10000 ≤ qe) (u4 : qe ≤ 10000)
    (c1 : ∀ w, Calls Tryz.prog 219 #[.int .i64 2, .int .u32 a, .int .u32 b] w fun e w' => e = .returned (.agg #[.bool qn, .int .i64 qe, .int .u64 qs, .bool false]) ∧ Below w.heap.size w w') (w : World) :
    Calls Tryz.prog 159 #[.int .i64 2, .int .i64 0, .int .u32 a, .int .u32 b] w (Num5 (pack 2 (!(pS 2 a == pS 2 b)) qe qs false) w) := by
  have C1 := Lib.hid c1
  clear c1
  go_enter Tryz.func159, Tryz.ntmps159
  go_wp2_with (first | (go_at_call 216; (with_reducible refine Calls.mono (sum_Nans2 a b a0 a1 b0 b1 _ _ (by simp [go_sem]) (by simp [go_sem])) ?_); rintro e w1 ⟨⟨q0, rfl⟩, hb⟩; obtain ⟨o0, d0, rfl⟩ := made hb; clear hb) | (go_at_call 217; (with_reducible refine Calls.mono (prod_torn a b a0 a1 b0 b1 _) ?_); rintro e w' ⟨rfl, rfl⟩) | (go_at_call 174; (with_reducible refine Calls.mono (IsInf2 a a0 a1 _) ?_); rintro e w' ⟨rfl, rfl⟩) | (go_at_call 174; (with_reducible refine Calls.mono (IsInf2 b b0 b1 _) ?_); rintro e w' ⟨rfl, rfl⟩) | (go_at_call 152; (with_reducible refine Calls.mono (format_Neg 2 a (by decide) a0 a1 _) ?_); rintro e w' ⟨rfl, rfl⟩) | (go_at_call 152; (with_reducible refine Calls.mono (format_Neg 2 b (by decide) b0 b1 _) ?_); rintro e w' ⟨rfl, rfl⟩) | (go_at_call 219; (with_reducible refine Calls.mono (C1.out _) ?_); rintro e w1 ⟨rfl, hb⟩; obtain ⟨o1, d1, rfl⟩ := made hb; clear hb) | (go_at_call 220; (with_reducible refine Calls.mono ((round_Pack2 _ false qe qs u1 u2 (fun _ => rfl) u3 u4 _).mono fun _ _ h => h.five) ?_); rintro e w1 ⟨⟨p1, p2, p3, p4, p5, rfl⟩, hb⟩; obtain ⟨o1, d1, rfl⟩ := made hb; clear hb))
  (first | (refine bodyPost_ret (v := .tuple #[.int .u32 (pack 2 (!(pS 2 a == pS 2 b)) qe qs false), .agg #[.bool false, .bool false, .bool false, .bool false, .bool false]]) ?_ rfl ?_; (focus (simp [results, Tryz.results159, go_sem, *]; done)); exact ⟨⟨_, _, _, _, _, rfl⟩, by (repeat (first | exact Below.refl _ _ | (refine Below.drew ?_) | (refine Below.setCell ?_ (by simp [mk_size] <;> omega) _) | (refine Below.alloc ?_ (by simp [mk_size] <;> omega) _) | (refine below_mk ?_ (by simp [mk_size] <;> omega) _ _) | (refine Below.trans ?_ (Below.mono (by assumption) (by simp <;> omega)))))⟩) | (refine bodyPost_ret (v := .tuple #[.int .u32 (pack 2 (!(pS 2 a == pS 2 b)) qe qs false), .agg #[.bool p1, .bool p2, .bool p3, .bool p4, .bool p5]]) ?_ rfl ?_; (focus (simp [results, Tryz.results159, go_sem, *]; done)); exact ⟨⟨_, _, _, _, _, rfl⟩, by (repeat (first | exact Below.refl _ _ | (refine Below.drew ?_) | (refine Below.setCell ?_ (by simp [mk_size] <;> omega) _) | (refine Below.alloc ?_ (by simp [mk_size] <;> omega) _) | (refine below_mk ?_ (by simp [mk_size] <;> omega) _ _) | (refine Below.trans ?_ (Below.mono (by assumption) (by simp <;> omega)))))⟩) | (refine bodyPost_ret (v := .tuple #[.int .u32 (pack 2 (!(pS 2 a == pS 2 b)) qe qs false), .agg #[.bool true, .bool false, .bool false, .bool false, .bool false]]) ?_ rfl ?_; (focus (simp [results, Tryz.results159, go_sem, *]; done)); exact ⟨⟨_, _, _, _, _, rfl⟩, by (repeat (first | exact Below.refl _ _ | (refine Below.drew ?_) | (refine Below.setCell ?_ (by simp [mk_size] <;> omega) _) | (refine Below.alloc ?_ (by simp [mk_size] <;> omega) _) | (refine below_mk ?_ (by simp [mk_size] <;> omega) _ _) | (refine Below.trans ?_ (Below.mono (by assumption) (by simp <;> omega)))))⟩) | (refine bodyPost_ret (v := .tuple #[.int .u32 (pack 2 (!(pS 2 a == pS 2 b)) qe qs false), .agg #[.bool false, .bool true, .bool false, .bool false, .bool false]]) ?_ rfl ?_; (focus (simp [results, Tryz.results159, go_sem, *]; done)); exact ⟨⟨_, _, _, _, _, rfl⟩, by (repeat (first | exact Below.refl _ _ | (refine Below.drew ?_) | (refine Below.setCell ?_ (by simp [mk_size] <;> omega) _) | (refine Below.alloc ?_ (by simp [mk_size] <;> omega) _) | (refine below_mk ?_ (by simp [mk_size] <;> omega) _ _) | (refine Below.trans ?_ (Below.mono (by assumption) (by simp <;> omega)))))⟩))
theorem prod_Mul (a b : Int) (a0 : 0 ≤ a) (a1 : a < 4294967296) (b0 : 0 ≤ b) (b1 : b < 4294967296) (w : World) :
    Calls Tryz.prog 159 #[.int .i64 2, .int .i64 0, .int .u32 a, .int .u32 b] w (Num5 (fmul a b) w) := by
  unfold fmul
  cases hn : oneNan 2 [a, b]
  · rw [if_neg (by decide)]
    cases ht : torn a b
    · rw [if_neg (by decide)]
      cases hi : (isInf 2 a || isInf 2 b)
      · rw [if_neg (by decide)]
        obtain ⟨p5, p6⟩ := uE_range a
        obtain ⟨p7, p8⟩ := uE_range b
        obtain ⟨m1, m2⟩ := mulU a b
        rw [Bool.or_eq_false_iff] at hi
        exact Mul_fin a b a0 a1 b0 b1 hn ht hi.1 hi.2 _ _ _ m1 (by omega) (by omega) (by omega) (prod_product a b a0 a1 b0 b1) w
      · rw [if_pos rfl]
        exact Mul_inf a b a0 a1 b0 b1 hn ht hi w
    · rw [if_pos rfl]
      exact Mul_torn a b a0 a1 b0 b1 hn ht w
  · rw [if_pos rfl]
    exact Mul_nan a b a0 a1 b0 b1 hn w
end Go.Proofs.YtkpfefpmdjjhjaaGreat
