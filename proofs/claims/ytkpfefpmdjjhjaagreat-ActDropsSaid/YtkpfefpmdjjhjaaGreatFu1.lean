/- The walks of package order, whole.FromInt, the simple ones of package funcs. -/
import Derived.Test.YtkpfefpmdjjhjaaGreatDv2
import Derived.Test.YtkpfefpmdjjhjaaGreatFma
import Derived.Test.YtkpfefpmdjjhjaaGreatAr4
namespace Go.Proofs.YtkpfefpmdjjhjaaGreat
open Go.RowKit Anneal
set_option linter.unusedSimpArgs false
set_option linter.unusedVariables false
attribute [local go_sem] mk_size mk_cell mk_frozen mk_set mk_drew drew_mk lt_inst le_inst
theorem IsNan2 (v : Int) (h0 : 0 ≤ v) (h1 : v < 4294967296) (w : World) : Calls Tryz.prog 147 #[.int .i64 2, .int .u32 v] w fun e w' => e = .returned (.bool (isNan 2 v)) ∧ w = w' := format_IsNan 2 v (by decide) h0 h1 w
theorem order_Key (a : Int) (a0 : 0 ≤ a) (a1 : a < 4294967296) (w : World) : Calls Tryz.prog 228 #[.int .i64 2, .int .u32 a] w fun e w' => e = .returned (.int .i64 (fkey a)) ∧ w = w' := by
  obtain ⟨t0, t1⟩ := fTurn_r a
  have M : bits BinOp.and IntKind.u32 a 4294967295 = a := by rw [and32 32 (by decide) 4294967295 (by decide) _ (by omega) (by omega)]; omega
  generalize hp : pS 2 a = p
  cases p
  all_goals
    go_enter Tryz.func228, Tryz.ntmps228
    go_wp2_with (first | (go_at_call 164; (with_reducible refine Calls.mono (fmtM2 _) ?_); rintro e w' ⟨rfl, rfl⟩) | (go_at_call 152; (with_reducible refine Calls.mono (format_Neg 2 a (by decide) a0 a1 _) ?_); rintro e w' ⟨rfl, rfl⟩) | (go_at_call 214; (with_reducible refine Calls.mono (format_Turn 2 a (by decide) a0 a1 _) ?_); rintro e w' ⟨rfl, rfl⟩))
    go_ret
    refine ⟨ret1_ (congrArg (Value.int .i64) ?_), rfl⟩
    unfold fkey; rw [hp]
    simp [M]
    try omega
theorem fkey_r (a : Int) (a0 : 0 ≤ a) (a1 : a < 4294967296) : -4294967297 ≤ fkey a ∧ fkey a < 4294967296 := by
  obtain ⟨t0, t1⟩ := fTurn_r a
  unfold fkey; split <;> omega
theorem order_Compare (a b : Int) (a0 : 0 ≤ a) (a1 : a < 4294967296) (b0 : 0 ≤ b) (b1 : b < 4294967296) (w : World) :
    Calls Tryz.prog 184 #[.int .i64 2, .int .u32 a, .int .u32 b] w fun e w' => (∃ o : Bool, e = .returned (.tuple #[.int .i64 (fcmp a b), .bool o])) ∧ w = w' := by
  generalize hV : fcmp a b = V
  replace hV := Lib.hid hV
  go_enter Tryz.func184, Tryz.ntmps184
  go_wp2_with (first | (go_at_call 147; (with_reducible refine Calls.mono (IsNan2 a a0 a1 _) ?_); rintro e w' ⟨rfl, rfl⟩) | (go_at_call 147; (with_reducible refine Calls.mono (IsNan2 b b0 b1 _) ?_); rintro e w' ⟨rfl, rfl⟩) | (go_at_call 151; (with_reducible refine Calls.mono (IsZero2 a a0 a1 _) ?_); rintro e w' ⟨rfl, rfl⟩) | (go_at_call 151; (with_reducible refine Calls.mono (IsZero2 b b0 b1 _) ?_); rintro e w' ⟨rfl, rfl⟩) | (go_at_call 228; (with_reducible refine Calls.mono (order_Key a a0 a1 _) ?_); rintro e w' ⟨rfl, rfl⟩) | (go_at_call 228; (with_reducible refine Calls.mono (order_Key b b0 b1 _) ?_); rintro e w' ⟨rfl, rfl⟩))
  all_goals
    go_ret2
    refine ⟨⟨_, ret2_ (congrArg (Value.int .i64) ?_) rfl⟩, rfl⟩
    rw [← hV.out]; unfold fcmp
    simp_all
    try omega
theorem order_Less (a b : Int) (a0 : 0 ≤ a) (a1 : a < 4294967296) (b0 : 0 ≤ b) (b1 : b < 4294967296) (w : World) :
    Calls Tryz.prog 149 #[.int .i64 2, .int .u32 a, .int .u32 b] w fun e w' => e = .returned (.bool (fabove b a)) ∧ w = w' := by
  go_enter Tryz.func149, Tryz.ntmps149
  go_wp2_with (go_at_call 184; (with_reducible refine Calls.mono (order_Compare a b a0 a1 b0 b1 _) ?_); rintro e w1 ⟨⟨o, rfl⟩, rfl⟩)
  go_ret
  exact ⟨rfl, rfl⟩
theorem funcs_Above (a b : Int) (a0 : 0 ≤ a) (a1 : a < 4294967296) (b0 : 0 ≤ b) (b1 : b < 4294967296) (w : World) :
    Calls Tryz.prog 66 #[.int .u32 a, .int .u32 b] w fun e w' => e = .returned (.bool (fabove a b)) ∧ w = w' := by
  go_enter Tryz.func66, Tryz.ntmps66
  go_wp2_with (go_at_call 149; (with_reducible refine Calls.mono (order_Less b a b0 b1 a0 a1 _) ?_); rintro e w' ⟨rfl, rfl⟩)
  go_ret
  exact ⟨rfl, rfl⟩
theorem funcs_IsNan (a : Int) (a0 : 0 ≤ a) (a1 : a < 4294967296) (w : World) :
    Calls Tryz.prog 64 #[.int .u32 a] w fun e w' => e = .returned (.bool (isNan 2 a)) ∧ w = w' := by
  go_enter Tryz.func64, Tryz.ntmps64
  go_wp2_with (go_at_call 147; (with_reducible refine Calls.mono (IsNan2 a a0 a1 _) ?_); rintro e w' ⟨rfl, rfl⟩)
  go_ret
  exact ⟨rfl, rfl⟩
theorem funcs_plain (w : World) :
    Calls Tryz.prog 150 #[] w fun e w' => e = .returned (.int .u32 2143289344) ∧ w = w' := by
  go_enter Tryz.func150, Tryz.ntmps150
  go_wp2_with (go_at_call 148; (with_reducible refine Calls.mono (format_Nan 2 (by decide) _) ?_); rintro e w' ⟨rfl, rfl⟩)
  go_ret
  exact ⟨rfl, rfl⟩
theorem funcs_Minus (a : Int) (a0 : 0 ≤ a) (a1 : a < 4294967296) (w : World) :
    Calls Tryz.prog 153 #[.int .u32 a] w fun e w' => e = .returned (.int .u32 (fTurn 2 a)) ∧ w = w' := by
  go_enter Tryz.func153, Tryz.ntmps153
  go_wp2_with (go_at_call 214; (with_reducible refine Calls.mono (format_Turn 2 a (by decide) a0 a1 _) ?_); rintro e w' ⟨rfl, rfl⟩)
  go_ret
  exact ⟨rfl, rfl⟩
theorem whole_amount (n : Int) (h0 : -9223372036854775808 ≤ n) (h1 : n < 9223372036854775808) (w : World) :
    Calls Tryz.prog 225 #[.int .i64 n] w fun e w' => e = .returned (.int .u64 n.natAbs) ∧ w = w' := by
  go_enter Tryz.func225, Tryz.ntmps225
  go_wp2
  all_goals
    go_ret
    refine ⟨ret1_ (congrArg (Value.int .u64) ?_), rfl⟩
    try simp only [wrap_u64]
    omega
theorem whole_FromInt (n : Int) (h0 : -9223372036854775808 ≤ n) (h1 : n < 9223372036854775808) (w : World) :
    Calls Tryz.prog 168 #[.int .i64 2, .int .i64 0, .int .i64 n] w (Num5 (fint n) w) := by
  go_enter Tryz.func168, Tryz.ntmps168
  go_wp2_with (first | (go_at_call 225; (with_reducible refine Calls.mono (whole_amount n h0 h1 _) ?_); rintro e w' ⟨rfl, rfl⟩) | (go_at_call 220; (with_reducible refine Calls.mono ((round_Pack2 _ false 0 n.natAbs (by omega) (by omega) (fun _ => rfl) (by decide) (by decide) _).mono fun _ _ h => h.five) ?_); rintro e w1 ⟨⟨p1, p2, p3, p4, p5, rfl⟩, hb⟩; obtain ⟨o1, d1, rfl⟩ := made hb; clear hb))
  (first | (refine bodyPost_ret (v := .tuple #[.int .u32 (fint n), .agg #[.bool false, .bool false, .bool false, .bool false, .bool false]]) ?_ rfl ?_; (focus (simp [results, Tryz.results168, go_sem, fint, *]; done)); exact ⟨⟨_, _, _, _, _, rfl⟩, by (repeat (first | exact Below.refl _ _ | (refine Below.drew ?_) | (refine Below.setCell ?_ (by simp [mk_size] <;> omega) _) | (refine Below.alloc ?_ (by simp [mk_size] <;> omega) _) | (refine below_mk ?_ (by simp [mk_size] <;> omega) _ _) | (refine Below.trans ?_ (Below.mono (by assumption) (by simp <;> omega)))))⟩) | (refine bodyPost_ret (v := .tuple #[.int .u32 (fint n), .agg #[.bool p1, .bool p2, .bool p3, .bool p4, .bool p5]]) ?_ rfl ?_; (focus (simp [results, Tryz.results168, go_sem, fint, *]; done)); exact ⟨⟨_, _, _, _, _, rfl⟩, by (repeat (first | exact Below.refl _ _ | (refine Below.drew ?_) | (refine Below.setCell ?_ (by simp [mk_size] <;> omega) _) | (refine Below.alloc ?_ (by simp [mk_size] <;> omega) _) | (refine below_mk ?_ (by simp [mk_size] <;> omega) _ _) | (refine Below.trans ?_ (Below.mono (by assumption) (by simp <;> omega)))))⟩) | (refine bodyPost_ret (v := .tuple #[.int .u32 (fint n), .agg #[.bool true, .bool false, .bool false, .bool false, .bool false]]) ?_ rfl ?_; (focus (simp [results, Tryz.results168, go_sem, fint, *]; done)); exact ⟨⟨_, _, _, _, _, rfl⟩, by (repeat (first | exact Below.refl _ _ | (refine Below.drew ?_) | (refine Below.setCell ?_ (by simp [mk_size] <;> omega) _) | (refine Below.alloc ?_ (by simp [mk_size] <;> omega) _) | (refine below_mk ?_ (by simp [mk_size] <;> omega) _ _) | (refine Below.trans ?_ (Below.mono (by assumption) (by simp <;> omega)))))⟩) | (refine bodyPost_ret (v := .tuple #[.int .u32 (fint n), .agg #[.bool false, .bool true, .bool false, .bool false, .bool false]]) ?_ rfl ?_; (focus (simp [results, Tryz.results168, go_sem, fint, *]; done)); exact ⟨⟨_, _, _, _, _, rfl⟩, by (repeat (first | exact Below.refl _ _ | (refine Below.drew ?_) | (refine Below.setCell ?_ (by simp [mk_size] <;> omega) _) | (refine Below.alloc ?_ (by simp [mk_size] <;> omega) _) | (refine below_mk ?_ (by simp [mk_size] <;> omega) _ _) | (refine Below.trans ?_ (Below.mono (by assumption) (by simp <;> omega)))))⟩))
theorem funcs_Add (a b : Int) (a0 : 0 ≤ a) (a1 : a < 4294967296) (b0 : 0 ≤ b) (b1 : b < 4294967296) (w : World) :
    Calls Tryz.prog 98 #[.int .u32 a, .int .u32 b] w fun e w' => e = .returned (.int .u32 (fadd a b)) ∧ Below w.heap.size w w' := by
  go_enter Tryz.func98, Tryz.ntmps98
  go_wp2_with (go_at_call 172; (with_reducible refine Calls.mono (sum_Add a b a0 a1 b0 b1 _) ?_); rintro e w1 ⟨⟨p1, p2, p3, p4, p5, rfl⟩, hb⟩; obtain ⟨o1, d1, rfl⟩ := made hb; clear hb)
  refine bodyPost_ret (v := .int .u32 (fadd a b)) ?_ rfl ⟨rfl, by (repeat (first | exact Below.refl _ _ | (refine Below.drew ?_) | (refine Below.setCell ?_ (by simp [mk_size] <;> omega) _) | (refine Below.alloc ?_ (by simp [mk_size] <;> omega) _) | (refine below_mk ?_ (by simp [mk_size] <;> omega) _ _) | (refine Below.trans ?_ (Below.mono (by assumption) (by simp <;> omega)))))⟩
  simp [results, Tryz.results98, go_sem, *]
theorem funcs_Sub (a b : Int) (a0 : 0 ≤ a) (a1 : a < 4294967296) (b0 : 0 ≤ b) (b1 : b < 4294967296) (w : World) :
    Calls Tryz.prog 73 #[.int .u32 a, .int .u32 b] w fun e w' => e = .returned (.int .u32 (fsub a b)) ∧ Below w.heap.size w w' := by
  go_enter Tryz.func73, Tryz.ntmps73
  go_wp2_with (go_at_call 158; (with_reducible refine Calls.mono (sum_Sub a b a0 a1 b0 b1 _) ?_); rintro e w1 ⟨⟨p1, p2, p3, p4, p5, rfl⟩, hb⟩; obtain ⟨o1, d1, rfl⟩ := made hb; clear hb)
  refine bodyPost_ret (v := .int .u32 (fsub a b)) ?_ rfl ⟨rfl, by (repeat (first | exact Below.refl _ _ | (refine Below.drew ?_) | (refine Below.setCell ?_ (by simp [mk_size] <;> omega) _) | (refine Below.alloc ?_ (by simp [mk_size] <;> omega) _) | (refine below_mk ?_ (by simp [mk_size] <;> omega) _ _) | (refine Below.trans ?_ (Below.mono (by assumption) (by simp <;> omega)))))⟩
  simp [results, Tryz.results73, go_sem, *]
theorem funcs_Mul (a b : Int) (a0 : 0 ≤ a) (a1 : a < 4294967296) (b0 : 0 ≤ b) (b1 : b < 4294967296) (w : World) :
    Calls Tryz.prog 74 #[.int .u32 a, .int .u32 b] w fun e w' => e = .returned (.int .u32 (fmul a b)) ∧ Below w.heap.size w w' := by
  go_enter Tryz.func74, Tryz.ntmps74
  go_wp2_with (go_at_call 159; (with_reducible refine Calls.mono (prod_Mul a b a0 a1 b0 b1 _) ?_); rintro e w1 ⟨⟨p1, p2, p3, p4, p5, rfl⟩, hb⟩; obtain ⟨o1, d1, rfl⟩ := made hb; clear hb)
  refine bodyPost_ret (v := .int .u32 (fmul a b)) ?_ rfl ⟨rfl, by (repeat (first | exact Below.refl _ _ | (refine Below.drew ?_) | (refine Below.setCell ?_ (by simp [mk_size] <;> omega) _) | (refine Below.alloc ?_ (by simp [mk_size] <;> omega) _) | (refine below_mk ?_ (by simp [mk_size] <;> omega) _ _) | (refine Below.trans ?_ (Below.mono (by assumption) (by simp <;> omega)))))⟩
  simp [results, Tryz.results74, go_sem, *]
theorem funcs_Div (a b : Int) (a0 : 0 ≤ a) (a1 : a < 4294967296) (b0 : 0 ≤ b) (b1 : b < 4294967296) (w : World) :
    Calls Tryz.prog 87 #[.int .u32 a, .int .u32 b] w fun e w' => e = .returned (.int .u32 (fdiv a b)) ∧ Below w.heap.size w w' := by
  go_enter Tryz.func87, Tryz.ntmps87
  go_wp2_with (go_at_call 167; (with_reducible refine Calls.mono (quot_Div a b a0 a1 b0 b1 _) ?_); rintro e w1 ⟨⟨p1, p2, p3, p4, p5, rfl⟩, hb⟩; obtain ⟨o1, d1, rfl⟩ := made hb; clear hb)
  refine bodyPost_ret (v := .int .u32 (fdiv a b)) ?_ rfl ⟨rfl, by (repeat (first | exact Below.refl _ _ | (refine Below.drew ?_) | (refine Below.setCell ?_ (by simp [mk_size] <;> omega) _) | (refine Below.alloc ?_ (by simp [mk_size] <;> omega) _) | (refine below_mk ?_ (by simp [mk_size] <;> omega) _ _) | (refine Below.trans ?_ (Below.mono (by assumption) (by simp <;> omega)))))⟩
  simp [results, Tryz.results87, go_sem, *]
theorem funcs_Fma (a b c : Int) (a0 : 0 ≤ a) (a1 : a < 4294967296) (b0 : 0 ≤ b) (b1 : b < 4294967296) (c0 : 0 ≤ c) (c1 : c < 4294967296) (w : World) :
    Calls Tryz.prog 107 #[.int .u32 a, .int .u32 b, .int .u32 c] w fun e w' => e = .returned (.int .u32 (ffma a b c)) ∧ Below w.heap.size w w' := by
  go_enter Tryz.func107, Tryz.ntmps107
  go_wp2_with (go_at_call 186; (with_reducible refine Calls.mono (prod_Fma a b c a0 a1 b0 b1 c0 c1 _) ?_); rintro e w1 ⟨⟨p1, p2, p3, p4, p5, rfl⟩, hb⟩; obtain ⟨o1, d1, rfl⟩ := made hb; clear hb)
  refine bodyPost_ret (v := .int .u32 (ffma a b c)) ?_ rfl ⟨rfl, by (repeat (first | exact Below.refl _ _ | (refine Below.drew ?_) | (refine Below.setCell ?_ (by simp [mk_size] <;> omega) _) | (refine Below.alloc ?_ (by simp [mk_size] <;> omega) _) | (refine below_mk ?_ (by simp [mk_size] <;> omega) _ _) | (refine Below.trans ?_ (Below.mono (by assumption) (by simp <;> omega)))))⟩
  simp [results, Tryz.results107, go_sem, *]
theorem funcs_Int (n : Int) (h0 : -9223372036854775808 ≤ n) (h1 : n < 9223372036854775808) (w : World) :
    Calls Tryz.prog 88 #[.int .i64 n] w fun e w' => e = .returned (.int .u32 (fint n)) ∧ Below w.heap.size w w' := by
  go_enter Tryz.func88, Tryz.ntmps88
  go_wp2_with (go_at_call 168; (with_reducible refine Calls.mono (whole_FromInt n h0 h1 _) ?_); rintro e w1 ⟨⟨p1, p2, p3, p4, p5, rfl⟩, hb⟩; obtain ⟨o1, d1, rfl⟩ := made hb; clear hb)
  refine bodyPost_ret (v := .int .u32 (fint n)) ?_ rfl ⟨rfl, by (repeat (first | exact Below.refl _ _ | (refine Below.drew ?_) | (refine Below.setCell ?_ (by simp [mk_size] <;> omega) _) | (refine Below.alloc ?_ (by simp [mk_size] <;> omega) _) | (refine below_mk ?_ (by simp [mk_size] <;> omega) _ _) | (refine Below.trans ?_ (Below.mono (by assumption) (by simp <;> omega)))))⟩
  simp [results, Tryz.results88, go_sem, *]
end Go.Proofs.YtkpfefpmdjjhjaaGreat
