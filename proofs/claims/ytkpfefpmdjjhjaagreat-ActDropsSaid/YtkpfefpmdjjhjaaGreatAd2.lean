/- The walks of sum.Add, sum.Sub at singles. -/
import Derived.Test.YtkpfefpmdjjhjaaGreatAdd
import Derived.Test.YtkpfefpmdjjhjaaGreatMk
import Derived.Test.YtkpfefpmdjjhjaaGreatAr3
import Derived.Lib.Hide
namespace Go.Proofs.YtkpfefpmdjjhjaaGreat
open Go.RowKit Anneal
set_option linter.unusedSimpArgs false
set_option linter.unusedVariables false
attribute [local go_sem] mk_size mk_cell mk_frozen mk_set mk_drew drew_mk lt_inst le_inst
def nou (a b : Bool) : Int := if a && b then 2147483648 else 0
theorem sum_Nought' (a b : Bool) (w : World) : Calls Tryz.prog 231 #[.int .i64 2, .int .i64 0, .bool a, .bool b] w fun e w' => e = .returned (.int .u32 (nou a b)) ∧ w = w' := sum_Nought a b w
def ndOr (qn n1 n2 : Bool) (qe qs : Int) (qm : Bool) : Int := if qs = 0 ∧ qm = false then nou n1 n2 else pack 2 qn qe qs qm
/-- three results of Nans -/
def NansP (l : List Int) (w : World) (e : Ending) (w' : World) : Prop := (∃ a : Bool, e = .returned (.tuple #[.int .u32 2143289344, .agg #[.bool a, .bool false, .bool false, .bool false, .bool false], .bool (oneNan 2 l)])) ∧ Below w.heap.size w w'
theorem sum_Nans1 (a : Int) (a0 : 0 ≤ a) (a1 : a < 4294967296) (B : Nat) (w : World) (h0 : w.cell? ⟨B, 0, none⟩ = some (.int .u32 a)) :
    Calls Tryz.prog 216 #[.int .i64 2, .slice (some ⟨B, 0, none⟩) 1 1] w (NansP [a] w) := by
  refine Calls.mono (sum_Nans 2 (by decide) B [a] (by simp) w ?_ ?_) ?_
  · intro j hj; obtain rfl : j = 0 := by simp at hj; omega
    exact h0
  · intro v hv; simp at hv; omega
  · rintro e w' ⟨rfl, hb⟩; exact ⟨⟨_, rfl⟩, hb⟩
theorem sum_Nans2 (a b : Int) (a0 : 0 ≤ a) (a1 : a < 4294967296) (b0 : 0 ≤ b) (b1 : b < 4294967296) (B : Nat) (w : World) (h0 : w.cell? ⟨B, 0, none⟩ = some (.int .u32 a)) (h1 : w.cell? ⟨B, 1, none⟩ = some (.int .u32 b)) :
    Calls Tryz.prog 216 #[.int .i64 2, .slice (some ⟨B, 0, none⟩) 2 2] w (NansP [a, b] w) := by
  refine Calls.mono (sum_Nans 2 (by decide) B [a, b] (by simp) w ?_ ?_) ?_
  · intro j hj
    have : j = 0 ∨ j = 1 := by simp at hj; omega
    rcases this with rfl | rfl
    · exact h0
    · exact h1
  · intro v hv; simp at hv; omega
  · rintro e w' ⟨rfl, hb⟩; exact ⟨⟨_, rfl⟩, hb⟩
theorem sum_Nans3 (a b c : Int) (a0 : 0 ≤ a) (a1 : a < 4294967296) (b0 : 0 ≤ b) (b1 : b < 4294967296) (c0 : 0 ≤ c) (c1 : c < 4294967296) (B : Nat) (w : World) (h0 : w.cell? ⟨B, 0, none⟩ = some (.int .u32 a)) (h1 : w.cell? ⟨B, 1, none⟩ = some (.int .u32 b)) (h2 : w.cell? ⟨B, 2, none⟩ = some (.int .u32 c)) :
    Calls Tryz.prog 216 #[.int .i64 2, .slice (some ⟨B, 0, none⟩) 3 3] w (NansP [a, b, c] w) := by
  refine Calls.mono (sum_Nans 2 (by decide) B [a, b, c] (by simp) w ?_ ?_) ?_
  · intro j hj
    have : j = 0 ∨ j = 1 ∨ j = 2 := by simp at hj; omega
    rcases this with rfl | rfl | rfl
    · exact h0
    · exact h1
    · exact h2
  · intro v hv; simp at hv; omega
  · rintro e w' ⟨rfl, hb⟩; exact ⟨⟨_, rfl⟩, hb⟩
theorem IsInf2 (v : Int) (h0 : 0 ≤ v) (h1 : v < 4294967296) (w : World) : Calls Tryz.prog 174 #[.int .i64 2, .int .u32 v] w fun e w' => e = .returned (.bool (isInf 2 v)) ∧ w = w' := format_IsInf 2 v (by decide) h0 h1 w
theorem IsZero2 (v : Int) (h0 : 0 ≤ v) (h1 : v < 4294967296) (w : World) : Calls Tryz.prog 151 #[.int .i64 2, .int .u32 v] w fun e w' => e = .returned (.bool (isZero 2 v)) ∧ w = w' := format_IsZero 2 v (by decide) h0 h1 w
set_option maxHeartbeats 4000000 in
theorem Add_nan (a b : Int) (a0 : 0 ≤ a) (a1 : a < 4294967296) (b0 : 0 ≤ b) (b1 : b < 4294967296) (hn : oneNan 2 [a, b] = true) (w : World) :
    Calls Tryz.prog 172 #[.int .i64 2, .int .i64 0, .int .u32 a, .int .u32 b] w (Num5 2143289344 w) := by
  go_enter Tryz.func172, Tryz.ntmps172
  go_wp2_with (first | (go_at_call 216; (with_reducible refine Calls.mono (sum_Nans2 a b a0 a1 b0 b1 _ _ (by simp [go_sem]) (by simp [go_sem])) ?_); rintro e w1 ⟨⟨q0, rfl⟩, hb⟩; obtain ⟨o0, d0, rfl⟩ := made hb; clear hb))
  go_region_held3 (fun w' => w'.cell? ⟨w.heap.size + 1 + 1 + o0.size, 0, none⟩ = some (.bool q0) ∧ w'.cell? ⟨w.heap.size + 1 + 1 + o0.size, 1, none⟩ = some (.bool false) ∧ w'.cell? ⟨w.heap.size + 1 + 1 + o0.size, 2, none⟩ = some (.bool false) ∧ w'.cell? ⟨w.heap.size + 1 + 1 + o0.size, 3, none⟩ = some (.bool false) ∧ w'.cell? ⟨w.heap.size + 1 + 1 + o0.size, 4, none⟩ = some (.bool false)) (simp [go_sem, World.cell?_alloc_past]) (first | fail)
  go_wp2
  refine bodyPost_ret (v := .tuple #[.int .u32 2143289344, .agg #[.bool q0, .bool false, .bool false, .bool false, .bool false]]) ?_ rfl ⟨⟨_, _, _, _, _, rfl⟩, by (repeat (first | exact Below.refl _ _ | (refine Below.drew ?_) | (refine Below.setCell ?_ (by simp [mk_size] <;> omega) _) | (refine Below.alloc ?_ (by simp [mk_size] <;> omega) _) | (refine below_mk ?_ (by simp [mk_size] <;> omega) _ _) | (refine Below.trans ?_ (Below.mono (by assumption) (by simp <;> omega)))))⟩
  simp [results, Tryz.results172, go_sem, *]
set_option maxHeartbeats 4000000 in
theorem Add_inf (a b : Int) (a0 : 0 ≤ a) (a1 : a < 4294967296) (b0 : 0 ≤ b) (b1 : b < 4294967296) (hn : oneNan 2 [a, b] = false) (x y : Bool) (hx : isInf 2 a = x) (hy : isInf 2 b = y) (hi : (x || y) = true) (w : World) :
    Calls Tryz.prog 172 #[.int .i64 2, .int .i64 0, .int .u32 a, .int .u32 b] w (Num5 (infS (pS 2 a) (pS 2 b) x y) w) := by
  generalize hV : infS (pS 2 a) (pS 2 b) x y = V
  replace hV := Lib.hid hV
  cases x <;> cases y <;> simp at hi
  all_goals
    go_enter Tryz.func172, Tryz.ntmps172
    go_wp2_with (first | (go_at_call 216; (with_reducible refine Calls.mono (sum_Nans2 a b a0 a1 b0 b1 _ _ (by simp [go_sem]) (by simp [go_sem])) ?_); rintro e w1 ⟨⟨q0, rfl⟩, hb⟩; obtain ⟨o0, d0, rfl⟩ := made hb; clear hb) | (go_at_call 174; (with_reducible refine Calls.mono (IsInf2 a a0 a1 _) ?_); rintro e w' ⟨rfl, rfl⟩) | (go_at_call 174; (with_reducible refine Calls.mono (IsInf2 b b0 b1 _) ?_); rintro e w' ⟨rfl, rfl⟩) | (go_at_call 152; (with_reducible refine Calls.mono (format_Neg 2 a (by decide) a0 a1 _) ?_); rintro e w' ⟨rfl, rfl⟩) | (go_at_call 152; (with_reducible refine Calls.mono (format_Neg 2 b (by decide) b0 b1 _) ?_); rintro e w' ⟨rfl, rfl⟩) | (go_at_call 229; (with_reducible refine Calls.mono (sum_Infinite _ _ _ _ _) ?_); rintro e w1 ⟨⟨p1, p2, p3, p4, p5, rfl⟩, hb⟩; obtain ⟨o1, d1, rfl⟩ := made hb; clear hb))
    (first | (refine bodyPost_ret (v := .tuple #[.int .u32 (V), .agg #[.bool false, .bool false, .bool false, .bool false, .bool false]]) ?_ rfl ?_; (focus (simp [results, Tryz.results172, go_sem, ← hV.out, *]; done)); exact ⟨⟨_, _, _, _, _, rfl⟩, by (repeat (first | exact Below.refl _ _ | (refine Below.drew ?_) | (refine Below.setCell ?_ (by simp [mk_size] <;> omega) _) | (refine Below.alloc ?_ (by simp [mk_size] <;> omega) _) | (refine below_mk ?_ (by simp [mk_size] <;> omega) _ _) | (refine Below.trans ?_ (Below.mono (by assumption) (by simp <;> omega)))))⟩) | (refine bodyPost_ret (v := .tuple #[.int .u32 (V), .agg #[.bool p1, .bool p2, .bool p3, .bool p4, .bool p5]]) ?_ rfl ?_; (focus (simp [results, Tryz.results172, go_sem, ← hV.out, *]; done)); exact ⟨⟨_, _, _, _, _, rfl⟩, by (repeat (first | exact Below.refl _ _ | (refine Below.drew ?_) | (refine Below.setCell ?_ (by simp [mk_size] <;> omega) _) | (refine Below.alloc ?_ (by simp [mk_size] <;> omega) _) | (refine below_mk ?_ (by simp [mk_size] <;> omega) _ _) | (refine Below.trans ?_ (Below.mono (by assumption) (by simp <;> omega)))))⟩) | (refine bodyPost_ret (v := .tuple #[.int .u32 (V), .agg #[.bool true, .bool false, .bool false, .bool false, .bool false]]) ?_ rfl ?_; (focus (simp [results, Tryz.results172, go_sem, ← hV.out, *]; done)); exact ⟨⟨_, _, _, _, _, rfl⟩, by (repeat (first | exact Below.refl _ _ | (refine Below.drew ?_) | (refine Below.setCell ?_ (by simp [mk_size] <;> omega) _) | (refine Below.alloc ?_ (by simp [mk_size] <;> omega) _) | (refine below_mk ?_ (by simp [mk_size] <;> omega) _ _) | (refine Below.trans ?_ (Below.mono (by assumption) (by simp <;> omega)))))⟩) | (refine bodyPost_ret (v := .tuple #[.int .u32 (V), .agg #[.bool false, .bool true, .bool false, .bool false, .bool false]]) ?_ rfl ?_; (focus (simp [results, Tryz.results172, go_sem, ← hV.out, *]; done)); exact ⟨⟨_, _, _, _, _, rfl⟩, by (repeat (first | exact Below.refl _ _ | (refine Below.drew ?_) | (refine Below.setCell ?_ (by simp [mk_size] <;> omega) _) | (refine Below.alloc ?_ (by simp [mk_size] <;> omega) _) | (refine below_mk ?_ (by simp [mk_size] <;> omega) _ _) | (refine Below.trans ?_ (Below.mono (by assumption) (by simp <;> omega)))))⟩))
set_option maxHeartbeats 4000000 in
theorem Add_fin (a b : Int) (a0 : 0 ≤ a) (a1 : a < 4294967296) (b0 : 0 ≤ b) (b1 : b < 4294967296) (hn : oneNan 2 [a, b] = false) (hx : isInf 2 a = false) (hy : isInf 2 b = false)
    (n1 n2 qn qm : Bool) (e1 s1 e2 s2 qe qs : Int) (u1 : 0 ≤ qs) (u2 : qs < 18446744073709551616) (u3 : -10000 ≤ qe) (u4 : qe ≤ 10000) (hz : qs = 0 → qm = false)
    (c1 : ∀ w, Calls Tryz.prog 222 #[.int .i64 2, .int .u32 a] w fun e w' => e = .returned (.agg #[.bool n1, .int .i64 e1, .int .u64 s1, .bool false]) ∧ Below w.heap.size w w')
    (c2 : ∀ w, Calls Tryz.prog 222 #[.int .i64 2, .int .u32 b] w fun e w' => e = .returned (.agg #[.bool n2, .int .i64 e2, .int .u64 s2, .bool false]) ∧ Below w.heap.size w w')
    (c3 : ∀ w, Calls Tryz.prog 230 #[.agg #[.bool n1, .int .i64 e1, .int .u64 s1, .bool false], .agg #[.bool n2, .int .i64 e2, .int .u64 s2, .bool false]] w fun e w' => e = .returned (.agg #[.bool qn, .int .i64 qe, .int .u64 qs, .bool qm]) ∧ Below w.heap.size w w')
    (w : World) :
    Calls Tryz.prog 172 #[.int .i64 2, .int .i64 0, .int .u32 a, .int .u32 b] w (Num5 (ndOr qn n1 n2 qe qs qm) w) := by
  have C1 := Lib.hid c1
  have C2 := Lib.hid c2
  have C3 := Lib.hid c3
  have HZ := Lib.hid hz
  clear c1 c2 c3 hz
  generalize hV : ndOr qn n1 n2 qe qs qm = V
  replace hV := Lib.hid hV
  by_cases h0 : qs = 0
  · obtain rfl := HZ.out h0
    subst h0
    go_enter Tryz.func172, Tryz.ntmps172
    go_wp2_with (first | (go_at_call 216; (with_reducible refine Calls.mono (sum_Nans2 a b a0 a1 b0 b1 _ _ (by simp [go_sem]) (by simp [go_sem])) ?_); rintro e w1 ⟨⟨q0, rfl⟩, hb⟩; obtain ⟨o0, d0, rfl⟩ := made hb; clear hb) | (go_at_call 174; (with_reducible refine Calls.mono (IsInf2 a a0 a1 _) ?_); rintro e w' ⟨rfl, rfl⟩) | (go_at_call 174; (with_reducible refine Calls.mono (IsInf2 b b0 b1 _) ?_); rintro e w' ⟨rfl, rfl⟩) | (go_at_call 152; (with_reducible refine Calls.mono (format_Neg 2 a (by decide) a0 a1 _) ?_); rintro e w' ⟨rfl, rfl⟩) | (go_at_call 152; (with_reducible refine Calls.mono (format_Neg 2 b (by decide) b0 b1 _) ?_); rintro e w' ⟨rfl, rfl⟩) | (go_at_call 222; (with_reducible refine Calls.mono (C1.out _) ?_); rintro e w1 ⟨rfl, hb⟩; obtain ⟨o1, d1, rfl⟩ := made hb; clear hb) | (go_at_call 222; (with_reducible refine Calls.mono (C2.out _) ?_); rintro e w1 ⟨rfl, hb⟩; obtain ⟨o1, d1, rfl⟩ := made hb; clear hb) | (go_at_call 230; (with_reducible refine Calls.mono (C3.out _) ?_); rintro e w1 ⟨rfl, hb⟩; obtain ⟨o1, d1, rfl⟩ := made hb; clear hb) | (go_at_call 231; (with_reducible refine Calls.mono (sum_Nought' n1 n2 _) ?_); rintro e w' ⟨rfl, rfl⟩))
    (first | (refine bodyPost_ret (v := .tuple #[.int .u32 (V), .agg #[.bool false, .bool false, .bool false, .bool false, .bool false]]) ?_ rfl ?_; (focus (simp [results, Tryz.results172, go_sem, ← hV.out, ndOr, *]; done)); exact ⟨⟨_, _, _, _, _, rfl⟩, by (repeat (first | exact Below.refl _ _ | (refine Below.drew ?_) | (refine Below.setCell ?_ (by simp [mk_size] <;> omega) _) | (refine Below.alloc ?_ (by simp [mk_size] <;> omega) _) | (refine below_mk ?_ (by simp [mk_size] <;> omega) _ _) | (refine Below.trans ?_ (Below.mono (by assumption) (by simp <;> omega)))))⟩) | (refine bodyPost_ret (v := .tuple #[.int .u32 (V), .agg #[.bool p1, .bool p2, .bool p3, .bool p4, .bool p5]]) ?_ rfl ?_; (focus (simp [results, Tryz.results172, go_sem, ← hV.out, ndOr, *]; done)); exact ⟨⟨_, _, _, _, _, rfl⟩, by (repeat (first | exact Below.refl _ _ | (refine Below.drew ?_) | (refine Below.setCell ?_ (by simp [mk_size] <;> omega) _) | (refine Below.alloc ?_ (by simp [mk_size] <;> omega) _) | (refine below_mk ?_ (by simp [mk_size] <;> omega) _ _) | (refine Below.trans ?_ (Below.mono (by assumption) (by simp <;> omega)))))⟩) | (refine bodyPost_ret (v := .tuple #[.int .u32 (V), .agg #[.bool true, .bool false, .bool false, .bool false, .bool false]]) ?_ rfl ?_; (focus (simp [results, Tryz.results172, go_sem, ← hV.out, ndOr, *]; done)); exact ⟨⟨_, _, _, _, _, rfl⟩, by (repeat (first | exact Below.refl _ _ | (refine Below.drew ?_) | (refine Below.setCell ?_ (by simp [mk_size] <;> omega) _) | (refine Below.alloc ?_ (by simp [mk_size] <;> omega) _) | (refine below_mk ?_ (by simp [mk_size] <;> omega) _ _) | (refine Below.trans ?_ (Below.mono (by assumption) (by simp <;> omega)))))⟩) | (refine bodyPost_ret (v := .tuple #[.int .u32 (V), .agg #[.bool false, .bool true, .bool false, .bool false, .bool false]]) ?_ rfl ?_; (focus (simp [results, Tryz.results172, go_sem, ← hV.out, ndOr, *]; done)); exact ⟨⟨_, _, _, _, _, rfl⟩, by (repeat (first | exact Below.refl _ _ | (refine Below.drew ?_) | (refine Below.setCell ?_ (by simp [mk_size] <;> omega) _) | (refine Below.alloc ?_ (by simp [mk_size] <;> omega) _) | (refine below_mk ?_ (by simp [mk_size] <;> omega) _ _) | (refine Below.trans ?_ (Below.mono (by assumption) (by simp <;> omega)))))⟩))
  · have h1 : (qs == 0) = false := by simpa using h0
    go_enter Tryz.func172, Tryz.ntmps172
    go_wp2_with (first | (go_at_call 216; (with_reducible refine Calls.mono (sum_Nans2 a b a0 a1 b0 b1 _ _ (by simp [go_sem]) (by simp [go_sem])) ?_); rintro e w1 ⟨⟨q0, rfl⟩, hb⟩; obtain ⟨o0, d0, rfl⟩ := made hb; clear hb) | (go_at_call 174; (with_reducible refine Calls.mono (IsInf2 a a0 a1 _) ?_); rintro e w' ⟨rfl, rfl⟩) | (go_at_call 174; (with_reducible refine Calls.mono (IsInf2 b b0 b1 _) ?_); rintro e w' ⟨rfl, rfl⟩) | (go_at_call 152; (with_reducible refine Calls.mono (format_Neg 2 a (by decide) a0 a1 _) ?_); rintro e w' ⟨rfl, rfl⟩) | (go_at_call 152; (with_reducible refine Calls.mono (format_Neg 2 b (by decide) b0 b1 _) ?_); rintro e w' ⟨rfl, rfl⟩) | (go_at_call 222; (with_reducible refine Calls.mono (C1.out _) ?_); rintro e w1 ⟨rfl, hb⟩; obtain ⟨o1, d1, rfl⟩ := made hb; clear hb) | (go_at_call 222; (with_reducible refine Calls.mono (C2.out _) ?_); rintro e w1 ⟨rfl, hb⟩; obtain ⟨o1, d1, rfl⟩ := made hb; clear hb) | (go_at_call 230; (with_reducible refine Calls.mono (C3.out _) ?_); rintro e w1 ⟨rfl, hb⟩; obtain ⟨o1, d1, rfl⟩ := made hb; clear hb) | (go_at_call 220; (with_reducible refine Calls.mono ((round_Pack2 qn qm qe qs u1 u2 (fun h => absurd h h0) u3 u4 _).mono fun _ _ h => h.five) ?_); rintro e w1 ⟨⟨p1, p2, p3, p4, p5, rfl⟩, hb⟩; obtain ⟨o1, d1, rfl⟩ := made hb; clear hb))
    (first | (refine bodyPost_ret (v := .tuple #[.int .u32 (V), .agg #[.bool false, .bool false, .bool false, .bool false, .bool false]]) ?_ rfl ?_; (focus (simp [results, Tryz.results172, go_sem, ← hV.out, ndOr, *]; done)); exact ⟨⟨_, _, _, _, _, rfl⟩, by (repeat (first | exact Below.refl _ _ | (refine Below.drew ?_) | (refine Below.setCell ?_ (by simp [mk_size] <;> omega) _) | (refine Below.alloc ?_ (by simp [mk_size] <;> omega) _) | (refine below_mk ?_ (by simp [mk_size] <;> omega) _ _) | (refine Below.trans ?_ (Below.mono (by assumption) (by simp <;> omega)))))⟩) | (refine bodyPost_ret (v := .tuple #[.int .u32 (V), .agg #[.bool p1, .bool p2, .bool p3, .bool p4, .bool p5]]) ?_ rfl ?_; (focus (simp [results, Tryz.results172, go_sem, ← hV.out, ndOr, *]; done)); exact ⟨⟨_, _, _, _, _, rfl⟩, by (repeat (first | exact Below.refl _ _ | (refine Below.drew ?_) | (refine Below.setCell ?_ (by simp [mk_size] <;> omega) _) | (refine Below.alloc ?_ (by simp [mk_size] <;> omega) _) | (refine below_mk ?_ (by simp [mk_size] <;> omega) _ _) | (refine Below.trans ?_ (Below.mono (by assumption) (by simp <;> omega)))))⟩) | (refine bodyPost_ret (v := .tuple #[.int .u32 (V), .agg #[.bool true, .bool false, .bool false, .bool false, .bool false]]) ?_ rfl ?_; (focus (simp [results, Tryz.results172, go_sem, ← hV.out, ndOr, *]; done)); exact ⟨⟨_, _, _, _, _, rfl⟩, by (repeat (first | exact Below.refl _ _ | (refine Below.drew ?_) | (refine Below.setCell ?_ (by simp [mk_size] <;> omega) _) | (refine Below.alloc ?_ (by simp [mk_size] <;> omega) _) | (refine below_mk ?_ (by simp [mk_size] <;> omega) _ _) | (refine Below.trans ?_ (Below.mono (by assumption) (by simp <;> omega)))))⟩) | (refine bodyPost_ret (v := .tuple #[.int .u32 (V), .agg #[.bool false, .bool true, .bool false, .bool false, .bool false]]) ?_ rfl ?_; (focus (simp [results, Tryz.results172, go_sem, ← hV.out, ndOr, *]; done)); exact ⟨⟨_, _, _, _, _, rfl⟩, by (repeat (first | exact Below.refl _ _ | (refine Below.drew ?_) | (refine Below.setCell ?_ (by simp [mk_size] <;> omega) _) | (refine Below.alloc ?_ (by simp [mk_size] <;> omega) _) | (refine below_mk ?_ (by simp [mk_size] <;> omega) _ _) | (refine Below.trans ?_ (Below.mono (by assumption) (by simp <;> omega)))))⟩))
theorem nrm_le (s : Int) (h0 : 0 < s) (h1 : s < 281474976710656) : nrm s ≤ 4611686018427371520 := by
  obtain ⟨b1, b2, b3⟩ := bl_spec s h0
  obtain ⟨N, rfl⟩ := Int.eq_ofNat_of_zero_le (Int.le_of_lt h0)
  rw [Int.toNat_natCast] at *
  have hl : N.log2 < 48 := (Nat.log2_lt (by omega)).mpr (by omega)
  have e : (62 - bl (N : Int)).toNat = 61 - N.log2 := by omega
  have e2 : nrm N = ((N * 2 ^ (61 - N.log2) : Nat) : Int) := by unfold nrm; rw [e]; simp
  have k2 : (N + 1) * 2 ^ (61 - N.log2) ≤ 2 ^ (N.log2 + 1) * 2 ^ (61 - N.log2) := Nat.mul_le_mul_right _ b3
  rw [← Nat.pow_add, show N.log2 + 1 + (61 - N.log2) = 62 by omega, Nat.succ_mul] at k2
  have k3 : 2 ^ 14 ≤ 2 ^ (61 - N.log2) := Nat.pow_le_pow_right (by decide) (by omega)
  rw [e2]; omega
theorem shV_half (B d : Int) (b0 : 0 ≤ B) (b1 : B < 18446744073709551616) (h : 0 < d) : shV B d * 2 ≤ B := by
  obtain ⟨N, rfl⟩ := Int.eq_ofNat_of_zero_le b0
  obtain ⟨k, rfl⟩ := Int.eq_ofNat_of_zero_le (show 0 ≤ d by omega)
  have hN : N < 18446744073709551616 := by omega
  rw [shV_nat N k hN]
  have h3 : N / 2 ^ k ≤ N / 2 ^ 1 := Nat.div_le_div_left (Nat.pow_le_pow_right (by decide) (by omega)) (by decide)
  omega
theorem exS_more (l : Bool) (A B d : Int) (a0 : 2305843009213693952 ≤ A) (b0 : 2305843009213693952 ≤ B) (b1 : B ≤ 4611686018427371520) (h : 0 < d ∨ (d = 0 ∧ B ≤ A)) :
    exS l (shB B d) A (shV B d) = 0 → shB B d = false := by
  obtain ⟨k1, k2, k3⟩ := shV_le A B d a0 b0 (by omega) h
  intro hs
  cases hb : shB B d
  · rfl
  · exfalso
    rw [hb] at hs
    have h2 : shV B d * 2 ≤ B := by
      rcases h with h | ⟨h, h2⟩
      · exact shV_half B d (by omega) (by omega) h
      · subst h; simp [shB] at hb
    simp only [exS] at hs
    (repeat' split at hs) <;> omega
theorem exQ_more (n1 n2 : Bool) (e1 s1 e2 s2 : Int) (h1 : 0 ≤ s1) (h2 : s1 < 281474976710656) (h3 : 0 ≤ s2) (h4 : s2 < 281474976710656) :
    (exQ n1 e1 s1 n2 e2 s2).2.2.1 = 0 → (exQ n1 e1 s1 n2 e2 s2).2.2.2 = false := by
  unfold exQ
  by_cases c1 : s1 = 0
  · rw [if_pos c1]; simp
  by_cases c2 : s2 = 0
  · rw [if_neg c1, if_pos c2]; simp
  rw [if_neg c1, if_neg c2]
  obtain ⟨l1, l2, l3, l4⟩ := nrm_range s1 (by omega) (by omega)
  obtain ⟨m1, m2, m3, m4⟩ := nrm_range s2 (by omega) (by omega)
  have l5 := nrm_le s1 (by omega) h2
  have m5 := nrm_le s2 (by omega) h4
  by_cases c : e1 - (62 - bl s1) < e2 - (62 - bl s2) ∨ (e1 - (62 - bl s1) = e2 - (62 - bl s2) ∧ nrm s1 < nrm s2)
  · rw [if_pos c]
    exact exS_more _ _ _ _ m3 l3 l5 (by omega)
  · rw [if_neg c]
    exact exS_more _ _ _ _ l3 m3 m5 (by omega)
theorem sum_Add (a b : Int) (a0 : 0 ≤ a) (a1 : a < 4294967296) (b0 : 0 ≤ b) (b1 : b < 4294967296) (w : World) :
    Calls Tryz.prog 172 #[.int .i64 2, .int .i64 0, .int .u32 a, .int .u32 b] w (Num5 (fadd a b) w) := by
  unfold fadd
  cases hn : oneNan 2 [a, b]
  · rw [if_neg (by decide)]
    cases hx : isInf 2 a <;> cases hy : isInf 2 b
    · obtain ⟨p1, p2⟩ := uS_range a
      obtain ⟨p3, p4⟩ := uS_range b
      obtain ⟨p5, p6⟩ := uE_range a
      obtain ⟨p7, p8⟩ := uE_range b
      obtain ⟨r1, r2, r3, r4⟩ := exQ_range (pS 2 a) (pS 2 b) (uE 2 a) (uS 2 a) (uE 2 b) (uS 2 b) p1 (by omega) p3 (by omega) (by omega) (by omega) (by omega) (by omega)
      exact Add_fin a b a0 a1 b0 b1 hn hx hy (pS 2 a) (pS 2 b) _ _ (uE 2 a) (uS 2 a) (uE 2 b) (uS 2 b) _ _ r1 r2 r3 r4 (exQ_more _ _ _ _ _ _ p1 (by omega) p3 (by omega))
        (sum_Of 2 a (by decide) a0 a1) (sum_Of 2 b (by decide) b0 b1) (sum_Exact _ _ _ _ _ _ p1 (by omega) p3 (by omega) (by omega) (by omega) (by omega) (by omega)) w
    · exact Add_inf a b a0 a1 b0 b1 hn _ _ hx hy rfl w
    · exact Add_inf a b a0 a1 b0 b1 hn _ _ hx hy rfl w
    · exact Add_inf a b a0 a1 b0 b1 hn _ _ hx hy rfl w
  · rw [if_pos rfl]
    exact Add_nan a b a0 a1 b0 b1 hn w
end Go.Proofs.YtkpfefpmdjjhjaaGreat
