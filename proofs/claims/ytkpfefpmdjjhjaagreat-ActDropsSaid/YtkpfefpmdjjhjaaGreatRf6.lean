/- The walk of annealref1.Div. -/
import Derived.Test.YtkpfefpmdjjhjaaGreatRf5
import Derived.Test.YtkpfefpmdjjhjaaGreatMk
import Derived.Test.YtkpfefpmdjjhjaaGreatAr4
import Derived.Test.YtkpfefpmdjjhjaaGreatAdd
import Derived.Lib.Hide
namespace Go.Proofs.YtkpfefpmdjjhjaaGreat
open Go.RowKit Anneal
set_option linter.unusedSimpArgs false
set_option linter.unusedVariables false
attribute [local go_sem] mk_size mk_cell mk_frozen mk_set mk_drew drew_mk lt_inst le_inst
/-- two results of nans -/
theorem r1_nans1 (a : Int) (a0 : 0 ≤ a) (a1 : a < 4294967296) (B : Nat) (w : World) (hB : B < w.heap.size) (h0 : w.cell? ⟨B, 0, none⟩ = some (.int .u32 a)) :
    Calls Tryz.prog 126 #[.int .i64 2, .slice (some ⟨B, 0, none⟩) 1 1] w fun e w' => e = .returned (.tuple #[.bool (oneNan 2 [a]), .bool (oneSig 2 [a])]) ∧ Below w.heap.size w w' := by
  refine r1_nans 2 (by decide) B [a] (by simp) w hB ?_ ?_
  · intro j hj; obtain rfl : j = 0 := by simp at hj; omega
    exact h0
  · intro v hv; simp at hv; omega
theorem r1_nans2 (a b : Int) (a0 : 0 ≤ a) (a1 : a < 4294967296) (b0 : 0 ≤ b) (b1 : b < 4294967296) (B : Nat) (w : World) (hB : B < w.heap.size) (h0 : w.cell? ⟨B, 0, none⟩ = some (.int .u32 a)) (h1 : w.cell? ⟨B, 1, none⟩ = some (.int .u32 b)) :
    Calls Tryz.prog 126 #[.int .i64 2, .slice (some ⟨B, 0, none⟩) 2 2] w fun e w' => e = .returned (.tuple #[.bool (oneNan 2 [a, b]), .bool (oneSig 2 [a, b])]) ∧ Below w.heap.size w w' := by
  refine r1_nans 2 (by decide) B [a, b] (by simp) w hB ?_ ?_
  · intro j hj
    have : j = 0 ∨ j = 1 := by simp at hj; omega
    rcases this with rfl | rfl
    · exact h0
    · exact h1
  · intro v hv; simp at hv; omega
theorem r1_nans3 (a b c : Int) (a0 : 0 ≤ a) (a1 : a < 4294967296) (b0 : 0 ≤ b) (b1 : b < 4294967296) (c0 : 0 ≤ c) (c1 : c < 4294967296) (B : Nat) (w : World) (hB : B < w.heap.size) (h0 : w.cell? ⟨B, 0, none⟩ = some (.int .u32 a)) (h1 : w.cell? ⟨B, 1, none⟩ = some (.int .u32 b)) (h2 : w.cell? ⟨B, 2, none⟩ = some (.int .u32 c)) :
    Calls Tryz.prog 126 #[.int .i64 2, .slice (some ⟨B, 0, none⟩) 3 3] w fun e w' => e = .returned (.tuple #[.bool (oneNan 2 [a, b, c]), .bool (oneSig 2 [a, b, c])]) ∧ Below w.heap.size w w' := by
  refine r1_nans 2 (by decide) B [a, b, c] (by simp) w hB ?_ ?_
  · intro j hj
    have : j = 0 ∨ j = 1 ∨ j = 2 := by simp at hj; omega
    rcases this with rfl | rfl | rfl
    · exact h0
    · exact h1
    · exact h2
  · intro v hv; simp at hv; omega
set_option maxHeartbeats 4000000 in
theorem r1Div_nan (a b : Int) (a0 : 0 ≤ a) (a1 : a < 4294967296) (b0 : 0 ≤ b) (b1 : b < 4294967296) (hn : oneNan 2 [a, b] = true) (w : World) :
    Calls Tryz.prog 109 #[.int .i64 2, .int .i64 0, .int .u32 a, .int .u32 b] w (Num5 2143289344 w) := by
  generalize hs : oneSig 2 [a, b] = s
  go_enter Tryz.func109, Tryz.ntmps109
  go_wp2_with (first | (go_at_call 126; (with_reducible refine Calls.mono (r1_nans2 a b a0 a1 b0 b1 _ _ (by simp [go_sem]) (by simp [go_sem]) (by simp [go_sem])) ?_); rintro e w1 ⟨rfl, hb⟩; obtain ⟨o1, d1, rfl⟩ := made hb; clear hb) | (go_at_call 70; (with_reducible refine Calls.mono (r1_Nan2 _) ?_); rintro e w1 ⟨rfl, hb⟩; obtain ⟨o1, d1, rfl⟩ := made hb; clear hb))
  refine bodyPost_ret (v := .tuple #[.int .u32 2143289344, .agg #[.bool s, .bool false, .bool false, .bool false, .bool false]]) ?_ rfl ⟨⟨_, _, _, _, _, rfl⟩, by (repeat (first | exact Below.refl _ _ | (refine Below.drew ?_) | (refine Below.setCell ?_ (by simp [mk_size] <;> omega) _) | (refine Below.alloc ?_ (by simp [mk_size] <;> omega) _) | (refine below_mk ?_ (by simp [mk_size] <;> omega) _ _) | (refine Below.trans ?_ (Below.mono (by assumption) (by simp <;> omega)))))⟩
  simp [results, Tryz.results109, go_sem, *]
/-- what is told where one is a nought or an infinity -/
def divR (za ia zb ib s : Bool) : Int :=
  if za && zb || ia && ib then 2143289344 else if ia then fInf 2 s else if ib || za then sgB 2 s else fInf 2 s
set_option maxHeartbeats 4000000 in
theorem r1Div_odd (a b : Int) (a0 : 0 ≤ a) (a1 : a < 4294967296) (b0 : 0 ≤ b) (b1 : b < 4294967296) (hn : oneNan 2 [a, b] = false) (za ia zb ib : Bool) (h1 : isZero 2 a = za) (h2 : isInf 2 a = ia) (h3 : isZero 2 b = zb) (h4 : isInf 2 b = ib) (ho : (za || ia || zb || ib) = true) (ha : (za && ia) = false) (hb : (zb && ib) = false) (w : World) :
    Calls Tryz.prog 109 #[.int .i64 2, .int .i64 0, .int .u32 a, .int .u32 b] w (Num5 (divR za ia zb ib (!(pS 2 a == pS 2 b))) w) := by
  generalize hV : divR za ia zb ib (!(pS 2 a == pS 2 b)) = V
  replace hV := Lib.hid hV
  cases za <;> cases ia <;> cases zb <;> cases ib <;> simp at ho ha hb
  all_goals
    go_enter Tryz.func109, Tryz.ntmps109
    go_wp2_with (first | (go_at_call 126; (with_reducible refine Calls.mono (r1_nans2 a b a0 a1 b0 b1 _ _ (by simp [go_sem]) (by simp [go_sem]) (by simp [go_sem])) ?_); rintro e w1 ⟨rfl, hb⟩; obtain ⟨o1, d1, rfl⟩ := made hb; clear hb) | (go_at_call 129; (with_reducible refine Calls.mono (r1_neg 2 a (by decide) a0 a1 _) ?_); rintro e w1 ⟨rfl, hb⟩; obtain ⟨o1, d1, rfl⟩ := made hb; clear hb) | (go_at_call 129; (with_reducible refine Calls.mono (r1_neg 2 b (by decide) b0 b1 _) ?_); rintro e w1 ⟨rfl, hb⟩; obtain ⟨o1, d1, rfl⟩ := made hb; clear hb) | (go_at_call 127; (with_reducible refine Calls.mono (r1_inf 2 a (by decide) a0 a1 _) ?_); rintro e w1 ⟨rfl, hb⟩; obtain ⟨o1, d1, rfl⟩ := made hb; clear hb) | (go_at_call 127; (with_reducible refine Calls.mono (r1_inf 2 b (by decide) b0 b1 _) ?_); rintro e w1 ⟨rfl, hb⟩; obtain ⟨o1, d1, rfl⟩ := made hb; clear hb) | (go_at_call 188; (with_reducible refine Calls.mono (r1_zero 2 a (by decide) a0 a1 _) ?_); rintro e w1 ⟨rfl, hb⟩; obtain ⟨o1, d1, rfl⟩ := made hb; clear hb) | (go_at_call 188; (with_reducible refine Calls.mono (r1_zero 2 b (by decide) b0 b1 _) ?_); rintro e w1 ⟨rfl, hb⟩; obtain ⟨o1, d1, rfl⟩ := made hb; clear hb) | (go_at_call 70; (with_reducible refine Calls.mono (r1_Nan2 _) ?_); rintro e w1 ⟨rfl, hb⟩; obtain ⟨o1, d1, rfl⟩ := made hb; clear hb) | (go_at_call 128; (with_reducible refine Calls.mono (r1_Inf 2 _ (by decide) _) ?_); rintro e w1 ⟨rfl, hb⟩; obtain ⟨o1, d1, rfl⟩ := made hb; clear hb) | (go_at_call 63; (with_reducible refine Calls.mono (r1_Zero 2 _ (by decide) _) ?_); rintro e w' ⟨rfl, rfl⟩))
    (first | (refine bodyPost_ret (v := .tuple #[.int .u32 (V), .agg #[.bool false, .bool false, .bool false, .bool false, .bool false]]) ?_ rfl ?_; (focus (simp [results, Tryz.results109, go_sem, ← hV.out, divR, *]; done)); exact ⟨⟨_, _, _, _, _, rfl⟩, by (repeat (first | exact Below.refl _ _ | (refine Below.drew ?_) | (refine Below.setCell ?_ (by simp [mk_size] <;> omega) _) | (refine Below.alloc ?_ (by simp [mk_size] <;> omega) _) | (refine below_mk ?_ (by simp [mk_size] <;> omega) _ _) | (refine Below.trans ?_ (Below.mono (by assumption) (by simp <;> omega)))))⟩) | (refine bodyPost_ret (v := .tuple #[.int .u32 (V), .agg #[.bool p1, .bool p2, .bool p3, .bool p4, .bool p5]]) ?_ rfl ?_; (focus (simp [results, Tryz.results109, go_sem, ← hV.out, divR, *]; done)); exact ⟨⟨_, _, _, _, _, rfl⟩, by (repeat (first | exact Below.refl _ _ | (refine Below.drew ?_) | (refine Below.setCell ?_ (by simp [mk_size] <;> omega) _) | (refine Below.alloc ?_ (by simp [mk_size] <;> omega) _) | (refine below_mk ?_ (by simp [mk_size] <;> omega) _ _) | (refine Below.trans ?_ (Below.mono (by assumption) (by simp <;> omega)))))⟩) | (refine bodyPost_ret (v := .tuple #[.int .u32 (V), .agg #[.bool true, .bool false, .bool false, .bool false, .bool false]]) ?_ rfl ?_; (focus (simp [results, Tryz.results109, go_sem, ← hV.out, divR, *]; done)); exact ⟨⟨_, _, _, _, _, rfl⟩, by (repeat (first | exact Below.refl _ _ | (refine Below.drew ?_) | (refine Below.setCell ?_ (by simp [mk_size] <;> omega) _) | (refine Below.alloc ?_ (by simp [mk_size] <;> omega) _) | (refine below_mk ?_ (by simp [mk_size] <;> omega) _ _) | (refine Below.trans ?_ (Below.mono (by assumption) (by simp <;> omega)))))⟩) | (refine bodyPost_ret (v := .tuple #[.int .u32 (V), .agg #[.bool false, .bool true, .bool false, .bool false, .bool false]]) ?_ rfl ?_; (focus (simp [results, Tryz.results109, go_sem, ← hV.out, divR, *]; done)); exact ⟨⟨_, _, _, _, _, rfl⟩, by (repeat (first | exact Below.refl _ _ | (refine Below.drew ?_) | (refine Below.setCell ?_ (by simp [mk_size] <;> omega) _) | (refine Below.alloc ?_ (by simp [mk_size] <;> omega) _) | (refine below_mk ?_ (by simp [mk_size] <;> omega) _ _) | (refine Below.trans ?_ (Below.mono (by assumption) (by simp <;> omega)))))⟩))
end Go.Proofs.YtkpfefpmdjjhjaaGreat
