/- The walks of sum.Nought, Infinite, Exact, Add, Sub at singles. -/
import Derived.Test.YtkpfefpmdjjhjaaGreatEx2
import Derived.Test.YtkpfefpmdjjhjaaGreatPac2
import Derived.Test.YtkpfefpmdjjhjaaGreatMk
namespace Go.Proofs.YtkpfefpmdjjhjaaGreat
open Go.RowKit Anneal
set_option linter.unusedSimpArgs false
set_option linter.unusedVariables false
theorem round_Pack2 (neg more : Bool) (exp sig : Int) (h0 : 0 ≤ sig) (h1 : sig < 18446744073709551616) (hm : sig = 0 → more = false) (b1 : -10000 ≤ exp) (b2 : exp ≤ 10000) (w : World) :
    Calls Tryz.prog 220 #[.int .i64 2, .int .i64 0, .bool neg, .int .i64 exp, .int .u64 sig, .bool more] w (Num (pack 2 neg exp sig more) w) := by
  rcases Int.lt_or_eq_of_le h0 with hs | hs
  · obtain ⟨l0, l1⟩ := bl_range sig h0 h1
    have hf : Fm 2 := by decide
    obtain ⟨q0, q9, _⟩ := qU_range 2 exp sig hf hs h1
    have u1 : -149 ≤ unI 2 exp sig := by simp only [unI, leastE, mW]; simp [hs]; omega
    have u2 : unI 2 exp sig ≤ 10064 := by simp only [unI, leastE, mW]; simp [hs]; omega
    have cU := round_Unit 2 exp sig hf h0 h1 (by omega) (by omega)
    have cN := round_Units sig (unI 2 exp sig - exp) more h0 h1 (by omega) (by omega)
    have cP := round_Up neg (qU 2 exp sig) (uL sig (unI 2 exp sig - exp) more) q0 (by simp only [mP] at q9; simp at q9; omega)
    have cL := bits_Len sig h0 h1
    have hV : Says 2 neg (pack 2 neg exp sig more) (q1 2 exp sig more) (unI 2 exp sig) := fun q un h => pack_eq 2 neg exp sig more hf hs h1 q un h
    have q9' : qU 2 exp sig < 16777216 := q9
    cases hu : upN (qU 2 exp sig) (uL sig (unI 2 exp sig - exp) more)
    · have e : q1 2 exp sig more = qU 2 exp sig := by unfold q1; rw [hu]; rfl
      rw [e] at hV; rw [hu] at cP
      by_cases hL : uL sig (unI 2 exp sig - exp) more = 0
      · exact Pack_core2af exp sig _ _ _ _ neg more hL hs h1 b1 b2 u1 u2 q0 q9' l0 l1 cU cN cP cL hV w
      · exact Pack_core2bf exp sig _ _ _ _ neg more hL hs h1 b1 b2 u1 u2 q0 q9' l0 l1 cU cN cP cL hV w
    · have e : q1 2 exp sig more = qU 2 exp sig + 1 := by unfold q1; rw [hu]; rfl
      rw [e] at hV; rw [hu] at cP
      by_cases hL : uL sig (unI 2 exp sig - exp) more = 0
      · exact Pack_core2at exp sig _ _ _ _ neg more hL hs h1 b1 b2 u1 u2 q0 q9' l0 l1 cU cN cP cL hV w
      · exact Pack_core2bt exp sig _ _ _ _ neg more hL hs h1 b1 b2 u1 u2 q0 q9' l0 l1 cU cN cP cL hV w
  · subst hs
    rw [hm rfl]
    exact Pack_nought 2 exp neg (by decide) b1 b2 w

attribute [local go_sem] mk_size mk_cell mk_frozen mk_set mk_drew drew_mk lt_inst le_inst
/-- a number, whatever happened beside it -/
def Num5 (v : Int) (w : World) (e : Ending) (w' : World) : Prop := (∃ a b c d f : Bool, e = .returned (.tuple #[.int .u32 v, .agg #[.bool a, .bool b, .bool c, .bool d, .bool f]])) ∧ Below w.heap.size w w'
theorem Num.five {v : Int} {w : World} {e : Ending} {w' : World} (h : Num v w e w') : Num5 v w e w' := by
  obtain ⟨⟨a, b, c, h1⟩, h2⟩ := h
  exact ⟨⟨_, _, _, _, _, h1⟩, h2⟩
theorem sum_Nought (a b : Bool) (w : World) : Calls Tryz.prog 231 #[.int .i64 2, .int .i64 0, .bool a, .bool b] w fun e w' => e = .returned (.int .u32 (if a && b then 2147483648 else 0)) ∧ w = w' := by
  cases a <;> cases b
  all_goals
    go_enter Tryz.func231, Tryz.ntmps231
    go_wp2_with (go_at_call 223; (with_reducible refine Calls.mono (format_Zero 2 _ (by decide) _) ?_); rintro e w' ⟨rfl, rfl⟩)
    go_ret
    exact ⟨rfl, rfl⟩
set_option maxHeartbeats 2000000 in
theorem sum_Infinite (a b x y : Bool) (w : World) : Calls Tryz.prog 229 #[.int .i64 2, .bool a, .bool b, .bool x, .bool y] w (Num5 (infS a b x y) w) := by
  generalize hV : infS a b x y = V
  replace hV := Lib.hid hV
  cases a <;> cases b <;> cases x <;> cases y
  all_goals
    go_enter Tryz.func229, Tryz.ntmps229
    go_wp2_with (first | (go_at_call 173; (with_reducible refine Calls.mono (format_Inf 2 _ (by decide) _) ?_); rintro e w' ⟨rfl, rfl⟩) | (go_at_call 218; (with_reducible refine Calls.mono (sum_Bad 2 (by decide) _) ?_); rintro e w1 ⟨rfl, hb⟩; obtain ⟨o1, d1, rfl⟩ := made hb; clear hb))
    (first | (refine bodyPost_ret (v := .tuple #[.int .u32 (V), .agg #[.bool false, .bool false, .bool false, .bool false, .bool false]]) ?_ rfl ?_; (focus (simp [results, Tryz.results229, go_sem, ← hV.out, infS, fNan, fInf, mP, eP, *]; done)); exact ⟨⟨_, _, _, _, _, rfl⟩, by (repeat (first | exact Below.refl _ _ | (refine Below.drew ?_) | (refine Below.setCell ?_ (by simp [mk_size] <;> omega) _) | (refine Below.alloc ?_ (by simp [mk_size] <;> omega) _) | (refine below_mk ?_ (by simp [mk_size] <;> omega) _ _) | (refine Below.trans ?_ (Below.mono (by assumption) (by simp <;> omega)))))⟩) | (refine bodyPost_ret (v := .tuple #[.int .u32 (V), .agg #[.bool p1, .bool p2, .bool p3, .bool p4, .bool p5]]) ?_ rfl ?_; (focus (simp [results, Tryz.results229, go_sem, ← hV.out, infS, fNan, fInf, mP, eP, *]; done)); exact ⟨⟨_, _, _, _, _, rfl⟩, by (repeat (first | exact Below.refl _ _ | (refine Below.drew ?_) | (refine Below.setCell ?_ (by simp [mk_size] <;> omega) _) | (refine Below.alloc ?_ (by simp [mk_size] <;> omega) _) | (refine below_mk ?_ (by simp [mk_size] <;> omega) _ _) | (refine Below.trans ?_ (Below.mono (by assumption) (by simp <;> omega)))))⟩) | (refine bodyPost_ret (v := .tuple #[.int .u32 (V), .agg #[.bool true, .bool false, .bool false, .bool false, .bool false]]) ?_ rfl ?_; (focus (simp [results, Tryz.results229, go_sem, ← hV.out, infS, fNan, fInf, mP, eP, *]; done)); exact ⟨⟨_, _, _, _, _, rfl⟩, by (repeat (first | exact Below.refl _ _ | (refine Below.drew ?_) | (refine Below.setCell ?_ (by simp [mk_size] <;> omega) _) | (refine Below.alloc ?_ (by simp [mk_size] <;> omega) _) | (refine below_mk ?_ (by simp [mk_size] <;> omega) _ _) | (refine Below.trans ?_ (Below.mono (by assumption) (by simp <;> omega)))))⟩) | (refine bodyPost_ret (v := .tuple #[.int .u32 (V), .agg #[.bool false, .bool true, .bool false, .bool false, .bool false]]) ?_ rfl ?_; (focus (simp [results, Tryz.results229, go_sem, ← hV.out, infS, fNan, fInf, mP, eP, *]; done)); exact ⟨⟨_, _, _, _, _, rfl⟩, by (repeat (first | exact Below.refl _ _ | (refine Below.drew ?_) | (refine Below.setCell ?_ (by simp [mk_size] <;> omega) _) | (refine Below.alloc ?_ (by simp [mk_size] <;> omega) _) | (refine below_mk ?_ (by simp [mk_size] <;> omega) _ _) | (refine Below.trans ?_ (Below.mono (by assumption) (by simp <;> omega)))))⟩))
end Go.Proofs.YtkpfefpmdjjhjaaGreat
