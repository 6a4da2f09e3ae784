/- The reference's order, Minus, Mul at singles. -/
import Derived.Test.YtkpfefpmdjjhjaaGreatRf6
import Derived.Test.YtkpfefpmdjjhjaaGreatAr4
import Derived.Test.YtkpfefpmdjjhjaaGreatSl
import Derived.Lib.Hide
namespace Anneal
open Go
/-- the number with the other sign; what is no number stays -/
def rminus (a : Int) : Int := if isNan 2 a then a else fTurn 2 a
theorem rminus_r (a : Int) (a0 : 0 ≤ a) (a1 : a < 4294967296) : U32 (rminus a) := by
  unfold rminus
  split
  · exact ⟨a0, a1⟩
  · exact fTurn_r a
theorem andNot_31 (v : Int) (h0 : 0 ≤ v) (h1 : v < 4294967296) : bits .andNot .u32 v 2147483648 = v % 2147483648 := by
  rw [u32_andNot v 2147483648 h0 h1 (by decide) (by decide), show (4294967295 - (2147483648 : Int).toNat : Nat) = 2 ^ 31 - 1 from rfl, Nat.and_two_pow_sub_one_eq_mod]
  omega
theorem fkey_eq (a : Int) (a0 : 0 ≤ a) (a1 : a < 4294967296) : fkey a = if pS 2 a then -1 - a % 2147483648 else a % 2147483648 := by
  have hS : pS 2 a = (a / (8388608 * 256) % 2 == 1) := rfl
  unfold fkey fTurn
  rw [show mP 2 * eP 2 = 2147483648 from by decide]
  cases hp : pS 2 a
  · rw [hS] at hp; simp at hp; simp; omega
  · simp
end Anneal
namespace Go.Proofs.YtkpfefpmdjjhjaaGreat
open Go.RowKit Anneal
set_option linter.unusedSimpArgs false
set_option linter.unusedVariables false
attribute [local go_sem] mk_size mk_cell mk_frozen mk_set mk_drew drew_mk lt_inst le_inst
theorem r1M2b (v : Int) (a0 : 0 ≤ v) (a1 : v < 4294967296) : bits BinOp.and IntKind.u32 v 4294967295 = v := by
  rw [and32 32 (by decide) 4294967295 (by decide) _ (by omega) (by omega)]; omega
theorem r1_sign2 (w : World) : Calls Tryz.prog 146 #[.int .i64 2, .bool true] w fun e w' => e = .returned (.int .u32 2147483648) ∧ w = w' := r1_sign 2 true (by decide) w
theorem r1_Key (a : Int) (a0 : 0 ≤ a) (a1 : a < 4294967296) (w : World) : Calls Tryz.prog 180 #[.int .i64 2, .int .u32 a] w fun e w' => e = .returned (.int .i64 (fkey a)) ∧ Below w.heap.size w w' := by
  have h1 := r1M2b a a0 a1
  have h2 := andNot_31 a a0 a1
  have hk := Lib.hid (fkey_eq a a0 a1)
  generalize hp : pS 2 a = p at *
  cases p
  all_goals
    go_enter Tryz.func180, Tryz.ntmps180
    go_wp2_with (first | (go_at_call 62; (with_reducible refine Calls.mono (r1M2 _) ?_); rintro e w' ⟨rfl, rfl⟩) | (go_at_call 146; (with_reducible refine Calls.mono (r1_sign2 _) ?_); rintro e w' ⟨rfl, rfl⟩) | (go_at_call 129; (with_reducible refine Calls.mono (r1_neg 2 a (by decide) a0 a1 _) ?_); rintro e w1 ⟨rfl, hb⟩; obtain ⟨o1, d1, rfl⟩ := made hb; clear hb) | (go_at_call 129; (with_reducible refine Calls.mono (r1_neg 2 b (by decide) b0 b1 _) ?_); rintro e w1 ⟨rfl, hb⟩; obtain ⟨o1, d1, rfl⟩ := made hb; clear hb))
    go_ret
    refine ⟨ret1_ (congrArg (Value.int .i64) ?_), by (repeat (first | exact Below.refl _ _ | (refine Below.drew ?_) | (refine Below.setCell ?_ (by simp [mk_size] <;> omega) _) | (refine Below.alloc ?_ (by simp [mk_size] <;> omega) _) | (refine below_mk ?_ (by simp [mk_size] <;> omega) _ _) | (refine Below.trans ?_ (Below.mono (by assumption) (by simp <;> omega)))))⟩
    rw [hk.out]
    simp
theorem r1_Compare (a b : Int) (a0 : 0 ≤ a) (a1 : a < 4294967296) (b0 : 0 ≤ b) (b1 : b < 4294967296) (w : World) :
    Calls Tryz.prog 170 #[.int .i64 2, .int .u32 a, .int .u32 b] w fun e w' => e = .returned (.tuple #[.int .i64 (fcmp a b), .bool (!oneNan 2 [a, b])]) ∧ Below w.heap.size w w' := by
  generalize hV : fcmp a b = V
  replace hV := Lib.hid hV
  have hn : Hid (oneNan 2 [a, b] = (isNan 2 a || isNan 2 b)) := by unfold Hid oneNan; simp
  go_enter Tryz.func170, Tryz.ntmps170
  go_wp2_with (first | (go_at_call 126; (with_reducible refine Calls.mono (r1_nans2 a b a0 a1 b0 b1 _ _ (by simp [go_sem]) (by simp [go_sem]) (by simp [go_sem])) ?_); rintro e w1 ⟨rfl, hb⟩; obtain ⟨o1, d1, rfl⟩ := made hb; clear hb) | (go_at_call 188; (with_reducible refine Calls.mono (r1_zero 2 a (by decide) a0 a1 _) ?_); rintro e w1 ⟨rfl, hb⟩; obtain ⟨o1, d1, rfl⟩ := made hb; clear hb) | (go_at_call 188; (with_reducible refine Calls.mono (r1_zero 2 b (by decide) b0 b1 _) ?_); rintro e w1 ⟨rfl, hb⟩; obtain ⟨o1, d1, rfl⟩ := made hb; clear hb) | (go_at_call 180; (with_reducible refine Calls.mono (r1_Key a a0 a1 _) ?_); rintro e w1 ⟨rfl, hb⟩; obtain ⟨o1, d1, rfl⟩ := made hb; clear hb) | (go_at_call 180; (with_reducible refine Calls.mono (r1_Key b b0 b1 _) ?_); rintro e w1 ⟨rfl, hb⟩; obtain ⟨o1, d1, rfl⟩ := made hb; clear hb))
  all_goals
    go_ret2
    refine ⟨ret2_ (congrArg (Value.int .i64) ?_) (congrArg Value.bool ?_), by (repeat (first | exact Below.refl _ _ | (refine Below.drew ?_) | (refine Below.setCell ?_ (by simp [mk_size] <;> omega) _) | (refine Below.alloc ?_ (by simp [mk_size] <;> omega) _) | (refine below_mk ?_ (by simp [mk_size] <;> omega) _ _) | (refine Below.trans ?_ (Below.mono (by assumption) (by simp <;> omega)))))⟩
  all_goals (try (rw [← hV.out]; unfold fcmp; rw [hn] at *))
  all_goals (first | (simp_all; done) | (simp_all; omega))
theorem r1_Less (a b : Int) (a0 : 0 ≤ a) (a1 : a < 4294967296) (b0 : 0 ≤ b) (b1 : b < 4294967296) (w : World) :
    Calls Tryz.prog 94 #[.int .i64 2, .int .u32 a, .int .u32 b] w fun e w' => e = .returned (.bool (fabove b a)) ∧ Below w.heap.size w w' := by
  have hc : Hid (oneNan 2 [a, b] = true → fcmp a b = 0) := by
    intro h; unfold fcmp; rw [if_pos (by simpa [oneNan] using h)]
  have hv : Hid (fabove b a = decide (fcmp a b < 0)) := rfl
  have CC := Lib.hid (r1_Compare a b a0 a1 b0 b1)
  rw [hv]
  clear hv
  generalize oneNan 2 [a, b] = o at *
  generalize fcmp a b = V at *
  cases o
  · go_enter Tryz.func94, Tryz.ntmps94
    go_wp2_with (go_at_call 170; (with_reducible refine Calls.mono (CC.out _) ?_); rintro e w1 ⟨rfl, hb⟩; obtain ⟨o1, d1, rfl⟩ := made hb; clear hb)
    go_ret
    exact ⟨rfl, by (repeat (first | exact Below.refl _ _ | (refine Below.drew ?_) | (refine Below.setCell ?_ (by simp [mk_size] <;> omega) _) | (refine Below.alloc ?_ (by simp [mk_size] <;> omega) _) | (refine below_mk ?_ (by simp [mk_size] <;> omega) _ _) | (refine Below.trans ?_ (Below.mono (by assumption) (by simp <;> omega)))))⟩
  · have h0 := hc rfl
    subst h0
    go_enter Tryz.func94, Tryz.ntmps94
    go_wp2_with (go_at_call 170; (with_reducible refine Calls.mono (CC.out _) ?_); rintro e w1 ⟨rfl, hb⟩; obtain ⟨o1, d1, rfl⟩ := made hb; clear hb)
    go_ret
    exact ⟨rfl, by (repeat (first | exact Below.refl _ _ | (refine Below.drew ?_) | (refine Below.setCell ?_ (by simp [mk_size] <;> omega) _) | (refine Below.alloc ?_ (by simp [mk_size] <;> omega) _) | (refine below_mk ?_ (by simp [mk_size] <;> omega) _ _) | (refine Below.trans ?_ (Below.mono (by assumption) (by simp <;> omega)))))⟩
theorem r10_Above (a b : Int) (a0 : 0 ≤ a) (a1 : a < 4294967296) (b0 : 0 ≤ b) (b1 : b < 4294967296) (w : World) :
    Calls Tryz.prog 29 #[.int .u32 a, .int .u32 b] w fun e w' => e = .returned (.bool (fabove a b)) ∧ Below w.heap.size w w' := by
  go_enter Tryz.func29, Tryz.ntmps29
  go_wp2_with (go_at_call 94; (with_reducible refine Calls.mono (r1_Less b a b0 b1 a0 a1 _) ?_); rintro e w1 ⟨rfl, hb⟩; obtain ⟨o1, d1, rfl⟩ := made hb; clear hb)
  go_ret
  exact ⟨rfl, by (repeat (first | exact Below.refl _ _ | (refine Below.drew ?_) | (refine Below.setCell ?_ (by simp [mk_size] <;> omega) _) | (refine Below.alloc ?_ (by simp [mk_size] <;> omega) _) | (refine below_mk ?_ (by simp [mk_size] <;> omega) _ _) | (refine Below.trans ?_ (Below.mono (by assumption) (by simp <;> omega)))))⟩
end Go.Proofs.YtkpfefpmdjjhjaaGreat
