/- The walks of annealref1: Unpack, Nan, neg, inf, zero, nans, FromInt. -/
import Derived.Test.YtkpfefpmdjjhjaaGreatRf4
import Derived.Test.YtkpfefpmdjjhjaaGreatMk
import Derived.Test.YtkpfefpmdjjhjaaGreatAr4
import Derived.Test.YtkpfefpmdjjhjaaGreatAdd
import Derived.Lib.Hide
namespace Go.Proofs.YtkpfefpmdjjhjaaGreat
open Go.RowKit Anneal
set_option linter.unusedSimpArgs false
set_option linter.unusedVariables false
attribute [local go_sem] mk_size mk_cell mk_frozen mk_set mk_drew drew_mk lt_inst le_inst
theorem r1_bias0 (w : World) : Calls Tryz.prog 191 #[.int .i64 0] w fun e w' => e = .returned (.int .i64 15) ∧ w = w' := r1_bias 0 (by decide) w
theorem r1_bias1 (w : World) : Calls Tryz.prog 191 #[.int .i64 1] w fun e w' => e = .returned (.int .i64 127) ∧ w = w' := r1_bias 1 (by decide) w
theorem wrap_i64r (n : Int) (h0 : -9223372036854775808 ≤ n) (h1 : n < 9223372036854775808) : IntKind.i64.wrap n = n := by rw [wrap_i64m]; omega
set_option maxHeartbeats 4000000 in
theorem r1_Unpack (f v : Int) (hf : Fm f) (h0 : 0 ≤ v) (h1 : v < 4294967296) (w : World) : Calls Tryz.prog 112 #[.int .i64 f, .int .u32 v] w fun e w' => e = .returned (.tuple #[.bool (pS f v), .int .i64 (uE f v), .int .u64 (uS f v)]) ∧ Below w.heap.size w w' := by
  have a := pE_range f v hf
  have b := pF_range f v hf
  have c := cls_range f v
  have hc : cls f v = if pE f v = 0 then (if pF f v = 0 then 0 else 1) else if pE f v < eP f - 1 then 2 else if pF f v = 0 then 3 else if pF f v / (mP f / 2) = 1 then 4 else 5 := rfl
  rcases hf with rfl | rfl | rfl
  all_goals
    simp only [eP, mP] at a b hc
    simp at a b hc
    obtain ⟨a1, a2⟩ := a
    obtain ⟨b1, b2⟩ := b
    obtain ⟨c1, c2⟩ := c
    have HC := Lib.hid hc
    clear hc
    go_enter Tryz.func112, Tryz.ntmps112
    go_wp2_with (first | (go_at_call 61; (with_reducible refine Calls.mono (r1W0 _) ?_); rintro e w' ⟨rfl, rfl⟩) | (go_at_call 61; (with_reducible refine Calls.mono (r1W1 _) ?_); rintro e w' ⟨rfl, rfl⟩) | (go_at_call 61; (with_reducible refine Calls.mono (r1W2 _) ?_); rintro e w' ⟨rfl, rfl⟩) | (go_at_call 190; (with_reducible refine Calls.mono (r1_parts _ v (by decide) h0 h1 _) ?_); rintro e w1 ⟨rfl, hb⟩; obtain ⟨o0, d0, rfl⟩ := made hb; clear hb) | (go_at_call 113; (with_reducible refine Calls.mono (r1_Class _ v (by decide) h0 h1 _) ?_); rintro e w1 ⟨rfl, hb⟩; obtain ⟨o1, d1, rfl⟩ := made hb; clear hb) | (go_at_call 191; (with_reducible refine Calls.mono (r1_bias0 _) ?_); rintro e w' ⟨rfl, rfl⟩) | (go_at_call 191; (with_reducible refine Calls.mono (r1_bias1 _) ?_); rintro e w' ⟨rfl, rfl⟩) | (go_at_call 191; (with_reducible refine Calls.mono (r1_bias2 _) ?_); rintro e w' ⟨rfl, rfl⟩))
    all_goals try (go_region_held3 (fun _ => True) (trivial) (first | (go_at_call 191; (with_reducible refine Calls.mono (r1_bias0 _) ?_); rintro e w' ⟨rfl, rfl⟩) | (go_at_call 191; (with_reducible refine Calls.mono (r1_bias1 _) ?_); rintro e w' ⟨rfl, rfl⟩) | (go_at_call 191; (with_reducible refine Calls.mono (r1_bias2 _) ?_); rintro e w' ⟨rfl, rfl⟩)); go_wp2)
    all_goals (have hc := HC.out; clear HC)
    all_goals (go_ret3; refine ⟨ret3_ rfl (congrArg (Value.int .i64) ?_) (congrArg (Value.int .u64) ?_), by (repeat (first | exact Below.refl _ _ | (refine Below.drew ?_) | (refine Below.setCell ?_ (by simp [mk_size] <;> omega) _) | (refine Below.alloc ?_ (by simp [mk_size] <;> omega) _) | (refine below_mk ?_ (by simp [mk_size] <;> omega) _ _) | (refine Below.trans ?_ (Below.mono (by assumption) (by simp <;> omega)))))⟩)
    all_goals (simp only [uE, uS, eP, mP, leastE, mW]; simp)
    all_goals (try rw [wrap_i64m, wrap_i64m])
    all_goals (try rw [bits_or_comm])
    all_goals (try first | rw [show IntKind.u64.wrap 1024 = 1024 from rfl, or64 10 _ _ (by omega) (by omega) (by omega) (by omega) (by omega) (by omega)] | rw [show IntKind.u64.wrap 128 = 128 from rfl, or64 7 _ _ (by omega) (by omega) (by omega) (by omega) (by omega) (by omega)] | rw [show IntKind.u64.wrap 8388608 = 8388608 from rfl, or64 23 _ _ (by omega) (by omega) (by omega) (by omega) (by omega) (by omega)])
    all_goals (try simp only [beq_iff_eq, beq_eq_false_iff_ne, ne_eq] at *)
    all_goals ((repeat' split at hc) <;> (repeat' split) <;> first | omega | (intro _; (repeat' split) <;> omega))
theorem r1_Nan2 (w : World) : Calls Tryz.prog 70 #[.int .i64 2] w fun e w' => e = .returned (.int .u32 2143289344) ∧ Below w.heap.size w w' := by
  have k1 : IntKind.i64.wrap (23 - 1) = 22 := rfl
  have k2 : IntKind.i64.wrap 22 = 22 := rfl
  have k3 : IntKind.u32.wrap 4194304 = 4194304 := rfl
  have k4 : bits BinOp.or IntKind.u32 (fInf 2 false) 4194304 = 2143289344 := by decide
  go_enter Tryz.func70, Tryz.ntmps70
  go_wp2_with (first | (go_at_call 61; (with_reducible refine Calls.mono (r1W0 _) ?_); rintro e w' ⟨rfl, rfl⟩) | (go_at_call 61; (with_reducible refine Calls.mono (r1W1 _) ?_); rintro e w' ⟨rfl, rfl⟩) | (go_at_call 61; (with_reducible refine Calls.mono (r1W2 _) ?_); rintro e w' ⟨rfl, rfl⟩))
  go_region_held3 (fun _ => True) (trivial) (first | (go_at_call 128; (with_reducible refine Calls.mono (r1_Inf 2 false (by decide) _) ?_); rintro e w1 ⟨rfl, hb⟩; obtain ⟨o1, d1, rfl⟩ := made hb; clear hb)); go_wp2
  go_ret
  exact ⟨rfl, by (repeat (first | exact Below.refl _ _ | (refine Below.drew ?_) | (refine Below.setCell ?_ (by simp [mk_size] <;> omega) _) | (refine Below.alloc ?_ (by simp [mk_size] <;> omega) _) | (refine below_mk ?_ (by simp [mk_size] <;> omega) _ _) | (refine Below.trans ?_ (Below.mono (by assumption) (by simp <;> omega)))))⟩
theorem r1_neg (f v : Int) (hf : Fm f) (h0 : 0 ≤ v) (h1 : v < 4294967296) (w : World) : Calls Tryz.prog 129 #[.int .i64 f, .int .u32 v] w fun e w' => e = .returned (.bool (pS f v)) ∧ Below w.heap.size w w' := by
  go_enter Tryz.func129, Tryz.ntmps129
  go_wp2_with (first | (go_at_call 190; (with_reducible refine Calls.mono (r1_parts f v hf h0 h1 _) ?_); rintro e w1 ⟨rfl, hb⟩; obtain ⟨o1, d1, rfl⟩ := made hb; clear hb))
  go_ret
  exact ⟨rfl, by (repeat (first | exact Below.refl _ _ | (refine Below.drew ?_) | (refine Below.setCell ?_ (by simp [mk_size] <;> omega) _) | (refine Below.alloc ?_ (by simp [mk_size] <;> omega) _) | (refine below_mk ?_ (by simp [mk_size] <;> omega) _ _) | (refine Below.trans ?_ (Below.mono (by assumption) (by simp <;> omega)))))⟩
theorem r1_inf (f v : Int) (hf : Fm f) (h0 : 0 ≤ v) (h1 : v < 4294967296) (w : World) : Calls Tryz.prog 127 #[.int .i64 f, .int .u32 v] w fun e w' => e = .returned (.bool (isInf f v)) ∧ Below w.heap.size w w' := by
  go_enter Tryz.func127, Tryz.ntmps127
  go_wp2_with (first | (go_at_call 113; (with_reducible refine Calls.mono (r1_Class f v hf h0 h1 _) ?_); rintro e w1 ⟨rfl, hb⟩; obtain ⟨o1, d1, rfl⟩ := made hb; clear hb))
  go_ret
  exact ⟨rfl, by (repeat (first | exact Below.refl _ _ | (refine Below.drew ?_) | (refine Below.setCell ?_ (by simp [mk_size] <;> omega) _) | (refine Below.alloc ?_ (by simp [mk_size] <;> omega) _) | (refine below_mk ?_ (by simp [mk_size] <;> omega) _ _) | (refine Below.trans ?_ (Below.mono (by assumption) (by simp <;> omega)))))⟩
theorem r1_zero (f v : Int) (hf : Fm f) (h0 : 0 ≤ v) (h1 : v < 4294967296) (w : World) : Calls Tryz.prog 188 #[.int .i64 f, .int .u32 v] w fun e w' => e = .returned (.bool (isZero f v)) ∧ Below w.heap.size w w' := by
  go_enter Tryz.func188, Tryz.ntmps188
  go_wp2_with (first | (go_at_call 113; (with_reducible refine Calls.mono (r1_Class f v hf h0 h1 _) ?_); rintro e w1 ⟨rfl, hb⟩; obtain ⟨o1, d1, rfl⟩ := made hb; clear hb))
  go_ret
  exact ⟨rfl, by (repeat (first | exact Below.refl _ _ | (refine Below.drew ?_) | (refine Below.setCell ?_ (by simp [mk_size] <;> omega) _) | (refine Below.alloc ?_ (by simp [mk_size] <;> omega) _) | (refine below_mk ?_ (by simp [mk_size] <;> omega) _ _) | (refine Below.trans ?_ (Below.mono (by assumption) (by simp <;> omega)))))⟩
theorem r1_FromInt (n : Int) (h0 : -9223372036854775808 ≤ n) (h1 : n < 9223372036854775808) (w : World) :
    Calls Tryz.prog 110 #[.int .i64 2, .int .i64 0, .int .i64 n] w (Num5 (fint n) w) := by
  have k1 : n < 0 → IntKind.u64.wrap (-IntKind.u64.wrap n) = n.natAbs := by intro h; rw [wrap_u64, wrap_u64]; omega
  have k2 : ¬ n < 0 → IntKind.u64.wrap n = n.natAbs := by intro h; rw [wrap_u64]; omega
  by_cases c : n < 0
  · have k := k1 c
    go_enter Tryz.func110, Tryz.ntmps110
    go_wp2_with (first | (go_at_call 130; (with_reducible refine Calls.mono (r1_Pack2 _ false 0 n.natAbs (by omega) (by omega) (fun _ => rfl) (by decide) (by decide) _) ?_); rintro e w1 ⟨⟨p1, p2, p3, p4, p5, rfl⟩, hb⟩; obtain ⟨o1, d1, rfl⟩ := made hb; clear hb))
    (first | (refine bodyPost_ret (v := .tuple #[.int .u32 (fint n), .agg #[.bool false, .bool false, .bool false, .bool false, .bool false]]) ?_ rfl ?_; (focus (simp [results, Tryz.results110, go_sem, fint, *]; done)); exact ⟨⟨_, _, _, _, _, rfl⟩, by (repeat (first | exact Below.refl _ _ | (refine Below.drew ?_) | (refine Below.setCell ?_ (by simp [mk_size] <;> omega) _) | (refine Below.alloc ?_ (by simp [mk_size] <;> omega) _) | (refine below_mk ?_ (by simp [mk_size] <;> omega) _ _) | (refine Below.trans ?_ (Below.mono (by assumption) (by simp <;> omega)))))⟩) | (refine bodyPost_ret (v := .tuple #[.int .u32 (fint n), .agg #[.bool p1, .bool p2, .bool p3, .bool p4, .bool p5]]) ?_ rfl ?_; (focus (simp [results, Tryz.results110, go_sem, fint, *]; done)); exact ⟨⟨_, _, _, _, _, rfl⟩, by (repeat (first | exact Below.refl _ _ | (refine Below.drew ?_) | (refine Below.setCell ?_ (by simp [mk_size] <;> omega) _) | (refine Below.alloc ?_ (by simp [mk_size] <;> omega) _) | (refine below_mk ?_ (by simp [mk_size] <;> omega) _ _) | (refine Below.trans ?_ (Below.mono (by assumption) (by simp <;> omega)))))⟩) | (refine bodyPost_ret (v := .tuple #[.int .u32 (fint n), .agg #[.bool true, .bool false, .bool false, .bool false, .bool false]]) ?_ rfl ?_; (focus (simp [results, Tryz.results110, go_sem, fint, *]; done)); exact ⟨⟨_, _, _, _, _, rfl⟩, by (repeat (first | exact Below.refl _ _ | (refine Below.drew ?_) | (refine Below.setCell ?_ (by simp [mk_size] <;> omega) _) | (refine Below.alloc ?_ (by simp [mk_size] <;> omega) _) | (refine below_mk ?_ (by simp [mk_size] <;> omega) _ _) | (refine Below.trans ?_ (Below.mono (by assumption) (by simp <;> omega)))))⟩) | (refine bodyPost_ret (v := .tuple #[.int .u32 (fint n), .agg #[.bool false, .bool true, .bool false, .bool false, .bool false]]) ?_ rfl ?_; (focus (simp [results, Tryz.results110, go_sem, fint, *]; done)); exact ⟨⟨_, _, _, _, _, rfl⟩, by (repeat (first | exact Below.refl _ _ | (refine Below.drew ?_) | (refine Below.setCell ?_ (by simp [mk_size] <;> omega) _) | (refine Below.alloc ?_ (by simp [mk_size] <;> omega) _) | (refine below_mk ?_ (by simp [mk_size] <;> omega) _ _) | (refine Below.trans ?_ (Below.mono (by assumption) (by simp <;> omega)))))⟩))
  · have k := k2 c
    have hd : decide (n < 0) = false := by simp; omega
    have hV : fint n = pack 2 false 0 n.natAbs false := by unfold fint; rw [hd]
    rw [hV]
    clear hV k1 k2
    go_enter Tryz.func110, Tryz.ntmps110
    go_wp2_with (first | (go_at_call 130; (with_reducible refine Calls.mono (r1_Pack2 _ false 0 n.natAbs (by omega) (by omega) (fun _ => rfl) (by decide) (by decide) _) ?_); rintro e w1 ⟨⟨p1, p2, p3, p4, p5, rfl⟩, hb⟩; obtain ⟨o1, d1, rfl⟩ := made hb; clear hb))
    (first | (refine bodyPost_ret (v := .tuple #[.int .u32 (pack 2 false 0 n.natAbs false), .agg #[.bool false, .bool false, .bool false, .bool false, .bool false]]) ?_ rfl ?_; (focus (simp [results, Tryz.results110, go_sem, *]; done)); exact ⟨⟨_, _, _, _, _, rfl⟩, by (repeat (first | exact Below.refl _ _ | (refine Below.drew ?_) | (refine Below.setCell ?_ (by simp [mk_size] <;> omega) _) | (refine Below.alloc ?_ (by simp [mk_size] <;> omega) _) | (refine below_mk ?_ (by simp [mk_size] <;> omega) _ _) | (refine Below.trans ?_ (Below.mono (by assumption) (by simp <;> omega)))))⟩) | (refine bodyPost_ret (v := .tuple #[.int .u32 (pack 2 false 0 n.natAbs false), .agg #[.bool p1, .bool p2, .bool p3, .bool p4, .bool p5]]) ?_ rfl ?_; (focus (simp [results, Tryz.results110, go_sem, *]; done)); exact ⟨⟨_, _, _, _, _, rfl⟩, by (repeat (first | exact Below.refl _ _ | (refine Below.drew ?_) | (refine Below.setCell ?_ (by simp [mk_size] <;> omega) _) | (refine Below.alloc ?_ (by simp [mk_size] <;> omega) _) | (refine below_mk ?_ (by simp [mk_size] <;> omega) _ _) | (refine Below.trans ?_ (Below.mono (by assumption) (by simp <;> omega)))))⟩) | (refine bodyPost_ret (v := .tuple #[.int .u32 (pack 2 false 0 n.natAbs false), .agg #[.bool true, .bool false, .bool false, .bool false, .bool false]]) ?_ rfl ?_; (focus (simp [results, Tryz.results110, go_sem, *]; done)); exact ⟨⟨_, _, _, _, _, rfl⟩, by (repeat (first | exact Below.refl _ _ | (refine Below.drew ?_) | (refine Below.setCell ?_ (by simp [mk_size] <;> omega) _) | (refine Below.alloc ?_ (by simp [mk_size] <;> omega) _) | (refine below_mk ?_ (by simp [mk_size] <;> omega) _ _) | (refine Below.trans ?_ (Below.mono (by assumption) (by simp <;> omega)))))⟩) | (refine bodyPost_ret (v := .tuple #[.int .u32 (pack 2 false 0 n.natAbs false), .agg #[.bool false, .bool true, .bool false, .bool false, .bool false]]) ?_ rfl ?_; (focus (simp [results, Tryz.results110, go_sem, *]; done)); exact ⟨⟨_, _, _, _, _, rfl⟩, by (repeat (first | exact Below.refl _ _ | (refine Below.drew ?_) | (refine Below.setCell ?_ (by simp [mk_size] <;> omega) _) | (refine Below.alloc ?_ (by simp [mk_size] <;> omega) _) | (refine below_mk ?_ (by simp [mk_size] <;> omega) _ _) | (refine Below.trans ?_ (Below.mono (by assumption) (by simp <;> omega)))))⟩))
theorem r1_nans (f : Int) (hf : Fm f) (B : Nat) (l : List Int) (hl : l.length ≤ 3) (w : World) (hB : B < w.heap.size) (hc : ∀ j, j < l.length → w.cell? ⟨B, j, none⟩ = some (.int .u32 (l.getD j 0))) (hu : ∀ v ∈ l, 0 ≤ v ∧ v < 4294967296) :
    Calls Tryz.prog 126 #[.int .i64 f, .slice (some ⟨B, 0, none⟩) l.length l.length] w fun e w' => e = .returned (.tuple #[.bool (oneNan f l), .bool (oneSig f l)]) ∧ Below w.heap.size w w' := by
  go_enter Tryz.func126, Tryz.ntmps126
  go_wp2
  go_loopw [6, 7, 8] (fun s t i wr => ∃ k : Nat, k ≤ l.length ∧ s = .bool (oneNan f (l.take k)) ∧ t = .bool (oneSig f (l.take k)) ∧ i = .int .i64 k ∧ Below w.heap.size w wr)
    (fun _ _ i _ => l.length - (intOf i).toNat)
  case atStart => exact ⟨0, Nat.zero_le _, rfl, rfl, rfl, Below.refl _ _⟩
  case round =>
    obtain ⟨k, hk, rfl, rfl, rfl, hbw⟩ := hrel
    obtain ⟨oo, dd, rfl⟩ := made hbw
    clear hbw
    by_cases hlt : k < l.length
    · have hck := hc k hlt
      obtain ⟨x, hx⟩ : ∃ x, x = l.getD k 0 := ⟨_, rfl⟩
      rw [← hx] at hck
      have hxu : 0 ≤ x ∧ x < 4294967296 := by
        rw [hx, List.getD_eq_getElem?_getD, List.getElem?_eq_getElem hlt]
        exact hu _ (List.getElem_mem hlt)
      have E1 := Lib.hid (one_snoc l k hlt (isNan f))
      have E2 := Lib.hid (one_snoc l k hlt fun v => cls f v == 5)
      rw [← hx] at E1 E2
      clear hx hc hu
      obtain ⟨x0, x1⟩ := hxu
      obtain ⟨c0, c1⟩ := cls_range f x
      have hN : isNan f x = (cls f x == 4 || cls f x == 5) := by unfold isNan; rw [Bool.eq_iff_iff]; simp; omega
      rw [hN] at E1
      clear hN
      go_wp2_with (go_at_call 113; (with_reducible refine Calls.mono (r1_Class f x hf x0 x1 _) ?_); rintro e w1 ⟨rfl, hb⟩; obtain ⟨o1, d1, rfl⟩ := made hb; clear hb)
      all_goals
        go_roundw
        case rel =>
          refine ⟨k + 1, by omega, congrArg Value.bool ?_, congrArg Value.bool ?_, by go_num, by (repeat (first | exact Below.refl _ _ | (refine Below.drew ?_) | (refine Below.setCell ?_ (by simp [mk_size] <;> omega) _) | (refine Below.alloc ?_ (by simp [mk_size] <;> omega) _) | (refine below_mk ?_ (by simp [mk_size] <;> omega) _ _) | (refine Below.trans ?_ (Below.mono (by assumption) (by simp <;> omega)))))⟩
          · unfold oneNan at *; rw [E1.out]; simp_all
          · unfold oneSig at *; rw [E2.out]; simp_all
        case measure => simp [intOf]; omega
    · obtain rfl : k = l.length := by omega
      rw [List.take_length] at *
      go_wp2
      go_ret2
      exact ⟨rfl, by (repeat (first | exact Below.refl _ _ | (refine Below.drew ?_) | (refine Below.setCell ?_ (by simp [mk_size] <;> omega) _) | (refine Below.alloc ?_ (by simp [mk_size] <;> omega) _) | (refine below_mk ?_ (by simp [mk_size] <;> omega) _ _) | (refine Below.trans ?_ (Below.mono (by assumption) (by simp <;> omega)))))⟩
end Go.Proofs.YtkpfefpmdjjhjaaGreat
