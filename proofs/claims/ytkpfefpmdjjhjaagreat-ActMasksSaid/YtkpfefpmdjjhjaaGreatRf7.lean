/- The walk of annealref1.Div. -/
import Derived.Test.YtkpfefpmdjjhjaaGreatRf6
import Derived.Test.YtkpfefpmdjjhjaaGreatMk
import Derived.Test.YtkpfefpmdjjhjaaGreatAr4
import Derived.Test.YtkpfefpmdjjhjaaGreatAdd
import Derived.Lib.Hide
namespace Go.Proofs.YtkpfefpmdjjhjaaGreat
open Go.RowKit Anneal
set_option linter.unusedSimpArgs false
set_option linter.unusedVariables false
attribute [local go_sem] mk_size mk_cell mk_frozen mk_set mk_drew drew_mk lt_inst le_inst
theorem stepk (A M : Int) (k : Nat) (hA : 0 < A) (hM : M = A * 2 ^ k) (h : M < 8388608) : k < 23 := by
  rcases Nat.lt_or_ge k 23 with c | c
  · exact c
  · exfalso
    have h1 : (2 : Int) ^ 23 ≤ 2 ^ k := by
      have := Nat.pow_le_pow_right (n := 2) (by decide) c
      exact_mod_cast this
    have h2 : 1 * (2 : Int) ^ k ≤ A * 2 ^ k := Int.mul_le_mul_of_nonneg_right (by omega) (by omega)
    rw [show (2 : Int) ^ 23 = 8388608 from rfl] at h1
    omega
set_option maxRecDepth 20000 in
set_option maxHeartbeats 4000000 in
theorem r1Div_fin (a b : Int) (a0 : 0 ≤ a) (a1 : a < 4294967296) (b0 : 0 ≤ b) (b1 : b < 4294967296) (hn : oneNan 2 [a, b] = false) (h1 : isZero 2 a = false) (h2 : isInf 2 a = false) (h3 : isZero 2 b = false) (h4 : isInf 2 b = false)
    (n1 n2 : Bool) (e1 s1 e2 s2 V : Int) (S : Bool) (hS : (!(pS 2 a == pS 2 b)) = S) (u1 : 0 < s1) (u2 : s1 < 16777216) (u3 : 0 < s2) (u4 : s2 < 16777216) (v1 : -149 ≤ e1) (v2 : e1 ≤ 104) (v3 : -149 ≤ e2) (v4 : e2 ≤ 104)
    (k1 : ∀ w, Calls Tryz.prog 112 #[.int .i64 2, .int .u32 a] w fun e w' => e = .returned (.tuple #[.bool n1, .int .i64 e1, .int .u64 s1]) ∧ Below w.heap.size w w')
    (k2 : ∀ w, Calls Tryz.prog 112 #[.int .i64 2, .int .u32 b] w fun e w' => e = .returned (.tuple #[.bool n2, .int .i64 e2, .int .u64 s2]) ∧ Below w.heap.size w w')
    (hD : ∀ i j : Nat, 8388608 ≤ s1 * 2 ^ i → s1 * 2 ^ i < 16777216 → 8388608 ≤ s2 * 2 ^ j → s2 * 2 ^ j < 16777216 → pack 2 S (e1 - i - (e2 - j) - 40) (s1 * 2 ^ i * 1099511627776 / (s2 * 2 ^ j)) (s1 * 2 ^ i * 1099511627776 % (s2 * 2 ^ j) != 0) = V)
    (w : World) :
    Calls Tryz.prog 109 #[.int .i64 2, .int .i64 0, .int .u32 a, .int .u32 b] w (Num5 V w) := by
  have CA := Lib.hid k1
  have CB := Lib.hid k2
  have HD := Lib.hid hD
  clear k1 k2 hD
  go_enter Tryz.func109, Tryz.ntmps109
  go_wp2_with (first | (go_at_call 126; (with_reducible refine Calls.mono (r1_nans2 a b a0 a1 b0 b1 _ _ (by simp [go_sem]) (by simp [go_sem]) (by simp [go_sem])) ?_); rintro e w1 ⟨rfl, hb⟩; obtain ⟨o1, d1, rfl⟩ := made hb; clear hb) | (go_at_call 129; (with_reducible refine Calls.mono (r1_neg 2 a (by decide) a0 a1 _) ?_); rintro e w1 ⟨rfl, hb⟩; obtain ⟨o1, d1, rfl⟩ := made hb; clear hb) | (go_at_call 129; (with_reducible refine Calls.mono (r1_neg 2 b (by decide) b0 b1 _) ?_); rintro e w1 ⟨rfl, hb⟩; obtain ⟨o1, d1, rfl⟩ := made hb; clear hb) | (go_at_call 127; (with_reducible refine Calls.mono (r1_inf 2 a (by decide) a0 a1 _) ?_); rintro e w1 ⟨rfl, hb⟩; obtain ⟨o1, d1, rfl⟩ := made hb; clear hb) | (go_at_call 127; (with_reducible refine Calls.mono (r1_inf 2 b (by decide) b0 b1 _) ?_); rintro e w1 ⟨rfl, hb⟩; obtain ⟨o1, d1, rfl⟩ := made hb; clear hb) | (go_at_call 188; (with_reducible refine Calls.mono (r1_zero 2 a (by decide) a0 a1 _) ?_); rintro e w1 ⟨rfl, hb⟩; obtain ⟨o1, d1, rfl⟩ := made hb; clear hb) | (go_at_call 188; (with_reducible refine Calls.mono (r1_zero 2 b (by decide) b0 b1 _) ?_); rintro e w1 ⟨rfl, hb⟩; obtain ⟨o1, d1, rfl⟩ := made hb; clear hb) | (go_at_call 112; (with_reducible refine Calls.mono (CA.out _) ?_); rintro e w1 ⟨rfl, hb⟩; obtain ⟨o1, d1, rfl⟩ := made hb; clear hb) | (go_at_call 112; (with_reducible refine Calls.mono (CB.out _) ?_); rintro e w1 ⟨rfl, hb⟩; obtain ⟨o1, d1, rfl⟩ := made hb; clear hb))
  go_loopw [14, 15] (fun x m wr => ∃ (k : Nat) (M : Int), M = s1 * 2 ^ k ∧ 0 < M ∧ M < 16777216 ∧ k ≤ 24 ∧ x = .int .i64 (e1 - k) ∧ m = .int .u64 M ∧ Below (w.alloc (.cells #[.bool false, .bool false, .bool false, .bool false, .bool false] 89)).heap.size (w.alloc (.cells #[.bool false, .bool false, .bool false, .bool false, .bool false] 89)) wr) (fun _ m _ => 16777216 - (intOf m).toNat)
  case atStart => exact ⟨0, s1, by simp, u1, u2, by omega, by go_num, rfl, by (repeat (first | exact Below.refl _ _ | (refine Below.drew ?_) | (refine Below.setCell ?_ (by simp [mk_size] <;> omega) _) | (refine Below.alloc ?_ (by simp [mk_size] <;> omega) _) | (refine below_mk ?_ (by simp [mk_size] <;> omega) _ _) | (refine Below.trans ?_ (Below.mono (by assumption) (by simp <;> omega)))))⟩
  case round =>
    obtain ⟨i, M, hM, m0, m1, hi, rfl, rfl, hbw⟩ := hrel
    obtain ⟨oo, dd, rfl⟩ := made hbw
    clear hbw
    by_cases hlt : M < 8388608
    · have := stepk s1 M i u1 hM hlt
      go_wp2
      go_roundw
      case rel => exact ⟨i + 1, M * 2, by rw [hM, Int.pow_succ, Int.mul_assoc], by omega, by omega, by omega, by go_num, by go_num, by (repeat (first | exact Below.refl _ _ | (refine Below.drew ?_) | (refine Below.setCell ?_ (by simp [mk_size] <;> omega) _) | (refine Below.alloc ?_ (by simp [mk_size] <;> omega) _) | (refine below_mk ?_ (by simp [mk_size] <;> omega) _ _) | (refine Below.trans ?_ (Below.mono (by assumption) (by simp <;> omega)))))⟩
      case measure => simp [intOf]; omega
    · have HM := Lib.hid hM
      clear hM
      go_wp2
      go_loopw [17, 18] (fun x m wr => ∃ (k : Nat) (L : Int), L = s2 * 2 ^ k ∧ 0 < L ∧ L < 16777216 ∧ k ≤ 24 ∧ x = .int .i64 (e2 - k) ∧ m = .int .u64 L ∧ Below (w.alloc (.cells #[.bool false, .bool false, .bool false, .bool false, .bool false] 89)).heap.size (w.alloc (.cells #[.bool false, .bool false, .bool false, .bool false, .bool false] 89)) wr) (fun _ m _ => 16777216 - (intOf m).toNat)
      case atStart => exact ⟨0, s2, by simp, u3, u4, by omega, by go_num, rfl, by (repeat (first | exact Below.refl _ _ | (refine Below.drew ?_) | (refine Below.setCell ?_ (by simp [mk_size] <;> omega) _) | (refine Below.alloc ?_ (by simp [mk_size] <;> omega) _) | (refine below_mk ?_ (by simp [mk_size] <;> omega) _ _) | (refine Below.trans ?_ (Below.mono (by assumption) (by simp <;> omega)))))⟩
      case round =>
        obtain ⟨j, L, hL, l0, l1, hj, rfl, rfl, hbw⟩ := hrel
        obtain ⟨oo2, dd2, rfl⟩ := made hbw
        clear hbw
        by_cases hlt2 : L < 8388608
        · have := stepk s2 L j u3 hL hlt2
          go_wp2
          go_roundw
          case rel => exact ⟨j + 1, L * 2, by rw [hL, Int.pow_succ, Int.mul_assoc], by omega, by omega, by omega, by go_num, by go_num, by (repeat (first | exact Below.refl _ _ | (refine Below.drew ?_) | (refine Below.setCell ?_ (by simp [mk_size] <;> omega) _) | (refine Below.alloc ?_ (by simp [mk_size] <;> omega) _) | (refine below_mk ?_ (by simp [mk_size] <;> omega) _ _) | (refine Below.trans ?_ (Below.mono (by assumption) (by simp <;> omega)))))⟩
          case measure => simp [intOf]; omega
        · have HL := Lib.hid hL
          clear hL
          go_wp2
          obtain ⟨X, hX⟩ : ∃ X, X = e1 - i - (e2 - j) - 40 := ⟨_, rfl⟩
          have hX1 : IntKind.i64.wrap (e1 - i - (e2 - j)) = e1 - i - (e2 - j) := wrap_i64r _ (by omega) (by omega)
          have hX2 : IntKind.i64.wrap (e1 - i - (e2 - j) - 40) = X := by rw [wrap_i64r _ (by omega) (by omega), hX]
          have x1 : -10000 ≤ X := by omega
          have x2 : X ≤ 10000 := by omega
          have hv := HD.out i j (by rw [← HM.out]; exact hlt) (by rw [← HM.out]; exact m1) (by rw [← HL.out]; exact hlt2) (by rw [← HL.out]; exact l1)
          rw [← HM.out, ← HL.out, ← hX] at hv
          obtain ⟨K, hK⟩ : ∃ K, K = M * 1099511627776 / L := ⟨_, rfl⟩
          obtain ⟨R, hR⟩ : ∃ R, R = M * 1099511627776 % L := ⟨_, rfl⟩
          obtain ⟨T, hT⟩ : ∃ T, (R != 0) = T := ⟨_, rfl⟩
          rw [← hK, ← hR, hT] at hv
          have kk1 : K ≤ M * 1099511627776 := by rw [hK]; exact Int.ediv_le_self L (by omega)
          have kk2 : 1 ≤ K := by rw [hK]; exact (Int.le_ediv_iff_mul_le l0).mpr (by omega)
          have hK1 : IntKind.u64.wrap ((M * 1099511627776).tdiv L) = K := by rw [Int.tdiv_eq_ediv_of_nonneg (by omega), ← hK, wrap_u64]; omega
          have hR1 : (M * 1099511627776).tmod L = R := by rw [Int.tmod_eq_emod_of_nonneg (by omega), hR]
          have g5 : ¬ L = 0 := by omega
          have g6 : (R == 0) = !T := by rw [← hT]; simp only [bne, Bool.not_not]
          have HV := Lib.hid hv
          clear hX hK hR hv HM HL HD
          go_region_held3 (fun _ => True) (trivial) (first | (go_at_call 130; (with_reducible refine Calls.mono (r1_Pack2 _ T X K (by omega) (by omega) (fun h => absurd h (by omega)) x1 x2 _) ?_); rintro e w1 ⟨⟨p1, p2, p3, p4, p5, rfl⟩, hb⟩; obtain ⟨o1, d1, rfl⟩ := made hb; clear hb))
          go_wp2
          (first | (refine bodyPost_ret (v := .tuple #[.int .u32 (V), .agg #[.bool false, .bool false, .bool false, .bool false, .bool false]]) ?_ rfl ?_; (focus (simp [results, Tryz.results109, go_sem, ← HV.out, *]; done)); exact ⟨⟨_, _, _, _, _, rfl⟩, by (repeat (first | exact Below.refl _ _ | (refine Below.drew ?_) | (refine Below.setCell ?_ (by simp [mk_size] <;> omega) _) | (refine Below.alloc ?_ (by simp [mk_size] <;> omega) _) | (refine below_mk ?_ (by simp [mk_size] <;> omega) _ _) | (refine Below.trans ?_ (Below.mono (by assumption) (by simp <;> omega)))))⟩) | (refine bodyPost_ret (v := .tuple #[.int .u32 (V), .agg #[.bool p1, .bool p2, .bool p3, .bool p4, .bool p5]]) ?_ rfl ?_; (focus (simp [results, Tryz.results109, go_sem, ← HV.out, *]; done)); exact ⟨⟨_, _, _, _, _, rfl⟩, by (repeat (first | exact Below.refl _ _ | (refine Below.drew ?_) | (refine Below.setCell ?_ (by simp [mk_size] <;> omega) _) | (refine Below.alloc ?_ (by simp [mk_size] <;> omega) _) | (refine below_mk ?_ (by simp [mk_size] <;> omega) _ _) | (refine Below.trans ?_ (Below.mono (by assumption) (by simp <;> omega)))))⟩) | (refine bodyPost_ret (v := .tuple #[.int .u32 (V), .agg #[.bool true, .bool false, .bool false, .bool false, .bool false]]) ?_ rfl ?_; (focus (simp [results, Tryz.results109, go_sem, ← HV.out, *]; done)); exact ⟨⟨_, _, _, _, _, rfl⟩, by (repeat (first | exact Below.refl _ _ | (refine Below.drew ?_) | (refine Below.setCell ?_ (by simp [mk_size] <;> omega) _) | (refine Below.alloc ?_ (by simp [mk_size] <;> omega) _) | (refine below_mk ?_ (by simp [mk_size] <;> omega) _ _) | (refine Below.trans ?_ (Below.mono (by assumption) (by simp <;> omega)))))⟩) | (refine bodyPost_ret (v := .tuple #[.int .u32 (V), .agg #[.bool false, .bool true, .bool false, .bool false, .bool false]]) ?_ rfl ?_; (focus (simp [results, Tryz.results109, go_sem, ← HV.out, *]; done)); exact ⟨⟨_, _, _, _, _, rfl⟩, by (repeat (first | exact Below.refl _ _ | (refine Below.drew ?_) | (refine Below.setCell ?_ (by simp [mk_size] <;> omega) _) | (refine Below.alloc ?_ (by simp [mk_size] <;> omega) _) | (refine below_mk ?_ (by simp [mk_size] <;> omega) _ _) | (refine Below.trans ?_ (Below.mono (by assumption) (by simp <;> omega)))))⟩))
end Go.Proofs.YtkpfefpmdjjhjaaGreat
