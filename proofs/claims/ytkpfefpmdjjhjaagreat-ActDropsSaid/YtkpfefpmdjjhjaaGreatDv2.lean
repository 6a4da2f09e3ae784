/- The walks of quot.Div, whole.FromInt. -/
import Derived.Test.YtkpfefpmdjjhjaaGreatDiv
import Derived.Lib.Hide
namespace Go.Proofs.YtkpfefpmdjjhjaaGreat
open Go.RowKit Anneal
set_option linter.unusedSimpArgs false
set_option linter.unusedVariables false
attribute [local go_sem] mk_size mk_cell mk_frozen mk_set mk_drew drew_mk lt_inst le_inst
set_option maxRecDepth 20000 in
set_option maxHeartbeats 4000000 in
theorem Div_fin (a b : Int) (a0 : 0 ≤ a) (a1 : a < 4294967296) (b0 : 0 ≤ b) (b1 : b < 4294967296) (hn : oneNan 2 [a, b] = false) (p q : Int) (hp : cls 2 a = p) (hq : cls 2 b = q) (h1 : p ≠ 0) (h2 : p ≠ 3) (h3 : q ≠ 0) (h4 : q ≠ 3)
    (n1 n2 : Bool) (e1 s1 e2 s2 N l : Int) (u1 : 0 < s1) (u2 : s1 < 16777216) (u3 : 0 < s2) (u4 : s2 < 16777216) (v1 : -149 ≤ e1) (v2 : e1 ≤ 104) (v3 : -149 ≤ e2) (v4 : e2 ≤ 104) (w1 : 2305843009213693952 ≤ N) (w2 : N < 4611686018427387904) (l1 : 1 ≤ l) (l2 : l ≤ 62)
    (X1 X : Int) (hX1 : IntKind.i64.wrap (e1 - (62 - l)) = X1) (hX : IntKind.i64.wrap (X1 - e2) = X) (x1 : -10000 ≤ X) (x2 : X ≤ 10000) (K R : Int) (M : Bool) (hK : IntKind.u64.wrap (N.tdiv s2) = K) (hR : N.tmod s2 = R) (hM : (R != 0) = M) (m1 : 0 ≤ K) (m2 : K < 18446744073709551616) (m3 : K ≠ 0)
    (k1 : ∀ w, Calls Tryz.prog 222 #[.int .i64 2, .int .u32 a] w fun e w' => e = .returned (.agg #[.bool n1, .int .i64 e1, .int .u64 s1, .bool false]) ∧ Below w.heap.size w w')
    (k2 : ∀ w, Calls Tryz.prog 222 #[.int .i64 2, .int .u32 b] w fun e w' => e = .returned (.agg #[.bool n2, .int .i64 e2, .int .u64 s2, .bool false]) ∧ Below w.heap.size w w')
    (k3 : ∀ w, Calls Tryz.prog 176 #[.int .u64 s1] w fun e w' => e = .returned (.int .i64 l) ∧ w = w')
    (o : Bool)
    (k4 : ∀ w, Calls Tryz.prog 224 #[.int .u64 s1, .int .i64 (-(62 - l))] w fun e w' => e = .returned (.tuple #[.int .u64 N, .bool o]) ∧ w = w')
    (w : World) :
    Calls Tryz.prog 167 #[.int .i64 2, .int .i64 0, .int .u32 a, .int .u32 b] w (Num5 (pack 2 (!(pS 2 a == pS 2 b)) X K M) w) := by
  have C1 := Lib.hid k1
  have C2 := Lib.hid k2
  have C3 := Lib.hid k3
  have C4 := Lib.hid k4
  clear k1 k2 k3 k4
  have g1 : (p == 0) = false := by simpa using h1
  have g2 : (p == 3) = false := by simpa using h2
  have g3 : (q == 0) = false := by simpa using h3
  have g4 : (q == 3) = false := by simpa using h4
  have g5 : ¬ s2 = 0 := by omega
  have g6 : (R == 0) = !M := by rw [← hM]; simp only [bne, Bool.not_not]
  go_enter Tryz.func167, Tryz.ntmps167
  go_wp2_with (first | (go_at_call 216; (with_reducible refine Calls.mono (sum_Nans2 a b a0 a1 b0 b1 _ _ (by simp [go_sem]) (by simp [go_sem])) ?_); rintro e w1 ⟨⟨q0, rfl⟩, hb⟩; obtain ⟨o0, d0, rfl⟩ := made hb; clear hb) | (go_at_call 174; (with_reducible refine Calls.mono (IsInf2 a a0 a1 _) ?_); rintro e w' ⟨rfl, rfl⟩) | (go_at_call 174; (with_reducible refine Calls.mono (IsInf2 b b0 b1 _) ?_); rintro e w' ⟨rfl, rfl⟩) | (go_at_call 152; (with_reducible refine Calls.mono (format_Neg 2 a (by decide) a0 a1 _) ?_); rintro e w' ⟨rfl, rfl⟩) | (go_at_call 152; (with_reducible refine Calls.mono (format_Neg 2 b (by decide) b0 b1 _) ?_); rintro e w' ⟨rfl, rfl⟩) | (go_at_call 209; (with_reducible refine Calls.mono (format_Class 2 a (by decide) a0 a1 _) ?_); rintro e w' ⟨rfl, rfl⟩) | (go_at_call 209; (with_reducible refine Calls.mono (format_Class 2 b (by decide) b0 b1 _) ?_); rintro e w' ⟨rfl, rfl⟩) | (go_at_call 222; (with_reducible refine Calls.mono (C1.out _) ?_); rintro e w1 ⟨rfl, hb⟩; obtain ⟨o1, d1, rfl⟩ := made hb; clear hb) | (go_at_call 222; (with_reducible refine Calls.mono (C2.out _) ?_); rintro e w1 ⟨rfl, hb⟩; obtain ⟨o2, d2, rfl⟩ := made hb; clear hb) | (go_at_call 176; (with_reducible refine Calls.mono (C3.out _) ?_); rintro e w' ⟨rfl, rfl⟩) | (go_at_call 224; (with_reducible refine Calls.mono (C4.out _) ?_); rintro e w' ⟨rfl, rfl⟩))
  all_goals
    go_region_held3 (fun w' => w'.cell? ⟨w.heap.size + 1 + 1 + o0.size + 1 + o1.size + o2.size, 0, none⟩ = some (.bool n1) ∧ w'.cell? ⟨w.heap.size + 1 + 1 + o0.size + 1 + o1.size + o2.size, 1, none⟩ = some (.int .i64 e1) ∧ w'.cell? ⟨w.heap.size + 1 + 1 + o0.size + 1 + o1.size + o2.size, 2, none⟩ = some (.int .u64 s1) ∧ w'.cell? ⟨w.heap.size + 1 + 1 + o0.size + 1 + o1.size + o2.size, 3, none⟩ = some (.bool false) ∧ w'.cell? ⟨w.heap.size + 1 + 1 + o0.size + 1 + o1.size + o2.size + 1, 0, none⟩ = some (.bool n2) ∧ w'.cell? ⟨w.heap.size + 1 + 1 + o0.size + 1 + o1.size + o2.size + 1, 1, none⟩ = some (.int .i64 e2) ∧ w'.cell? ⟨w.heap.size + 1 + 1 + o0.size + 1 + o1.size + o2.size + 1, 2, none⟩ = some (.int .u64 s2) ∧ w'.cell? ⟨w.heap.size + 1 + 1 + o0.size + 1 + o1.size + o2.size + 1, 3, none⟩ = some (.bool false)) (simp [go_sem, World.cell?_alloc_past]) (first | (go_at_call 220; (with_reducible refine Calls.mono ((round_Pack2 _ M X K m1 m2 (fun h => absurd h m3) x1 x2 _).mono fun _ _ h => h.five) ?_); rintro e w1 ⟨⟨p1, p2, p3, p4, p5, rfl⟩, hb⟩; obtain ⟨o1, d1, rfl⟩ := made hb; clear hb))
    go_wp2
  all_goals
    (first | (refine bodyPost_ret (v := .tuple #[.int .u32 (pack 2 (!(pS 2 a == pS 2 b)) X K M), .agg #[.bool false, .bool false, .bool false, .bool false, .bool false]]) ?_ rfl ?_; (focus (simp [results, Tryz.results167, go_sem, *]; done)); exact ⟨⟨_, _, _, _, _, rfl⟩, by (repeat (first | exact Below.refl _ _ | (refine Below.drew ?_) | (refine Below.setCell ?_ (by simp [mk_size] <;> omega) _) | (refine Below.alloc ?_ (by simp [mk_size] <;> omega) _) | (refine below_mk ?_ (by simp [mk_size] <;> omega) _ _) | (refine Below.trans ?_ (Below.mono (by assumption) (by simp <;> omega)))))⟩) | (refine bodyPost_ret (v := .tuple #[.int .u32 (pack 2 (!(pS 2 a == pS 2 b)) X K M), .agg #[.bool p1, .bool p2, .bool p3, .bool p4, .bool p5]]) ?_ rfl ?_; (focus (simp [results, Tryz.results167, go_sem, *]; done)); exact ⟨⟨_, _, _, _, _, rfl⟩, by (repeat (first | exact Below.refl _ _ | (refine Below.drew ?_) | (refine Below.setCell ?_ (by simp [mk_size] <;> omega) _) | (refine Below.alloc ?_ (by simp [mk_size] <;> omega) _) | (refine below_mk ?_ (by simp [mk_size] <;> omega) _ _) | (refine Below.trans ?_ (Below.mono (by assumption) (by simp <;> omega)))))⟩) | (refine bodyPost_ret (v := .tuple #[.int .u32 (pack 2 (!(pS 2 a == pS 2 b)) X K M), .agg #[.bool true, .bool false, .bool false, .bool false, .bool false]]) ?_ rfl ?_; (focus (simp [results, Tryz.results167, go_sem, *]; done)); exact ⟨⟨_, _, _, _, _, rfl⟩, by (repeat (first | exact Below.refl _ _ | (refine Below.drew ?_) | (refine Below.setCell ?_ (by simp [mk_size] <;> omega) _) | (refine Below.alloc ?_ (by simp [mk_size] <;> omega) _) | (refine below_mk ?_ (by simp [mk_size] <;> omega) _ _) | (refine Below.trans ?_ (Below.mono (by assumption) (by simp <;> omega)))))⟩) | (refine bodyPost_ret (v := .tuple #[.int .u32 (pack 2 (!(pS 2 a == pS 2 b)) X K M), .agg #[.bool false, .bool true, .bool false, .bool false, .bool false]]) ?_ rfl ?_; (focus (simp [results, Tryz.results167, go_sem, *]; done)); exact ⟨⟨_, _, _, _, _, rfl⟩, by (repeat (first | exact Below.refl _ _ | (refine Below.drew ?_) | (refine Below.setCell ?_ (by simp [mk_size] <;> omega) _) | (refine Below.alloc ?_ (by simp [mk_size] <;> omega) _) | (refine below_mk ?_ (by simp [mk_size] <;> omega) _ _) | (refine Below.trans ?_ (Below.mono (by assumption) (by simp <;> omega)))))⟩))
theorem wrap_i64s (n : Int) (h0 : -9223372036854775808 ≤ n) (h1 : n < 9223372036854775808) : IntKind.i64.wrap n = n := by
  first
    | (simp only [IntKind.wrap, IntKind.bits, IntKind.signed]; simp; omega)
    | (simp only [IntKind.wrap, IntKind.bits, IntKind.signed, Int.bmod]; simp; split <;> omega)
theorem quot_range (N s : Int) (w1 : 2305843009213693952 ≤ N) (w2 : N < 4611686018427387904) (u3 : 0 < s) (u4 : s < 16777216) : 0 ≤ N / s ∧ N / s < 4611686018427387904 ∧ N / s ≠ 0 := by
  have h1 : N / s ≤ N := Int.ediv_le_self s (by omega)
  have h2 : 1 ≤ N / s := (Int.le_ediv_iff_mul_le u3).mpr (by omega)
  omega
theorem quot_Div (a b : Int) (a0 : 0 ≤ a) (a1 : a < 4294967296) (b0 : 0 ≤ b) (b1 : b < 4294967296) (w : World) :
    Calls Tryz.prog 167 #[.int .i64 2, .int .i64 0, .int .u32 a, .int .u32 b] w (Num5 (fdiv a b) w) := by
  unfold fdiv
  cases hn : oneNan 2 [a, b]
  · rw [if_neg (by decide)]
    have ca := cls_range 2 a
    have cb := cls_range 2 b
    by_cases ho : cls 2 a = 0 ∨ cls 2 a = 3 ∨ cls 2 b = 0 ∨ cls 2 b = 3
    · have h := Div_odd a b a0 a1 b0 b1 hn _ _ rfl rfl ho w
      unfold divS at h
      have e : ∀ z : Int, (if cls 2 b = 0 then fInf 2 (!(pS 2 a == pS 2 b)) else z) = fInf 2 (!(pS 2 a == pS 2 b)) ∨ (¬ cls 2 b = 0) := by intro z; split <;> simp_all
      by_cases k1 : cls 2 a = cls 2 b ∧ (cls 2 a = 0 ∨ cls 2 a = 3)
      · rw [if_pos k1] at h ⊢; exact h
      rw [if_neg k1] at h ⊢
      by_cases k2 : cls 2 a = 3
      · rw [if_pos k2] at h ⊢; exact h
      rw [if_neg k2] at h ⊢
      by_cases k3 : cls 2 b = 3 ∨ cls 2 a = 0
      · rw [if_pos k3] at h ⊢; exact h
      rw [if_neg k3] at h ⊢
      rw [if_pos (by omega)]; exact h
    · rw [if_neg (by omega), if_neg (by omega), if_neg (by omega), if_neg (by omega)]
      have na : cls 2 a < 4 := by
        simp [oneNan, isNan] at hn; omega
      have nb : cls 2 b < 4 := by
        simp [oneNan, isNan] at hn; omega
      have sa := uS_pos a (by omega) (by omega)
      have sb := uS_pos b (by omega) (by omega)
      obtain ⟨p1, p2⟩ := uS_range a
      obtain ⟨p3, p4⟩ := uS_range b
      obtain ⟨p5, p6⟩ := uE_range a
      obtain ⟨p7, p8⟩ := uE_range b
      obtain ⟨l1, l2, l3, l4⟩ := nrm_range (uS 2 a) sa (by omega)
      obtain ⟨q1, q2, q3⟩ := quot_range _ _ l3 l4 sb p4
      have k4 := fun w => bits_Shift (uS 2 a) (-(62 - bl (uS 2 a))) p1 (by omega) w
      rw [shV_nrm (uS 2 a) sa (by omega)] at k4
      exact Div_fin a b a0 a1 b0 b1 hn _ _ rfl rfl (by omega) (by omega) (by omega) (by omega) (pS 2 a) (pS 2 b) (uE 2 a) (uS 2 a) (uE 2 b) (uS 2 b) (nrm (uS 2 a)) (bl (uS 2 a)) sa p2 sb p4 p5 p6 p7 p8 l3 l4 l1 l2
        (uE 2 a - (62 - bl (uS 2 a))) (uE 2 a - (62 - bl (uS 2 a)) - uE 2 b) (wrap_i64s _ (by omega) (by omega)) (wrap_i64s _ (by omega) (by omega)) (by omega) (by omega)
        (nrm (uS 2 a) / uS 2 b) (nrm (uS 2 a) % uS 2 b) (nrm (uS 2 a) % uS 2 b != 0)
        (by rw [Int.tdiv_eq_ediv_of_nonneg (by omega), wrap_u64]; omega) (Int.tmod_eq_emod_of_nonneg (by omega)) rfl q1 (by omega) q3
        (sum_Of 2 a (by decide) a0 a1) (sum_Of 2 b (by decide) b0 b1) (bits_Len _ p1 (by omega)) _ k4 w
  · rw [if_pos rfl]
    exact Div_nan a b a0 a1 b0 b1 hn w
end Go.Proofs.YtkpfefpmdjjhjaaGreat
