/- The walk of annealref1.Pack. -/
import Derived.Test.YtkpfefpmdjjhjaaGreatRf3
import Derived.Test.YtkpfefpmdjjhjaaGreatMk
import Derived.Test.YtkpfefpmdjjhjaaGreatPk
import Derived.Test.YtkpfefpmdjjhjaaGreatAdd
import Derived.Lib.Hide
namespace Go.Proofs.YtkpfefpmdjjhjaaGreat
open Go.RowKit Anneal
set_option linter.unusedSimpArgs false
set_option linter.unusedVariables false
attribute [local go_sem] mk_size mk_cell mk_frozen mk_set mk_drew drew_mk lt_inst le_inst
theorem dv_val (N : Nat) (n : Int) (h : -63 ≤ n) (h1 : N < 18446744073709551616) : dvV N n = shV N n := by
  unfold dvV
  by_cases c : n ≤ 0
  · rw [if_pos c]
    unfold shV
    rw [if_neg (by omega)]
    by_cases c0 : n = 0
    · subst c0
      rw [if_pos (by omega), show (min (-(0 : Int)) 63).toNat = 0 from rfl]; simp; omega
    · rw [if_neg (by omega), show min (-n) 63 = -n by omega]
  · rw [if_neg c]
    by_cases c2 : 64 < n
    · rw [if_pos c2]; unfold shV; rw [if_pos (by omega)]
    · rw [if_neg c2]
theorem dv_up (N : Nat) (n : Int) (more : Bool) (h : -63 ≤ n) (h0 : 0 < N) (h1 : N < 18446744073709551616) :
    (dvH N n && ((dvR N n || more) || dvV N n % 2 == 1)) = upN (shV N n) (uL N n more) := by
  rw [dv_val N n h h1]
  unfold dvH dvR uL upN
  by_cases c : n ≤ 0
  · rw [if_pos c, if_pos c, if_pos (by omega)]
    cases more <;> simp
  · rw [if_neg c, if_neg c]
    by_cases c2 : 64 < n
    · rw [if_pos c2, if_pos c2]
      have e1 : shB N n = true := by unfold shB; rw [if_pos (by omega)]; simp; omega
      have e2 : shV N (n - 1) = 0 := by unfold shV; rw [if_pos (by omega)]
      rw [e1, e2]; simp
      rw [if_neg (by omega)]; simp
    · rw [if_neg c2, if_neg c2]
      obtain ⟨k, hk⟩ : ∃ k : Nat, n = ((k + 1 : Nat) : Int) := ⟨n.toNat - 1, by omega⟩
      subst hk
      have e1 : (((k + 1 : Nat) : Int) - 1) = ((k : Nat) : Int) := by omega
      have e2 : shB N ((k + 1 : Nat) : Int) = (shB N (k : Int) || shV N (k : Int) % 2 == 1) := by
        rw [shB_nat N _ h1, shB_nat N _ h1, shV_nat N _ h1]; exact (odd_step N k).symm
      rw [e1, e2]
      have hh : shV N (k : Int) % 2 = 0 ∨ shV N (k : Int) % 2 = 1 := by omega
      have c0 : ¬ ((k : Int) + 1 ≤ 0) := by omega
      cases hb : shB N (k : Int) <;> cases more <;> rcases hh with hh | hh <;> simp [hh, c0]
theorem r1_bias2 (w : World) : Calls Tryz.prog 191 #[.int .i64 2] w fun e w' => e = .returned (.int .i64 127) ∧ w = w' := r1_bias 2 (by decide) w
theorem or_small2 (neg : Bool) (q : Int) (q0 : 0 ≤ q) (q1 : q < 8388608) : bits BinOp.or IntKind.u32 (sgB 2 neg) (IntKind.u32.wrap q) = fJoin 2 neg 0 q := by
  have e : IntKind.u32.wrap q = q := by rw [IntKind.wrap_u32]; omega
  rw [e]
  cases neg
  · rw [or32 31 _ _ (by decide) (by decide) (by decide) (by omega) (by omega) (by omega)]; simp [fJoin, sgB, mP, eP]
  · rw [or32 31 _ _ (by decide) (by decide) (by decide) (by omega) (by omega) (by omega)]; simp [fJoin, sgB, mP, eP]
theorem or_pack2 (neg : Bool) (A q : Int) (a0 : 0 ≤ A) (a1 : A < 255) (q0 : 0 ≤ q) (q1 : q < 18446744073709551616) :
    bits BinOp.or IntKind.u32 (bits BinOp.or IntKind.u32 (sgB 2 neg) (IntKind.u32.wrap (IntKind.u32.wrap A * 8388608))) (IntKind.u32.wrap (bits BinOp.and IntKind.u64 q (IntKind.u64.wrap (IntKind.u64.wrap 8388608 - 1)))) = fJoin 2 neg A (q % 8388608) := by
  have e1 : IntKind.u32.wrap (IntKind.u32.wrap A * 8388608) = A * 8388608 := by rw [IntKind.wrap_u32, IntKind.wrap_u32]; omega
  have e2 : IntKind.u64.wrap (IntKind.u64.wrap 8388608 - 1) = 8388607 := rfl
  have e3 : IntKind.u32.wrap (q % 8388608) = q % 8388608 := by rw [IntKind.wrap_u32]; omega
  rw [e1, e2, and64 23 (by decide) 8388607 (by decide) _ q0 q1, show (2 : Int) ^ 23 = 8388608 from rfl, e3]
  have i1 : bits BinOp.or IntKind.u32 (sgB 2 neg) (A * 8388608) = sgB 2 neg + A * 8388608 := by
    cases neg <;> rw [or32 31 _ _ (by decide) (by decide) (by decide) (by omega) (by omega) (by omega)]
  have i2 : sgB 2 neg = 0 ∨ sgB 2 neg = 2147483648 := by cases neg <;> simp [sgB, mP, eP]
  rw [i1, or32 23 _ _ (by omega) (by rw [show (2 : Int) ^ 23 = 8388608 from rfl]; omega) (by omega) (by omega) (by omega) (by omega)]
  rfl
set_option maxRecDepth 100000 in
set_option maxHeartbeats 4000000 in
theorem r1Pack_core2 (exp sig U Q Q1 V L : Int) (neg more H R R2 I u : Bool) (h0 : 0 < sig) (h1 : sig < 18446744073709551616) (b1 : -10000 ≤ exp) (b2 : exp ≤ 10000)
    (u1 : -149 ≤ U) (u2 : U ≤ 10064) (hU : max (exp + L - 1) (-126) - 23 = U) (q0 : 0 ≤ Q) (q1 : Q < 16777216) (l0 : 0 ≤ L) (l1 : L ≤ 64) (hR : (R || more) = R2) (hI : (H || R2) = I) (hQ : Q1 = if u then Q + 1 else Q)
    (cL : ∀ w, Calls Tryz.prog 201 #[.int .u64 sig] w fun e w' => e = .returned (.int .i64 L) ∧ w = w')
    (cD : ∀ w, Calls Tryz.prog 202 #[.int .u64 sig, .int .i64 (U - exp)] w fun e w' => e = .returned (.tuple #[.int .u64 Q, .bool H, .bool R]) ∧ w = w')
    (cP : ∀ w, Calls Tryz.prog 203 #[.int .i64 0, .bool neg, .bool (Q % 2 == 1), .bool H, .bool R2] w fun e w' => e = .returned (.bool u) ∧ w = w')
    (hV : Says 2 neg V Q1 U)
    (w : World) : Calls Tryz.prog 130 #[.int .i64 2, .int .i64 0, .bool neg, .int .i64 exp, .int .u64 sig, .bool more] w (Num5 V w) := by
  have HL := Lib.hid cL
  have HD := Lib.hid cD
  have HP := Lib.hid cP
  have HV := Lib.hid hV
  have HR := Lib.hid hR
  have HI := Lib.hid hI
  have HQ := Lib.hid hQ
  clear cL cD cP hV hR hI hQ
  have s0 : 0 ≤ sig := by omega
  have hx : min (max exp (-10000)) 10000 = exp := by omega
  have s1 : (sig == 0) = false := by simp; omega
  have ha : bits BinOp.and IntKind.u64 Q 1 = Q % 2 := by rw [and64 1 (by decide) 1 (by decide) _ (by omega) (by omega)]; rfl
  go_enter Tryz.func130, Tryz.ntmps130
  go_upto_region 11 with (first | (go_at_call 61; (with_reducible refine Calls.mono (r1W0 _) ?_); rintro e w' ⟨rfl, rfl⟩) | (go_at_call 61; (with_reducible refine Calls.mono (r1W1 _) ?_); rintro e w' ⟨rfl, rfl⟩) | (go_at_call 61; (with_reducible refine Calls.mono (r1W2 _) ?_); rintro e w' ⟨rfl, rfl⟩) | (go_at_call 191; (with_reducible refine Calls.mono (r1_bias2 _) ?_); rintro e w' ⟨rfl, rfl⟩) | (go_at_call 201; (with_reducible refine Calls.mono (HL.out _) ?_); rintro e w' ⟨rfl, rfl⟩) | (go_at_call 202; (with_reducible refine Calls.mono (HD.out _) ?_); rintro e w' ⟨rfl, rfl⟩))
  go_cut [21] (fun v wx => v = .bool R2 ∧ wx = w.alloc (.cells #[.bool false, .bool false, .bool false, .bool false, .bool false] 89))
  case first =>
    have hR := HR.out
    go_wp2
    all_goals (go_meet; exact ⟨by simp_all, rfl⟩)
  case rest =>
    obtain ⟨rfl, rfl⟩ := hcut
    go_upto_region 12 with fail
    go_cut [20, 22] (fun v0 v wx => v0 = .bool H ∧ v = .bool I ∧ wx = w.alloc (.cells #[.bool false, .bool false, .bool false, .bool false, .bool false] 89))
    case first =>
      have hI := HI.out
      go_wp2
      all_goals (go_meet; exact ⟨by simp_all, by simp_all, rfl⟩)
    case rest =>
      obtain ⟨rfl, rfl, rfl⟩ := hcut
      go_upto_if 84 with (first | (go_at_call 203; (with_reducible refine Calls.mono (HP.out _) ?_); rintro e w' ⟨rfl, rfl⟩))
      go_cut [19] (fun v wx => v = .int .u64 Q1 ∧ wx = w.alloc (.cells #[.bool false, .bool false, .bool false, .bool false, .bool false] 89))
      case first =>
        have hQ := HQ.out
        have hw : IntKind.u64.wrap (Q + 1) = Q + 1 := by rw [wrap_u64]; omega
        go_wp2
        all_goals (go_meet; exact ⟨by clear HQ HV; simp_all, rfl⟩)
      case rest =>
        obtain ⟨rfl, rfl⟩ := hcut
        go_upto_region 15 with fail
        go_cut [22, 23] (fun v0 v wx => v0 = .bool I ∧ v = .pointer (some ⟨w.heap.size + 1, 0, none⟩) ∧ ∃ b3 b4 : Bool, wx = (w.alloc (.cells #[.bool false, .bool false, .bool false, .bool false, .bool false] 89)).alloc (.cells #[.bool false, .bool false, .bool false, .bool b3, .bool b4] 89))
        case first =>
          go_wp2
          all_goals (go_meet; exact ⟨by simp_all, by simp, _, _, rfl⟩)
        case rest =>
          obtain ⟨rfl, rfl, b3, b4, rfl⟩ := hcut
          have hq1 : 0 ≤ Q1 ∧ Q1 ≤ 16777216 := by have hQ := HQ.out; split at hQ <;> omega
          obtain ⟨q2, q3⟩ := hq1
          go_wp2_with (first | (go_at_call 61; (with_reducible refine Calls.mono (r1W0 _) ?_); rintro e w' ⟨rfl, rfl⟩) | (go_at_call 61; (with_reducible refine Calls.mono (r1W1 _) ?_); rintro e w' ⟨rfl, rfl⟩) | (go_at_call 61; (with_reducible refine Calls.mono (r1W2 _) ?_); rintro e w' ⟨rfl, rfl⟩) | (go_at_call 191; (with_reducible refine Calls.mono (r1_bias2 _) ?_); rintro e w' ⟨rfl, rfl⟩) | (go_at_call 146; (with_reducible refine Calls.mono (r1_sign _ _ (by decide) _) ?_); rintro e w' ⟨rfl, rfl⟩) | (go_at_call 204; (with_reducible refine Calls.mono (r1_over _ _ (by decide) _) ?_); rintro e w1 ⟨rfl, hb⟩; obtain ⟨o1, d1, rfl⟩ := made hb; clear hb))
          all_goals (try simp only [beq_iff_eq, beq_eq_false_iff_ne, bne_iff_ne, bne_eq_false_iff_eq, ne_eq] at *)
          all_goals (try (exfalso; omega))
          all_goals first
            | (have hv : V = fInf 2 neg := (by first | exact (V_inf 2 neg V Q1 U (U + 23 - (-126) + 1) HV.out (show 8388608 ≤ Q1 by omega) (show Q1 < 16777216 by omega) rfl (show (255 : Int) ≤ _ by omega)).symm | exact (V_inf2 2 neg V Q1 U (U + 1 + 23 - (-126) + 1) HV.out (show Q1 = 16777216 by omega) rfl (show (255 : Int) ≤ _ by omega)).symm)
               refine bodyPost_ret (v := .tuple #[.int .u32 V, .agg #[.bool false, .bool false, .bool true, .bool false, .bool true]]) ?_ rfl ⟨⟨_, _, _, _, _, rfl⟩, by (repeat (first | exact Below.refl _ _ | (refine Below.drew ?_) | (refine Below.setCell ?_ (by simp [mk_size] <;> omega) _) | (refine Below.alloc ?_ (by simp [mk_size] <;> omega) _) | (refine below_mk ?_ (by simp [mk_size] <;> omega) _ _) | (refine Below.trans ?_ (Below.mono (by assumption) (by simp <;> omega)))))⟩
               (simp [results, Tryz.results130, go_sem, hv]; done))
            | (go_region_held3 (fun w' => w'.cell? ⟨w.heap.size + 1, 0, none⟩ = some (.bool false) ∧ w'.cell? ⟨w.heap.size + 1, 1, none⟩ = some (.bool false) ∧ w'.cell? ⟨w.heap.size + 1, 2, none⟩ = some (.bool false) ∧ w'.cell? ⟨w.heap.size + 1, 3, none⟩ = some (.bool b3) ∧ w'.cell? ⟨w.heap.size + 1, 4, none⟩ = some (.bool b4)) (simp [go_sem, World.cell?_alloc_past]) (first | (go_at_call 146; (with_reducible refine Calls.mono (r1_sign _ _ (by decide) _) ?_); rintro e w' ⟨rfl, rfl⟩))
               go_wp2
               refine bodyPost_ret (v := .tuple #[.int .u32 V, .agg #[.bool false, .bool false, .bool false, .bool b3, .bool b4]]) ?_ rfl ⟨⟨_, _, _, _, _, rfl⟩, by (repeat (first | exact Below.refl _ _ | (refine Below.drew ?_) | (refine Below.setCell ?_ (by simp [mk_size] <;> omega) _) | (refine Below.alloc ?_ (by simp [mk_size] <;> omega) _) | (refine below_mk ?_ (by simp [mk_size] <;> omega) _ _) | (refine Below.trans ?_ (Below.mono (by assumption) (by simp <;> omega)))))⟩
               simp [results, Tryz.results130, go_sem])
          all_goals first
            | (rw [or_pack2 neg _ _ (by omega) (by omega) (by omega) (by omega)]; exact V_norm2 2 neg V Q1 U _ _ HV.out (show Q1 = 16777216 by omega) (show _ = U + 1 + 23 - (-126) + 1 by omega) (show _ < (255 : Int) by omega) (by omega))
            | (rw [or_small2 neg _ (by omega) (by omega)]; exact V_small 2 neg V Q1 U _ (by decide) HV.out (by omega) (show Q1 < 8388608 by omega) rfl)
            | (rw [or_pack2 neg _ _ (by omega) (by omega) (by omega) (by omega)]; exact V_norm 2 neg V Q1 U _ _ HV.out (show 8388608 ≤ Q1 by omega) (show Q1 < 16777216 by omega) (show _ = U + 23 - (-126) + 1 by omega) (show _ < (255 : Int) by omega) (show _ = Q1 - 8388608 by omega))
theorem r1_Pack2 (neg more : Bool) (exp sig : Int) (h0 : 0 ≤ sig) (h1 : sig < 18446744073709551616) (hm : sig = 0 → more = false) (b1 : -10000 ≤ exp) (b2 : exp ≤ 10000) (w : World) :
    Calls Tryz.prog 130 #[.int .i64 2, .int .i64 0, .bool neg, .int .i64 exp, .int .u64 sig, .bool more] w (Num5 (pack 2 neg exp sig more) w) := by
  rcases Int.lt_or_eq_of_le h0 with hs | hs
  · obtain ⟨l0, l1⟩ := bl_range sig h0 h1
    have hf : Fm 2 := by decide
    obtain ⟨q0, q9, _⟩ := qU_range 2 exp sig hf hs h1
    have u0 : unI 2 exp sig = max (exp + bl sig - 1) (-126) - 23 := by simp only [unI, leastE, mW]; simp [hs]; omega
    obtain ⟨bb, _, _⟩ := bl_spec sig hs
    have q8 : qU 2 exp sig < 16777216 := by simp only [mP] at q9; simp at q9; omega
    obtain ⟨N, rfl⟩ := Int.eq_ofNat_of_zero_le h0
    have dl : -63 ≤ unI 2 exp N - exp := by omega
    have hv := dv_val N (unI 2 exp N - exp) dl (by omega)
    have hp := dv_up N (unI 2 exp N - exp) more dl (by omega) (by omega)
    have cD := r1_divide N (unI 2 exp N - exp) (by omega) (by omega) (by omega)
    have cP := r1_up neg (qU 2 exp N % 2 == 1) (dvH N (unI 2 exp N - exp)) (dvR N (unI 2 exp N - exp) || more)
    rw [hv] at hp cD
    have e : shV N (unI 2 exp N - exp) = qU 2 exp N := rfl
    rw [e] at hp cD
    rw [hp] at cP
    exact r1Pack_core2 exp N (unI 2 exp N) (qU 2 exp N) (q1 2 exp N more) _ (bl N) neg more _ _ _ _ _ hs h1 b1 b2 (by omega) (by omega) u0.symm q0 q8 l0 l1 rfl rfl rfl (r1_Len N h0 h1) cD cP
      (fun q un hq => pack_eq 2 neg exp N more hf hs h1 q un hq) w
  · subst hs
    obtain rfl := hm rfl
    have hx : min (max exp (-10000)) 10000 = exp := by omega
    go_enter Tryz.func130, Tryz.ntmps130
    go_wp2_with (first | (go_at_call 63; (with_reducible refine Calls.mono (r1_Zero 2 neg (by decide) _) ?_); rintro e w' ⟨rfl, rfl⟩))
    refine bodyPost_ret (v := .tuple #[.int .u32 (pack 2 neg exp 0 false), .agg #[.bool false, .bool false, .bool false, .bool false, .bool false]]) ?_ rfl ⟨⟨_, _, _, _, _, rfl⟩, by (repeat (first | exact Below.refl _ _ | (refine Below.drew ?_) | (refine Below.setCell ?_ (by simp [mk_size] <;> omega) _) | (refine Below.alloc ?_ (by simp [mk_size] <;> omega) _) | (refine below_mk ?_ (by simp [mk_size] <;> omega) _ _) | (refine Below.trans ?_ (Below.mono (by assumption) (by simp <;> omega)))))⟩
    simp [results, Tryz.results130, go_sem, pack]
end Go.Proofs.YtkpfefpmdjjhjaaGreat
