/- The walk of round.Pack at format 0. -/
import Derived.Test.YtkpfefpmdjjhjaaGreatPac
namespace Go.Proofs.YtkpfefpmdjjhjaaGreat
open Go.RowKit Anneal
set_option linter.unusedSimpArgs false
set_option linter.unusedVariables false
set_option maxRecDepth 100000 in
set_option maxHeartbeats 4000000 in
theorem Pack_core0af (exp sig U Q L V : Int) (neg more : Bool) (hL : L = 0) (h0 : 0 < sig) (h1 : sig < 18446744073709551616) (b1 : -10000 ≤ exp) (b2 : exp ≤ 10000)
    (u1 : -24 ≤ U) (u2 : U ≤ 10064) (q0 : 0 ≤ Q) (q1 : Q < 2048) (l0 : 0 ≤ bl sig) (l1 : bl sig ≤ 64)
    (cU : ∀ w, Calls Tryz.prog 245 #[.int .i64 0, .int .i64 exp, .int .u64 sig] w fun e w' => e = .returned (.int .i64 U) ∧ w = w')
    (cN : ∀ w, Calls Tryz.prog 252 #[.int .u64 sig, .int .i64 (U - exp), .bool more] w fun e w' => e = .returned (.tuple #[.int .u64 Q, .int .i64 L]) ∧ w = w')
    (cP : ∀ w, Calls Tryz.prog 253 #[.int .i64 0, .bool neg, .int .u64 Q, .int .i64 L] w fun e w' => e = .returned (.bool false) ∧ w = w')
    (cL : ∀ w, Calls Tryz.prog 176 #[.int .u64 sig] w fun e w' => e = .returned (.int .i64 (bl sig)) ∧ w = w')
    (hV : Says 0 neg V Q U)
    (w : World) : Calls Tryz.prog 220 #[.int .i64 0, .int .i64 0, .bool neg, .int .i64 exp, .int .u64 sig, .bool more] w (Num V w) := by
  have HU := Lib.hid cU
  have HN := Lib.hid cN
  have HP := Lib.hid cP
  have HL := Lib.hid cL
  have HV := Lib.hid hV
  clear cU cN cP cL hV
  have s0 : 0 ≤ sig := by omega
  have hx : min (max exp (-10000)) 10000 = exp := by omega
  have s1 : (sig == 0) = false := by simp; omega
  subst hL
  go_enter Tryz.func220, Tryz.ntmps220
  go_wp2_with (first | (go_at_call 210; (with_reducible refine Calls.mono (fmtW0 _) ?_); rintro e w' ⟨rfl, rfl⟩) | (go_at_call 210; (with_reducible refine Calls.mono (fmtW1 _) ?_); rintro e w' ⟨rfl, rfl⟩) | (go_at_call 210; (with_reducible refine Calls.mono (fmtW2 _) ?_); rintro e w' ⟨rfl, rfl⟩) | (go_at_call 232; (with_reducible refine Calls.mono (fmtL0 _) ?_); rintro e w' ⟨rfl, rfl⟩) | (go_at_call 232; (with_reducible refine Calls.mono (fmtL1 _) ?_); rintro e w' ⟨rfl, rfl⟩) | (go_at_call 232; (with_reducible refine Calls.mono (fmtL2 _) ?_); rintro e w' ⟨rfl, rfl⟩) | (go_at_call 212; (with_reducible refine Calls.mono (fmtT0 _) ?_); rintro e w' ⟨rfl, rfl⟩) | (go_at_call 212; (with_reducible refine Calls.mono (fmtT1 _) ?_); rintro e w' ⟨rfl, rfl⟩) | (go_at_call 212; (with_reducible refine Calls.mono (fmtT2 _) ?_); rintro e w' ⟨rfl, rfl⟩) | (go_at_call 245; (with_reducible refine Calls.mono (HU.out _) ?_); rintro e w' ⟨rfl, rfl⟩) | (go_at_call 252; (with_reducible refine Calls.mono (HN.out _) ?_); rintro e w' ⟨rfl, rfl⟩) | (go_at_call 253; (with_reducible refine Calls.mono (HP.out _) ?_); rintro e w' ⟨rfl, rfl⟩) | (go_at_call 176; (with_reducible refine Calls.mono (HL.out _) ?_); rintro e w' ⟨rfl, rfl⟩) | (go_at_call 254; (with_reducible refine Calls.mono (round_beyond _ neg (by decide) _) ?_); rintro e w1 ⟨rfl, hb⟩; obtain ⟨hc1, hf1⟩ := bcell hb; have hz := hb.size))
  all_goals first
      | (go_region_held3 (fun w' => w'.cell? ⟨w.heap.size + 1, 0, none⟩ = some (.bool false) ∧ w'.cell? ⟨w.heap.size + 1, 1, none⟩ = some (.bool false) ∧ w'.cell? ⟨w.heap.size + 1, 2, none⟩ = some (.bool false) ∧ w'.cell? ⟨w.heap.size + 1, 3, none⟩ = some (.bool false) ∧ w'.cell? ⟨w.heap.size + 1, 4, none⟩ = some (.bool false)) (simp [go_sem, World.cell?_alloc_past]) (first | (go_at_call 247; (with_reducible refine Calls.mono (bits_Cut10 _ (by omega) (by omega) _) ?_); rintro e w' ⟨rfl, rfl⟩) | (go_at_call 211; (with_reducible refine Calls.mono (format_Join _ neg _ _ (by decide) (by omega) (by simp [eP]; try omega) (by first | omega | (rw [IntKind.wrap_u32]; omega)) (by simp [mP]; first | omega | (rw [IntKind.wrap_u32]; omega)) _) ?_); rintro e w' ⟨rfl, rfl⟩))
         go_wp2
         refine bodyPost_ret (v := .tuple #[.int .u32 V, .agg #[.bool false, .bool false, .bool false, .bool false, .bool false]]) ?_ rfl ⟨⟨_, _, _, rfl⟩, by (repeat (first | exact Below.refl _ _ | (refine Below.drew ?_) | (refine Below.setCell ?_ (by simp) _) | (refine Below.alloc ?_ (by simp) _) | (refine Below.trans ?_ (hb.mono (by simp)))))⟩
         simp [results, Tryz.results220, go_sem])
      | (refine bodyPost_ret (v := .tuple #[.int .u32 V, .agg #[.bool false, .bool false, .bool true, .bool false, .bool true]]) ?_ rfl ⟨⟨_, _, _, rfl⟩, by (repeat (first | exact Below.refl _ _ | (refine Below.drew ?_) | (refine Below.setCell ?_ (by simp) _) | (refine Below.alloc ?_ (by simp) _) | (refine Below.trans ?_ (hb.mono (by simp)))))⟩
         simp [results, Tryz.results220, hc1, go_sem])
  all_goals (simp only [beq_iff_eq, beq_eq_false_iff_ne, bne_iff_ne, bne_eq_false_iff_eq, ne_eq] at *)
  all_goals first
      | exact V_small 0 neg V Q U _ (by decide) HV.out (by omega) (show Q < 1024 by omega) (by rw [IntKind.wrap_u32]; omega)
      | exact V_norm 0 neg V Q U _ _ HV.out (show 1024 ≤ Q by omega) (show Q < 2048 by omega) (show _ = U + 10 - (-14) + 1 by omega) (show _ < (31 : Int) by omega) (show _ = Q - 1024 by rw [IntKind.wrap_u32]; omega)
      | exact V_inf 0 neg V Q U (U + 10 - (-14) + 1) HV.out (show 1024 ≤ Q by omega) (show Q < 2048 by omega) rfl (show (31 : Int) ≤ _ by omega)
      | exact V_norm2 0 neg V Q U _ _ HV.out (show Q = 2048 by omega) (show _ = U + 1 + 10 - (-14) + 1 by omega) (show _ < (31 : Int) by omega) (by rw [IntKind.wrap_u32]; omega)
      | exact V_inf2 0 neg V Q U (U + 1 + 10 - (-14) + 1) HV.out (show Q = 2048 by omega) rfl (show (31 : Int) ≤ _ by omega)
set_option maxRecDepth 100000 in
set_option maxHeartbeats 4000000 in
theorem Pack_core0bf (exp sig U Q L V : Int) (neg more : Bool) (hL : ¬L = 0) (h0 : 0 < sig) (h1 : sig < 18446744073709551616) (b1 : -10000 ≤ exp) (b2 : exp ≤ 10000)
    (u1 : -24 ≤ U) (u2 : U ≤ 10064) (q0 : 0 ≤ Q) (q1 : Q < 2048) (l0 : 0 ≤ bl sig) (l1 : bl sig ≤ 64)
    (cU : ∀ w, Calls Tryz.prog 245 #[.int .i64 0, .int .i64 exp, .int .u64 sig] w fun e w' => e = .returned (.int .i64 U) ∧ w = w')
    (cN : ∀ w, Calls Tryz.prog 252 #[.int .u64 sig, .int .i64 (U - exp), .bool more] w fun e w' => e = .returned (.tuple #[.int .u64 Q, .int .i64 L]) ∧ w = w')
    (cP : ∀ w, Calls Tryz.prog 253 #[.int .i64 0, .bool neg, .int .u64 Q, .int .i64 L] w fun e w' => e = .returned (.bool false) ∧ w = w')
    (cL : ∀ w, Calls Tryz.prog 176 #[.int .u64 sig] w fun e w' => e = .returned (.int .i64 (bl sig)) ∧ w = w')
    (hV : Says 0 neg V Q U)
    (w : World) : Calls Tryz.prog 220 #[.int .i64 0, .int .i64 0, .bool neg, .int .i64 exp, .int .u64 sig, .bool more] w (Num V w) := by
  have HU := Lib.hid cU
  have HN := Lib.hid cN
  have HP := Lib.hid cP
  have HL := Lib.hid cL
  have HV := Lib.hid hV
  clear cU cN cP cL hV
  have s0 : 0 ≤ sig := by omega
  have hx : min (max exp (-10000)) 10000 = exp := by omega
  have s1 : (sig == 0) = false := by simp; omega
  have n1 : (L == 0) = false := by simpa using hL
  have n2 : (L != 0) = true := by simpa using hL
  go_enter Tryz.func220, Tryz.ntmps220
  go_wp2_with (first | (go_at_call 210; (with_reducible refine Calls.mono (fmtW0 _) ?_); rintro e w' ⟨rfl, rfl⟩) | (go_at_call 210; (with_reducible refine Calls.mono (fmtW1 _) ?_); rintro e w' ⟨rfl, rfl⟩) | (go_at_call 210; (with_reducible refine Calls.mono (fmtW2 _) ?_); rintro e w' ⟨rfl, rfl⟩) | (go_at_call 232; (with_reducible refine Calls.mono (fmtL0 _) ?_); rintro e w' ⟨rfl, rfl⟩) | (go_at_call 232; (with_reducible refine Calls.mono (fmtL1 _) ?_); rintro e w' ⟨rfl, rfl⟩) | (go_at_call 232; (with_reducible refine Calls.mono (fmtL2 _) ?_); rintro e w' ⟨rfl, rfl⟩) | (go_at_call 212; (with_reducible refine Calls.mono (fmtT0 _) ?_); rintro e w' ⟨rfl, rfl⟩) | (go_at_call 212; (with_reducible refine Calls.mono (fmtT1 _) ?_); rintro e w' ⟨rfl, rfl⟩) | (go_at_call 212; (with_reducible refine Calls.mono (fmtT2 _) ?_); rintro e w' ⟨rfl, rfl⟩) | (go_at_call 245; (with_reducible refine Calls.mono (HU.out _) ?_); rintro e w' ⟨rfl, rfl⟩) | (go_at_call 252; (with_reducible refine Calls.mono (HN.out _) ?_); rintro e w' ⟨rfl, rfl⟩) | (go_at_call 253; (with_reducible refine Calls.mono (HP.out _) ?_); rintro e w' ⟨rfl, rfl⟩) | (go_at_call 176; (with_reducible refine Calls.mono (HL.out _) ?_); rintro e w' ⟨rfl, rfl⟩) | (go_at_call 254; (with_reducible refine Calls.mono (round_beyond _ neg (by decide) _) ?_); rintro e w1 ⟨rfl, hb⟩; obtain ⟨hc1, hf1⟩ := bcell hb; have hz := hb.size))
  all_goals first
      | (go_region_held3 (fun w' => w'.cell? ⟨w.heap.size + 1, 0, none⟩ = some (.bool false) ∧ w'.cell? ⟨w.heap.size + 1, 1, none⟩ = some (.bool false) ∧ w'.cell? ⟨w.heap.size + 1, 2, none⟩ = some (.bool false) ∧ w'.cell? ⟨w.heap.size + 1, 3, none⟩ = some (.bool (decide (exp + bl sig - 1 < -14))) ∧ w'.cell? ⟨w.heap.size + 1, 4, none⟩ = some (.bool true)) (simp [go_sem, World.cell?_alloc_past]) (first | (go_at_call 247; (with_reducible refine Calls.mono (bits_Cut10 _ (by omega) (by omega) _) ?_); rintro e w' ⟨rfl, rfl⟩) | (go_at_call 211; (with_reducible refine Calls.mono (format_Join _ neg _ _ (by decide) (by omega) (by simp [eP]; try omega) (by first | omega | (rw [IntKind.wrap_u32]; omega)) (by simp [mP]; first | omega | (rw [IntKind.wrap_u32]; omega)) _) ?_); rintro e w' ⟨rfl, rfl⟩))
         go_wp2
         refine bodyPost_ret (v := .tuple #[.int .u32 V, .agg #[.bool false, .bool false, .bool false, .bool (decide (exp + bl sig - 1 < -14)), .bool true]]) ?_ rfl ⟨⟨_, _, _, rfl⟩, by (repeat (first | exact Below.refl _ _ | (refine Below.drew ?_) | (refine Below.setCell ?_ (by simp) _) | (refine Below.alloc ?_ (by simp) _) | (refine Below.trans ?_ (hb.mono (by simp)))))⟩
         simp [results, Tryz.results220, go_sem])
      | (refine bodyPost_ret (v := .tuple #[.int .u32 V, .agg #[.bool false, .bool false, .bool true, .bool false, .bool true]]) ?_ rfl ⟨⟨_, _, _, rfl⟩, by (repeat (first | exact Below.refl _ _ | (refine Below.drew ?_) | (refine Below.setCell ?_ (by simp) _) | (refine Below.alloc ?_ (by simp) _) | (refine Below.trans ?_ (hb.mono (by simp)))))⟩
         simp [results, Tryz.results220, hc1, go_sem])
  all_goals (simp only [beq_iff_eq, beq_eq_false_iff_ne, bne_iff_ne, bne_eq_false_iff_eq, ne_eq] at *)
  all_goals first
      | exact V_small 0 neg V Q U _ (by decide) HV.out (by omega) (show Q < 1024 by omega) (by rw [IntKind.wrap_u32]; omega)
      | exact V_norm 0 neg V Q U _ _ HV.out (show 1024 ≤ Q by omega) (show Q < 2048 by omega) (show _ = U + 10 - (-14) + 1 by omega) (show _ < (31 : Int) by omega) (show _ = Q - 1024 by rw [IntKind.wrap_u32]; omega)
      | exact V_inf 0 neg V Q U (U + 10 - (-14) + 1) HV.out (show 1024 ≤ Q by omega) (show Q < 2048 by omega) rfl (show (31 : Int) ≤ _ by omega)
      | exact V_norm2 0 neg V Q U _ _ HV.out (show Q = 2048 by omega) (show _ = U + 1 + 10 - (-14) + 1 by omega) (show _ < (31 : Int) by omega) (by rw [IntKind.wrap_u32]; omega)
      | exact V_inf2 0 neg V Q U (U + 1 + 10 - (-14) + 1) HV.out (show Q = 2048 by omega) rfl (show (31 : Int) ≤ _ by omega)
set_option maxRecDepth 100000 in
set_option maxHeartbeats 4000000 in
theorem Pack_core0at (exp sig U Q L V : Int) (neg more : Bool) (hL : L = 0) (h0 : 0 < sig) (h1 : sig < 18446744073709551616) (b1 : -10000 ≤ exp) (b2 : exp ≤ 10000)
    (u1 : -24 ≤ U) (u2 : U ≤ 10064) (q0 : 0 ≤ Q) (q1 : Q < 2048) (l0 : 0 ≤ bl sig) (l1 : bl sig ≤ 64)
    (cU : ∀ w, Calls Tryz.prog 245 #[.int .i64 0, .int .i64 exp, .int .u64 sig] w fun e w' => e = .returned (.int .i64 U) ∧ w = w')
    (cN : ∀ w, Calls Tryz.prog 252 #[.int .u64 sig, .int .i64 (U - exp), .bool more] w fun e w' => e = .returned (.tuple #[.int .u64 Q, .int .i64 L]) ∧ w = w')
    (cP : ∀ w, Calls Tryz.prog 253 #[.int .i64 0, .bool neg, .int .u64 Q, .int .i64 L] w fun e w' => e = .returned (.bool true) ∧ w = w')
    (cL : ∀ w, Calls Tryz.prog 176 #[.int .u64 sig] w fun e w' => e = .returned (.int .i64 (bl sig)) ∧ w = w')
    (hV : Says 0 neg V (Q + 1) U)
    (w : World) : Calls Tryz.prog 220 #[.int .i64 0, .int .i64 0, .bool neg, .int .i64 exp, .int .u64 sig, .bool more] w (Num V w) := by
  have HU := Lib.hid cU
  have HN := Lib.hid cN
  have HP := Lib.hid cP
  have HL := Lib.hid cL
  have HV := Lib.hid hV
  clear cU cN cP cL hV
  have s0 : 0 ≤ sig := by omega
  have hx : min (max exp (-10000)) 10000 = exp := by omega
  have s1 : (sig == 0) = false := by simp; omega
  subst hL
  go_enter Tryz.func220, Tryz.ntmps220
  go_wp2_with (first | (go_at_call 210; (with_reducible refine Calls.mono (fmtW0 _) ?_); rintro e w' ⟨rfl, rfl⟩) | (go_at_call 210; (with_reducible refine Calls.mono (fmtW1 _) ?_); rintro e w' ⟨rfl, rfl⟩) | (go_at_call 210; (with_reducible refine Calls.mono (fmtW2 _) ?_); rintro e w' ⟨rfl, rfl⟩) | (go_at_call 232; (with_reducible refine Calls.mono (fmtL0 _) ?_); rintro e w' ⟨rfl, rfl⟩) | (go_at_call 232; (with_reducible refine Calls.mono (fmtL1 _) ?_); rintro e w' ⟨rfl, rfl⟩) | (go_at_call 232; (with_reducible refine Calls.mono (fmtL2 _) ?_); rintro e w' ⟨rfl, rfl⟩) | (go_at_call 212; (with_reducible refine Calls.mono (fmtT0 _) ?_); rintro e w' ⟨rfl, rfl⟩) | (go_at_call 212; (with_reducible refine Calls.mono (fmtT1 _) ?_); rintro e w' ⟨rfl, rfl⟩) | (go_at_call 212; (with_reducible refine Calls.mono (fmtT2 _) ?_); rintro e w' ⟨rfl, rfl⟩) | (go_at_call 245; (with_reducible refine Calls.mono (HU.out _) ?_); rintro e w' ⟨rfl, rfl⟩) | (go_at_call 252; (with_reducible refine Calls.mono (HN.out _) ?_); rintro e w' ⟨rfl, rfl⟩) | (go_at_call 253; (with_reducible refine Calls.mono (HP.out _) ?_); rintro e w' ⟨rfl, rfl⟩) | (go_at_call 176; (with_reducible refine Calls.mono (HL.out _) ?_); rintro e w' ⟨rfl, rfl⟩) | (go_at_call 254; (with_reducible refine Calls.mono (round_beyond _ neg (by decide) _) ?_); rintro e w1 ⟨rfl, hb⟩; obtain ⟨hc1, hf1⟩ := bcell hb; have hz := hb.size))
  all_goals first
      | (go_region_held3 (fun w' => w'.cell? ⟨w.heap.size + 1, 0, none⟩ = some (.bool false) ∧ w'.cell? ⟨w.heap.size + 1, 1, none⟩ = some (.bool false) ∧ w'.cell? ⟨w.heap.size + 1, 2, none⟩ = some (.bool false) ∧ w'.cell? ⟨w.heap.size + 1, 3, none⟩ = some (.bool false) ∧ w'.cell? ⟨w.heap.size + 1, 4, none⟩ = some (.bool false)) (simp [go_sem, World.cell?_alloc_past]) (first | (go_at_call 247; (with_reducible refine Calls.mono (bits_Cut10 _ (by omega) (by omega) _) ?_); rintro e w' ⟨rfl, rfl⟩) | (go_at_call 211; (with_reducible refine Calls.mono (format_Join _ neg _ _ (by decide) (by omega) (by simp [eP]; try omega) (by first | omega | (rw [IntKind.wrap_u32]; omega)) (by simp [mP]; first | omega | (rw [IntKind.wrap_u32]; omega)) _) ?_); rintro e w' ⟨rfl, rfl⟩))
         go_wp2
         refine bodyPost_ret (v := .tuple #[.int .u32 V, .agg #[.bool false, .bool false, .bool false, .bool false, .bool false]]) ?_ rfl ⟨⟨_, _, _, rfl⟩, by (repeat (first | exact Below.refl _ _ | (refine Below.drew ?_) | (refine Below.setCell ?_ (by simp) _) | (refine Below.alloc ?_ (by simp) _) | (refine Below.trans ?_ (hb.mono (by simp)))))⟩
         simp [results, Tryz.results220, go_sem])
      | (refine bodyPost_ret (v := .tuple #[.int .u32 V, .agg #[.bool false, .bool false, .bool true, .bool false, .bool true]]) ?_ rfl ⟨⟨_, _, _, rfl⟩, by (repeat (first | exact Below.refl _ _ | (refine Below.drew ?_) | (refine Below.setCell ?_ (by simp) _) | (refine Below.alloc ?_ (by simp) _) | (refine Below.trans ?_ (hb.mono (by simp)))))⟩
         simp [results, Tryz.results220, hc1, go_sem])
  all_goals (simp only [beq_iff_eq, beq_eq_false_iff_ne, bne_iff_ne, bne_eq_false_iff_eq, ne_eq] at *)
  all_goals first
      | exact V_small 0 neg V (Q + 1) U _ (by decide) HV.out (by omega) (show (Q + 1) < 1024 by omega) (by rw [IntKind.wrap_u32]; omega)
      | exact V_norm 0 neg V (Q + 1) U _ _ HV.out (show 1024 ≤ (Q + 1) by omega) (show (Q + 1) < 2048 by omega) (show _ = U + 10 - (-14) + 1 by omega) (show _ < (31 : Int) by omega) (show _ = (Q + 1) - 1024 by rw [IntKind.wrap_u32]; omega)
      | exact V_inf 0 neg V (Q + 1) U (U + 10 - (-14) + 1) HV.out (show 1024 ≤ (Q + 1) by omega) (show (Q + 1) < 2048 by omega) rfl (show (31 : Int) ≤ _ by omega)
      | exact V_norm2 0 neg V (Q + 1) U _ _ HV.out (show (Q + 1) = 2048 by omega) (show _ = U + 1 + 10 - (-14) + 1 by omega) (show _ < (31 : Int) by omega) (by rw [IntKind.wrap_u32]; omega)
      | exact V_inf2 0 neg V (Q + 1) U (U + 1 + 10 - (-14) + 1) HV.out (show (Q + 1) = 2048 by omega) rfl (show (31 : Int) ≤ _ by omega)
set_option maxRecDepth 100000 in
set_option maxHeartbeats 4000000 in
theorem Pack_core0bt (exp sig U Q L V : Int) (neg more : Bool) (hL : ¬L = 0) (h0 : 0 < sig) (h1 : sig < 18446744073709551616) (b1 : -10000 ≤ exp) (b2 : exp ≤ 10000)
    (u1 : -24 ≤ U) (u2 : U ≤ 10064) (q0 : 0 ≤ Q) (q1 : Q < 2048) (l0 : 0 ≤ bl sig) (l1 : bl sig ≤ 64)
    (cU : ∀ w, Calls Tryz.prog 245 #[.int .i64 0, .int .i64 exp, .int .u64 sig] w fun e w' => e = .returned (.int .i64 U) ∧ w = w')
    (cN : ∀ w, Calls Tryz.prog 252 #[.int .u64 sig, .int .i64 (U - exp), .bool more] w fun e w' => e = .returned (.tuple #[.int .u64 Q, .int .i64 L]) ∧ w = w')
    (cP : ∀ w, Calls Tryz.prog 253 #[.int .i64 0, .bool neg, .int .u64 Q, .int .i64 L] w fun e w' => e = .returned (.bool true) ∧ w = w')
    (cL : ∀ w, Calls Tryz.prog 176 #[.int .u64 sig] w fun e w' => e = .returned (.int .i64 (bl sig)) ∧ w = w')
    (hV : Says 0 neg V (Q + 1) U)
    (w : World) : Calls Tryz.prog 220 #[.int .i64 0, .int .i64 0, .bool neg, .int .i64 exp, .int .u64 sig, .bool more] w (Num V w) := by
  have HU := Lib.hid cU
  have HN := Lib.hid cN
  have HP := Lib.hid cP
  have HL := Lib.hid cL
  have HV := Lib.hid hV
  clear cU cN cP cL hV
  have s0 : 0 ≤ sig := by omega
  have hx : min (max exp (-10000)) 10000 = exp := by omega
  have s1 : (sig == 0) = false := by simp; omega
  have n1 : (L == 0) = false := by simpa using hL
  have n2 : (L != 0) = true := by simpa using hL
  go_enter Tryz.func220, Tryz.ntmps220
  go_wp2_with (first | (go_at_call 210; (with_reducible refine Calls.mono (fmtW0 _) ?_); rintro e w' ⟨rfl, rfl⟩) | (go_at_call 210; (with_reducible refine Calls.mono (fmtW1 _) ?_); rintro e w' ⟨rfl, rfl⟩) | (go_at_call 210; (with_reducible refine Calls.mono (fmtW2 _) ?_); rintro e w' ⟨rfl, rfl⟩) | (go_at_call 232; (with_reducible refine Calls.mono (fmtL0 _) ?_); rintro e w' ⟨rfl, rfl⟩) | (go_at_call 232; (with_reducible refine Calls.mono (fmtL1 _) ?_); rintro e w' ⟨rfl, rfl⟩) | (go_at_call 232; (with_reducible refine Calls.mono (fmtL2 _) ?_); rintro e w' ⟨rfl, rfl⟩) | (go_at_call 212; (with_reducible refine Calls.mono (fmtT0 _) ?_); rintro e w' ⟨rfl, rfl⟩) | (go_at_call 212; (with_reducible refine Calls.mono (fmtT1 _) ?_); rintro e w' ⟨rfl, rfl⟩) | (go_at_call 212; (with_reducible refine Calls.mono (fmtT2 _) ?_); rintro e w' ⟨rfl, rfl⟩) | (go_at_call 245; (with_reducible refine Calls.mono (HU.out _) ?_); rintro e w' ⟨rfl, rfl⟩) | (go_at_call 252; (with_reducible refine Calls.mono (HN.out _) ?_); rintro e w' ⟨rfl, rfl⟩) | (go_at_call 253; (with_reducible refine Calls.mono (HP.out _) ?_); rintro e w' ⟨rfl, rfl⟩) | (go_at_call 176; (with_reducible refine Calls.mono (HL.out _) ?_); rintro e w' ⟨rfl, rfl⟩) | (go_at_call 254; (with_reducible refine Calls.mono (round_beyond _ neg (by decide) _) ?_); rintro e w1 ⟨rfl, hb⟩; obtain ⟨hc1, hf1⟩ := bcell hb; have hz := hb.size))
  all_goals first
      | (go_region_held3 (fun w' => w'.cell? ⟨w.heap.size + 1, 0, none⟩ = some (.bool false) ∧ w'.cell? ⟨w.heap.size + 1, 1, none⟩ = some (.bool false) ∧ w'.cell? ⟨w.heap.size + 1, 2, none⟩ = some (.bool false) ∧ w'.cell? ⟨w.heap.size + 1, 3, none⟩ = some (.bool (decide (exp + bl sig - 1 < -14))) ∧ w'.cell? ⟨w.heap.size + 1, 4, none⟩ = some (.bool true)) (simp [go_sem, World.cell?_alloc_past]) (first | (go_at_call 247; (with_reducible refine Calls.mono (bits_Cut10 _ (by omega) (by omega) _) ?_); rintro e w' ⟨rfl, rfl⟩) | (go_at_call 211; (with_reducible refine Calls.mono (format_Join _ neg _ _ (by decide) (by omega) (by simp [eP]; try omega) (by first | omega | (rw [IntKind.wrap_u32]; omega)) (by simp [mP]; first | omega | (rw [IntKind.wrap_u32]; omega)) _) ?_); rintro e w' ⟨rfl, rfl⟩))
         go_wp2
         refine bodyPost_ret (v := .tuple #[.int .u32 V, .agg #[.bool false, .bool false, .bool false, .bool (decide (exp + bl sig - 1 < -14)), .bool true]]) ?_ rfl ⟨⟨_, _, _, rfl⟩, by (repeat (first | exact Below.refl _ _ | (refine Below.drew ?_) | (refine Below.setCell ?_ (by simp) _) | (refine Below.alloc ?_ (by simp) _) | (refine Below.trans ?_ (hb.mono (by simp)))))⟩
         simp [results, Tryz.results220, go_sem])
      | (refine bodyPost_ret (v := .tuple #[.int .u32 V, .agg #[.bool false, .bool false, .bool true, .bool false, .bool true]]) ?_ rfl ⟨⟨_, _, _, rfl⟩, by (repeat (first | exact Below.refl _ _ | (refine Below.drew ?_) | (refine Below.setCell ?_ (by simp) _) | (refine Below.alloc ?_ (by simp) _) | (refine Below.trans ?_ (hb.mono (by simp)))))⟩
         simp [results, Tryz.results220, hc1, go_sem])
  all_goals (simp only [beq_iff_eq, beq_eq_false_iff_ne, bne_iff_ne, bne_eq_false_iff_eq, ne_eq] at *)
  all_goals first
      | exact V_small 0 neg V (Q + 1) U _ (by decide) HV.out (by omega) (show (Q + 1) < 1024 by omega) (by rw [IntKind.wrap_u32]; omega)
      | exact V_norm 0 neg V (Q + 1) U _ _ HV.out (show 1024 ≤ (Q + 1) by omega) (show (Q + 1) < 2048 by omega) (show _ = U + 10 - (-14) + 1 by omega) (show _ < (31 : Int) by omega) (show _ = (Q + 1) - 1024 by rw [IntKind.wrap_u32]; omega)
      | exact V_inf 0 neg V (Q + 1) U (U + 10 - (-14) + 1) HV.out (show 1024 ≤ (Q + 1) by omega) (show (Q + 1) < 2048 by omega) rfl (show (31 : Int) ≤ _ by omega)
      | exact V_norm2 0 neg V (Q + 1) U _ _ HV.out (show (Q + 1) = 2048 by omega) (show _ = U + 1 + 10 - (-14) + 1 by omega) (show _ < (31 : Int) by omega) (by rw [IntKind.wrap_u32]; omega)
      | exact V_inf2 0 neg V (Q + 1) U (U + 1 + 10 - (-14) + 1) HV.out (show (Q + 1) = 2048 by omega) rfl (show (31 : Int) ≤ _ by omega)
end Go.Proofs.YtkpfefpmdjjhjaaGreat
