/- round.Pack at each format; conv.To, Widen, Narrow. -/
import Derived.Test.YtkpfefpmdjjhjaaGreatOp1
import Derived.Test.YtkpfefpmdjjhjaaGreatPac0
import Derived.Test.YtkpfefpmdjjhjaaGreatPac1
namespace Anneal
open Go
/-- a number in another format -/
def fto (f t a : Int) : Int := if 4 ≤ cls f a then fNan t else if cls f a = 3 then fInf t (pS f a) else pack t (pS f a) (uE f a) (uS f a) false
theorem uS_rF (f v : Int) (hf : Fm f) : 0 ≤ uS f v ∧ uS f v < 16777216 := by
  obtain ⟨a, b⟩ := pF_range f v hf
  unfold uS
  rcases hf with rfl | rfl | rfl <;> (simp only [mP] at *; simp at *; (repeat' split) <;> omega)
theorem uE_rF (f v : Int) (hf : Fm f) : -149 ≤ uE f v ∧ uE f v ≤ 120 := by
  obtain ⟨a, b⟩ := pE_range f v hf
  unfold uE
  rcases hf with rfl | rfl | rfl <;> (simp only [eP, leastE, mW] at *; simp at *; (repeat' split) <;> omega)
theorem sgB_rF (f : Int) (n : Bool) (hf : Fm f) : 0 ≤ sgB f n ∧ sgB f n ≤ 2147483648 := by
  rcases hf with rfl | rfl | rfl <;> cases n <;> simp [sgB, mP, eP]
theorem fNan_rF (f : Int) (hf : Fm f) : U32 (fNan f) := by
  rcases hf with rfl | rfl | rfl <;> decide
theorem fInf_rF (f : Int) (n : Bool) (hf : Fm f) : U32 (fInf f n) := by
  rcases hf with rfl | rfl | rfl <;> cases n <;> decide
theorem pack_rF (f : Int) (n : Bool) (e s : Int) (m : Bool) (hf : Fm f) : U32 (pack f n e s m) := by
  have := sgB_rF f n hf
  unfold pack
  split
  · omega
  · unfold Rnd.pk
    rcases hf with rfl | rfl | rfl
    · rw [show ((eP 0 - 1).toNat * 2 ^ mW 0 : Nat) = 31744 by decide]; omega
    · rw [show ((eP 1 - 1).toNat * 2 ^ mW 1 : Nat) = 32640 by decide]; omega
    · rw [show ((eP 2 - 1).toNat * 2 ^ mW 2 : Nat) = 2139095040 by decide]; omega
theorem fto_r (f t a : Int) (ht : Fm t) : U32 (fto f t a) := by
  unfold fto
  (repeat' split)
  · exact fNan_rF t ht
  · exact fInf_rF t _ ht
  · exact pack_rF t _ _ _ _ ht
end Anneal
namespace Go.Proofs.YtkpfefpmdjjhjaaGreat
open Go.RowKit Anneal
set_option linter.unusedSimpArgs false
set_option linter.unusedVariables false
attribute [local go_sem] mk_size mk_cell mk_frozen mk_set mk_drew drew_mk lt_inst le_inst
theorem round_Pack0 (neg more : Bool) (exp sig : Int) (h0 : 0 ≤ sig) (h1 : sig < 18446744073709551616) (hm : sig = 0 → more = false) (b1 : -10000 ≤ exp) (b2 : exp ≤ 10000) (w : World) :
    Calls Tryz.prog 220 #[.int .i64 0, .int .i64 0, .bool neg, .int .i64 exp, .int .u64 sig, .bool more] w (Num (pack 0 neg exp sig more) w) := by
  rcases Int.lt_or_eq_of_le h0 with hs | hs
  · obtain ⟨l0, l1⟩ := bl_range sig h0 h1
    have hf : Fm 0 := by decide
    obtain ⟨q0, q9, _⟩ := qU_range 0 exp sig hf hs h1
    have u1 : -24 ≤ unI 0 exp sig := by simp only [unI, leastE, mW]; simp [hs]; omega
    have u2 : unI 0 exp sig ≤ 10064 := by simp only [unI, leastE, mW]; simp [hs]; omega
    have cU := round_Unit 0 exp sig hf h0 h1 (by omega) (by omega)
    have cN := round_Units sig (unI 0 exp sig - exp) more h0 h1 (by omega) (by omega)
    have cP := round_Up neg (qU 0 exp sig) (uL sig (unI 0 exp sig - exp) more) q0 (by simp only [mP] at q9; simp at q9; omega)
    have cL := bits_Len sig h0 h1
    have hV : Says 0 neg (pack 0 neg exp sig more) (q1 0 exp sig more) (unI 0 exp sig) := fun q un h => pack_eq 0 neg exp sig more hf hs h1 q un h
    have q9' : qU 0 exp sig < 2048 := q9
    cases hu : upN (qU 0 exp sig) (uL sig (unI 0 exp sig - exp) more)
    · have e : q1 0 exp sig more = qU 0 exp sig := by unfold q1; rw [hu]; rfl
      rw [e] at hV; rw [hu] at cP
      by_cases hL : uL sig (unI 0 exp sig - exp) more = 0
      · exact Pack_core0af exp sig _ _ _ _ neg more hL hs h1 b1 b2 u1 u2 q0 q9' l0 l1 cU cN cP cL hV w
      · exact Pack_core0bf exp sig _ _ _ _ neg more hL hs h1 b1 b2 u1 u2 q0 q9' l0 l1 cU cN cP cL hV w
    · have e : q1 0 exp sig more = qU 0 exp sig + 1 := by unfold q1; rw [hu]; rfl
      rw [e] at hV; rw [hu] at cP
      by_cases hL : uL sig (unI 0 exp sig - exp) more = 0
      · exact Pack_core0at exp sig _ _ _ _ neg more hL hs h1 b1 b2 u1 u2 q0 q9' l0 l1 cU cN cP cL hV w
      · exact Pack_core0bt exp sig _ _ _ _ neg more hL hs h1 b1 b2 u1 u2 q0 q9' l0 l1 cU cN cP cL hV w
  · subst hs
    rw [hm rfl]
    exact Pack_nought 0 exp neg (by decide) b1 b2 w
theorem round_Pack1 (neg more : Bool) (exp sig : Int) (h0 : 0 ≤ sig) (h1 : sig < 18446744073709551616) (hm : sig = 0 → more = false) (b1 : -10000 ≤ exp) (b2 : exp ≤ 10000) (w : World) :
    Calls Tryz.prog 220 #[.int .i64 1, .int .i64 0, .bool neg, .int .i64 exp, .int .u64 sig, .bool more] w (Num (pack 1 neg exp sig more) w) := by
  rcases Int.lt_or_eq_of_le h0 with hs | hs
  · obtain ⟨l0, l1⟩ := bl_range sig h0 h1
    have hf : Fm 1 := by decide
    obtain ⟨q0, q9, _⟩ := qU_range 1 exp sig hf hs h1
    have u1 : -133 ≤ unI 1 exp sig := by simp only [unI, leastE, mW]; simp [hs]; omega
    have u2 : unI 1 exp sig ≤ 10064 := by simp only [unI, leastE, mW]; simp [hs]; omega
    have cU := round_Unit 1 exp sig hf h0 h1 (by omega) (by omega)
    have cN := round_Units sig (unI 1 exp sig - exp) more h0 h1 (by omega) (by omega)
    have cP := round_Up neg (qU 1 exp sig) (uL sig (unI 1 exp sig - exp) more) q0 (by simp only [mP] at q9; simp at q9; omega)
    have cL := bits_Len sig h0 h1
    have hV : Says 1 neg (pack 1 neg exp sig more) (q1 1 exp sig more) (unI 1 exp sig) := fun q un h => pack_eq 1 neg exp sig more hf hs h1 q un h
    have q9' : qU 1 exp sig < 256 := q9
    cases hu : upN (qU 1 exp sig) (uL sig (unI 1 exp sig - exp) more)
    · have e : q1 1 exp sig more = qU 1 exp sig := by unfold q1; rw [hu]; rfl
      rw [e] at hV; rw [hu] at cP
      by_cases hL : uL sig (unI 1 exp sig - exp) more = 0
      · exact Pack_core1af exp sig _ _ _ _ neg more hL hs h1 b1 b2 u1 u2 q0 q9' l0 l1 cU cN cP cL hV w
      · exact Pack_core1bf exp sig _ _ _ _ neg more hL hs h1 b1 b2 u1 u2 q0 q9' l0 l1 cU cN cP cL hV w
    · have e : q1 1 exp sig more = qU 1 exp sig + 1 := by unfold q1; rw [hu]; rfl
      rw [e] at hV; rw [hu] at cP
      by_cases hL : uL sig (unI 1 exp sig - exp) more = 0
      · exact Pack_core1at exp sig _ _ _ _ neg more hL hs h1 b1 b2 u1 u2 q0 q9' l0 l1 cU cN cP cL hV w
      · exact Pack_core1bt exp sig _ _ _ _ neg more hL hs h1 b1 b2 u1 u2 q0 q9' l0 l1 cU cN cP cL hV w
  · subst hs
    rw [hm rfl]
    exact Pack_nought 1 exp neg (by decide) b1 b2 w
theorem round_PackF (t : Int) (ht : Fm t) (neg more : Bool) (exp sig : Int) (h0 : 0 ≤ sig) (h1 : sig < 18446744073709551616) (hm : sig = 0 → more = false) (b1 : -10000 ≤ exp) (b2 : exp ≤ 10000) (w : World) :
    Calls Tryz.prog 220 #[.int .i64 t, .int .i64 0, .bool neg, .int .i64 exp, .int .u64 sig, .bool more] w (Num5 (pack t neg exp sig more) w) := by
  rcases ht with rfl | rfl | rfl
  · exact (round_Pack0 neg more exp sig h0 h1 hm b1 b2 w).mono fun _ _ h => h.five
  · exact (round_Pack1 neg more exp sig h0 h1 hm b1 b2 w).mono fun _ _ h => h.five
  · exact (round_Pack2 neg more exp sig h0 h1 hm b1 b2 w).mono fun _ _ h => h.five
set_option maxHeartbeats 2000000 in
theorem conv_To (f t a : Int) (hf : Fm f) (ht : Fm t) (a0 : 0 ≤ a) (a1 : a < 4294967296) (w : World) :
    Calls Tryz.prog 165 #[.int .i64 f, .int .i64 t, .int .i64 0, .int .u32 a] w (Num5 (fto f t a) w) := by
  have HF := Lib.hid hf
  have HT := Lib.hid ht
  obtain ⟨e0, e1⟩ := uE_rF f a hf
  obtain ⟨s0, s1⟩ := uS_rF f a hf
  obtain ⟨k0, k1⟩ := cls_range f a
  generalize hV : fto f t a = V
  replace hV := Lib.hid hV
  clear hf ht
  go_enter Tryz.func165, Tryz.ntmps165
  go_wp2_with (first | (go_at_call 209; (with_reducible refine Calls.mono (format_Class f a HF.out a0 a1 _) ?_); rintro e w' ⟨rfl, rfl⟩) | (go_at_call 148; (with_reducible refine Calls.mono (format_Nan t HT.out _) ?_); rintro e w' ⟨rfl, rfl⟩) | (go_at_call 218; (with_reducible refine Calls.mono (sum_Bad t HT.out _) ?_); rintro e w1 ⟨rfl, hb⟩; obtain ⟨o1, d1, rfl⟩ := made hb; clear hb) | (go_at_call 152; (with_reducible refine Calls.mono (format_Neg f a HF.out a0 a1 _) ?_); rintro e w' ⟨rfl, rfl⟩) | (go_at_call 173; (with_reducible refine Calls.mono (format_Inf t _ HT.out _) ?_); rintro e w' ⟨rfl, rfl⟩) | (go_at_call 222; (with_reducible refine Calls.mono (sum_Of f a HF.out a0 a1 _) ?_); rintro e w1 ⟨rfl, hb⟩; obtain ⟨o1, d1, rfl⟩ := made hb; clear hb) | (go_at_call 220; (with_reducible refine Calls.mono (round_PackF t HT.out _ false _ _ (by omega) (by omega) (fun _ => rfl) (by omega) (by omega) _) ?_); rintro e w1 ⟨⟨p1, p2, p3, p4, p5, rfl⟩, hb⟩; obtain ⟨o1, d1, rfl⟩ := made hb; clear hb))
  all_goals
    simp only [beq_iff_eq, beq_eq_false_iff_ne, ne_eq] at *
    try have h4 : ¬ 4 ≤ cls f a := by omega
    (first | (refine bodyPost_ret (v := .tuple #[.int .u32 (V), .agg #[.bool false, .bool false, .bool false, .bool false, .bool false]]) ?_ rfl ?_; (focus (simp [results, Tryz.results165, go_sem, ← hV.out, fto, *]; done)); exact ⟨⟨_, _, _, _, _, rfl⟩, by (repeat (first | exact Below.refl _ _ | (refine Below.drew ?_) | (refine Below.setCell ?_ (by simp [mk_size] <;> omega) _) | (refine Below.alloc ?_ (by simp [mk_size] <;> omega) _) | (refine below_mk ?_ (by simp [mk_size] <;> omega) _ _) | (refine Below.trans ?_ (Below.mono (by assumption) (by simp <;> omega)))))⟩) | (refine bodyPost_ret (v := .tuple #[.int .u32 (V), .agg #[.bool p1, .bool p2, .bool p3, .bool p4, .bool p5]]) ?_ rfl ?_; (focus (simp [results, Tryz.results165, go_sem, ← hV.out, fto, *]; done)); exact ⟨⟨_, _, _, _, _, rfl⟩, by (repeat (first | exact Below.refl _ _ | (refine Below.drew ?_) | (refine Below.setCell ?_ (by simp [mk_size] <;> omega) _) | (refine Below.alloc ?_ (by simp [mk_size] <;> omega) _) | (refine below_mk ?_ (by simp [mk_size] <;> omega) _ _) | (refine Below.trans ?_ (Below.mono (by assumption) (by simp <;> omega)))))⟩) | (refine bodyPost_ret (v := .tuple #[.int .u32 (V), .agg #[.bool true, .bool false, .bool false, .bool false, .bool false]]) ?_ rfl ?_; (focus (simp [results, Tryz.results165, go_sem, ← hV.out, fto, *]; done)); exact ⟨⟨_, _, _, _, _, rfl⟩, by (repeat (first | exact Below.refl _ _ | (refine Below.drew ?_) | (refine Below.setCell ?_ (by simp [mk_size] <;> omega) _) | (refine Below.alloc ?_ (by simp [mk_size] <;> omega) _) | (refine below_mk ?_ (by simp [mk_size] <;> omega) _ _) | (refine Below.trans ?_ (Below.mono (by assumption) (by simp <;> omega)))))⟩) | (refine bodyPost_ret (v := .tuple #[.int .u32 (V), .agg #[.bool false, .bool true, .bool false, .bool false, .bool false]]) ?_ rfl ?_; (focus (simp [results, Tryz.results165, go_sem, ← hV.out, fto, *]; done)); exact ⟨⟨_, _, _, _, _, rfl⟩, by (repeat (first | exact Below.refl _ _ | (refine Below.drew ?_) | (refine Below.setCell ?_ (by simp [mk_size] <;> omega) _) | (refine Below.alloc ?_ (by simp [mk_size] <;> omega) _) | (refine below_mk ?_ (by simp [mk_size] <;> omega) _ _) | (refine Below.trans ?_ (Below.mono (by assumption) (by simp <;> omega)))))⟩))
theorem conv_Widen (f a : Int) (hf : Fm f) (a0 : 0 ≤ a) (a1 : a < 4294967296) (w : World) :
    Calls Tryz.prog 83 #[.int .i64 f, .int .u32 a] w fun e w' => e = .returned (.int .u32 (fto f 2 a)) ∧ Below w.heap.size w w' := by
  go_enter Tryz.func83, Tryz.ntmps83
  go_wp2_with (go_at_call 165; (with_reducible refine Calls.mono (conv_To f 2 a hf (by decide) a0 a1 _) ?_); rintro e w1 ⟨⟨p1, p2, p3, p4, p5, rfl⟩, hb⟩; obtain ⟨o1, d1, rfl⟩ := made hb; clear hb)
  refine bodyPost_ret (v := .int .u32 (fto f 2 a)) ?_ rfl ⟨rfl, by (repeat (first | exact Below.refl _ _ | (refine Below.drew ?_) | (refine Below.setCell ?_ (by simp [mk_size] <;> omega) _) | (refine Below.alloc ?_ (by simp [mk_size] <;> omega) _) | (refine below_mk ?_ (by simp [mk_size] <;> omega) _ _) | (refine Below.trans ?_ (Below.mono (by assumption) (by simp <;> omega)))))⟩
  simp [results, Tryz.results83, go_sem, *]
theorem conv_Narrow (f a : Int) (hf : Fm f) (a0 : 0 ≤ a) (a1 : a < 4294967296) (w : World) :
    Calls Tryz.prog 82 #[.int .i64 f, .int .u32 a] w fun e w' => e = .returned (.int .u32 (fto 2 f a)) ∧ Below w.heap.size w w' := by
  go_enter Tryz.func82, Tryz.ntmps82
  go_wp2_with (go_at_call 165; (with_reducible refine Calls.mono (conv_To 2 f a (by decide) hf a0 a1 _) ?_); rintro e w1 ⟨⟨p1, p2, p3, p4, p5, rfl⟩, hb⟩; obtain ⟨o1, d1, rfl⟩ := made hb; clear hb)
  refine bodyPost_ret (v := .int .u32 (fto 2 f a)) ?_ rfl ⟨rfl, by (repeat (first | exact Below.refl _ _ | (refine Below.drew ?_) | (refine Below.setCell ?_ (by simp [mk_size] <;> omega) _) | (refine Below.alloc ?_ (by simp [mk_size] <;> omega) _) | (refine below_mk ?_ (by simp [mk_size] <;> omega) _ _) | (refine Below.trans ?_ (Below.mono (by assumption) (by simp <;> omega)))))⟩
  simp [results, Tryz.results82, go_sem, *]
end Go.Proofs.YtkpfefpmdjjhjaaGreat
