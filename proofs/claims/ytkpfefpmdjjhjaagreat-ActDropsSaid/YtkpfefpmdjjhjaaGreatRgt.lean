/- tensor.Right, annealref13.Right. -/
import Derived.Test.YtkpfefpmdjjhjaaGreatSl
import Derived.Test.YtkpfefpmdjjhjaaGreatTen
namespace Go.Proofs.YtkpfefpmdjjhjaaGreat
open Go.RowKit Anneal
set_option linter.unusedSimpArgs false
set_option linter.unusedVariables false
attribute [local go_sem] mk_size mk_cell mk_frozen mk_set mk_drew drew_mk lt_inst le_inst
theorem Right1 (v f : Int) (hf : Fm f) (q : Nat) (h0 : 0 ≤ v) (h1 : v < 4294967296) (w : World) (hq : w.cell? ⟨q, 2, none⟩ = some (.int .i64 f)) :
    Calls Tryz.prog 163 #[.int .u32 v, .pointer (some ⟨q, 0, none⟩)] w fun e w' => e = .returned (.bool (bad f v)) ∧ w = w' := by
  have hm := Lib.hid (andNot_mask f v hf h0 h1)
  go_enter Tryz.func163, Tryz.ntmps163
  go_wp2_with (go_at_call 164; (with_reducible refine Calls.mono (format_Mask f hf _) ?_); rintro e w' ⟨rfl, rfl⟩)
  go_ret
  exact ⟨ret1_ (congrArg Value.bool hm.out), rfl⟩
/-- which number is the first one that does not fit -/
def IdxP (f : Int) (n : Nat) (V : Nat → Int) (w : World) (e : Ending) (w' : World) : Prop :=
  ∃ k : Int, e = .returned (.int .i64 k) ∧ -1 ≤ k ∧ k ≤ n ∧ decide (0 ≤ k) = ((List.range n).any fun j => bad f (V j)) ∧ w = w'
theorem any_snoc (n : Nat) (p : Nat → Bool) : (List.range (n + 1)).any p = ((List.range n).any p || p n) := by
  rw [List.range_succ, List.any_append]; simp
theorem any_of (n j : Nat) (p : Nat → Bool) (hj : j < n) (h : p j = true) : (List.range n).any p = true := by
  rw [List.any_eq_true]; exact ⟨j, List.mem_range.mpr hj, h⟩
theorem IndexFunc_Right1 (f : Int) (hf : Fm f) (p : Option Addr) (n m q : Nat) (V : Nat → Int) (hn : n ≤ 9223372036854775807) (w : World) (hR : Rd w p n V) (hq : w.cell? ⟨q, 2, none⟩ = some (.int .i64 f)) :
    Calls Tryz.prog 221 #[.slice p n m, .func (.func 163) #[] #[.pointer (some ⟨q, 0, none⟩)]] w (IdxP f n V w) := by
  go_enter Tryz.func221, Tryz.ntmps221
  go_wp2
  go_loop [8] (fun i => ∃ k : Nat, k ≤ n ∧ i = .int .i64 k ∧ ((List.range k).any fun j => bad f (V j)) = false) (fun i => n - (intOf i).toNat)
  case atStart => exact ⟨0, by omega, rfl, rfl⟩
  case round =>
    obtain ⟨k, hk, rfl, hb⟩ := hrel
    have HB := Lib.hid hb
    clear hb
    by_cases hlt : k < n
    · obtain ⟨b, o, rfl, hbl, hc⟩ := hR.at_ hlt
      obtain ⟨v0, v1⟩ := hR.u k hlt
      have hs := Lib.hid (any_snoc k (fun j => bad f (V j)))
      have HR1 := Lib.hid (Right1 (V k) f hf q v0 v1)
      clear hR
      generalize hbv : bad f (V k) = bv at *
      cases bv
      all_goals
        go_wp2_with (go_at_call 163; (with_reducible refine Calls.mono (HR1.out _ hq) ?_); rintro e w' ⟨rfl, rfl⟩)
        first
          | (go_ret
             exact ⟨k, rfl, by omega, by omega, by rw [any_of n k (fun j => bad f (V j)) hlt hbv]; simp, rfl⟩)
          | (go_round
             case rel => exact ⟨k + 1, by omega, by go_num, by rw [hs.out, HB.out]; rfl⟩
             case measure => simp [intOf]; omega)
    · obtain rfl : k = n := by omega
      go_wp2
      go_ret
      exact ⟨-1, rfl, by omega, by omega, by rw [HB.out]; rfl, rfl⟩
theorem ContainsFunc_Right1 (f : Int) (hf : Fm f) (p : Option Addr) (n m q : Nat) (V : Nat → Int) (hn : n ≤ 9223372036854775807) (w : World) (hR : Rd w p n V) (hq : w.cell? ⟨q, 2, none⟩ = some (.int .i64 f)) :
    Calls Tryz.prog 162 #[.slice p n m, .func (.func 163) #[] #[.pointer (some ⟨q, 0, none⟩)]] w fun e w' => e = .returned (.bool ((List.range n).any fun j => bad f (V j))) ∧ w = w' := by
  have H := Lib.hid (IndexFunc_Right1 f hf p n m q V hn w hR hq)
  clear hR hq
  go_enter Tryz.func162, Tryz.ntmps162
  go_wp2_with (go_at_call 221; (with_reducible refine Calls.mono H.out ?_); rintro e w' ⟨k, rfl, k0, k1, hk, rfl⟩; have HK := Lib.hid hk; clear hk)
  go_ret
  exact ⟨ret1_ (congrArg Value.bool HK.out), rfl⟩
theorem knownF_iff (f : Int) : (f == 0 || f == 1 || f == 2) = knownF f := rfl
theorem knownF_no (f : Int) (h : ¬ Fm f) : knownF f = false := by
  unfold knownF
  unfold Fm at h
  simp; omega
set_option maxHeartbeats 2000000 in
theorem tensor_Right (t : Tn) (p : Option Addr) (m : Nat) (hn : t.n ≤ 9223372036854775807) (w : World) (hR : Rd w p t.n t.V) :
    Calls Tryz.prog 78 #[.agg #[.int .i64 t.r, .int .i64 t.c, .int .i64 t.f, .slice p t.n m]] w fun e w' => e = .returned (.bool (fRight t)) ∧ Below w.heap.size w w' := by
  obtain ⟨r, c, f, n, V⟩ := t
  simp only at hn hR ⊢
  have hmf : ∀ (fn : Fn) (first cap : Array Value) (w : World), (Instr.makeFunc fn first cap).run Tryz.prog w = .ok (.func fn first cap) w := fun _ _ _ _ => rfl
  generalize hG : fRight ⟨r, c, f, n, V⟩ = G
  have HG := Lib.hid hG
  clear hG
  have CK := Lib.hid (tensor_known f)
  by_cases h1 : r < 0
  · have d1 : decide (r < 0) = true := by simpa using h1
    clear hR
    go_enter Tryz.func78, Tryz.ntmps78
    go_wp2_with (first | (go_at_call 161; (with_reducible refine Calls.mono (CK.out _) ?_); rintro e w' ⟨rfl, rfl⟩))
    go_ret; refine ⟨ret1_ (congrArg Value.bool ?_), by (repeat (first | exact Below.refl _ _ | (refine Below.drew ?_) | (refine Below.setCell ?_ (by simp [mk_size] <;> omega) _) | (refine Below.alloc ?_ (by simp [mk_size] <;> omega) _) | (refine below_mk ?_ (by simp [mk_size] <;> omega) _ _) | (refine Below.trans ?_ (Below.mono (by assumption) (by simp <;> omega)))))⟩; rw [← HG.out]; unfold fRight; simp only
    simp [h1]
  have d1 : decide (r < 0) = false := by simpa using h1
  by_cases h2 : 4096 < r
  · have d2 : decide (4096 < r) = true := by simpa using h2
    clear hR
    go_enter Tryz.func78, Tryz.ntmps78
    go_wp2_with (first | (go_at_call 161; (with_reducible refine Calls.mono (CK.out _) ?_); rintro e w' ⟨rfl, rfl⟩))
    go_ret; refine ⟨ret1_ (congrArg Value.bool ?_), by (repeat (first | exact Below.refl _ _ | (refine Below.drew ?_) | (refine Below.setCell ?_ (by simp [mk_size] <;> omega) _) | (refine Below.alloc ?_ (by simp [mk_size] <;> omega) _) | (refine below_mk ?_ (by simp [mk_size] <;> omega) _ _) | (refine Below.trans ?_ (Below.mono (by assumption) (by simp <;> omega)))))⟩; rw [← HG.out]; unfold fRight; simp only
    simp [h2]
  have d2 : decide (4096 < r) = false := by simpa using h2
  by_cases h3 : c < 0
  · have d3 : decide (c < 0) = true := by simpa using h3
    clear hR
    go_enter Tryz.func78, Tryz.ntmps78
    go_wp2_with (first | (go_at_call 161; (with_reducible refine Calls.mono (CK.out _) ?_); rintro e w' ⟨rfl, rfl⟩))
    go_ret; refine ⟨ret1_ (congrArg Value.bool ?_), by (repeat (first | exact Below.refl _ _ | (refine Below.drew ?_) | (refine Below.setCell ?_ (by simp [mk_size] <;> omega) _) | (refine Below.alloc ?_ (by simp [mk_size] <;> omega) _) | (refine below_mk ?_ (by simp [mk_size] <;> omega) _ _) | (refine Below.trans ?_ (Below.mono (by assumption) (by simp <;> omega)))))⟩; rw [← HG.out]; unfold fRight; simp only
    simp [h3]
  have d3 : decide (c < 0) = false := by simpa using h3
  by_cases h4 : 4096 < c
  · have d4 : decide (4096 < c) = true := by simpa using h4
    clear hR
    go_enter Tryz.func78, Tryz.ntmps78
    go_wp2_with (first | (go_at_call 161; (with_reducible refine Calls.mono (CK.out _) ?_); rintro e w' ⟨rfl, rfl⟩))
    go_ret; refine ⟨ret1_ (congrArg Value.bool ?_), by (repeat (first | exact Below.refl _ _ | (refine Below.drew ?_) | (refine Below.setCell ?_ (by simp [mk_size] <;> omega) _) | (refine Below.alloc ?_ (by simp [mk_size] <;> omega) _) | (refine below_mk ?_ (by simp [mk_size] <;> omega) _ _) | (refine Below.trans ?_ (Below.mono (by assumption) (by simp <;> omega)))))⟩; rw [← HG.out]; unfold fRight; simp only
    simp [h4]
  have d4 : decide (4096 < c) = false := by simpa using h4
  by_cases hf : Fm f
  · have hk : knownF f = true := by rcases hf with rfl | rfl | rfl <;> rfl
    rw [hk] at CK
    have HF := Lib.hid hf
    have HK := Lib.hid hk
    have h16a : 0 ≤ r * c := Int.mul_nonneg (by omega) (by omega)
    have h16b : r * c ≤ 4096 * 4096 := Int.mul_le_mul (by omega) (by omega) (by omega) (by omega)
    have h16c : r * c ≤ 9223372036854775807 := by omega
    have HC := Lib.hid (fun (w1 : World) (hb : Below w.heap.size w w1) q hq => ContainsFunc_Right1 f hf p n m q V hn w1 (hR.below hb) hq)
    clear hR hk hf
    by_cases hnP : (n : Int) = r * c
    · have hne : ((n : Int) != r * c) = false := by simp [hnP]
      have HN := Lib.hid hnP
      clear hnP
      go_enter Tryz.func78, Tryz.ntmps78
      go_wp2_with (first | (go_at_call 161; (with_reducible refine Calls.mono (CK.out _) ?_); rintro e w' ⟨rfl, rfl⟩) | (go_at_call 162; (with_reducible refine Calls.mono (HC.out _ (by (repeat (first | exact Below.refl _ _ | (refine Below.drew ?_) | (refine Below.setCell ?_ (by simp [mk_size] <;> omega) _) | (refine Below.alloc ?_ (by simp [mk_size] <;> omega) _) | (refine below_mk ?_ (by simp [mk_size] <;> omega) _ _) | (refine Below.trans ?_ (Below.mono (by assumption) (by simp <;> omega)))))) _ (by simp [go_sem])) ?_); rintro e w' ⟨rfl, rfl⟩))
      go_ret; refine ⟨ret1_ (congrArg Value.bool ?_), by (repeat (first | exact Below.refl _ _ | (refine Below.drew ?_) | (refine Below.setCell ?_ (by simp [mk_size] <;> omega) _) | (refine Below.alloc ?_ (by simp [mk_size] <;> omega) _) | (refine below_mk ?_ (by simp [mk_size] <;> omega) _ _) | (refine Below.trans ?_ (Below.mono (by assumption) (by simp <;> omega)))))⟩; rw [← HG.out]; unfold fRight; simp only
      rw [knownF_iff, HK.out]
      simp [h1, h2, h3, h4, HN.out]
    · have hne : ((n : Int) != r * c) = true := by simp [hnP]
      go_enter Tryz.func78, Tryz.ntmps78
      go_wp2_with (first | (go_at_call 161; (with_reducible refine Calls.mono (CK.out _) ?_); rintro e w' ⟨rfl, rfl⟩))
      go_ret; refine ⟨ret1_ (congrArg Value.bool ?_), by (repeat (first | exact Below.refl _ _ | (refine Below.drew ?_) | (refine Below.setCell ?_ (by simp [mk_size] <;> omega) _) | (refine Below.alloc ?_ (by simp [mk_size] <;> omega) _) | (refine below_mk ?_ (by simp [mk_size] <;> omega) _ _) | (refine Below.trans ?_ (Below.mono (by assumption) (by simp <;> omega)))))⟩; rw [← HG.out]; unfold fRight; simp only
      simp [hnP]
  · have hk : knownF f = false := knownF_no f hf
    rw [hk] at CK
    have HK := Lib.hid hk
    clear hR hk
    go_enter Tryz.func78, Tryz.ntmps78
    go_wp2_with (first | (go_at_call 161; (with_reducible refine Calls.mono (CK.out _) ?_); rintro e w' ⟨rfl, rfl⟩))
    go_ret; refine ⟨ret1_ (congrArg Value.bool ?_), by (repeat (first | exact Below.refl _ _ | (refine Below.drew ?_) | (refine Below.setCell ?_ (by simp [mk_size] <;> omega) _) | (refine Below.alloc ?_ (by simp [mk_size] <;> omega) _) | (refine below_mk ?_ (by simp [mk_size] <;> omega) _ _) | (refine Below.trans ?_ (Below.mono (by assumption) (by simp <;> omega)))))⟩; rw [← HG.out]; unfold fRight; simp only
    rw [knownF_iff, HK.out]
    simp
end Go.Proofs.YtkpfefpmdjjhjaaGreat
