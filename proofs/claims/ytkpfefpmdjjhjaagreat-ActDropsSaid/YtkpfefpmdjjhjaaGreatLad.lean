/- The walk of the statement ActDrops. -/
import Derived.Test.YtkpfefpmdjjhjaaGreatK15
import Derived.Test.YtkpfefpmdjjhjaaGreatMak
import Derived.Test.YtkpfefpmdjjhjaaGreatBnd
import Derived.Test.YtkpfefpmdjjhjaaGreatRcm
import Derived.Deep.RegionWith
namespace Go.Proofs.YtkpfefpmdjjhjaaGreat
open Go.RowKit Anneal
set_option linter.unusedSimpArgs false
set_option linter.unusedVariables false
attribute [local go_sem] mk_size mk_cell mk_frozen mk_set mk_drew drew_mk lt_inst le_inst
theorem fint_top : fint 4294967296 = 1333788672 := by decide +kernel
theorem more_0 : mskMore 0 = 1065353216 := by decide +kernel
theorem more_r (d : Int) (d0 : 0 ≤ d) (d1 : d < 2147483648) : 1065353216 ≤ mskMore d ∧ mskMore d ≤ 1073741824 := by
  unfold mskMore
  rw [fint_top]
  obtain ⟨a, b⟩ := fint_32 (4294967296 - d) (by omega) (by omega)
  exact fdiv_32 _ a b
theorem small_new (a b : Int) (a0 : 0 ≤ a) (a1 : a ≤ 5) (b0 : 0 ≤ b) (b1 : b ≤ 5) : newR a b = a ∧ newC a b = b ∧ (newN a b : Int) = a * b ∧ 0 ≤ a * b ∧ a * b ≤ 25 := by
  have h0 : 0 ≤ a * b := Int.mul_nonneg a0 b0
  have h1 : a * b ≤ 5 * 5 := Int.mul_le_mul (by omega) (by omega) (by omega) (by omega)
  have ca : clampW a = a := by unfold clampW; rw [if_neg (by omega), if_neg (by omega)]
  have cb : clampW b = b := by unfold clampW; rw [if_neg (by omega), if_neg (by omega)]
  unfold newR newC newN
  rw [ca, cb, if_neg (by omega), if_neg (by omega), if_neg (by omega)]
  omega
theorem above_0 : fabove 1065353216 0 = true := by decide +kernel
/-- what is dropped, what is not -/
theorem drop_yes (s t d i : Int) (h : phWord s t i < d) : mskV s t d (mskMore d) i = 0 := by unfold mskV; rw [if_pos h]
theorem drop_no (s t d i : Int) (h : ¬ phWord s t i < d) : mskV s t d (mskMore d) i = mskMore d := by unfold mskV; rw [if_neg h]
set_option maxRecDepth 20000 in
set_option maxHeartbeats 8000000 in
theorem law_ActDrops (r c drop seed stream : Int) (r0 : 0 ≤ r) (r1 : r < 256) (c0 : 0 ≤ c) (c1 : c < 256) (d0 : 0 ≤ drop) (d1 : drop < 4294967296) (h0 : 0 ≤ seed) (h1 : seed < 18446744073709551616) (h2 : 0 ≤ stream) (h3 : stream < 4294967296) (w : World) :
    Calls Tryz.prog 5 #[.int .u8 r, .int .u8 c, .int .u32 drop, .int .u64 seed, .int .u32 stream] w fun e w' => e = .returned (.bool true) ∧ Below w.heap.size w w' := by
  have CM := Lib.hid (fun a b x (hx0 : 0 ≤ x) (hx1 : x < 4294967296) w => act_Mask a b x seed stream hx0 hx1 h0 h1 h2 h3 w)
  have q0 : 0 ≤ drop / 2 := by omega
  have q1 : drop / 2 < 2147483648 := by omega
  obtain ⟨s1, s2, s3, s4, s5⟩ := small_new (r % 6) (c % 6) (by omega) (by omega) (by omega) (by omega)
  obtain ⟨n, hn⟩ : ∃ n, n = newN (r % 6) (c % 6) := ⟨_, rfl⟩
  rw [← hn] at s3
  have hne : ((n : Int) != r % 6 * (c % 6)) = false := by simp [s3]
  have T1 : Hid (tMask (r % 6) (c % 6) (drop / 2) seed stream = ⟨r % 6, c % 6, 2, n, fun i => mskV seed stream (drop / 2) (mskMore (drop / 2)) i⟩) := by unfold Hid tMask; rw [s1, s2, hn]
  have T2 : Hid (tMask (r % 6) (c % 6) 0 seed stream = ⟨r % 6, c % 6, 2, n, fun i => mskV seed stream 0 (mskMore 0) i⟩) := by unfold Hid tMask; rw [s1, s2, hn]
  have S3 := Lib.hid s3
  clear s1 s2 s3 hn
  have hx0 : 0 ≤ r % 6 := by omega
  have hx1 : r % 6 ≤ 5 := by omega
  have hy0 : 0 ≤ c % 6 := by omega
  have hy1 : c % 6 ≤ 5 := by omega
  obtain ⟨FA, hFA⟩ : ∃ FA : Nat → Int, FA = fun i : Nat => mskV seed stream (drop / 2) (mskMore (drop / 2)) i := ⟨_, rfl⟩
  obtain ⟨FB, hFB⟩ : ∃ FB : Nat → Int, FB = fun i : Nat => mskV seed stream 0 (mskMore 0) i := ⟨_, rfl⟩
  rw [← hFA] at T1
  rw [← hFB] at T2
  have CA : Hid (∀ w, Calls Tryz.prog 26 #[.int .i64 (r % 6), .int .i64 (c % 6), .int .u32 (drop / 2), .int .u64 seed, .int .u32 stream] w (TenP ⟨r % 6, c % 6, 2, n, FA⟩ w)) := by
    intro w; have h := CM.out (r % 6) (c % 6) (drop / 2) q0 (by omega) w; rw [T1] at h; exact h
  have CB : Hid (∀ w, Calls Tryz.prog 26 #[.int .i64 (r % 6), .int .i64 (c % 6), .int .u32 0, .int .u64 seed, .int .u32 stream] w (TenP ⟨r % 6, c % 6, 2, n, FB⟩ w)) := by
    intro w; have h := CM.out (r % 6) (c % 6) 0 (by omega) (by omega) w; rw [T2] at h; exact h
  have VB : Hid (∀ k : Nat, k < 26 → FB k = 1065353216) := by
    intro k hk
    rw [hFB]
    simp only
    rw [drop_no _ _ _ _ (by have := phWord_r seed stream k h0 h1 h2 h3 (by omega) (by omega); omega), more_0]
  have VA : Hid (∀ k : Nat, phWord seed stream k < drop / 2 → FA k = 0) := by
    intro k hk; rw [hFA]; exact drop_yes _ _ _ _ hk
  have VA2 : Hid (∀ k : Nat, ¬ phWord seed stream k < drop / 2 → 1065353216 ≤ FA k ∧ FA k ≤ 1073741824) := by
    intro k hk; rw [hFA]; simp only; rw [drop_no _ _ _ _ hk]; exact more_r _ q0 (by omega)
  have CW : Hid (∀ k : Nat, k < 26 → ∀ w, Calls Tryz.prog 28 #[.int .u64 seed, .int .u32 stream, .int .u64 k] w fun e w' => e = .returned (.int .u32 (phWord seed stream k)) ∧ Below w.heap.size w w') := by
    intro k hk w; exact r10_Word seed stream k h0 h1 h2 h3 (by omega) (by omega) w
  clear CM T1 T2 hFA hFB
  go_enter Tryz.func5, Tryz.ntmps5
  go_wp2_with (first | (go_at_call 12; (with_reducible refine Calls.mono (law15_known _) ?_); rintro e w1 ⟨rfl, hb⟩; obtain ⟨oK, dK, rfl⟩ := made hb; clear hb))
  generalize r % 6 = x0 at *
  generalize c % 6 = x1 at *
  go_wp2_with (first | (go_at_call 26; (with_reducible refine Calls.mono (CA.out _) ?_); rintro e w1 ⟨p1, c1', rfl, hR1, hb⟩; have HR1 := Lib.hid hR1; clear hR1; obtain ⟨oA, dA, rfl⟩ := made hb; clear hb) | (go_at_call 26; (with_reducible refine Calls.mono (CB.out _) ?_); rintro e w1 ⟨p2, c2', rfl, hR2, hb⟩; have HR2 := Lib.hid hR2; clear hR2; obtain ⟨oB, dB, rfl⟩ := made hb; clear hb))
  have hnn : n ≤ 25 := by have := S3.out; omega
  go_loopw [15] (fun i wr => ∃ k : Nat, k ≤ n ∧ i = .int .i64 k ∧ Below (((mk (mk (mk w oK dK) oA dA) oB dB).alloc (.cells #[.int .i64 x0, .int .i64 x1, .int .i64 2, .slice p1 n c1'] 24)).alloc (.cells #[.int .i64 x0, .int .i64 x1, .int .i64 2, .slice p2 n c2'] 24)).heap.size (((mk (mk (mk w oK dK) oA dA) oB dB).alloc (.cells #[.int .i64 x0, .int .i64 x1, .int .i64 2, .slice p1 n c1'] 24)).alloc (.cells #[.int .i64 x0, .int .i64 x1, .int .i64 2, .slice p2 n c2'] 24)) wr) (fun i _ => n - (intOf i).toNat)
  case atStart => exact ⟨0, by omega, rfl, Below.refl _ _⟩
  case round =>
    obtain ⟨k, hk, rfl, hb⟩ := hrel
    obtain ⟨os, d, rfl⟩ := made hb
    clear hb
    by_cases hlt : k < n
    · have hlt' : (k : Int) < x0 * x1 := by have := S3.out; omega
      obtain ⟨b1, u1, rfl, hb1, hc1⟩ := HR1.out.at_ hlt
      obtain ⟨b2, u2, rfl, hb2, hc2⟩ := HR2.out.at_ hlt
      rw [VB.out k (by omega)] at hc2
      have m1 : IntKind.u64.wrap (k : Int) = k := by rw [wrap_u64]; omega
      have CWk := Lib.hid (CW.out k (by omega))
      have l1 : b1 < w.heap.size + oK.size + oA.size := by simpa [mk_size] using hb1
      have l2 : b2 < w.heap.size + oK.size + oA.size + oB.size := by simpa [mk_size] using hb2
      have i1 : NLt b1 (w.heap.size + oK.size + oA.size) := ⟨l1⟩
      have i2 : NLt b2 (w.heap.size + oK.size + oA.size + oB.size) := ⟨l2⟩
      clear CW CA CB VB HR1 HR2 hb1 hb2
      by_cases hw : phWord seed stream k < drop / 2
      · rw [VA.out k hw] at hc1
        have dw : decide (phWord seed stream k < drop / 2) = true := by simpa using hw
        have AB := Lib.hid (r10_Above 1065353216 0 (by decide) (by decide) (by decide) (by decide))
        rw [above_0] at AB
        clear VA VA2
        generalize phWord seed stream k = W at *
        go_wp2
        go_region_held3 (fun w' => w'.cell? ⟨w.heap.size + oK.size + oA.size + oB.size, 3, none⟩ = some (.slice (some ⟨b1, u1, none⟩) n c1') ∧ w'.cell? ⟨w.heap.size + oK.size + oA.size + oB.size + 1, 3, none⟩ = some (.slice (some ⟨b2, u2, none⟩) n c2') ∧ w'.cell? ⟨b1, u1 + k, none⟩ = some (.int .u32 0) ∧ w'.cell? ⟨b2, u2 + k, none⟩ = some (.int .u32 1065353216)) (simp [go_sem, *]) (first | (go_at_call 28; (with_reducible refine Calls.mono (CWk.out _) ?_); rintro e w1 ⟨rfl, hb⟩; obtain ⟨o1, d1, rfl⟩ := made hb; clear hb) | (go_at_call 29; (with_reducible refine Calls.mono (AB.out _) ?_); rintro e w1 ⟨rfl, hb⟩; obtain ⟨o1, d1, rfl⟩ := made hb; clear hb))
        all_goals
          go_wp2
          go_roundw
          case rel => exact ⟨k + 1, by omega, by go_num, by (repeat (first | exact Below.refl _ _ | (refine Below.drew ?_) | (refine Below.setCell ?_ (by simp [mk_size] <;> omega) _) | (refine Below.alloc ?_ (by simp [mk_size] <;> omega) _) | (refine below_mk ?_ (by simp [mk_size] <;> omega) _ _) | (refine Below.trans ?_ (Below.mono (by assumption) (by simp <;> omega)))))⟩
          case measure => simp [intOf]; omega
      · have hv := VA2.out k (by omega)
        have dw : decide (phWord seed stream k < drop / 2) = false := by simpa using hw
        clear VA VA2
        generalize phWord seed stream k = W at *
        generalize FA k = v at *
        obtain ⟨v0, v1⟩ := hv
        have AB2 := Lib.hid (r10_Above 1065353216 v (by decide) (by decide) (by omega) (by omega))
        rw [fabove_1 v v0 v1] at AB2
        have ve : (v == 0) = false := by simp; omega
        go_wp2
        first | go_region_with (first | (go_at_call 28; (with_reducible refine Calls.mono (CWk.out _) ?_); rintro e w1 ⟨rfl, hb⟩; obtain ⟨o1, d1, rfl⟩ := made hb; clear hb) | (go_at_call 29; (with_reducible refine Calls.mono (AB2.out _) ?_); rintro e w1 ⟨rfl, hb⟩; obtain ⟨o1, d1, rfl⟩ := made hb; clear hb)) | fail
        all_goals
          go_wp2
          go_roundw
          case rel => exact ⟨k + 1, by omega, by go_num, by (repeat (first | exact Below.refl _ _ | (refine Below.drew ?_) | (refine Below.setCell ?_ (by simp [mk_size] <;> omega) _) | (refine Below.alloc ?_ (by simp [mk_size] <;> omega) _) | (refine below_mk ?_ (by simp [mk_size] <;> omega) _ _) | (refine Below.trans ?_ (Below.mono (by assumption) (by simp <;> omega)))))⟩
          case measure => simp [intOf]; omega
    · obtain rfl : k = n := by omega
      have hlt' : ¬ (k : Int) < x0 * x1 := by have := S3.out; omega
      go_wp2
      go_ret
      exact ⟨rfl, by (repeat (first | exact Below.refl _ _ | (refine Below.drew ?_) | (refine Below.setCell ?_ (by simp [mk_size] <;> omega) _) | (refine Below.alloc ?_ (by simp [mk_size] <;> omega) _) | (refine below_mk ?_ (by simp [mk_size] <;> omega) _ _) | (refine Below.trans ?_ (Below.mono (by assumption) (by simp <;> omega)))))⟩
end Go.Proofs.YtkpfefpmdjjhjaaGreat
