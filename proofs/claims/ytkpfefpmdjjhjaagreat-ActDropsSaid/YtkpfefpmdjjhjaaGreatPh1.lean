/- The walk of philox.once, Block, Word. -/
import Derived.Test.YtkpfefpmdjjhjaaGreatPhx
import Derived.Test.YtkpfefpmdjjhjaaGreatRf2
import Derived.Lib.Hide
namespace Go.Proofs.YtkpfefpmdjjhjaaGreat
open Go.RowKit Anneal
set_option linter.unusedSimpArgs false
set_option linter.unusedVariables false
attribute [local go_sem] mk_size mk_cell mk_frozen mk_set mk_drew drew_mk lt_inst le_inst
theorem mk_mk (w : World) (a b : Array Obj) (d e : Nat) : mk (mk w a d) b e = mk w (a ++ b) e := by unfold mk; simp [Array.append_assoc]
theorem philox_once (s : Ph) (h : s.ok) (w : World) :
    Calls Tryz.prog 226 #[.agg #[.int .u32 s.k0, .int .u32 s.k1], .agg #[.int .u32 s.c0, .int .u32 s.c1, .int .u32 s.c2, .int .u32 s.c3]] w fun e w' => e = .returned (.agg #[.int .u32 s.next.c0, .int .u32 s.next.c1, .int .u32 s.next.c2, .int .u32 s.next.c3]) ∧ Below w.heap.size w w' := by
  obtain ⟨k0, k1, c0, c1, c2, c3⟩ := s
  obtain ⟨⟨h0, h1⟩, ⟨h2, h3⟩, ⟨h4, h5⟩, ⟨h6, h7⟩, ⟨h8, h9⟩, ⟨h10, h11⟩⟩ := h
  simp only at *
  have m1 : IntKind.u64.wrap c0 = c0 := by rw [wrap_u64]; omega
  have m2 : IntKind.u64.wrap c2 = c2 := by rw [wrap_u64]; omega
  have m3 : IntKind.u64.wrap (c0 * 3528531795) = c0 * 3528531795 := by rw [wrap_u64]; omega
  have m4 : IntKind.u64.wrap (c2 * 3449720151) = c2 * 3449720151 := by rw [wrap_u64]; omega
  go_enter Tryz.func226, Tryz.ntmps226
  go_wp2
  go_region_held3 (fun w' => w'.cell? ⟨w.heap.size + 1, 0, none⟩ = some (.int .u32 c0) ∧ w'.cell? ⟨w.heap.size + 1, 1, none⟩ = some (.int .u32 c1) ∧ w'.cell? ⟨w.heap.size + 1, 2, none⟩ = some (.int .u32 c2) ∧ w'.cell? ⟨w.heap.size + 1, 3, none⟩ = some (.int .u32 c3) ∧ w'.cell? ⟨w.heap.size, 0, none⟩ = some (.int .u32 k0) ∧ w'.cell? ⟨w.heap.size, 1, none⟩ = some (.int .u32 k1)) (simp [go_sem, World.cell?_alloc_past]) (first | fail)
  go_wp2
  refine bodyPost_ret (v := .agg #[.int .u32 (px (px (phi (c2 * 3449720151)) c1) k0), .int .u32 (plo (c2 * 3449720151)), .int .u32 (px (px (phi (c0 * 3528531795)) c3) k1), .int .u32 (plo (c0 * 3528531795))]) ?_ rfl ⟨rfl, by (repeat (first | exact Below.refl _ _ | (refine Below.drew ?_) | (refine Below.setCell ?_ (by simp [mk_size] <;> omega) _) | (refine Below.alloc ?_ (by simp [mk_size] <;> omega) _) | (refine below_mk ?_ (by simp [mk_size] <;> omega) _ _) | (refine Below.trans ?_ (Below.mono (by assumption) (by simp <;> omega)))))⟩
  simp [results, Tryz.results226, go_sem, px, phi, plo]
set_option maxHeartbeats 4000000 in
theorem philox_Block (s : Ph) (h : s.ok) (w : World) :
    Calls Tryz.prog 169 #[.agg #[.int .u32 s.k0, .int .u32 s.k1], .agg #[.int .u32 s.c0, .int .u32 s.c1, .int .u32 s.c2, .int .u32 s.c3]] w fun e w' => e = .returned (.agg #[.int .u32 (Ph.it 10 s).c0, .int .u32 (Ph.it 10 s).c1, .int .u32 (Ph.it 10 s).c2, .int .u32 (Ph.it 10 s).c3]) ∧ Below w.heap.size w w' := by
  go_enter Tryz.func169, Tryz.ntmps169
  go_wp2
  go_loopw [5] (fun i wr => ∃ (k : Nat) (os : Array Obj) (d : Nat), k ≤ 10 ∧ i = .int .i64 k ∧ wr = mk (((w.alloc (.cells #[.int .u32 (Ph.it k s).k0, .int .u32 (Ph.it k s).k1] 119)).alloc (.cells #[.int .u32 (Ph.it k s).c0, .int .u32 (Ph.it k s).c1, .int .u32 (Ph.it k s).c2, .int .u32 (Ph.it k s).c3] 117)).alloc (.cells #[.int .u32 0, .int .u32 0, .int .u32 0, .int .u32 0] 117)) os d)
    (fun i _ => 10 - (intOf i).toNat)
  case atStart => exact ⟨0, #[], w.drawn, by omega, by go_num, by simp [mk, Ph.it]; try rfl⟩
  case round =>
    obtain ⟨k, os, d, hk, rfl, rfl⟩ := hrel
    by_cases hlt : k < 10
    · have ho := Ph.it_ok k s h
      have hnx : Ph.it (k + 1) s = (Ph.it k s).next := rfl
      have O := philox_once (Ph.it k s) ho
      rw [← hnx] at O
      have r0 : (Ph.it (k + 1) s).k0 = ((Ph.it k s).k0 + 2654435769) % 4294967296 := rfl
      have r1 : (Ph.it (k + 1) s).k1 = ((Ph.it k s).k1 + 3144134277) % 4294967296 := rfl
      have ON := Lib.hid O
      clear O hnx
      obtain ⟨⟨h0, h1⟩, ⟨h2, h3⟩, _⟩ := ho
      go_wp2_with (first | (go_at_call 226; (with_reducible refine Calls.mono (ON.out _) ?_); rintro e w1 ⟨rfl, hb⟩; obtain ⟨o1, d1, rfl⟩ := made hb; clear hb))
      go_roundw
      case rel => exact ⟨k + 1, os ++ o1, d1, by omega, by go_num, by rw [mk_mk, ← r0, ← r1]⟩
      case measure => simp [intOf]; omega
    · obtain rfl : k = 10 := by omega
      go_wp2
      refine bodyPost_ret (v := .agg #[.int .u32 (Ph.it 10 s).c0, .int .u32 (Ph.it 10 s).c1, .int .u32 (Ph.it 10 s).c2, .int .u32 (Ph.it 10 s).c3]) ?_ rfl ⟨rfl, by (repeat (first | exact Below.refl _ _ | (refine Below.drew ?_) | (refine Below.setCell ?_ (by simp [mk_size] <;> omega) _) | (refine Below.alloc ?_ (by simp [mk_size] <;> omega) _) | (refine below_mk ?_ (by simp [mk_size] <;> omega) _ _) | (refine Below.trans ?_ (Below.mono (by assumption) (by simp <;> omega)))))⟩
      simp [results, Tryz.results169, go_sem]
theorem philox_Word (seed stream n : Int) (h0 : 0 ≤ seed) (h1 : seed < 18446744073709551616) (h2 : 0 ≤ stream) (h3 : stream < 4294967296) (h4 : 0 ≤ n) (h5 : n < 18446744073709551616) (w : World) :
    Calls Tryz.prog 91 #[.int .u64 seed, .int .u32 stream, .int .u64 n] w fun e w' => e = .returned (.int .u32 (phWord seed stream n)) ∧ Below w.heap.size w w' := by
  have hB := philox_Block ⟨seed % 4294967296, seed / 4294967296, n / 4 % 4294967296, n / 4 / 4294967296, stream, 0⟩ ⟨mod32_r _, ⟨by show 0 ≤ seed / 4294967296; omega, by show seed / 4294967296 < _; omega⟩, mod32_r _, ⟨by show 0 ≤ n / 4 / 4294967296; omega, by show n / 4 / 4294967296 < _; omega⟩, ⟨h2, h3⟩, by show (0 : Int) ≤ 0; omega, by show (0 : Int) < _; omega⟩
  simp only at hB
  have hr : n % 4 = 0 ∨ n % 4 = 1 ∨ n % 4 = 2 ∨ n % 4 = 3 := by omega
  unfold phWord
  generalize Ph.it 10 ⟨seed % 4294967296, seed / 4294967296, n / 4 % 4294967296, n / 4 / 4294967296, stream, 0⟩ = q at *
  have HB := Lib.hid hB
  clear hB
  rcases hr with hr | hr | hr | hr
  all_goals
    go_enter Tryz.func91, Tryz.ntmps91
    go_wp2_with (first | (go_at_call 169; (with_reducible refine Calls.mono (HB.out _) ?_); rintro e w1 ⟨rfl, hb⟩; obtain ⟨o1, d1, rfl⟩ := made hb; clear hb))
    go_ret
    refine ⟨ret1_ (by simp [hr]), by (repeat (first | exact Below.refl _ _ | (refine Below.drew ?_) | (refine Below.setCell ?_ (by simp [mk_size] <;> omega) _) | (refine Below.alloc ?_ (by simp [mk_size] <;> omega) _) | (refine below_mk ?_ (by simp [mk_size] <;> omega) _ _) | (refine Below.trans ?_ (Below.mono (by assumption) (by simp <;> omega)))))⟩
end Go.Proofs.YtkpfefpmdjjhjaaGreat
