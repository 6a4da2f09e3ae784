/- The walk of annealref10.Block, Word. -/
import Derived.Test.YtkpfefpmdjjhjaaGreatPh1
namespace Go.Proofs.YtkpfefpmdjjhjaaGreat
open Go.RowKit Anneal
set_option linter.unusedSimpArgs false
set_option linter.unusedVariables false
attribute [local go_sem] mk_size mk_cell mk_frozen mk_set mk_drew drew_mk lt_inst le_inst
set_option maxHeartbeats 4000000 in
theorem r10_Block (s : Ph) (h : s.ok) (w : World) :
    Calls Tryz.prog 93 #[.agg #[.int .u32 s.k0, .int .u32 s.k1], .agg #[.int .u32 s.c0, .int .u32 s.c1, .int .u32 s.c2, .int .u32 s.c3]] w fun e w' => e = .returned (.agg #[.int .u32 (Ph.it 10 s).c0, .int .u32 (Ph.it 10 s).c1, .int .u32 (Ph.it 10 s).c2, .int .u32 (Ph.it 10 s).c3]) ∧ Below w.heap.size w w' := by
  go_enter Tryz.func93, Tryz.ntmps93
  go_wp2
  go_loopw [5] (fun i wr => ∃ (k : Nat) (os : Array Obj) (d : Nat), k ≤ 10 ∧ i = .int .i64 k ∧ wr = mk (((w.alloc (.cells #[.int .u32 (Ph.it k s).k0, .int .u32 (Ph.it k s).k1] 119)).alloc (.cells #[.int .u32 (Ph.it k s).c0, .int .u32 (Ph.it k s).c1, .int .u32 (Ph.it k s).c2, .int .u32 (Ph.it k s).c3] 117)).alloc (.cells #[.int .u32 0, .int .u32 0, .int .u32 0, .int .u32 0] 117)) os d)
    (fun i _ => 10 - (intOf i).toNat)
  case atStart => exact ⟨0, #[], w.drawn, by omega, by go_num, by simp [mk, Ph.it]; try rfl⟩
  case round =>
    obtain ⟨k, os, d, hk, rfl, rfl⟩ := hrel
    by_cases hlt : k < 10
    · have ho := Ph.it_ok k s h
      have hnx : Ph.it (k + 1) s = (Ph.it k s).next := rfl
      obtain ⟨⟨h0, h1⟩, ⟨h2, h3⟩, ⟨h4, h5⟩, ⟨h6, h7⟩, ⟨h8, h9⟩, ⟨h10, h11⟩⟩ := ho
      generalize hq : Ph.it k s = q at *
      have HX := Lib.hid hnx
      clear hnx
      have m3 : IntKind.u64.wrap (q.c0 * 3528531795) = q.c0 * 3528531795 := by rw [wrap_u64]; omega
      have m4 : IntKind.u64.wrap (q.c2 * 3449720151) = q.c2 * 3449720151 := by rw [wrap_u64]; omega
      go_wp2
      go_roundw
      case rel => exact ⟨k + 1, os, d, by omega, by go_num, by rw [HX.out]; simp [Ph.next, px, phi, plo]⟩
      case measure => simp [intOf]; omega
    · obtain rfl : k = 10 := by omega
      go_wp2
      refine bodyPost_ret (v := .agg #[.int .u32 (Ph.it 10 s).c0, .int .u32 (Ph.it 10 s).c1, .int .u32 (Ph.it 10 s).c2, .int .u32 (Ph.it 10 s).c3]) ?_ rfl ⟨rfl, by (repeat (first | exact Below.refl _ _ | (refine Below.drew ?_) | (refine Below.setCell ?_ (by simp [mk_size] <;> omega) _) | (refine Below.alloc ?_ (by simp [mk_size] <;> omega) _) | (refine below_mk ?_ (by simp [mk_size] <;> omega) _ _) | (refine Below.trans ?_ (Below.mono (by assumption) (by simp <;> omega)))))⟩
      simp [results, Tryz.results93, go_sem]
theorem r10_Word (seed stream n : Int) (h0 : 0 ≤ seed) (h1 : seed < 18446744073709551616) (h2 : 0 ≤ stream) (h3 : stream < 4294967296) (h4 : 0 ≤ n) (h5 : n < 18446744073709551616) (w : World) :
    Calls Tryz.prog 28 #[.int .u64 seed, .int .u32 stream, .int .u64 n] w fun e w' => e = .returned (.int .u32 (phWord seed stream n)) ∧ Below w.heap.size w w' := by
  have hB := r10_Block ⟨seed % 4294967296, seed / 4294967296, n / 4 % 4294967296, n / 4 / 4294967296, stream, 0⟩ ⟨mod32_r _, ⟨by show 0 ≤ seed / 4294967296; omega, by show seed / 4294967296 < _; omega⟩, mod32_r _, ⟨by show 0 ≤ n / 4 / 4294967296; omega, by show n / 4 / 4294967296 < _; omega⟩, ⟨h2, h3⟩, by show (0 : Int) ≤ 0; omega, by show (0 : Int) < _; omega⟩
  simp only at hB
  have hr : n % 4 = 0 ∨ n % 4 = 1 ∨ n % 4 = 2 ∨ n % 4 = 3 := by omega
  unfold phWord
  generalize Ph.it 10 ⟨seed % 4294967296, seed / 4294967296, n / 4 % 4294967296, n / 4 / 4294967296, stream, 0⟩ = q at *
  have HB := Lib.hid hB
  clear hB
  rcases hr with hr | hr | hr | hr
  all_goals
    go_enter Tryz.func28, Tryz.ntmps28
    go_wp2_with (first | (go_at_call 93; (with_reducible refine Calls.mono (HB.out _) ?_); rintro e w1 ⟨rfl, hb⟩; obtain ⟨o1, d1, rfl⟩ := made hb; clear hb))
    go_ret
    refine ⟨ret1_ (by simp [hr]), by (repeat (first | exact Below.refl _ _ | (refine Below.drew ?_) | (refine Below.setCell ?_ (by simp [mk_size] <;> omega) _) | (refine Below.alloc ?_ (by simp [mk_size] <;> omega) _) | (refine below_mk ?_ (by simp [mk_size] <;> omega) _ _) | (refine Below.trans ?_ (Below.mono (by assumption) (by simp <;> omega)))))⟩
theorem phWord_r (seed stream n : Int) (h0 : 0 ≤ seed) (h1 : seed < 18446744073709551616) (h2 : 0 ≤ stream) (h3 : stream < 4294967296) (h4 : 0 ≤ n) (h5 : n < 18446744073709551616) : U32 (phWord seed stream n) := by
  have h := Ph.it_ok 10 ⟨seed % 4294967296, seed / 4294967296, n / 4 % 4294967296, n / 4 / 4294967296, stream, 0⟩ ⟨mod32_r _, ⟨by show 0 ≤ seed / 4294967296; omega, by show seed / 4294967296 < _; omega⟩, mod32_r _, ⟨by show 0 ≤ n / 4 / 4294967296; omega, by show n / 4 / 4294967296 < _; omega⟩, ⟨h2, h3⟩, by show (0 : Int) ≤ 0; omega, by show (0 : Int) < _; omega⟩
  unfold phWord
  generalize Ph.it 10 ⟨seed % 4294967296, seed / 4294967296, n / 4 % 4294967296, n / 4 / 4294967296, stream, 0⟩ = q at *
  obtain ⟨_, _, a, b, c, d⟩ := h
  simp only
  (repeat' split) <;> assumption
end Go.Proofs.YtkpfefpmdjjhjaaGreat
