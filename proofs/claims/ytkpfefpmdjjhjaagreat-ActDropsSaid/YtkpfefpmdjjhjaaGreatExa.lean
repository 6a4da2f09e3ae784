/- The walks of sum.full, sum.Exact. -/
import Derived.Test.YtkpfefpmdjjhjaaGreatSum
import Derived.Lib.Hide
import Derived.Deep.RegionWith
import Derived.Deep.DeepCutAuto
namespace Go.Proofs.YtkpfefpmdjjhjaaGreat
open Go.RowKit Anneal
set_option linter.unusedSimpArgs false
set_option linter.unusedVariables false
theorem cellB {W w1 : World} (hb : Below W.heap.size W w1) (a : Addr) (v : Value) (h : W.cell? a = some v) : w1.cell? a = some v := (hb.cell (World.block_lt_of_cell? W a h)).trans h
theorem frozB {W w1 : World} (hb : Below W.heap.size W w1) (a : Addr) (h : (W.cell? a).isSome = true) : w1.frozen? a = W.frozen? a := by
  obtain ⟨v, hv⟩ := Option.isSome_iff_exists.1 h
  exact hb.frozen (World.block_lt_of_cell? W a hv)
theorem sum_full (n m : Bool) (e s : Int) (h0 : 0 < s) (h1 : s < 4611686018427387904) (b1 : -100000 ≤ e) (b2 : e ≤ 100000) (w : World) : Calls Tryz.prog 255 #[.agg #[.bool n, .int .i64 e, .int .u64 s, .bool m]] w fun e' w' => e' = .returned (.agg #[.bool n, .int .i64 (e - (62 - bl s)), .int .u64 (nrm s), .bool m]) ∧ ∃ c1 c2 : Array Value, w' = (w.alloc (.cells c1 186)).alloc (.cells c2 186) := by
  obtain ⟨l0, l1, l2⟩ := nrm_range s h0 h1
  have s0 : 0 ≤ s := by omega
  have s1 : s < 18446744073709551616 := by omega
  have E := Lib.hid (shV_nrm s h0 h1)
  go_enter Tryz.func255, Tryz.ntmps255
  go_wp2_with (first | (go_at_call 176; (with_reducible refine Calls.mono (bits_Len s s0 s1 _) ?_); rintro e w' ⟨rfl, rfl⟩) | (go_at_call 224; (with_reducible refine Calls.mono (bits_Shift _ _ (by assumption) (by assumption) _) ?_); rintro e w' ⟨rfl, rfl⟩))
  exact bodyPost_ret (v := .agg #[.bool n, .int .i64 (e - (62 - bl s)), .int .u64 (nrm s), .bool m]) (by simp [results, Tryz.results255, go_sem, E.out]) rfl ⟨rfl, _, _, rfl⟩

theorem Exact_a (n1 n2 : Bool) (e1 e2 s2 : Int) (w : World) : Calls Tryz.prog 230 #[.agg #[.bool n1, .int .i64 e1, .int .u64 0, .bool false], .agg #[.bool n2, .int .i64 e2, .int .u64 s2, .bool false]] w fun e' w' => e' = .returned (.agg #[.bool n2, .int .i64 e2, .int .u64 s2, .bool false]) ∧ Below w.heap.size w w' := by
  go_enter Tryz.func230, Tryz.ntmps230
  go_wp2
  exact bodyPost_ret (v := .agg #[.bool n2, .int .i64 e2, .int .u64 s2, .bool false]) (by simp [results, Tryz.results230, go_sem]) rfl ⟨rfl, by (repeat (first | exact Below.refl _ _ | (refine Below.drew ?_) | (refine Below.setCell ?_ (by simp <;> omega) _) | (refine Below.alloc ?_ (by simp <;> omega) _)))⟩
theorem Exact_b (n1 n2 : Bool) (e1 e2 s1 : Int) (h : 0 < s1) (w : World) : Calls Tryz.prog 230 #[.agg #[.bool n1, .int .i64 e1, .int .u64 s1, .bool false], .agg #[.bool n2, .int .i64 e2, .int .u64 0, .bool false]] w fun e' w' => e' = .returned (.agg #[.bool n1, .int .i64 e1, .int .u64 s1, .bool false]) ∧ Below w.heap.size w w' := by
  have h' : (s1 == 0) = false := by simp; omega
  go_enter Tryz.func230, Tryz.ntmps230
  go_wp2
  exact bodyPost_ret (v := .agg #[.bool n1, .int .i64 e1, .int .u64 s1, .bool false]) (by simp [results, Tryz.results230, go_sem]) rfl ⟨rfl, by (repeat (first | exact Below.refl _ _ | (refine Below.drew ?_) | (refine Below.setCell ?_ (by simp <;> omega) _) | (refine Below.alloc ?_ (by simp <;> omega) _)))⟩
set_option maxHeartbeats 8000000 in
theorem Exact_c (n1 n2 ones : Bool) (e1 e2 s1 s2 x y A B low : Int) (h1 : 0 < s1) (h2 : 0 < s2) (a0 : 2305843009213693952 ≤ A) (a1 : A < 4611686018427387904) (b0 : 2305843009213693952 ≤ B) (b1 : B < 4611686018427387904)
    (x0 : -200000 ≤ x) (x1 : x ≤ 200000) (y0 : -200000 ≤ y) (y1 : y ≤ 200000) (o : y < x ∨ (x = y ∧ B ≤ A)) (l0 : 0 ≤ low) (l1 : low ≤ A) (l2 : ones = true → low < A)
    (c1 : ∀ w, Calls Tryz.prog 255 #[.agg #[.bool n1, .int .i64 e1, .int .u64 s1, .bool false]] w fun e' w' => e' = .returned (.agg #[.bool n1, .int .i64 x, .int .u64 A, .bool false]) ∧ ∃ c1 c2 : Array Value, w' = (w.alloc (.cells c1 186)).alloc (.cells c2 186))
    (c2 : ∀ w, Calls Tryz.prog 255 #[.agg #[.bool n2, .int .i64 e2, .int .u64 s2, .bool false]] w fun e' w' => e' = .returned (.agg #[.bool n2, .int .i64 y, .int .u64 B, .bool false]) ∧ ∃ c1 c2 : Array Value, w' = (w.alloc (.cells c1 186)).alloc (.cells c2 186))
    (c3 : ∀ w, Calls Tryz.prog 224 #[.int .u64 B, .int .i64 (x - y)] w fun e' w' => e' = .returned (.tuple #[.int .u64 low, .bool ones]) ∧ w = w')
    (w : World) : Calls Tryz.prog 230 #[.agg #[.bool n1, .int .i64 e1, .int .u64 s1, .bool false], .agg #[.bool n2, .int .i64 e2, .int .u64 s2, .bool false]] w fun e' w' => e' = .returned (.agg #[.bool n1, .int .i64 x, .int .u64 (exS (n1 == n2) ones A low), .bool ones]) ∧ Below w.heap.size w w' := by
  have h1' : (s1 == 0) = false := by simp; omega
  have h2' : (s2 == 0) = false := by simp; omega
  have C1 := Lib.hid c1
  have C2 := Lib.hid c2
  have C3 := Lib.hid c3
  have L2 := Lib.hid l2
  have O := Lib.hid o
  clear c1 c2 c3 l2 o
  go_enter Tryz.func230, Tryz.ntmps230
  go_upto_region 5 with fail
  go_cut [2] (fun s2 wx => s2 = .pointer (some ⟨w.heap.size, 0, none⟩) ∧ ∃ d1 d2 d3 d4 : Array Value, wx = (((((((w.alloc (.cells #[.bool n1, .int .i64 x, .int .u64 A, .bool false] 186)).alloc (.cells #[.bool n2, .int .i64 y, .int .u64 B, .bool false] 186)).alloc (.cells #[.bool false, .int .i64 0, .int .u64 0, .bool false] 186)).alloc (.cells d1 186)).alloc (.cells d2 186)).alloc (.cells d3 186)).alloc (.cells d4 186)).drew)
  case first =>
    go_region_with (first | (go_at_call 255; (with_reducible refine Calls.mono (C1.out _) ?_); rintro e w1 ⟨rfl, d1, d2, rfl⟩) | (go_at_call 255; (with_reducible refine Calls.mono (C2.out _) ?_); rintro e w1 ⟨rfl, d3, d4, rfl⟩))
    all_goals (go_wp2_with fail; go_meet; exact ⟨rfl, d1, d2, d3, d4, rfl⟩)
  case rest =>
    obtain ⟨rfl, d1, d2, d3, d4, rfl⟩ := hcut
    have o := O.out
    rcases o with o | ⟨o, o2⟩
    · have oe : (x == y) = false := by simp; omega
      go_wp2_with (go_at_call 224; (with_reducible refine Calls.mono (C3.out _) ?_); rintro e w' ⟨rfl, rfl⟩)
      all_goals (refine bodyPost_ret (v := .agg #[.bool n1, .int .i64 x, .int .u64 (exS (n1 == n2) ones A low), .bool ones]) ?_ rfl ⟨rfl, by (repeat (first | exact Below.refl _ _ | (refine Below.drew ?_) | (refine Below.setCell ?_ (by simp <;> omega) _) | (refine Below.alloc ?_ (by simp <;> omega) _)))⟩; simp [results, Tryz.results230, go_sem]; simp_all [exS] <;> (have l3 := L2.out; rw [wrap_u64, Int.emod_eq_of_lt (by omega) (by omega)]))
    · subst o
      have oe : (x == x) = true := beq_self_eq_true _
      have c3 := C3.out
      simp only [Int.sub_self] at c3
      have C4 := Lib.hid c3
      clear c3
      go_wp2_with (first | (go_at_call 224; (with_reducible refine Calls.mono (C3.out _) ?_); rintro e w' ⟨rfl, rfl⟩) | (go_at_call 224; (with_reducible refine Calls.mono (C4.out _) ?_); rintro e w' ⟨rfl, rfl⟩))
      all_goals (refine bodyPost_ret (v := .agg #[.bool n1, .int .i64 x, .int .u64 (exS (n1 == n2) ones A low), .bool ones]) ?_ rfl ⟨rfl, by (repeat (first | exact Below.refl _ _ | (refine Below.drew ?_) | (refine Below.setCell ?_ (by simp <;> omega) _) | (refine Below.alloc ?_ (by simp <;> omega) _)))⟩; simp [results, Tryz.results230, go_sem]; simp_all [exS] <;> (have l3 := L2.out; rw [wrap_u64, Int.emod_eq_of_lt (by omega) (by omega)]))
set_option maxHeartbeats 8000000 in
theorem Exact_d (n1 n2 ones : Bool) (e1 e2 s1 s2 x y A B low : Int) (h1 : 0 < s1) (h2 : 0 < s2) (a0 : 2305843009213693952 ≤ A) (a1 : A < 4611686018427387904) (b0 : 2305843009213693952 ≤ B) (b1 : B < 4611686018427387904)
    (x0 : -200000 ≤ x) (x1 : x ≤ 200000) (y0 : -200000 ≤ y) (y1 : y ≤ 200000) (o : x < y ∨ (x = y ∧ A < B)) (l0 : 0 ≤ low) (l1 : low ≤ B) (l2 : ones = true → low < B)
    (c1 : ∀ w, Calls Tryz.prog 255 #[.agg #[.bool n1, .int .i64 e1, .int .u64 s1, .bool false]] w fun e' w' => e' = .returned (.agg #[.bool n1, .int .i64 x, .int .u64 A, .bool false]) ∧ ∃ c1 c2 : Array Value, w' = (w.alloc (.cells c1 186)).alloc (.cells c2 186))
    (c2 : ∀ w, Calls Tryz.prog 255 #[.agg #[.bool n2, .int .i64 e2, .int .u64 s2, .bool false]] w fun e' w' => e' = .returned (.agg #[.bool n2, .int .i64 y, .int .u64 B, .bool false]) ∧ ∃ c1 c2 : Array Value, w' = (w.alloc (.cells c1 186)).alloc (.cells c2 186))
    (c3 : ∀ w, Calls Tryz.prog 224 #[.int .u64 A, .int .i64 (y - x)] w fun e' w' => e' = .returned (.tuple #[.int .u64 low, .bool ones]) ∧ w = w')
    (w : World) : Calls Tryz.prog 230 #[.agg #[.bool n1, .int .i64 e1, .int .u64 s1, .bool false], .agg #[.bool n2, .int .i64 e2, .int .u64 s2, .bool false]] w fun e' w' => e' = .returned (.agg #[.bool n2, .int .i64 y, .int .u64 (exS (n2 == n1) ones B low), .bool ones]) ∧ Below w.heap.size w w' := by
  have h1' : (s1 == 0) = false := by simp; omega
  have h2' : (s2 == 0) = false := by simp; omega
  have C1 := Lib.hid c1
  have C2 := Lib.hid c2
  have C3 := Lib.hid c3
  have L2 := Lib.hid l2
  have O := Lib.hid o
  clear c1 c2 c3 l2 o
  go_enter Tryz.func230, Tryz.ntmps230
  go_upto_region 5 with fail
  go_cut [2] (fun s2 wx => s2 = .pointer (some ⟨w.heap.size, 0, none⟩) ∧ ∃ d1 d2 d3 d4 : Array Value, wx = (((((((w.alloc (.cells #[.bool n1, .int .i64 x, .int .u64 A, .bool false] 186)).alloc (.cells #[.bool n2, .int .i64 y, .int .u64 B, .bool false] 186)).alloc (.cells #[.bool false, .int .i64 0, .int .u64 0, .bool false] 186)).alloc (.cells d1 186)).alloc (.cells d2 186)).alloc (.cells d3 186)).alloc (.cells d4 186)).drew)
  case first =>
    go_region_with (first | (go_at_call 255; (with_reducible refine Calls.mono (C1.out _) ?_); rintro e w1 ⟨rfl, d1, d2, rfl⟩) | (go_at_call 255; (with_reducible refine Calls.mono (C2.out _) ?_); rintro e w1 ⟨rfl, d3, d4, rfl⟩))
    all_goals (go_wp2_with fail; go_meet; exact ⟨rfl, d1, d2, d3, d4, rfl⟩)
  case rest =>
    obtain ⟨rfl, d1, d2, d3, d4, rfl⟩ := hcut
    have o := O.out
    rcases o with o | ⟨o, o2⟩
    · have oe : (x == y) = false := by simp; omega
      go_wp2_with (go_at_call 224; (with_reducible refine Calls.mono (C3.out _) ?_); rintro e w' ⟨rfl, rfl⟩)
      all_goals (refine bodyPost_ret (v := .agg #[.bool n2, .int .i64 y, .int .u64 (exS (n2 == n1) ones B low), .bool ones]) ?_ rfl ⟨rfl, by (repeat (first | exact Below.refl _ _ | (refine Below.drew ?_) | (refine Below.setCell ?_ (by simp <;> omega) _) | (refine Below.alloc ?_ (by simp <;> omega) _)))⟩; simp [results, Tryz.results230, go_sem]; simp_all [exS] <;> (have l3 := L2.out; rw [wrap_u64, Int.emod_eq_of_lt (by omega) (by omega)]))
    · subst o
      have oe : (x == x) = true := beq_self_eq_true _
      have c3 := C3.out
      simp only [Int.sub_self] at c3
      have C4 := Lib.hid c3
      clear c3
      go_wp2_with (first | (go_at_call 224; (with_reducible refine Calls.mono (C3.out _) ?_); rintro e w' ⟨rfl, rfl⟩) | (go_at_call 224; (with_reducible refine Calls.mono (C4.out _) ?_); rintro e w' ⟨rfl, rfl⟩))
      all_goals (refine bodyPost_ret (v := .agg #[.bool n2, .int .i64 x, .int .u64 (exS (n2 == n1) ones B low), .bool ones]) ?_ rfl ⟨rfl, by (repeat (first | exact Below.refl _ _ | (refine Below.drew ?_) | (refine Below.setCell ?_ (by simp <;> omega) _) | (refine Below.alloc ?_ (by simp <;> omega) _)))⟩; simp [results, Tryz.results230, go_sem]; simp_all [exS] <;> (have l3 := L2.out; rw [wrap_u64, Int.emod_eq_of_lt (by omega) (by omega)]))
end Go.Proofs.YtkpfefpmdjjhjaaGreat
