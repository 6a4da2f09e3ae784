/- The walks of the reference's bits (annealref1). -/
import Derived.Test.YtkpfefpmdjjhjaaGreatRf2
import Derived.Test.YtkpfefpmdjjhjaaGreatMk
import Derived.Test.YtkpfefpmdjjhjaaGreatPk
import Derived.Test.YtkpfefpmdjjhjaaGreatRou
import Derived.Lib.Hide
namespace Go.Proofs.YtkpfefpmdjjhjaaGreat
open Go.RowKit Anneal
set_option linter.unusedSimpArgs false
set_option linter.unusedVariables false
attribute [local go_sem] mk_size mk_cell mk_frozen mk_set mk_drew drew_mk lt_inst le_inst
theorem bl_half (x : Int) (h : 0 < x) : bl x = bl (x / 2) + 1 := by
  obtain ⟨N, rfl⟩ := Int.eq_ofNat_of_zero_le (Int.le_of_lt h)
  have e : (N : Int) / 2 = ((N / 2 : Nat) : Int) := by omega
  unfold bl
  rw [e, if_neg (by omega), Int.toNat_natCast, Int.toNat_natCast]
  by_cases c : N / 2 = 0
  · have : N = 1 := by omega
    subst this; rfl
  · rw [if_neg (by omega)]
    have := Nat.log2_def N
    rw [if_pos (by omega)] at this
    omega
theorem r1_Len (x : Int) (h0 : 0 ≤ x) (h1 : x < 18446744073709551616) (w : World) : Calls Tryz.prog 201 #[.int .u64 x] w fun e w' => e = .returned (.int .i64 (bl x)) ∧ w = w' := by
  obtain ⟨r0, r1⟩ := bl_range x h0 h1
  generalize hL : bl x = L at *
  go_enter Tryz.func201, Tryz.ntmps201
  go_wp2
  go_loopw [0, 3] (fun a n wr => ∃ y k : Int, 0 ≤ y ∧ y < 18446744073709551616 ∧ 0 ≤ k ∧ k ≤ 64 ∧ bl y + k = L ∧ a = .int .u64 y ∧ n = .int .i64 k ∧ wr = w)
    (fun a _ _ => (intOf a).toNat)
  case atStart => exact ⟨x, 0, h0, h1, by omega, by omega, by omega, rfl, rfl, rfl⟩
  case round =>
    obtain ⟨y, k, y0, y1, k0, k1, hy, rfl, rfl, rfl⟩ := hrel
    by_cases hlt : 0 < y
    · have hb := bl_half y hlt
      obtain ⟨q0, q1⟩ := bl_range (y / 2) (by omega) (by omega)
      go_wp2
      go_roundw
      case rel => exact ⟨y / 2, k + 1, by omega, by omega, by omega, by omega, by omega, by go_num, by go_num, trivial⟩
      case measure => simp [intOf]; omega
    · obtain rfl : y = 0 := by omega
      have : bl 0 = 0 := rfl
      obtain rfl : k = L := by omega
      go_wp2
      go_ret
      simp
theorem odd_step (N k : Nat) : (decide (N % 2 ^ k ≠ 0) || ((N / 2 ^ k : Nat) : Int) % 2 == 1) = decide (N % 2 ^ (k + 1) ≠ 0) := by
  have hr : N % 2 ^ (k + 1) = N % 2 ^ k + 2 ^ k * (N / 2 ^ k % 2) := by rw [Nat.pow_succ, Nat.mod_mul]
  have hp : 0 < 2 ^ k := Nat.pow_pos (by decide)
  have hh : N / 2 ^ k % 2 = 0 ∨ N / 2 ^ k % 2 = 1 := by omega
  have e : ((N / 2 ^ k : Nat) : Int) % 2 = ((N / 2 ^ k % 2 : Nat) : Int) := by simp
  rw [hr, e]
  rcases hh with h | h <;> rw [h]
  · simp
  · simp
    try omega
/-- what is left of a number behind k bits; was one of these 1? -/
def hv (N k : Nat) : Int := ((N / 2 ^ k : Nat) : Int)
def ho (N k : Nat) : Bool := decide (N % 2 ^ k ≠ 0)
theorem hv_zero (N : Nat) : hv N 0 = N := by simp [hv]
theorem ho_zero (N : Nat) : ho N 0 = false := by simp [ho, Nat.mod_one]
theorem hv_range (N k : Nat) (h : N < 18446744073709551616) : 0 ≤ hv N k ∧ hv N k < 18446744073709551616 := by
  unfold hv
  have hu : N / 2 ^ k < 18446744073709551616 := Nat.lt_of_le_of_lt (Nat.div_le_self ..) h
  generalize N / 2 ^ k = z at *
  omega
theorem hv_half (N k : Nat) : hv N k / 2 = hv N (k + 1) := by
  unfold hv
  rw [Nat.pow_succ, ← Nat.div_div_eq_div_mul]
  generalize N / 2 ^ k = z
  omega
theorem ho_step (N k : Nat) : (ho N k || hv N k % 2 == 1) = ho N (k + 1) := odd_step N k
theorem r1_Shift (N n : Nat) (h1 : N < 18446744073709551616) (hn : n ≤ 64) (w : World) : Calls Tryz.prog 239 #[.int .u64 (N : Int), .int .i64 (n : Int)] w fun e w' => e = .returned (.tuple #[.int .u64 (shV N n), .bool (shB N n)]) ∧ w = w' := by
  have hV : shV N n = hv N n := shV_nat N n h1
  have hB : shB N n = ho N n := shB_nat N n h1
  rw [hV, hB]
  clear hV hB
  have m1 : max (n : Int) (-64) = n := by omega
  have m2 : min (n : Int) 64 = n := by omega
  go_enter Tryz.func239, Tryz.ntmps239
  go_wp2
  go_loopw [0, 1, 6] (fun a b o wr => ∃ k : Nat, k ≤ n ∧ a = .int .u64 (hv N k) ∧ b = .int .i64 ((n : Int) - k) ∧ o = .bool (ho N k) ∧ wr = w)
    (fun _ b _ _ => (intOf b).toNat)
  case atStart => exact ⟨0, by omega, by rw [hv_zero], by go_num, by rw [ho_zero], rfl⟩
  case round =>
    obtain ⟨k, hk, rfl, rfl, rfl, rfl⟩ := hrel
    obtain ⟨y0, y1⟩ := hv_range N k h1
    have hst := Lib.hid (ho_step N k)
    have hd := Lib.hid (hv_half N k)
    by_cases hlt : k < n
    · have ha : bits BinOp.and IntKind.u64 (hv N k) 1 = hv N k % 2 := by rw [and64 1 (by decide) 1 (by decide) _ (by omega) (by omega)]; rfl
      generalize hv N k = y at *
      generalize ho N k = o at *
      have hk1 : 0 < (n : Int) - k := by omega
      go_wp2
      all_goals
        go_roundw
        case rel => exact ⟨k + 1, by omega, by rw [← hd.out], by go_num, by rw [← hst.out]; simp_all, trivial⟩
        case measure => simp [intOf]; omega
    · obtain rfl : k = n := by omega
      have hkk : (k : Int) - k = 0 := by omega
      go_wp2
      go_loopw [0, 1, 6] (fun a b c wx => a = .int .u64 (hv N k) ∧ b = .int .i64 0 ∧ c = .bool (ho N k) ∧ wx = wr) (fun _ _ _ _ => 0)
      case atStart => exact ⟨rfl, by go_num, rfl, rfl⟩
      case round =>
        obtain ⟨rfl, rfl, rfl, rfl⟩ := hrel
        go_wp2
        go_ret2
        simp
theorem r1_up (neg odd half rest : Bool) (w : World) : Calls Tryz.prog 203 #[.int .i64 0, .bool neg, .bool odd, .bool half, .bool rest] w fun e w' => e = .returned (.bool (half && (rest || odd))) ∧ w = w' := by
  cases half <;> cases rest
  all_goals
    go_enter Tryz.func203, Tryz.ntmps203
    go_wp2
    all_goals (go_ret; exact ⟨ret1_ (by simp), rfl⟩)
theorem r1_over (f : Int) (neg : Bool) (hf : Fm f) (w : World) : Calls Tryz.prog 204 #[.int .i64 f, .int .i64 0, .bool neg] w fun e w' => e = .returned (.int .u32 (fInf f neg)) ∧ Below w.heap.size w w' := by
  go_enter Tryz.func204, Tryz.ntmps204
  go_wp2_with (first | (go_at_call 128; (with_reducible refine Calls.mono (r1_Inf f neg hf _) ?_); rintro e w1 ⟨rfl, hb⟩; obtain ⟨o1, d1, rfl⟩ := made hb; clear hb))
  go_ret
  exact ⟨rfl, by (repeat (first | exact Below.refl _ _ | (refine Below.drew ?_) | (refine Below.setCell ?_ (by simp [mk_size] <;> omega) _) | (refine Below.alloc ?_ (by simp [mk_size] <;> omega) _) | (refine below_mk ?_ (by simp [mk_size] <;> omega) _ _) | (refine Below.trans ?_ (Below.mono (by assumption) (by simp <;> omega)))))⟩
/-- what divide tells -/
def dvV (N : Nat) (n : Int) : Int := if n ≤ 0 then N * 2 ^ (min (-n) 63).toNat % 18446744073709551616 else if 64 < n then 0 else shV N n
def dvH (N : Nat) (n : Int) : Bool := if n ≤ 0 then false else if 64 < n then false else shV N (n - 1) % 2 == 1
def dvR (N : Nat) (n : Int) : Bool := if n ≤ 0 then false else if 64 < n then N != 0 else shB N (n - 1)
theorem shl_lit (a : Int) (k : Nat) : True := trivial
theorem r1_divide (N : Nat) (n : Int) (h1 : N < 18446744073709551616) (b0 : -100000 ≤ n) (b1 : n ≤ 100000) (w : World) :
    Calls Tryz.prog 202 #[.int .u64 (N : Int), .int .i64 n] w fun e w' => e = .returned (.tuple #[.int .u64 (dvV N n), .bool (dvH N n), .bool (dvR N n)]) ∧ w = w' := by
  by_cases c1 : n ≤ 0
  · go_enter Tryz.func202, Tryz.ntmps202
    go_wp2
    go_ret3
    refine ⟨ret3_ (congrArg (Value.int .u64) ?_) (congrArg Value.bool ?_) (congrArg Value.bool ?_), rfl⟩
    · unfold dvV; rw [if_pos c1]
      exact wrap_u64 _
    · unfold dvH; rw [if_pos c1]
    · unfold dvR; rw [if_pos c1]
  by_cases c2 : 64 < n
  · go_enter Tryz.func202, Tryz.ntmps202
    go_wp2
    go_ret3
    refine ⟨ret3_ (congrArg (Value.int .u64) ?_) (congrArg Value.bool ?_) (congrArg Value.bool ?_), rfl⟩
    · unfold dvV; rw [if_neg (by omega), if_pos c2]
    · unfold dvH; rw [if_neg (by omega), if_pos c2]
    · unfold dvR; rw [if_neg (by omega), if_pos c2]; rw [Bool.eq_iff_iff]; simp
  obtain ⟨k, rfl⟩ := Int.eq_ofNat_of_zero_le (show 0 ≤ n by omega)
  have kk : (k : Int) - 1 = ((k - 1 : Nat) : Int) := by omega
  have S1 : ∀ w, Calls Tryz.prog 239 #[.int .u64 (N : Int), .int .i64 (k : Int)] w fun e w' => e = .returned (.tuple #[.int .u64 (shV N k), .bool (shB N k)]) ∧ w = w' := r1_Shift N k h1 (by omega)
  have S2 : ∀ w, Calls Tryz.prog 239 #[.int .u64 (N : Int), .int .i64 ((k : Int) - 1)] w fun e w' => e = .returned (.tuple #[.int .u64 (shV N ((k : Int) - 1)), .bool (shB N ((k : Int) - 1))]) ∧ w = w' := by
    rw [kk]; exact r1_Shift N (k - 1) h1 (by omega)
  obtain ⟨q0, q1⟩ := shV_range N ((k : Int) - 1) (by omega) (by omega)
  have ha : bits BinOp.and IntKind.u64 (shV N ((k : Int) - 1)) 1 = shV N ((k : Int) - 1) % 2 := by rw [and64 1 (by decide) 1 (by decide) _ (by omega) (by omega)]; rfl
  have T1 := Lib.hid S1
  have T2 := Lib.hid S2
  clear S1 S2 kk
  go_enter Tryz.func202, Tryz.ntmps202
  go_wp2_with (first | (go_at_call 239; (with_reducible refine Calls.mono (T1.out _) ?_); rintro e w' ⟨rfl, rfl⟩) | (go_at_call 239; (with_reducible refine Calls.mono (T2.out _) ?_); rintro e w' ⟨rfl, rfl⟩))
  go_ret3
  refine ⟨ret3_ (congrArg (Value.int .u64) ?_) (congrArg Value.bool ?_) (congrArg Value.bool ?_), rfl⟩
  · unfold dvV; rw [if_neg (by omega), if_neg (by omega)]
  · unfold dvH; rw [if_neg (by omega), if_neg (by omega)]
  · unfold dvR; rw [if_neg (by omega), if_neg (by omega)]
end Go.Proofs.YtkpfefpmdjjhjaaGreat
