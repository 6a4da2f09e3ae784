/- The walk of act.Mask. -/
import Derived.Test.YtkpfefpmdjjhjaaGreatEaM
import Derived.Test.YtkpfefpmdjjhjaaGreatMsk
namespace Go.Proofs.YtkpfefpmdjjhjaaGreat
open Go.RowKit Anneal
set_option linter.unusedSimpArgs false
set_option linter.unusedVariables false
attribute [local go_sem] mk_size mk_cell mk_frozen mk_set mk_drew drew_mk lt_inst le_inst
/-- how much the others grow -/
def mskMore (drop : Int) : Int := fdiv (fint 4294967296) (fint (4294967296 - drop))
/-- a width, kept between its bounds -/
def clampW (x : Int) : Int := if 4096 < (if x < 0 then 0 else x) then 4096 else (if x < 0 then 0 else x)
def newR (a b : Int) : Int := if 262144 < clampW a * clampW b then 0 else clampW a
def newC (a b : Int) : Int := if 262144 < clampW a * clampW b then 0 else clampW b
def newN (a b : Int) : Nat := if 262144 < clampW a * clampW b then 0 else (clampW a * clampW b).toNat
theorem clampW_r (x : Int) : 0 ≤ clampW x ∧ clampW x ≤ 4096 := by unfold clampW; (repeat' split) <;> omega
theorem newN_r (a b : Int) : newN a b ≤ 262144 := by unfold newN; split <;> omega
theorem tensor_New2 (rows cols : Int) (w : World) : Calls Tryz.prog 89 #[.int .i64 rows, .int .i64 cols, .int .i64 2] w (NewP (newR rows cols) (newC rows cols) 2 (newN rows cols) w) := by
  obtain ⟨a0, a1⟩ := clampW_r rows
  obtain ⟨b0, b1⟩ := clampW_r cols
  have hp : 0 ≤ clampW rows * clampW cols := Int.mul_nonneg a0 b0
  unfold newR newC newN
  by_cases h : 262144 < clampW rows * clampW cols
  · rw [if_pos h, if_pos h, if_pos h]
    exact tensor_NewTop rows cols _ _ (clampW rows) (clampW cols) rfl rfl rfl rfl h w
  · rw [if_neg h, if_neg h, if_neg h]
    exact tensor_New2n rows cols _ _ (clampW rows) (clampW cols) _ rfl rfl rfl rfl (by omega) (by omega) w
theorem r13_New2 (rows cols : Int) (w : World) : Calls Tryz.prog 92 #[.int .i64 rows, .int .i64 cols, .int .i64 2] w (NewP (newR rows cols) (newC rows cols) 2 (newN rows cols) w) := by
  obtain ⟨a0, a1⟩ := clampW_r rows
  obtain ⟨b0, b1⟩ := clampW_r cols
  have hp : 0 ≤ clampW rows * clampW cols := Int.mul_nonneg a0 b0
  unfold newR newC newN
  by_cases h : 262144 < clampW rows * clampW cols
  · rw [if_pos h, if_pos h, if_pos h]
    exact r13_NewTop rows cols _ _ (clampW rows) (clampW cols) rfl rfl rfl rfl h w
  · rw [if_neg h, if_neg h, if_neg h]
    exact r13_New2n rows cols _ _ (clampW rows) (clampW cols) _ rfl rfl rfl rfl (by omega) (by omega) w
/-- which numbers are dropped -/
def tMask (rows cols drop seed stream : Int) : Tn := ⟨newR rows cols, newC rows cols, 2, newN rows cols, fun i => mskV seed stream drop (mskMore drop) i⟩
theorem mskV_r (seed stream drop more i : Int) (h : U32 more) : U32 (mskV seed stream drop more i) := by unfold mskV; split <;> omega
set_option maxRecDepth 20000 in
set_option maxHeartbeats 4000000 in
theorem act_Mask (rows cols drop seed stream : Int) (d0 : 0 ≤ drop) (d1 : drop < 4294967296) (h0 : 0 ≤ seed) (h1 : seed < 18446744073709551616) (h2 : 0 ≤ stream) (h3 : stream < 4294967296) (w : World) :
    Calls Tryz.prog 26 #[.int .i64 rows, .int .i64 cols, .int .u32 drop, .int .u64 seed, .int .u32 stream] w (TenP (tMask rows cols drop seed stream) w) := by
  have HN := Lib.hid (tensor_New2 rows cols)
  have hn := newN_r rows cols
  have k1 : IntKind.i64.wrap drop = drop := by rw [wrap_i64m]; omega
  have k2 : IntKind.i64.wrap (4294967296 - drop) = 4294967296 - drop := by rw [wrap_i64m]; omega
  have hmf : ∀ (fn : Fn) (first cap : Array Value) (w : World), (Instr.makeFunc fn first cap).run Tryz.prog w = .ok (.func fn first cap) w := fun _ _ _ _ => rfl
  have hmore : U32 (mskMore drop) := fdiv_r _ _
  have HU := Lib.hid (fun (i : Nat) => mskV_r seed stream drop (mskMore drop) i hmore)
  have CE := Lib.hid (fun (w1 : World) (b2 b3 b4 b5 A mm : Nat) (r c : Int) (n : Nat) (hn : n ≤ 16777216) (hR : Rd w1 (some ⟨A, 0, none⟩) n (fun _ => 0)) (l2 : b2 < w1.heap.size) (l3 : b3 < w1.heap.size) (l4 : b4 < w1.heap.size) (l5 : b5 < w1.heap.size)
      (c2 : w1.cell? ⟨b2, 0, none⟩ = some (.int .u64 seed)) (c3 : w1.cell? ⟨b3, 0, none⟩ = some (.int .u32 stream)) (c4 : w1.cell? ⟨b4, 0, none⟩ = some (.int .u32 drop)) (c5 : w1.cell? ⟨b5, 0, none⟩ = some (.int .u32 (mskMore drop))) =>
    Each_Mask1 r c 2 2 (some ⟨A, 0, none⟩) n mm (fun _ => 0) (fun i => mskV seed stream drop (mskMore drop) i) (.pointer (some ⟨b2, 0, none⟩)) (.pointer (some ⟨b3, 0, none⟩)) (.pointer (some ⟨b4, 0, none⟩)) (.pointer (some ⟨b5, 0, none⟩)) hn w1 hR
      (fun j hj w2 hb2 => act_Mask1 j 0 seed stream drop (mskMore drop) (by omega) (by omega) h0 h1 h2 h3 b2 b3 b4 b5 w2 (Nat.lt_of_lt_of_le l2 hb2.size) (Nat.lt_of_lt_of_le l3 hb2.size) (Nat.lt_of_lt_of_le l4 hb2.size) (Nat.lt_of_lt_of_le l5 hb2.size)
        ((hb2.cell (p := ⟨b2, 0, none⟩) l2).trans c2) ((hb2.cell (p := ⟨b3, 0, none⟩) l3).trans c3) ((hb2.cell (p := ⟨b4, 0, none⟩) l4).trans c4) ((hb2.cell (p := ⟨b5, 0, none⟩) l5).trans c5)))
  unfold tMask
  generalize newR rows cols = r at *
  generalize newC rows cols = c at *
  generalize newN rows cols = n at *
  have hM : fdiv (fint 4294967296) (fint (4294967296 - drop)) = mskMore drop := rfl
  generalize hmm : mskMore drop = M at *
  have HMM := Lib.hid hM
  clear hM hmm
  go_enter Tryz.func26, Tryz.ntmps26
  go_wp2
  go_region_held3 (fun w' => w'.cell? ⟨w.heap.size, 0, none⟩ = some (.int .u32 drop)) (simp [go_sem]) (first | (go_at_call 88; (with_reducible refine Calls.mono (funcs_Int 4294967296 (by decide) (by decide) _) ?_); rintro e w1 ⟨rfl, hb⟩; obtain ⟨o1, d1, rfl⟩ := made hb; clear hb) | (go_at_call 88; (with_reducible refine Calls.mono (funcs_Int (4294967296 - drop) (by omega) (by omega) _) ?_); rintro e w1 ⟨rfl, hb⟩; obtain ⟨o1, d1, rfl⟩ := made hb; clear hb) | (go_at_call 87; (with_reducible refine Calls.mono (Lib.hid (funcs_Div (fint 4294967296) (fint (4294967296 - drop)) (fint_r _).1 (fint_r _).2 (fint_r _).1 (fint_r _).2 _)).out ?_); rintro e w1 ⟨rfl, hb⟩; rw [HMM.out]; obtain ⟨o1, d1, rfl⟩ := made hb; clear hb))
  all_goals
    go_wp2_with (first | (go_at_call 89; (with_reducible refine Calls.mono (HN.out _) ?_); rintro e w1 ⟨B, rfl, hB, hrow, hb⟩; have HR := Lib.hid (Rd.of_row hrow (fun _ _ => by omega)); clear hrow hB; obtain ⟨oN, dN, rfl⟩ := made hb; clear hb) | (go_at_call 80; (with_reducible refine Calls.mono (CE.out _ _ _ _ _ B n r c n (by omega) HR.out (by simp [go_sem]) (by simp [go_sem]) (by simp [go_sem]) (by simp [go_sem]) (by simp [go_sem]) (by simp [go_sem]) (by simp [go_sem]) (by simp [go_sem])) ?_); rintro e w1 ⟨B2, rfl, hB, hrow, hb⟩; have HRow := Lib.hid hrow; clear hrow; obtain ⟨oE, dE, rfl⟩ := made hb; clear hb))
    refine bodyPost_ret (v := .agg #[.int .i64 r, .int .i64 c, .int .i64 2, .slice (some ⟨B2, 0, none⟩) n n]) ?_ rfl ⟨some ⟨B2, 0, none⟩, n, rfl, Rd.of_row (World.rowIs.of_block HRow.out (mk_ge _ _ _ _ _ (by simp [mk_size]) hB)) (fun j _ => HU.out j), by (repeat (first | exact Below.refl _ _ | (refine Below.drew ?_) | (refine Below.setCell ?_ (by simp [mk_size] <;> omega) _) | (refine Below.alloc ?_ (by simp [mk_size] <;> omega) _) | (refine below_mk ?_ (by simp [mk_size] <;> omega) _ _) | (refine Below.trans ?_ (Below.mono (by assumption) (by simp <;> omega)))))⟩
    simp [results, Tryz.results26, go_sem]
end Go.Proofs.YtkpfefpmdjjhjaaGreat
