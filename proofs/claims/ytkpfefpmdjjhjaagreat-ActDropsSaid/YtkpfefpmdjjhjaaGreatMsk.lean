/- act.Mask's own function. -/
import Derived.Test.YtkpfefpmdjjhjaaGreatTen
import Derived.Test.YtkpfefpmdjjhjaaGreatFu1
namespace Go.Proofs.YtkpfefpmdjjhjaaGreat
open Go.RowKit Anneal
set_option linter.unusedSimpArgs false
set_option linter.unusedVariables false
attribute [local go_sem] mk_size mk_cell mk_frozen mk_set mk_drew drew_mk lt_inst le_inst
/-- what stands in the place of the i-th number -/
def mskV (seed stream drop more i : Int) : Int := if phWord seed stream i < drop then 0 else more
theorem act_Mask1 (i v seed stream drop more : Int) (i0 : 0 ≤ i) (i1 : i < 9223372036854775808) (h0 : 0 ≤ seed) (h1 : seed < 18446744073709551616) (h2 : 0 ≤ stream) (h3 : stream < 4294967296)
    (b2 b3 b4 b5 : Nat) (w : World) (l2 : b2 < w.heap.size) (l3 : b3 < w.heap.size) (l4 : b4 < w.heap.size) (l5 : b5 < w.heap.size)
    (c2 : w.cell? ⟨b2, 0, none⟩ = some (.int .u64 seed)) (c3 : w.cell? ⟨b3, 0, none⟩ = some (.int .u32 stream)) (c4 : w.cell? ⟨b4, 0, none⟩ = some (.int .u32 drop)) (c5 : w.cell? ⟨b5, 0, none⟩ = some (.int .u32 more)) :
    Calls Tryz.prog 90 #[.int .i64 i, .int .u32 v, .pointer (some ⟨b2, 0, none⟩), .pointer (some ⟨b3, 0, none⟩), .pointer (some ⟨b4, 0, none⟩), .pointer (some ⟨b5, 0, none⟩)] w fun e w' => e = .returned (.int .u32 (mskV seed stream drop more i)) ∧ Below w.heap.size w w' := by
  have m1 : IntKind.u64.wrap i = i := by rw [wrap_u64]; omega
  have HW := Lib.hid (philox_Word seed stream i h0 h1 h2 h3 i0 (by omega))
  generalize hM : mskV seed stream drop more i = M
  unfold mskV at hM
  have HM := Lib.hid hM
  clear hM
  generalize phWord seed stream i = W at *
  go_enter Tryz.func90, Tryz.ntmps90
  go_wp2
  go_region_held3 (fun w' => w'.cell? ⟨b2, 0, none⟩ = some (.int .u64 seed) ∧ w'.cell? ⟨b3, 0, none⟩ = some (.int .u32 stream) ∧ w'.cell? ⟨b4, 0, none⟩ = some (.int .u32 drop)) (simp [go_sem, *]) (first | (go_at_call 91; (with_reducible refine Calls.mono (HW.out _) ?_); rintro e w1 ⟨rfl, hb⟩; obtain ⟨o1, d1, rfl⟩ := made hb; clear hb))
  go_wp2
  all_goals
    go_ret
    have hM := HM.out
    refine ⟨ret1_ (congrArg (Value.int .u32) ?_), by (repeat (first | exact Below.refl _ _ | (refine Below.drew ?_) | (refine Below.setCell ?_ (by simp [mk_size] <;> omega) _) | (refine Below.alloc ?_ (by simp [mk_size] <;> omega) _) | (refine below_mk ?_ (by simp [mk_size] <;> omega) _ _) | (refine Below.trans ?_ (Below.mono (by assumption) (by simp <;> omega)))))⟩
    rw [← hM]; split <;> first | rfl | omega
end Go.Proofs.YtkpfefpmdjjhjaaGreat
