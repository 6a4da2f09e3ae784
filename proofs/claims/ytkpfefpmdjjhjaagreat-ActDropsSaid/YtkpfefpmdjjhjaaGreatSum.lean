/- The walks of package sum. -/
import Derived.Test.YtkpfefpmdjjhjaaGreatPac
import Derived.Test.YtkpfefpmdjjhjaaGreatAri
namespace Go.Proofs.YtkpfefpmdjjhjaaGreat
open Go.RowKit Anneal
set_option linter.unusedSimpArgs false
set_option linter.unusedVariables false
theorem sum_Of (f v : Int) (hf : Fm f) (h0 : 0 ≤ v) (h1 : v < 4294967296) (w : World) : Calls Tryz.prog 222 #[.int .i64 f, .int .u32 v] w fun e w' => e = .returned (.agg #[.bool (pS f v), .int .i64 (uE f v), .int .u64 (uS f v), .bool false]) ∧ Below w.heap.size w w' := by
  go_enter Tryz.func222, Tryz.ntmps222
  go_wp2_with (go_at_call 175; (with_reducible refine Calls.mono (format_Unpack f v hf h0 h1 _) ?_); rintro e w' ⟨rfl, rfl⟩)
  exact bodyPost_ret (v := .agg #[.bool (pS f v), .int .i64 (uE f v), .int .u64 (uS f v), .bool false]) (by simp [results, Tryz.results222, go_sem]) rfl ⟨rfl, (Below.refl _ _).alloc (Nat.le_refl _) _⟩
theorem sum_Bad (f : Int) (hf : Fm f) (w : World) : Calls Tryz.prog 218 #[.int .i64 f] w fun e w' => e = .returned (.tuple #[.int .u32 (fNan f), .agg #[.bool true, .bool false, .bool false, .bool false, .bool false]]) ∧ Below w.heap.size w w' := by
  go_enter Tryz.func218, Tryz.ntmps218
  go_wp2_with (go_at_call 148; (with_reducible refine Calls.mono (format_Nan f hf _) ?_); rintro e w' ⟨rfl, rfl⟩)
  exact bodyPost_ret (v := .tuple #[.int .u32 (fNan f), .agg #[.bool true, .bool false, .bool false, .bool false, .bool false]]) (by simp [results, Tryz.results218, go_sem]) rfl ⟨rfl, (Below.refl _ _).alloc (Nat.le_refl _) _⟩
theorem sum_Nans (f : Int) (hf : Fm f) (B : Nat) (l : List Int) (hl : l.length ≤ 3) (w : World) (hc : ∀ j, j < l.length → w.cell? ⟨B, j, none⟩ = some (.int .u32 (l.getD j 0))) (hu : ∀ v ∈ l, 0 ≤ v ∧ v < 4294967296) :
    Calls Tryz.prog 216 #[.int .i64 f, .slice (some ⟨B, 0, none⟩) l.length l.length] w fun e w' => e = .returned (.tuple #[.int .u32 (fNan f), .agg #[.bool (oneSig f l), .bool false, .bool false, .bool false, .bool false], .bool (oneNan f l)]) ∧ Below w.heap.size w w' := by
  go_enter Tryz.func216, Tryz.ntmps216
  go_wp2
  go_loopw [7, 14] (fun t i wr => ∃ k : Nat, k ≤ l.length ∧ i = .int .i64 k ∧ t = .bool (oneNan f (l.take k)) ∧ wr = (w.alloc (.cells #[.bool false, .bool false, .bool false, .bool false, .bool false] 89)).alloc (.cells #[.bool (oneSig f (l.take k)), .bool false, .bool false, .bool false, .bool false] 89))
    (fun _ i _ => l.length - (intOf i).toNat)
  case atStart => exact ⟨0, Nat.zero_le _, rfl, rfl, rfl⟩
  case round =>
    obtain ⟨k, hk, rfl, rfl, rfl⟩ := hrel
    by_cases hlt : k < l.length
    · have hck := hc k hlt
      have hb := World.block_lt_of_cell? w _ hck
      obtain ⟨x, hx⟩ : ∃ x, x = l.getD k 0 := ⟨_, rfl⟩
      rw [← hx] at hck
      have hxu : 0 ≤ x ∧ x < 4294967296 := by
        rw [hx, List.getD_eq_getElem?_getD, List.getElem?_eq_getElem hlt]
        exact hu _ (List.getElem_mem hlt)
      have E1 := Lib.hid (one_snoc l k hlt (isNan f))
      have E2 := Lib.hid (one_snoc l k hlt fun v => cls f v == 5)
      rw [← hx] at E1 E2
      clear hx hc hu
      obtain ⟨x0, x1⟩ := hxu
      go_wp2_with (go_at_call 209; (with_reducible refine Calls.mono (format_Class f x hf x0 x1 _) ?_); rintro e w' ⟨rfl, rfl⟩)
      all_goals
        go_roundw
        case rel =>
          refine ⟨k + 1, by omega, by go_num, ?_, ?_⟩
          · unfold oneNan at *; rw [E1.out]; simp [*, isNan]
          · unfold oneSig at *; rw [E2.out]; simp [*]
        case measure => simp [intOf]; omega
    · obtain rfl : k = l.length := by omega
      rw [List.take_length] at *
      go_wp2
      go_region_held3 (fun w' => w'.cell? ⟨w.heap.size + 1, 0, none⟩ = some (.bool (oneSig f l)) ∧ w'.cell? ⟨w.heap.size + 1, 1, none⟩ = some (.bool false) ∧ w'.cell? ⟨w.heap.size + 1, 2, none⟩ = some (.bool false) ∧ w'.cell? ⟨w.heap.size + 1, 3, none⟩ = some (.bool false) ∧ w'.cell? ⟨w.heap.size + 1, 4, none⟩ = some (.bool false)) (simp [go_sem, World.cell?_alloc_past]) (first | (go_at_call 148; (with_reducible refine Calls.mono (format_Nan f hf _) ?_); rintro e w' ⟨rfl, rfl⟩))
      go_wp2
      exact bodyPost_ret (v := .tuple #[.int .u32 (fNan f), .agg #[.bool (oneSig f l), .bool false, .bool false, .bool false, .bool false], .bool (oneNan f l)]) (by simp [results, Tryz.results216, go_sem]) rfl ⟨rfl, by (repeat (first | exact Below.refl _ _ | (refine Below.drew ?_) | (refine Below.setCell ?_ (by simp <;> omega) _) | (refine Below.alloc ?_ (by simp <;> omega) _)))⟩
end Go.Proofs.YtkpfefpmdjjhjaaGreat
