/- annealhelp.Nums, Tensor: of alike numbers, tensors: true. -/
import Derived.Test.YtkpfefpmdjjhjaaGreatSl
import Derived.Test.YtkpfefpmdjjhjaaGreatRf2
import Derived.Lib.Hide
namespace Go.Proofs.YtkpfefpmdjjhjaaGreat
open Go.RowKit Anneal
set_option linter.unusedSimpArgs false
set_option linter.unusedVariables false
attribute [local go_sem] mk_size mk_cell mk_frozen mk_set mk_drew drew_mk lt_inst le_inst
theorem help_Nums (p q : Option Addr) (n m m' : Nat) (V : Nat → Int) (hn : n ≤ 9223372036854775807) (w : World) (h : Rd w p n V) (h' : Rd w q n V) :
    Calls Tryz.prog 48 #[.slice p n m, .slice q n m'] w fun e w' => e = .returned (.bool true) ∧ Below w.heap.size w w' := by
  go_enter Tryz.func48, Tryz.ntmps48
  go_wp2
  go_loopw [5] (fun i wr => ∃ k : Nat, k ≤ n ∧ i = .int .i64 k ∧ Below w.heap.size w wr) (fun i _ => n - (intOf i).toNat)
  case atStart => exact ⟨0, by omega, by go_num, Below.refl _ _⟩
  case round =>
    obtain ⟨k, hk, rfl, hb⟩ := hrel
    obtain ⟨os, d, rfl⟩ := made hb
    clear hb
    by_cases hlt : k < n
    · obtain ⟨b, o, rfl, hbl, hc⟩ := h.at_ hlt
      obtain ⟨b', o', rfl, hbl', hc'⟩ := h'.at_ hlt
      clear h h'
      have i1 : NLt b w.heap.size := ⟨hbl⟩
      have i2 : NLt b' w.heap.size := ⟨hbl'⟩
      generalize V k = v at *
      go_wp2
      go_region_held3 (fun w' => w'.cell? ⟨b, o + k, none⟩ = some (.int .u32 v) ∧ w'.cell? ⟨b', o' + k, none⟩ = some (.int .u32 v)) (simp [go_sem, *]) (first | fail)
      all_goals
        go_wp2
        go_roundw
        case rel => exact ⟨k + 1, by omega, by go_num, by (repeat (first | exact Below.refl _ _ | (refine Below.drew ?_) | (refine Below.setCell ?_ (by simp [mk_size] <;> omega) _) | (refine Below.alloc ?_ (by simp [mk_size] <;> omega) _) | (refine below_mk ?_ (by simp [mk_size] <;> omega) _ _) | (refine Below.trans ?_ (Below.mono (by assumption) (by simp <;> omega)))))⟩
        case measure => simp [intOf]; omega
    · obtain rfl : k = n := by omega
      go_wp2
      go_ret
      exact ⟨rfl, by (repeat (first | exact Below.refl _ _ | (refine Below.drew ?_) | (refine Below.setCell ?_ (by simp [mk_size] <;> omega) _) | (refine Below.alloc ?_ (by simp [mk_size] <;> omega) _) | (refine below_mk ?_ (by simp [mk_size] <;> omega) _ _) | (refine Below.trans ?_ (Below.mono (by assumption) (by simp <;> omega)))))⟩
theorem help_Tensor (t : Tn) (p q : Option Addr) (m m' : Nat) (hn : t.n ≤ 9223372036854775807) (w : World) (h : Rd w p t.n t.V) (h' : Rd w q t.n t.V) :
    Calls Tryz.prog 25 #[.agg #[.int .i64 t.r, .int .i64 t.c, .int .i64 t.f, .slice p t.n m], .agg #[.int .i64 t.r, .int .i64 t.c, .int .i64 t.f, .slice q t.n m']] w fun e w' => e = .returned (.bool true) ∧ Below w.heap.size w w' := by
  obtain ⟨r, c, f, n, V⟩ := t
  simp only at *
  have HN := Lib.hid (fun (w1 : World) (hb : Below w.heap.size w w1) => help_Nums p q n m m' V hn w1 (h.below hb) (h'.below hb))
  clear h h'
  go_enter Tryz.func25, Tryz.ntmps25
  go_wp2_with (first | (go_at_call 48; (with_reducible refine Calls.mono (HN.out _ (by (repeat (first | exact Below.refl _ _ | (refine Below.drew ?_) | (refine Below.setCell ?_ (by simp [mk_size] <;> omega) _) | (refine Below.alloc ?_ (by simp [mk_size] <;> omega) _) | (refine below_mk ?_ (by simp [mk_size] <;> omega) _ _) | (refine Below.trans ?_ (Below.mono (by assumption) (by simp <;> omega))))))) ?_); rintro e w1 ⟨rfl, hb⟩; obtain ⟨o1, d1, rfl⟩ := made hb; clear hb))
  go_ret
  exact ⟨rfl, by (repeat (first | exact Below.refl _ _ | (refine Below.drew ?_) | (refine Below.setCell ?_ (by simp [mk_size] <;> omega) _) | (refine Below.alloc ?_ (by simp [mk_size] <;> omega) _) | (refine below_mk ?_ (by simp [mk_size] <;> omega) _ _) | (refine Below.trans ?_ (Below.mono (by assumption) (by simp <;> omega)))))⟩
end Go.Proofs.YtkpfefpmdjjhjaaGreat
