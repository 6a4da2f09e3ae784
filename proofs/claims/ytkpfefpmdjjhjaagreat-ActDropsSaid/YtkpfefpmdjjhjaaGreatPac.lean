/- The walk of round.Pack. -/
import Derived.Test.YtkpfefpmdjjhjaaGreatRou
import Derived.Test.YtkpfefpmdjjhjaaGreatPk
import Derived.Lib.Hide
namespace Go.Proofs.YtkpfefpmdjjhjaaGreat
open Go.RowKit Anneal
set_option linter.unusedSimpArgs false
set_option linter.unusedVariables false
theorem round_beyond (f : Int) (neg : Bool) (hf : Fm f) (w : World) : Calls Tryz.prog 254 #[.int .i64 f, .int .i64 0, .bool neg] w fun e w' => e = .returned (.tuple #[.int .u32 (fInf f neg), .agg #[.bool false, .bool false, .bool true, .bool false, .bool true]]) ∧ Below w.heap.size w w' := by
  go_enter Tryz.func254, Tryz.ntmps254
  go_wp2_with (go_at_call 173; (with_reducible refine Calls.mono (format_Inf f neg hf _) ?_); rintro e w' ⟨rfl, rfl⟩)
  go_region_held3 (fun w' => w'.cell? ⟨w.heap.size + 1, 0, none⟩ = some (.bool false) ∧ w'.cell? ⟨w.heap.size + 1, 1, none⟩ = some (.bool false) ∧ w'.cell? ⟨w.heap.size + 1, 2, none⟩ = some (.bool true) ∧ w'.cell? ⟨w.heap.size + 1, 3, none⟩ = some (.bool false) ∧ w'.cell? ⟨w.heap.size + 1, 4, none⟩ = some (.bool true)) (simp [go_sem, World.cell?_alloc_past]) (first | (go_at_call 173; (with_reducible refine Calls.mono (format_Inf f neg hf _) ?_); rintro e w' ⟨rfl, rfl⟩))
  go_wp2
  exact bodyPost_ret (v := .tuple #[.int .u32 (fInf f neg), .agg #[.bool false, .bool false, .bool true, .bool false, .bool true]]) (by simp [results, Tryz.results254, go_sem]) rfl ⟨rfl, ((((Below.refl _ _).alloc (Nat.le_refl _) _).alloc (by simp) _)).drew⟩

/-- a number, and what happened beside it -/
def Num (v : Int) (w : World) (e : Ending) (w' : World) : Prop := (∃ a b c : Bool, e = .returned (.tuple #[.int .u32 v, .agg #[.bool false, .bool false, .bool a, .bool b, .bool c]])) ∧ Below w.heap.size w w'
theorem Pack_nought (f exp : Int) (neg : Bool) (hf : Fm f) (b1 : -10000 ≤ exp) (b2 : exp ≤ 10000) (w : World) :
    Calls Tryz.prog 220 #[.int .i64 f, .int .i64 0, .bool neg, .int .i64 exp, .int .u64 0, .bool false] w (Num (pack f neg exp 0 false) w) := by
  go_enter Tryz.func220, Tryz.ntmps220
  go_wp2_with (go_at_call 223; (with_reducible refine Calls.mono (format_Zero f neg hf _) ?_); rintro e w' ⟨rfl, rfl⟩)
  exact bodyPost_ret (v := .tuple #[.int .u32 (sgB f neg), .agg #[.bool false, .bool false, .bool false, .bool false, .bool false]]) (by simp [results, Tryz.results220, go_sem]) rfl ⟨⟨false, false, false, by simp [pack]⟩, (Below.refl _ _).alloc (Nat.le_refl _) _⟩
theorem bcell {W w1 : World} (hb : Below W.heap.size W w1) : (∀ b o, b < W.heap.size → w1.cell? ⟨b, o, none⟩ = W.cell? ⟨b, o, none⟩) ∧ (∀ b o, b < W.heap.size → w1.frozen? ⟨b, o, none⟩ = W.frozen? ⟨b, o, none⟩) :=
  ⟨fun b o h => hb.cell (p := ⟨b, o, none⟩) h, fun b o h => hb.frozen (p := ⟨b, o, none⟩) h⟩
end Go.Proofs.YtkpfefpmdjjhjaaGreat
