/- A world with new blocks, whatever they hold: spelt so that the walk reckons with it. -/
import Derived.WalkKit
import Derived.Below
namespace Anneal
set_option linter.unusedSimpArgs false
open Go Go.RowKit

/-- sizes that are seen at sight: by instances (a simp's side conditions go but two deep) -/
class NLe (a b : Nat) : Prop where le : a ≤ b
class NLt (a b : Nat) : Prop where lt : a < b
instance NLe.refl (a : Nat) : NLe a a := ⟨Nat.le_refl a⟩
instance NLe.add (a b c : Nat) [h : NLe a b] : NLe a (b + c) := ⟨Nat.le_trans h.le (Nat.le_add_right b c)⟩
instance NLt.one (a b : Nat) [h : NLe a b] : NLt a (b + 1) := ⟨Nat.lt_succ_of_le h.le⟩
instance NLt.add (a b c : Nat) [h : NLt a b] : NLt a (b + c) := ⟨Nat.lt_of_lt_of_le h.lt (Nat.le_add_right b c)⟩
theorem lt_inst (a b : Nat) [h : NLt a b] : (a < b) = True := eq_true h.lt
theorem le_inst (a b : Nat) [h : NLe a b] : (a ≤ b) = True := eq_true h.le
/-- w with the blocks os behind it -/
def mk (w : World) (os : Array Obj) (d : Nat) : World := { w with heap := w.heap ++ os, drawn := d }
theorem made {w w' : World} (h : Below w.heap.size w w') : ∃ os d, w' = mk w os d := by
  refine ⟨w'.heap.extract w.heap.size w'.heap.size, w'.drawn, ?_⟩
  obtain ⟨hp, t, d, o, u⟩ := w'
  obtain ⟨hp0, t0, d0, o0, u0⟩ := w
  obtain ⟨h1, h2, h3, h4, h5⟩ := h
  simp only at h1 h2 h3 h4 h5
  subst h1 h2 h3
  simp only [mk, World.mk.injEq, and_true, true_and]
  apply Array.ext_getElem?
  intro i
  by_cases hi : i < hp0.size
  · rw [Array.getElem?_append_left hi]; exact h5 i hi
  · rw [Array.getElem?_append_right (by omega), Array.getElem?_extract]
    by_cases hj : i < hp.size
    · rw [if_pos (by omega), show hp0.size + (i - hp0.size) = i by omega]
    · rw [if_neg (by omega), Array.getElem?_eq_none (by omega)]
theorem mk_size (w : World) (os : Array Obj) (d : Nat) : (mk w os d).heap.size = w.heap.size + os.size := by simp [mk]
theorem mk_at (w : World) (os : Array Obj) (d n : Nat) (h : n < w.heap.size) : (mk w os d).heap[n]? = w.heap[n]? := by
  show (w.heap ++ os)[n]? = _
  exact Array.getElem?_append_left h
theorem mk_cell (w : World) (os : Array Obj) (d n i : Nat) (h : n < w.heap.size) : (mk w os d).cell? ⟨n, i, none⟩ = w.cell? ⟨n, i, none⟩ := by
  simp only [World.cell?, mk_at w os d n h]
theorem mk_frozen (w : World) (os : Array Obj) (d n i : Nat) (h : n < w.heap.size) : (mk w os d).frozen? ⟨n, i, none⟩ = w.frozen? ⟨n, i, none⟩ := by
  simp only [World.frozen?, mk_at w os d n h]
theorem mk_set (w : World) (os : Array Obj) (d n i : Nat) (v : Value) (h : n < w.heap.size) : (mk w os d).setCell ⟨n, i, none⟩ v = mk (w.setCell ⟨n, i, none⟩ v) os d := by
  unfold mk World.setCell
  simp only [World.mk.injEq, and_true, true_and]
  exact Array.ext_getElem? fun k => by
    by_cases hk : k < w.heap.size
    · rw [Array.getElem?_append_left (by simpa using hk), Array.getElem?_modify, Array.getElem?_modify, Array.getElem?_append_left hk]
    · rw [Array.getElem?_append_right (by simpa using hk), Array.getElem?_modify, Array.getElem?_append_right (by omega)]
      simp only [Array.size_modify]
      rw [if_neg (by omega)]
theorem mk_drew (w : World) (os : Array Obj) (d : Nat) : (mk w os d).drew = mk w os (d + 1) := rfl
theorem drew_mk (w : World) (os : Array Obj) (d : Nat) : mk w.drew os d = mk w os d := rfl
theorem below_mk {B : Nat} {a w : World} (h : Below B a w) (hB : B ≤ w.heap.size) (os : Array Obj) (d : Nat) : Below B a (mk w os d) :=
  ⟨h.os, h.tape, h.output, by rw [mk_size]; have := h.size; omega, fun k hk => (mk_at w os d k (by omega)).trans (h.block k hk)⟩
end Anneal
