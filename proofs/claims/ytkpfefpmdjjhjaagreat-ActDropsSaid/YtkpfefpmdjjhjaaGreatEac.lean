/- tensor.Each: what is made, round by round. -/
import Derived.Test.YtkpfefpmdjjhjaaGreatTen
import Derived.Test.YtkpfefpmdjjhjaaGreatSl
import Derived.Lib.Hide
import Derived.Deep.DeepCutAuto
namespace Go.Proofs.YtkpfefpmdjjhjaaGreat
open Go.RowKit Anneal
set_option linter.unusedSimpArgs false
set_option linter.unusedVariables false
attribute [local go_sem] mk_size mk_cell mk_frozen mk_set mk_drew drew_mk lt_inst le_inst
/-- a tensor made anew, its numbers F -/
def EachP (r c f : Int) (n : Nat) (F : Nat → Int) (w : World) (e : Ending) (w' : World) : Prop :=
  ∃ B : Nat, e = .returned (.agg #[.int .i64 r, .int .i64 c, .int .i64 f, .slice (some ⟨B, 0, none⟩) n n]) ∧ w.heap.size ≤ B ∧ w'.rowIs B 25 n (fun i => .int .u32 (F i)) ∧ Below w.heap.size w w'
theorem row_mk {w : World} {b : Nat} {t : TypeId} {n : Nat} {f : Nat → Value} (h : w.rowIs b t n f) (os : Array Obj) (d : Nat) : (mk w os d).rowIs b t n f := h.of_block (mk_at w os d b h.lt)
/-- slot j of the row behind k rounds -/
def upTo (F : Nat → Int) (k j : Nat) : Value := .int .u32 (if j < k then F j else 0)
/-- the tensor that is made lies at P, its numbers at B -/
structure EachI (W0 wx : World) (P B n : Nat) (r c f : Int) (G : Nat → Value) : Prop where
  p : W0.heap.size ≤ P
  b : W0.heap.size ≤ B
  pb : P ≠ B
  pl : P < wx.heap.size
  c0 : wx.cell? ⟨P, 0, none⟩ = some (.int .i64 r)
  c1 : wx.cell? ⟨P, 1, none⟩ = some (.int .i64 c)
  c2 : wx.cell? ⟨P, 2, none⟩ = some (.int .i64 f)
  c3 : wx.cell? ⟨P, 3, none⟩ = some (.slice (some ⟨B, 0, none⟩) n n)
  row : wx.rowIs B 25 n G
  below : Below W0.heap.size W0 wx
theorem EachI.step {W0 wr : World} {P B n : Nat} {r c f : Int} {F : Nat → Int} {j : Nat} (h : EachI W0 wr P B n r c f (upTo F j)) (o : Array Obj) (d : Nat) :
    EachI W0 (Anneal.mk (wr.setCell ⟨B, j, none⟩ (.int .u32 (F j))) o d) P B n r c f (upTo F (j + 1)) := by
  have hB := h.row.lt
  have hP := h.pl
  have hPB := h.pb
  have hBP : B ≠ P := fun e => hPB e.symm
  have c0 := h.c0
  have c1 := h.c1
  have c2 := h.c2
  have c3 := h.c3
  refine ⟨h.p, h.b, h.pb, by simp [mk_size]; omega, by simp [go_sem, hP, hB, hPB, hBP, c0], by simp [go_sem, hP, hB, hPB, hBP, c1], by simp [go_sem, hP, hB, hPB, hBP, c2], by simp [go_sem, hP, hB, hPB, hBP, c3], ?_, ?_⟩
  · refine row_mk ((h.row.set j _).congr ?_) o d
    intro i hi
    unfold upTo
    by_cases e : i = j
    · subst e; simp
    · rw [if_neg e]
      by_cases l : i < j
      · rw [if_pos l, if_pos (by omega)]
      · rw [if_neg l, if_neg (by omega)]
  · refine below_mk (h.below.setCell h.b _) ?_ o d
    have := h.below.size
    simp; omega
theorem mk_ge (w w1 : World) (os : Array Obj) (d k : Nat) (hs : w1.heap.size = w.heap.size) (hk : w.heap.size ≤ k) : (mk w1 os d).heap[k]? = (mk w os d).heap[k]? := by
  unfold mk
  simp only
  rw [Array.getElem?_append_right (by omega), Array.getElem?_append_right hk, hs]
end Go.Proofs.YtkpfefpmdjjhjaaGreat
