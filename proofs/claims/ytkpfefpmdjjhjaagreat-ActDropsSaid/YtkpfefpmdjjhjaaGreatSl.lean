/- A slice of numbers that came from anywhere; '&^' with a format's mask. -/
import Derived.Test.YtkpfefpmdjjhjaaGreatMk
import Derived.Test.YtkpfefpmdjjhjaaGreatBit
import Derived.Laws.BitsAllLaws
import Derived.Deep.OwnRows
namespace Anneal
open Go Go.RowKit
/-- the slice at p reads as the first n numbers of V -/
structure Rd (w : World) (p : Option Addr) (n : Nat) (V : Nat → Int) : Prop where
  u : ∀ j, j < n → 0 ≤ V j ∧ V j < 4294967296
  c : 0 < n → ∃ b o, p = some ⟨b, o, none⟩ ∧ b < w.heap.size ∧ ∀ j, j < n → w.cell? ⟨b, o + j, none⟩ = some (.int .u32 (V j))
theorem Rd.nil (w : World) (p : Option Addr) (V : Nat → Int) : Rd w p 0 V := ⟨fun _ h => absurd h (by omega), fun h => absurd h (by omega)⟩
theorem Rd.at_ {w : World} {p : Option Addr} {n : Nat} {V : Nat → Int} (h : Rd w p n V) {j : Nat} (hj : j < n) :
    ∃ b o, p = some ⟨b, o, none⟩ ∧ b < w.heap.size ∧ w.cell? ⟨b, o + j, none⟩ = some (.int .u32 (V j)) := by
  obtain ⟨b, o, e, hb, hc⟩ := h.c (by omega)
  exact ⟨b, o, e, hb, hc j hj⟩
theorem Rd.keep {w w' : World} {p : Option Addr} {n : Nat} {V : Nat → Int} (h : Rd w p n V) (hs : w.heap.size ≤ w'.heap.size) (hk : ∀ b, b < w.heap.size → w'.heap[b]? = w.heap[b]?) : Rd w' p n V := ⟨h.u, fun hn => by
  obtain ⟨b, o, e, hb, hc⟩ := h.c hn
  refine ⟨b, o, e, by omega, fun j hj => ?_⟩
  rw [← hc j hj]
  simp only [World.cell?, hk b hb]⟩
theorem Rd.below {w w' : World} {p : Option Addr} {n : Nat} {V : Nat → Int} (h : Rd w p n V) (hb : Below w.heap.size w w') : Rd w' p n V := h.keep hb.size hb.block
theorem Rd.congr {w : World} {p : Option Addr} {n : Nat} {V V' : Nat → Int} (h : Rd w p n V) (e : ∀ j, j < n → V j = V' j) : Rd w p n V' :=
  ⟨fun j hj => by rw [← e j hj]; exact h.u j hj, fun hn => by
    obtain ⟨b, o, e1, hb, hc⟩ := h.c hn
    exact ⟨b, o, e1, hb, fun j hj => by rw [hc j hj, e j hj]⟩⟩
theorem Rd.of_row {w : World} {B : Nat} {t : TypeId} {n : Nat} {V : Nat → Int} (h : w.rowIs B t n (fun i => .int .u32 (V i))) (hu : ∀ j, j < n → 0 ≤ V j ∧ V j < 4294967296) : Rd w (some ⟨B, 0, none⟩) n V := ⟨hu, fun _ =>
  ⟨B, 0, rfl, h.lt, fun j hj => by rw [Nat.zero_add]; exact h.cell hj⟩⟩
theorem Rd.of_cells {w : World} {B : Nat} {n : Nat} {V : Nat → Int} (hB : B < w.heap.size) (hu : ∀ j, j < n → 0 ≤ V j ∧ V j < 4294967296) (h : ∀ j, j < n → w.cell? ⟨B, j, none⟩ = some (.int .u32 (V j))) : Rd w (some ⟨B, 0, none⟩) n V := ⟨hu, fun _ =>
  ⟨B, 0, rfl, hB, fun j hj => by rw [Nat.zero_add]; exact h j hj⟩⟩
/-- a tensor, as it reads -/
structure Tn where
  r : Int
  c : Int
  f : Int
  n : Nat
  V : Nat → Int
/-- the tensor of nothing -/
def Tn.none : Tn := ⟨0, 0, 0, 0, fun _ => 0⟩
/-- a tensor is told -/
def TenP (t : Tn) (w : World) (e : Ending) (w' : World) : Prop :=
  ∃ p m, e = .returned (.agg #[.int .i64 t.r, .int .i64 t.c, .int .i64 t.f, .slice p t.n m]) ∧ Rd w' p t.n t.V ∧ Below w.heap.size w w'
/-- a tensor and an error's number are told -/
def TenE (t : Tn) (E : Int) (w : World) (e : Ending) (w' : World) : Prop :=
  ∃ p m, e = .returned (.tuple #[.agg #[.int .i64 t.r, .int .i64 t.c, .int .i64 t.f, .slice p t.n m], .int .i64 E]) ∧ Rd w' p t.n t.V ∧ Below w.heap.size w w'
theorem nat_high (x : Nat) (h : x < 4294967296) : x &&& 4294901760 = x / 65536 * 65536 := by
  apply Nat.eq_of_testBit_eq
  intro j
  rw [Nat.testBit_and, show (4294901760 : Nat) = (2 ^ 16 - 1) <<< 16 from rfl, show x / 65536 * 65536 = (x >>> 16) <<< 16 by rw [Nat.shiftLeft_eq, Nat.shiftRight_eq_div_pow]]
  rw [Nat.testBit_shiftLeft, Nat.testBit_shiftLeft, Nat.testBit_two_pow_sub_one, Nat.testBit_shiftRight]
  by_cases c : j ≥ 16
  · by_cases d : j - 16 < 16
    · simp [c, d]
    · have : x.testBit j = false := Nat.testBit_lt_two_pow (Nat.lt_of_lt_of_le h (by
        have := Nat.pow_le_pow_right (n := 2) (by decide) (show 32 ≤ j by omega)
        omega))
      simp [c, d, this]
  · simp [c]
/-- does a number not fit a format? -/
def bad (f v : Int) : Bool := decide (fMask f < v)
theorem andNot_mask (f v : Int) (hf : Fm f) (h0 : 0 ≤ v) (h1 : v < 4294967296) : (bits .andNot .u32 v (fMask f) != 0) = bad f v := by
  unfold bad
  rcases hf with rfl | rfl | rfl
  · rw [show fMask 0 = 65535 from rfl, u32_andNot v 65535 h0 h1 (by decide) (by decide), show (4294967295 - (65535 : Int).toNat : Nat) = 4294901760 from rfl, nat_high _ (by omega), Bool.eq_iff_iff]
    simp only [bne_iff_ne, decide_eq_true_eq]; omega
  · rw [show fMask 1 = 65535 from rfl, u32_andNot v 65535 h0 h1 (by decide) (by decide), show (4294967295 - (65535 : Int).toNat : Nat) = 4294901760 from rfl, nat_high _ (by omega), Bool.eq_iff_iff]
    simp only [bne_iff_ne, decide_eq_true_eq]; omega
  · rw [show fMask 2 = 4294967295 from rfl, u32_andNot v 4294967295 h0 h1 (by decide) (by decide), show (4294967295 - (4294967295 : Int).toNat : Nat) = 0 from rfl, Nat.and_zero, Bool.eq_iff_iff]
    simp only [bne_iff_ne, decide_eq_true_eq]; omega
/-- may a tensor be? -/
def fRight (t : Tn) : Bool :=
  !(decide (t.r < 0) || decide (4096 < t.r) || decide (t.c < 0) || decide (4096 < t.c) || !(t.f == 0 || t.f == 1 || t.f == 2) || !((t.n : Int) == t.r * t.c)) && !((List.range t.n).any fun j => bad t.f (t.V j))
theorem fRight_n (t : Tn) (h : fRight t = true) : t.n ≤ 16777216 ∧ Fm t.f := by
  unfold fRight at h
  simp at h
  obtain ⟨⟨⟨⟨⟨⟨h1, h2⟩, h3⟩, h4⟩, h5⟩, h6⟩, _⟩ := h
  have h16 : t.r * t.c ≤ 4096 * 4096 := Int.mul_le_mul (by omega) (by omega) (by omega) (by omega)
  exact ⟨by omega, by unfold Fm; omega⟩
end Anneal
