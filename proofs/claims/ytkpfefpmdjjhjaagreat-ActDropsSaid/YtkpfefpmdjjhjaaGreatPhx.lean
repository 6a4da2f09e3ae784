/- Random words of a counter, as plain functions. -/
import Derived.Test.YtkpfefpmdjjhjaaGreatBit
namespace Anneal
open Go
def px (x y : Int) : Int := bits .xor .u32 x y
def phi (p : Int) : Int := p / 4294967296
def plo (p : Int) : Int := p % 4294967296
structure Ph where
  k0 : Int
  k1 : Int
  c0 : Int
  c1 : Int
  c2 : Int
  c3 : Int
def Ph.ok (s : Ph) : Prop := U32 s.k0 ∧ U32 s.k1 ∧ U32 s.c0 ∧ U32 s.c1 ∧ U32 s.c2 ∧ U32 s.c3
def Ph.next (s : Ph) : Ph :=
  ⟨(s.k0 + 2654435769) % 4294967296, (s.k1 + 3144134277) % 4294967296,
   px (px (phi (s.c2 * 3449720151)) s.c1) s.k0, plo (s.c2 * 3449720151), px (px (phi (s.c0 * 3528531795)) s.c3) s.k1, plo (s.c0 * 3528531795)⟩
def Ph.it : Nat → Ph → Ph
  | 0, s => s
  | n + 1, s => (Ph.it n s).next
theorem wrap32_r (x : Int) : U32 (IntKind.u32.wrap x) := by rw [IntKind.wrap_u32]; unfold U32; omega
theorem px_r (x y : Int) : U32 (px x y) := wrap32_r _
theorem mod32_r (x : Int) : U32 (x % 4294967296) := by unfold U32; omega
theorem Ph.next_ok (s : Ph) : s.next.ok := ⟨mod32_r _, mod32_r _, px_r _ _, mod32_r _, px_r _ _, mod32_r _⟩
theorem Ph.it_ok (n : Nat) (s : Ph) (h : s.ok) : (Ph.it n s).ok := by
  cases n with
  | zero => exact h
  | succ n => exact Ph.next_ok _
/-- a stream's word -/
def phWord (seed stream n : Int) : Int :=
  let s := Ph.it 10 ⟨seed % 4294967296, seed / 4294967296, n / 4 % 4294967296, n / 4 / 4294967296, stream, 0⟩
  if n % 4 = 0 then s.c0 else if n % 4 = 1 then s.c1 else if n % 4 = 2 then s.c2 else s.c3
end Anneal
