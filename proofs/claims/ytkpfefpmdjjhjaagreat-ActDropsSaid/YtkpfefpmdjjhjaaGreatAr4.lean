/- Order, ranges, as plain functions. -/
import Derived.Test.YtkpfefpmdjjhjaaGreatAr3
namespace Anneal
open Go
def fkey (v : Int) : Int := if pS 2 v then -1 - fTurn 2 v else v
def fcmp (a b : Int) : Int := if isNan 2 a || isNan 2 b then 0 else if isZero 2 a && isZero 2 b then 0 else if fkey a < fkey b then -1 else if fkey b < fkey a then 1 else 0
def fabove (a b : Int) : Bool := decide (fcmp b a < 0)
theorem sgB_r (n : Bool) : sgB 2 n = 0 ∨ sgB 2 n = 2147483648 := by cases n <;> simp [sgB, mP, eP]
theorem fInf_r (n : Bool) : U32 (fInf 2 n) := by
  have := sgB_r n
  have e : (eP 2 - 1) * mP 2 = 2139095040 := by decide
  unfold fInf; rw [e]; omega
theorem pack_r (n : Bool) (e s : Int) (m : Bool) : U32 (pack 2 n e s m) := by
  have := sgB_r n
  have h : ((eP 2 - 1).toNat * 2 ^ mW 2 : Nat) = 2139095040 := by decide
  unfold pack
  split
  · omega
  · unfold Rnd.pk
    rw [h]
    omega
theorem infS_r (a b x y : Bool) : U32 (infS a b x y) := by
  unfold infS
  (repeat' split) <;> first | exact fInf_r _ | (omega)
theorem sumF_r (a : Bool) (b c : Int) (d : Bool) (e f : Int) : U32 (sumF a b c d e f) := by
  unfold sumF
  (repeat' split) <;> first | exact pack_r _ _ _ _ | (omega)
theorem fTurn_r (v : Int) : U32 (fTurn 2 v) := by
  have e : mP 2 * eP 2 = 2147483648 := by decide
  unfold fTurn
  rw [e]
  split <;> omega
theorem fadd_r (a b : Int) : U32 (fadd a b) := by
  unfold fadd
  (repeat' split) <;> first | exact infS_r _ _ _ _ | exact sumF_r _ _ _ _ _ _ | (omega)
theorem fsub_r (a b : Int) : U32 (fsub a b) := by
  unfold fsub
  (repeat' split) <;> first | exact fadd_r _ _ | (omega)
theorem fmul_r (a b : Int) : U32 (fmul a b) := by
  unfold fmul
  (repeat' split) <;> first | exact pack_r _ _ _ _ | exact fInf_r _ | (omega)
theorem ffma_r (a b c : Int) : U32 (ffma a b c) := by
  unfold ffma
  (repeat' split) <;> first | exact infS_r _ _ _ _ | exact sumF_r _ _ _ _ _ _ | (omega)
theorem fdiv_r (a b : Int) : U32 (fdiv a b) := by
  have := sgB_r (!(pS 2 a == pS 2 b))
  unfold fdiv
  (repeat' split) <;> first | exact pack_r _ _ _ _ | exact fInf_r _ | (omega)
theorem fint_r (n : Int) : U32 (fint n) := pack_r _ _ _ _
end Anneal
