/- sum.Exact as one contract. -/
import Derived.Test.YtkpfefpmdjjhjaaGreatExa
import Derived.Test.YtkpfefpmdjjhjaaGreatAr2
namespace Go.Proofs.YtkpfefpmdjjhjaaGreat
open Go.RowKit Anneal
/-- a number in its parts -/
def Q4 (q : Bool × Int × Int × Bool) : Value := .agg #[.bool q.1, .int .i64 q.2.1, .int .u64 q.2.2.1, .bool q.2.2.2]
theorem sum_Exact (n1 n2 : Bool) (e1 s1 e2 s2 : Int) (h1 : 0 ≤ s1) (h2 : s1 < 4611686018427387904) (h3 : 0 ≤ s2) (h4 : s2 < 4611686018427387904) (b1 : -1000 ≤ e1) (b2 : e1 ≤ 1000) (b3 : -1000 ≤ e2) (b4 : e2 ≤ 1000) (w : World) :
    Calls Tryz.prog 230 #[.agg #[.bool n1, .int .i64 e1, .int .u64 s1, .bool false], .agg #[.bool n2, .int .i64 e2, .int .u64 s2, .bool false]] w fun e w' => e = .returned (Q4 (exQ n1 e1 s1 n2 e2 s2)) ∧ Below w.heap.size w w' := by
  unfold exQ Q4
  by_cases c1 : s1 = 0
  · subst c1; rw [if_pos rfl]; exact Exact_a n1 n2 e1 e2 s2 w
  by_cases c2 : s2 = 0
  · subst c2; rw [if_neg c1, if_pos rfl]; exact Exact_b n1 n2 e1 e2 s1 (by omega) w
  rw [if_neg c1, if_neg c2]
  obtain ⟨l1, l2, l3, l4⟩ := nrm_range s1 (by omega) h2
  obtain ⟨m1, m2, m3, m4⟩ := nrm_range s2 (by omega) h4
  have f1 := sum_full n1 false e1 s1 (by omega) h2 (by omega) (by omega)
  have f2 := sum_full n2 false e2 s2 (by omega) h4 (by omega) (by omega)
  by_cases c : e1 - (62 - bl s1) < e2 - (62 - bl s2) ∨ (e1 - (62 - bl s1) = e2 - (62 - bl s2) ∧ nrm s1 < nrm s2)
  · rw [if_pos c]
    obtain ⟨k1, k2, k3⟩ := shV_le (nrm s2) (nrm s1) (e2 - (62 - bl s2) - (e1 - (62 - bl s1))) m3 l3 l4 (by omega)
    exact Exact_d n1 n2 _ e1 e2 s1 s2 _ _ _ _ _ (by omega) (by omega) l3 l4 m3 m4 (by omega) (by omega) (by omega) (by omega) c k1 k2 k3 f1 f2 (bits_Shift _ _ (by omega) (by omega)) w
  · rw [if_neg c]
    obtain ⟨k1, k2, k3⟩ := shV_le (nrm s1) (nrm s2) (e1 - (62 - bl s1) - (e2 - (62 - bl s2))) l3 m3 m4 (by omega)
    exact Exact_c n1 n2 _ e1 e2 s1 s2 _ _ _ _ _ (by omega) (by omega) l3 l4 m3 m4 (by omega) (by omega) (by omega) (by omega) (by omega) k1 k2 k3 f1 f2 (bits_Shift _ _ (by omega) (by omega)) w
end Go.Proofs.YtkpfefpmdjjhjaaGreat
