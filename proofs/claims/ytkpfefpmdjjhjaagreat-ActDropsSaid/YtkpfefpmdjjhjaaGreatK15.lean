/- anneallaw15.known tells true. -/
import Derived.Test.YtkpfefpmdjjhjaaGreatAct
namespace Go.Proofs.YtkpfefpmdjjhjaaGreat
open Go.RowKit Anneal
set_option linter.unusedSimpArgs false
set_option linter.unusedVariables false
attribute [local go_sem] mk_size mk_cell mk_frozen mk_set mk_drew drew_mk lt_inst le_inst
theorem fRelu_r (x : Int) (h : U32 x) : U32 (fRelu x) := by unfold fRelu; (repeat' split) <;> omega
def kV0 (j : Nat) : Int := if j = 0 then 48128 else 15360
def kV1 (j : Nat) : Int := if j = 0 then 0 else 15360
theorem kE1 : eAct 1 ⟨1, 2, 0, 2, kV0⟩ = 0 := by decide +kernel
theorem kE9 : eAct 9 ⟨1, 2, 0, 2, kV1⟩ = 22 := by decide +kernel
theorem kA : fto 2 0 (fRelu (fto 0 2 48128)) = 0 := by decide +kernel
theorem kB : fto 2 0 (fRelu (fto 0 2 15360)) = 15360 := by decide +kernel
theorem kT1 : tFwd fRelu 1 ⟨1, 2, 0, 2, kV0⟩ = ⟨1, 2, 0, 2, fun j => fto 2 0 (fRelu (fto 0 2 (kV0 j)))⟩ := by unfold tFwd; rw [kE1]; rfl
theorem kT9 : tFwd fRelu 9 ⟨1, 2, 0, 2, kV1⟩ = Tn.none := by unfold tFwd; rw [kE9]; rfl
theorem Forward_k1 (B : Nat) (w : World) (hB : B < w.heap.size) (c0 : w.cell? ⟨B, 0, none⟩ = some (.int .u32 48128)) (c1 : w.cell? ⟨B, 1, none⟩ = some (.int .u32 15360)) :
    Calls Tryz.prog 21 #[.int .i64 1, .agg #[.int .i64 1, .int .i64 2, .int .i64 0, .slice (some ⟨B, 0, none⟩) 2 2]] w fun e w' =>
      ∃ p m, e = .returned (.tuple #[.agg #[.int .i64 1, .int .i64 2, .int .i64 0, .slice p 2 m], .int .i64 0]) ∧ Rd w' p 2 kV1 ∧ Below w.heap.size w w' := by
  have hR : Rd w (some ⟨B, 0, none⟩) 2 kV0 := Rd.of_cells hB (fun j _ => by unfold kV0; split <;> omega) (fun j hj => by
    have : j = 0 ∨ j = 1 := by omega
    rcases this with rfl | rfl
    · exact c0
    · exact c1)
  have h := act_Forward 1 fRelu fRelu_r (fun _ _ x w hx => act_Value1 x hx.1 hx.2 w) ⟨1, 2, 0, 2, kV0⟩ (some ⟨B, 0, none⟩) 2 (by decide) w hR
  rw [kE1, kT1] at h
  refine h.mono ?_
  rintro e w' ⟨p, m, he, hr, hb⟩
  refine ⟨p, m, he, hr.congr ?_, hb⟩
  intro j hj
  have hj : j < 2 := hj
  have : j = 0 ∨ j = 1 := by omega
  rcases this with rfl | rfl
  · exact kA
  · exact kB
theorem Forward_k9 (p : Option Addr) (m : Nat) (w : World) (hR : Rd w p 2 kV1) :
    Calls Tryz.prog 21 #[.int .i64 9, .agg #[.int .i64 1, .int .i64 2, .int .i64 0, .slice p 2 m]] w fun e w' =>
      ∃ q m', e = .returned (.tuple #[.agg #[.int .i64 0, .int .i64 0, .int .i64 0, .slice q 0 m'], .int .i64 22]) ∧ Below w.heap.size w w' := by
  have h := act_Forward 9 fRelu fRelu_r (fun _ h _ _ _ => absurd h (by decide)) ⟨1, 2, 0, 2, kV1⟩ p m (by decide) w hR
  rw [kE9, kT9] at h
  refine h.mono ?_
  rintro e w' ⟨p, m, he, hr, hb⟩
  exact ⟨p, m, he, hb⟩
set_option maxHeartbeats 4000000 in
theorem law15_known (w : World) : Calls Tryz.prog 12 #[] w fun e w' => e = .returned (.bool true) ∧ Below w.heap.size w w' := by
  go_enter Tryz.func12, Tryz.ntmps12
  go_wp2_with fail
  (with_reducible refine Calls.mono (Forward_k1 w.heap.size _ (by simp) (by simp [go_sem]) (by simp [go_sem])) ?_)
  rintro e w1 ⟨p, m, rfl, hR, hb⟩
  obtain ⟨o1, d1, rfl⟩ := made hb
  clear hb
  go_wp2_with fail
  (with_reducible refine Calls.mono (Forward_k9 p m _ (hR.below (by (repeat (first | exact Below.refl _ _ | (refine Below.drew ?_) | (refine Below.setCell ?_ (by simp [mk_size] <;> omega) _) | (refine Below.alloc ?_ (by simp [mk_size] <;> omega) _) | (refine below_mk ?_ (by simp [mk_size] <;> omega) _ _) | (refine Below.trans ?_ (Below.mono (by assumption) (by simp <;> omega)))))))) ?_)
  rintro e w1 ⟨q, m', rfl, hb⟩
  obtain ⟨b, o, rfl, hbl, hc⟩ := hR.c (by decide)
  have c0 := hc 0 (by decide)
  have c1 := hc 1 (by decide)
  have e0 : kV1 0 = 0 := rfl
  have e1 : kV1 1 = 15360 := rfl
  rw [e0] at c0
  rw [e1] at c1
  rw [Nat.add_zero] at c0
  obtain ⟨o2, d2, rfl⟩ := made hb
  clear hb hc hR e0 e1
  have hbl2 : b < w.heap.size + 1 + o1.size := by simpa [mk_size] using hbl
  have iz : NLt b (w.heap.size + 1 + o1.size) := ⟨hbl2⟩
  clear hbl
  go_wp2_with (first | (go_at_call 19; (with_reducible refine Calls.mono (act_Slope0 5 _) ?_); rintro e w' ⟨rfl, rfl⟩))
  go_ret
  exact ⟨rfl, by (repeat (first | exact Below.refl _ _ | (refine Below.drew ?_) | (refine Below.setCell ?_ (by simp [mk_size] <;> omega) _) | (refine Below.alloc ?_ (by simp [mk_size] <;> omega) _) | (refine below_mk ?_ (by simp [mk_size] <;> omega) _ _) | (refine Below.trans ?_ (Below.mono (by assumption) (by simp <;> omega)))))⟩
end Go.Proofs.YtkpfefpmdjjhjaaGreat
