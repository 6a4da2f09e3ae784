/- act.known, plain, Slope (linear), Value (rectifier), Forward. -/
import Derived.Test.YtkpfefpmdjjhjaaGreatRgt
import Derived.Test.YtkpfefpmdjjhjaaGreatCnv
import Derived.Test.YtkpfefpmdjjhjaaGreatFu1
import Derived.Test.YtkpfefpmdjjhjaaGreatEaF
namespace Anneal
open Go
/-- an activation's error -/
def eAct (kind : Int) (t : Tn) : Int := if fRight t = false then 21 else if kind < 0 ∨ 3 < kind then 22 else 0
/-- what an activation makes of a tensor -/
def tFwd (Vf : Int → Int) (kind : Int) (t : Tn) : Tn := if eAct kind t = 0 then ⟨t.r, t.c, t.f, t.n, fun j => fto 2 t.f (Vf (fto t.f 2 (t.V j)))⟩ else Tn.none
/-- a rectifier -/
def fRelu (x : Int) : Int := if isNan 2 x then 2143289344 else if fabove x 0 then x else 0
end Anneal
namespace Go.Proofs.YtkpfefpmdjjhjaaGreat
open Go.RowKit Anneal
set_option linter.unusedSimpArgs false
set_option linter.unusedVariables false
attribute [local go_sem] mk_size mk_cell mk_frozen mk_set mk_drew drew_mk lt_inst le_inst
theorem act_known (k : Int) (w : World) : Calls Tryz.prog 79 #[.int .i64 k] w fun e w' => e = .returned (.bool (!decide (k < 0 ∨ 3 < k))) ∧ w = w' := by
  by_cases h1 : k < 0
  · have d1 : decide (0 ≤ k) = false := by simpa using h1
    go_enter Tryz.func79, Tryz.ntmps79
    go_wp2
    go_ret
    exact ⟨ret1_ (congrArg Value.bool (by simp [h1])), rfl⟩
  · have d1 : decide (0 ≤ k) = true := by simpa using h1
    go_enter Tryz.func79, Tryz.ntmps79
    go_wp2
    go_ret
    refine ⟨ret1_ (congrArg Value.bool ?_), rfl⟩
    rw [Bool.eq_iff_iff]; simp; omega
theorem act_plain (w : World) : Calls Tryz.prog 65 #[] w fun e w' => e = .returned (.int .u32 2143289344) ∧ w = w' := by
  go_enter Tryz.func65, Tryz.ntmps65
  go_wp2_with (go_at_call 148; (with_reducible refine Calls.mono (format_Nan 2 (by decide) _) ?_); rintro e w' ⟨rfl, rfl⟩)
  go_ret
  exact ⟨rfl, rfl⟩
theorem act_Slope0 (x : Int) (w : World) : Calls Tryz.prog 19 #[.int .i64 0, .int .u32 x] w fun e w' => e = .returned (.int .u32 1065353216) ∧ w = w' := by
  go_enter Tryz.func19, Tryz.ntmps19
  go_wp2
  go_ret
  exact ⟨rfl, rfl⟩
theorem act_Value1 (x : Int) (h0 : 0 ≤ x) (h1 : x < 4294967296) (w : World) : Calls Tryz.prog 17 #[.int .i64 1, .int .u32 x] w fun e w' => e = .returned (.int .u32 (fRelu x)) ∧ Below w.heap.size w w' := by
  generalize hV : fRelu x = V
  replace hV := Lib.hid hV
  go_enter Tryz.func17, Tryz.ntmps17
  go_wp2_with (first | (go_at_call 64; (with_reducible refine Calls.mono (funcs_IsNan x h0 h1 _) ?_); rintro e w' ⟨rfl, rfl⟩) | (go_at_call 65; (with_reducible refine Calls.mono (act_plain _) ?_); rintro e w' ⟨rfl, rfl⟩) | (go_at_call 66; (with_reducible refine Calls.mono (funcs_Above x 0 h0 h1 (by decide) (by decide) _) ?_); rintro e w' ⟨rfl, rfl⟩))
  all_goals
    go_ret
    refine ⟨ret1_ (congrArg (Value.int .u32) ?_), by (repeat (first | exact Below.refl _ _ | (refine Below.drew ?_) | (refine Below.setCell ?_ (by simp [mk_size] <;> omega) _) | (refine Below.alloc ?_ (by simp [mk_size] <;> omega) _) | (refine below_mk ?_ (by simp [mk_size] <;> omega) _ _) | (refine Below.trans ?_ (Below.mono (by assumption) (by simp <;> omega)))))⟩
    rw [← hV.out]
    unfold fRelu
    simp [*]
theorem act_Forward1 (kind f v i : Int) (Vf : Int → Int) (hf : Fm f) (v0 : 0 ≤ v) (v1 : v < 4294967296) (hVr : ∀ x, U32 x → U32 (Vf x))
    (hval : ∀ x w, U32 x → Calls Tryz.prog 17 #[.int .i64 kind, .int .u32 x] w fun e w' => e = .returned (.int .u32 (Vf x)) ∧ Below w.heap.size w w')
    (bz bk : Nat) (w : World) (lz : bz < w.heap.size) (lk : bk < w.heap.size) (cz : w.cell? ⟨bz, 2, none⟩ = some (.int .i64 f)) (ck : w.cell? ⟨bk, 0, none⟩ = some (.int .i64 kind)) :
    Calls Tryz.prog 81 #[.int .i64 i, .int .u32 v, .pointer (some ⟨bz, 0, none⟩), .pointer (some ⟨bk, 0, none⟩)] w fun e w' => e = .returned (.int .u32 (fto 2 f (Vf (fto f 2 v)))) ∧ Below w.heap.size w w' := by
  have iz : NLt bz w.heap.size := ⟨lz⟩
  have ik : NLt bk w.heap.size := ⟨lk⟩
  have hr := fto_r f 2 v (by decide)
  have hr2 := hVr _ hr
  have H1 := Lib.hid (conv_Widen f v hf v0 v1)
  have H2 := Lib.hid (fun w => hval (fto f 2 v) w hr)
  have H3 := Lib.hid (conv_Narrow f (Vf (fto f 2 v)) hf hr2.1 hr2.2)
  clear hval hVr hf hr hr2
  generalize fto 2 f (Vf (fto f 2 v)) = C at *
  generalize Vf (fto f 2 v) = B at *
  generalize fto f 2 v = A at *
  go_enter Tryz.func81, Tryz.ntmps81
  go_wp2
  go_region_held3 (fun w' => w'.cell? ⟨bz, 2, none⟩ = some (.int .i64 f) ∧ w'.cell? ⟨bk, 0, none⟩ = some (.int .i64 kind)) (simp [go_sem, *]) (first | (go_at_call 83; (with_reducible refine Calls.mono (H1.out _) ?_); rintro e w1 ⟨rfl, hb⟩; obtain ⟨o1, d1, rfl⟩ := made hb; clear hb) | (go_at_call 17; (with_reducible refine Calls.mono (H2.out _) ?_); rintro e w1 ⟨rfl, hb⟩; obtain ⟨o1, d1, rfl⟩ := made hb; clear hb) | (go_at_call 82; (with_reducible refine Calls.mono (H3.out _) ?_); rintro e w1 ⟨rfl, hb⟩; obtain ⟨o1, d1, rfl⟩ := made hb; clear hb))
  go_wp2
  go_ret
  exact ⟨rfl, by (repeat (first | exact Below.refl _ _ | (refine Below.drew ?_) | (refine Below.setCell ?_ (by simp [mk_size] <;> omega) _) | (refine Below.alloc ?_ (by simp [mk_size] <;> omega) _) | (refine below_mk ?_ (by simp [mk_size] <;> omega) _ _) | (refine Below.trans ?_ (Below.mono (by assumption) (by simp <;> omega)))))⟩
set_option maxHeartbeats 2000000 in
theorem act_Forward (kind : Int) (Vf : Int → Int) (hVr : ∀ x, U32 x → U32 (Vf x))
    (hval : 0 ≤ kind → kind ≤ 3 → ∀ x w, U32 x → Calls Tryz.prog 17 #[.int .i64 kind, .int .u32 x] w fun e w' => e = .returned (.int .u32 (Vf x)) ∧ Below w.heap.size w w')
    (t : Tn) (p : Option Addr) (m : Nat) (hn : t.n ≤ 9223372036854775807) (w : World) (hR : Rd w p t.n t.V) :
    Calls Tryz.prog 21 #[.int .i64 kind, .agg #[.int .i64 t.r, .int .i64 t.c, .int .i64 t.f, .slice p t.n m]] w (TenE (tFwd Vf kind t) (eAct kind t) w) := by
  have hmf : ∀ (fn : Fn) (first cap : Array Value) (w : World), (Instr.makeFunc fn first cap).run Tryz.prog w = .ok (.func fn first cap) w := fun _ _ _ _ => rfl
  have CR := Lib.hid (fun (w1 : World) (hb : Below w.heap.size w w1) => tensor_Right t p m hn w1 (hR.below hb))
  have CK := Lib.hid (act_known kind)
  cases hr : fRight t
  · have e1 : eAct kind t = 21 := by unfold eAct; rw [hr]; rfl
    have e2 : tFwd Vf kind t = Tn.none := by unfold tFwd; rw [e1]; rfl
    rw [e1, e2]
    rw [hr] at CR
    clear hR hval hVr hr e1 e2
    obtain ⟨r, c, f, n, V⟩ := t
    simp only at *
    go_enter Tryz.func21, Tryz.ntmps21
    go_wp2_with (first | (go_at_call 78; (with_reducible refine Calls.mono (CR.out _ (by (repeat (first | exact Below.refl _ _ | (refine Below.drew ?_) | (refine Below.setCell ?_ (by simp [mk_size] <;> omega) _) | (refine Below.alloc ?_ (by simp [mk_size] <;> omega) _) | (refine below_mk ?_ (by simp [mk_size] <;> omega) _ _) | (refine Below.trans ?_ (Below.mono (by assumption) (by simp <;> omega))))))) ?_); rintro e w1 ⟨rfl, hb⟩; obtain ⟨o1, d1, rfl⟩ := made hb; clear hb))
    refine bodyPost_ret (v := .tuple #[.agg #[.int .i64 0, .int .i64 0, .int .i64 0, .slice none 0 0], .int .i64 21]) ?_ rfl ⟨none, 0, rfl, Rd.nil _ _ _, by (repeat (first | exact Below.refl _ _ | (refine Below.drew ?_) | (refine Below.setCell ?_ (by simp [mk_size] <;> omega) _) | (refine Below.alloc ?_ (by simp [mk_size] <;> omega) _) | (refine below_mk ?_ (by simp [mk_size] <;> omega) _ _) | (refine Below.trans ?_ (Below.mono (by assumption) (by simp <;> omega)))))⟩
    simp [results, Tryz.results21, go_sem]
  · obtain ⟨hn2, hf⟩ := fRight_n t hr
    by_cases hk : kind < 0 ∨ 3 < kind
    · have e1 : eAct kind t = 22 := by unfold eAct; rw [hr, if_neg (by decide), if_pos hk]
      have e2 : tFwd Vf kind t = Tn.none := by unfold tFwd; rw [e1]; rfl
      rw [e1, e2]
      rw [hr] at CR
      rw [decide_eq_true hk] at CK
      clear hR hval hVr hr e1 e2 hf hk
      obtain ⟨r, c, f, n, V⟩ := t
      simp only at *
      go_enter Tryz.func21, Tryz.ntmps21
      go_wp2_with (first | (go_at_call 78; (with_reducible refine Calls.mono (CR.out _ (by (repeat (first | exact Below.refl _ _ | (refine Below.drew ?_) | (refine Below.setCell ?_ (by simp [mk_size] <;> omega) _) | (refine Below.alloc ?_ (by simp [mk_size] <;> omega) _) | (refine below_mk ?_ (by simp [mk_size] <;> omega) _ _) | (refine Below.trans ?_ (Below.mono (by assumption) (by simp <;> omega))))))) ?_); rintro e w1 ⟨rfl, hb⟩; obtain ⟨o1, d1, rfl⟩ := made hb; clear hb) | (go_at_call 79; (with_reducible refine Calls.mono (CK.out _) ?_); rintro e w' ⟨rfl, rfl⟩))
      refine bodyPost_ret (v := .tuple #[.agg #[.int .i64 0, .int .i64 0, .int .i64 0, .slice none 0 0], .int .i64 22]) ?_ rfl ⟨none, 0, rfl, Rd.nil _ _ _, by (repeat (first | exact Below.refl _ _ | (refine Below.drew ?_) | (refine Below.setCell ?_ (by simp [mk_size] <;> omega) _) | (refine Below.alloc ?_ (by simp [mk_size] <;> omega) _) | (refine below_mk ?_ (by simp [mk_size] <;> omega) _ _) | (refine Below.trans ?_ (Below.mono (by assumption) (by simp <;> omega)))))⟩
      simp [results, Tryz.results21, go_sem]
    · have e1 : eAct kind t = 0 := by unfold eAct; rw [hr, if_neg (by decide), if_neg hk]
      have e2 : tFwd Vf kind t = ⟨t.r, t.c, t.f, t.n, fun j => fto 2 t.f (Vf (fto t.f 2 (t.V j)))⟩ := by unfold tFwd; rw [e1]; rfl
      rw [e1, e2]
      rw [hr] at CR
      rw [decide_eq_false hk] at CK
      have hk2 : 0 ≤ kind ∧ kind ≤ 3 := by omega
      have CE := Lib.hid (fun (w1 : World) (hb : Below w.heap.size w w1) (bz bk mm : Nat) (lz : bz < w1.heap.size) (lk : bk < w1.heap.size) (cz : w1.cell? ⟨bz, 2, none⟩ = some (.int .i64 t.f)) (ck : w1.cell? ⟨bk, 0, none⟩ = some (.int .i64 kind)) =>
        Each_Forward1 t.r t.c t.f t.f p t.n m t.V (fun j => fto 2 t.f (Vf (fto t.f 2 (t.V j)))) (.pointer (some ⟨bz, 0, none⟩)) (.pointer (some ⟨bk, 0, none⟩)) hn2 w1 (hR.below hb)
          (fun j hj w2 hb2 => act_Forward1 kind t.f (t.V j) j Vf hf (hR.u j hj).1 (hR.u j hj).2 hVr (hval hk2.1 hk2.2) bz bk w2 (Nat.lt_of_lt_of_le lz hb2.size) (Nat.lt_of_lt_of_le lk hb2.size)
            ((hb2.cell (p := ⟨bz, 2, none⟩) lz).trans cz) ((hb2.cell (p := ⟨bk, 0, none⟩) lk).trans ck)))
      have HU := Lib.hid (fun j => fto_r 2 t.f (Vf (fto t.f 2 (t.V j))) hf)
      clear hR hval hVr hr e1 e2 hk hf
      obtain ⟨r, c, f, n, V⟩ := t
      simp only at *
      go_enter Tryz.func21, Tryz.ntmps21
      go_wp2_with (first | (go_at_call 78; (with_reducible refine Calls.mono (CR.out _ (by (repeat (first | exact Below.refl _ _ | (refine Below.drew ?_) | (refine Below.setCell ?_ (by simp [mk_size] <;> omega) _) | (refine Below.alloc ?_ (by simp [mk_size] <;> omega) _) | (refine below_mk ?_ (by simp [mk_size] <;> omega) _ _) | (refine Below.trans ?_ (Below.mono (by assumption) (by simp <;> omega))))))) ?_); rintro e w1 ⟨rfl, hb⟩; obtain ⟨o1, d1, rfl⟩ := made hb; clear hb) | (go_at_call 79; (with_reducible refine Calls.mono (CK.out _) ?_); rintro e w' ⟨rfl, rfl⟩) | (go_at_call 80; (with_reducible refine Calls.mono (CE.out _ (by (repeat (first | exact Below.refl _ _ | (refine Below.drew ?_) | (refine Below.setCell ?_ (by simp [mk_size] <;> omega) _) | (refine Below.alloc ?_ (by simp [mk_size] <;> omega) _) | (refine below_mk ?_ (by simp [mk_size] <;> omega) _ _) | (refine Below.trans ?_ (Below.mono (by assumption) (by simp <;> omega)))))) _ _ 0 (by simp [go_sem]) (by simp [go_sem]) (by simp [go_sem]) (by simp [go_sem])) ?_); rintro e w1 ⟨B, rfl, hB, hrow, hb⟩; have HRow := Lib.hid hrow; clear hrow; obtain ⟨o1, d1, rfl⟩ := made hb; clear hb))
      refine bodyPost_ret (v := .tuple #[.agg #[.int .i64 r, .int .i64 c, .int .i64 f, .slice (some ⟨B, 0, none⟩) n n], .int .i64 0]) ?_ rfl ⟨some ⟨B, 0, none⟩, n, rfl, Rd.of_row (World.rowIs.of_block HRow.out (mk_ge _ _ _ _ _ (by simp [mk_size]) hB)) (fun j _ => HU.out j), by (repeat (first | exact Below.refl _ _ | (refine Below.drew ?_) | (refine Below.setCell ?_ (by simp [mk_size] <;> omega) _) | (refine Below.alloc ?_ (by simp [mk_size] <;> omega) _) | (refine below_mk ?_ (by simp [mk_size] <;> omega) _ _) | (refine Below.trans ?_ (Below.mono (by assumption) (by simp <;> omega)))))⟩
      simp [results, Tryz.results21, go_sem]
end Go.Proofs.YtkpfefpmdjjhjaaGreat
