/- tensor.Each with act.Mask's own function. -/
import Derived.Test.YtkpfefpmdjjhjaaGreatEac
namespace Go.Proofs.YtkpfefpmdjjhjaaGreat
open Go.RowKit Anneal
set_option linter.unusedSimpArgs false
set_option linter.unusedVariables false
attribute [local go_sem] mk_size mk_cell mk_frozen mk_set mk_drew drew_mk lt_inst le_inst
set_option maxRecDepth 20000 in
set_option maxHeartbeats 4000000 in
theorem Each_Mask1 (r c f f' : Int) (p : Option Addr) (n m : Nat) (V F : Nat → Int) (q1 q2 q3 q4 : Value) (hn : n ≤ 16777216) (w : World) (hV : Rd w p n V)
    (hg : ∀ j, j < n → ∀ w', Below w.heap.size w w' → Calls Tryz.prog 90 #[.int .i64 j, .int .u32 (V j), q1, q2, q3, q4] w' fun e w'' => e = .returned (.int .u32 (F j)) ∧ Below w'.heap.size w' w'') :
    Calls Tryz.prog 80 #[.agg #[.int .i64 r, .int .i64 c, .int .i64 f, .slice p n m], .int .i64 f', .func (.func 90) #[] #[q1, q2, q3, q4]] w (EachP r c f' n F w) := by
  have hmk := run_make_row' (P := Tryz.prog) 22 25 (.int .u32 0) 4 Tryz.underlying22 info25 rfl .i64 .i64 n (by omega) (by omega)
  go_enter Tryz.func80, Tryz.ntmps80
  go_upto_region 1 with fail
  go_cut [7] (fun pp wx => ∃ P B : Nat, pp = .pointer (some ⟨P, 0, none⟩) ∧ EachI ((w.alloc (.cells #[.int .i64 r, .int .i64 c, .int .i64 f, .slice p n m] 24)).alloc (.cells #[.int .i64 0, .int .i64 0, .int .i64 0, .slice none 0 0] 24)) wx P B n r c f' (fun _ => .int .u32 0))
  case first =>
    go_region_held3 (fun w' => w'.cell? ⟨w.heap.size, 0, none⟩ = some (.int .i64 r) ∧ w'.cell? ⟨w.heap.size, 1, none⟩ = some (.int .i64 c) ∧ w'.cell? ⟨w.heap.size, 2, none⟩ = some (.int .i64 f) ∧ w'.cell? ⟨w.heap.size, 3, none⟩ = some (.slice p n m)) (simp [go_sem, World.cell?_alloc_past]) (first | fail)
    all_goals
      go_wp2
      go_meet
      first
        | (refine ⟨w.heap.size + 1 + 1 + 1, w.heap.size + 1 + 1, rfl, ⟨by simp, by simp, by omega, by simp, by simp [go_sem], by simp [go_sem], by simp [go_sem], by simp [go_sem], ?_, by (repeat (first | exact Below.refl _ _ | (refine Below.drew ?_) | (refine Below.setCell ?_ (by simp [mk_size] <;> omega) _) | (refine Below.alloc ?_ (by simp [mk_size] <;> omega) _) | (refine below_mk ?_ (by simp [mk_size] <;> omega) _ _) | (refine Below.trans ?_ (Below.mono (by assumption) (by simp <;> omega)))))⟩⟩
           have h := ((World.rowIs_made ((w.alloc (.cells #[.int .i64 r, .int .i64 c, .int .i64 f, .slice p n m] 24)).alloc (.cells #[.int .i64 0, .int .i64 0, .int .i64 0, .slice none 0 0] 24)) (.int .u32 0) n 25).alloc (.cells #[.int .i64 r, .int .i64 c, .int .i64 f', .slice (some ⟨w.heap.size + 1 + 1, 0, none⟩) n n] 24)).drew
           simpa using h)
        | (refine ⟨w.heap.size + 1 + 1, w.heap.size + 1 + 1 + 1, rfl, ⟨by simp, by simp, by omega, by simp, by simp [go_sem], by simp [go_sem], by simp [go_sem], by simp [go_sem], ?_, by (repeat (first | exact Below.refl _ _ | (refine Below.drew ?_) | (refine Below.setCell ?_ (by simp [mk_size] <;> omega) _) | (refine Below.alloc ?_ (by simp [mk_size] <;> omega) _) | (refine below_mk ?_ (by simp [mk_size] <;> omega) _ _) | (refine Below.trans ?_ (Below.mono (by assumption) (by simp <;> omega)))))⟩⟩
           have h := (World.rowIs_made (((w.alloc (.cells #[.int .i64 r, .int .i64 c, .int .i64 f, .slice p n m] 24)).alloc (.cells #[.int .i64 0, .int .i64 0, .int .i64 0, .slice none 0 0] 24)).alloc (.cells #[.int .i64 r, .int .i64 c, .int .i64 f', .slice (some ⟨w.heap.size + 1 + 1 + 1, 0, none⟩) n n] 24)) (.int .u32 0) n 25).drew
           simpa using h)
  case rest =>
    obtain ⟨P, B, rfl, HI⟩ := hcut
    obtain ⟨os, d, rfl⟩ := made HI.below
    go_wp2
    go_loopw [23] (fun k wr => ∃ (j : Nat) (os : Array Obj) (d : Nat), j ≤ n ∧ k = .int .i64 j ∧ wr = mk ((w.alloc (.cells #[.int .i64 r, .int .i64 c, .int .i64 f, .slice p n m] 24)).alloc (.cells #[.int .i64 0, .int .i64 0, .int .i64 0, .slice none 0 0] 24)) os d ∧ EachI ((w.alloc (.cells #[.int .i64 r, .int .i64 c, .int .i64 f, .slice p n m] 24)).alloc (.cells #[.int .i64 0, .int .i64 0, .int .i64 0, .slice none 0 0] 24)) wr P B n r c f' (upTo F j)) (fun k _ => n - (intOf k).toNat)
    case atStart => exact ⟨0, os, d, by omega, by go_num, rfl, HI⟩
    case round =>
      obtain ⟨j, os', d', hj, rfl, hwr, HJ⟩ := hrel
      clear HI
      by_cases hlt : j < n
      · have hlt' : (j : Int) < n := by omega
        obtain ⟨A, o, rfl, hA, hvj⟩ := hV.at_ hlt
        have hgj := hg j hlt
        have hc3 := HJ.c3
        have hcell := HJ.row.cell hlt
        have hfro := HJ.row.frozen j
        clear hwr
        have hvA : wr.cell? ⟨A, o + j, none⟩ = some (.int .u32 (V j)) := by
          rw [← hvj]; simp only [World.cell?]
          rw [HJ.below.block A (by simp; omega), Go.Deep.blk_alloc_lt _ _ _ (by simp; omega), Go.Deep.blk_alloc_lt _ _ _ hA]
        have hb0 : Below w.heap.size w wr := Below.trans (by repeat (first | exact Below.refl _ _ | (refine Below.alloc ?_ (by simp) _))) (Below.mono HJ.below (by simp; omega))
        have HR := Lib.hid HJ
        have HG := Lib.hid hgj
        clear HJ hgj hg hV
        have hB := HR.out.row.lt
        have hP := HR.out.pl
        have hPB := HR.out.pb
        have hBP : B ≠ P := fun h => hPB h.symm
        go_wp2
        go_region_held3 (fun w' => w'.cell? ⟨P, 3, none⟩ = some (.slice (some ⟨B, 0, none⟩) n n)) (simp [go_sem, hc3, hP, hB, hPB, hBP]) (first | (go_at_call 90; (refine Calls.mono (HG.out _ hb0.drew) ?_); rintro e w1 ⟨rfl, hb⟩; obtain ⟨o1, d1, rfl⟩ := made hb; clear hb))
        all_goals
          go_wp2
          go_roundw
          case rel =>
            have HS := HR.out.step o1 d1
            obtain ⟨os2, d2, e2⟩ := made HS.below
            exact ⟨j + 1, os2, d2, by omega, by go_num, e2, HS⟩
          case measure => simp [intOf]; omega
      · subst hwr
        obtain rfl : j = n := by omega
        have c0 := HJ.c0
        have c1 := HJ.c1
        have c2 := HJ.c2
        have c3 := HJ.c3
        have HR := Lib.hid HJ
        clear HJ
        go_wp2
        refine bodyPost_ret (v := .agg #[.int .i64 r, .int .i64 c, .int .i64 f', .slice (some ⟨B, 0, none⟩) j j]) ?_ rfl ⟨B, rfl, ?_, ?_, by (repeat (first | exact Below.refl _ _ | (refine Below.drew ?_) | (refine Below.setCell ?_ (by simp [mk_size] <;> omega) _) | (refine Below.alloc ?_ (by simp [mk_size] <;> omega) _) | (refine below_mk ?_ (by simp [mk_size] <;> omega) _ _) | (refine Below.trans ?_ (Below.mono (by assumption) (by simp <;> omega)))))⟩
        · simp [results, Tryz.results80, go_sem]
        · have := HR.out.b; simp at this; omega
        · have hr := HR.out.row
          refine (hr.congr (g := fun i => .int .u32 (F i)) ?_).of_block (mk_ge _ _ _ _ _ (by simp) HR.out.b)
          intro i hi
          unfold upTo; rw [if_pos hi]

end Go.Proofs.YtkpfefpmdjjhjaaGreat
