/- annealref13.Mask. -/
import Derived.Test.YtkpfefpmdjjhjaaGreatMak
import Derived.Test.YtkpfefpmdjjhjaaGreatRf8
namespace Go.Proofs.YtkpfefpmdjjhjaaGreat
open Go.RowKit Anneal
set_option linter.unusedSimpArgs false
set_option linter.unusedVariables false
attribute [local go_sem] mk_size mk_cell mk_frozen mk_set mk_drew drew_mk lt_inst le_inst
theorem EachI.keep {W0 wr : World} {P B n : Nat} {r c f : Int} {F : Nat → Int} {j : Nat} (h : EachI W0 wr P B n r c f (upTo F j)) (e : F j = 0) (o : Array Obj) (d : Nat) :
    EachI W0 (Anneal.mk wr o d) P B n r c f (upTo F (j + 1)) := by
  have hP := h.pl
  have c0 := h.c0
  have c1 := h.c1
  have c2 := h.c2
  have c3 := h.c3
  have hs := h.below.size
  refine ⟨h.p, h.b, h.pb, by simp [mk_size]; omega, by simp [go_sem, hP, c0], by simp [go_sem, hP, c1], by simp [go_sem, hP, c2], by simp [go_sem, hP, c3], ?_, below_mk h.below hs o d⟩
  refine row_mk (h.row.congr ?_) o d
  intro i hi
  unfold upTo
  by_cases l : i < j
  · rw [if_pos l, if_pos (by omega)]
  · rw [if_neg l]
    by_cases k : i = j
    · subst k; rw [if_pos (by omega), e]
    · rw [if_neg (by omega)]
theorem EachI.row_at {W0 wr : World} {P B n : Nat} {r c f : Int} {G : Nat → Value} (h : EachI W0 wr P B n r c f G) : B < wr.heap.size := h.row.lt
set_option maxRecDepth 20000 in
set_option maxHeartbeats 4000000 in
theorem r13_Mask (rows cols drop seed stream : Int) (d0 : 0 ≤ drop) (d1 : drop < 4294967296) (h0 : 0 ≤ seed) (h1 : seed < 18446744073709551616) (h2 : 0 ≤ stream) (h3 : stream < 4294967296) (w : World) :
    Calls Tryz.prog 27 #[.int .i64 rows, .int .i64 cols, .int .u32 drop, .int .u64 seed, .int .u32 stream] w (TenP (tMask rows cols drop seed stream) w) := by
  have HN := Lib.hid (r13_New2 rows cols)
  have hn := newN_r rows cols
  have k1 : IntKind.i64.wrap drop = drop := by rw [wrap_i64m]; omega
  have k2 : IntKind.i64.wrap (4294967296 - drop) = 4294967296 - drop := by rw [wrap_i64m]; omega
  have hmore : U32 (mskMore drop) := fdiv_r _ _
  have HU := Lib.hid (fun (i : Nat) => mskV_r seed stream drop (mskMore drop) i hmore)
  have HWW := Lib.hid (fun (i : Int) (i0 : 0 ≤ i) (i1 : i < 18446744073709551616) => r10_Word seed stream i h0 h1 h2 h3 i0 i1)
  unfold tMask
  generalize newR rows cols = r at *
  generalize newC rows cols = c at *
  generalize newN rows cols = n at *
  have hM : fdiv (fint 4294967296) (fint (4294967296 - drop)) = mskMore drop := rfl
  generalize hmm : mskMore drop = M at *
  have HMM := Lib.hid hM
  clear hM hmm
  go_enter Tryz.func27, Tryz.ntmps27
  go_wp2_with (first | (go_at_call 92; (with_reducible refine Calls.mono (HN.out _) ?_); rintro e w1 ⟨B, rfl, hB, hrow, hb⟩; have HR := Lib.hid hrow; clear hrow; obtain ⟨oN, dN, rfl⟩ := made hb; clear hb) | (go_at_call 39; (with_reducible refine Calls.mono (r10_Int 4294967296 (by decide) (by decide) _) ?_); rintro e w1 ⟨rfl, hb⟩; obtain ⟨oA, dA, rfl⟩ := made hb; clear hb) | (go_at_call 39; (with_reducible refine Calls.mono (r10_Int (4294967296 - drop) (by omega) (by omega) _) ?_); rintro e w1 ⟨rfl, hb⟩; obtain ⟨o1, d1, rfl⟩ := made hb; clear hb) | (go_at_call 38; (with_reducible refine Calls.mono (r10_Div (fint 4294967296) (fint (4294967296 - drop)) (fint_r _).1 (fint_r _).2 (fint_r _).1 (fint_r _).2 _) ?_); rintro e w1 ⟨rfl, hb⟩; rw [HMM.out]; obtain ⟨oD, dD, rfl⟩ := made hb; clear hb))
  obtain ⟨F, hF⟩ : ∃ F : Nat → Int, F = fun i : Nat => mskV seed stream drop M i := ⟨_, rfl⟩
  have hBl : B < w.heap.size + 1 + oN.size := by have := HR.out.lt; simpa [mk_size] using this
  have hI := Lib.hid (show EachI (w.alloc (.cells #[.int .i64 0, .int .i64 0, .int .i64 0, .slice none 0 0] 24)) (mk (mk (mk ((mk (w.alloc (.cells #[.int .i64 0, .int .i64 0, .int .i64 0, .slice none 0 0] 24)) oN dN).alloc (.cells #[.int .i64 r, .int .i64 c, .int .i64 2, .slice (some ⟨B, 0, none⟩) n n] 24)) oA dA) o1 d1) oD dD) (w.heap.size + 1 + oN.size) B n r c 2 (upTo F 0) from
    ⟨by simp, hB, by omega, by simp [mk_size]; omega, by simp [go_sem], by simp [go_sem], by simp [go_sem], by simp [go_sem], by
      refine row_mk (row_mk (row_mk ((HR.out.alloc _).congr ?_) _ _) _ _) _ _
      intro i hi; simp [upTo], by (repeat (first | exact Below.refl _ _ | (refine Below.drew ?_) | (refine Below.setCell ?_ (by simp [mk_size] <;> omega) _) | (refine Below.alloc ?_ (by simp [mk_size] <;> omega) _) | (refine below_mk ?_ (by simp [mk_size] <;> omega) _ _) | (refine Below.trans ?_ (Below.mono (by assumption) (by simp <;> omega)))))⟩)
  have HF := Lib.hid hF
  clear hF
  go_loopw [13] (fun k wr => ∃ j : Nat, j ≤ n ∧ k = .int .i64 j ∧ EachI (w.alloc (.cells #[.int .i64 0, .int .i64 0, .int .i64 0, .slice none 0 0] 24)) wr (w.heap.size + 1 + oN.size) B n r c 2 (upTo F j)) (fun k _ => n - (intOf k).toNat)
  case atStart => exact ⟨0, by omega, by go_num, hI.out⟩
  case round =>
    obtain ⟨j, hj, rfl, HJ⟩ := hrel
    obtain ⟨os, d, hwr⟩ := made HJ.below
    have c0 := HJ.c0
    have c1 := HJ.c1
    have c2 := HJ.c2
    have c3 := HJ.c3
    have HQ := Lib.hid HJ
    have hB := HQ.out.row.lt
    have hP := HQ.out.pl
    have hPB := HQ.out.pb
    have hBP : B ≠ w.heap.size + 1 + oN.size := fun h => hPB h.symm
    have hb0 : Below w.heap.size w wr := Below.trans (by repeat (first | exact Below.refl _ _ | (refine Below.alloc ?_ (by simp) _))) (Below.mono HQ.out.below (by simp))
    clear HJ hI
    by_cases hlt : j < n
    · have hlt' : (j : Int) < n := by omega
      have hcell := HQ.out.row.cell hlt
      have hfro := HQ.out.row.frozen j
      have m1 : IntKind.u64.wrap (j : Int) = j := by rw [wrap_u64]; omega
      have HW := Lib.hid (HWW.out j (by omega) (by omega))
      have HFj : Hid (F j = mskV seed stream drop M j) := by rw [HF.out]; exact rfl
      clear hwr
      by_cases hw : phWord seed stream j < drop
      · have e0 : Hid (F j = 0) := by rw [HFj]; unfold mskV; exact if_pos hw
        generalize phWord seed stream j = W at *
        go_wp2_with (go_at_call 28; (with_reducible refine Calls.mono (HW.out _) ?_); rintro e w1 ⟨rfl, hb⟩; obtain ⟨o1, d1, rfl⟩ := made hb; clear hb)
        go_roundw
        case rel => exact ⟨j + 1, by omega, by go_num, HQ.out.keep e0 _ _⟩
        case measure => simp [intOf]; omega
      · have e0 : Hid (F j = M) := by rw [HFj]; unfold mskV; exact if_neg hw
        generalize phWord seed stream j = W at *
        go_wp2_with (go_at_call 28; (with_reducible refine Calls.mono (HW.out _) ?_); rintro e w1 ⟨rfl, hb⟩; obtain ⟨o1, d1, rfl⟩ := made hb; clear hb)
        go_roundw
        case rel =>
          have HS := HQ.out.step o1 d1
          rw [e0] at HS
          exact ⟨j + 1, by omega, by go_num, HS⟩
        case measure => simp [intOf]; omega
    · subst hwr
      obtain rfl : j = n := by omega
      go_wp2
      refine bodyPost_ret (v := .agg #[.int .i64 r, .int .i64 c, .int .i64 2, .slice (some ⟨B, 0, none⟩) j j]) ?_ rfl ⟨some ⟨B, 0, none⟩, j, rfl, Rd.of_row (World.rowIs.of_block (World.rowIs.congr HQ.out.row ?_) (mk_ge _ _ _ _ _ (by simp) HQ.out.b)) (fun i _ => HU.out i), by (repeat (first | exact Below.refl _ _ | (refine Below.drew ?_) | (refine Below.setCell ?_ (by simp [mk_size] <;> omega) _) | (refine Below.alloc ?_ (by simp [mk_size] <;> omega) _) | (refine below_mk ?_ (by simp [mk_size] <;> omega) _ _) | (refine Below.trans ?_ (Below.mono (by assumption) (by simp <;> omega)))))⟩
      · simp [results, Tryz.results27, go_sem]
      · intro i hi
        unfold upTo; rw [if_pos hi, HF.out]
end Go.Proofs.YtkpfefpmdjjhjaaGreat
