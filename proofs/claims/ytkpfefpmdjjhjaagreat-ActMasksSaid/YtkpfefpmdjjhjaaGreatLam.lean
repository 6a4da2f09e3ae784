/- The walk of the statement ActMasks: the call tells true, whatever comes in. -/
import Derived.Test.YtkpfefpmdjjhjaaGreatK15
import Derived.Test.YtkpfefpmdjjhjaaGreatRmk
import Derived.Test.YtkpfefpmdjjhjaaGreatHlp
namespace Go.Proofs.YtkpfefpmdjjhjaaGreat
open Go.RowKit Anneal
set_option linter.unusedSimpArgs false
set_option linter.unusedVariables false
attribute [local go_sem] mk_size mk_cell mk_frozen mk_set mk_drew drew_mk lt_inst le_inst
theorem tMask_n (a b x s t : Int) : (tMask a b x s t).n ≤ 9223372036854775807 := by
  have := newN_r a b
  unfold tMask; simp only; omega
set_option maxRecDepth 20000 in
set_option maxHeartbeats 8000000 in
theorem law_ActMasks (rows cols r c drop seed stream : Int) (r0 : 0 ≤ r) (r1 : r < 256) (c0 : 0 ≤ c) (c1 : c < 256) (d0 : 0 ≤ drop) (d1 : drop < 4294967296) (h0 : 0 ≤ seed) (h1 : seed < 18446744073709551616) (h2 : 0 ≤ stream) (h3 : stream < 4294967296) (w : World) :
    Calls Tryz.prog 4 #[.int .i64 rows, .int .i64 cols, .int .u8 r, .int .u8 c, .int .u32 drop, .int .u64 seed, .int .u32 stream] w fun e w' => e = .returned (.bool true) ∧ Below w.heap.size w w' := by
  have CM := Lib.hid (fun a b x (hx0 : 0 ≤ x) (hx1 : x < 4294967296) w => act_Mask a b x seed stream hx0 hx1 h0 h1 h2 h3 w)
  have CN := Lib.hid (fun a b x (hx0 : 0 ≤ x) (hx1 : x < 4294967296) w => r13_Mask a b x seed stream hx0 hx1 h0 h1 h2 h3 w)
  have CT := Lib.hid (fun a b x p q m m' w => help_Tensor (tMask a b x seed stream) p q m m' (tMask_n a b x seed stream) w)
  have q0 : 0 ≤ drop / 2 := by omega
  have q1 : drop / 2 < 4294967296 := by omega
  go_enter Tryz.func4, Tryz.ntmps4
  go_wp2_with (first | (go_at_call 12; (with_reducible refine Calls.mono (law15_known _) ?_); rintro e w1 ⟨rfl, hb⟩; obtain ⟨o1, d1, rfl⟩ := made hb; clear hb))
  generalize r % 9 = x0
  generalize c % 9 = x1
  generalize bits BinOp.and IntKind.i64 (wrap64 (-rows)) 7 = x2
  generalize bits BinOp.and IntKind.i64 cols 7 = x3
  go_loopw [37] (fun k wr => ∃ j : Int, 0 ≤ j ∧ j ≤ 3 ∧ k = .int .i64 j ∧ Below ((mk w o1 d1).alloc (.cells #[.int .i64 x0, .int .i64 x1, .int .i64 x2, .int .i64 x3, .int .i64 600, .int .i64 600] 43)).heap.size ((mk w o1 d1).alloc (.cells #[.int .i64 x0, .int .i64 x1, .int .i64 x2, .int .i64 x3, .int .i64 600, .int .i64 600] 43)) wr) (fun k _ => 3 - (intOf k).toNat)
  case atStart => exact ⟨0, by omega, by omega, rfl, Below.refl _ _⟩
  case round =>
    obtain ⟨j, hj0, hj, rfl, hb⟩ := hrel
    obtain ⟨os, d, rfl⟩ := made hb
    clear hb
    have hc : j = 0 ∨ j = 1 ∨ j = 2 ∨ j = 3 := by omega
    rcases hc with rfl | rfl | rfl | rfl
    · go_wp2
      go_loopw [46] (fun k wx => ∃ i : Int, 0 ≤ i ∧ i ≤ 3 ∧ k = .int .i64 i ∧ Below (((mk ((mk w o1 d1).alloc (.cells #[.int .i64 x0, .int .i64 x1, .int .i64 x2, .int .i64 x3, .int .i64 600, .int .i64 600] 43)) os d).alloc (.cells #[.int .i64 x0, .int .i64 x1] 43)).alloc (.cells #[.int .u32 drop, .int .u32 (drop / 2), .int .u32 0] 25)).heap.size (((mk ((mk w o1 d1).alloc (.cells #[.int .i64 x0, .int .i64 x1, .int .i64 x2, .int .i64 x3, .int .i64 600, .int .i64 600] 43)) os d).alloc (.cells #[.int .i64 x0, .int .i64 x1] 43)).alloc (.cells #[.int .u32 drop, .int .u32 (drop / 2), .int .u32 0] 25)) wx) (fun k _ => 3 - (intOf k).toNat)
      case atStart => exact ⟨0, by omega, by omega, rfl, Below.refl _ _⟩
      case round =>
        obtain ⟨i, hi0, hi, rfl, hb⟩ := hrel
        obtain ⟨ox, dx, rfl⟩ := made hb
        clear hb
        have hc : i = 0 ∨ i = 1 ∨ i = 2 ∨ i = 3 := by omega
        rcases hc with rfl | rfl | rfl | rfl
        · go_wp2
          go_region_held3 (fun w' => w'.cell? ⟨w.heap.size + o1.size + 1 + os.size, 0, none⟩ = some (.int .i64 x0) ∧ w'.cell? ⟨w.heap.size + o1.size + 1 + os.size, 1, none⟩ = some (.int .i64 x1)) (simp [go_sem]) (first | (go_at_call 26; (with_reducible refine Calls.mono (CM.out _ _ _ (by omega) (by omega) _) ?_); rintro e w1 ⟨p1, m1, rfl, hR1, hb⟩; have HR1 := Lib.hid hR1; clear hR1; obtain ⟨oA, dA, rfl⟩ := made hb; clear hb) | (go_at_call 27; (with_reducible refine Calls.mono (CN.out _ _ _ (by omega) (by omega) _) ?_); rintro e w1 ⟨p2, m2, rfl, hR2, hb⟩; have HR2 := Lib.hid hR2; clear hR2; obtain ⟨oB, dB, rfl⟩ := made hb; clear hb) | (go_at_call 25; (with_reducible refine Calls.mono (CT.out _ _ _ _ _ _ _ _ (HR1.out.below (by (repeat (first | exact Below.refl _ _ | (refine Below.drew ?_) | (refine Below.setCell ?_ (by simp [mk_size] <;> omega) _) | (refine Below.alloc ?_ (by simp [mk_size] <;> omega) _) | (refine below_mk ?_ (by simp [mk_size] <;> omega) _ _) | (refine Below.trans ?_ (Below.mono (by assumption) (by simp <;> omega))))))) HR2.out) ?_); rintro e w1 ⟨rfl, hb⟩; obtain ⟨oC, dC, rfl⟩ := made hb; clear hb))
          all_goals
            go_wp2
            go_roundw
            case rel => exact ⟨1, by omega, by omega, by first | rfl | go_num, by (repeat (first | exact Below.refl _ _ | (refine Below.drew ?_) | (refine Below.setCell ?_ (by simp [mk_size] <;> omega) _) | (refine Below.alloc ?_ (by simp [mk_size] <;> omega) _) | (refine below_mk ?_ (by simp [mk_size] <;> omega) _ _) | (refine Below.trans ?_ (Below.mono (by assumption) (by simp <;> omega)))))⟩
            case measure => simp [intOf]
        · go_wp2
          go_region_held3 (fun w' => w'.cell? ⟨w.heap.size + o1.size + 1 + os.size, 0, none⟩ = some (.int .i64 x0) ∧ w'.cell? ⟨w.heap.size + o1.size + 1 + os.size, 1, none⟩ = some (.int .i64 x1)) (simp [go_sem]) (first | (go_at_call 26; (with_reducible refine Calls.mono (CM.out _ _ _ (by omega) (by omega) _) ?_); rintro e w1 ⟨p1, m1, rfl, hR1, hb⟩; have HR1 := Lib.hid hR1; clear hR1; obtain ⟨oA, dA, rfl⟩ := made hb; clear hb) | (go_at_call 27; (with_reducible refine Calls.mono (CN.out _ _ _ (by omega) (by omega) _) ?_); rintro e w1 ⟨p2, m2, rfl, hR2, hb⟩; have HR2 := Lib.hid hR2; clear hR2; obtain ⟨oB, dB, rfl⟩ := made hb; clear hb) | (go_at_call 25; (with_reducible refine Calls.mono (CT.out _ _ _ _ _ _ _ _ (HR1.out.below (by (repeat (first | exact Below.refl _ _ | (refine Below.drew ?_) | (refine Below.setCell ?_ (by simp [mk_size] <;> omega) _) | (refine Below.alloc ?_ (by simp [mk_size] <;> omega) _) | (refine below_mk ?_ (by simp [mk_size] <;> omega) _ _) | (refine Below.trans ?_ (Below.mono (by assumption) (by simp <;> omega))))))) HR2.out) ?_); rintro e w1 ⟨rfl, hb⟩; obtain ⟨oC, dC, rfl⟩ := made hb; clear hb))
          all_goals
            go_wp2
            go_roundw
            case rel => exact ⟨2, by omega, by omega, by first | rfl | go_num, by (repeat (first | exact Below.refl _ _ | (refine Below.drew ?_) | (refine Below.setCell ?_ (by simp [mk_size] <;> omega) _) | (refine Below.alloc ?_ (by simp [mk_size] <;> omega) _) | (refine below_mk ?_ (by simp [mk_size] <;> omega) _ _) | (refine Below.trans ?_ (Below.mono (by assumption) (by simp <;> omega)))))⟩
            case measure => simp [intOf]
        · go_wp2
          go_region_held3 (fun w' => w'.cell? ⟨w.heap.size + o1.size + 1 + os.size, 0, none⟩ = some (.int .i64 x0) ∧ w'.cell? ⟨w.heap.size + o1.size + 1 + os.size, 1, none⟩ = some (.int .i64 x1)) (simp [go_sem]) (first | (go_at_call 26; (with_reducible refine Calls.mono (CM.out _ _ _ (by omega) (by omega) _) ?_); rintro e w1 ⟨p1, m1, rfl, hR1, hb⟩; have HR1 := Lib.hid hR1; clear hR1; obtain ⟨oA, dA, rfl⟩ := made hb; clear hb) | (go_at_call 27; (with_reducible refine Calls.mono (CN.out _ _ _ (by omega) (by omega) _) ?_); rintro e w1 ⟨p2, m2, rfl, hR2, hb⟩; have HR2 := Lib.hid hR2; clear hR2; obtain ⟨oB, dB, rfl⟩ := made hb; clear hb) | (go_at_call 25; (with_reducible refine Calls.mono (CT.out _ _ _ _ _ _ _ _ (HR1.out.below (by (repeat (first | exact Below.refl _ _ | (refine Below.drew ?_) | (refine Below.setCell ?_ (by simp [mk_size] <;> omega) _) | (refine Below.alloc ?_ (by simp [mk_size] <;> omega) _) | (refine below_mk ?_ (by simp [mk_size] <;> omega) _ _) | (refine Below.trans ?_ (Below.mono (by assumption) (by simp <;> omega))))))) HR2.out) ?_); rintro e w1 ⟨rfl, hb⟩; obtain ⟨oC, dC, rfl⟩ := made hb; clear hb))
          all_goals
            go_wp2
            go_roundw
            case rel => exact ⟨3, by omega, by omega, by first | rfl | go_num, by (repeat (first | exact Below.refl _ _ | (refine Below.drew ?_) | (refine Below.setCell ?_ (by simp [mk_size] <;> omega) _) | (refine Below.alloc ?_ (by simp [mk_size] <;> omega) _) | (refine below_mk ?_ (by simp [mk_size] <;> omega) _ _) | (refine Below.trans ?_ (Below.mono (by assumption) (by simp <;> omega)))))⟩
            case measure => simp [intOf]
        · go_wp2
          go_roundw
          case rel => exact ⟨1, by omega, by omega, by first | rfl | go_num, by (repeat (first | exact Below.refl _ _ | (refine Below.drew ?_) | (refine Below.setCell ?_ (by simp [mk_size] <;> omega) _) | (refine Below.alloc ?_ (by simp [mk_size] <;> omega) _) | (refine below_mk ?_ (by simp [mk_size] <;> omega) _ _) | (refine Below.trans ?_ (Below.mono (by assumption) (by simp <;> omega)))))⟩
          case measure => simp [intOf]
    · go_wp2
      go_loopw [46] (fun k wx => ∃ i : Int, 0 ≤ i ∧ i ≤ 3 ∧ k = .int .i64 i ∧ Below (((mk ((mk w o1 d1).alloc (.cells #[.int .i64 x0, .int .i64 x1, .int .i64 x2, .int .i64 x3, .int .i64 600, .int .i64 600] 43)) os d).alloc (.cells #[.int .i64 x2, .int .i64 x3] 43)).alloc (.cells #[.int .u32 drop, .int .u32 (drop / 2), .int .u32 0] 25)).heap.size (((mk ((mk w o1 d1).alloc (.cells #[.int .i64 x0, .int .i64 x1, .int .i64 x2, .int .i64 x3, .int .i64 600, .int .i64 600] 43)) os d).alloc (.cells #[.int .i64 x2, .int .i64 x3] 43)).alloc (.cells #[.int .u32 drop, .int .u32 (drop / 2), .int .u32 0] 25)) wx) (fun k _ => 3 - (intOf k).toNat)
      case atStart => exact ⟨0, by omega, by omega, rfl, Below.refl _ _⟩
      case round =>
        obtain ⟨i, hi0, hi, rfl, hb⟩ := hrel
        obtain ⟨ox, dx, rfl⟩ := made hb
        clear hb
        have hc : i = 0 ∨ i = 1 ∨ i = 2 ∨ i = 3 := by omega
        rcases hc with rfl | rfl | rfl | rfl
        · go_wp2
          go_region_held3 (fun w' => w'.cell? ⟨w.heap.size + o1.size + 1 + os.size, 0, none⟩ = some (.int .i64 x2) ∧ w'.cell? ⟨w.heap.size + o1.size + 1 + os.size, 1, none⟩ = some (.int .i64 x3)) (simp [go_sem]) (first | (go_at_call 26; (with_reducible refine Calls.mono (CM.out _ _ _ (by omega) (by omega) _) ?_); rintro e w1 ⟨p1, m1, rfl, hR1, hb⟩; have HR1 := Lib.hid hR1; clear hR1; obtain ⟨oA, dA, rfl⟩ := made hb; clear hb) | (go_at_call 27; (with_reducible refine Calls.mono (CN.out _ _ _ (by omega) (by omega) _) ?_); rintro e w1 ⟨p2, m2, rfl, hR2, hb⟩; have HR2 := Lib.hid hR2; clear hR2; obtain ⟨oB, dB, rfl⟩ := made hb; clear hb) | (go_at_call 25; (with_reducible refine Calls.mono (CT.out _ _ _ _ _ _ _ _ (HR1.out.below (by (repeat (first | exact Below.refl _ _ | (refine Below.drew ?_) | (refine Below.setCell ?_ (by simp [mk_size] <;> omega) _) | (refine Below.alloc ?_ (by simp [mk_size] <;> omega) _) | (refine below_mk ?_ (by simp [mk_size] <;> omega) _ _) | (refine Below.trans ?_ (Below.mono (by assumption) (by simp <;> omega))))))) HR2.out) ?_); rintro e w1 ⟨rfl, hb⟩; obtain ⟨oC, dC, rfl⟩ := made hb; clear hb))
          all_goals
            go_wp2
            go_roundw
            case rel => exact ⟨1, by omega, by omega, by first | rfl | go_num, by (repeat (first | exact Below.refl _ _ | (refine Below.drew ?_) | (refine Below.setCell ?_ (by simp [mk_size] <;> omega) _) | (refine Below.alloc ?_ (by simp [mk_size] <;> omega) _) | (refine below_mk ?_ (by simp [mk_size] <;> omega) _ _) | (refine Below.trans ?_ (Below.mono (by assumption) (by simp <;> omega)))))⟩
            case measure => simp [intOf]
        · go_wp2
          go_region_held3 (fun w' => w'.cell? ⟨w.heap.size + o1.size + 1 + os.size, 0, none⟩ = some (.int .i64 x2) ∧ w'.cell? ⟨w.heap.size + o1.size + 1 + os.size, 1, none⟩ = some (.int .i64 x3)) (simp [go_sem]) (first | (go_at_call 26; (with_reducible refine Calls.mono (CM.out _ _ _ (by omega) (by omega) _) ?_); rintro e w1 ⟨p1, m1, rfl, hR1, hb⟩; have HR1 := Lib.hid hR1; clear hR1; obtain ⟨oA, dA, rfl⟩ := made hb; clear hb) | (go_at_call 27; (with_reducible refine Calls.mono (CN.out _ _ _ (by omega) (by omega) _) ?_); rintro e w1 ⟨p2, m2, rfl, hR2, hb⟩; have HR2 := Lib.hid hR2; clear hR2; obtain ⟨oB, dB, rfl⟩ := made hb; clear hb) | (go_at_call 25; (with_reducible refine Calls.mono (CT.out _ _ _ _ _ _ _ _ (HR1.out.below (by (repeat (first | exact Below.refl _ _ | (refine Below.drew ?_) | (refine Below.setCell ?_ (by simp [mk_size] <;> omega) _) | (refine Below.alloc ?_ (by simp [mk_size] <;> omega) _) | (refine below_mk ?_ (by simp [mk_size] <;> omega) _ _) | (refine Below.trans ?_ (Below.mono (by assumption) (by simp <;> omega))))))) HR2.out) ?_); rintro e w1 ⟨rfl, hb⟩; obtain ⟨oC, dC, rfl⟩ := made hb; clear hb))
          all_goals
            go_wp2
            go_roundw
            case rel => exact ⟨2, by omega, by omega, by first | rfl | go_num, by (repeat (first | exact Below.refl _ _ | (refine Below.drew ?_) | (refine Below.setCell ?_ (by simp [mk_size] <;> omega) _) | (refine Below.alloc ?_ (by simp [mk_size] <;> omega) _) | (refine below_mk ?_ (by simp [mk_size] <;> omega) _ _) | (refine Below.trans ?_ (Below.mono (by assumption) (by simp <;> omega)))))⟩
            case measure => simp [intOf]
        · go_wp2
          go_region_held3 (fun w' => w'.cell? ⟨w.heap.size + o1.size + 1 + os.size, 0, none⟩ = some (.int .i64 x2) ∧ w'.cell? ⟨w.heap.size + o1.size + 1 + os.size, 1, none⟩ = some (.int .i64 x3)) (simp [go_sem]) (first | (go_at_call 26; (with_reducible refine Calls.mono (CM.out _ _ _ (by omega) (by omega) _) ?_); rintro e w1 ⟨p1, m1, rfl, hR1, hb⟩; have HR1 := Lib.hid hR1; clear hR1; obtain ⟨oA, dA, rfl⟩ := made hb; clear hb) | (go_at_call 27; (with_reducible refine Calls.mono (CN.out _ _ _ (by omega) (by omega) _) ?_); rintro e w1 ⟨p2, m2, rfl, hR2, hb⟩; have HR2 := Lib.hid hR2; clear hR2; obtain ⟨oB, dB, rfl⟩ := made hb; clear hb) | (go_at_call 25; (with_reducible refine Calls.mono (CT.out _ _ _ _ _ _ _ _ (HR1.out.below (by (repeat (first | exact Below.refl _ _ | (refine Below.drew ?_) | (refine Below.setCell ?_ (by simp [mk_size] <;> omega) _) | (refine Below.alloc ?_ (by simp [mk_size] <;> omega) _) | (refine below_mk ?_ (by simp [mk_size] <;> omega) _ _) | (refine Below.trans ?_ (Below.mono (by assumption) (by simp <;> omega))))))) HR2.out) ?_); rintro e w1 ⟨rfl, hb⟩; obtain ⟨oC, dC, rfl⟩ := made hb; clear hb))
          all_goals
            go_wp2
            go_roundw
            case rel => exact ⟨3, by omega, by omega, by first | rfl | go_num, by (repeat (first | exact Below.refl _ _ | (refine Below.drew ?_) | (refine Below.setCell ?_ (by simp [mk_size] <;> omega) _) | (refine Below.alloc ?_ (by simp [mk_size] <;> omega) _) | (refine below_mk ?_ (by simp [mk_size] <;> omega) _ _) | (refine Below.trans ?_ (Below.mono (by assumption) (by simp <;> omega)))))⟩
            case measure => simp [intOf]
        · go_wp2
          go_roundw
          case rel => exact ⟨2, by omega, by omega, by first | rfl | go_num, by (repeat (first | exact Below.refl _ _ | (refine Below.drew ?_) | (refine Below.setCell ?_ (by simp [mk_size] <;> omega) _) | (refine Below.alloc ?_ (by simp [mk_size] <;> omega) _) | (refine below_mk ?_ (by simp [mk_size] <;> omega) _ _) | (refine Below.trans ?_ (Below.mono (by assumption) (by simp <;> omega)))))⟩
          case measure => simp [intOf]
    · go_wp2
      go_loopw [46] (fun k wx => ∃ i : Int, 0 ≤ i ∧ i ≤ 3 ∧ k = .int .i64 i ∧ Below (((mk ((mk w o1 d1).alloc (.cells #[.int .i64 x0, .int .i64 x1, .int .i64 x2, .int .i64 x3, .int .i64 600, .int .i64 600] 43)) os d).alloc (.cells #[.int .i64 600, .int .i64 600] 43)).alloc (.cells #[.int .u32 drop, .int .u32 (drop / 2), .int .u32 0] 25)).heap.size (((mk ((mk w o1 d1).alloc (.cells #[.int .i64 x0, .int .i64 x1, .int .i64 x2, .int .i64 x3, .int .i64 600, .int .i64 600] 43)) os d).alloc (.cells #[.int .i64 600, .int .i64 600] 43)).alloc (.cells #[.int .u32 drop, .int .u32 (drop / 2), .int .u32 0] 25)) wx) (fun k _ => 3 - (intOf k).toNat)
      case atStart => exact ⟨0, by omega, by omega, rfl, Below.refl _ _⟩
      case round =>
        obtain ⟨i, hi0, hi, rfl, hb⟩ := hrel
        obtain ⟨ox, dx, rfl⟩ := made hb
        clear hb
        have hc : i = 0 ∨ i = 1 ∨ i = 2 ∨ i = 3 := by omega
        rcases hc with rfl | rfl | rfl | rfl
        · go_wp2
          go_region_held3 (fun w' => w'.cell? ⟨w.heap.size + o1.size + 1 + os.size, 0, none⟩ = some (.int .i64 600) ∧ w'.cell? ⟨w.heap.size + o1.size + 1 + os.size, 1, none⟩ = some (.int .i64 600)) (simp [go_sem]) (first | (go_at_call 26; (with_reducible refine Calls.mono (CM.out _ _ _ (by omega) (by omega) _) ?_); rintro e w1 ⟨p1, m1, rfl, hR1, hb⟩; have HR1 := Lib.hid hR1; clear hR1; obtain ⟨oA, dA, rfl⟩ := made hb; clear hb) | (go_at_call 27; (with_reducible refine Calls.mono (CN.out _ _ _ (by omega) (by omega) _) ?_); rintro e w1 ⟨p2, m2, rfl, hR2, hb⟩; have HR2 := Lib.hid hR2; clear hR2; obtain ⟨oB, dB, rfl⟩ := made hb; clear hb) | (go_at_call 25; (with_reducible refine Calls.mono (CT.out _ _ _ _ _ _ _ _ (HR1.out.below (by (repeat (first | exact Below.refl _ _ | (refine Below.drew ?_) | (refine Below.setCell ?_ (by simp [mk_size] <;> omega) _) | (refine Below.alloc ?_ (by simp [mk_size] <;> omega) _) | (refine below_mk ?_ (by simp [mk_size] <;> omega) _ _) | (refine Below.trans ?_ (Below.mono (by assumption) (by simp <;> omega))))))) HR2.out) ?_); rintro e w1 ⟨rfl, hb⟩; obtain ⟨oC, dC, rfl⟩ := made hb; clear hb))
          all_goals
            go_wp2
            go_roundw
            case rel => exact ⟨1, by omega, by omega, by first | rfl | go_num, by (repeat (first | exact Below.refl _ _ | (refine Below.drew ?_) | (refine Below.setCell ?_ (by simp [mk_size] <;> omega) _) | (refine Below.alloc ?_ (by simp [mk_size] <;> omega) _) | (refine below_mk ?_ (by simp [mk_size] <;> omega) _ _) | (refine Below.trans ?_ (Below.mono (by assumption) (by simp <;> omega)))))⟩
            case measure => simp [intOf]
        · go_wp2
          go_region_held3 (fun w' => w'.cell? ⟨w.heap.size + o1.size + 1 + os.size, 0, none⟩ = some (.int .i64 600) ∧ w'.cell? ⟨w.heap.size + o1.size + 1 + os.size, 1, none⟩ = some (.int .i64 600)) (simp [go_sem]) (first | (go_at_call 26; (with_reducible refine Calls.mono (CM.out _ _ _ (by omega) (by omega) _) ?_); rintro e w1 ⟨p1, m1, rfl, hR1, hb⟩; have HR1 := Lib.hid hR1; clear hR1; obtain ⟨oA, dA, rfl⟩ := made hb; clear hb) | (go_at_call 27; (with_reducible refine Calls.mono (CN.out _ _ _ (by omega) (by omega) _) ?_); rintro e w1 ⟨p2, m2, rfl, hR2, hb⟩; have HR2 := Lib.hid hR2; clear hR2; obtain ⟨oB, dB, rfl⟩ := made hb; clear hb) | (go_at_call 25; (with_reducible refine Calls.mono (CT.out _ _ _ _ _ _ _ _ (HR1.out.below (by (repeat (first | exact Below.refl _ _ | (refine Below.drew ?_) | (refine Below.setCell ?_ (by simp [mk_size] <;> omega) _) | (refine Below.alloc ?_ (by simp [mk_size] <;> omega) _) | (refine below_mk ?_ (by simp [mk_size] <;> omega) _ _) | (refine Below.trans ?_ (Below.mono (by assumption) (by simp <;> omega))))))) HR2.out) ?_); rintro e w1 ⟨rfl, hb⟩; obtain ⟨oC, dC, rfl⟩ := made hb; clear hb))
          all_goals
            go_wp2
            go_roundw
            case rel => exact ⟨2, by omega, by omega, by first | rfl | go_num, by (repeat (first | exact Below.refl _ _ | (refine Below.drew ?_) | (refine Below.setCell ?_ (by simp [mk_size] <;> omega) _) | (refine Below.alloc ?_ (by simp [mk_size] <;> omega) _) | (refine below_mk ?_ (by simp [mk_size] <;> omega) _ _) | (refine Below.trans ?_ (Below.mono (by assumption) (by simp <;> omega)))))⟩
            case measure => simp [intOf]
        · go_wp2
          go_region_held3 (fun w' => w'.cell? ⟨w.heap.size + o1.size + 1 + os.size, 0, none⟩ = some (.int .i64 600) ∧ w'.cell? ⟨w.heap.size + o1.size + 1 + os.size, 1, none⟩ = some (.int .i64 600)) (simp [go_sem]) (first | (go_at_call 26; (with_reducible refine Calls.mono (CM.out _ _ _ (by omega) (by omega) _) ?_); rintro e w1 ⟨p1, m1, rfl, hR1, hb⟩; have HR1 := Lib.hid hR1; clear hR1; obtain ⟨oA, dA, rfl⟩ := made hb; clear hb) | (go_at_call 27; (with_reducible refine Calls.mono (CN.out _ _ _ (by omega) (by omega) _) ?_); rintro e w1 ⟨p2, m2, rfl, hR2, hb⟩; have HR2 := Lib.hid hR2; clear hR2; obtain ⟨oB, dB, rfl⟩ := made hb; clear hb) | (go_at_call 25; (with_reducible refine Calls.mono (CT.out _ _ _ _ _ _ _ _ (HR1.out.below (by (repeat (first | exact Below.refl _ _ | (refine Below.drew ?_) | (refine Below.setCell ?_ (by simp [mk_size] <;> omega) _) | (refine Below.alloc ?_ (by simp [mk_size] <;> omega) _) | (refine below_mk ?_ (by simp [mk_size] <;> omega) _ _) | (refine Below.trans ?_ (Below.mono (by assumption) (by simp <;> omega))))))) HR2.out) ?_); rintro e w1 ⟨rfl, hb⟩; obtain ⟨oC, dC, rfl⟩ := made hb; clear hb))
          all_goals
            go_wp2
            go_roundw
            case rel => exact ⟨3, by omega, by omega, by first | rfl | go_num, by (repeat (first | exact Below.refl _ _ | (refine Below.drew ?_) | (refine Below.setCell ?_ (by simp [mk_size] <;> omega) _) | (refine Below.alloc ?_ (by simp [mk_size] <;> omega) _) | (refine below_mk ?_ (by simp [mk_size] <;> omega) _ _) | (refine Below.trans ?_ (Below.mono (by assumption) (by simp <;> omega)))))⟩
            case measure => simp [intOf]
        · go_wp2
          go_roundw
          case rel => exact ⟨3, by omega, by omega, by first | rfl | go_num, by (repeat (first | exact Below.refl _ _ | (refine Below.drew ?_) | (refine Below.setCell ?_ (by simp [mk_size] <;> omega) _) | (refine Below.alloc ?_ (by simp [mk_size] <;> omega) _) | (refine below_mk ?_ (by simp [mk_size] <;> omega) _ _) | (refine Below.trans ?_ (Below.mono (by assumption) (by simp <;> omega)))))⟩
          case measure => simp [intOf]
    · go_wp2
      go_ret
      exact ⟨rfl, by (repeat (first | exact Below.refl _ _ | (refine Below.drew ?_) | (refine Below.setCell ?_ (by simp [mk_size] <;> omega) _) | (refine Below.alloc ?_ (by simp [mk_size] <;> omega) _) | (refine below_mk ?_ (by simp [mk_size] <;> omega) _ _) | (refine Below.trans ?_ (Below.mono (by assumption) (by simp <;> omega)))))⟩
end Go.Proofs.YtkpfefpmdjjhjaaGreat
