-- Written by a program of this session (the kit's printer, changed; see wip/tools/mkprint.py). Lean checks it.
import Derived.Test.YtipdfajadehkmaaQVarintSizesx0
import Derived.Test.YtipdfajadehkmaaQVarintSizesx1
namespace Go.Proofs.Ytipdfajadehkmaa.QVarintSizes
open Go.RowKit Go.Proofs.YtipdfajadehkmaaW.PrintWords Go.Proofs.YtipdfajadehkmaaW.PrintLast Go.Proofs.YtipdfajadehkmaaW.PrintMore
attribute [local go_sem] max2_int min2_int max_two min_two max_three min_three max_four min_four   -- for this text's walks alone
set_option linter.unusedVariables false
set_option linter.unusedSimpArgs false

/-! ### gantrylaw01_VarintSizes: function 7 -/
mutual
def gantrylaw01_VarintSizes.j0 : Nat → Int → Int → Int → Option (Bool)
  | 0, _, _, _ => none
  | k + 1, x0, x1, x2 => (varint_Size_uint64.f k x0).bind fun t136 => ((varint_Size_uint64.f k x1).bind fun t137 => (if t136 > t137 then (gantrylaw01_VarintSizes.j1 k x0 x2 true) else (if t136 < 1 then (gantrylaw01_VarintSizes.j1 k x0 x2 true) else (if t136 > 10 then (gantrylaw01_VarintSizes.j1 k x0 x2 true) else (if t136 < 10 then (if 0 ≤ (wrap64 (7 * t136)) then (if (shr .u64 x0 (wrap64 (7 * t136))) = 0 then (if t136 > 1 then (if 0 ≤ (wrap64 (7 * (wrap64 (t136 - 1)))) then (gantrylaw01_VarintSizes.j1 k x0 x2 ((shr .u64 x0 (wrap64 (7 * (wrap64 (t136 - 1))))) == 0)) else (none)) else (gantrylaw01_VarintSizes.j1 k x0 x2 false)) else (gantrylaw01_VarintSizes.j1 k x0 x2 true)) else (none)) else (if t136 > 1 then (if 0 ≤ (wrap64 (7 * (wrap64 (t136 - 1)))) then (gantrylaw01_VarintSizes.j1 k x0 x2 ((shr .u64 x0 (wrap64 (7 * (wrap64 (t136 - 1))))) == 0)) else (none)) else (gantrylaw01_VarintSizes.j1 k x0 x2 false)))))))
def gantrylaw01_VarintSizes.j1 : Nat → Int → Int → Bool → Option (Bool)
  | 0, _, _, _ => none
  | k + 1, x0, x2, x52 => if x52 = true then (some false) else ((varint_Zigzag.f x2).bind fun t138 => ((varint_Unzigzag.f t138).bind fun t139 => (if t139 = x2 then ((varint_Unzigzag.f x0).bind fun t140 => ((varint_Zigzag.f t140).bind fun t141 => (if t141 = x0 then (if (((Int.tmod t138 2) == 1) != (decide (x2 < 0))) = true then (some false) else (if x2 ≥ 0 then (some true) else ((varint_Zigzag.f (wrap64 (-(wrap64 (x2 + 1))))).bind fun t142 => (some (t138 == (IntKind.u64.wrap (t142 + 1))))))) else (some false)))) else (some false))))
end
def gantrylaw01_VarintSizes.f (k : Nat) (a0 : Int) (a1 : Int) (a2 : Int) : Option (Bool) := (gantrylaw01_fixed.f k).bind fun t135 => (if t135 = true then (if a0 > a1 then (gantrylaw01_VarintSizes.j0 k a1 a0 a2) else (gantrylaw01_VarintSizes.j0 k a0 a1 a2)) else (some false))
theorem gantrylaw01_VarintSizes.mono_l : ∀ k, (∀ y0 y1 y2, LeO (gantrylaw01_VarintSizes.j0 k y0 y1 y2) (gantrylaw01_VarintSizes.j0 (k + 1) y0 y1 y2)) ∧ (∀ y0 y1 y2, LeO (gantrylaw01_VarintSizes.j1 k y0 y1 y2) (gantrylaw01_VarintSizes.j1 (k + 1) y0 y1 y2))
  | 0 => ⟨fun _ _ _ r h => by simp [gantrylaw01_VarintSizes.j0] at h, fun _ _ _ r h => by simp [gantrylaw01_VarintSizes.j1] at h⟩
  | k + 1 => by
    obtain ⟨ih0, ih1⟩ := gantrylaw01_VarintSizes.mono_l k
    refine ⟨?_, ?_⟩
    · intro y0 y1 y2
      unfold gantrylaw01_VarintSizes.j0
      repeat' first
      | (with_reducible exact ih0 _ _ _)
      | (with_reducible exact ih1 _ _ _)
      | (with_reducible exact gantrylaw01_fixed.mono _)
      | (with_reducible exact varint_Size_uint64.mono _ _)
      | (with_reducible exact LeO.refl _)
      | (with_reducible exact LeO.none _)
      | (with_reducible refine LeO.ite ?_ ?_)
      | (with_reducible refine LeO.bind ?_ (fun _ => ?_))
      | exact ih0 _ _ _
      | exact ih1 _ _ _
      | exact gantrylaw01_fixed.mono _
      | exact varint_Size_uint64.mono _ _
      | exact LeO.none _
      | refine LeO.ite ?_ ?_
      | refine LeO.bind ?_ (fun _ => ?_)
    · intro y0 y1 y2
      unfold gantrylaw01_VarintSizes.j1
      repeat' first
      | (with_reducible exact ih0 _ _ _)
      | (with_reducible exact ih1 _ _ _)
      | (with_reducible exact gantrylaw01_fixed.mono _)
      | (with_reducible exact varint_Size_uint64.mono _ _)
      | (with_reducible exact LeO.refl _)
      | (with_reducible exact LeO.none _)
      | (with_reducible refine LeO.ite ?_ ?_)
      | (with_reducible refine LeO.bind ?_ (fun _ => ?_))
      | exact ih0 _ _ _
      | exact ih1 _ _ _
      | exact gantrylaw01_fixed.mono _
      | exact varint_Size_uint64.mono _ _
      | exact LeO.none _
      | refine LeO.ite ?_ ?_
      | refine LeO.bind ?_ (fun _ => ?_)
theorem gantrylaw01_VarintSizes.mono : ∀ a0 a1 a2 k, LeO (gantrylaw01_VarintSizes.f k a0 a1 a2) (gantrylaw01_VarintSizes.f (k + 1) a0 a1 a2) := by
  intro a0 a1 a2 k
  obtain ⟨ih0, ih1⟩ := gantrylaw01_VarintSizes.mono_l k
  unfold gantrylaw01_VarintSizes.f
  repeat' first
      | (with_reducible exact ih0 _ _ _)
      | (with_reducible exact ih1 _ _ _)
      | (with_reducible exact gantrylaw01_fixed.mono _)
      | (with_reducible exact varint_Size_uint64.mono _ _)
      | (with_reducible exact LeO.refl _)
      | (with_reducible exact LeO.none _)
      | (with_reducible refine LeO.ite ?_ ?_)
      | (with_reducible refine LeO.bind ?_ (fun _ => ?_))
      | exact ih0 _ _ _
      | exact ih1 _ _ _
      | exact gantrylaw01_fixed.mono _
      | exact varint_Size_uint64.mono _ _
      | exact LeO.none _
      | refine LeO.ite ?_ ?_
      | refine LeO.bind ?_ (fun _ => ?_)
set_option maxHeartbeats 8000000 in
set_option maxRecDepth 100000 in
theorem gantrylaw01_VarintSizes.calls (k : Nat) (a0 : Int) (a1 : Int) (a2 : Int) (r : Bool) (w : World) (h : gantrylaw01_VarintSizes.f k a0 a1 a2 = some r) :
    Calls Try.prog 7 #[.int .u64 a0, .int .u64 a1, .int .i64 a2] w fun e w' => e = .returned (.bool r) ∧ Below w.heap.size w w' := by
  have HB := Aside0.mk (Below.refl w.heap.size w)
  have H : ((gantrylaw01_fixed.f k).bind fun t135 => (if t135 = true then (if a0 > a1 then (gantrylaw01_VarintSizes.j0 k a1 a0 a2) else (gantrylaw01_VarintSizes.j0 k a0 a1 a2)) else (some false))) = some r := h
  clear h
  replace H := Option.bind_eq_some_iff.mp H
  obtain ⟨t135, A40, H⟩ := H
  replace H : (if t135 = true then (if a0 > a1 then (gantrylaw01_VarintSizes.j0 k a1 a0 a2) else (gantrylaw01_VarintSizes.j0 k a0 a1 a2)) else (some false)) = some r := H
  have A4 := Aside0.mk A40
  clear A40
  by_cases c5 : t135 = true
  · subst c5
    have H1 : (if a0 > a1 then (gantrylaw01_VarintSizes.j0 k a1 a0 a2) else (gantrylaw01_VarintSizes.j0 k a0 a1 a2)) = some r := by rw [if_pos rfl] at H; exact H
    clear H
    have H := H1
    clear H1
    have HC6 := Aside0.mk H
    clear H
    go_enter Try.func7, Try.ntmps7
    go_upto_if 13 with (first | ((with_reducible refine gate_callee (f := 12) rfl ?_); refine goesL_ (some 9) rfl rfl Try.func12 (by kernel_rfl) rfl #[] rfl (by (try simp only [List.map_toArray, List.map_cons, List.map_nil]); first | done | rfl | (simp only [List.length_drop, List.length_take]; rfl)) ?_; (with_reducible refine (gantrylaw01_fixed.calls k  true _ A4.out).mono ?_); rintro e w7 ⟨rfl, hb⟩; refine ⟨_, rfl, ?_⟩; have n0_ := Aside0.mk (below_step (by repeat (first | (with_reducible first | exact HB.out | apply below_alloc | apply pw_below_drewN | apply below_drew1) | exact HB.out)) hb); clear HB; have HB := n0_; clear n0_; (try clear hb); (try clear hb2); (try clear hk); (try clear hi)))
    (try simp only [Act.put, List.setIfInBounds_toArray, List.set_cons_zero, List.set_cons_succ])
    go_cut [0, 1] (fun v0 v1 wc => ∃ (kq : Nat) (x0_5 : Int) (x1_5 : Int), v0 = .int .u64 x0_5 ∧ v1 = .int .u64 x1_5 ∧ Aside0 (gantrylaw01_VarintSizes.j0 kq x0_5 x1_5 a2 = some r) ∧ Aside0 (kq ≤ k) ∧ Aside0 (Below w.heap.size w wc))
    case first =>
      have H := HC6.out
      clear HC6
      by_cases c8 : a0 > a1
      · rw [if_pos c8] at H
        have c8b0 : decide (a1 < a0) = true := decide_eq_true c8
        clear c8
        (first | rw [c8b0] | (simp only [i64_w, i32_w]; rw [c8b0]) | skip)
        have H' := Aside0.mk H
        clear H
        go_wp2
        go_meet
        case rel => exact ⟨_, (a1), (a0), (by first | rfl | (simp; done) | (simp [*]; done)), (by first | rfl | (simp; done) | (simp [*]; done)), H', ⟨by first | omega | exact Nat.le_refl _⟩, ⟨by repeat (first | (with_reducible first | exact HB.out | apply below_alloc | apply pw_below_drewN | apply below_drew1) | exact HB.out)⟩⟩
      · rw [if_neg c8] at H
        have c8b0 : decide (a1 < a0) = false := decide_eq_false c8
        clear c8
        (first | rw [c8b0] | (simp only [i64_w, i32_w]; rw [c8b0]) | skip)
        have H' := Aside0.mk H
        clear H
        go_wp2
        go_meet
        case rel => exact ⟨_, (a0), (a1), (by first | rfl | (simp; done) | (simp [*]; done)), (by first | rfl | (simp; done) | (simp [*]; done)), H', ⟨by first | omega | exact Nat.le_refl _⟩, ⟨by repeat (first | (with_reducible first | exact HB.out | apply below_alloc | apply pw_below_drewN | apply below_drew1) | exact HB.out)⟩⟩
    case rest =>
      clear HC6
      try clear c1
      try clear p2
      try clear c5
      try clear c7
      try clear c8
      try clear c8b0
      obtain ⟨kq, x0_5, x1_5, rfl, rfl, HA, HJ5, HB⟩ := hcut
      cases kq with
      | zero => exact absurd HA.out (by simp [gantrylaw01_VarintSizes.j0])
      | succ kj5 =>
        have H := HA.out
        clear HA
        simp only [gantrylaw01_VarintSizes.j0] at H
        replace H := Option.bind_eq_some_iff.mp H
        obtain ⟨t136, A90, H⟩ := H
        replace H : ((varint_Size_uint64.f kj5 x1_5).bind fun t137 => (if t136 > t137 then (gantrylaw01_VarintSizes.j1 kj5 x0_5 a2 true) else (if t136 < 1 then (gantrylaw01_VarintSizes.j1 kj5 x0_5 a2 true) else (if t136 > 10 then (gantrylaw01_VarintSizes.j1 kj5 x0_5 a2 true) else (if t136 < 10 then (if 0 ≤ (wrap64 (7 * t136)) then (if (shr .u64 x0_5 (wrap64 (7 * t136))) = 0 then (if t136 > 1 then (if 0 ≤ (wrap64 (7 * (wrap64 (t136 - 1)))) then (gantrylaw01_VarintSizes.j1 kj5 x0_5 a2 ((shr .u64 x0_5 (wrap64 (7 * (wrap64 (t136 - 1))))) == 0)) else (none)) else (gantrylaw01_VarintSizes.j1 kj5 x0_5 a2 false)) else (gantrylaw01_VarintSizes.j1 kj5 x0_5 a2 true)) else (none)) else (if t136 > 1 then (if 0 ≤ (wrap64 (7 * (wrap64 (t136 - 1)))) then (gantrylaw01_VarintSizes.j1 kj5 x0_5 a2 ((shr .u64 x0_5 (wrap64 (7 * (wrap64 (t136 - 1))))) == 0)) else (none)) else (gantrylaw01_VarintSizes.j1 kj5 x0_5 a2 false))))))) = some r := H
        have A9 := Aside0.mk A90
        clear A90
        have HC10 := Aside0.mk H
        clear H
        go_upto_region 6 with (first | ((with_reducible refine gate_callee (f := 15) rfl ?_); refine goesL_ (some 17) rfl rfl Try.func15 (by kernel_rfl) rfl #[.int .u64 x0_5] rfl (by (try simp only [List.map_toArray, List.map_cons, List.map_nil]); first | done | rfl | (simp only [List.length_drop, List.length_take]; rfl)) ?_; (with_reducible refine (varint_Size_uint64.calls kj5 x0_5 t136 _ A9.out).mono ?_); rintro e w' ⟨rfl, ⟨nd, rfl⟩⟩; refine ⟨_, rfl, ?_⟩))
        (try simp only [Act.put, List.setIfInBounds_toArray, List.set_cons_zero, List.set_cons_succ])
        go_cut [52] (fun v52 wc => ∃ (kq : Nat) (x52_9 : Bool), v52 = .bool x52_9 ∧ Aside0 (gantrylaw01_VarintSizes.j1 kq x0_5 a2 x52_9 = some r) ∧ Aside0 (kq ≤ kj5) ∧ Aside0 (Below w.heap.size w wc))
        case first =>
          have H := HC10.out
          clear HC10
          replace H := Option.bind_eq_some_iff.mp H
          obtain ⟨t137, A110, H⟩ := H
          replace H : (if t136 > t137 then (gantrylaw01_VarintSizes.j1 kj5 x0_5 a2 true) else (if t136 < 1 then (gantrylaw01_VarintSizes.j1 kj5 x0_5 a2 true) else (if t136 > 10 then (gantrylaw01_VarintSizes.j1 kj5 x0_5 a2 true) else (if t136 < 10 then (if 0 ≤ (wrap64 (7 * t136)) then (if (shr .u64 x0_5 (wrap64 (7 * t136))) = 0 then (if t136 > 1 then (if 0 ≤ (wrap64 (7 * (wrap64 (t136 - 1)))) then (gantrylaw01_VarintSizes.j1 kj5 x0_5 a2 ((shr .u64 x0_5 (wrap64 (7 * (wrap64 (t136 - 1))))) == 0)) else (none)) else (gantrylaw01_VarintSizes.j1 kj5 x0_5 a2 false)) else (gantrylaw01_VarintSizes.j1 kj5 x0_5 a2 true)) else (none)) else (if t136 > 1 then (if 0 ≤ (wrap64 (7 * (wrap64 (t136 - 1)))) then (gantrylaw01_VarintSizes.j1 kj5 x0_5 a2 ((shr .u64 x0_5 (wrap64 (7 * (wrap64 (t136 - 1))))) == 0)) else (none)) else (gantrylaw01_VarintSizes.j1 kj5 x0_5 a2 false)))))) = some r := H
          have A11 := Aside0.mk A110
          clear A110
          by_cases c12 : t136 > t137
          · rw [if_pos c12] at H
            have c12b0 : decide (t137 < t136) = true := decide_eq_true c12
            clear c12
            (first | rw [c12b0] | (simp only [i64_w, i32_w]; rw [c12b0]) | skip)
            have H' := Aside0.mk H
            clear H
            go_wp2_with (first | ((with_reducible refine gate_callee (f := 15) rfl ?_); refine goesL_ (some 20) rfl rfl Try.func15 (by kernel_rfl) rfl #[.int .u64 x1_5] rfl (by (try simp only [List.map_toArray, List.map_cons, List.map_nil]); first | done | rfl | (simp only [List.length_drop, List.length_take]; rfl)) ?_; (with_reducible refine (varint_Size_uint64.calls kj5 x1_5 t137 _ A11.out).mono ?_); rintro e w' ⟨rfl, ⟨nd, rfl⟩⟩; refine ⟨_, rfl, ?_⟩))
            go_meet
            case rel => exact ⟨_, (true), (by first | rfl | (simp; done) | (simp [*]; done)), H', ⟨by have := HJ5.out; first | omega | exact Nat.le_refl _⟩, ⟨by repeat (first | (with_reducible first | exact HB.out | apply below_alloc | apply pw_below_drewN | apply below_drew1) | exact HB.out)⟩⟩
          · rw [if_neg c12] at H
            have c12b0 : decide (t137 < t136) = false := decide_eq_false c12
            clear c12
            (first | rw [c12b0] | (simp only [i64_w, i32_w]; rw [c12b0]) | skip)
            by_cases c13 : t136 < 1
            · rw [if_pos c13] at H
              have c13b0 : decide (t136 < 1) = true := decide_eq_true c13
              clear c13
              have H' := Aside0.mk H
              clear H
              go_wp2_with (first | ((with_reducible refine gate_callee (f := 15) rfl ?_); refine goesL_ (some 20) rfl rfl Try.func15 (by kernel_rfl) rfl #[.int .u64 x1_5] rfl (by (try simp only [List.map_toArray, List.map_cons, List.map_nil]); first | done | rfl | (simp only [List.length_drop, List.length_take]; rfl)) ?_; (with_reducible refine (varint_Size_uint64.calls kj5 x1_5 t137 _ A11.out).mono ?_); rintro e w' ⟨rfl, ⟨nd, rfl⟩⟩; refine ⟨_, rfl, ?_⟩))
              go_meet
              case rel => exact ⟨_, (true), (by first | rfl | (simp; done) | (simp [*]; done)), H', ⟨by have := HJ5.out; first | omega | exact Nat.le_refl _⟩, ⟨by repeat (first | (with_reducible first | exact HB.out | apply below_alloc | apply pw_below_drewN | apply below_drew1) | exact HB.out)⟩⟩
            · rw [if_neg c13] at H
              have c13b0 : decide (t136 < 1) = false := decide_eq_false c13
              clear c13
              by_cases c14 : t136 > 10
              · rw [if_pos c14] at H
                have c14b0 : decide (10 < t136) = true := decide_eq_true c14
                clear c14
                have H' := Aside0.mk H
                clear H
                go_wp2_with (first | ((with_reducible refine gate_callee (f := 15) rfl ?_); refine goesL_ (some 20) rfl rfl Try.func15 (by kernel_rfl) rfl #[.int .u64 x1_5] rfl (by (try simp only [List.map_toArray, List.map_cons, List.map_nil]); first | done | rfl | (simp only [List.length_drop, List.length_take]; rfl)) ?_; (with_reducible refine (varint_Size_uint64.calls kj5 x1_5 t137 _ A11.out).mono ?_); rintro e w' ⟨rfl, ⟨nd, rfl⟩⟩; refine ⟨_, rfl, ?_⟩))
                go_meet
                case rel => exact ⟨_, (true), (by first | rfl | (simp; done) | (simp [*]; done)), H', ⟨by have := HJ5.out; first | omega | exact Nat.le_refl _⟩, ⟨by repeat (first | (with_reducible first | exact HB.out | apply below_alloc | apply pw_below_drewN | apply below_drew1) | exact HB.out)⟩⟩
              · rw [if_neg c14] at H
                have c14b0 : decide (10 < t136) = false := decide_eq_false c14
                clear c14
                by_cases c15 : t136 < 10
                · rw [if_pos c15] at H
                  have c15b0 : decide (t136 < 10) = true := decide_eq_true c15
                  clear c15
                  obtain ⟨ji16, hji16⟩ : ∃ j_ : Int, (wrap64 (7 * t136)) = j_ := ⟨_, rfl⟩
                  replace H : (if 0 ≤ (ji16) then (if (shr .u64 x0_5 (ji16)) = 0 then (if t136 > 1 then (if 0 ≤ (wrap64 (7 * (wrap64 (t136 - 1)))) then (gantrylaw01_VarintSizes.j1 kj5 x0_5 a2 ((shr .u64 x0_5 (wrap64 (7 * (wrap64 (t136 - 1))))) == 0)) else (none)) else (gantrylaw01_VarintSizes.j1 kj5 x0_5 a2 false)) else (gantrylaw01_VarintSizes.j1 kj5 x0_5 a2 true)) else (none)) = some r := by first | (rw [hji16] at H; exact H) | (simp only [hji16] at H ⊢; exact H)
                  (try rw [hji16] at A11)
                  have hji16w : (IntKind.i64.wrap (7 * t136)) = ji16 := (i64_w _).trans hji16
                  by_cases c17 : 0 ≤ (ji16)
                  · rw [if_pos c17] at H
                    have c17b0 := eq_true c17
                    have c17b1 : decide (0 ≤ (ji16)) = true := decide_eq_true c17
                    clear c17
                    obtain ⟨ji18, hji18⟩ : ∃ j_ : Int, (shr .u64 x0_5 (ji16)) = j_ := ⟨_, rfl⟩
                    replace H : (if (ji18) = 0 then (if t136 > 1 then (if 0 ≤ (wrap64 (7 * (wrap64 (t136 - 1)))) then (gantrylaw01_VarintSizes.j1 kj5 x0_5 a2 ((shr .u64 x0_5 (wrap64 (7 * (wrap64 (t136 - 1))))) == 0)) else (none)) else (gantrylaw01_VarintSizes.j1 kj5 x0_5 a2 false)) else (gantrylaw01_VarintSizes.j1 kj5 x0_5 a2 true)) = some r := by first | (rw [hji18] at H; exact H) | (simp only [hji18] at H ⊢; exact H)
                    (try rw [hji18] at A11)
                    have hji18_ : (x0_5 / 2 ^ min (ji16).toNat 64) = ji18 := hji18
                    have hji18z : (ji16) ≤ 64 → (x0_5 / 2 ^ (ji16).toNat) = ji18 := shr_small hji18
                    by_cases c19 : (ji18) = 0
                    · rw [if_pos c19] at H
                      have c19b0 : ((ji18) == 0) = true := beq_iff_eq.mpr c19
                      have c19b1 : ((ji18) != 0) = false := bne_eq_false_iff_eq.mpr c19
                      clear c19
                      by_cases c20 : t136 > 1
                      · rw [if_pos c20] at H
                        have c20b0 : decide (1 < t136) = true := decide_eq_true c20
                        clear c20
                        obtain ⟨ji21, hji21⟩ : ∃ j_ : Int, (wrap64 (7 * (wrap64 (t136 - 1)))) = j_ := ⟨_, rfl⟩
                        replace H : (if 0 ≤ (ji21) then (gantrylaw01_VarintSizes.j1 kj5 x0_5 a2 ((shr .u64 x0_5 (ji21)) == 0)) else (none)) = some r := by first | (rw [hji21] at H; exact H) | (simp only [hji21] at H ⊢; exact H)
                        (try rw [hji21] at A11)
                        have hji21w : (IntKind.i64.wrap (7 * (wrap64 (t136 - 1)))) = ji21 := (i64_w _).trans hji21
                        by_cases c22 : 0 ≤ (ji21)
                        · rw [if_pos c22] at H
                          have c22b0 := eq_true c22
                          have c22b1 : decide (0 ≤ (ji21)) = true := decide_eq_true c22
                          clear c22
                          obtain ⟨ji23, hji23⟩ : ∃ j_ : Int, (shr .u64 x0_5 (ji21)) = j_ := ⟨_, rfl⟩
                          replace H : (gantrylaw01_VarintSizes.j1 kj5 x0_5 a2 ((ji23) == 0)) = some r := by first | (rw [hji23] at H; exact H) | (simp only [hji23] at H ⊢; exact H)
                          (try rw [hji23] at A11)
                          have hji23_ : (x0_5 / 2 ^ min (ji21).toNat 64) = ji23 := hji23
                          have hji23z : (ji21) ≤ 64 → (x0_5 / 2 ^ (ji21).toNat) = ji23 := shr_small hji23
                          have H' := Aside0.mk H
                          clear H
                          go_wp2_with (first | ((with_reducible refine gate_callee (f := 15) rfl ?_); refine goesL_ (some 20) rfl rfl Try.func15 (by kernel_rfl) rfl #[.int .u64 x1_5] rfl (by (try simp only [List.map_toArray, List.map_cons, List.map_nil]); first | done | rfl | (simp only [List.length_drop, List.length_take]; rfl)) ?_; (with_reducible refine (varint_Size_uint64.calls kj5 x1_5 t137 _ A11.out).mono ?_); rintro e w' ⟨rfl, ⟨nd, rfl⟩⟩; refine ⟨_, rfl, ?_⟩))
                          go_meet
                          case rel => exact ⟨_, (((ji23) == 0)), (by first | rfl | (simp; done) | (simp only [← hji23] <;> (first | rfl | simp)) | (simp [*]; done)), H', ⟨by have := HJ5.out; first | omega | exact Nat.le_refl _⟩, ⟨by repeat (first | (with_reducible first | exact HB.out | apply below_alloc | apply pw_below_drewN | apply below_drew1) | exact HB.out)⟩⟩
                        · rw [if_neg c22] at H
                          exact absurd H (by simp)
                      · rw [if_neg c20] at H
                        have c20b0 : decide (1 < t136) = false := decide_eq_false c20
                        clear c20
                        have H' := Aside0.mk H
                        clear H
                        go_wp2_with (first | ((with_reducible refine gate_callee (f := 15) rfl ?_); refine goesL_ (some 20) rfl rfl Try.func15 (by kernel_rfl) rfl #[.int .u64 x1_5] rfl (by (try simp only [List.map_toArray, List.map_cons, List.map_nil]); first | done | rfl | (simp only [List.length_drop, List.length_take]; rfl)) ?_; (with_reducible refine (varint_Size_uint64.calls kj5 x1_5 t137 _ A11.out).mono ?_); rintro e w' ⟨rfl, ⟨nd, rfl⟩⟩; refine ⟨_, rfl, ?_⟩))
                        go_meet
                        case rel => exact ⟨_, (false), (by first | rfl | (simp; done) | (simp [*]; done)), H', ⟨by have := HJ5.out; first | omega | exact Nat.le_refl _⟩, ⟨by repeat (first | (with_reducible first | exact HB.out | apply below_alloc | apply pw_below_drewN | apply below_drew1) | exact HB.out)⟩⟩
                    · rw [if_neg c19] at H
                      have c19b0 : ((ji18) == 0) = false := beq_eq_false_iff_ne.mpr c19
                      have c19b1 : ((ji18) != 0) = true := bne_iff_ne.mpr c19
                      have H' := Aside0.mk H
                      clear H
                      go_wp2_with (first | ((with_reducible refine gate_callee (f := 15) rfl ?_); refine goesL_ (some 20) rfl rfl Try.func15 (by kernel_rfl) rfl #[.int .u64 x1_5] rfl (by (try simp only [List.map_toArray, List.map_cons, List.map_nil]); first | done | rfl | (simp only [List.length_drop, List.length_take]; rfl)) ?_; (with_reducible refine (varint_Size_uint64.calls kj5 x1_5 t137 _ A11.out).mono ?_); rintro e w' ⟨rfl, ⟨nd, rfl⟩⟩; refine ⟨_, rfl, ?_⟩))
                      go_meet
                      case rel => exact ⟨_, (true), (by first | rfl | (simp; done) | (simp [*]; done)), H', ⟨by have := HJ5.out; first | omega | exact Nat.le_refl _⟩, ⟨by repeat (first | (with_reducible first | exact HB.out | apply below_alloc | apply pw_below_drewN | apply below_drew1) | exact HB.out)⟩⟩
                  · rw [if_neg c17] at H
                    exact absurd H (by simp)
                · rw [if_neg c15] at H
                  have c15b0 : decide (t136 < 10) = false := decide_eq_false c15
                  clear c15
                  by_cases c24 : t136 > 1
                  · rw [if_pos c24] at H
                    have c24b0 : decide (1 < t136) = true := decide_eq_true c24
                    clear c24
                    obtain ⟨ji25, hji25⟩ : ∃ j_ : Int, (wrap64 (7 * (wrap64 (t136 - 1)))) = j_ := ⟨_, rfl⟩
                    replace H : (if 0 ≤ (ji25) then (gantrylaw01_VarintSizes.j1 kj5 x0_5 a2 ((shr .u64 x0_5 (ji25)) == 0)) else (none)) = some r := by first | (rw [hji25] at H; exact H) | (simp only [hji25] at H ⊢; exact H)
                    (try rw [hji25] at A11)
                    have hji25w : (IntKind.i64.wrap (7 * (wrap64 (t136 - 1)))) = ji25 := (i64_w _).trans hji25
                    by_cases c26 : 0 ≤ (ji25)
                    · rw [if_pos c26] at H
                      have c26b0 := eq_true c26
                      have c26b1 : decide (0 ≤ (ji25)) = true := decide_eq_true c26
                      clear c26
                      obtain ⟨ji27, hji27⟩ : ∃ j_ : Int, (shr .u64 x0_5 (ji25)) = j_ := ⟨_, rfl⟩
                      replace H : (gantrylaw01_VarintSizes.j1 kj5 x0_5 a2 ((ji27) == 0)) = some r := by first | (rw [hji27] at H; exact H) | (simp only [hji27] at H ⊢; exact H)
                      (try rw [hji27] at A11)
                      have hji27_ : (x0_5 / 2 ^ min (ji25).toNat 64) = ji27 := hji27
                      have hji27z : (ji25) ≤ 64 → (x0_5 / 2 ^ (ji25).toNat) = ji27 := shr_small hji27
                      have H' := Aside0.mk H
                      clear H
                      go_wp2_with (first | ((with_reducible refine gate_callee (f := 15) rfl ?_); refine goesL_ (some 20) rfl rfl Try.func15 (by kernel_rfl) rfl #[.int .u64 x1_5] rfl (by (try simp only [List.map_toArray, List.map_cons, List.map_nil]); first | done | rfl | (simp only [List.length_drop, List.length_take]; rfl)) ?_; (with_reducible refine (varint_Size_uint64.calls kj5 x1_5 t137 _ A11.out).mono ?_); rintro e w' ⟨rfl, ⟨nd, rfl⟩⟩; refine ⟨_, rfl, ?_⟩))
                      go_meet
                      case rel => exact ⟨_, (((ji27) == 0)), (by first | rfl | (simp; done) | (simp only [← hji27] <;> (first | rfl | simp)) | (simp [*]; done)), H', ⟨by have := HJ5.out; first | omega | exact Nat.le_refl _⟩, ⟨by repeat (first | (with_reducible first | exact HB.out | apply below_alloc | apply pw_below_drewN | apply below_drew1) | exact HB.out)⟩⟩
                    · rw [if_neg c26] at H
                      exact absurd H (by simp)
                  · rw [if_neg c24] at H
                    have c24b0 : decide (1 < t136) = false := decide_eq_false c24
                    clear c24
                    have H' := Aside0.mk H
                    clear H
                    go_wp2_with (first | ((with_reducible refine gate_callee (f := 15) rfl ?_); refine goesL_ (some 20) rfl rfl Try.func15 (by kernel_rfl) rfl #[.int .u64 x1_5] rfl (by (try simp only [List.map_toArray, List.map_cons, List.map_nil]); first | done | rfl | (simp only [List.length_drop, List.length_take]; rfl)) ?_; (with_reducible refine (varint_Size_uint64.calls kj5 x1_5 t137 _ A11.out).mono ?_); rintro e w' ⟨rfl, ⟨nd, rfl⟩⟩; refine ⟨_, rfl, ?_⟩))
                    go_meet
                    case rel => exact ⟨_, (false), (by first | rfl | (simp; done) | (simp [*]; done)), H', ⟨by have := HJ5.out; first | omega | exact Nat.le_refl _⟩, ⟨by repeat (first | (with_reducible first | exact HB.out | apply below_alloc | apply pw_below_drewN | apply below_drew1) | exact HB.out)⟩⟩
        case rest =>
          clear HC10
          try clear c1
          try clear c2
          try clear p2
          try clear c5
          try clear p6
          try clear c7
          try clear c8
          try clear c8b0
          try clear c12
          try clear c12b0
          try clear c13
          try clear c13b0
          try clear c14
          try clear c14b0
          try clear c15
          try clear c15b0
          try clear c17
          try clear c17b0
          try clear c17b1
          try clear c19
          try clear c19b0
          try clear c19b1
          try clear c20
          try clear c20b0
          try clear c22
          try clear c22b0
          try clear c22b1
          try clear c24
          try clear c24b0
          try clear c26
          try clear c26b0
          try clear c26b1
          try clear p2
          obtain ⟨kq, x52_9, rfl, HA, HJ9, HB⟩ := hcut
          cases kq with
          | zero => exact absurd HA.out (by simp [gantrylaw01_VarintSizes.j1])
          | succ kj9 =>
            have H := HA.out
            clear HA
            simp only [gantrylaw01_VarintSizes.j1] at H
            by_cases c28 : x52_9 = true
            · subst c28
              have H1 : (some false) = some r := by rw [if_pos rfl] at H; exact H
              clear H
              have H := H1
              clear H1
              obtain rfl := Option.some.inj H
              go_wp2
              go_ret
              exact ⟨by first | rfl | (simp [errW_none, errW_some] <;> rfl) | (simp [*, errW_none, errW_some] <;> rfl), by repeat (first | (with_reducible first | exact HB.out | apply below_alloc | apply pw_below_drewN | apply below_drew1) | exact HB.out)⟩
            · replace c28 := Bool.eq_false_iff.mpr c28
              subst c28
              have H1 : ((varint_Zigzag.f a2).bind fun t138 => ((varint_Unzigzag.f t138).bind fun t139 => (if t139 = a2 then ((varint_Unzigzag.f x0_5).bind fun t140 => ((varint_Zigzag.f t140).bind fun t141 => (if t141 = x0_5 then (if (((Int.tmod t138 2) == 1) != (decide (a2 < 0))) = true then (some false) else (if a2 ≥ 0 then (some true) else ((varint_Zigzag.f (wrap64 (-(wrap64 (a2 + 1))))).bind fun t142 => (some (t138 == (IntKind.u64.wrap (t142 + 1))))))) else (some false)))) else (some false)))) = some r := by rw [if_neg (show ¬ (false = true) by decide)] at H; exact H
              clear H
              have H := H1
              clear H1
              replace H := Option.bind_eq_some_iff.mp H
              obtain ⟨t138, A290, H⟩ := H
              replace H : ((varint_Unzigzag.f t138).bind fun t139 => (if t139 = a2 then ((varint_Unzigzag.f x0_5).bind fun t140 => ((varint_Zigzag.f t140).bind fun t141 => (if t141 = x0_5 then (if (((Int.tmod t138 2) == 1) != (decide (a2 < 0))) = true then (some false) else (if a2 ≥ 0 then (some true) else ((varint_Zigzag.f (wrap64 (-(wrap64 (a2 + 1))))).bind fun t142 => (some (t138 == (IntKind.u64.wrap (t142 + 1))))))) else (some false)))) else (some false))) = some r := H
              have A29 := Aside0.mk A290
              clear A290
              replace H := Option.bind_eq_some_iff.mp H
              obtain ⟨t139, A300, H⟩ := H
              replace H : (if t139 = a2 then ((varint_Unzigzag.f x0_5).bind fun t140 => ((varint_Zigzag.f t140).bind fun t141 => (if t141 = x0_5 then (if (((Int.tmod t138 2) == 1) != (decide (a2 < 0))) = true then (some false) else (if a2 ≥ 0 then (some true) else ((varint_Zigzag.f (wrap64 (-(wrap64 (a2 + 1))))).bind fun t142 => (some (t138 == (IntKind.u64.wrap (t142 + 1))))))) else (some false)))) else (some false)) = some r := H
              have A30 := Aside0.mk A300
              clear A300
              by_cases c31 : t139 = a2
              · rw [if_pos c31] at H
                have c31b0 : (t139 == a2) = true := beq_iff_eq.mpr c31
                have c31b1 : (t139 != a2) = false := bne_eq_false_iff_eq.mpr c31
                clear c31
                replace H := Option.bind_eq_some_iff.mp H
                obtain ⟨t140, A320, H⟩ := H
                replace H : ((varint_Zigzag.f t140).bind fun t141 => (if t141 = x0_5 then (if (((Int.tmod t138 2) == 1) != (decide (a2 < 0))) = true then (some false) else (if a2 ≥ 0 then (some true) else ((varint_Zigzag.f (wrap64 (-(wrap64 (a2 + 1))))).bind fun t142 => (some (t138 == (IntKind.u64.wrap (t142 + 1))))))) else (some false))) = some r := H
                have A32 := Aside0.mk A320
                clear A320
                replace H := Option.bind_eq_some_iff.mp H
                obtain ⟨t141, A330, H⟩ := H
                replace H : (if t141 = x0_5 then (if (((Int.tmod t138 2) == 1) != (decide (a2 < 0))) = true then (some false) else (if a2 ≥ 0 then (some true) else ((varint_Zigzag.f (wrap64 (-(wrap64 (a2 + 1))))).bind fun t142 => (some (t138 == (IntKind.u64.wrap (t142 + 1))))))) else (some false)) = some r := H
                have A33 := Aside0.mk A330
                clear A330
                by_cases c34 : t141 = x0_5
                · rw [if_pos c34] at H
                  have c34b0 : (t141 == x0_5) = true := beq_iff_eq.mpr c34
                  have c34b1 : (t141 != x0_5) = false := bne_eq_false_iff_eq.mpr c34
                  clear c34
                  by_cases c35 : (((Int.tmod t138 2) == 1) != (decide (a2 < 0))) = true
                  · rw [if_pos c35] at H
                    have c35b0 : (((Int.tmod t138 2) == 1) != (decide (a2 < 0))) = true := c35
                    (try (have c35b1 : decide (((Int.tmod t138 2) == 1) = (decide (a2 < 0))) = false := by simpa using c35))
                    (try (have c35b2 : (((Int.tmod t138 2) == 1) == (decide (a2 < 0))) = false := by simpa using c35))
                    (try (have c35b3 : ¬ (((Int.tmod t138 2) == 1) = (decide (a2 < 0))) := by simpa using c35))
                    clear c35
                    obtain rfl := Option.some.inj H
                    go_wp2_with (first | ((with_reducible refine gate_callee (f := 16) rfl ?_); refine goesL_ (some 54) rfl rfl Try.func16 (by kernel_rfl) rfl #[.int .i64 a2] rfl (by (try simp only [List.map_toArray, List.map_cons, List.map_nil]); first | done | rfl | (simp only [List.length_drop, List.length_take]; rfl)) ?_; (with_reducible refine (varint_Zigzag.calls a2 t138 _ A29.out).mono ?_); rintro e w' ⟨rfl, ⟨nd, rfl⟩⟩; refine ⟨_, rfl, ?_⟩) | ((with_reducible refine gate_callee (f := 17) rfl ?_); refine goesL_ (some 56) rfl rfl Try.func17 (by kernel_rfl) rfl #[.int .u64 t138] rfl (by (try simp only [List.map_toArray, List.map_cons, List.map_nil]); first | done | rfl | (simp only [List.length_drop, List.length_take]; rfl)) ?_; (with_reducible refine (varint_Unzigzag.calls t138 t139 _ A30.out).mono ?_); rintro e w' ⟨rfl, ⟨nd, rfl⟩⟩; refine ⟨_, rfl, ?_⟩) | (go_at_call 17; (with_reducible refine (varint_Unzigzag.calls x0_5 t140 _ A32.out).mono ?_); rintro e w' ⟨rfl, ⟨nd, rfl⟩⟩) | (go_at_call 16; (with_reducible refine (varint_Zigzag.calls t140 t141 _ A33.out).mono ?_); rintro e w' ⟨rfl, ⟨nd, rfl⟩⟩))
                    go_ret
                    exact ⟨by first | rfl | (simp [errW_none, errW_some] <;> rfl) | (simp [*, errW_none, errW_some] <;> rfl), by repeat (first | (with_reducible first | exact HB.out | apply below_alloc | apply pw_below_drewN | apply below_drew1) | exact HB.out)⟩
                  · rw [if_neg c35] at H
                    have c35b0 : (((Int.tmod t138 2) == 1) != (decide (a2 < 0))) = false := by simpa using c35
                    (try (have c35b1 : decide (((Int.tmod t138 2) == 1) = (decide (a2 < 0))) = true := by simpa using c35))
                    (try (have c35b2 : (((Int.tmod t138 2) == 1) == (decide (a2 < 0))) = true := by simpa using c35))
                    clear c35
                    by_cases c36 : a2 ≥ 0
                    · rw [if_pos c36] at H
                      have c36b0 : decide (0 ≤ a2) = true := decide_eq_true c36
                      clear c36
                      obtain rfl := Option.some.inj H
                      go_wp2_with (first | ((with_reducible refine gate_callee (f := 16) rfl ?_); refine goesL_ (some 54) rfl rfl Try.func16 (by kernel_rfl) rfl #[.int .i64 a2] rfl (by (try simp only [List.map_toArray, List.map_cons, List.map_nil]); first | done | rfl | (simp only [List.length_drop, List.length_take]; rfl)) ?_; (with_reducible refine (varint_Zigzag.calls a2 t138 _ A29.out).mono ?_); rintro e w' ⟨rfl, ⟨nd, rfl⟩⟩; refine ⟨_, rfl, ?_⟩) | ((with_reducible refine gate_callee (f := 17) rfl ?_); refine goesL_ (some 56) rfl rfl Try.func17 (by kernel_rfl) rfl #[.int .u64 t138] rfl (by (try simp only [List.map_toArray, List.map_cons, List.map_nil]); first | done | rfl | (simp only [List.length_drop, List.length_take]; rfl)) ?_; (with_reducible refine (varint_Unzigzag.calls t138 t139 _ A30.out).mono ?_); rintro e w' ⟨rfl, ⟨nd, rfl⟩⟩; refine ⟨_, rfl, ?_⟩) | (go_at_call 17; (with_reducible refine (varint_Unzigzag.calls x0_5 t140 _ A32.out).mono ?_); rintro e w' ⟨rfl, ⟨nd, rfl⟩⟩) | (go_at_call 16; (with_reducible refine (varint_Zigzag.calls t140 t141 _ A33.out).mono ?_); rintro e w' ⟨rfl, ⟨nd, rfl⟩⟩))
                      go_ret
                      exact ⟨by first | rfl | (simp [errW_none, errW_some] <;> rfl) | (simp [*, errW_none, errW_some] <;> rfl), by repeat (first | (with_reducible first | exact HB.out | apply below_alloc | apply pw_below_drewN | apply below_drew1) | exact HB.out)⟩
                    · rw [if_neg c36] at H
                      have c36b0 : decide (0 ≤ a2) = false := decide_eq_false c36
                      clear c36
                      replace H := Option.bind_eq_some_iff.mp H
                      obtain ⟨t142, A370, H⟩ := H
                      replace H : (some (t138 == (IntKind.u64.wrap (t142 + 1)))) = some r := H
                      have A37 := Aside0.mk A370
                      clear A370
                      obtain rfl := Option.some.inj H
                      go_wp2_with (first | ((with_reducible refine gate_callee (f := 16) rfl ?_); refine goesL_ (some 54) rfl rfl Try.func16 (by kernel_rfl) rfl #[.int .i64 a2] rfl (by (try simp only [List.map_toArray, List.map_cons, List.map_nil]); first | done | rfl | (simp only [List.length_drop, List.length_take]; rfl)) ?_; (with_reducible refine (varint_Zigzag.calls a2 t138 _ A29.out).mono ?_); rintro e w' ⟨rfl, ⟨nd, rfl⟩⟩; refine ⟨_, rfl, ?_⟩) | ((with_reducible refine gate_callee (f := 17) rfl ?_); refine goesL_ (some 56) rfl rfl Try.func17 (by kernel_rfl) rfl #[.int .u64 t138] rfl (by (try simp only [List.map_toArray, List.map_cons, List.map_nil]); first | done | rfl | (simp only [List.length_drop, List.length_take]; rfl)) ?_; (with_reducible refine (varint_Unzigzag.calls t138 t139 _ A30.out).mono ?_); rintro e w' ⟨rfl, ⟨nd, rfl⟩⟩; refine ⟨_, rfl, ?_⟩) | (go_at_call 17; (with_reducible refine (varint_Unzigzag.calls x0_5 t140 _ A32.out).mono ?_); rintro e w' ⟨rfl, ⟨nd, rfl⟩⟩) | (go_at_call 16; (with_reducible refine (varint_Zigzag.calls t140 t141 _ A33.out).mono ?_); rintro e w' ⟨rfl, ⟨nd, rfl⟩⟩) | (go_at_call 16; (with_reducible refine (varint_Zigzag.calls (wrap64 (-(wrap64 (a2 + 1)))) t142 _ A37.out).mono ?_); rintro e w' ⟨rfl, ⟨nd, rfl⟩⟩))
                      go_ret
                      exact ⟨by first | rfl | (simp [errW_none, errW_some] <;> rfl) | (simp [*, errW_none, errW_some] <;> rfl), by repeat (first | (with_reducible first | exact HB.out | apply below_alloc | apply pw_below_drewN | apply below_drew1) | exact HB.out)⟩
                · rw [if_neg c34] at H
                  have c34b0 : (t141 == x0_5) = false := beq_eq_false_iff_ne.mpr c34
                  have c34b1 : (t141 != x0_5) = true := bne_iff_ne.mpr c34
                  obtain rfl := Option.some.inj H
                  go_wp2_with (first | ((with_reducible refine gate_callee (f := 16) rfl ?_); refine goesL_ (some 54) rfl rfl Try.func16 (by kernel_rfl) rfl #[.int .i64 a2] rfl (by (try simp only [List.map_toArray, List.map_cons, List.map_nil]); first | done | rfl | (simp only [List.length_drop, List.length_take]; rfl)) ?_; (with_reducible refine (varint_Zigzag.calls a2 t138 _ A29.out).mono ?_); rintro e w' ⟨rfl, ⟨nd, rfl⟩⟩; refine ⟨_, rfl, ?_⟩) | ((with_reducible refine gate_callee (f := 17) rfl ?_); refine goesL_ (some 56) rfl rfl Try.func17 (by kernel_rfl) rfl #[.int .u64 t138] rfl (by (try simp only [List.map_toArray, List.map_cons, List.map_nil]); first | done | rfl | (simp only [List.length_drop, List.length_take]; rfl)) ?_; (with_reducible refine (varint_Unzigzag.calls t138 t139 _ A30.out).mono ?_); rintro e w' ⟨rfl, ⟨nd, rfl⟩⟩; refine ⟨_, rfl, ?_⟩) | (go_at_call 17; (with_reducible refine (varint_Unzigzag.calls x0_5 t140 _ A32.out).mono ?_); rintro e w' ⟨rfl, ⟨nd, rfl⟩⟩) | (go_at_call 16; (with_reducible refine (varint_Zigzag.calls t140 t141 _ A33.out).mono ?_); rintro e w' ⟨rfl, ⟨nd, rfl⟩⟩))
                  go_ret
                  exact ⟨by first | rfl | (simp [errW_none, errW_some] <;> rfl) | (simp [*, errW_none, errW_some] <;> rfl), by repeat (first | (with_reducible first | exact HB.out | apply below_alloc | apply pw_below_drewN | apply below_drew1) | exact HB.out)⟩
              · rw [if_neg c31] at H
                have c31b0 : (t139 == a2) = false := beq_eq_false_iff_ne.mpr c31
                have c31b1 : (t139 != a2) = true := bne_iff_ne.mpr c31
                obtain rfl := Option.some.inj H
                go_wp2_with (first | ((with_reducible refine gate_callee (f := 16) rfl ?_); refine goesL_ (some 54) rfl rfl Try.func16 (by kernel_rfl) rfl #[.int .i64 a2] rfl (by (try simp only [List.map_toArray, List.map_cons, List.map_nil]); first | done | rfl | (simp only [List.length_drop, List.length_take]; rfl)) ?_; (with_reducible refine (varint_Zigzag.calls a2 t138 _ A29.out).mono ?_); rintro e w' ⟨rfl, ⟨nd, rfl⟩⟩; refine ⟨_, rfl, ?_⟩) | ((with_reducible refine gate_callee (f := 17) rfl ?_); refine goesL_ (some 56) rfl rfl Try.func17 (by kernel_rfl) rfl #[.int .u64 t138] rfl (by (try simp only [List.map_toArray, List.map_cons, List.map_nil]); first | done | rfl | (simp only [List.length_drop, List.length_take]; rfl)) ?_; (with_reducible refine (varint_Unzigzag.calls t138 t139 _ A30.out).mono ?_); rintro e w' ⟨rfl, ⟨nd, rfl⟩⟩; refine ⟨_, rfl, ?_⟩))
                go_ret
                exact ⟨by first | rfl | (simp [errW_none, errW_some] <;> rfl) | (simp [*, errW_none, errW_some] <;> rfl), by repeat (first | (with_reducible first | exact HB.out | apply below_alloc | apply pw_below_drewN | apply below_drew1) | exact HB.out)⟩
  · replace c5 := Bool.eq_false_iff.mpr c5
    subst c5
    have H1 : (some false) = some r := by rw [if_neg (show ¬ (false = true) by decide)] at H; exact H
    clear H
    have H := H1
    clear H1
    obtain rfl := Option.some.inj H
    go_enter Try.func7, Try.ntmps7
    go_wp2_with (first | ((with_reducible refine gate_callee (f := 12) rfl ?_); refine goesL_ (some 9) rfl rfl Try.func12 (by kernel_rfl) rfl #[] rfl (by (try simp only [List.map_toArray, List.map_cons, List.map_nil]); first | done | rfl | (simp only [List.length_drop, List.length_take]; rfl)) ?_; (with_reducible refine (gantrylaw01_fixed.calls k  false _ A4.out).mono ?_); rintro e w38 ⟨rfl, hb⟩; refine ⟨_, rfl, ?_⟩; have n0_ := Aside0.mk (below_step (by repeat (first | (with_reducible first | exact HB.out | apply below_alloc | apply pw_below_drewN | apply below_drew1) | exact HB.out)) hb); clear HB; have HB := n0_; clear n0_; (try clear hb); (try clear hb2); (try clear hk); (try clear hi)))
    go_ret
    exact ⟨by first | rfl | (simp [errW_none, errW_some] <;> rfl) | (simp [*, errW_none, errW_some] <;> rfl), by repeat (first | (with_reducible first | exact HB.out | apply below_alloc | apply pw_below_drewN | apply below_drew1) | exact HB.out)⟩

/-- THE ONE PURE STATEMENT of gantrylaw01_VarintSizes: yours. -/
def gantrylaw01_VarintSizes.Pure : Prop := ∀ (a0 : Int) (a1 : Int) (a2 : Int), (Lit.int .u64 a0).wf = true → (Lit.int .u64 a1).wf = true → (Lit.int .i64 a2).wf = true → ∃ k, gantrylaw01_VarintSizes.f k a0 a1 a2 = some true
theorem gantrylaw01_VarintSizes.walk (P : gantrylaw01_VarintSizes.Pure) (a0 : Int) (a1 : Int) (a2 : Int) (w : World) (w0 : (Lit.int .u64 a0).wf = true) (w1 : (Lit.int .u64 a1).wf = true) (w2 : (Lit.int .i64 a2).wf = true) :
    Calls Try.prog 7 #[.int .u64 a0, .int .u64 a1, .int .i64 a2] w fun e w' => e = .returned (.bool true) ∧ Below w.heap.size w w' := by
  obtain ⟨k, h⟩ := P a0 a1 a2 w0 w1 w2
  refine (gantrylaw01_VarintSizes.calls k a0 a1 a2 true w h).mono ?_
  rintro e w' ⟨rfl, hd⟩
  exact ⟨rfl, hd⟩

end Go.Proofs.Ytipdfajadehkmaa.QVarintSizes
