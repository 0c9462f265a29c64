/- The machine side of a law, written by a program of this session (the kit printer, changed; wip/tools/mkprint.py): functions, their calls, the row. Lean checks it. -/
import Derived.Test.YtgnoaokpahklaaaQBx0
import Derived.Test.YtgnoaokpahklaaaQBx5
import Derived.Test.YtgnoaokpahklaaaQBx6
import Derived.Test.YtgnoaokpahklaaaQBx7
namespace Go.Proofs.Ytgnoaokpahklaaa.QB
open Go.RowKit Go.Proofs.YtgnoaokpahklaaaW.PrintWords Go.Proofs.YtgnoaokpahklaaaW.PrintLast Go.Proofs.YtgnoaokpahklaaaW.PrintMore
attribute [local go_sem] max2_int min2_int max_two min_two max_three min_three max_four min_four   -- for this text's walks alone
set_option linter.unusedVariables false
set_option linter.unusedSimpArgs false

/-! ### gantrylaw04_LzBacks: function 6 -/
mutual
def gantrylaw04_LzBacks.j0 : Nat → ByteArray → Int → Int → ByteArray → Bool → Option (Bool)
  | 0, _, _, _, _, _ => none
  | k + 1, x0, x1, x2, x7, x33 => if x33 = true then (some false) else ((lz_Unpack.f k x7 (x0.size : Int) (mx x1 (x0.size : Int))).bind fun bt225 => (if bt225.1.toList = x0.toList then (gantrylaw04_LzBacks.j1 k x0 x2 x7 (bt225.2 != 0)) else (gantrylaw04_LzBacks.j1 k x0 x2 x7 true)))
def gantrylaw04_LzBacks.j1 : Nat → ByteArray → Int → ByteArray → Bool → Option (Bool)
  | 0, _, _, _, _ => none
  | k + 1, x0, x2, x7, x51 => if x51 = true then (some false) else (if x2 = (x0.size : Int) then (some true) else ((lz_Unpack.f k x7 x2 (mx x2 (x0.size : Int))).bind fun bt227 => (if x2 < 0 then (if bt227.1.toList = ([] : List UInt8) then (some (bt227.2 == 66)) else (some false)) else (if x2 < (x0.size : Int) then (if bt227.1.toList = ([] : List UInt8) then (some (bt227.2 == 22)) else (some false)) else (if bt227.1.toList = ([] : List UInt8) then (some (bt227.2 == 20)) else (some false))))))
end
def gantrylaw04_LzBacks.f (k : Nat) (a0 : ByteArray) (a1 : Int) (a2 : Int) : Option (Bool) := (gantrylaw04_fixed.f k).bind fun t222 => (if t222 = true then ((lz_Pack.f k a0).bind fun t223 => (if (a0.size : Int) ≤ 1073741824 then ((lz_Bound.f (a0.size : Int)).bind fun t224 => (if (t223.size : Int) > t224 then (gantrylaw04_LzBacks.j0 k a0 a1 a2 t223 true) else (if (a0.size : Int) > 0 then (gantrylaw04_LzBacks.j0 k a0 a1 a2 t223 (t223.toList == ([] : List UInt8))) else (gantrylaw04_LzBacks.j0 k a0 a1 a2 t223 false)))) else (if (a0.size : Int) > 0 then (gantrylaw04_LzBacks.j0 k a0 a1 a2 t223 (t223.toList == ([] : List UInt8))) else (gantrylaw04_LzBacks.j0 k a0 a1 a2 t223 false)))) else (some false))
theorem gantrylaw04_LzBacks.mono_l : ∀ k, (∀ y0 y1 y2 y3 y4, LeO (gantrylaw04_LzBacks.j0 k y0 y1 y2 y3 y4) (gantrylaw04_LzBacks.j0 (k + 1) y0 y1 y2 y3 y4)) ∧ (∀ y0 y1 y2 y3, LeO (gantrylaw04_LzBacks.j1 k y0 y1 y2 y3) (gantrylaw04_LzBacks.j1 (k + 1) y0 y1 y2 y3))
  | 0 => ⟨fun _ _ _ _ _ r h => by simp [gantrylaw04_LzBacks.j0] at h, fun _ _ _ _ r h => by simp [gantrylaw04_LzBacks.j1] at h⟩
  | k + 1 => by
    obtain ⟨ih0, ih1⟩ := gantrylaw04_LzBacks.mono_l k
    refine ⟨?_, ?_⟩
    · intro y0 y1 y2 y3 y4
      unfold gantrylaw04_LzBacks.j0
      repeat' first
      | (with_reducible exact ih0 _ _ _ _ _)
      | (with_reducible exact ih1 _ _ _ _)
      | (with_reducible exact gantrylaw04_fixed.mono _)
      | (with_reducible exact lz_Pack.mono _ _)
      | (with_reducible exact lz_Unpack.mono _ _ _ _)
      | (with_reducible exact LeO.refl _)
      | (with_reducible exact LeO.none _)
      | (with_reducible refine LeO.ite ?_ ?_)
      | (with_reducible refine LeO.bind ?_ (fun _ => ?_))
      | exact ih0 _ _ _ _ _
      | exact ih1 _ _ _ _
      | exact gantrylaw04_fixed.mono _
      | exact lz_Pack.mono _ _
      | exact lz_Unpack.mono _ _ _ _
      | exact LeO.none _
      | refine LeO.ite ?_ ?_
      | refine LeO.bind ?_ (fun _ => ?_)
    · intro y0 y1 y2 y3
      unfold gantrylaw04_LzBacks.j1
      repeat' first
      | (with_reducible exact ih0 _ _ _ _ _)
      | (with_reducible exact ih1 _ _ _ _)
      | (with_reducible exact gantrylaw04_fixed.mono _)
      | (with_reducible exact lz_Pack.mono _ _)
      | (with_reducible exact lz_Unpack.mono _ _ _ _)
      | (with_reducible exact LeO.refl _)
      | (with_reducible exact LeO.none _)
      | (with_reducible refine LeO.ite ?_ ?_)
      | (with_reducible refine LeO.bind ?_ (fun _ => ?_))
      | exact ih0 _ _ _ _ _
      | exact ih1 _ _ _ _
      | exact gantrylaw04_fixed.mono _
      | exact lz_Pack.mono _ _
      | exact lz_Unpack.mono _ _ _ _
      | exact LeO.none _
      | refine LeO.ite ?_ ?_
      | refine LeO.bind ?_ (fun _ => ?_)
theorem gantrylaw04_LzBacks.mono : ∀ a0 a1 a2 k, LeO (gantrylaw04_LzBacks.f k a0 a1 a2) (gantrylaw04_LzBacks.f (k + 1) a0 a1 a2) := by
  intro a0 a1 a2 k
  obtain ⟨ih0, ih1⟩ := gantrylaw04_LzBacks.mono_l k
  unfold gantrylaw04_LzBacks.f
  repeat' first
      | (with_reducible exact ih0 _ _ _ _ _)
      | (with_reducible exact ih1 _ _ _ _)
      | (with_reducible exact gantrylaw04_fixed.mono _)
      | (with_reducible exact lz_Pack.mono _ _)
      | (with_reducible exact lz_Unpack.mono _ _ _ _)
      | (with_reducible exact LeO.refl _)
      | (with_reducible exact LeO.none _)
      | (with_reducible refine LeO.ite ?_ ?_)
      | (with_reducible refine LeO.bind ?_ (fun _ => ?_))
      | exact ih0 _ _ _ _ _
      | exact ih1 _ _ _ _
      | exact gantrylaw04_fixed.mono _
      | exact lz_Pack.mono _ _
      | exact lz_Unpack.mono _ _ _ _
      | exact LeO.none _
      | refine LeO.ite ?_ ?_
      | refine LeO.bind ?_ (fun _ => ?_)
set_option maxHeartbeats 8000000 in
set_option maxRecDepth 100000 in
theorem gantrylaw04_LzBacks.calls (k : Nat) (a0 : ByteArray) (a1 : Int) (a2 : Int) (r : Bool) (w : World) (h : gantrylaw04_LzBacks.f k a0 a1 a2 = some r) :
    Calls Try.prog 6 #[.string a0, .int .i64 a1, .int .i64 a2] w fun e w' => e = .returned (.bool r) ∧ Below w.heap.size w w' := by
  have HB := Aside0.mk (Below.refl w.heap.size w)
  have H : ((gantrylaw04_fixed.f k).bind fun t222 => (if t222 = true then ((lz_Pack.f k a0).bind fun t223 => (if (a0.size : Int) ≤ 1073741824 then ((lz_Bound.f (a0.size : Int)).bind fun t224 => (if (t223.size : Int) > t224 then (gantrylaw04_LzBacks.j0 k a0 a1 a2 t223 true) else (if (a0.size : Int) > 0 then (gantrylaw04_LzBacks.j0 k a0 a1 a2 t223 (t223.toList == ([] : List UInt8))) else (gantrylaw04_LzBacks.j0 k a0 a1 a2 t223 false)))) else (if (a0.size : Int) > 0 then (gantrylaw04_LzBacks.j0 k a0 a1 a2 t223 (t223.toList == ([] : List UInt8))) else (gantrylaw04_LzBacks.j0 k a0 a1 a2 t223 false)))) else (some false))) = some r := h
  clear h
  replace H := Option.bind_eq_some_iff.mp H
  obtain ⟨t222, A40, H⟩ := H
  replace H : (if t222 = true then ((lz_Pack.f k a0).bind fun t223 => (if (a0.size : Int) ≤ 1073741824 then ((lz_Bound.f (a0.size : Int)).bind fun t224 => (if (t223.size : Int) > t224 then (gantrylaw04_LzBacks.j0 k a0 a1 a2 t223 true) else (if (a0.size : Int) > 0 then (gantrylaw04_LzBacks.j0 k a0 a1 a2 t223 (t223.toList == ([] : List UInt8))) else (gantrylaw04_LzBacks.j0 k a0 a1 a2 t223 false)))) else (if (a0.size : Int) > 0 then (gantrylaw04_LzBacks.j0 k a0 a1 a2 t223 (t223.toList == ([] : List UInt8))) else (gantrylaw04_LzBacks.j0 k a0 a1 a2 t223 false)))) else (some false)) = some r := H
  have A4 := Aside0.mk A40
  clear A40
  by_cases c5 : t222 = true
  · subst c5
    have H1 : ((lz_Pack.f k a0).bind fun t223 => (if (a0.size : Int) ≤ 1073741824 then ((lz_Bound.f (a0.size : Int)).bind fun t224 => (if (t223.size : Int) > t224 then (gantrylaw04_LzBacks.j0 k a0 a1 a2 t223 true) else (if (a0.size : Int) > 0 then (gantrylaw04_LzBacks.j0 k a0 a1 a2 t223 (t223.toList == ([] : List UInt8))) else (gantrylaw04_LzBacks.j0 k a0 a1 a2 t223 false)))) else (if (a0.size : Int) > 0 then (gantrylaw04_LzBacks.j0 k a0 a1 a2 t223 (t223.toList == ([] : List UInt8))) else (gantrylaw04_LzBacks.j0 k a0 a1 a2 t223 false)))) = some r := by rw [if_pos rfl] at H; exact H
    clear H
    have H := H1
    clear H1
    replace H := Option.bind_eq_some_iff.mp H
    obtain ⟨t223, A60, H⟩ := H
    replace H : (if (a0.size : Int) ≤ 1073741824 then ((lz_Bound.f (a0.size : Int)).bind fun t224 => (if (t223.size : Int) > t224 then (gantrylaw04_LzBacks.j0 k a0 a1 a2 t223 true) else (if (a0.size : Int) > 0 then (gantrylaw04_LzBacks.j0 k a0 a1 a2 t223 (t223.toList == ([] : List UInt8))) else (gantrylaw04_LzBacks.j0 k a0 a1 a2 t223 false)))) else (if (a0.size : Int) > 0 then (gantrylaw04_LzBacks.j0 k a0 a1 a2 t223 (t223.toList == ([] : List UInt8))) else (gantrylaw04_LzBacks.j0 k a0 a1 a2 t223 false))) = some r := H
    have A6 := Aside0.mk A60
    clear A60
    have HC7 := Aside0.mk H
    clear H
    go_enter Try.func6, Try.ntmps6
    go_upto_region 4 with (first | ((with_reducible refine gate_callee (f := 12) rfl ?_); refine goesL_ (some 10) rfl rfl Try.func12 (by kernel_rfl) rfl #[] rfl (by (try simp only [List.map_toArray, List.map_cons, List.map_nil]); first | done | rfl | (simp only [List.length_drop, List.length_take]; rfl)) ?_; (with_reducible refine (gantrylaw04_fixed.calls k  true _ A4.out).mono ?_); rintro e w8 ⟨rfl, hb⟩; refine ⟨_, rfl, ?_⟩; have n0_ := Aside0.mk (below_step (by repeat (first | (with_reducible first | exact HB.out | apply below_alloc | apply pw_below_drewN | apply below_drew1) | exact HB.out)) hb); clear HB; have HB := n0_; clear n0_; (try clear hb); (try clear hb2); (try clear hk); (try clear hi)) | ((with_reducible refine gate_callee (f := 13) rfl ?_); refine goesL_ (some 13) rfl rfl Try.func13 (by kernel_rfl) rfl #[.string a0] rfl (by (try simp only [List.map_toArray, List.map_cons, List.map_nil]); first | done | rfl | (simp only [List.length_drop, List.length_take]; rfl)) ?_; (with_reducible refine (lz_Pack.calls k a0 t223 _ A6.out).mono ?_); rintro e w9 ⟨rfl, hb⟩; refine ⟨_, rfl, ?_⟩; have n0_ := Aside0.mk (below_step (by repeat (first | (with_reducible first | exact HB.out | apply below_alloc | apply pw_below_drewN | apply below_drew1) | exact HB.out)) hb); clear HB; have HB := n0_; clear n0_; (try clear hb); (try clear hb2); (try clear hk); (try clear hi)))
    (try simp only [Act.put, List.setIfInBounds_toArray, List.set_cons_zero, List.set_cons_succ])
    go_cut [33] (fun v33 wc => ∃ (kq : Nat) (x33_6 : Bool), v33 = .bool x33_6 ∧ Aside0 (gantrylaw04_LzBacks.j0 kq a0 a1 a2 t223 x33_6 = some r) ∧ Aside0 (kq ≤ k) ∧ Aside0 (Below w.heap.size w wc))
    case first =>
      have H := HC7.out
      clear HC7
      by_cases c10 : (a0.size : Int) ≤ 1073741824
      · rw [if_pos c10] at H
        have c10b0 : decide ((a0.size : Int) ≤ 1073741824) = true := decide_eq_true c10
        have c10b1 : decide (a0.size ≤ 1073741824) = true := decide_eq_true (by omega)
        clear c10
        (first | rw [c10b0] | (simp only [i64_w, i32_w]; rw [c10b0]) | skip)
        replace H := Option.bind_eq_some_iff.mp H
        obtain ⟨t224, A110, H⟩ := H
        replace H : (if (t223.size : Int) > t224 then (gantrylaw04_LzBacks.j0 k a0 a1 a2 t223 true) else (if (a0.size : Int) > 0 then (gantrylaw04_LzBacks.j0 k a0 a1 a2 t223 (t223.toList == ([] : List UInt8))) else (gantrylaw04_LzBacks.j0 k a0 a1 a2 t223 false))) = some r := H
        have A11 := Aside0.mk A110
        clear A110
        by_cases c12 : (t223.size : Int) > t224
        · rw [if_pos c12] at H
          have c12b0 : decide (t224 < (t223.size : Int)) = true := decide_eq_true c12
          clear c12
          have H' := Aside0.mk H
          clear H
          go_wp2_with (first | (go_at_call 17; (with_reducible refine (lz_Bound.calls (a0.size : Int) t224 _ A11.out).mono ?_); rintro e w13 ⟨rfl, hb⟩; have n0_ := Aside0.mk (below_step (by repeat (first | (with_reducible first | exact HB.out | apply below_alloc | apply pw_below_drewN | apply below_drew1) | exact HB.out)) hb); clear HB; have HB := n0_; clear n0_; (try clear hb); (try clear hb2); (try clear hk); (try clear hi)))
          go_meet
          case rel => exact ⟨_, (true), (by first | rfl | (simp; done) | (simp [*]; done)), H', ⟨by first | omega | exact Nat.le_refl _⟩, ⟨by repeat (first | (with_reducible first | exact HB.out | apply below_alloc | apply pw_below_drewN | apply below_drew1) | exact HB.out)⟩⟩
        · rw [if_neg c12] at H
          have c12b0 : decide (t224 < (t223.size : Int)) = false := decide_eq_false c12
          clear c12
          by_cases c14 : (a0.size : Int) > 0
          · rw [if_pos c14] at H
            have c14b0 : decide (0 < (a0.size : Int)) = true := decide_eq_true c14
            have c14b1 : decide (0 < a0.size) = true := decide_eq_true (by omega)
            clear c14
            have H' := Aside0.mk H
            clear H
            go_wp2_with (first | (go_at_call 17; (with_reducible refine (lz_Bound.calls (a0.size : Int) t224 _ A11.out).mono ?_); rintro e w15 ⟨rfl, hb⟩; have n0_ := Aside0.mk (below_step (by repeat (first | (with_reducible first | exact HB.out | apply below_alloc | apply pw_below_drewN | apply below_drew1) | exact HB.out)) hb); clear HB; have HB := n0_; clear n0_; (try clear hb); (try clear hb2); (try clear hk); (try clear hi)))
            go_meet
            case rel => exact ⟨_, ((t223.toList == ([] : List UInt8))), (by first | rfl | (simp; done) | (simp [*]; done)), H', ⟨by first | omega | exact Nat.le_refl _⟩, ⟨by repeat (first | (with_reducible first | exact HB.out | apply below_alloc | apply pw_below_drewN | apply below_drew1) | exact HB.out)⟩⟩
          · rw [if_neg c14] at H
            have c14b0 : decide (0 < (a0.size : Int)) = false := decide_eq_false c14
            have c14b1 : decide (0 < a0.size) = false := decide_eq_false (by omega)
            clear c14
            have H' := Aside0.mk H
            clear H
            go_wp2_with (first | (go_at_call 17; (with_reducible refine (lz_Bound.calls (a0.size : Int) t224 _ A11.out).mono ?_); rintro e w16 ⟨rfl, hb⟩; have n0_ := Aside0.mk (below_step (by repeat (first | (with_reducible first | exact HB.out | apply below_alloc | apply pw_below_drewN | apply below_drew1) | exact HB.out)) hb); clear HB; have HB := n0_; clear n0_; (try clear hb); (try clear hb2); (try clear hk); (try clear hi)))
            go_meet
            case rel => exact ⟨_, (false), (by first | rfl | (simp; done) | (simp [*]; done)), H', ⟨by first | omega | exact Nat.le_refl _⟩, ⟨by repeat (first | (with_reducible first | exact HB.out | apply below_alloc | apply pw_below_drewN | apply below_drew1) | exact HB.out)⟩⟩
      · rw [if_neg c10] at H
        have c10b0 : decide ((a0.size : Int) ≤ 1073741824) = false := decide_eq_false c10
        have c10b1 : decide (a0.size ≤ 1073741824) = false := decide_eq_false (by omega)
        clear c10
        (first | rw [c10b0] | (simp only [i64_w, i32_w]; rw [c10b0]) | skip)
        by_cases c17 : (a0.size : Int) > 0
        · rw [if_pos c17] at H
          have c17b0 : decide (0 < (a0.size : Int)) = true := decide_eq_true c17
          have c17b1 : decide (0 < a0.size) = true := decide_eq_true (by omega)
          clear c17
          have H' := Aside0.mk H
          clear H
          go_wp2
          go_meet
          case rel => exact ⟨_, ((t223.toList == ([] : List UInt8))), (by first | rfl | (simp; done) | (simp [*]; done)), H', ⟨by first | omega | exact Nat.le_refl _⟩, ⟨by repeat (first | (with_reducible first | exact HB.out | apply below_alloc | apply pw_below_drewN | apply below_drew1) | exact HB.out)⟩⟩
        · rw [if_neg c17] at H
          have c17b0 : decide (0 < (a0.size : Int)) = false := decide_eq_false c17
          have c17b1 : decide (0 < a0.size) = false := decide_eq_false (by omega)
          clear c17
          have H' := Aside0.mk H
          clear H
          go_wp2
          go_meet
          case rel => exact ⟨_, (false), (by first | rfl | (simp; done) | (simp [*]; done)), H', ⟨by first | omega | exact Nat.le_refl _⟩, ⟨by repeat (first | (with_reducible first | exact HB.out | apply below_alloc | apply pw_below_drewN | apply below_drew1) | exact HB.out)⟩⟩
    case rest =>
      clear HC7
      try clear c1
      try clear p2
      try clear c5
      try clear c6
      try clear c10
      try clear c10b0
      try clear c10b1
      try clear c12
      try clear c12b0
      try clear c13
      try clear c14
      try clear c14b0
      try clear c14b1
      try clear c17
      try clear c17b0
      try clear c17b1
      obtain ⟨kq, x33_6, rfl, HA, HJ6, HB⟩ := hcut
      cases kq with
      | zero => exact absurd HA.out (by simp [gantrylaw04_LzBacks.j0])
      | succ kj6 =>
        have H := HA.out
        clear HA
        simp only [gantrylaw04_LzBacks.j0] at H
        by_cases c18 : x33_6 = true
        · subst c18
          have H1 : (some false) = some r := by rw [if_pos rfl] at H; exact H
          clear H
          have H := H1
          clear H1
          obtain rfl := Option.some.inj H
          go_wp2
          go_ret
          exact ⟨by first | rfl | (simp [errW_none, errW_some] <;> rfl) | (simp [*, errW_none, errW_some] <;> rfl), by repeat (first | (with_reducible first | exact HB.out | apply below_alloc | apply pw_below_drewN | apply below_drew1) | exact HB.out)⟩
        · replace c18 := Bool.eq_false_iff.mpr c18
          subst c18
          have H1 : ((lz_Unpack.f kj6 t223 (a0.size : Int) (mx a1 (a0.size : Int))).bind fun bt225 => (if bt225.1.toList = a0.toList then (gantrylaw04_LzBacks.j1 kj6 a0 a2 t223 (bt225.2 != 0)) else (gantrylaw04_LzBacks.j1 kj6 a0 a2 t223 true))) = some r := by rw [if_neg (show ¬ (false = true) by decide)] at H; exact H
          clear H
          have H := H1
          clear H1
          obtain ⟨ji19, hji19⟩ : ∃ j_ : Int, (mx a1 (a0.size : Int)) = j_ := ⟨_, rfl⟩
          replace H : ((lz_Unpack.f kj6 t223 (a0.size : Int) (ji19)).bind fun bt225 => (if bt225.1.toList = a0.toList then (gantrylaw04_LzBacks.j1 kj6 a0 a2 t223 (bt225.2 != 0)) else (gantrylaw04_LzBacks.j1 kj6 a0 a2 t223 true))) = some r := by first | (rw [hji19] at H; exact H) | (simp only [hji19] at H ⊢; exact H)
          have hji19_ : (if a1 < (a0.size : Int) then (a0.size : Int) else a1) = ji19 := hji19
          replace H := Option.bind_eq_some_iff.mp H
          obtain ⟨⟨t225, t226⟩, A200, H⟩ := H
          replace H : (if t225.toList = a0.toList then (gantrylaw04_LzBacks.j1 kj6 a0 a2 t223 (t226 != 0)) else (gantrylaw04_LzBacks.j1 kj6 a0 a2 t223 true)) = some r := H
          have A20 := Aside0.mk A200
          clear A200
          have HC21 := Aside0.mk H
          clear H
          go_upto_region 7 with (first | ((with_reducible refine gate_callee (f := 19) rfl ?_); refine goesL_ (some 42) rfl rfl Try.func19 (by kernel_rfl) rfl #[.string t223, .int .i64 (a0.size : Int), .int .i64 ji19] rfl (by (try simp only [List.map_toArray, List.map_cons, List.map_nil]); first | done | (simp only [hji19]; rfl) | rfl | (simp only [List.length_drop, List.length_take]; rfl)) ?_; (with_reducible refine (lz_Unpack.calls kj6 t223 (a0.size : Int) ji19 t225 t226 _ A20.out).mono ?_); rintro e w22 ⟨rfl, hb⟩; refine ⟨_, rfl, ?_⟩; have n0_ := Aside0.mk (below_step (by repeat (first | (with_reducible first | exact HB.out | apply below_alloc | apply pw_below_drewN | apply below_drew1) | exact HB.out)) hb); clear HB; have HB := n0_; clear n0_; (try clear hb); (try clear hb2); (try clear hk); (try clear hi)))
          (try simp only [Act.put, List.setIfInBounds_toArray, List.set_cons_zero, List.set_cons_succ])
          go_cut [51] (fun v51 wc => ∃ (kq : Nat) (x51_20 : Bool), v51 = .bool x51_20 ∧ Aside0 (gantrylaw04_LzBacks.j1 kq a0 a2 t223 x51_20 = some r) ∧ Aside0 (kq ≤ kj6) ∧ Aside0 (Below w.heap.size w wc))
          case first =>
            have H := HC21.out
            clear HC21
            by_cases c23 : t225.toList = a0.toList
            · rw [if_pos c23] at H
              have c23b0 : (t225.toList == a0.toList) = true := beq_iff_eq.mpr c23
              have c23b1 : (t225.toList != a0.toList) = false := bne_eq_false_iff_eq.mpr c23
              clear c23
              (first | rw [c23b0] | (simp only [i64_w, i32_w]; rw [c23b0]) | skip)
              have H' := Aside0.mk H
              clear H
              go_wp2
              go_meet
              case rel => exact ⟨_, ((t226 != 0)), (by first | rfl | (simp; done) | (simp [*]; done)), H', ⟨by have := HJ6.out; first | omega | exact Nat.le_refl _⟩, ⟨by repeat (first | (with_reducible first | exact HB.out | apply below_alloc | apply pw_below_drewN | apply below_drew1) | exact HB.out)⟩⟩
            · rw [if_neg c23] at H
              have c23b0 : (t225.toList == a0.toList) = false := beq_eq_false_iff_ne.mpr c23
              have c23b1 : (t225.toList != a0.toList) = true := bne_iff_ne.mpr c23
              (first | rw [c23b0] | (simp only [i64_w, i32_w]; rw [c23b0]) | skip)
              have H' := Aside0.mk H
              clear H
              go_wp2
              go_meet
              case rel => exact ⟨_, (true), (by first | rfl | (simp; done) | (simp [*]; done)), H', ⟨by have := HJ6.out; first | omega | exact Nat.le_refl _⟩, ⟨by repeat (first | (with_reducible first | exact HB.out | apply below_alloc | apply pw_below_drewN | apply below_drew1) | exact HB.out)⟩⟩
          case rest =>
            clear HC21
            try clear c1
            try clear c2
            try clear p2
            try clear c5
            try clear c6
            try clear c10
            try clear c10b0
            try clear c10b1
            try clear c12
            try clear c12b0
            try clear c13
            try clear c14
            try clear c14b0
            try clear c14b1
            try clear c17
            try clear c17b0
            try clear c17b1
            try clear c18
            try clear c19
            try clear c23
            try clear c23b0
            try clear c23b1
            try clear p2
            obtain ⟨kq, x51_20, rfl, HA, HJ20, HB⟩ := hcut
            cases kq with
            | zero => exact absurd HA.out (by simp [gantrylaw04_LzBacks.j1])
            | succ kj20 =>
              have H := HA.out
              clear HA
              simp only [gantrylaw04_LzBacks.j1] at H
              by_cases c24 : x51_20 = true
              · subst c24
                have H1 : (some false) = some r := by rw [if_pos rfl] at H; exact H
                clear H
                have H := H1
                clear H1
                obtain rfl := Option.some.inj H
                go_wp2
                go_ret
                exact ⟨by first | rfl | (simp [errW_none, errW_some] <;> rfl) | (simp only [← hji19]; first | rfl | (simp [errW_none, errW_some] <;> rfl)) | (simp [*, errW_none, errW_some] <;> rfl), by repeat (first | (with_reducible first | exact HB.out | apply below_alloc | apply pw_below_drewN | apply below_drew1) | exact HB.out)⟩
              · replace c24 := Bool.eq_false_iff.mpr c24
                subst c24
                have H1 : (if a2 = (a0.size : Int) then (some true) else ((lz_Unpack.f kj20 t223 a2 (mx a2 (a0.size : Int))).bind fun bt227 => (if a2 < 0 then (if bt227.1.toList = ([] : List UInt8) then (some (bt227.2 == 66)) else (some false)) else (if a2 < (a0.size : Int) then (if bt227.1.toList = ([] : List UInt8) then (some (bt227.2 == 22)) else (some false)) else (if bt227.1.toList = ([] : List UInt8) then (some (bt227.2 == 20)) else (some false)))))) = some r := by rw [if_neg (show ¬ (false = true) by decide)] at H; exact H
                clear H
                have H := H1
                clear H1
                by_cases c25 : a2 = (a0.size : Int)
                · rw [if_pos c25] at H
                  have c25b0 : (a2 == (a0.size : Int)) = true := beq_iff_eq.mpr c25
                  have c25b1 : (a2 != (a0.size : Int)) = false := bne_eq_false_iff_eq.mpr c25
                  clear c25
                  obtain rfl := Option.some.inj H
                  go_wp2
                  go_ret
                  exact ⟨by first | rfl | (simp [errW_none, errW_some] <;> rfl) | (simp only [← hji19]; first | rfl | (simp [errW_none, errW_some] <;> rfl)) | (simp [*, errW_none, errW_some] <;> rfl), by repeat (first | (with_reducible first | exact HB.out | apply below_alloc | apply pw_below_drewN | apply below_drew1) | exact HB.out)⟩
                · rw [if_neg c25] at H
                  have c25b0 : (a2 == (a0.size : Int)) = false := beq_eq_false_iff_ne.mpr c25
                  have c25b1 : (a2 != (a0.size : Int)) = true := bne_iff_ne.mpr c25
                  obtain ⟨ji26, hji26⟩ : ∃ j_ : Int, (mx a2 (a0.size : Int)) = j_ := ⟨_, rfl⟩
                  replace H : ((lz_Unpack.f kj20 t223 a2 (ji26)).bind fun bt227 => (if a2 < 0 then (if bt227.1.toList = ([] : List UInt8) then (some (bt227.2 == 66)) else (some false)) else (if a2 < (a0.size : Int) then (if bt227.1.toList = ([] : List UInt8) then (some (bt227.2 == 22)) else (some false)) else (if bt227.1.toList = ([] : List UInt8) then (some (bt227.2 == 20)) else (some false))))) = some r := by first | (rw [hji26] at H; exact H) | (simp only [hji26] at H ⊢; exact H)
                  have hji26_ : (if a2 < (a0.size : Int) then (a0.size : Int) else a2) = ji26 := hji26
                  replace H := Option.bind_eq_some_iff.mp H
                  obtain ⟨⟨t227, t228⟩, A270, H⟩ := H
                  replace H : (if a2 < 0 then (if t227.toList = ([] : List UInt8) then (some (t228 == 66)) else (some false)) else (if a2 < (a0.size : Int) then (if t227.toList = ([] : List UInt8) then (some (t228 == 22)) else (some false)) else (if t227.toList = ([] : List UInt8) then (some (t228 == 20)) else (some false)))) = some r := H
                  have A27 := Aside0.mk A270
                  clear A270
                  by_cases c28 : a2 < 0
                  · rw [if_pos c28] at H
                    have c28b0 : decide (a2 < 0) = true := decide_eq_true c28
                    clear c28
                    by_cases c29 : t227.toList = ([] : List UInt8)
                    · rw [if_pos c29] at H
                      have c29b0 : (t227.toList == ([] : List UInt8)) = true := beq_iff_eq.mpr c29
                      have c29b1 : (t227.toList != ([] : List UInt8)) = false := bne_eq_false_iff_eq.mpr c29
                      clear c29
                      obtain rfl := Option.some.inj H
                      go_wp2_with (first | ((with_reducible refine gate_callee (f := 19) rfl ?_); refine goesL_ (some 63) rfl rfl Try.func19 (by kernel_rfl) rfl #[.string t223, .int .i64 a2, .int .i64 ji26] rfl (by (try simp only [List.map_toArray, List.map_cons, List.map_nil]); first | done | (simp only [hji26]; rfl) | rfl | (simp only [List.length_drop, List.length_take]; rfl)) ?_; (with_reducible refine (lz_Unpack.calls kj20 t223 a2 ji26 t227 t228 _ A27.out).mono ?_); rintro e w30 ⟨rfl, hb⟩; refine ⟨_, rfl, ?_⟩; have n0_ := Aside0.mk (below_step (by repeat (first | (with_reducible first | exact HB.out | apply below_alloc | apply pw_below_drewN | apply below_drew1) | exact HB.out)) hb); clear HB; have HB := n0_; clear n0_; (try clear hb); (try clear hb2); (try clear hk); (try clear hi)))
                      go_ret
                      exact ⟨by first | rfl | (simp [errW_none, errW_some] <;> rfl) | (simp only [← hji19, ← hji26]; first | rfl | (simp [errW_none, errW_some] <;> rfl)) | (simp [*, errW_none, errW_some] <;> rfl), by repeat (first | (with_reducible first | exact HB.out | apply below_alloc | apply pw_below_drewN | apply below_drew1) | exact HB.out)⟩
                    · rw [if_neg c29] at H
                      have c29b0 : (t227.toList == ([] : List UInt8)) = false := beq_eq_false_iff_ne.mpr c29
                      have c29b1 : (t227.toList != ([] : List UInt8)) = true := bne_iff_ne.mpr c29
                      obtain rfl := Option.some.inj H
                      go_wp2_with (first | ((with_reducible refine gate_callee (f := 19) rfl ?_); refine goesL_ (some 63) rfl rfl Try.func19 (by kernel_rfl) rfl #[.string t223, .int .i64 a2, .int .i64 ji26] rfl (by (try simp only [List.map_toArray, List.map_cons, List.map_nil]); first | done | (simp only [hji26]; rfl) | rfl | (simp only [List.length_drop, List.length_take]; rfl)) ?_; (with_reducible refine (lz_Unpack.calls kj20 t223 a2 ji26 t227 t228 _ A27.out).mono ?_); rintro e w31 ⟨rfl, hb⟩; refine ⟨_, rfl, ?_⟩; have n0_ := Aside0.mk (below_step (by repeat (first | (with_reducible first | exact HB.out | apply below_alloc | apply pw_below_drewN | apply below_drew1) | exact HB.out)) hb); clear HB; have HB := n0_; clear n0_; (try clear hb); (try clear hb2); (try clear hk); (try clear hi)))
                      go_ret
                      exact ⟨by first | rfl | (simp [errW_none, errW_some] <;> rfl) | (simp only [← hji19, ← hji26]; first | rfl | (simp [errW_none, errW_some] <;> rfl)) | (simp [*, errW_none, errW_some] <;> rfl), by repeat (first | (with_reducible first | exact HB.out | apply below_alloc | apply pw_below_drewN | apply below_drew1) | exact HB.out)⟩
                  · rw [if_neg c28] at H
                    have c28b0 : decide (a2 < 0) = false := decide_eq_false c28
                    clear c28
                    by_cases c32 : a2 < (a0.size : Int)
                    · rw [if_pos c32] at H
                      have c32b0 : decide (a2 < (a0.size : Int)) = true := decide_eq_true c32
                      clear c32
                      by_cases c33 : t227.toList = ([] : List UInt8)
                      · rw [if_pos c33] at H
                        have c33b0 : (t227.toList == ([] : List UInt8)) = true := beq_iff_eq.mpr c33
                        have c33b1 : (t227.toList != ([] : List UInt8)) = false := bne_eq_false_iff_eq.mpr c33
                        clear c33
                        obtain rfl := Option.some.inj H
                        go_wp2_with (first | ((with_reducible refine gate_callee (f := 19) rfl ?_); refine goesL_ (some 63) rfl rfl Try.func19 (by kernel_rfl) rfl #[.string t223, .int .i64 a2, .int .i64 ji26] rfl (by (try simp only [List.map_toArray, List.map_cons, List.map_nil]); first | done | (simp only [hji26]; rfl) | rfl | (simp only [List.length_drop, List.length_take]; rfl)) ?_; (with_reducible refine (lz_Unpack.calls kj20 t223 a2 ji26 t227 t228 _ A27.out).mono ?_); rintro e w34 ⟨rfl, hb⟩; refine ⟨_, rfl, ?_⟩; have n0_ := Aside0.mk (below_step (by repeat (first | (with_reducible first | exact HB.out | apply below_alloc | apply pw_below_drewN | apply below_drew1) | exact HB.out)) hb); clear HB; have HB := n0_; clear n0_; (try clear hb); (try clear hb2); (try clear hk); (try clear hi)))
                        go_ret
                        exact ⟨by first | rfl | (simp [errW_none, errW_some] <;> rfl) | (simp only [← hji19, ← hji26]; first | rfl | (simp [errW_none, errW_some] <;> rfl)) | (simp [*, errW_none, errW_some] <;> rfl), by repeat (first | (with_reducible first | exact HB.out | apply below_alloc | apply pw_below_drewN | apply below_drew1) | exact HB.out)⟩
                      · rw [if_neg c33] at H
                        have c33b0 : (t227.toList == ([] : List UInt8)) = false := beq_eq_false_iff_ne.mpr c33
                        have c33b1 : (t227.toList != ([] : List UInt8)) = true := bne_iff_ne.mpr c33
                        obtain rfl := Option.some.inj H
                        go_wp2_with (first | ((with_reducible refine gate_callee (f := 19) rfl ?_); refine goesL_ (some 63) rfl rfl Try.func19 (by kernel_rfl) rfl #[.string t223, .int .i64 a2, .int .i64 ji26] rfl (by (try simp only [List.map_toArray, List.map_cons, List.map_nil]); first | done | (simp only [hji26]; rfl) | rfl | (simp only [List.length_drop, List.length_take]; rfl)) ?_; (with_reducible refine (lz_Unpack.calls kj20 t223 a2 ji26 t227 t228 _ A27.out).mono ?_); rintro e w35 ⟨rfl, hb⟩; refine ⟨_, rfl, ?_⟩; have n0_ := Aside0.mk (below_step (by repeat (first | (with_reducible first | exact HB.out | apply below_alloc | apply pw_below_drewN | apply below_drew1) | exact HB.out)) hb); clear HB; have HB := n0_; clear n0_; (try clear hb); (try clear hb2); (try clear hk); (try clear hi)))
                        go_ret
                        exact ⟨by first | rfl | (simp [errW_none, errW_some] <;> rfl) | (simp only [← hji19, ← hji26]; first | rfl | (simp [errW_none, errW_some] <;> rfl)) | (simp [*, errW_none, errW_some] <;> rfl), by repeat (first | (with_reducible first | exact HB.out | apply below_alloc | apply pw_below_drewN | apply below_drew1) | exact HB.out)⟩
                    · rw [if_neg c32] at H
                      have c32b0 : decide (a2 < (a0.size : Int)) = false := decide_eq_false c32
                      clear c32
                      by_cases c36 : t227.toList = ([] : List UInt8)
                      · rw [if_pos c36] at H
                        have c36b0 : (t227.toList == ([] : List UInt8)) = true := beq_iff_eq.mpr c36
                        have c36b1 : (t227.toList != ([] : List UInt8)) = false := bne_eq_false_iff_eq.mpr c36
                        clear c36
                        obtain rfl := Option.some.inj H
                        go_wp2_with (first | ((with_reducible refine gate_callee (f := 19) rfl ?_); refine goesL_ (some 63) rfl rfl Try.func19 (by kernel_rfl) rfl #[.string t223, .int .i64 a2, .int .i64 ji26] rfl (by (try simp only [List.map_toArray, List.map_cons, List.map_nil]); first | done | (simp only [hji26]; rfl) | rfl | (simp only [List.length_drop, List.length_take]; rfl)) ?_; (with_reducible refine (lz_Unpack.calls kj20 t223 a2 ji26 t227 t228 _ A27.out).mono ?_); rintro e w37 ⟨rfl, hb⟩; refine ⟨_, rfl, ?_⟩; have n0_ := Aside0.mk (below_step (by repeat (first | (with_reducible first | exact HB.out | apply below_alloc | apply pw_below_drewN | apply below_drew1) | exact HB.out)) hb); clear HB; have HB := n0_; clear n0_; (try clear hb); (try clear hb2); (try clear hk); (try clear hi)))
                        go_ret
                        exact ⟨by first | rfl | (simp [errW_none, errW_some] <;> rfl) | (simp only [← hji19, ← hji26]; first | rfl | (simp [errW_none, errW_some] <;> rfl)) | (simp [*, errW_none, errW_some] <;> rfl), by repeat (first | (with_reducible first | exact HB.out | apply below_alloc | apply pw_below_drewN | apply below_drew1) | exact HB.out)⟩
                      · rw [if_neg c36] at H
                        have c36b0 : (t227.toList == ([] : List UInt8)) = false := beq_eq_false_iff_ne.mpr c36
                        have c36b1 : (t227.toList != ([] : List UInt8)) = true := bne_iff_ne.mpr c36
                        obtain rfl := Option.some.inj H
                        go_wp2_with (first | ((with_reducible refine gate_callee (f := 19) rfl ?_); refine goesL_ (some 63) rfl rfl Try.func19 (by kernel_rfl) rfl #[.string t223, .int .i64 a2, .int .i64 ji26] rfl (by (try simp only [List.map_toArray, List.map_cons, List.map_nil]); first | done | (simp only [hji26]; rfl) | rfl | (simp only [List.length_drop, List.length_take]; rfl)) ?_; (with_reducible refine (lz_Unpack.calls kj20 t223 a2 ji26 t227 t228 _ A27.out).mono ?_); rintro e w38 ⟨rfl, hb⟩; refine ⟨_, rfl, ?_⟩; have n0_ := Aside0.mk (below_step (by repeat (first | (with_reducible first | exact HB.out | apply below_alloc | apply pw_below_drewN | apply below_drew1) | exact HB.out)) hb); clear HB; have HB := n0_; clear n0_; (try clear hb); (try clear hb2); (try clear hk); (try clear hi)))
                        go_ret
                        exact ⟨by first | rfl | (simp [errW_none, errW_some] <;> rfl) | (simp only [← hji19, ← hji26]; first | rfl | (simp [errW_none, errW_some] <;> rfl)) | (simp [*, errW_none, errW_some] <;> rfl), by repeat (first | (with_reducible first | exact HB.out | apply below_alloc | apply pw_below_drewN | apply below_drew1) | exact HB.out)⟩
  · replace c5 := Bool.eq_false_iff.mpr c5
    subst c5
    have H1 : (some false) = some r := by rw [if_neg (show ¬ (false = true) by decide)] at H; exact H
    clear H
    have H := H1
    clear H1
    obtain rfl := Option.some.inj H
    go_enter Try.func6, Try.ntmps6
    go_wp2_with (first | ((with_reducible refine gate_callee (f := 12) rfl ?_); refine goesL_ (some 10) rfl rfl Try.func12 (by kernel_rfl) rfl #[] rfl (by (try simp only [List.map_toArray, List.map_cons, List.map_nil]); first | done | rfl | (simp only [List.length_drop, List.length_take]; rfl)) ?_; (with_reducible refine (gantrylaw04_fixed.calls k  false _ A4.out).mono ?_); rintro e w39 ⟨rfl, hb⟩; refine ⟨_, rfl, ?_⟩; have n0_ := Aside0.mk (below_step (by repeat (first | (with_reducible first | exact HB.out | apply below_alloc | apply pw_below_drewN | apply below_drew1) | exact HB.out)) hb); clear HB; have HB := n0_; clear n0_; (try clear hb); (try clear hb2); (try clear hk); (try clear hi)))
    go_ret
    exact ⟨by first | rfl | (simp [errW_none, errW_some] <;> rfl) | (simp [*, errW_none, errW_some] <;> rfl), by repeat (first | (with_reducible first | exact HB.out | apply below_alloc | apply pw_below_drewN | apply below_drew1) | exact HB.out)⟩

/-- THE ONE PURE STATEMENT of gantrylaw04_LzBacks: yours. -/
def gantrylaw04_LzBacks.Pure : Prop := ∀ (a0 : ByteArray) (a1 : Int) (a2 : Int), a0.size ≤ 140737488351232 → (Lit.int .i64 a1).wf = true → (Lit.int .i64 a2).wf = true → ∃ k, gantrylaw04_LzBacks.f k a0 a1 a2 = some true
theorem gantrylaw04_LzBacks.walk (P : gantrylaw04_LzBacks.Pure) (a0 : ByteArray) (a1 : Int) (a2 : Int) (w : World) (w0 : a0.size ≤ 140737488351232) (w1 : (Lit.int .i64 a1).wf = true) (w2 : (Lit.int .i64 a2).wf = true) :
    Calls Try.prog 6 #[.string a0, .int .i64 a1, .int .i64 a2] w fun e w' => e = .returned (.bool true) ∧ Below w.heap.size w w' := by
  obtain ⟨k, h⟩ := P a0 a1 a2 w0 w1 w2
  refine (gantrylaw04_LzBacks.calls k a0 a1 a2 true w h).mono ?_
  rintro e w' ⟨rfl, hd⟩
  exact ⟨rfl, hd⟩

/-! ### gantrylaw04_matches: function 21 -/
mutual
def gantrylaw04_matches.j0 : Nat → ByteArray → Int → Int → Int → Bool → Option (Bool)
  | 0, _, _, _, _, _ => none
  | k + 1, x0, x1, x2, x3, x28 => if x28 = true then (some false) else (gantrylaw04_matches.l0 k x0 x1 x2 x3 0)
def gantrylaw04_matches.l0 : Nat → ByteArray → Int → Int → Int → Int → Option (Bool)
  | 0, _, _, _, _, _ => none
  | k + 1, x0, x1, x2, x3, x9 => if x9 < x2 then (if 0 ≤ (wrap64 (x1 + x9)) then (if (wrap64 (x1 + x9)) < (x0.size : Int) then (if 0 ≤ (wrap64 ((wrap64 (x1 - x3)) + x9)) then (if (wrap64 ((wrap64 (x1 - x3)) + x9)) < (x0.size : Int) then (if (bt x0 (wrap64 (x1 + x9))) = (bt x0 (wrap64 ((wrap64 (x1 - x3)) + x9))) then (gantrylaw04_matches.l0 k x0 x1 x2 x3 (wrap64 (x9 + 1))) else (some false)) else (none)) else (none)) else (none)) else (none)) else (some true)
end
def gantrylaw04_matches.f (k : Nat) (a0 : ByteArray) (a1 : Int) (a2 : Int) (a3 : Int) : Option (Bool) := if a3 < 1 then (gantrylaw04_matches.j0 k a0 a1 a2 a3 true) else (if a3 > a1 then (gantrylaw04_matches.j0 k a0 a1 a2 a3 true) else (if a3 > 8192 then (gantrylaw04_matches.j0 k a0 a1 a2 a3 true) else (gantrylaw04_matches.j0 k a0 a1 a2 a3 (decide (a2 > (wrap64 ((a0.size : Int) - a1)))))))
theorem gantrylaw04_matches.mono_l : ∀ k, (∀ y0 y1 y2 y3 y4, LeO (gantrylaw04_matches.j0 k y0 y1 y2 y3 y4) (gantrylaw04_matches.j0 (k + 1) y0 y1 y2 y3 y4)) ∧ (∀ y0 y1 y2 y3 y4, LeO (gantrylaw04_matches.l0 k y0 y1 y2 y3 y4) (gantrylaw04_matches.l0 (k + 1) y0 y1 y2 y3 y4))
  | 0 => ⟨fun _ _ _ _ _ r h => by simp [gantrylaw04_matches.j0] at h, fun _ _ _ _ _ r h => by simp [gantrylaw04_matches.l0] at h⟩
  | k + 1 => by
    obtain ⟨ih0, ih1⟩ := gantrylaw04_matches.mono_l k
    refine ⟨?_, ?_⟩
    · intro y0 y1 y2 y3 y4
      unfold gantrylaw04_matches.j0
      repeat' first
      | (with_reducible exact ih0 _ _ _ _ _)
      | (with_reducible exact ih1 _ _ _ _ _)
      | (with_reducible exact LeO.refl _)
      | (with_reducible exact LeO.none _)
      | (with_reducible refine LeO.ite ?_ ?_)
      | (with_reducible refine LeO.bind ?_ (fun _ => ?_))
      | exact ih0 _ _ _ _ _
      | exact ih1 _ _ _ _ _
      | exact LeO.none _
      | refine LeO.ite ?_ ?_
      | refine LeO.bind ?_ (fun _ => ?_)
    · intro y0 y1 y2 y3 y4
      unfold gantrylaw04_matches.l0
      repeat' first
      | (with_reducible exact ih0 _ _ _ _ _)
      | (with_reducible exact ih1 _ _ _ _ _)
      | (with_reducible exact LeO.refl _)
      | (with_reducible exact LeO.none _)
      | (with_reducible refine LeO.ite ?_ ?_)
      | (with_reducible refine LeO.bind ?_ (fun _ => ?_))
      | exact ih0 _ _ _ _ _
      | exact ih1 _ _ _ _ _
      | exact LeO.none _
      | refine LeO.ite ?_ ?_
      | refine LeO.bind ?_ (fun _ => ?_)
theorem gantrylaw04_matches.mono : ∀ a0 a1 a2 a3 k, LeO (gantrylaw04_matches.f k a0 a1 a2 a3) (gantrylaw04_matches.f (k + 1) a0 a1 a2 a3) := by
  intro a0 a1 a2 a3 k
  obtain ⟨ih0, ih1⟩ := gantrylaw04_matches.mono_l k
  unfold gantrylaw04_matches.f
  repeat' first
      | (with_reducible exact ih0 _ _ _ _ _)
      | (with_reducible exact ih1 _ _ _ _ _)
      | (with_reducible exact LeO.refl _)
      | (with_reducible exact LeO.none _)
      | (with_reducible refine LeO.ite ?_ ?_)
      | (with_reducible refine LeO.bind ?_ (fun _ => ?_))
      | exact ih0 _ _ _ _ _
      | exact ih1 _ _ _ _ _
      | exact LeO.none _
      | refine LeO.ite ?_ ?_
      | refine LeO.bind ?_ (fun _ => ?_)
set_option maxHeartbeats 8000000 in
set_option maxRecDepth 100000 in
theorem gantrylaw04_matches.calls (k : Nat) (a0 : ByteArray) (a1 : Int) (a2 : Int) (a3 : Int) (r : Bool) (w : World) (h : gantrylaw04_matches.f k a0 a1 a2 a3 = some r) :
    Calls Try.prog 21 #[.string a0, .int .i64 a1, .int .i64 a2, .int .i64 a3] w fun e w' => e = .returned (.bool r) ∧ Drawn0 w w' := by
  have H : (if a3 < 1 then (gantrylaw04_matches.j0 k a0 a1 a2 a3 true) else (if a3 > a1 then (gantrylaw04_matches.j0 k a0 a1 a2 a3 true) else (if a3 > 8192 then (gantrylaw04_matches.j0 k a0 a1 a2 a3 true) else (gantrylaw04_matches.j0 k a0 a1 a2 a3 (decide (a2 > (wrap64 ((a0.size : Int) - a1)))))))) = some r := h
  clear h
  have HC5 := Aside0.mk H
  clear H
  go_enter Try.func21, Try.ntmps21
  go_upto_region 1 with (fail)
  repeat (go_quiet (fail); go_upto_region 1 with (fail))
  go_cut [28] (fun v28 wc => ∃ (kq : Nat) (x28_4 : Bool), v28 = .bool x28_4 ∧ Aside0 (gantrylaw04_matches.j0 kq a0 a1 a2 a3 x28_4 = some r) ∧ Aside0 (kq ≤ k) ∧ Drawn0 w wc)
  case first =>
    have H := HC5.out
    clear HC5
    by_cases c6 : a3 < 1
    · rw [if_pos c6] at H
      have c6b0 : decide (a3 < 1) = true := decide_eq_true c6
      clear c6
      (first | rw [c6b0] | (simp only [i64_w, i32_w]; rw [c6b0]) | skip)
      have H' := Aside0.mk H
      clear H
      go_wp2
      repeat (go_quiet (fail); try go_wp2)
      go_meet
      case rel => exact ⟨_, (true), (by first | rfl | (simp; done) | (simp [*]; done)), H', ⟨by first | omega | exact Nat.le_refl _⟩, by repeat (first | exact Drawn0.refl _ | apply Drawn0.step)⟩
    · rw [if_neg c6] at H
      have c6b0 : decide (a3 < 1) = false := decide_eq_false c6
      clear c6
      (first | rw [c6b0] | (simp only [i64_w, i32_w]; rw [c6b0]) | skip)
      by_cases c7 : a3 > a1
      · rw [if_pos c7] at H
        have c7b0 : decide (a1 < a3) = true := decide_eq_true c7
        clear c7
        have H' := Aside0.mk H
        clear H
        go_wp2
        repeat (go_quiet (fail); try go_wp2)
        go_meet
        case rel => exact ⟨_, (true), (by first | rfl | (simp; done) | (simp [*]; done)), H', ⟨by first | omega | exact Nat.le_refl _⟩, by repeat (first | exact Drawn0.refl _ | apply Drawn0.step)⟩
      · rw [if_neg c7] at H
        have c7b0 : decide (a1 < a3) = false := decide_eq_false c7
        clear c7
        by_cases c8 : a3 > 8192
        · rw [if_pos c8] at H
          have c8b0 : decide (8192 < a3) = true := decide_eq_true c8
          clear c8
          have H' := Aside0.mk H
          clear H
          go_wp2
          repeat (go_quiet (fail); try go_wp2)
          go_meet
          case rel => exact ⟨_, (true), (by first | rfl | (simp; done) | (simp [*]; done)), H', ⟨by first | omega | exact Nat.le_refl _⟩, by repeat (first | exact Drawn0.refl _ | apply Drawn0.step)⟩
        · rw [if_neg c8] at H
          have c8b0 : decide (8192 < a3) = false := decide_eq_false c8
          clear c8
          have H' := Aside0.mk H
          clear H
          go_wp2
          repeat (go_quiet (fail); try go_wp2)
          go_meet
          case rel => exact ⟨_, (decide (a2 > (wrap64 ((a0.size : Int) - a1)))), (by first | rfl | (simp; done) | (simp [*]; done)), H', ⟨by first | omega | exact Nat.le_refl _⟩, by repeat (first | exact Drawn0.refl _ | apply Drawn0.step)⟩
  case rest =>
    clear HC5
    try clear c2
    try clear p2
    try clear c6
    try clear c6b0
    try clear p6
    try clear c7
    try clear c7b0
    try clear c8
    try clear c8b0
    obtain ⟨kq, x28_4, rfl, HA, HJ4, ⟨mc4, rfl⟩⟩ := hcut
    cases kq with
    | zero => exact absurd HA.out (by simp [gantrylaw04_matches.j0])
    | succ kj4 =>
      have H := HA.out
      clear HA
      simp only [gantrylaw04_matches.j0] at H
      by_cases c9 : x28_4 = true
      · subst c9
        have H1 : (some false) = some r := by rw [if_pos rfl] at H; exact H
        clear H
        have H := H1
        clear H1
        obtain rfl := Option.some.inj H
        go_wp2
        repeat (go_quiet (fail); try go_wp2)
        go_ret
        exact ⟨by first | rfl | (simp; done) | (simp [*]; done), by repeat (first | exact Drawn0.refl _ | apply Drawn0.step)⟩
      · replace c9 := Bool.eq_false_iff.mpr c9
        subst c9
        have H1 : (gantrylaw04_matches.l0 kj4 a0 a1 a2 a3 0) = some r := by rw [if_neg (show ¬ (false = true) by decide)] at H; exact H
        clear H
        have H := H1
        clear H1
        have H' := Aside0.mk H
        clear H
        go_wp2
        repeat (go_quiet (fail); try go_wp2)
        go_loopg [9] kj4 (fun kq v9 w' => ∃ (x9_2 : Int), v9 = .int .i64 x9_2 ∧ Aside0 (gantrylaw04_matches.l0 kq a0 a1 a2 a3 x9_2 = some r) ∧ Aside0 (kq ≤ kj4) ∧ Drawn0 w w')
        case atStart => exact ⟨(0), (by first | rfl | (simp; done) | (simp [*]; done)), H', ⟨Nat.le_refl _⟩, by repeat (first | exact Drawn0.refl _ | apply Drawn0.step)⟩
        case round =>
          clear H'
          try clear c2
          try clear p2
          try clear c4
          try clear c6
          try clear c6b0
          try clear p6
          try clear c7
          try clear c7b0
          try clear c8
          try clear c8b0
          try clear c9
          try clear p2
          try clear p6
          obtain ⟨x9_2, rfl, HA, HK2, ⟨m2, rfl⟩⟩ := hrel
          cases gk with
          | zero => exact absurd HA.out (by simp [gantrylaw04_matches.l0])
          | succ k2 =>
            have H := HA.out
            clear HA
            simp only [gantrylaw04_matches.l0] at H
            by_cases c10 : x9_2 < a2
            · rw [if_pos c10] at H
              have c10b0 : decide (x9_2 < a2) = true := decide_eq_true c10
              clear c10
              obtain ⟨ji11, hji11⟩ : ∃ j_ : Int, (wrap64 (a1 + x9_2)) = j_ := ⟨_, rfl⟩
              replace H : (if 0 ≤ (ji11) then (if (ji11) < (a0.size : Int) then (if 0 ≤ (wrap64 ((wrap64 (a1 - a3)) + x9_2)) then (if (wrap64 ((wrap64 (a1 - a3)) + x9_2)) < (a0.size : Int) then (if (bt a0 (ji11)) = (bt a0 (wrap64 ((wrap64 (a1 - a3)) + x9_2))) then (gantrylaw04_matches.l0 k2 a0 a1 a2 a3 (wrap64 (x9_2 + 1))) else (some false)) else (none)) else (none)) else (none)) else (none)) = some r := by first | (rw [hji11] at H; exact H) | (simp only [hji11] at H ⊢; exact H)
              have hji11w : (IntKind.i64.wrap (a1 + x9_2)) = ji11 := (i64_w _).trans hji11
              by_cases c12 : 0 ≤ (ji11)
              · rw [if_pos c12] at H
                have c12b0 : decide (0 ≤ (ji11)) = true := decide_eq_true c12
                clear c12
                by_cases c13 : (ji11) < (a0.size : Int)
                · rw [if_pos c13] at H
                  have c13b0 : decide ((ji11) < (a0.size : Int)) = true := decide_eq_true c13
                  clear c13
                  obtain ⟨ji15, hji15⟩ : ∃ j_ : Int, (wrap64 ((wrap64 (a1 - a3)) + x9_2)) = j_ := ⟨_, rfl⟩
                  replace H : (if 0 ≤ (ji15) then (if (ji15) < (a0.size : Int) then (if (bt a0 (ji11)) = (bt a0 (ji15)) then (gantrylaw04_matches.l0 k2 a0 a1 a2 a3 (wrap64 (x9_2 + 1))) else (some false)) else (none)) else (none)) = some r := by first | (rw [hji15] at H; exact H) | (simp only [hji15] at H ⊢; exact H)
                  have hji15w : (IntKind.i64.wrap ((wrap64 (a1 - a3)) + x9_2)) = ji15 := (i64_w _).trans hji15
                  by_cases c16 : 0 ≤ (ji15)
                  · rw [if_pos c16] at H
                    have c16b0 : decide (0 ≤ (ji15)) = true := decide_eq_true c16
                    clear c16
                    by_cases c17 : (ji15) < (a0.size : Int)
                    · rw [if_pos c17] at H
                      have c17b0 : decide ((ji15) < (a0.size : Int)) = true := decide_eq_true c17
                      clear c17
                      by_cases c19 : (bt a0 (ji11)) = (bt a0 (ji15))
                      · rw [if_pos c19] at H
                        have c19b0 : ((bt a0 (ji11)) == (bt a0 (ji15))) = true := beq_iff_eq.mpr c19
                        have c19b1 : ((bt a0 (ji11)) != (bt a0 (ji15))) = false := bne_eq_false_iff_eq.mpr c19
                        clear c19
                        have H' := Aside0.mk H
                        clear H
                        have p14 : 0 ≤ ((ji11) : Int) := of_decide_eq_true (by first | (with_reducible assumption) | assumption)
                        have q14 : (ji11) < (a0.size : Int) := of_decide_eq_true (by first | (with_reducible assumption) | assumption)
                        have hx14 := bt_at a0 (ji11)
                        replace p14 := eq_true p14
                        replace q14 := eq_true q14
                        have p18 : 0 ≤ ((ji15) : Int) := of_decide_eq_true (by first | (with_reducible assumption) | assumption)
                        have q18 : (ji15) < (a0.size : Int) := of_decide_eq_true (by first | (with_reducible assumption) | assumption)
                        have hx18 := bt_at a0 (ji15)
                        replace p18 := eq_true p18
                        replace q18 := eq_true q18
                        go_wp2
                        repeat (go_quiet (fail); try go_wp2)
                        go_roundg k2
                        case measure => have := HJ4.out; have := HK2.out; omega
                        case rel => exact ⟨(wrap64 (x9_2 + 1)), (by first | rfl | (simp; done) | (simp [*]; done)), H', ⟨by have := HJ4.out; have := HK2.out; omega⟩, by repeat (first | exact Drawn0.refl _ | apply Drawn0.step)⟩
                      · rw [if_neg c19] at H
                        have c19b0 : ((bt a0 (ji11)) == (bt a0 (ji15))) = false := beq_eq_false_iff_ne.mpr c19
                        have c19b1 : ((bt a0 (ji11)) != (bt a0 (ji15))) = true := bne_iff_ne.mpr c19
                        obtain rfl := Option.some.inj H
                        have p14 : 0 ≤ ((ji11) : Int) := of_decide_eq_true (by first | (with_reducible assumption) | assumption)
                        have q14 : (ji11) < (a0.size : Int) := of_decide_eq_true (by first | (with_reducible assumption) | assumption)
                        have hx14 := bt_at a0 (ji11)
                        replace p14 := eq_true p14
                        replace q14 := eq_true q14
                        have p18 : 0 ≤ ((ji15) : Int) := of_decide_eq_true (by first | (with_reducible assumption) | assumption)
                        have q18 : (ji15) < (a0.size : Int) := of_decide_eq_true (by first | (with_reducible assumption) | assumption)
                        have hx18 := bt_at a0 (ji15)
                        replace p18 := eq_true p18
                        replace q18 := eq_true q18
                        go_wp2
                        repeat (go_quiet (fail); try go_wp2)
                        go_ret
                        exact ⟨by first | rfl | (simp; done) | (simp only [← hji11, ← hji15] <;> (first | rfl | simp)) | (simp [*]; done), by repeat (first | exact Drawn0.refl _ | apply Drawn0.step)⟩
                    · rw [if_neg c17] at H
                      exact absurd H (by simp)
                  · rw [if_neg c16] at H
                    exact absurd H (by simp)
                · rw [if_neg c13] at H
                  exact absurd H (by simp)
              · rw [if_neg c12] at H
                exact absurd H (by simp)
            · rw [if_neg c10] at H
              have c10b0 : decide (x9_2 < a2) = false := decide_eq_false c10
              clear c10
              obtain rfl := Option.some.inj H
              go_wp2
              repeat (go_quiet (fail); try go_wp2)
              go_ret
              exact ⟨by first | rfl | (simp; done) | (simp [*]; done), by repeat (first | exact Drawn0.refl _ | apply Drawn0.step)⟩

end Go.Proofs.Ytgnoaokpahklaaa.QB
