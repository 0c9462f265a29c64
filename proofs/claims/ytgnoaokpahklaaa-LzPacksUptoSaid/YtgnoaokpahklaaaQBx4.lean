/- The machine side of a law, written by a program of this session (the kit printer, changed; wip/tools/mkprint.py): functions, their calls, the row. Lean checks it. -/
import Derived.Test.YtgnoaokpahklaaaQBx0
namespace Go.Proofs.Ytgnoaokpahklaaa.QB
open Go.RowKit Go.Proofs.YtgnoaokpahklaaaW.PrintWords Go.Proofs.YtgnoaokpahklaaaW.PrintLast Go.Proofs.YtgnoaokpahklaaaW.PrintMore
attribute [local go_sem] max2_int min2_int max_two min_two max_three min_three max_four min_four   -- for this text's walks alone
set_option linter.unusedVariables false
set_option linter.unusedSimpArgs false

/-! ### gantryref04_Best: function 16 -/
mutual
def gantryref04_Best.j0 : Nat → ByteArray → Int → Bool → Option (Int × Int)
  | 0, _, _, _ => none
  | k + 1, x0, x1, x17 => if x17 = true then (some (0, 0)) else (gantryref04_Best.l0 k x0 x1 0 0 1)
def gantryref04_Best.l0 : Nat → ByteArray → Int → Int → Int → Int → Option (Int × Int)
  | 0, _, _, _, _, _ => none
  | k + 1, x0, x1, x6, x7, x8 => if x8 ≤ x1 then (if x8 ≤ 8192 then (gantryref04_Best.j2 k x0 x1 x6 x7 x8 (decide (x6 < 131))) else (gantryref04_Best.j2 k x0 x1 x6 x7 x8 false)) else (gantryref04_Best.j2 k x0 x1 x6 x7 x8 false)
def gantryref04_Best.j2 : Nat → ByteArray → Int → Int → Int → Int → Bool → Option (Int × Int)
  | 0, _, _, _, _, _, _ => none
  | k + 1, x0, x1, x6, x7, x8, x28 => if x28 = true then (if (wrap64 (x1 + x6)) ≥ (x0.size : Int) then (if x6 < 4 then (some (0, 0)) else (some (x6, x7))) else (if 0 ≤ (wrap64 (x1 - x8)) then (if (wrap64 (x1 - x8)) < (x0.size : Int) then (if 0 ≤ x1 then (if x1 < (x0.size : Int) then (if (bt x0 (wrap64 (x1 - x8))) = (bt x0 x1) then (if 0 ≤ (wrap64 ((wrap64 (x1 - x8)) + x6)) then (if (wrap64 ((wrap64 (x1 - x8)) + x6)) < (x0.size : Int) then (if 0 ≤ (wrap64 (x1 + x6)) then (if (wrap64 (x1 + x6)) < (x0.size : Int) then (gantryref04_Best.j3 k x0 x1 x6 x7 x8 ((bt x0 (wrap64 ((wrap64 (x1 - x8)) + x6))) != (bt x0 (wrap64 (x1 + x6))))) else (none)) else (none)) else (none)) else (none)) else (gantryref04_Best.j3 k x0 x1 x6 x7 x8 true)) else (none)) else (none)) else (none)) else (none))) else (if x6 < 4 then (some (0, 0)) else (some (x6, x7)))
def gantryref04_Best.j3 : Nat → ByteArray → Int → Int → Int → Int → Bool → Option (Int × Int)
  | 0, _, _, _, _, _, _ => none
  | k + 1, x0, x1, x6, x7, x8, x60 => if x60 = true then (gantryref04_Best.l0 k x0 x1 x6 x7 (wrap64 (x8 + 1))) else (gantryref04_Best.l1 k x0 x1 x6 x7 x8 0)
def gantryref04_Best.l1 : Nat → ByteArray → Int → Int → Int → Int → Int → Option (Int × Int)
  | 0, _, _, _, _, _, _ => none
  | k + 1, x0, x1, x6, x7, x8, x9 => if (wrap64 (x1 + x9)) < (x0.size : Int) then (if x9 < 131 then (if 0 ≤ (wrap64 ((wrap64 (x1 - x8)) + x9)) then (if (wrap64 ((wrap64 (x1 - x8)) + x9)) < (x0.size : Int) then (if 0 ≤ (wrap64 (x1 + x9)) then (if (bt x0 (wrap64 ((wrap64 (x1 - x8)) + x9))) = (bt x0 (wrap64 (x1 + x9))) then (gantryref04_Best.l1 k x0 x1 x6 x7 x8 (wrap64 (x9 + 1))) else (if x9 > x6 then (gantryref04_Best.l0 k x0 x1 x9 x8 (wrap64 (x8 + 1))) else (gantryref04_Best.l0 k x0 x1 x6 x7 (wrap64 (x8 + 1))))) else (none)) else (none)) else (none)) else (if x9 > x6 then (gantryref04_Best.l0 k x0 x1 x9 x8 (wrap64 (x8 + 1))) else (gantryref04_Best.l0 k x0 x1 x6 x7 (wrap64 (x8 + 1))))) else (if x9 > x6 then (gantryref04_Best.l0 k x0 x1 x9 x8 (wrap64 (x8 + 1))) else (gantryref04_Best.l0 k x0 x1 x6 x7 (wrap64 (x8 + 1))))
end
def gantryref04_Best.f (k : Nat) (a0 : ByteArray) (a1 : Int) : Option (Int × Int) := if a1 < 0 then (gantryref04_Best.j0 k a0 a1 true) else (gantryref04_Best.j0 k a0 a1 (decide (a1 ≥ (a0.size : Int))))
theorem gantryref04_Best.mono_l : ∀ k, (∀ y0 y1 y2, LeO (gantryref04_Best.j0 k y0 y1 y2) (gantryref04_Best.j0 (k + 1) y0 y1 y2)) ∧ (∀ y0 y1 y2 y3 y4, LeO (gantryref04_Best.l0 k y0 y1 y2 y3 y4) (gantryref04_Best.l0 (k + 1) y0 y1 y2 y3 y4)) ∧ (∀ y0 y1 y2 y3 y4 y5, LeO (gantryref04_Best.j2 k y0 y1 y2 y3 y4 y5) (gantryref04_Best.j2 (k + 1) y0 y1 y2 y3 y4 y5)) ∧ (∀ y0 y1 y2 y3 y4 y5, LeO (gantryref04_Best.j3 k y0 y1 y2 y3 y4 y5) (gantryref04_Best.j3 (k + 1) y0 y1 y2 y3 y4 y5)) ∧ (∀ y0 y1 y2 y3 y4 y5, LeO (gantryref04_Best.l1 k y0 y1 y2 y3 y4 y5) (gantryref04_Best.l1 (k + 1) y0 y1 y2 y3 y4 y5))
  | 0 => ⟨fun _ _ _ r h => by simp [gantryref04_Best.j0] at h, fun _ _ _ _ _ r h => by simp [gantryref04_Best.l0] at h, fun _ _ _ _ _ _ r h => by simp [gantryref04_Best.j2] at h, fun _ _ _ _ _ _ r h => by simp [gantryref04_Best.j3] at h, fun _ _ _ _ _ _ r h => by simp [gantryref04_Best.l1] at h⟩
  | k + 1 => by
    obtain ⟨ih0, ih1, ih2, ih3, ih4⟩ := gantryref04_Best.mono_l k
    refine ⟨?_, ?_, ?_, ?_, ?_⟩
    · intro y0 y1 y2
      unfold gantryref04_Best.j0
      repeat' first
      | (with_reducible exact ih0 _ _ _)
      | (with_reducible exact ih1 _ _ _ _ _)
      | (with_reducible exact ih2 _ _ _ _ _ _)
      | (with_reducible exact ih3 _ _ _ _ _ _)
      | (with_reducible exact ih4 _ _ _ _ _ _)
      | (with_reducible exact LeO.refl _)
      | (with_reducible exact LeO.none _)
      | (with_reducible refine LeO.ite ?_ ?_)
      | (with_reducible refine LeO.bind ?_ (fun _ => ?_))
      | exact ih0 _ _ _
      | exact ih1 _ _ _ _ _
      | exact ih2 _ _ _ _ _ _
      | exact ih3 _ _ _ _ _ _
      | exact ih4 _ _ _ _ _ _
      | exact LeO.none _
      | refine LeO.ite ?_ ?_
      | refine LeO.bind ?_ (fun _ => ?_)
    · intro y0 y1 y2 y3 y4
      unfold gantryref04_Best.l0
      repeat' first
      | (with_reducible exact ih0 _ _ _)
      | (with_reducible exact ih1 _ _ _ _ _)
      | (with_reducible exact ih2 _ _ _ _ _ _)
      | (with_reducible exact ih3 _ _ _ _ _ _)
      | (with_reducible exact ih4 _ _ _ _ _ _)
      | (with_reducible exact LeO.refl _)
      | (with_reducible exact LeO.none _)
      | (with_reducible refine LeO.ite ?_ ?_)
      | (with_reducible refine LeO.bind ?_ (fun _ => ?_))
      | exact ih0 _ _ _
      | exact ih1 _ _ _ _ _
      | exact ih2 _ _ _ _ _ _
      | exact ih3 _ _ _ _ _ _
      | exact ih4 _ _ _ _ _ _
      | exact LeO.none _
      | refine LeO.ite ?_ ?_
      | refine LeO.bind ?_ (fun _ => ?_)
    · intro y0 y1 y2 y3 y4 y5
      unfold gantryref04_Best.j2
      repeat' first
      | (with_reducible exact ih0 _ _ _)
      | (with_reducible exact ih1 _ _ _ _ _)
      | (with_reducible exact ih2 _ _ _ _ _ _)
      | (with_reducible exact ih3 _ _ _ _ _ _)
      | (with_reducible exact ih4 _ _ _ _ _ _)
      | (with_reducible exact LeO.refl _)
      | (with_reducible exact LeO.none _)
      | (with_reducible refine LeO.ite ?_ ?_)
      | (with_reducible refine LeO.bind ?_ (fun _ => ?_))
      | exact ih0 _ _ _
      | exact ih1 _ _ _ _ _
      | exact ih2 _ _ _ _ _ _
      | exact ih3 _ _ _ _ _ _
      | exact ih4 _ _ _ _ _ _
      | exact LeO.none _
      | refine LeO.ite ?_ ?_
      | refine LeO.bind ?_ (fun _ => ?_)
    · intro y0 y1 y2 y3 y4 y5
      unfold gantryref04_Best.j3
      repeat' first
      | (with_reducible exact ih0 _ _ _)
      | (with_reducible exact ih1 _ _ _ _ _)
      | (with_reducible exact ih2 _ _ _ _ _ _)
      | (with_reducible exact ih3 _ _ _ _ _ _)
      | (with_reducible exact ih4 _ _ _ _ _ _)
      | (with_reducible exact LeO.refl _)
      | (with_reducible exact LeO.none _)
      | (with_reducible refine LeO.ite ?_ ?_)
      | (with_reducible refine LeO.bind ?_ (fun _ => ?_))
      | exact ih0 _ _ _
      | exact ih1 _ _ _ _ _
      | exact ih2 _ _ _ _ _ _
      | exact ih3 _ _ _ _ _ _
      | exact ih4 _ _ _ _ _ _
      | exact LeO.none _
      | refine LeO.ite ?_ ?_
      | refine LeO.bind ?_ (fun _ => ?_)
    · intro y0 y1 y2 y3 y4 y5
      unfold gantryref04_Best.l1
      repeat' first
      | (with_reducible exact ih0 _ _ _)
      | (with_reducible exact ih1 _ _ _ _ _)
      | (with_reducible exact ih2 _ _ _ _ _ _)
      | (with_reducible exact ih3 _ _ _ _ _ _)
      | (with_reducible exact ih4 _ _ _ _ _ _)
      | (with_reducible exact LeO.refl _)
      | (with_reducible exact LeO.none _)
      | (with_reducible refine LeO.ite ?_ ?_)
      | (with_reducible refine LeO.bind ?_ (fun _ => ?_))
      | exact ih0 _ _ _
      | exact ih1 _ _ _ _ _
      | exact ih2 _ _ _ _ _ _
      | exact ih3 _ _ _ _ _ _
      | exact ih4 _ _ _ _ _ _
      | exact LeO.none _
      | refine LeO.ite ?_ ?_
      | refine LeO.bind ?_ (fun _ => ?_)
theorem gantryref04_Best.mono : ∀ a0 a1 k, LeO (gantryref04_Best.f k a0 a1) (gantryref04_Best.f (k + 1) a0 a1) := by
  intro a0 a1 k
  obtain ⟨ih0, ih1, ih2, ih3, ih4⟩ := gantryref04_Best.mono_l k
  unfold gantryref04_Best.f
  repeat' first
      | (with_reducible exact ih0 _ _ _)
      | (with_reducible exact ih1 _ _ _ _ _)
      | (with_reducible exact ih2 _ _ _ _ _ _)
      | (with_reducible exact ih3 _ _ _ _ _ _)
      | (with_reducible exact ih4 _ _ _ _ _ _)
      | (with_reducible exact LeO.refl _)
      | (with_reducible exact LeO.none _)
      | (with_reducible refine LeO.ite ?_ ?_)
      | (with_reducible refine LeO.bind ?_ (fun _ => ?_))
      | exact ih0 _ _ _
      | exact ih1 _ _ _ _ _
      | exact ih2 _ _ _ _ _ _
      | exact ih3 _ _ _ _ _ _
      | exact ih4 _ _ _ _ _ _
      | exact LeO.none _
      | refine LeO.ite ?_ ?_
      | refine LeO.bind ?_ (fun _ => ?_)
set_option maxHeartbeats 8000000 in
set_option maxRecDepth 100000 in
theorem gantryref04_Best.calls (k : Nat) (a0 : ByteArray) (a1 : Int) (r1 : Int) (r2 : Int) (w : World) (h : gantryref04_Best.f k a0 a1 = some (r1, r2)) :
    Calls Try.prog 16 #[.string a0, .int .i64 a1] w fun e w' => e = .returned (.tuple #[.int .i64 r1, .int .i64 r2]) ∧ Drawn0 w w' := by
  have H : (if a1 < 0 then (gantryref04_Best.j0 k a0 a1 true) else (gantryref04_Best.j0 k a0 a1 (decide (a1 ≥ (a0.size : Int))))) = some (r1, r2) := h
  clear h
  have HC3 := Aside0.mk H
  clear H
  go_enter Try.func16, Try.ntmps16
  go_upto_region 1 with (fail)
  repeat (go_quiet (fail); go_upto_region 1 with (fail))
  go_cut [17] (fun v17 wc => ∃ (kq : Nat) (x17_2 : Bool), v17 = .bool x17_2 ∧ Aside0 (gantryref04_Best.j0 kq a0 a1 x17_2 = some (r1, r2)) ∧ Aside0 (kq ≤ k) ∧ Drawn0 w wc)
  case first =>
    have H := HC3.out
    clear HC3
    by_cases c4 : a1 < 0
    · rw [if_pos c4] at H
      have c4b0 : decide (a1 < 0) = true := decide_eq_true c4
      clear c4
      (first | rw [c4b0] | (simp only [i64_w, i32_w]; rw [c4b0]) | skip)
      have H' := Aside0.mk H
      clear H
      go_wp2
      repeat (go_quiet (fail); try go_wp2)
      go_meet
      case rel => exact ⟨_, (true), (by first | rfl | (simp; done) | (simp [*]; done)), H', ⟨by first | omega | exact Nat.le_refl _⟩, by repeat (first | exact Drawn0.refl _ | apply Drawn0.step)⟩
    · rw [if_neg c4] at H
      have c4b0 : decide (a1 < 0) = false := decide_eq_false c4
      clear c4
      (first | rw [c4b0] | (simp only [i64_w, i32_w]; rw [c4b0]) | skip)
      have H' := Aside0.mk H
      clear H
      go_wp2
      repeat (go_quiet (fail); try go_wp2)
      go_meet
      case rel => exact ⟨_, (decide (a1 ≥ (a0.size : Int))), (by first | rfl | (simp; done) | (simp [*]; done)), H', ⟨by first | omega | exact Nat.le_refl _⟩, by repeat (first | exact Drawn0.refl _ | apply Drawn0.step)⟩
  case rest =>
    clear HC3
    try clear c1
    try clear p2
    try clear c4
    try clear c4b0
    obtain ⟨kq, x17_2, rfl, HA, HJ2, ⟨mc2, rfl⟩⟩ := hcut
    cases kq with
    | zero => exact absurd HA.out (by simp [gantryref04_Best.j0])
    | succ kj2 =>
      have H := HA.out
      clear HA
      simp only [gantryref04_Best.j0] at H
      by_cases c5 : x17_2 = true
      · subst c5
        have H1 : (some (0, 0)) = some (r1, r2) := by rw [if_pos rfl] at H; exact H
        clear H
        have H := H1
        clear H1
        simp only [Option.some.injEq, Prod.mk.injEq] at H
        obtain ⟨rfl, rfl⟩ := H
        go_wp2
        repeat (go_quiet (fail); try go_wp2)
        go_ret2
        exact ⟨by first | rfl | (simp; done) | (simp [*]; done), by repeat (first | exact Drawn0.refl _ | apply Drawn0.step)⟩
      · replace c5 := Bool.eq_false_iff.mpr c5
        subst c5
        have H1 : (gantryref04_Best.l0 kj2 a0 a1 0 0 1) = some (r1, r2) := by rw [if_neg (show ¬ (false = true) by decide)] at H; exact H
        clear H
        have H := H1
        clear H1
        have H' := Aside0.mk H
        clear H
        go_wp2
        repeat (go_quiet (fail); try go_wp2)
        go_loopg [6, 7, 8] kj2 (fun kq v6 v7 v8 w' => ∃ (x6_2 : Int) (x7_2 : Int) (x8_2 : Int), v6 = .int .i64 x6_2 ∧ v7 = .int .i64 x7_2 ∧ v8 = .int .i64 x8_2 ∧ Aside0 (gantryref04_Best.l0 kq a0 a1 x6_2 x7_2 x8_2 = some (r1, r2)) ∧ Aside0 (kq ≤ kj2) ∧ Drawn0 w w')
        case atStart => exact ⟨(0), (0), (1), (by first | rfl | (simp; done) | (simp [*]; done)), (by first | rfl | (simp; done) | (simp [*]; done)), (by first | rfl | (simp; done) | (simp [*]; done)), H', ⟨Nat.le_refl _⟩, by repeat (first | exact Drawn0.refl _ | apply Drawn0.step)⟩
        case round =>
          clear H'
          try clear c1
          try clear c2
          try clear p2
          try clear c4
          try clear c4b0
          try clear c5
          try clear p2
          obtain ⟨x6_2, x7_2, x8_2, rfl, rfl, rfl, HA, HK2, ⟨m2, rfl⟩⟩ := hrel
          cases gk with
          | zero => exact absurd HA.out (by simp [gantryref04_Best.l0])
          | succ k2 =>
            have H := HA.out
            clear HA
            simp only [gantryref04_Best.l0] at H
            have HC6 := Aside0.mk H
            clear H
            go_upto_region 5 with (fail)
            repeat (go_quiet (fail); go_upto_region 5 with (fail))
            go_cut [28] (fun v28 wc => ∃ (kq : Nat) (x28_5 : Bool), v28 = .bool x28_5 ∧ Aside0 (gantryref04_Best.j2 kq a0 a1 x6_2 x7_2 x8_2 x28_5 = some (r1, r2)) ∧ Aside0 (kq ≤ k2) ∧ Drawn0 w wc)
            case first =>
              have H := HC6.out
              clear HC6
              by_cases c7 : x8_2 ≤ a1
              · rw [if_pos c7] at H
                have c7b0 : decide (x8_2 ≤ a1) = true := decide_eq_true c7
                clear c7
                (first | rw [c7b0] | (simp only [i64_w, i32_w]; rw [c7b0]) | skip)
                by_cases c8 : x8_2 ≤ 8192
                · rw [if_pos c8] at H
                  have c8b0 : decide (x8_2 ≤ 8192) = true := decide_eq_true c8
                  clear c8
                  have H' := Aside0.mk H
                  clear H
                  go_wp2
                  repeat (go_quiet (fail); try go_wp2)
                  go_meet
                  case rel => exact ⟨_, (decide (x6_2 < 131)), (by first | rfl | (simp; done) | (simp [*]; done)), H', ⟨by have := HJ2.out; have := HK2.out; first | omega | exact Nat.le_refl _⟩, by repeat (first | exact Drawn0.refl _ | apply Drawn0.step)⟩
                · rw [if_neg c8] at H
                  have c8b0 : decide (x8_2 ≤ 8192) = false := decide_eq_false c8
                  clear c8
                  have H' := Aside0.mk H
                  clear H
                  go_wp2
                  repeat (go_quiet (fail); try go_wp2)
                  go_meet
                  case rel => exact ⟨_, (false), (by first | rfl | (simp; done) | (simp [*]; done)), H', ⟨by have := HJ2.out; have := HK2.out; first | omega | exact Nat.le_refl _⟩, by repeat (first | exact Drawn0.refl _ | apply Drawn0.step)⟩
              · rw [if_neg c7] at H
                have c7b0 : decide (x8_2 ≤ a1) = false := decide_eq_false c7
                clear c7
                (first | rw [c7b0] | (simp only [i64_w, i32_w]; rw [c7b0]) | skip)
                have H' := Aside0.mk H
                clear H
                go_wp2
                repeat (go_quiet (fail); try go_wp2)
                go_meet
                case rel => exact ⟨_, (false), (by first | rfl | (simp; done) | (simp [*]; done)), H', ⟨by have := HJ2.out; have := HK2.out; first | omega | exact Nat.le_refl _⟩, by repeat (first | exact Drawn0.refl _ | apply Drawn0.step)⟩
            case rest =>
              clear HC6
              try clear c1
              try clear c2
              try clear p2
              try clear c4
              try clear c4b0
              try clear c5
              try clear c7
              try clear c7b0
              try clear c8
              try clear c8b0
              try clear p2
              obtain ⟨kq, x28_5, rfl, HA, HJ5, ⟨mc5, rfl⟩⟩ := hcut
              cases kq with
              | zero => exact absurd HA.out (by simp [gantryref04_Best.j2])
              | succ kj5 =>
                have H := HA.out
                clear HA
                simp only [gantryref04_Best.j2] at H
                by_cases c9 : x28_5 = true
                · subst c9
                  have H1 : (if (wrap64 (a1 + x6_2)) ≥ (a0.size : Int) then (if x6_2 < 4 then (some (0, 0)) else (some (x6_2, x7_2))) else (if 0 ≤ (wrap64 (a1 - x8_2)) then (if (wrap64 (a1 - x8_2)) < (a0.size : Int) then (if 0 ≤ a1 then (if a1 < (a0.size : Int) then (if (bt a0 (wrap64 (a1 - x8_2))) = (bt a0 a1) then (if 0 ≤ (wrap64 ((wrap64 (a1 - x8_2)) + x6_2)) then (if (wrap64 ((wrap64 (a1 - x8_2)) + x6_2)) < (a0.size : Int) then (if 0 ≤ (wrap64 (a1 + x6_2)) then (if (wrap64 (a1 + x6_2)) < (a0.size : Int) then (gantryref04_Best.j3 kj5 a0 a1 x6_2 x7_2 x8_2 ((bt a0 (wrap64 ((wrap64 (a1 - x8_2)) + x6_2))) != (bt a0 (wrap64 (a1 + x6_2))))) else (none)) else (none)) else (none)) else (none)) else (gantryref04_Best.j3 kj5 a0 a1 x6_2 x7_2 x8_2 true)) else (none)) else (none)) else (none)) else (none))) = some (r1, r2) := by rw [if_pos rfl] at H; exact H
                  clear H
                  have H := H1
                  clear H1
                  by_cases c10 : (wrap64 (a1 + x6_2)) ≥ (a0.size : Int)
                  · rw [if_pos c10] at H
                    have c10b0 : decide ((a0.size : Int) ≤ (wrap64 (a1 + x6_2))) = true := decide_eq_true c10
                    clear c10
                    by_cases c11 : x6_2 < 4
                    · rw [if_pos c11] at H
                      have c11b0 : decide (x6_2 < 4) = true := decide_eq_true c11
                      clear c11
                      simp only [Option.some.injEq, Prod.mk.injEq] at H
                      obtain ⟨rfl, rfl⟩ := H
                      go_wp2
                      repeat (go_quiet (fail); try go_wp2)
                      go_ret2
                      exact ⟨by first | rfl | (simp; done) | (simp [*]; done), by repeat (first | exact Drawn0.refl _ | apply Drawn0.step)⟩
                    · rw [if_neg c11] at H
                      have c11b0 : decide (x6_2 < 4) = false := decide_eq_false c11
                      clear c11
                      simp only [Option.some.injEq, Prod.mk.injEq] at H
                      obtain ⟨rfl, rfl⟩ := H
                      go_wp2
                      repeat (go_quiet (fail); try go_wp2)
                      go_ret2
                      exact ⟨by first | rfl | (simp; done) | (simp [*]; done), by repeat (first | exact Drawn0.refl _ | apply Drawn0.step)⟩
                  · rw [if_neg c10] at H
                    have c10b0 : decide ((a0.size : Int) ≤ (wrap64 (a1 + x6_2))) = false := decide_eq_false c10
                    clear c10
                    have HC12 := Aside0.mk H
                    clear H
                    go_upto_region 8 with (fail)
                    repeat (go_quiet (fail); go_upto_region 8 with (fail))
                    go_cut [60] (fun v60 wc => ∃ (kq : Nat) (x60_11 : Bool), v60 = .bool x60_11 ∧ Aside0 (gantryref04_Best.j3 kq a0 a1 x6_2 x7_2 x8_2 x60_11 = some (r1, r2)) ∧ Aside0 (kq ≤ kj5) ∧ Drawn0 w wc)
                    case first =>
                      have H := HC12.out
                      clear HC12
                      obtain ⟨ji13, hji13⟩ : ∃ j_ : Int, (wrap64 (a1 - x8_2)) = j_ := ⟨_, rfl⟩
                      replace H : (if 0 ≤ (ji13) then (if (ji13) < (a0.size : Int) then (if 0 ≤ a1 then (if a1 < (a0.size : Int) then (if (bt a0 (ji13)) = (bt a0 a1) then (if 0 ≤ (wrap64 ((ji13) + x6_2)) then (if (wrap64 ((ji13) + x6_2)) < (a0.size : Int) then (if 0 ≤ (wrap64 (a1 + x6_2)) then (if (wrap64 (a1 + x6_2)) < (a0.size : Int) then (gantryref04_Best.j3 kj5 a0 a1 x6_2 x7_2 x8_2 ((bt a0 (wrap64 ((ji13) + x6_2))) != (bt a0 (wrap64 (a1 + x6_2))))) else (none)) else (none)) else (none)) else (none)) else (gantryref04_Best.j3 kj5 a0 a1 x6_2 x7_2 x8_2 true)) else (none)) else (none)) else (none)) else (none)) = some (r1, r2) := by first | (rw [hji13] at H; exact H) | (simp only [hji13] at H ⊢; exact H)
                      have hji13w : (IntKind.i64.wrap (a1 - x8_2)) = ji13 := (i64_w _).trans hji13
                      by_cases c14 : 0 ≤ (ji13)
                      · rw [if_pos c14] at H
                        have c14b0 : decide (0 ≤ (ji13)) = true := decide_eq_true c14
                        clear c14
                        (first | rw [c14b0] | (simp only [i64_w, i32_w]; rw [c14b0]) | skip)
                        by_cases c15 : (ji13) < (a0.size : Int)
                        · rw [if_pos c15] at H
                          have c15b0 : decide ((ji13) < (a0.size : Int)) = true := decide_eq_true c15
                          clear c15
                          by_cases c17 : 0 ≤ a1
                          · rw [if_pos c17] at H
                            have c17b0 : decide (0 ≤ a1) = true := decide_eq_true c17
                            clear c17
                            by_cases c18 : a1 < (a0.size : Int)
                            · rw [if_pos c18] at H
                              have c18b0 : decide (a1 < (a0.size : Int)) = true := decide_eq_true c18
                              clear c18
                              by_cases c20 : (bt a0 (ji13)) = (bt a0 a1)
                              · rw [if_pos c20] at H
                                have c20b0 : ((bt a0 (ji13)) == (bt a0 a1)) = true := beq_iff_eq.mpr c20
                                have c20b1 : ((bt a0 (ji13)) != (bt a0 a1)) = false := bne_eq_false_iff_eq.mpr c20
                                clear c20
                                obtain ⟨ji21, hji21⟩ : ∃ j_ : Int, (wrap64 ((ji13) + x6_2)) = j_ := ⟨_, rfl⟩
                                replace H : (if 0 ≤ (ji21) then (if (ji21) < (a0.size : Int) then (if 0 ≤ (wrap64 (a1 + x6_2)) then (if (wrap64 (a1 + x6_2)) < (a0.size : Int) then (gantryref04_Best.j3 kj5 a0 a1 x6_2 x7_2 x8_2 ((bt a0 (ji21)) != (bt a0 (wrap64 (a1 + x6_2))))) else (none)) else (none)) else (none)) else (none)) = some (r1, r2) := by first | (rw [hji21] at H; exact H) | (simp only [hji21] at H ⊢; exact H)
                                have hji21w : (IntKind.i64.wrap ((ji13) + x6_2)) = ji21 := (i64_w _).trans hji21
                                by_cases c22 : 0 ≤ (ji21)
                                · rw [if_pos c22] at H
                                  have c22b0 : decide (0 ≤ (ji21)) = true := decide_eq_true c22
                                  clear c22
                                  by_cases c23 : (ji21) < (a0.size : Int)
                                  · rw [if_pos c23] at H
                                    have c23b0 : decide ((ji21) < (a0.size : Int)) = true := decide_eq_true c23
                                    clear c23
                                    obtain ⟨ji25, hji25⟩ : ∃ j_ : Int, (wrap64 (a1 + x6_2)) = j_ := ⟨_, rfl⟩
                                    replace H : (if 0 ≤ (ji25) then (if (ji25) < (a0.size : Int) then (gantryref04_Best.j3 kj5 a0 a1 x6_2 x7_2 x8_2 ((bt a0 (ji21)) != (bt a0 (ji25)))) else (none)) else (none)) = some (r1, r2) := by first | (rw [hji25] at H; exact H) | (simp only [hji25] at H ⊢; exact H)
                                    (try rw [hji25] at c10b0)
                                    have hji25w : (IntKind.i64.wrap (a1 + x6_2)) = ji25 := (i64_w _).trans hji25
                                    by_cases c26 : 0 ≤ (ji25)
                                    · rw [if_pos c26] at H
                                      have c26b0 : decide (0 ≤ (ji25)) = true := decide_eq_true c26
                                      clear c26
                                      by_cases c27 : (ji25) < (a0.size : Int)
                                      · rw [if_pos c27] at H
                                        have c27b0 : decide ((ji25) < (a0.size : Int)) = true := decide_eq_true c27
                                        clear c27
                                        have H' := Aside0.mk H
                                        clear H
                                        have p16 : 0 ≤ ((ji13) : Int) := of_decide_eq_true (by first | (with_reducible assumption) | assumption)
                                        have q16 : (ji13) < (a0.size : Int) := of_decide_eq_true (by first | (with_reducible assumption) | assumption)
                                        have hx16 := bt_at a0 (ji13)
                                        replace p16 := eq_true p16
                                        replace q16 := eq_true q16
                                        have p19 : 0 ≤ (a1 : Int) := of_decide_eq_true (by first | (with_reducible assumption) | assumption)
                                        have q19 : a1 < (a0.size : Int) := of_decide_eq_true (by first | (with_reducible assumption) | assumption)
                                        have hx19 := bt_at a0 a1
                                        replace p19 := eq_true p19
                                        replace q19 := eq_true q19
                                        have p24 : 0 ≤ ((ji21) : Int) := of_decide_eq_true (by first | (with_reducible assumption) | assumption)
                                        have q24 : (ji21) < (a0.size : Int) := of_decide_eq_true (by first | (with_reducible assumption) | assumption)
                                        have hx24 := bt_at a0 (ji21)
                                        replace p24 := eq_true p24
                                        replace q24 := eq_true q24
                                        have p28 : 0 ≤ ((ji25) : Int) := of_decide_eq_true (by first | (with_reducible assumption) | assumption)
                                        have q28 : (ji25) < (a0.size : Int) := of_decide_eq_true (by first | (with_reducible assumption) | assumption)
                                        have hx28 := bt_at a0 (ji25)
                                        replace p28 := eq_true p28
                                        replace q28 := eq_true q28
                                        go_wp2
                                        repeat (go_quiet (fail); try go_wp2)
                                        go_meet
                                        case rel => exact ⟨_, (((bt a0 (ji21)) != (bt a0 (ji25)))), (by first | rfl | (simp; done) | (simp only [← hji21, ← hji25] <;> (first | rfl | simp)) | (simp [*]; done)), H', ⟨by have := HJ2.out; have := HK2.out; have := HJ5.out; first | omega | exact Nat.le_refl _⟩, by repeat (first | exact Drawn0.refl _ | apply Drawn0.step)⟩
                                      · rw [if_neg c27] at H
                                        exact absurd H (by simp)
                                    · rw [if_neg c26] at H
                                      exact absurd H (by simp)
                                  · rw [if_neg c23] at H
                                    exact absurd H (by simp)
                                · rw [if_neg c22] at H
                                  exact absurd H (by simp)
                              · rw [if_neg c20] at H
                                have c20b0 : ((bt a0 (ji13)) == (bt a0 a1)) = false := beq_eq_false_iff_ne.mpr c20
                                have c20b1 : ((bt a0 (ji13)) != (bt a0 a1)) = true := bne_iff_ne.mpr c20
                                have H' := Aside0.mk H
                                clear H
                                have p16 : 0 ≤ ((ji13) : Int) := of_decide_eq_true (by first | (with_reducible assumption) | assumption)
                                have q16 : (ji13) < (a0.size : Int) := of_decide_eq_true (by first | (with_reducible assumption) | assumption)
                                have hx16 := bt_at a0 (ji13)
                                replace p16 := eq_true p16
                                replace q16 := eq_true q16
                                have p19 : 0 ≤ (a1 : Int) := of_decide_eq_true (by first | (with_reducible assumption) | assumption)
                                have q19 : a1 < (a0.size : Int) := of_decide_eq_true (by first | (with_reducible assumption) | assumption)
                                have hx19 := bt_at a0 a1
                                replace p19 := eq_true p19
                                replace q19 := eq_true q19
                                go_wp2
                                repeat (go_quiet (fail); try go_wp2)
                                go_meet
                                case rel => exact ⟨_, (true), (by first | rfl | (simp; done) | (simp [*]; done)), H', ⟨by have := HJ2.out; have := HK2.out; have := HJ5.out; first | omega | exact Nat.le_refl _⟩, by repeat (first | exact Drawn0.refl _ | apply Drawn0.step)⟩
                            · rw [if_neg c18] at H
                              exact absurd H (by simp)
                          · rw [if_neg c17] at H
                            exact absurd H (by simp)
                        · rw [if_neg c15] at H
                          exact absurd H (by simp)
                      · rw [if_neg c14] at H
                        exact absurd H (by simp)
                    case rest =>
                      clear HC12
                      try clear c1
                      try clear p1
                      try clear q1
                      try clear hx1
                      try clear c2
                      try clear p2
                      try clear q2
                      try clear hx2
                      try clear c4
                      try clear c4b0
                      try clear c5
                      try clear p6
                      try clear c7
                      try clear c7b0
                      try clear c8
                      try clear c8b0
                      try clear c9
                      try clear c10
                      try clear c10b0
                      try clear c11
                      try clear c11b0
                      try clear c14
                      try clear c14b0
                      try clear c15
                      try clear c15b0
                      try clear c16
                      try clear p16
                      try clear q16
                      try clear hx16
                      try clear c17
                      try clear c17b0
                      try clear c18
                      try clear c18b0
                      try clear p19
                      try clear q19
                      try clear hx19
                      try clear c20
                      try clear c20b0
                      try clear c20b1
                      try clear c22
                      try clear c22b0
                      try clear c23
                      try clear c23b0
                      try clear p24
                      try clear q24
                      try clear hx24
                      try clear c26
                      try clear c26b0
                      try clear c27
                      try clear c27b0
                      try clear p28
                      try clear q28
                      try clear hx28
                      try clear p16
                      try clear p19
                      try clear p2
                      try clear p24
                      try clear p28
                      try clear q16
                      try clear q19
                      try clear q24
                      try clear q28
                      obtain ⟨kq, x60_11, rfl, HA, HJ11, ⟨mc11, rfl⟩⟩ := hcut
                      cases kq with
                      | zero => exact absurd HA.out (by simp [gantryref04_Best.j3])
                      | succ kj11 =>
                        have H := HA.out
                        clear HA
                        simp only [gantryref04_Best.j3] at H
                        by_cases c29 : x60_11 = true
                        · subst c29
                          have H1 : (gantryref04_Best.l0 kj11 a0 a1 x6_2 x7_2 (wrap64 (x8_2 + 1))) = some (r1, r2) := by rw [if_pos rfl] at H; exact H
                          clear H
                          have H := H1
                          clear H1
                          have H' := Aside0.mk H
                          clear H
                          go_wp2
                          repeat (go_quiet (fail); try go_wp2)
                          go_roundg kj11
                          case measure => have := HJ2.out; have := HK2.out; have := HJ5.out; have := HJ11.out; omega
                          case rel => exact ⟨(x6_2), (x7_2), (wrap64 (x8_2 + 1)), (by first | rfl | (simp; done) | (simp [*]; done)), (by first | rfl | (simp; done) | (simp [*]; done)), (by first | rfl | (simp; done) | (simp [*]; done)), H', ⟨by have := HJ2.out; have := HK2.out; have := HJ5.out; have := HJ11.out; omega⟩, by repeat (first | exact Drawn0.refl _ | apply Drawn0.step)⟩
                        · replace c29 := Bool.eq_false_iff.mpr c29
                          subst c29
                          have H1 : (gantryref04_Best.l1 kj11 a0 a1 x6_2 x7_2 x8_2 0) = some (r1, r2) := by rw [if_neg (show ¬ (false = true) by decide)] at H; exact H
                          clear H
                          have H := H1
                          clear H1
                          have H' := Aside0.mk H
                          clear H
                          go_wp2
                          repeat (go_quiet (fail); try go_wp2)
                          go_loopg [9] kj11 (fun kq v9 w' => ∃ (x9_5 : Int), v9 = .int .i64 x9_5 ∧ Aside0 (gantryref04_Best.l1 kq a0 a1 x6_2 x7_2 x8_2 x9_5 = some (r1, r2)) ∧ Aside0 (kq ≤ kj11) ∧ Drawn0 w w')
                          case atStart => exact ⟨(0), (by first | rfl | (simp; done) | (simp [*]; done)), H', ⟨Nat.le_refl _⟩, by repeat (first | exact Drawn0.refl _ | apply Drawn0.step)⟩
                          case round =>
                            clear H'
                            try clear c1
                            try clear p1
                            try clear q1
                            try clear hx1
                            try clear c2
                            try clear p2
                            try clear q2
                            try clear hx2
                            try clear c4
                            try clear c4b0
                            try clear c5
                            try clear p6
                            try clear c7
                            try clear c7b0
                            try clear c8
                            try clear c8b0
                            try clear c9
                            try clear c10
                            try clear c10b0
                            try clear c11
                            try clear c11b0
                            try clear c14
                            try clear c14b0
                            try clear c15
                            try clear c15b0
                            try clear c16
                            try clear p16
                            try clear q16
                            try clear hx16
                            try clear c17
                            try clear c17b0
                            try clear c18
                            try clear c18b0
                            try clear p19
                            try clear q19
                            try clear hx19
                            try clear c20
                            try clear c20b0
                            try clear c20b1
                            try clear c22
                            try clear c22b0
                            try clear c23
                            try clear c23b0
                            try clear p24
                            try clear q24
                            try clear hx24
                            try clear c26
                            try clear c26b0
                            try clear c27
                            try clear c27b0
                            try clear p28
                            try clear q28
                            try clear hx28
                            try clear c29
                            try clear p1
                            try clear p16
                            try clear p19
                            try clear p2
                            try clear p24
                            try clear p28
                            try clear p6
                            try clear q1
                            try clear q16
                            try clear q19
                            try clear q2
                            try clear q24
                            try clear q28
                            obtain ⟨x9_5, rfl, HA, HK5, ⟨m5, rfl⟩⟩ := hrel
                            cases gk with
                            | zero => exact absurd HA.out (by simp [gantryref04_Best.l1])
                            | succ k5 =>
                              have H := HA.out
                              clear HA
                              simp only [gantryref04_Best.l1] at H
                              by_cases c30 : (wrap64 (a1 + x9_5)) < (a0.size : Int)
                              · rw [if_pos c30] at H
                                have c30b0 : decide ((wrap64 (a1 + x9_5)) < (a0.size : Int)) = true := decide_eq_true c30
                                clear c30
                                by_cases c31 : x9_5 < 131
                                · rw [if_pos c31] at H
                                  have c31b0 : decide (x9_5 < 131) = true := decide_eq_true c31
                                  clear c31
                                  obtain ⟨ji32, hji32⟩ : ∃ j_ : Int, (wrap64 ((wrap64 (a1 - x8_2)) + x9_5)) = j_ := ⟨_, rfl⟩
                                  replace H : (if 0 ≤ (ji32) then (if (ji32) < (a0.size : Int) then (if 0 ≤ (wrap64 (a1 + x9_5)) then (if (bt a0 (ji32)) = (bt a0 (wrap64 (a1 + x9_5))) then (gantryref04_Best.l1 k5 a0 a1 x6_2 x7_2 x8_2 (wrap64 (x9_5 + 1))) else (if x9_5 > x6_2 then (gantryref04_Best.l0 k5 a0 a1 x9_5 x8_2 (wrap64 (x8_2 + 1))) else (gantryref04_Best.l0 k5 a0 a1 x6_2 x7_2 (wrap64 (x8_2 + 1))))) else (none)) else (none)) else (none)) = some (r1, r2) := by first | (rw [hji32] at H; exact H) | (simp only [hji32] at H ⊢; exact H)
                                  have hji32w : (IntKind.i64.wrap ((wrap64 (a1 - x8_2)) + x9_5)) = ji32 := (i64_w _).trans hji32
                                  by_cases c33 : 0 ≤ (ji32)
                                  · rw [if_pos c33] at H
                                    have c33b0 : decide (0 ≤ (ji32)) = true := decide_eq_true c33
                                    clear c33
                                    by_cases c34 : (ji32) < (a0.size : Int)
                                    · rw [if_pos c34] at H
                                      have c34b0 : decide ((ji32) < (a0.size : Int)) = true := decide_eq_true c34
                                      clear c34
                                      obtain ⟨ji36, hji36⟩ : ∃ j_ : Int, (wrap64 (a1 + x9_5)) = j_ := ⟨_, rfl⟩
                                      replace H : (if 0 ≤ (ji36) then (if (bt a0 (ji32)) = (bt a0 (ji36)) then (gantryref04_Best.l1 k5 a0 a1 x6_2 x7_2 x8_2 (wrap64 (x9_5 + 1))) else (if x9_5 > x6_2 then (gantryref04_Best.l0 k5 a0 a1 x9_5 x8_2 (wrap64 (x8_2 + 1))) else (gantryref04_Best.l0 k5 a0 a1 x6_2 x7_2 (wrap64 (x8_2 + 1))))) else (none)) = some (r1, r2) := by first | (rw [hji36] at H; exact H) | (simp only [hji36] at H ⊢; exact H)
                                      (try rw [hji36] at c30b0)
                                      have hji36w : (IntKind.i64.wrap (a1 + x9_5)) = ji36 := (i64_w _).trans hji36
                                      by_cases c37 : 0 ≤ (ji36)
                                      · rw [if_pos c37] at H
                                        have c37b0 : decide (0 ≤ (ji36)) = true := decide_eq_true c37
                                        clear c37
                                        by_cases c39 : (bt a0 (ji32)) = (bt a0 (ji36))
                                        · rw [if_pos c39] at H
                                          have c39b0 : ((bt a0 (ji32)) == (bt a0 (ji36))) = true := beq_iff_eq.mpr c39
                                          have c39b1 : ((bt a0 (ji32)) != (bt a0 (ji36))) = false := bne_eq_false_iff_eq.mpr c39
                                          clear c39
                                          have H' := Aside0.mk H
                                          clear H
                                          have p35 : 0 ≤ ((ji32) : Int) := of_decide_eq_true (by first | (with_reducible assumption) | assumption)
                                          have q35 : (ji32) < (a0.size : Int) := of_decide_eq_true (by first | (with_reducible assumption) | assumption)
                                          have hx35 := bt_at a0 (ji32)
                                          replace p35 := eq_true p35
                                          replace q35 := eq_true q35
                                          have p38 : 0 ≤ ((ji36) : Int) := of_decide_eq_true (by first | (with_reducible assumption) | assumption)
                                          have q38 : (ji36) < (a0.size : Int) := of_decide_eq_true (by first | (with_reducible assumption) | assumption)
                                          have hx38 := bt_at a0 (ji36)
                                          replace p38 := eq_true p38
                                          replace q38 := eq_true q38
                                          go_wp2
                                          repeat (go_quiet (fail); try go_wp2)
                                          go_roundg k5
                                          case measure => have := HJ2.out; have := HK2.out; have := HJ5.out; have := HJ11.out; have := HK5.out; omega
                                          case rel => exact ⟨(wrap64 (x9_5 + 1)), (by first | rfl | (simp; done) | (simp [*]; done)), H', ⟨by have := HJ2.out; have := HK2.out; have := HJ5.out; have := HJ11.out; have := HK5.out; omega⟩, by repeat (first | exact Drawn0.refl _ | apply Drawn0.step)⟩
                                        · rw [if_neg c39] at H
                                          have c39b0 : ((bt a0 (ji32)) == (bt a0 (ji36))) = false := beq_eq_false_iff_ne.mpr c39
                                          have c39b1 : ((bt a0 (ji32)) != (bt a0 (ji36))) = true := bne_iff_ne.mpr c39
                                          by_cases c40 : x9_5 > x6_2
                                          · rw [if_pos c40] at H
                                            have c40b0 : decide (x6_2 < x9_5) = true := decide_eq_true c40
                                            clear c40
                                            have H' := Aside0.mk H
                                            clear H
                                            have p35 : 0 ≤ ((ji32) : Int) := of_decide_eq_true (by first | (with_reducible assumption) | assumption)
                                            have q35 : (ji32) < (a0.size : Int) := of_decide_eq_true (by first | (with_reducible assumption) | assumption)
                                            have hx35 := bt_at a0 (ji32)
                                            replace p35 := eq_true p35
                                            replace q35 := eq_true q35
                                            have p38 : 0 ≤ ((ji36) : Int) := of_decide_eq_true (by first | (with_reducible assumption) | assumption)
                                            have q38 : (ji36) < (a0.size : Int) := of_decide_eq_true (by first | (with_reducible assumption) | assumption)
                                            have hx38 := bt_at a0 (ji36)
                                            replace p38 := eq_true p38
                                            replace q38 := eq_true q38
                                            go_wp2
                                            repeat (go_quiet (fail); try go_wp2)
                                            go_roundg k5
                                            case measure => have := HJ2.out; have := HK2.out; have := HJ5.out; have := HJ11.out; have := HK5.out; omega
                                            case rel => exact ⟨(x9_5), (x8_2), (wrap64 (x8_2 + 1)), (by first | rfl | (simp; done) | (simp [*]; done)), (by first | rfl | (simp; done) | (simp [*]; done)), (by first | rfl | (simp; done) | (simp [*]; done)), H', ⟨by have := HJ2.out; have := HK2.out; have := HJ5.out; have := HJ11.out; have := HK5.out; omega⟩, by repeat (first | exact Drawn0.refl _ | apply Drawn0.step)⟩
                                          · rw [if_neg c40] at H
                                            have c40b0 : decide (x6_2 < x9_5) = false := decide_eq_false c40
                                            clear c40
                                            have H' := Aside0.mk H
                                            clear H
                                            have p35 : 0 ≤ ((ji32) : Int) := of_decide_eq_true (by first | (with_reducible assumption) | assumption)
                                            have q35 : (ji32) < (a0.size : Int) := of_decide_eq_true (by first | (with_reducible assumption) | assumption)
                                            have hx35 := bt_at a0 (ji32)
                                            replace p35 := eq_true p35
                                            replace q35 := eq_true q35
                                            have p38 : 0 ≤ ((ji36) : Int) := of_decide_eq_true (by first | (with_reducible assumption) | assumption)
                                            have q38 : (ji36) < (a0.size : Int) := of_decide_eq_true (by first | (with_reducible assumption) | assumption)
                                            have hx38 := bt_at a0 (ji36)
                                            replace p38 := eq_true p38
                                            replace q38 := eq_true q38
                                            go_wp2
                                            repeat (go_quiet (fail); try go_wp2)
                                            go_roundg k5
                                            case measure => have := HJ2.out; have := HK2.out; have := HJ5.out; have := HJ11.out; have := HK5.out; omega
                                            case rel => exact ⟨(x6_2), (x7_2), (wrap64 (x8_2 + 1)), (by first | rfl | (simp; done) | (simp [*]; done)), (by first | rfl | (simp; done) | (simp [*]; done)), (by first | rfl | (simp; done) | (simp [*]; done)), H', ⟨by have := HJ2.out; have := HK2.out; have := HJ5.out; have := HJ11.out; have := HK5.out; omega⟩, by repeat (first | exact Drawn0.refl _ | apply Drawn0.step)⟩
                                      · rw [if_neg c37] at H
                                        exact absurd H (by simp)
                                    · rw [if_neg c34] at H
                                      exact absurd H (by simp)
                                  · rw [if_neg c33] at H
                                    exact absurd H (by simp)
                                · rw [if_neg c31] at H
                                  have c31b0 : decide (x9_5 < 131) = false := decide_eq_false c31
                                  clear c31
                                  by_cases c41 : x9_5 > x6_2
                                  · rw [if_pos c41] at H
                                    have c41b0 : decide (x6_2 < x9_5) = true := decide_eq_true c41
                                    clear c41
                                    have H' := Aside0.mk H
                                    clear H
                                    go_wp2
                                    repeat (go_quiet (fail); try go_wp2)
                                    go_roundg k5
                                    case measure => have := HJ2.out; have := HK2.out; have := HJ5.out; have := HJ11.out; have := HK5.out; omega
                                    case rel => exact ⟨(x9_5), (x8_2), (wrap64 (x8_2 + 1)), (by first | rfl | (simp; done) | (simp [*]; done)), (by first | rfl | (simp; done) | (simp [*]; done)), (by first | rfl | (simp; done) | (simp [*]; done)), H', ⟨by have := HJ2.out; have := HK2.out; have := HJ5.out; have := HJ11.out; have := HK5.out; omega⟩, by repeat (first | exact Drawn0.refl _ | apply Drawn0.step)⟩
                                  · rw [if_neg c41] at H
                                    have c41b0 : decide (x6_2 < x9_5) = false := decide_eq_false c41
                                    clear c41
                                    have H' := Aside0.mk H
                                    clear H
                                    go_wp2
                                    repeat (go_quiet (fail); try go_wp2)
                                    go_roundg k5
                                    case measure => have := HJ2.out; have := HK2.out; have := HJ5.out; have := HJ11.out; have := HK5.out; omega
                                    case rel => exact ⟨(x6_2), (x7_2), (wrap64 (x8_2 + 1)), (by first | rfl | (simp; done) | (simp [*]; done)), (by first | rfl | (simp; done) | (simp [*]; done)), (by first | rfl | (simp; done) | (simp [*]; done)), H', ⟨by have := HJ2.out; have := HK2.out; have := HJ5.out; have := HJ11.out; have := HK5.out; omega⟩, by repeat (first | exact Drawn0.refl _ | apply Drawn0.step)⟩
                              · rw [if_neg c30] at H
                                have c30b0 : decide ((wrap64 (a1 + x9_5)) < (a0.size : Int)) = false := decide_eq_false c30
                                clear c30
                                by_cases c42 : x9_5 > x6_2
                                · rw [if_pos c42] at H
                                  have c42b0 : decide (x6_2 < x9_5) = true := decide_eq_true c42
                                  clear c42
                                  have H' := Aside0.mk H
                                  clear H
                                  go_wp2
                                  repeat (go_quiet (fail); try go_wp2)
                                  go_roundg k5
                                  case measure => have := HJ2.out; have := HK2.out; have := HJ5.out; have := HJ11.out; have := HK5.out; omega
                                  case rel => exact ⟨(x9_5), (x8_2), (wrap64 (x8_2 + 1)), (by first | rfl | (simp; done) | (simp [*]; done)), (by first | rfl | (simp; done) | (simp [*]; done)), (by first | rfl | (simp; done) | (simp [*]; done)), H', ⟨by have := HJ2.out; have := HK2.out; have := HJ5.out; have := HJ11.out; have := HK5.out; omega⟩, by repeat (first | exact Drawn0.refl _ | apply Drawn0.step)⟩
                                · rw [if_neg c42] at H
                                  have c42b0 : decide (x6_2 < x9_5) = false := decide_eq_false c42
                                  clear c42
                                  have H' := Aside0.mk H
                                  clear H
                                  go_wp2
                                  repeat (go_quiet (fail); try go_wp2)
                                  go_roundg k5
                                  case measure => have := HJ2.out; have := HK2.out; have := HJ5.out; have := HJ11.out; have := HK5.out; omega
                                  case rel => exact ⟨(x6_2), (x7_2), (wrap64 (x8_2 + 1)), (by first | rfl | (simp; done) | (simp [*]; done)), (by first | rfl | (simp; done) | (simp [*]; done)), (by first | rfl | (simp; done) | (simp [*]; done)), H', ⟨by have := HJ2.out; have := HK2.out; have := HJ5.out; have := HJ11.out; have := HK5.out; omega⟩, by repeat (first | exact Drawn0.refl _ | apply Drawn0.step)⟩
                · replace c9 := Bool.eq_false_iff.mpr c9
                  subst c9
                  have H1 : (if x6_2 < 4 then (some (0, 0)) else (some (x6_2, x7_2))) = some (r1, r2) := by rw [if_neg (show ¬ (false = true) by decide)] at H; exact H
                  clear H
                  have H := H1
                  clear H1
                  by_cases c43 : x6_2 < 4
                  · rw [if_pos c43] at H
                    have c43b0 : decide (x6_2 < 4) = true := decide_eq_true c43
                    clear c43
                    simp only [Option.some.injEq, Prod.mk.injEq] at H
                    obtain ⟨rfl, rfl⟩ := H
                    go_wp2
                    repeat (go_quiet (fail); try go_wp2)
                    go_ret2
                    exact ⟨by first | rfl | (simp; done) | (simp [*]; done), by repeat (first | exact Drawn0.refl _ | apply Drawn0.step)⟩
                  · rw [if_neg c43] at H
                    have c43b0 : decide (x6_2 < 4) = false := decide_eq_false c43
                    clear c43
                    simp only [Option.some.injEq, Prod.mk.injEq] at H
                    obtain ⟨rfl, rfl⟩ := H
                    go_wp2
                    repeat (go_quiet (fail); try go_wp2)
                    go_ret2
                    exact ⟨by first | rfl | (simp; done) | (simp [*]; done), by repeat (first | exact Drawn0.refl _ | apply Drawn0.step)⟩

end Go.Proofs.Ytgnoaokpahklaaa.QB
