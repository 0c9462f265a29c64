/- The machine side of a law, written by a program of this session (the kit printer, changed; wip/tools/mkprint.py): functions, their calls, the row. Lean checks it. -/
import Derived.Test.YtclnpedmoelipaaQWx0
import Derived.Test.YtclnpedmoelipaaQWx5
import Derived.Test.YtclnpedmoelipaaQWx6
namespace Go.Proofs.Ytclnpedmoelipaa.QW
open Go.RowKit Go.Proofs.YtclnpedmoelipaaW.PrintWords Go.Proofs.YtclnpedmoelipaaW.PrintLast Go.Proofs.YtclnpedmoelipaaW.PrintMore
attribute [local go_sem] max2_int min2_int max_two min_two max_three min_three max_four min_four   -- for this text's walks alone
set_option linter.unusedVariables false
set_option linter.unusedSimpArgs false

/-! ### gantryref01_Read: function 125 -/
mutual
def gantryref01_Read.l0 : Nat → ByteArray → Int → Int → Int → Option (Int × Int × Int)
  | 0, _, _, _, _ => none
  | k + 1, x0, x5, x6, x7 => if x7 < 10 then (if x7 ≥ (x0.size : Int) then (some (0, 0, 20)) else (if 0 ≤ x7 then (if x7 < (x0.size : Int) then (if x7 = 9 then (if (IntKind.u64.wrap (bt x0 x7)) > 1 then (gantryref01_Read.j1 k x0 x5 x6 x7 (IntKind.u64.wrap (bt x0 x7)) true) else (if x7 > 0 then (gantryref01_Read.j1 k x0 x5 x6 x7 (IntKind.u64.wrap (bt x0 x7)) ((IntKind.u64.wrap (bt x0 x7)) == 0)) else (gantryref01_Read.j1 k x0 x5 x6 x7 (IntKind.u64.wrap (bt x0 x7)) false))) else (if x7 > 0 then (gantryref01_Read.j1 k x0 x5 x6 x7 (IntKind.u64.wrap (bt x0 x7)) ((IntKind.u64.wrap (bt x0 x7)) == 0)) else (gantryref01_Read.j1 k x0 x5 x6 x7 (IntKind.u64.wrap (bt x0 x7)) false))) else (none)) else (none))) else (some (0, 0, 23))
def gantryref01_Read.j1 : Nat → ByteArray → Int → Int → Int → Int → Bool → Option (Int × Int × Int)
  | 0, _, _, _, _, _, _ => none
  | k + 1, x0, x5, x6, x7, x8, x34 => if x34 = true then (some (0, 0, 23)) else (if x8 < 128 then (some (IntKind.u64.wrap (x5 + (IntKind.u64.wrap ((Int.tmod x8 128) * x6))), wrap64 (x7 + 1), 0)) else (gantryref01_Read.l0 k x0 (IntKind.u64.wrap (x5 + (IntKind.u64.wrap ((Int.tmod x8 128) * x6)))) (IntKind.u64.wrap (x6 * 128)) (wrap64 (x7 + 1))))
end
def gantryref01_Read.f (k : Nat) (a0 : ByteArray) : Option (Int × Int × Int) := gantryref01_Read.l0 k a0 0 1 0
theorem gantryref01_Read.mono_l : ∀ k, (∀ y0 y1 y2 y3, LeO (gantryref01_Read.l0 k y0 y1 y2 y3) (gantryref01_Read.l0 (k + 1) y0 y1 y2 y3)) ∧ (∀ y0 y1 y2 y3 y4 y5, LeO (gantryref01_Read.j1 k y0 y1 y2 y3 y4 y5) (gantryref01_Read.j1 (k + 1) y0 y1 y2 y3 y4 y5))
  | 0 => ⟨fun _ _ _ _ r h => by simp [gantryref01_Read.l0] at h, fun _ _ _ _ _ _ r h => by simp [gantryref01_Read.j1] at h⟩
  | k + 1 => by
    obtain ⟨ih0, ih1⟩ := gantryref01_Read.mono_l k
    refine ⟨?_, ?_⟩
    · intro y0 y1 y2 y3
      unfold gantryref01_Read.l0
      repeat' first
      | (with_reducible exact ih0 _ _ _ _)
      | (with_reducible exact ih1 _ _ _ _ _ _)
      | (with_reducible exact LeO.refl _)
      | (with_reducible exact LeO.none _)
      | (with_reducible refine LeO.ite ?_ ?_)
      | (with_reducible refine LeO.bind ?_ (fun _ => ?_))
      | exact ih0 _ _ _ _
      | exact ih1 _ _ _ _ _ _
      | exact LeO.none _
      | refine LeO.ite ?_ ?_
      | refine LeO.bind ?_ (fun _ => ?_)
    · intro y0 y1 y2 y3 y4 y5
      unfold gantryref01_Read.j1
      repeat' first
      | (with_reducible exact ih0 _ _ _ _)
      | (with_reducible exact ih1 _ _ _ _ _ _)
      | (with_reducible exact LeO.refl _)
      | (with_reducible exact LeO.none _)
      | (with_reducible refine LeO.ite ?_ ?_)
      | (with_reducible refine LeO.bind ?_ (fun _ => ?_))
      | exact ih0 _ _ _ _
      | exact ih1 _ _ _ _ _ _
      | exact LeO.none _
      | refine LeO.ite ?_ ?_
      | refine LeO.bind ?_ (fun _ => ?_)
theorem gantryref01_Read.mono : ∀ a0 k, LeO (gantryref01_Read.f k a0) (gantryref01_Read.f (k + 1) a0) := by
  intro a0 k
  obtain ⟨ih0, ih1⟩ := gantryref01_Read.mono_l k
  unfold gantryref01_Read.f
  repeat' first
      | (with_reducible exact ih0 _ _ _ _)
      | (with_reducible exact ih1 _ _ _ _ _ _)
      | (with_reducible exact LeO.refl _)
      | (with_reducible exact LeO.none _)
      | (with_reducible refine LeO.ite ?_ ?_)
      | (with_reducible refine LeO.bind ?_ (fun _ => ?_))
      | exact ih0 _ _ _ _
      | exact ih1 _ _ _ _ _ _
      | exact LeO.none _
      | refine LeO.ite ?_ ?_
      | refine LeO.bind ?_ (fun _ => ?_)
set_option maxHeartbeats 8000000 in
set_option maxRecDepth 100000 in
theorem gantryref01_Read.calls (k : Nat) (a0 : ByteArray) (r1 : Int) (r2 : Int) (r3 : Int) (w : World) (h : gantryref01_Read.f k a0 = some (r1, r2, r3)) :
    Calls Try.prog 125 #[.string a0] w fun e w' => e = .returned (.tuple #[.int .u64 r1, .int .i64 r2, .int .i64 r3]) ∧ Drawn0 w w' := by
  have H : (gantryref01_Read.l0 k a0 0 1 0) = some (r1, r2, r3) := h
  clear h
  have H' := Aside0.mk H
  clear H
  go_enter Try.func125, Try.ntmps125
  go_wp2
  go_loopg [5, 6, 7] k (fun kq v5 v6 v7 w' => ∃ (x5_1 : Int) (x6_1 : Int) (x7_1 : Int), v5 = .int .u64 x5_1 ∧ v6 = .int .u64 x6_1 ∧ v7 = .int .i64 x7_1 ∧ Aside0 (gantryref01_Read.l0 kq a0 x5_1 x6_1 x7_1 = some (r1, r2, r3)) ∧ Aside0 (kq ≤ k) ∧ Drawn0 w w')
  case atStart => exact ⟨(0), (1), (0), (by first | rfl | (simp; done) | (simp [*]; done)), (by first | rfl | (simp; done) | (simp [*]; done)), (by first | rfl | (simp; done) | (simp [*]; done)), H', ⟨Nat.le_refl _⟩, by repeat (first | exact Drawn0.refl _ | apply Drawn0.step)⟩
  case round =>
    clear H'
    try clear c1
    obtain ⟨x5_1, x6_1, x7_1, rfl, rfl, rfl, HA, HK1, ⟨m1, rfl⟩⟩ := hrel
    cases gk with
    | zero => exact absurd HA.out (by simp [gantryref01_Read.l0])
    | succ k1 =>
      have H := HA.out
      clear HA
      simp only [gantryref01_Read.l0] at H
      by_cases c2 : x7_1 < 10
      · rw [if_pos c2] at H
        have c2b0 : decide (x7_1 < 10) = true := decide_eq_true c2
        clear c2
        by_cases c3 : x7_1 ≥ (a0.size : Int)
        · rw [if_pos c3] at H
          have c3b0 : decide ((a0.size : Int) ≤ x7_1) = true := decide_eq_true c3
          clear c3
          simp only [Option.some.injEq, Prod.mk.injEq] at H
          obtain ⟨rfl, rfl, rfl⟩ := H
          go_wp2
          go_ret3
          exact ⟨by first | rfl | (simp; done) | (simp [*]; done), by repeat (first | exact Drawn0.refl _ | apply Drawn0.step)⟩
        · rw [if_neg c3] at H
          have c3b0 : decide ((a0.size : Int) ≤ x7_1) = false := decide_eq_false c3
          clear c3
          by_cases c4 : 0 ≤ x7_1
          · rw [if_pos c4] at H
            have c4b0 : decide (0 ≤ x7_1) = true := decide_eq_true c4
            clear c4
            by_cases c5 : x7_1 < (a0.size : Int)
            · rw [if_pos c5] at H
              have c5b0 : decide (x7_1 < (a0.size : Int)) = true := decide_eq_true c5
              clear c5
              have HC7 := Aside0.mk H
              clear H
              have p6 : 0 ≤ (x7_1 : Int) := of_decide_eq_true (by first | (with_reducible assumption) | assumption)
              have q6 : x7_1 < (a0.size : Int) := of_decide_eq_true (by first | (with_reducible assumption) | assumption)
              have hx6 := bt_at a0 x7_1
              replace p6 := eq_true p6
              replace q6 := eq_true q6
              go_upto_region 8 with (fail)
              go_cut [34] (fun v34 wc => ∃ (kq : Nat) (x34_6 : Bool), v34 = .bool x34_6 ∧ Aside0 (gantryref01_Read.j1 kq a0 x5_1 x6_1 x7_1 (IntKind.u64.wrap (bt a0 x7_1)) x34_6 = some (r1, r2, r3)) ∧ Aside0 (kq ≤ k1) ∧ Drawn0 w wc)
              case first =>
                have H := HC7.out
                clear HC7
                by_cases c8 : x7_1 = 9
                · rw [if_pos c8] at H
                  have c8b0 : (x7_1 == 9) = true := beq_iff_eq.mpr c8
                  have c8b1 : (x7_1 != 9) = false := bne_eq_false_iff_eq.mpr c8
                  clear c8
                  (first | rw [c8b0] | (simp only [i64_w, i32_w]; rw [c8b0]) | skip)
                  by_cases c9 : (IntKind.u64.wrap (bt a0 x7_1)) > 1
                  · rw [if_pos c9] at H
                    have c9b0 : decide (1 < (IntKind.u64.wrap (bt a0 x7_1))) = true := decide_eq_true c9
                    clear c9
                    have H' := Aside0.mk H
                    clear H
                    go_wp2
                    go_meet
                    case rel => exact ⟨_, (true), (by first | rfl | (simp; done) | (simp [*]; done)), H', ⟨by have := HK1.out; first | omega | exact Nat.le_refl _⟩, by repeat (first | exact Drawn0.refl _ | apply Drawn0.step)⟩
                  · rw [if_neg c9] at H
                    have c9b0 : decide (1 < (IntKind.u64.wrap (bt a0 x7_1))) = false := decide_eq_false c9
                    clear c9
                    by_cases c10 : x7_1 > 0
                    · rw [if_pos c10] at H
                      have c10b0 : decide (0 < x7_1) = true := decide_eq_true c10
                      clear c10
                      have H' := Aside0.mk H
                      clear H
                      go_wp2
                      go_meet
                      case rel => exact ⟨_, (((IntKind.u64.wrap (bt a0 x7_1)) == 0)), (by first | rfl | (simp; done) | (simp [*]; done)), H', ⟨by have := HK1.out; first | omega | exact Nat.le_refl _⟩, by repeat (first | exact Drawn0.refl _ | apply Drawn0.step)⟩
                    · rw [if_neg c10] at H
                      have c10b0 : decide (0 < x7_1) = false := decide_eq_false c10
                      clear c10
                      have H' := Aside0.mk H
                      clear H
                      go_wp2
                      go_meet
                      case rel => exact ⟨_, (false), (by first | rfl | (simp; done) | (simp [*]; done)), H', ⟨by have := HK1.out; first | omega | exact Nat.le_refl _⟩, by repeat (first | exact Drawn0.refl _ | apply Drawn0.step)⟩
                · rw [if_neg c8] at H
                  have c8b0 : (x7_1 == 9) = false := beq_eq_false_iff_ne.mpr c8
                  have c8b1 : (x7_1 != 9) = true := bne_iff_ne.mpr c8
                  (first | rw [c8b0] | (simp only [i64_w, i32_w]; rw [c8b0]) | skip)
                  by_cases c11 : x7_1 > 0
                  · rw [if_pos c11] at H
                    have c11b0 : decide (0 < x7_1) = true := decide_eq_true c11
                    clear c11
                    have H' := Aside0.mk H
                    clear H
                    go_wp2
                    go_meet
                    case rel => exact ⟨_, (((IntKind.u64.wrap (bt a0 x7_1)) == 0)), (by first | rfl | (simp; done) | (simp [*]; done)), H', ⟨by have := HK1.out; first | omega | exact Nat.le_refl _⟩, by repeat (first | exact Drawn0.refl _ | apply Drawn0.step)⟩
                  · rw [if_neg c11] at H
                    have c11b0 : decide (0 < x7_1) = false := decide_eq_false c11
                    clear c11
                    have H' := Aside0.mk H
                    clear H
                    go_wp2
                    go_meet
                    case rel => exact ⟨_, (false), (by first | rfl | (simp; done) | (simp [*]; done)), H', ⟨by have := HK1.out; first | omega | exact Nat.le_refl _⟩, by repeat (first | exact Drawn0.refl _ | apply Drawn0.step)⟩
              case rest =>
                clear HC7
                try clear c1
                try clear c2
                try clear c2b0
                try clear p2
                try clear c3
                try clear c3b0
                try clear c4
                try clear c4b0
                try clear c5
                try clear c5b0
                try clear p6
                try clear q6
                try clear hx6
                try clear c8
                try clear c8b0
                try clear c8b1
                try clear c9
                try clear c9b0
                try clear c10
                try clear c10b0
                try clear c11
                try clear c11b0
                try clear p6
                try clear q6
                obtain ⟨kq, x34_6, rfl, HA, HJ6, ⟨mc6, rfl⟩⟩ := hcut
                cases kq with
                | zero => exact absurd HA.out (by simp [gantryref01_Read.j1])
                | succ kj6 =>
                  have H := HA.out
                  clear HA
                  simp only [gantryref01_Read.j1] at H
                  by_cases c12 : x34_6 = true
                  · subst c12
                    have H1 : (some (0, 0, 23)) = some (r1, r2, r3) := by rw [if_pos rfl] at H; exact H
                    clear H
                    have H := H1
                    clear H1
                    simp only [Option.some.injEq, Prod.mk.injEq] at H
                    obtain ⟨rfl, rfl, rfl⟩ := H
                    go_wp2
                    go_ret3
                    exact ⟨by first | rfl | (simp; done) | (simp [*]; done), by repeat (first | exact Drawn0.refl _ | apply Drawn0.step)⟩
                  · replace c12 := Bool.eq_false_iff.mpr c12
                    subst c12
                    have H1 : (if (IntKind.u64.wrap (bt a0 x7_1)) < 128 then (some (IntKind.u64.wrap (x5_1 + (IntKind.u64.wrap ((Int.tmod (IntKind.u64.wrap (bt a0 x7_1)) 128) * x6_1))), wrap64 (x7_1 + 1), 0)) else (gantryref01_Read.l0 kj6 a0 (IntKind.u64.wrap (x5_1 + (IntKind.u64.wrap ((Int.tmod (IntKind.u64.wrap (bt a0 x7_1)) 128) * x6_1)))) (IntKind.u64.wrap (x6_1 * 128)) (wrap64 (x7_1 + 1)))) = some (r1, r2, r3) := by rw [if_neg (show ¬ (false = true) by decide)] at H; exact H
                    clear H
                    have H := H1
                    clear H1
                    by_cases c13 : (IntKind.u64.wrap (bt a0 x7_1)) < 128
                    · rw [if_pos c13] at H
                      have c13b0 : decide ((IntKind.u64.wrap (bt a0 x7_1)) < 128) = true := decide_eq_true c13
                      clear c13
                      simp only [Option.some.injEq, Prod.mk.injEq] at H
                      obtain ⟨rfl, rfl, rfl⟩ := H
                      go_wp2
                      go_ret3
                      exact ⟨by first | rfl | (simp; done) | (simp [*]; done), by repeat (first | exact Drawn0.refl _ | apply Drawn0.step)⟩
                    · rw [if_neg c13] at H
                      have c13b0 : decide ((IntKind.u64.wrap (bt a0 x7_1)) < 128) = false := decide_eq_false c13
                      clear c13
                      have H' := Aside0.mk H
                      clear H
                      go_wp2
                      go_roundg kj6
                      case measure => have := HK1.out; have := HJ6.out; omega
                      case rel => exact ⟨(IntKind.u64.wrap (x5_1 + (IntKind.u64.wrap ((Int.tmod (IntKind.u64.wrap (bt a0 x7_1)) 128) * x6_1)))), (IntKind.u64.wrap (x6_1 * 128)), (wrap64 (x7_1 + 1)), (by first | rfl | (simp; done) | (simp [*]; done)), (by first | rfl | (simp; done) | (simp [*]; done)), (by first | rfl | (simp; done) | (simp [*]; done)), H', ⟨by have := HK1.out; have := HJ6.out; omega⟩, by repeat (first | exact Drawn0.refl _ | apply Drawn0.step)⟩
            · rw [if_neg c5] at H
              exact absurd H (by simp)
          · rw [if_neg c4] at H
            exact absurd H (by simp)
      · rw [if_neg c2] at H
        have c2b0 : decide (x7_1 < 10) = false := decide_eq_false c2
        clear c2
        simp only [Option.some.injEq, Prod.mk.injEq] at H
        obtain ⟨rfl, rfl, rfl⟩ := H
        go_wp2
        go_ret3
        exact ⟨by first | rfl | (simp; done) | (simp [*]; done), by repeat (first | exact Drawn0.refl _ | apply Drawn0.step)⟩

/-! ### gantryref02_Reader_Uvarint: function 107 -/
def gantryref02_Reader_Uvarint.f (k : Nat) (s0_0 : ByteArray) (s0_1 : Int) (s0_2 : Int) : Option (Int × Int × ByteArray × Int × Int) := if s0_2 = 0 then (if 0 ≤ s0_1 then (if s0_1 ≤ (s0_0.size : Int) then ((gantryref01_Read.f k (s0_0.extract (s0_1 : Int).toNat s0_0.size)).bind fun bt210 => (if bt210.2.2 = 0 then (some (bt210.1, 0, s0_0, wrap64 (s0_1 + bt210.2.1), s0_2)) else ((gantryref02_Reader_fail.f s0_0 s0_1 s0_2 bt210.2.2).bind fun bt213 => (some (0, bt213.1, bt213.2.1, bt213.2.2.1, bt213.2.2.2))))) else (none)) else (none)) else (some (0, s0_2, s0_0, s0_1, s0_2))
theorem gantryref02_Reader_Uvarint.mono : ∀ a0 a1 a2 k, LeO (gantryref02_Reader_Uvarint.f k a0 a1 a2) (gantryref02_Reader_Uvarint.f (k + 1) a0 a1 a2) := by
  intro a0 a1 a2 k
  unfold gantryref02_Reader_Uvarint.f
  repeat' first
      | (with_reducible exact gantryref01_Read.mono _ _)
      | (with_reducible exact LeO.refl _)
      | (with_reducible exact LeO.none _)
      | (with_reducible refine LeO.ite ?_ ?_)
      | (with_reducible refine LeO.bind ?_ (fun _ => ?_))
      | exact gantryref01_Read.mono _ _
      | exact LeO.none _
      | refine LeO.ite ?_ ?_
      | refine LeO.bind ?_ (fun _ => ?_)
set_option maxHeartbeats 8000000 in
set_option maxRecDepth 100000 in
theorem gantryref02_Reader_Uvarint.calls (k : Nat) (g : Nat) (s0_0 : ByteArray) (s0_1 : Int) (s0_2 : Int) (r1 : Int) (r2 : Int) (r3 : ByteArray) (r4 : Int) (r5 : Int) (w0 w : World) (hI : IsS100 w0 w g s0_0 s0_1 s0_2) (hB : Below w0.heap.size w0 w) (h : gantryref02_Reader_Uvarint.f k s0_0 s0_1 s0_2 = some (r1, r2, r3, r4, r5)) :
    Calls Try.prog 107 #[.pointer (some ⟨g, 0, none⟩)] w fun e w' => e = .returned (.tuple #[.int .u64 r1, .int .i64 r2]) ∧ IsS100 w0 w' g r3 r4 r5 ∧ Below w0.heap.size w0 w' ∧ KeepBut w w' g none := by
  have HI0 := Aside0.mk hI
  have HK := Aside0.mk (KeepBut.refl w g none)
  have HL := Aside0.mk hB.size
  clear hI
  have HW0 := Aside0.mk hB.size
  have HB := Aside0.mk hB
  clear hB
  have H : (if s0_2 = 0 then (if 0 ≤ s0_1 then (if s0_1 ≤ (s0_0.size : Int) then ((gantryref01_Read.f k (s0_0.extract (s0_1 : Int).toNat s0_0.size)).bind fun bt210 => (if bt210.2.2 = 0 then (some (bt210.1, 0, s0_0, wrap64 (s0_1 + bt210.2.1), s0_2)) else ((gantryref02_Reader_fail.f s0_0 s0_1 s0_2 bt210.2.2).bind fun bt213 => (some (0, bt213.1, bt213.2.1, bt213.2.2.1, bt213.2.2.2))))) else (none)) else (none)) else (some (0, s0_2, s0_0, s0_1, s0_2))) = some (r1, r2, r3, r4, r5) := h
  clear h
  by_cases c2 : s0_2 = 0
  · rw [if_pos c2] at H
    have c2b0 : (s0_2 == 0) = true := beq_iff_eq.mpr c2
    have c2b1 : (s0_2 != 0) = false := bne_eq_false_iff_eq.mpr c2
    clear c2
    by_cases c3 : 0 ≤ s0_1
    · rw [if_pos c3] at H
      have c3b0 := eq_true c3
      have c3b1 : decide (0 ≤ s0_1) = true := decide_eq_true c3
      clear c3
      by_cases c4 : s0_1 ≤ (s0_0.size : Int)
      · rw [if_pos c4] at H
        have c4b0 := eq_true c4
        have c4b1 : decide (s0_1 ≤ (s0_0.size : Int)) = true := decide_eq_true c4
        clear c4
        replace H := Option.bind_eq_some_iff.mp H
        obtain ⟨⟨t210, t211, t212⟩, A50, H⟩ := H
        replace H : (if t212 = 0 then (some (t210, 0, s0_0, wrap64 (s0_1 + t211), s0_2)) else ((gantryref02_Reader_fail.f s0_0 s0_1 s0_2 t212).bind fun bt213 => (some (0, bt213.1, bt213.2.1, bt213.2.2.1, bt213.2.2.2)))) = some (r1, r2, r3, r4, r5) := H
        have A5 := Aside0.mk A50
        clear A50
        by_cases c6 : t212 = 0
        · rw [if_pos c6] at H
          have c6b0 : (t212 == 0) = true := beq_iff_eq.mpr c6
          have c6b1 : (t212 != 0) = false := bne_eq_false_iff_eq.mpr c6
          clear c6
          simp only [Option.some.injEq, Prod.mk.injEq] at H
          obtain ⟨rfl, rfl, rfl, rfl, rfl⟩ := H
          obtain ⟨HGz7, hgz7⟩ := HI0.out
          have hcz7_0 := cellS100_0 HGz7
          have hcz7_1 := cellS100_1 HGz7
          have hcz7_2 := cellS100_2 HGz7
          have hfz7_0 := blk_frozen HGz7 0
          have hfz7_1 := blk_frozen HGz7 1
          have hfz7_2 := blk_frozen HGz7 2
          clear HGz7 hgz7
          go_enter Try.func107, Try.ntmps107
          go_wp2_with (first | (go_at_call 125; (with_reducible refine (gantryref01_Read.calls k (s0_0.extract (s0_1 : Int).toNat s0_0.size) t210 t211 t212 _ A5.out).mono ?_); rintro e w' ⟨rfl, ⟨nd, rfl⟩⟩; (try first | exact ⟨rfl, _, World.drewN_drewN _ _ _⟩ | exact ⟨rfl, _, Eq.trans (World.drewN_drewN _ _ _) (congrArg (World.drewN _) (Nat.add_assoc _ _ _))⟩)))
          repeat (go_quiet (first | (go_at_call 125; (with_reducible refine (gantryref01_Read.calls k (s0_0.extract (s0_1 : Int).toNat s0_0.size) t210 t211 t212 _ A5.out).mono ?_); rintro e w' ⟨rfl, ⟨nd, rfl⟩⟩; (try first | exact ⟨rfl, _, World.drewN_drewN _ _ _⟩ | exact ⟨rfl, _, Eq.trans (World.drewN_drewN _ _ _) (congrArg (World.drewN _) (Nat.add_assoc _ _ _))⟩))); try go_wp2_with (first | (go_at_call 125; (with_reducible refine (gantryref01_Read.calls k (s0_0.extract (s0_1 : Int).toNat s0_0.size) t210 t211 t212 _ A5.out).mono ?_); rintro e w' ⟨rfl, ⟨nd, rfl⟩⟩; (try first | exact ⟨rfl, _, World.drewN_drewN _ _ _⟩ | exact ⟨rfl, _, Eq.trans (World.drewN_drewN _ _ _) (congrArg (World.drewN _) (Nat.add_assoc _ _ _))⟩))))
          go_ret2
          exact ⟨by first | rfl | (simp [errW_none, errW_some] <;> rfl) | (simp [*, errW_none, errW_some] <;> rfl), by repeat (first | (with_reducible first | exact HI0.out | apply IsS100.alloc | apply IsS100.drewN | apply IsS100.drew | apply IsS100.set_0 | apply IsS100.set_1 | apply IsS100.set_2) | exact HI0.out), by repeat (first | (with_reducible first | exact HB.out | apply below_alloc | apply pw_below_drewN | apply below_drew1 | refine below_set ?_ (IsS100.ge HI0.out)) | exact HB.out), by repeat (first | (with_reducible first | exact HK.out | apply KeepBut.set_ | apply keep_drewN | apply keep_drew | apply keep_alloc) | exact HK.out)⟩
        · rw [if_neg c6] at H
          have c6b0 : (t212 == 0) = false := beq_eq_false_iff_ne.mpr c6
          have c6b1 : (t212 != 0) = true := bne_iff_ne.mpr c6
          replace H := Option.bind_eq_some_iff.mp H
          obtain ⟨⟨t213, t214, t215, t216⟩, A80, H⟩ := H
          replace H : (some (0, t213, t214, t215, t216)) = some (r1, r2, r3, r4, r5) := H
          have A8 := Aside0.mk A80
          clear A80
          simp only [Option.some.injEq, Prod.mk.injEq] at H
          obtain ⟨rfl, rfl, rfl, rfl, rfl⟩ := H
          obtain ⟨HGz9, hgz9⟩ := HI0.out
          have hcz9_0 := cellS100_0 HGz9
          have hcz9_1 := cellS100_1 HGz9
          have hcz9_2 := cellS100_2 HGz9
          have hfz9_0 := blk_frozen HGz9 0
          have hfz9_1 := blk_frozen HGz9 1
          have hfz9_2 := blk_frozen HGz9 2
          clear HGz9 hgz9
          go_enter Try.func107, Try.ntmps107
          go_wp2_with (first | (go_at_call 125; (with_reducible refine (gantryref01_Read.calls k (s0_0.extract (s0_1 : Int).toNat s0_0.size) t210 t211 t212 _ A5.out).mono ?_); rintro e w' ⟨rfl, ⟨nd, rfl⟩⟩; (try first | exact ⟨rfl, _, World.drewN_drewN _ _ _⟩ | exact ⟨rfl, _, Eq.trans (World.drewN_drewN _ _ _) (congrArg (World.drewN _) (Nat.add_assoc _ _ _))⟩)) | (go_at_call 110; (with_reducible refine (gantryref02_Reader_fail.calls g s0_0 s0_1 s0_2 t212 t213 t214 t215 t216 w0 _ ?side1 ?side2 A8.out).mono ?_); (case side1 => repeat (first | (with_reducible first | exact HI0.out | apply IsS100.alloc | apply IsS100.drewN | apply IsS100.drew | apply IsS100.set_0 | apply IsS100.set_1 | apply IsS100.set_2) | exact HI0.out)); (case side2 => repeat (first | (with_reducible first | exact HB.out | apply below_alloc | apply pw_below_drewN | apply below_drew1 | refine below_set ?_ (IsS100.ge HI0.out)) | exact HB.out)); rintro e w10 ⟨rfl, hi, hb, hk⟩; have n0_ := Aside0.mk (KeepBut.trans (by repeat (first | (with_reducible first | exact HK.out | apply KeepBut.set_ | apply keep_drewN | apply keep_drew | apply keep_alloc) | exact HK.out)) hk (.inl rfl)); have n1_ := Aside0.mk (hb); have n2_ := Aside0.mk (hi); clear HK; clear HB; clear HI0; have HK := n0_; have HB := n1_; have HI0 := n2_; clear n0_ n1_ n2_; (try clear hb); (try clear hb2); (try clear hk); (try clear hi)))
          repeat (go_quiet (first | (go_at_call 125; (with_reducible refine (gantryref01_Read.calls k (s0_0.extract (s0_1 : Int).toNat s0_0.size) t210 t211 t212 _ A5.out).mono ?_); rintro e w' ⟨rfl, ⟨nd, rfl⟩⟩; (try first | exact ⟨rfl, _, World.drewN_drewN _ _ _⟩ | exact ⟨rfl, _, Eq.trans (World.drewN_drewN _ _ _) (congrArg (World.drewN _) (Nat.add_assoc _ _ _))⟩)) | (go_at_call 110; (with_reducible refine (gantryref02_Reader_fail.calls g s0_0 s0_1 s0_2 t212 t213 t214 t215 t216 w0 _ ?side1 ?side2 A8.out).mono ?_); (case side1 => repeat (first | (with_reducible first | exact HI0.out | apply IsS100.alloc | apply IsS100.drewN | apply IsS100.drew | apply IsS100.set_0 | apply IsS100.set_1 | apply IsS100.set_2) | exact HI0.out)); (case side2 => repeat (first | (with_reducible first | exact HB.out | apply below_alloc | apply pw_below_drewN | apply below_drew1 | refine below_set ?_ (IsS100.ge HI0.out)) | exact HB.out)); rintro e w10 ⟨rfl, hi, hb, hk⟩; have n0_ := Aside0.mk (KeepBut.trans (by repeat (first | (with_reducible first | exact HK.out | apply KeepBut.set_ | apply keep_drewN | apply keep_drew | apply keep_alloc) | exact HK.out)) hk (.inl rfl)); have n1_ := Aside0.mk (hb); have n2_ := Aside0.mk (hi); clear HK; clear HB; clear HI0; have HK := n0_; have HB := n1_; have HI0 := n2_; clear n0_ n1_ n2_; (try clear hb); (try clear hb2); (try clear hk); (try clear hi))); try go_wp2_with (first | (go_at_call 125; (with_reducible refine (gantryref01_Read.calls k (s0_0.extract (s0_1 : Int).toNat s0_0.size) t210 t211 t212 _ A5.out).mono ?_); rintro e w' ⟨rfl, ⟨nd, rfl⟩⟩; (try first | exact ⟨rfl, _, World.drewN_drewN _ _ _⟩ | exact ⟨rfl, _, Eq.trans (World.drewN_drewN _ _ _) (congrArg (World.drewN _) (Nat.add_assoc _ _ _))⟩)) | (go_at_call 110; (with_reducible refine (gantryref02_Reader_fail.calls g s0_0 s0_1 s0_2 t212 t213 t214 t215 t216 w0 _ ?side1 ?side2 A8.out).mono ?_); (case side1 => repeat (first | (with_reducible first | exact HI0.out | apply IsS100.alloc | apply IsS100.drewN | apply IsS100.drew | apply IsS100.set_0 | apply IsS100.set_1 | apply IsS100.set_2) | exact HI0.out)); (case side2 => repeat (first | (with_reducible first | exact HB.out | apply below_alloc | apply pw_below_drewN | apply below_drew1 | refine below_set ?_ (IsS100.ge HI0.out)) | exact HB.out)); rintro e w10 ⟨rfl, hi, hb, hk⟩; have n0_ := Aside0.mk (KeepBut.trans (by repeat (first | (with_reducible first | exact HK.out | apply KeepBut.set_ | apply keep_drewN | apply keep_drew | apply keep_alloc) | exact HK.out)) hk (.inl rfl)); have n1_ := Aside0.mk (hb); have n2_ := Aside0.mk (hi); clear HK; clear HB; clear HI0; have HK := n0_; have HB := n1_; have HI0 := n2_; clear n0_ n1_ n2_; (try clear hb); (try clear hb2); (try clear hk); (try clear hi))))
          go_ret2
          exact ⟨by first | rfl | (simp [errW_none, errW_some] <;> rfl) | (simp [*, errW_none, errW_some] <;> rfl), by repeat (first | (with_reducible first | exact HI0.out | apply IsS100.alloc | apply IsS100.drewN | apply IsS100.drew | apply IsS100.set_0 | apply IsS100.set_1 | apply IsS100.set_2) | exact HI0.out), by repeat (first | (with_reducible first | exact HB.out | apply below_alloc | apply pw_below_drewN | apply below_drew1 | refine below_set ?_ (IsS100.ge HI0.out)) | exact HB.out), by repeat (first | (with_reducible first | exact HK.out | apply KeepBut.set_ | apply keep_drewN | apply keep_drew | apply keep_alloc) | exact HK.out)⟩
      · rw [if_neg c4] at H
        exact absurd H (by simp)
    · rw [if_neg c3] at H
      exact absurd H (by simp)
  · rw [if_neg c2] at H
    have c2b0 : (s0_2 == 0) = false := beq_eq_false_iff_ne.mpr c2
    have c2b1 : (s0_2 != 0) = true := bne_iff_ne.mpr c2
    simp only [Option.some.injEq, Prod.mk.injEq] at H
    obtain ⟨rfl, rfl, rfl, rfl, rfl⟩ := H
    obtain ⟨HGz11, hgz11⟩ := HI0.out
    have hcz11_0 := cellS100_0 HGz11
    have hcz11_1 := cellS100_1 HGz11
    have hcz11_2 := cellS100_2 HGz11
    have hfz11_0 := blk_frozen HGz11 0
    have hfz11_1 := blk_frozen HGz11 1
    have hfz11_2 := blk_frozen HGz11 2
    clear HGz11 hgz11
    go_enter Try.func107, Try.ntmps107
    go_wp2
    repeat (go_quiet (fail); try go_wp2)
    go_ret2
    exact ⟨by first | rfl | (simp [errW_none, errW_some] <;> rfl) | (simp [*, errW_none, errW_some] <;> rfl), by repeat (first | (with_reducible first | exact HI0.out | apply IsS100.alloc | apply IsS100.drewN | apply IsS100.drew | apply IsS100.set_0 | apply IsS100.set_1 | apply IsS100.set_2) | exact HI0.out), by repeat (first | (with_reducible first | exact HB.out | apply below_alloc | apply pw_below_drewN | apply below_drew1 | refine below_set ?_ (IsS100.ge HI0.out)) | exact HB.out), by repeat (first | (with_reducible first | exact HK.out | apply KeepBut.set_ | apply keep_drewN | apply keep_drew | apply keep_alloc) | exact HK.out)⟩

/-! ### gantryref01_Unzigzag: function 126 -/
def gantryref01_Unzigzag.f (a0 : Int) : Option (Int) := if (Int.tmod a0 2) = 0 then (some (wrap64 (IntKind.u64.wrap (Int.tdiv a0 2)))) else (some (wrap64 ((wrap64 (-(wrap64 (IntKind.u64.wrap (Int.tdiv a0 2))))) - 1)))
set_option maxHeartbeats 8000000 in
set_option maxRecDepth 100000 in
theorem gantryref01_Unzigzag.calls (a0 : Int) (r : Int) (w : World) (h : gantryref01_Unzigzag.f a0 = some r) :
    Calls Try.prog 126 #[.int .u64 a0] w fun e w' => e = .returned (.int .i64 r) ∧ Drawn0 w w' := by
  have H : (if (Int.tmod a0 2) = 0 then (some (wrap64 (IntKind.u64.wrap (Int.tdiv a0 2)))) else (some (wrap64 ((wrap64 (-(wrap64 (IntKind.u64.wrap (Int.tdiv a0 2))))) - 1)))) = some r := h
  clear h
  by_cases c2 : (Int.tmod a0 2) = 0
  · rw [if_pos c2] at H
    have c2b0 : ((Int.tmod a0 2) == 0) = true := beq_iff_eq.mpr c2
    have c2b1 : ((Int.tmod a0 2) != 0) = false := bne_eq_false_iff_eq.mpr c2
    clear c2
    obtain rfl := Option.some.inj H
    go_enter Try.func126, Try.ntmps126
    go_wp2
    go_ret
    exact ⟨by first | rfl | (simp; done) | (simp [*]; done), by repeat (first | exact Drawn0.refl _ | apply Drawn0.step)⟩
  · rw [if_neg c2] at H
    have c2b0 : ((Int.tmod a0 2) == 0) = false := beq_eq_false_iff_ne.mpr c2
    have c2b1 : ((Int.tmod a0 2) != 0) = true := bne_iff_ne.mpr c2
    obtain rfl := Option.some.inj H
    go_enter Try.func126, Try.ntmps126
    go_wp2
    go_ret
    exact ⟨by first | rfl | (simp; done) | (simp [*]; done), by repeat (first | exact Drawn0.refl _ | apply Drawn0.step)⟩

end Go.Proofs.Ytclnpedmoelipaa.QW
