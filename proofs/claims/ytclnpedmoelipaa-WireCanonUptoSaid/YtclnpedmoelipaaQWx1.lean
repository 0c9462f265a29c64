/- The machine side of a law, written by a program of this session (the kit printer, changed; wip/tools/mkprint.py): functions, their calls, the row. Lean checks it. -/
import Derived.Test.YtclnpedmoelipaaQWx0
namespace Go.Proofs.Ytclnpedmoelipaa.QW
open Go.RowKit Go.Proofs.YtclnpedmoelipaaW.PrintWords Go.Proofs.YtclnpedmoelipaaW.PrintLast Go.Proofs.YtclnpedmoelipaaW.PrintMore
attribute [local go_sem] max2_int min2_int max_two min_two max_three min_three max_four min_four   -- for this text's walks alone
set_option linter.unusedVariables false
set_option linter.unusedSimpArgs false

/-! ### varint_take: function 122 -/
mutual
def varint_take.l0 : Nat → ByteArray → Int → Int → Option (Int × Int × Int)
  | 0, _, _, _ => none
  | k + 1, x0, x5, x8 => if x8 < 10 then (if x8 = (x0.size : Int) then (some (0, 0, 20)) else (if 0 ≤ x8 then (if x8 < (x0.size : Int) then (if x8 = 9 then (if (bt x0 x8) > 1 then (varint_take.j1 k x0 x5 x8 (bt x0 x8) x8 true) else (if x8 > 0 then (varint_take.j1 k x0 x5 x8 (bt x0 x8) x8 ((bt x0 x8) == 0)) else (varint_take.j1 k x0 x5 x8 (bt x0 x8) x8 false))) else (if x8 > 0 then (varint_take.j1 k x0 x5 x8 (bt x0 x8) x8 ((bt x0 x8) == 0)) else (varint_take.j1 k x0 x5 x8 (bt x0 x8) x8 false))) else (none)) else (none))) else (some (0, 0, 23))
def varint_take.j1 : Nat → ByteArray → Int → Int → Int → Int → Bool → Option (Int × Int × Int)
  | 0, _, _, _, _, _, _ => none
  | k + 1, x0, x5, x6, x7, x8, x31 => if x31 = true then (some (0, 0, 23)) else (if 0 ≤ (wrap64 (7 * x6)) then (if x7 < 128 then (some (Go.bits .or .u64 x5 (shl .u64 (IntKind.u64.wrap (Go.bits .and .u8 x7 127)) (wrap64 (7 * x6))), wrap64 (x6 + 1), 0)) else (varint_take.l0 k x0 (Go.bits .or .u64 x5 (shl .u64 (IntKind.u64.wrap (Go.bits .and .u8 x7 127)) (wrap64 (7 * x6)))) (wrap64 (x8 + 1)))) else (none))
end
def varint_take.f (k : Nat) (a0 : ByteArray) : Option (Int × Int × Int) := varint_take.l0 k a0 0 0
theorem varint_take.mono_l : ∀ k, (∀ y0 y1 y2, LeO (varint_take.l0 k y0 y1 y2) (varint_take.l0 (k + 1) y0 y1 y2)) ∧ (∀ y0 y1 y2 y3 y4 y5, LeO (varint_take.j1 k y0 y1 y2 y3 y4 y5) (varint_take.j1 (k + 1) y0 y1 y2 y3 y4 y5))
  | 0 => ⟨fun _ _ _ r h => by simp [varint_take.l0] at h, fun _ _ _ _ _ _ r h => by simp [varint_take.j1] at h⟩
  | k + 1 => by
    obtain ⟨ih0, ih1⟩ := varint_take.mono_l k
    refine ⟨?_, ?_⟩
    · intro y0 y1 y2
      unfold varint_take.l0
      repeat' first
      | (with_reducible exact ih0 _ _ _)
      | (with_reducible exact ih1 _ _ _ _ _ _)
      | (with_reducible exact LeO.refl _)
      | (with_reducible exact LeO.none _)
      | (with_reducible refine LeO.ite ?_ ?_)
      | (with_reducible refine LeO.bind ?_ (fun _ => ?_))
      | exact ih0 _ _ _
      | exact ih1 _ _ _ _ _ _
      | exact LeO.none _
      | refine LeO.ite ?_ ?_
      | refine LeO.bind ?_ (fun _ => ?_)
    · intro y0 y1 y2 y3 y4 y5
      unfold varint_take.j1
      repeat' first
      | (with_reducible exact ih0 _ _ _)
      | (with_reducible exact ih1 _ _ _ _ _ _)
      | (with_reducible exact LeO.refl _)
      | (with_reducible exact LeO.none _)
      | (with_reducible refine LeO.ite ?_ ?_)
      | (with_reducible refine LeO.bind ?_ (fun _ => ?_))
      | exact ih0 _ _ _
      | exact ih1 _ _ _ _ _ _
      | exact LeO.none _
      | refine LeO.ite ?_ ?_
      | refine LeO.bind ?_ (fun _ => ?_)
theorem varint_take.mono : ∀ a0 k, LeO (varint_take.f k a0) (varint_take.f (k + 1) a0) := by
  intro a0 k
  obtain ⟨ih0, ih1⟩ := varint_take.mono_l k
  unfold varint_take.f
  repeat' first
      | (with_reducible exact ih0 _ _ _)
      | (with_reducible exact ih1 _ _ _ _ _ _)
      | (with_reducible exact LeO.refl _)
      | (with_reducible exact LeO.none _)
      | (with_reducible refine LeO.ite ?_ ?_)
      | (with_reducible refine LeO.bind ?_ (fun _ => ?_))
      | exact ih0 _ _ _
      | exact ih1 _ _ _ _ _ _
      | exact LeO.none _
      | refine LeO.ite ?_ ?_
      | refine LeO.bind ?_ (fun _ => ?_)
set_option maxHeartbeats 8000000 in
set_option maxRecDepth 100000 in
theorem varint_take.calls (k : Nat) (a0 : ByteArray) (r1 : Int) (r2 : Int) (r3 : Int) (w : World) (h : varint_take.f k a0 = some (r1, r2, r3)) :
    Calls Try.prog 122 #[.string a0] w fun e w' => e = .returned (.tuple #[.int .u64 r1, .int .i64 r2, .int .i64 r3]) ∧ Drawn0 w w' := by
  have H : (varint_take.l0 k a0 0 0) = some (r1, r2, r3) := h
  clear h
  have H' := Aside0.mk H
  clear H
  go_enter Try.func122, Try.ntmps122
  go_wp2
  go_loopg [5, 8] k (fun kq v5 v8 w' => ∃ (x5_1 : Int) (x8_1 : Int), v5 = .int .u64 x5_1 ∧ v8 = .int .i64 x8_1 ∧ Aside0 (varint_take.l0 kq a0 x5_1 x8_1 = some (r1, r2, r3)) ∧ Aside0 (kq ≤ k) ∧ Drawn0 w w')
  case atStart => exact ⟨(0), (0), (by first | rfl | (simp; done) | (simp [*]; done)), (by first | rfl | (simp; done) | (simp [*]; done)), H', ⟨Nat.le_refl _⟩, by repeat (first | exact Drawn0.refl _ | apply Drawn0.step)⟩
  case round =>
    clear H'
    try clear c1
    obtain ⟨x5_1, x8_1, rfl, rfl, HA, HK1, ⟨m1, rfl⟩⟩ := hrel
    cases gk with
    | zero => exact absurd HA.out (by simp [varint_take.l0])
    | succ k1 =>
      have H := HA.out
      clear HA
      simp only [varint_take.l0] at H
      by_cases c2 : x8_1 < 10
      · rw [if_pos c2] at H
        have c2b0 : decide (x8_1 < 10) = true := decide_eq_true c2
        clear c2
        by_cases c3 : x8_1 = (a0.size : Int)
        · rw [if_pos c3] at H
          have c3b0 : (x8_1 == (a0.size : Int)) = true := beq_iff_eq.mpr c3
          have c3b1 : (x8_1 != (a0.size : Int)) = false := bne_eq_false_iff_eq.mpr c3
          clear c3
          simp only [Option.some.injEq, Prod.mk.injEq] at H
          obtain ⟨rfl, rfl, rfl⟩ := H
          go_wp2
          go_ret3
          exact ⟨by first | rfl | (simp; done) | (simp [*]; done), by repeat (first | exact Drawn0.refl _ | apply Drawn0.step)⟩
        · rw [if_neg c3] at H
          have c3b0 : (x8_1 == (a0.size : Int)) = false := beq_eq_false_iff_ne.mpr c3
          have c3b1 : (x8_1 != (a0.size : Int)) = true := bne_iff_ne.mpr c3
          by_cases c4 : 0 ≤ x8_1
          · rw [if_pos c4] at H
            have c4b0 : decide (0 ≤ x8_1) = true := decide_eq_true c4
            clear c4
            by_cases c5 : x8_1 < (a0.size : Int)
            · rw [if_pos c5] at H
              have c5b0 : decide (x8_1 < (a0.size : Int)) = true := decide_eq_true c5
              clear c5
              have HC7 := Aside0.mk H
              clear H
              have p6 : 0 ≤ (x8_1 : Int) := of_decide_eq_true (by first | (with_reducible assumption) | assumption)
              have q6 : x8_1 < (a0.size : Int) := of_decide_eq_true (by first | (with_reducible assumption) | assumption)
              have hx6 := bt_at a0 x8_1
              replace p6 := eq_true p6
              replace q6 := eq_true q6
              go_upto_region 8 with (fail)
              go_cut [31] (fun v31 wc => ∃ (kq : Nat) (x31_6 : Bool), v31 = .bool x31_6 ∧ Aside0 (varint_take.j1 kq a0 x5_1 x8_1 (bt a0 x8_1) x8_1 x31_6 = some (r1, r2, r3)) ∧ Aside0 (kq ≤ k1) ∧ Drawn0 w wc)
              case first =>
                have H := HC7.out
                clear HC7
                by_cases c8 : x8_1 = 9
                · rw [if_pos c8] at H
                  have c8b0 : (x8_1 == 9) = true := beq_iff_eq.mpr c8
                  have c8b1 : (x8_1 != 9) = false := bne_eq_false_iff_eq.mpr c8
                  clear c8
                  (first | rw [c8b0] | (simp only [i64_w, i32_w]; rw [c8b0]) | skip)
                  by_cases c9 : (bt a0 x8_1) > 1
                  · rw [if_pos c9] at H
                    have c9b0 : decide (1 < (bt a0 x8_1)) = true := decide_eq_true c9
                    clear c9
                    have H' := Aside0.mk H
                    clear H
                    go_wp2
                    go_meet
                    case rel => exact ⟨_, (true), (by first | rfl | (simp; done) | (simp [*]; done)), H', ⟨by have := HK1.out; first | omega | exact Nat.le_refl _⟩, by repeat (first | exact Drawn0.refl _ | apply Drawn0.step)⟩
                  · rw [if_neg c9] at H
                    have c9b0 : decide (1 < (bt a0 x8_1)) = false := decide_eq_false c9
                    clear c9
                    by_cases c10 : x8_1 > 0
                    · rw [if_pos c10] at H
                      have c10b0 : decide (0 < x8_1) = true := decide_eq_true c10
                      clear c10
                      have H' := Aside0.mk H
                      clear H
                      go_wp2
                      go_meet
                      case rel => exact ⟨_, (((bt a0 x8_1) == 0)), (by first | rfl | (simp; done) | (simp [*]; done)), H', ⟨by have := HK1.out; first | omega | exact Nat.le_refl _⟩, by repeat (first | exact Drawn0.refl _ | apply Drawn0.step)⟩
                    · rw [if_neg c10] at H
                      have c10b0 : decide (0 < x8_1) = false := decide_eq_false c10
                      clear c10
                      have H' := Aside0.mk H
                      clear H
                      go_wp2
                      go_meet
                      case rel => exact ⟨_, (false), (by first | rfl | (simp; done) | (simp [*]; done)), H', ⟨by have := HK1.out; first | omega | exact Nat.le_refl _⟩, by repeat (first | exact Drawn0.refl _ | apply Drawn0.step)⟩
                · rw [if_neg c8] at H
                  have c8b0 : (x8_1 == 9) = false := beq_eq_false_iff_ne.mpr c8
                  have c8b1 : (x8_1 != 9) = true := bne_iff_ne.mpr c8
                  (first | rw [c8b0] | (simp only [i64_w, i32_w]; rw [c8b0]) | skip)
                  by_cases c11 : x8_1 > 0
                  · rw [if_pos c11] at H
                    have c11b0 : decide (0 < x8_1) = true := decide_eq_true c11
                    clear c11
                    have H' := Aside0.mk H
                    clear H
                    go_wp2
                    go_meet
                    case rel => exact ⟨_, (((bt a0 x8_1) == 0)), (by first | rfl | (simp; done) | (simp [*]; done)), H', ⟨by have := HK1.out; first | omega | exact Nat.le_refl _⟩, by repeat (first | exact Drawn0.refl _ | apply Drawn0.step)⟩
                  · rw [if_neg c11] at H
                    have c11b0 : decide (0 < x8_1) = false := decide_eq_false c11
                    clear c11
                    have H' := Aside0.mk H
                    clear H
                    go_wp2
                    go_meet
                    case rel => exact ⟨_, (false), (by first | rfl | (simp; done) | (simp [*]; done)), H', ⟨by have := HK1.out; first | omega | exact Nat.le_refl _⟩, by repeat (first | exact Drawn0.refl _ | apply Drawn0.step)⟩
              case rest =>
                clear HC7
                try clear c1
                try clear c2
                try clear c2b0
                try clear p2
                try clear c3
                try clear c3b0
                try clear c3b1
                try clear c4
                try clear c4b0
                try clear c5
                try clear c5b0
                try clear p6
                try clear q6
                try clear hx6
                try clear c8
                try clear c8b0
                try clear c8b1
                try clear c9
                try clear c9b0
                try clear c10
                try clear c10b0
                try clear c11
                try clear c11b0
                try clear p6
                try clear q6
                obtain ⟨kq, x31_6, rfl, HA, HJ6, ⟨mc6, rfl⟩⟩ := hcut
                cases kq with
                | zero => exact absurd HA.out (by simp [varint_take.j1])
                | succ kj6 =>
                  have H := HA.out
                  clear HA
                  simp only [varint_take.j1] at H
                  by_cases c12 : x31_6 = true
                  · subst c12
                    have H1 : (some (0, 0, 23)) = some (r1, r2, r3) := by rw [if_pos rfl] at H; exact H
                    clear H
                    have H := H1
                    clear H1
                    simp only [Option.some.injEq, Prod.mk.injEq] at H
                    obtain ⟨rfl, rfl, rfl⟩ := H
                    go_wp2
                    go_ret3
                    exact ⟨by first | rfl | (simp; done) | (simp [*]; done), by repeat (first | exact Drawn0.refl _ | apply Drawn0.step)⟩
                  · replace c12 := Bool.eq_false_iff.mpr c12
                    subst c12
                    have H1 : (if 0 ≤ (wrap64 (7 * x8_1)) then (if (bt a0 x8_1) < 128 then (some (Go.bits .or .u64 x5_1 (shl .u64 (IntKind.u64.wrap (Go.bits .and .u8 (bt a0 x8_1) 127)) (wrap64 (7 * x8_1))), wrap64 (x8_1 + 1), 0)) else (varint_take.l0 kj6 a0 (Go.bits .or .u64 x5_1 (shl .u64 (IntKind.u64.wrap (Go.bits .and .u8 (bt a0 x8_1) 127)) (wrap64 (7 * x8_1)))) (wrap64 (x8_1 + 1)))) else (none)) = some (r1, r2, r3) := by rw [if_neg (show ¬ (false = true) by decide)] at H; exact H
                    clear H
                    have H := H1
                    clear H1
                    obtain ⟨ji13, hji13⟩ : ∃ j_ : Int, (wrap64 (7 * x8_1)) = j_ := ⟨_, rfl⟩
                    replace H : (if 0 ≤ (ji13) then (if (bt a0 x8_1) < 128 then (some (Go.bits .or .u64 x5_1 (shl .u64 (IntKind.u64.wrap (Go.bits .and .u8 (bt a0 x8_1) 127)) (ji13)), wrap64 (x8_1 + 1), 0)) else (varint_take.l0 kj6 a0 (Go.bits .or .u64 x5_1 (shl .u64 (IntKind.u64.wrap (Go.bits .and .u8 (bt a0 x8_1) 127)) (ji13))) (wrap64 (x8_1 + 1)))) else (none)) = some (r1, r2, r3) := by first | (rw [hji13] at H; exact H) | (simp only [hji13] at H ⊢; exact H)
                    have hji13w : (IntKind.i64.wrap (7 * x8_1)) = ji13 := (i64_w _).trans hji13
                    by_cases c14 : 0 ≤ (ji13)
                    · rw [if_pos c14] at H
                      have c14b0 := eq_true c14
                      have c14b1 : decide (0 ≤ (ji13)) = true := decide_eq_true c14
                      clear c14
                      obtain ⟨ji15, hji15⟩ : ∃ j_ : Int, (shl .u64 (IntKind.u64.wrap (Go.bits .and .u8 (bt a0 x8_1) 127)) (ji13)) = j_ := ⟨_, rfl⟩
                      replace H : (if (bt a0 x8_1) < 128 then (some (Go.bits .or .u64 x5_1 (ji15), wrap64 (x8_1 + 1), 0)) else (varint_take.l0 kj6 a0 (Go.bits .or .u64 x5_1 (ji15)) (wrap64 (x8_1 + 1)))) = some (r1, r2, r3) := by first | (rw [hji15] at H; exact H) | (simp only [hji15] at H ⊢; exact H)
                      have hji15_ : (IntKind.u64.wrap ((IntKind.u64.wrap (Go.bits .and .u8 (bt a0 x8_1) 127)) * 2 ^ min (ji13).toNat 64)) = ji15 := hji15
                      have hji15z : (ji13) ≤ 64 → (IntKind.u64.wrap ((IntKind.u64.wrap (Go.bits .and .u8 (bt a0 x8_1) 127)) * 2 ^ (ji13).toNat)) = ji15 := shl_small hji15
                      by_cases c16 : (bt a0 x8_1) < 128
                      · rw [if_pos c16] at H
                        have c16b0 : decide ((bt a0 x8_1) < 128) = true := decide_eq_true c16
                        clear c16
                        simp only [Option.some.injEq, Prod.mk.injEq] at H
                        obtain ⟨rfl, rfl, rfl⟩ := H
                        go_wp2
                        go_ret3
                        exact ⟨by first | rfl | (simp; done) | (simp only [← hji13, ← hji15] <;> (first | rfl | simp)) | (simp [*]; done), by repeat (first | exact Drawn0.refl _ | apply Drawn0.step)⟩
                      · rw [if_neg c16] at H
                        have c16b0 : decide ((bt a0 x8_1) < 128) = false := decide_eq_false c16
                        clear c16
                        have H' := Aside0.mk H
                        clear H
                        go_wp2
                        go_roundg kj6
                        case measure => have := HK1.out; have := HJ6.out; omega
                        case rel => exact ⟨(Go.bits .or .u64 x5_1 (ji15)), (wrap64 (x8_1 + 1)), (by first | rfl | (simp; done) | (simp only [← hji15] <;> (first | rfl | simp)) | (simp [*]; done)), (by first | rfl | (simp; done) | (simp [*]; done)), H', ⟨by have := HK1.out; have := HJ6.out; omega⟩, by repeat (first | exact Drawn0.refl _ | apply Drawn0.step)⟩
                    · rw [if_neg c14] at H
                      exact absurd H (by simp)
            · rw [if_neg c5] at H
              exact absurd H (by simp)
          · rw [if_neg c4] at H
            exact absurd H (by simp)
      · rw [if_neg c2] at H
        have c2b0 : decide (x8_1 < 10) = false := decide_eq_false c2
        clear c2
        simp only [Option.some.injEq, Prod.mk.injEq] at H
        obtain ⟨rfl, rfl, rfl⟩ := H
        go_wp2
        go_ret3
        exact ⟨by first | rfl | (simp; done) | (simp [*]; done), by repeat (first | exact Drawn0.refl _ | apply Drawn0.step)⟩

/-! ### varint_Read_uint64: function 94 -/
def varint_Read_uint64.f (k : Nat) (a0 : ByteArray) : Option (Int × Int × Int) := (varint_take.f k a0).bind fun bt101 => (if bt101.2.2 = 0 then (some (bt101.1, bt101.2.1, 0)) else (some (0, 0, bt101.2.2)))
theorem varint_Read_uint64.mono : ∀ a0 k, LeO (varint_Read_uint64.f k a0) (varint_Read_uint64.f (k + 1) a0) := by
  intro a0 k
  unfold varint_Read_uint64.f
  repeat' first
      | (with_reducible exact varint_take.mono _ _)
      | (with_reducible exact LeO.refl _)
      | (with_reducible exact LeO.none _)
      | (with_reducible refine LeO.ite ?_ ?_)
      | (with_reducible refine LeO.bind ?_ (fun _ => ?_))
      | exact varint_take.mono _ _
      | exact LeO.none _
      | refine LeO.ite ?_ ?_
      | refine LeO.bind ?_ (fun _ => ?_)
set_option maxHeartbeats 8000000 in
set_option maxRecDepth 100000 in
theorem varint_Read_uint64.calls (k : Nat) (a0 : ByteArray) (r1 : Int) (r2 : Int) (r3 : Int) (w : World) (h : varint_Read_uint64.f k a0 = some (r1, r2, r3)) :
    Calls Try.prog 94 #[.string a0] w fun e w' => e = .returned (.tuple #[.int .u64 r1, .int .i64 r2, .int .i64 r3]) ∧ Drawn0 w w' := by
  have H : ((varint_take.f k a0).bind fun bt101 => (if bt101.2.2 = 0 then (some (bt101.1, bt101.2.1, 0)) else (some (0, 0, bt101.2.2)))) = some (r1, r2, r3) := h
  clear h
  replace H := Option.bind_eq_some_iff.mp H
  obtain ⟨⟨t101, t102, t103⟩, A20, H⟩ := H
  replace H : (if t103 = 0 then (some (t101, t102, 0)) else (some (0, 0, t103))) = some (r1, r2, r3) := H
  have A2 := Aside0.mk A20
  clear A20
  by_cases c3 : t103 = 0
  · rw [if_pos c3] at H
    have c3b0 : (t103 == 0) = true := beq_iff_eq.mpr c3
    have c3b1 : (t103 != 0) = false := bne_eq_false_iff_eq.mpr c3
    clear c3
    simp only [Option.some.injEq, Prod.mk.injEq] at H
    obtain ⟨rfl, rfl, rfl⟩ := H
    go_enter Try.func94, Try.ntmps94
    go_wp2_with (first | ((with_reducible refine gate_callee (f := 122) rfl ?_); refine goesL_ (some 10) rfl rfl Try.func122 (by kernel_rfl) rfl #[.string a0] rfl (by (try simp only [List.map_toArray, List.map_cons, List.map_nil]); first | done | rfl | (simp only [List.length_drop, List.length_take]; rfl)) ?_; (with_reducible refine (varint_take.calls k a0 t101 t102 t103 _ A2.out).mono ?_); rintro e w' ⟨rfl, ⟨nd, rfl⟩⟩; refine ⟨_, rfl, ?_⟩))
    go_ret3
    exact ⟨by first | rfl | (simp; done) | (simp [*]; done), by repeat (first | exact Drawn0.refl _ | apply Drawn0.step)⟩
  · rw [if_neg c3] at H
    have c3b0 : (t103 == 0) = false := beq_eq_false_iff_ne.mpr c3
    have c3b1 : (t103 != 0) = true := bne_iff_ne.mpr c3
    simp only [Option.some.injEq, Prod.mk.injEq] at H
    obtain ⟨rfl, rfl, rfl⟩ := H
    go_enter Try.func94, Try.ntmps94
    go_wp2_with (first | ((with_reducible refine gate_callee (f := 122) rfl ?_); refine goesL_ (some 10) rfl rfl Try.func122 (by kernel_rfl) rfl #[.string a0] rfl (by (try simp only [List.map_toArray, List.map_cons, List.map_nil]); first | done | rfl | (simp only [List.length_drop, List.length_take]; rfl)) ?_; (with_reducible refine (varint_take.calls k a0 t101 t102 t103 _ A2.out).mono ?_); rintro e w' ⟨rfl, ⟨nd, rfl⟩⟩; refine ⟨_, rfl, ?_⟩))
    go_ret3
    exact ⟨by first | rfl | (simp; done) | (simp [*]; done), by repeat (first | exact Drawn0.refl _ | apply Drawn0.step)⟩

/-! ### varint_Unzigzag: function 123 -/
def varint_Unzigzag.f (a0 : Int) : Option (Int) := some (Go.bits .xor .i64 (wrap64 (a0 / 2)) (wrap64 (-(wrap64 (Go.bits .and .u64 a0 1)))))
set_option maxHeartbeats 8000000 in
set_option maxRecDepth 100000 in
theorem varint_Unzigzag.calls (a0 : Int) (r : Int) (w : World) (h : varint_Unzigzag.f a0 = some r) :
    Calls Try.prog 123 #[.int .u64 a0] w fun e w' => e = .returned (.int .i64 r) ∧ Drawn0 w w' := by
  have H : (some (Go.bits .xor .i64 (wrap64 (a0 / 2)) (wrap64 (-(wrap64 (Go.bits .and .u64 a0 1)))))) = some r := h
  clear h
  obtain rfl := Option.some.inj H
  go_enter Try.func123, Try.ntmps123
  go_wp2
  go_ret
  exact ⟨by first | rfl | (simp; done) | (simp [*]; done), by repeat (first | exact Drawn0.refl _ | apply Drawn0.step)⟩

/-! ### varint_ReadSigned_int64: function 97 -/
def varint_ReadSigned_int64.f (k : Nat) (a0 : ByteArray) : Option (Int × Int × Int) := (varint_take.f k a0).bind fun bt104 => (if bt104.2.2 = 0 then ((varint_Unzigzag.f bt104.1).bind fun t107 => (some (t107, bt104.2.1, 0))) else (some (0, 0, bt104.2.2)))
theorem varint_ReadSigned_int64.mono : ∀ a0 k, LeO (varint_ReadSigned_int64.f k a0) (varint_ReadSigned_int64.f (k + 1) a0) := by
  intro a0 k
  unfold varint_ReadSigned_int64.f
  repeat' first
      | (with_reducible exact varint_take.mono _ _)
      | (with_reducible exact LeO.refl _)
      | (with_reducible exact LeO.none _)
      | (with_reducible refine LeO.ite ?_ ?_)
      | (with_reducible refine LeO.bind ?_ (fun _ => ?_))
      | exact varint_take.mono _ _
      | exact LeO.none _
      | refine LeO.ite ?_ ?_
      | refine LeO.bind ?_ (fun _ => ?_)
set_option maxHeartbeats 8000000 in
set_option maxRecDepth 100000 in
theorem varint_ReadSigned_int64.calls (k : Nat) (a0 : ByteArray) (r1 : Int) (r2 : Int) (r3 : Int) (w : World) (h : varint_ReadSigned_int64.f k a0 = some (r1, r2, r3)) :
    Calls Try.prog 97 #[.string a0] w fun e w' => e = .returned (.tuple #[.int .i64 r1, .int .i64 r2, .int .i64 r3]) ∧ Drawn0 w w' := by
  have H : ((varint_take.f k a0).bind fun bt104 => (if bt104.2.2 = 0 then ((varint_Unzigzag.f bt104.1).bind fun t107 => (some (t107, bt104.2.1, 0))) else (some (0, 0, bt104.2.2)))) = some (r1, r2, r3) := h
  clear h
  replace H := Option.bind_eq_some_iff.mp H
  obtain ⟨⟨t104, t105, t106⟩, A20, H⟩ := H
  replace H : (if t106 = 0 then ((varint_Unzigzag.f t104).bind fun t107 => (some (t107, t105, 0))) else (some (0, 0, t106))) = some (r1, r2, r3) := H
  have A2 := Aside0.mk A20
  clear A20
  by_cases c3 : t106 = 0
  · rw [if_pos c3] at H
    have c3b0 : (t106 == 0) = true := beq_iff_eq.mpr c3
    have c3b1 : (t106 != 0) = false := bne_eq_false_iff_eq.mpr c3
    clear c3
    replace H := Option.bind_eq_some_iff.mp H
    obtain ⟨t107, A40, H⟩ := H
    replace H : (some (t107, t105, 0)) = some (r1, r2, r3) := H
    have A4 := Aside0.mk A40
    clear A40
    simp only [Option.some.injEq, Prod.mk.injEq] at H
    obtain ⟨rfl, rfl, rfl⟩ := H
    go_enter Try.func97, Try.ntmps97
    go_wp2_with (first | ((with_reducible refine gate_callee (f := 122) rfl ?_); refine goesL_ (some 11) rfl rfl Try.func122 (by kernel_rfl) rfl #[.string a0] rfl (by (try simp only [List.map_toArray, List.map_cons, List.map_nil]); first | done | rfl | (simp only [List.length_drop, List.length_take]; rfl)) ?_; (with_reducible refine (varint_take.calls k a0 t104 t105 t106 _ A2.out).mono ?_); rintro e w' ⟨rfl, ⟨nd, rfl⟩⟩; refine ⟨_, rfl, ?_⟩) | ((with_reducible refine gate_callee (f := 123) rfl ?_); refine goesL_ (some 19) rfl rfl Try.func123 (by kernel_rfl) rfl #[.int .u64 t104] rfl (by (try simp only [List.map_toArray, List.map_cons, List.map_nil]); first | done | rfl | (simp only [List.length_drop, List.length_take]; rfl)) ?_; (with_reducible refine (varint_Unzigzag.calls t104 t107 _ A4.out).mono ?_); rintro e w' ⟨rfl, ⟨nd, rfl⟩⟩; refine ⟨_, rfl, ?_⟩))
    go_ret3
    exact ⟨by first | rfl | (simp; done) | (simp [*]; done), by repeat (first | exact Drawn0.refl _ | apply Drawn0.step)⟩
  · rw [if_neg c3] at H
    have c3b0 : (t106 == 0) = false := beq_eq_false_iff_ne.mpr c3
    have c3b1 : (t106 != 0) = true := bne_iff_ne.mpr c3
    simp only [Option.some.injEq, Prod.mk.injEq] at H
    obtain ⟨rfl, rfl, rfl⟩ := H
    go_enter Try.func97, Try.ntmps97
    go_wp2_with (first | ((with_reducible refine gate_callee (f := 122) rfl ?_); refine goesL_ (some 11) rfl rfl Try.func122 (by kernel_rfl) rfl #[.string a0] rfl (by (try simp only [List.map_toArray, List.map_cons, List.map_nil]); first | done | rfl | (simp only [List.length_drop, List.length_take]; rfl)) ?_; (with_reducible refine (varint_take.calls k a0 t104 t105 t106 _ A2.out).mono ?_); rintro e w' ⟨rfl, ⟨nd, rfl⟩⟩; refine ⟨_, rfl, ?_⟩))
    go_ret3
    exact ⟨by first | rfl | (simp; done) | (simp [*]; done), by repeat (first | exact Drawn0.refl _ | apply Drawn0.step)⟩

-- NOT PRINTED: function 9 (wire_NewWriter)

-- NOT PRINTED: function 12 (wire_Writer_Bytes)

-- NOT PRINTED: function 61 (wire_place_At)

-- NOT PRINTED: function 14 (wire_Writer_At)

end Go.Proofs.Ytclnpedmoelipaa.QW
