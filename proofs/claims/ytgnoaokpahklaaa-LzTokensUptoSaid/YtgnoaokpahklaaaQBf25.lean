/- The machine side of a law, written by a program of this session (the kit printer, changed; wip/tools/mkprint.py): functions, their calls, the row. Lean checks it. -/
import Derived.Test.YtgnoaokpahklaaaQBx0
import Derived.Test.YtgnoaokpahklaaaQBf31
import Derived.Test.YtgnoaokpahklaaaQBf30
import Derived.Test.YtgnoaokpahklaaaQBx2
namespace Go.Proofs.Ytgnoaokpahklaaa.QB
open Go.RowKit Go.Proofs.YtgnoaokpahklaaaW.PrintWords Go.Proofs.YtgnoaokpahklaaaW.PrintLast Go.Proofs.YtgnoaokpahklaaaW.PrintMore
attribute [local go_sem] max2_int min2_int max_two min_two max_three min_three max_four min_four   -- for this text's walks alone
set_option linter.unusedVariables false
set_option linter.unusedSimpArgs false

attribute [local go_sem high] eqA49
/-! ### lz_Form: function 25 -/
mutual
def lz_Form.l0 : Nat → List Int → List (S49) → Int → Int → Option (ByteArray × Int)
  | 0, _, _, _, _ => none
  | k + 1, x4, x7, x8, x9 => if x9 < x8 then (if 0 ≤ x9 then (if x9 < (x7.length : Int) then (if ((rd_T49 x7 x9).f1) = 0 then (if ((rd_T49 x7 x9).f2) = 0 then (if (((rd_T49 x7 x9).f0).size : Int) ≥ 1 then (lz_Form.j1 k x4 x7 x8 x9 (decide ((((rd_T49 x7 x9).f0).size : Int) ≤ 128)) ((rd_T49 x7 x9).f0) ((rd_T49 x7 x9).f1) ((rd_T49 x7 x9).f2)) else (lz_Form.j1 k x4 x7 x8 x9 false ((rd_T49 x7 x9).f0) ((rd_T49 x7 x9).f1) ((rd_T49 x7 x9).f2))) else (lz_Form.j1 k x4 x7 x8 x9 false ((rd_T49 x7 x9).f0) ((rd_T49 x7 x9).f1) ((rd_T49 x7 x9).f2))) else (lz_Form.j1 k x4 x7 x8 x9 false ((rd_T49 x7 x9).f0) ((rd_T49 x7 x9).f1) ((rd_T49 x7 x9).f2))) else (none)) else (none)) else (some (strOfNums x4, 0))
def lz_Form.j1 : Nat → List Int → List (S49) → Int → Int → Bool → ByteArray → Int → Int → Option (ByteArray × Int)
  | 0, _, _, _, _, _, _, _, _ => none
  | k + 1, x4, x7, x8, x9, x13, x266000, x266001, x266002 => if x13 = true then ((lz_literals.f k x4 x266000).bind fun t266 => (lz_Form.l0 k t266 x7 x8 (wrap64 (x9 + 1)))) else (if x266000.toList = ([] : List UInt8) then (if x266001 ≥ 4 then (if x266001 ≤ 131 then (if x266002 ≥ 1 then (if x266002 ≤ 8192 then ((lz_match.f x4 x266001 x266002).bind fun t269 => (lz_Form.l0 k t269 x7 x8 (wrap64 (x9 + 1)))) else (some ((⟨#[]⟩ : ByteArray), 1))) else (some ((⟨#[]⟩ : ByteArray), 1))) else (some ((⟨#[]⟩ : ByteArray), 1))) else (some ((⟨#[]⟩ : ByteArray), 1))) else (some ((⟨#[]⟩ : ByteArray), 1)))
end
def lz_Form.f (k : Nat) (l0 : List (S49)) : Option (ByteArray × Int) := lz_Form.l0 k ([] : List Int) l0 (l0.length : Int) 0
theorem lz_Form.mono_l : ∀ k, (∀ y0 y1 y2 y3, LeO (lz_Form.l0 k y0 y1 y2 y3) (lz_Form.l0 (k + 1) y0 y1 y2 y3)) ∧ (∀ y0 y1 y2 y3 y4 y5 y6 y7, LeO (lz_Form.j1 k y0 y1 y2 y3 y4 y5 y6 y7) (lz_Form.j1 (k + 1) y0 y1 y2 y3 y4 y5 y6 y7))
  | 0 => ⟨fun _ _ _ _ r h => by simp [lz_Form.l0] at h, fun _ _ _ _ _ _ _ _ r h => by simp [lz_Form.j1] at h⟩
  | k + 1 => by
    obtain ⟨ih0, ih1⟩ := lz_Form.mono_l k
    refine ⟨?_, ?_⟩
    · intro y0 y1 y2 y3
      unfold lz_Form.l0
      repeat' first
      | (with_reducible exact ih0 _ _ _ _)
      | (with_reducible exact ih1 _ _ _ _ _ _ _ _)
      | (with_reducible exact lz_literals.mono _ _ _)
      | (with_reducible exact LeO.refl _)
      | (with_reducible exact LeO.none _)
      | (with_reducible refine LeO.ite ?_ ?_)
      | (with_reducible refine LeO.bind ?_ (fun _ => ?_))
      | exact ih0 _ _ _ _
      | exact ih1 _ _ _ _ _ _ _ _
      | exact lz_literals.mono _ _ _
      | exact LeO.none _
      | refine LeO.ite ?_ ?_
      | refine LeO.bind ?_ (fun _ => ?_)
    · intro y0 y1 y2 y3 y4 y5 y6 y7
      unfold lz_Form.j1
      repeat' first
      | (with_reducible exact ih0 _ _ _ _)
      | (with_reducible exact ih1 _ _ _ _ _ _ _ _)
      | (with_reducible exact lz_literals.mono _ _ _)
      | (with_reducible exact LeO.refl _)
      | (with_reducible exact LeO.none _)
      | (with_reducible refine LeO.ite ?_ ?_)
      | (with_reducible refine LeO.bind ?_ (fun _ => ?_))
      | exact ih0 _ _ _ _
      | exact ih1 _ _ _ _ _ _ _ _
      | exact lz_literals.mono _ _ _
      | exact LeO.none _
      | refine LeO.ite ?_ ?_
      | refine LeO.bind ?_ (fun _ => ?_)
theorem lz_Form.mono : ∀ a0 k, LeO (lz_Form.f k a0) (lz_Form.f (k + 1) a0) := by
  intro a0 k
  obtain ⟨ih0, ih1⟩ := lz_Form.mono_l k
  unfold lz_Form.f
  repeat' first
      | (with_reducible exact ih0 _ _ _ _)
      | (with_reducible exact ih1 _ _ _ _ _ _ _ _)
      | (with_reducible exact lz_literals.mono _ _ _)
      | (with_reducible exact LeO.refl _)
      | (with_reducible exact LeO.none _)
      | (with_reducible refine LeO.ite ?_ ?_)
      | (with_reducible refine LeO.bind ?_ (fun _ => ?_))
      | exact ih0 _ _ _ _
      | exact ih1 _ _ _ _ _ _ _ _
      | exact lz_literals.mono _ _ _
      | exact LeO.none _
      | refine LeO.ite ?_ ?_
      | refine LeO.bind ?_ (fun _ => ?_)
set_option maxHeartbeats 8000000 in
set_option maxRecDepth 100000 in
theorem lz_Form.calls (k : Nat) (A0 : Option Addr) (c0 : Nat) (l0 : List (S49)) (r1 : ByteArray) (r2 : Int) (w : World) (hr0 : Kd.C k49 w A0 l0.length l0) (hc0 : l0.length ≤ c0) (h : lz_Form.f k l0 = some (r1, r2)) :
    Calls Try.prog 25 #[.slice A0 l0.length c0] w fun e w' => e = .returned (.tuple #[.string r1, .int .i64 r2]) ∧ Below w.heap.size w w' := by
  have hu49 := Try.underlying49
  have HR0 := Aside0.mk hr0
  have HC0 := Aside0.mk hc0
  clear hr0 hc0
  have HB := Aside0.mk (Below.refl w.heap.size w)
  have H : (lz_Form.l0 k ([] : List Int) l0 (l0.length : Int) 0) = some (r1, r2) := h
  clear h
  have H' := Aside0.mk H
  clear H
  go_enter Try.func25, Try.ntmps25
  go_wp2
  go_loopg [4, 9] k (fun kq v4 v9 w' => ∃ (x4_1 : List Int) (x9_1 : Int), v9 = .int .i64 x9_1 ∧ Aside0 (lz_Form.l0 kq x4_1 l0 (l0.length : Int) x9_1 = some (r1, r2)) ∧ Aside0 (kq ≤ k) ∧ Aside0 (Kd.R (Kd.int .u8) 5 w' w.heap.size (fun _ => True) v4 x4_1) ∧ Aside0 (Below w.heap.size w w'))
  case atStart => exact ⟨(([] : List Int)), (0), (by first | rfl | (simp; done) | (simp [*]; done)), H', ⟨Nat.le_refl _⟩, ⟨by first | exact Kd.R_nil _ _ _ _ _ | exact Kd.N_nil _ _ _ _ _ | exact Kd.V_nil _ _ _ _ _ | exact Kd.Q_nil _ _ _ _ _ | exact Kd.S_nil _ _ _ _ _⟩, ⟨by repeat (first | (with_reducible first | exact HB.out | apply below_alloc | apply pw_below_drewN | apply below_drew1) | exact HB.out)⟩⟩
  case round =>
    clear H'
    obtain ⟨x4_1, x9_1, rfl, HA, HK1, HO_4, HB⟩ := hrel
    cases gk with
    | zero => exact absurd HA.out (by simp [lz_Form.l0])
    | succ k1 =>
      have H := HA.out
      clear HA
      simp only [lz_Form.l0] at H
      by_cases c2 : x9_1 < (l0.length : Int)
      · rw [if_pos c2] at H
        have c2b0 : decide (x9_1 < (l0.length : Int)) = true := decide_eq_true c2
        clear c2
        by_cases c3 : 0 ≤ x9_1
        · rw [if_pos c3] at H
          have c3b0 : decide (0 ≤ x9_1) = true := decide_eq_true c3
          clear c3
          by_cases c4 : x9_1 < (l0.length : Int)
          · rw [if_pos c4] at H
            have c4b0 : decide (x9_1 < (l0.length : Int)) = true := decide_eq_true c4
            clear c4
            have HC5 := Aside0.mk H
            clear H
            have p264 : 0 ≤ (x9_1 : Int) := of_decide_eq_true (by first | (with_reducible assumption) | assumption)
            have q264 : x9_1 < (l0.length : Int) := of_decide_eq_true (by first | (with_reducible assumption) | assumption)
            obtain ⟨ad264, e264, hx264_0, hx264_1, hx264_2⟩ := at_T49 HR0.out x9_1 p264 q264
            cases e264
            replace hx264_0 := (HB.out.cell (World.block_lt_of_cell? w _ hx264_0)).trans hx264_0
            replace hx264_1 := (HB.out.cell (World.block_lt_of_cell? w _ hx264_1)).trans hx264_1
            replace hx264_2 := (HB.out.cell (World.block_lt_of_cell? w _ hx264_2)).trans hx264_2
            replace p264 := eq_true p264
            replace q264 := eq_true q264
            go_upto_region 6 with (first | ((with_reducible refine gate_dst (N := 6) rfl ?_); (try (refine gate_guard (by rfl) ?_; dsimp only)); refine box_event ?hg (N := 6) ?hd (cs := #[.string (⟨#[]⟩ : ByteArray), .int .i64 0, .int .i64 0]) (t := 49) ?hr ?_; (case hd => rfl); (case hg => rfl); (case hr => first | (go_simp; done) | (go_simp; rfl)); intro gb265 hg w6 hbox hb; have n0_ := Aside0.mk (Kd.R_below (by (with_reducible repeat (first | apply Kd.R_alloc | apply Kd.R_drewN | apply Kd.R_drew)); exact HO_4.out) hb); have n1_ := Aside0.mk (below_step (by repeat (first | (with_reducible first | exact HB.out | apply below_alloc | apply pw_below_drewN | apply below_drew1) | exact HB.out)) hb); have n2_ := Aside0.mk (hbox); have n3_ := Aside0.mk ((by rw [hg]; exact (below_size (by repeat (first | (with_reducible first | exact HB.out | apply below_alloc | apply pw_below_drewN | apply below_drew1) | exact HB.out))) : w.heap.size ≤ gb265)); have n4_ := Aside0.mk ((by rw [hg]; exact (below_size (by repeat (first | (with_reducible first | exact HB.out | apply below_alloc | apply pw_below_drewN | apply below_drew1) | exact HB.out))) : w.heap.size ≤ gb265)); clear HO_4; clear HB; have HO_4 := n0_; have HB := n1_; have BK265 := n2_; have GW265 := n3_; have GE265 := n4_; clear n0_ n1_ n2_ n3_ n4_; clear hb hbox hg; have hcz7_0 : w6.cell? ⟨gb265, 0, none⟩ = some (.string (⟨#[]⟩ : ByteArray)) := (blk_cell BK265.out 0).trans rfl; have hcz7_1 : w6.cell? ⟨gb265, 1, none⟩ = some (.int .i64 0) := (blk_cell BK265.out 1).trans rfl; have hcz7_2 : w6.cell? ⟨gb265, 2, none⟩ = some (.int .i64 0) := (blk_cell BK265.out 2).trans rfl; have hfz7_0 := blk_frozen BK265.out 0; have hfz7_1 := blk_frozen BK265.out 1; have hfz7_2 := blk_frozen BK265.out 2))
            (try simp only [Act.put, List.setIfInBounds_toArray, List.set_cons_zero, List.set_cons_succ])
            go_cut [13] (fun v13 wc => ∃ (kq : Nat) (x13_4 : Bool), v13 = .bool x13_4 ∧ Aside0 (lz_Form.j1 kq x4_1 l0 (l0.length : Int) x9_1 x13_4 ((rd_T49 l0 x9_1).f0) ((rd_T49 l0 x9_1).f1) ((rd_T49 l0 x9_1).f2) = some (r1, r2)) ∧ Aside0 (kq ≤ k1) ∧ Aside0 (Kd.R (Kd.int .u8) 5 wc w.heap.size (fun _ => True) u4 x4_1) ∧ Aside0 (wc.heap[gb265]? = some (.cells #[.string ((rd_T49 l0 x9_1).f0), .int .i64 ((rd_T49 l0 x9_1).f1), .int .i64 ((rd_T49 l0 x9_1).f2)] 49 (0, 0))) ∧ Aside0 (Below w.heap.size w wc))
            case first =>
              have H := HC5.out
              clear HC5
              by_cases c8 : ((rd_T49 l0 x9_1).f1) = 0
              · rw [if_pos c8] at H
                have c8b0 : (((rd_T49 l0 x9_1).f1) == 0) = true := beq_iff_eq.mpr c8
                have c8b1 : (((rd_T49 l0 x9_1).f1) != 0) = false := bne_eq_false_iff_eq.mpr c8
                clear c8
                (first | rw [c8b0] | (simp only [i64_w, i32_w]; rw [c8b0]) | skip)
                by_cases c9 : ((rd_T49 l0 x9_1).f2) = 0
                · rw [if_pos c9] at H
                  have c9b0 : (((rd_T49 l0 x9_1).f2) == 0) = true := beq_iff_eq.mpr c9
                  have c9b1 : (((rd_T49 l0 x9_1).f2) != 0) = false := bne_eq_false_iff_eq.mpr c9
                  clear c9
                  by_cases c10 : (((rd_T49 l0 x9_1).f0).size : Int) ≥ 1
                  · rw [if_pos c10] at H
                    have c10b0 : decide (1 ≤ (((rd_T49 l0 x9_1).f0).size : Int)) = true := decide_eq_true c10
                    have c10b1 : decide (1 ≤ ((rd_T49 l0 x9_1).f0).size) = true := decide_eq_true (by omega)
                    clear c10
                    have H' := Aside0.mk H
                    clear H
                    have hcz11_0 : w6.cell? ⟨gb265, 0, none⟩ = some (.string (⟨#[]⟩ : ByteArray)) := (blk_cell BK265.out 0).trans rfl
                    have hcz11_1 : w6.cell? ⟨gb265, 1, none⟩ = some (.int .i64 0) := (blk_cell BK265.out 1).trans rfl
                    have hcz11_2 : w6.cell? ⟨gb265, 2, none⟩ = some (.int .i64 0) := (blk_cell BK265.out 2).trans rfl
                    have hfz11_0 := blk_frozen BK265.out 0
                    have hfz11_1 := blk_frozen BK265.out 1
                    have hfz11_2 := blk_frozen BK265.out 2
                    go_wp2
                    go_meet
                    case rel => exact ⟨_, (decide ((((rd_T49 l0 x9_1).f0).size : Int) ≤ 128)), (by first | rfl | (simp; done) | (simp [*]; done)), H', ⟨by have := HK1.out; first | omega | exact Nat.le_refl _⟩, ⟨by (with_reducible repeat (first | apply Kd.R_alloc | apply Kd.R_drewN | apply Kd.R_drew)); exact Kd.R_mono (Kd.R_far (p := ⟨gb265, 2, none⟩) (Kd.R_far (p := ⟨gb265, 1, none⟩) (Kd.R_far (p := ⟨gb265, 0, none⟩) (Kd.R_types HO_4.out BK265.out (by decide)) (fun _ hk => hk.2) (.string ((rd_T49 l0 x9_1).f0))) (fun _ hk => hk.2) (.int .i64 ((rd_T49 l0 x9_1).f1))) (fun _ hk => hk.2) (.int .i64 ((rd_T49 l0 x9_1).f2))) (fun _ hk => trivial)⟩, ⟨by (with_reducible repeat (first | refine blk_drewN ?_ _ | refine blk_drew ?_ | refine blk_alloc ?_ _)); refine blk_put (cs := #[.string ((rd_T49 l0 x9_1).f0), .int .i64 ((rd_T49 l0 x9_1).f1), .int .i64 0]) ?_ 2 _ rfl; (with_reducible repeat (first | refine blk_drewN ?_ _ | refine blk_drew ?_ | refine blk_alloc ?_ _)); refine blk_put (cs := #[.string ((rd_T49 l0 x9_1).f0), .int .i64 0, .int .i64 0]) ?_ 1 _ rfl; (with_reducible repeat (first | refine blk_drewN ?_ _ | refine blk_drew ?_ | refine blk_alloc ?_ _)); refine blk_put (cs := #[.string (⟨#[]⟩ : ByteArray), .int .i64 0, .int .i64 0]) ?_ 0 _ rfl; (with_reducible repeat (first | refine blk_drewN ?_ _ | refine blk_drew ?_ | refine blk_alloc ?_ _)); exact BK265.out⟩, ⟨by repeat (first | (with_reducible first | exact HB.out | apply below_alloc | apply pw_below_drewN | apply below_drew1 | refine below_set ?_ GE265.out) | exact HB.out)⟩⟩
                  · rw [if_neg c10] at H
                    have c10b0 : decide (1 ≤ (((rd_T49 l0 x9_1).f0).size : Int)) = false := decide_eq_false c10
                    have c10b1 : decide (1 ≤ ((rd_T49 l0 x9_1).f0).size) = false := decide_eq_false (by omega)
                    clear c10
                    have H' := Aside0.mk H
                    clear H
                    have hcz12_0 : w6.cell? ⟨gb265, 0, none⟩ = some (.string (⟨#[]⟩ : ByteArray)) := (blk_cell BK265.out 0).trans rfl
                    have hcz12_1 : w6.cell? ⟨gb265, 1, none⟩ = some (.int .i64 0) := (blk_cell BK265.out 1).trans rfl
                    have hcz12_2 : w6.cell? ⟨gb265, 2, none⟩ = some (.int .i64 0) := (blk_cell BK265.out 2).trans rfl
                    have hfz12_0 := blk_frozen BK265.out 0
                    have hfz12_1 := blk_frozen BK265.out 1
                    have hfz12_2 := blk_frozen BK265.out 2
                    go_wp2
                    go_meet
                    case rel => exact ⟨_, (false), (by first | rfl | (simp; done) | (simp [*]; done)), H', ⟨by have := HK1.out; first | omega | exact Nat.le_refl _⟩, ⟨by (with_reducible repeat (first | apply Kd.R_alloc | apply Kd.R_drewN | apply Kd.R_drew)); exact Kd.R_mono (Kd.R_far (p := ⟨gb265, 2, none⟩) (Kd.R_far (p := ⟨gb265, 1, none⟩) (Kd.R_far (p := ⟨gb265, 0, none⟩) (Kd.R_types HO_4.out BK265.out (by decide)) (fun _ hk => hk.2) (.string ((rd_T49 l0 x9_1).f0))) (fun _ hk => hk.2) (.int .i64 ((rd_T49 l0 x9_1).f1))) (fun _ hk => hk.2) (.int .i64 ((rd_T49 l0 x9_1).f2))) (fun _ hk => trivial)⟩, ⟨by (with_reducible repeat (first | refine blk_drewN ?_ _ | refine blk_drew ?_ | refine blk_alloc ?_ _)); refine blk_put (cs := #[.string ((rd_T49 l0 x9_1).f0), .int .i64 ((rd_T49 l0 x9_1).f1), .int .i64 0]) ?_ 2 _ rfl; (with_reducible repeat (first | refine blk_drewN ?_ _ | refine blk_drew ?_ | refine blk_alloc ?_ _)); refine blk_put (cs := #[.string ((rd_T49 l0 x9_1).f0), .int .i64 0, .int .i64 0]) ?_ 1 _ rfl; (with_reducible repeat (first | refine blk_drewN ?_ _ | refine blk_drew ?_ | refine blk_alloc ?_ _)); refine blk_put (cs := #[.string (⟨#[]⟩ : ByteArray), .int .i64 0, .int .i64 0]) ?_ 0 _ rfl; (with_reducible repeat (first | refine blk_drewN ?_ _ | refine blk_drew ?_ | refine blk_alloc ?_ _)); exact BK265.out⟩, ⟨by repeat (first | (with_reducible first | exact HB.out | apply below_alloc | apply pw_below_drewN | apply below_drew1 | refine below_set ?_ GE265.out) | exact HB.out)⟩⟩
                · rw [if_neg c9] at H
                  have c9b0 : (((rd_T49 l0 x9_1).f2) == 0) = false := beq_eq_false_iff_ne.mpr c9
                  have c9b1 : (((rd_T49 l0 x9_1).f2) != 0) = true := bne_iff_ne.mpr c9
                  have H' := Aside0.mk H
                  clear H
                  have hcz13_0 : w6.cell? ⟨gb265, 0, none⟩ = some (.string (⟨#[]⟩ : ByteArray)) := (blk_cell BK265.out 0).trans rfl
                  have hcz13_1 : w6.cell? ⟨gb265, 1, none⟩ = some (.int .i64 0) := (blk_cell BK265.out 1).trans rfl
                  have hcz13_2 : w6.cell? ⟨gb265, 2, none⟩ = some (.int .i64 0) := (blk_cell BK265.out 2).trans rfl
                  have hfz13_0 := blk_frozen BK265.out 0
                  have hfz13_1 := blk_frozen BK265.out 1
                  have hfz13_2 := blk_frozen BK265.out 2
                  go_wp2
                  go_meet
                  case rel => exact ⟨_, (false), (by first | rfl | (simp; done) | (simp [*]; done)), H', ⟨by have := HK1.out; first | omega | exact Nat.le_refl _⟩, ⟨by (with_reducible repeat (first | apply Kd.R_alloc | apply Kd.R_drewN | apply Kd.R_drew)); exact Kd.R_mono (Kd.R_far (p := ⟨gb265, 2, none⟩) (Kd.R_far (p := ⟨gb265, 1, none⟩) (Kd.R_far (p := ⟨gb265, 0, none⟩) (Kd.R_types HO_4.out BK265.out (by decide)) (fun _ hk => hk.2) (.string ((rd_T49 l0 x9_1).f0))) (fun _ hk => hk.2) (.int .i64 ((rd_T49 l0 x9_1).f1))) (fun _ hk => hk.2) (.int .i64 ((rd_T49 l0 x9_1).f2))) (fun _ hk => trivial)⟩, ⟨by (with_reducible repeat (first | refine blk_drewN ?_ _ | refine blk_drew ?_ | refine blk_alloc ?_ _)); refine blk_put (cs := #[.string ((rd_T49 l0 x9_1).f0), .int .i64 ((rd_T49 l0 x9_1).f1), .int .i64 0]) ?_ 2 _ rfl; (with_reducible repeat (first | refine blk_drewN ?_ _ | refine blk_drew ?_ | refine blk_alloc ?_ _)); refine blk_put (cs := #[.string ((rd_T49 l0 x9_1).f0), .int .i64 0, .int .i64 0]) ?_ 1 _ rfl; (with_reducible repeat (first | refine blk_drewN ?_ _ | refine blk_drew ?_ | refine blk_alloc ?_ _)); refine blk_put (cs := #[.string (⟨#[]⟩ : ByteArray), .int .i64 0, .int .i64 0]) ?_ 0 _ rfl; (with_reducible repeat (first | refine blk_drewN ?_ _ | refine blk_drew ?_ | refine blk_alloc ?_ _)); exact BK265.out⟩, ⟨by repeat (first | (with_reducible first | exact HB.out | apply below_alloc | apply pw_below_drewN | apply below_drew1 | refine below_set ?_ GE265.out) | exact HB.out)⟩⟩
              · rw [if_neg c8] at H
                have c8b0 : (((rd_T49 l0 x9_1).f1) == 0) = false := beq_eq_false_iff_ne.mpr c8
                have c8b1 : (((rd_T49 l0 x9_1).f1) != 0) = true := bne_iff_ne.mpr c8
                (first | rw [c8b0] | (simp only [i64_w, i32_w]; rw [c8b0]) | skip)
                have H' := Aside0.mk H
                clear H
                have hcz14_0 : w6.cell? ⟨gb265, 0, none⟩ = some (.string (⟨#[]⟩ : ByteArray)) := (blk_cell BK265.out 0).trans rfl
                have hcz14_1 : w6.cell? ⟨gb265, 1, none⟩ = some (.int .i64 0) := (blk_cell BK265.out 1).trans rfl
                have hcz14_2 : w6.cell? ⟨gb265, 2, none⟩ = some (.int .i64 0) := (blk_cell BK265.out 2).trans rfl
                have hfz14_0 := blk_frozen BK265.out 0
                have hfz14_1 := blk_frozen BK265.out 1
                have hfz14_2 := blk_frozen BK265.out 2
                go_wp2
                go_meet
                case rel => exact ⟨_, (false), (by first | rfl | (simp; done) | (simp [*]; done)), H', ⟨by have := HK1.out; first | omega | exact Nat.le_refl _⟩, ⟨by (with_reducible repeat (first | apply Kd.R_alloc | apply Kd.R_drewN | apply Kd.R_drew)); exact Kd.R_mono (Kd.R_far (p := ⟨gb265, 2, none⟩) (Kd.R_far (p := ⟨gb265, 1, none⟩) (Kd.R_far (p := ⟨gb265, 0, none⟩) (Kd.R_types HO_4.out BK265.out (by decide)) (fun _ hk => hk.2) (.string ((rd_T49 l0 x9_1).f0))) (fun _ hk => hk.2) (.int .i64 ((rd_T49 l0 x9_1).f1))) (fun _ hk => hk.2) (.int .i64 ((rd_T49 l0 x9_1).f2))) (fun _ hk => trivial)⟩, ⟨by (with_reducible repeat (first | refine blk_drewN ?_ _ | refine blk_drew ?_ | refine blk_alloc ?_ _)); refine blk_put (cs := #[.string ((rd_T49 l0 x9_1).f0), .int .i64 ((rd_T49 l0 x9_1).f1), .int .i64 0]) ?_ 2 _ rfl; (with_reducible repeat (first | refine blk_drewN ?_ _ | refine blk_drew ?_ | refine blk_alloc ?_ _)); refine blk_put (cs := #[.string ((rd_T49 l0 x9_1).f0), .int .i64 0, .int .i64 0]) ?_ 1 _ rfl; (with_reducible repeat (first | refine blk_drewN ?_ _ | refine blk_drew ?_ | refine blk_alloc ?_ _)); refine blk_put (cs := #[.string (⟨#[]⟩ : ByteArray), .int .i64 0, .int .i64 0]) ?_ 0 _ rfl; (with_reducible repeat (first | refine blk_drewN ?_ _ | refine blk_drew ?_ | refine blk_alloc ?_ _)); exact BK265.out⟩, ⟨by repeat (first | (with_reducible first | exact HB.out | apply below_alloc | apply pw_below_drewN | apply below_drew1 | refine below_set ?_ GE265.out) | exact HB.out)⟩⟩
            case rest =>
              clear HC5
              try clear c1
              try clear c2
              try clear c2b0
              try clear p2
              try clear q2
              try clear hx2
              try clear c3
              try clear c3b0
              try clear c4
              try clear c4b0
              try clear c8
              try clear c8b0
              try clear c8b1
              try clear c9
              try clear c9b0
              try clear c9b1
              try clear c10
              try clear c10b0
              try clear c10b1
              try clear hcz11_0
              try clear hcz11_1
              try clear hcz11_2
              try clear hcz12_0
              try clear hcz12_1
              try clear hcz12_2
              try clear hcz13_0
              try clear hcz13_1
              try clear hcz13_2
              try clear hcz14_0
              try clear hcz14_1
              try clear hcz14_2
              try clear hcz7_0
              try clear hcz7_1
              try clear hcz7_2
              try clear hfz11_0
              try clear hfz11_1
              try clear hfz11_2
              try clear hfz12_0
              try clear hfz12_1
              try clear hfz12_2
              try clear hfz13_0
              try clear hfz13_1
              try clear hfz13_2
              try clear hfz14_0
              try clear hfz14_1
              try clear hfz14_2
              try clear hfz7_0
              try clear hfz7_1
              try clear hfz7_2
              try clear hx264_0
              try clear hx264_1
              try clear hx264_2
              try clear p264
              try clear q264
              obtain ⟨kq, x13_4, rfl, HA, HJ4, HO_4, BK265, HB⟩ := hcut
              cases kq with
              | zero => exact absurd HA.out (by simp [lz_Form.j1])
              | succ kj4 =>
                have H := HA.out
                clear HA
                simp only [lz_Form.j1] at H
                by_cases c15 : x13_4 = true
                · subst c15
                  have H1 : ((lz_literals.f kj4 x4_1 ((rd_T49 l0 x9_1).f0)).bind fun t266 => (lz_Form.l0 kj4 t266 l0 (l0.length : Int) (wrap64 (x9_1 + 1)))) = some (r1, r2) := by rw [if_pos rfl] at H; exact H
                  clear H
                  have H := H1
                  clear H1
                  replace H := Option.bind_eq_some_iff.mp H
                  obtain ⟨t266, A160, H⟩ := H
                  replace H : (lz_Form.l0 kj4 t266 l0 (l0.length : Int) (wrap64 (x9_1 + 1))) = some (r1, r2) := H
                  have A16 := Aside0.mk A160
                  clear A160
                  have H' := Aside0.mk H
                  clear H
                  have hcz17_0 : wc.cell? ⟨gb265, 0, none⟩ = some (.string ((rd_T49 l0 x9_1).f0)) := (blk_cell BK265.out 0).trans rfl
                  have hcz17_1 : wc.cell? ⟨gb265, 1, none⟩ = some (.int .i64 ((rd_T49 l0 x9_1).f1)) := (blk_cell BK265.out 1).trans rfl
                  have hcz17_2 : wc.cell? ⟨gb265, 2, none⟩ = some (.int .i64 ((rd_T49 l0 x9_1).f2)) := (blk_cell BK265.out 2).trans rfl
                  have hfz17_0 := blk_frozen BK265.out 0
                  have hfz17_1 := blk_frozen BK265.out 1
                  have hfz17_2 := blk_frozen BK265.out 2
                  obtain ⟨Ao18, co18, eo18⟩ := Kd.R_slice HO_4.out
                  subst eo18
                  go_wp2_with (first | ((with_reducible refine gate_callee (f := 31) rfl ?_); refine goesL_ (some 37) rfl rfl Try.func31 (by kernel_rfl) rfl #[.slice Ao18 x4_1.length co18, .string ((rd_T49 l0 x9_1).f0)] rfl (by (try simp only [List.map_toArray, List.map_cons, List.map_nil]); first | done | rfl | (simp only [List.length_drop, List.length_take]; rfl)) ?_; (with_reducible refine (lz_literals.calls kj4 (fun k_ => some k_ = (.slice Ao18 x4_1.length co18 : Value).ownBlock) (.slice Ao18 x4_1.length co18) x4_1 ((rd_T49 l0 x9_1).f0) t266 w _ ?side1 ?side2 A16.out).mono ?_); (case side1 => repeat (first | (with_reducible first | exact HB.out | apply below_alloc | apply pw_below_drewN | apply below_drew1 | refine below_set ?_ GE265.out) | exact HB.out)); (case side2 => exact Kd.R_tight rfl HO_4.out); rintro e w19 ⟨v267, rfl, ho0, hb, hkp⟩; refine ⟨_, rfl, ?_⟩; have n0_ := Aside0.mk (blk_kept (by (with_reducible repeat (first | refine blk_drewN ?_ _ | refine blk_drew ?_ | refine blk_alloc ?_ _)); exact BK265.out) hkp (fun hs_ => (fun e_ => (Kd.R_ne HO_4.out BK265.out (by decide)) e_) hs_)); have n1_ := Aside0.mk (Kd.R_mono (ok' := fun k_ => True) ho0 (fun k_ hk_ => trivial)); have n2_ := Aside0.mk (hb); clear BK265; clear HB; clear HO_4; have BK265 := n0_; have HO268 := n1_; have HB := n2_; clear n0_ n1_ n2_; (try clear hb); (try clear hkp); (try clear ho0)))
                  go_roundg kj4
                  case measure => have := HK1.out; have := HJ4.out; omega
                  case rel => exact ⟨(t266), (wrap64 (x9_1 + 1)), (by first | rfl | (simp; done) | (simp [*]; done)), H', ⟨by have := HK1.out; have := HJ4.out; omega⟩, ⟨by (with_reducible repeat (first | apply Kd.R_alloc | apply Kd.R_drewN | apply Kd.R_drew)); exact HO268.out⟩, ⟨by repeat (first | (with_reducible first | exact HB.out | apply below_alloc | apply pw_below_drewN | apply below_drew1 | refine below_set ?_ GE265.out) | exact HB.out)⟩⟩
                · replace c15 := Bool.eq_false_iff.mpr c15
                  subst c15
                  have H1 : (if ((rd_T49 l0 x9_1).f0).toList = ([] : List UInt8) then (if ((rd_T49 l0 x9_1).f1) ≥ 4 then (if ((rd_T49 l0 x9_1).f1) ≤ 131 then (if ((rd_T49 l0 x9_1).f2) ≥ 1 then (if ((rd_T49 l0 x9_1).f2) ≤ 8192 then ((lz_match.f x4_1 ((rd_T49 l0 x9_1).f1) ((rd_T49 l0 x9_1).f2)).bind fun t269 => (lz_Form.l0 kj4 t269 l0 (l0.length : Int) (wrap64 (x9_1 + 1)))) else (some ((⟨#[]⟩ : ByteArray), 1))) else (some ((⟨#[]⟩ : ByteArray), 1))) else (some ((⟨#[]⟩ : ByteArray), 1))) else (some ((⟨#[]⟩ : ByteArray), 1))) else (some ((⟨#[]⟩ : ByteArray), 1))) = some (r1, r2) := by rw [if_neg (show ¬ (false = true) by decide)] at H; exact H
                  clear H
                  have H := H1
                  clear H1
                  by_cases c20 : ((rd_T49 l0 x9_1).f0).toList = ([] : List UInt8)
                  · rw [if_pos c20] at H
                    have c20b0 : (((rd_T49 l0 x9_1).f0).toList == ([] : List UInt8)) = true := beq_iff_eq.mpr c20
                    have c20b1 : (((rd_T49 l0 x9_1).f0).toList != ([] : List UInt8)) = false := bne_eq_false_iff_eq.mpr c20
                    clear c20
                    by_cases c21 : ((rd_T49 l0 x9_1).f1) ≥ 4
                    · rw [if_pos c21] at H
                      have c21b0 : decide (4 ≤ ((rd_T49 l0 x9_1).f1)) = true := decide_eq_true c21
                      clear c21
                      by_cases c22 : ((rd_T49 l0 x9_1).f1) ≤ 131
                      · rw [if_pos c22] at H
                        have c22b0 : decide (((rd_T49 l0 x9_1).f1) ≤ 131) = true := decide_eq_true c22
                        clear c22
                        by_cases c23 : ((rd_T49 l0 x9_1).f2) ≥ 1
                        · rw [if_pos c23] at H
                          have c23b0 : decide (1 ≤ ((rd_T49 l0 x9_1).f2)) = true := decide_eq_true c23
                          clear c23
                          by_cases c24 : ((rd_T49 l0 x9_1).f2) ≤ 8192
                          · rw [if_pos c24] at H
                            have c24b0 : decide (((rd_T49 l0 x9_1).f2) ≤ 8192) = true := decide_eq_true c24
                            clear c24
                            replace H := Option.bind_eq_some_iff.mp H
                            obtain ⟨t269, A250, H⟩ := H
                            replace H : (lz_Form.l0 kj4 t269 l0 (l0.length : Int) (wrap64 (x9_1 + 1))) = some (r1, r2) := H
                            have A25 := Aside0.mk A250
                            clear A250
                            have H' := Aside0.mk H
                            clear H
                            have hcz26_0 : wc.cell? ⟨gb265, 0, none⟩ = some (.string ((rd_T49 l0 x9_1).f0)) := (blk_cell BK265.out 0).trans rfl
                            have hcz26_1 : wc.cell? ⟨gb265, 1, none⟩ = some (.int .i64 ((rd_T49 l0 x9_1).f1)) := (blk_cell BK265.out 1).trans rfl
                            have hcz26_2 : wc.cell? ⟨gb265, 2, none⟩ = some (.int .i64 ((rd_T49 l0 x9_1).f2)) := (blk_cell BK265.out 2).trans rfl
                            have hfz26_0 := blk_frozen BK265.out 0
                            have hfz26_1 := blk_frozen BK265.out 1
                            have hfz26_2 := blk_frozen BK265.out 2
                            obtain ⟨Ao27, co27, eo27⟩ := Kd.R_slice HO_4.out
                            subst eo27
                            go_wp2_with (first | ((with_reducible refine gate_callee (f := 30) rfl ?_); refine goesL_ (some 67) rfl rfl Try.func30 (by kernel_rfl) rfl #[.slice Ao27 x4_1.length co27, .int .i64 ((rd_T49 l0 x9_1).f1), .int .i64 ((rd_T49 l0 x9_1).f2)] rfl (by (try simp only [List.map_toArray, List.map_cons, List.map_nil]); first | done | rfl | (simp only [List.length_drop, List.length_take]; rfl)) ?_; (with_reducible refine (lz_match.calls (fun k_ => some k_ = (.slice Ao27 x4_1.length co27 : Value).ownBlock) (.slice Ao27 x4_1.length co27) x4_1 ((rd_T49 l0 x9_1).f1) ((rd_T49 l0 x9_1).f2) t269 w _ ?side1 ?side2 A25.out).mono ?_); (case side1 => repeat (first | (with_reducible first | exact HB.out | apply below_alloc | apply pw_below_drewN | apply below_drew1 | refine below_set ?_ GE265.out) | exact HB.out)); (case side2 => exact Kd.R_tight rfl HO_4.out); rintro e w28 ⟨v270, rfl, ho0, hb, hkp⟩; refine ⟨_, rfl, ?_⟩; have n0_ := Aside0.mk (blk_kept (by (with_reducible repeat (first | refine blk_drewN ?_ _ | refine blk_drew ?_ | refine blk_alloc ?_ _)); exact BK265.out) hkp (fun hs_ => (fun e_ => (Kd.R_ne HO_4.out BK265.out (by decide)) e_) hs_)); have n1_ := Aside0.mk (Kd.R_mono (ok' := fun k_ => True) ho0 (fun k_ hk_ => trivial)); have n2_ := Aside0.mk (hb); clear BK265; clear HB; clear HO_4; have BK265 := n0_; have HO271 := n1_; have HB := n2_; clear n0_ n1_ n2_; (try clear hb); (try clear hkp); (try clear ho0)))
                            go_roundg kj4
                            case measure => have := HK1.out; have := HJ4.out; omega
                            case rel => exact ⟨(t269), (wrap64 (x9_1 + 1)), (by first | rfl | (simp; done) | (simp [*]; done)), H', ⟨by have := HK1.out; have := HJ4.out; omega⟩, ⟨by (with_reducible repeat (first | apply Kd.R_alloc | apply Kd.R_drewN | apply Kd.R_drew)); exact HO271.out⟩, ⟨by repeat (first | (with_reducible first | exact HB.out | apply below_alloc | apply pw_below_drewN | apply below_drew1 | refine below_set ?_ GE265.out) | exact HB.out)⟩⟩
                          · rw [if_neg c24] at H
                            have c24b0 : decide (((rd_T49 l0 x9_1).f2) ≤ 8192) = false := decide_eq_false c24
                            clear c24
                            simp only [Option.some.injEq, Prod.mk.injEq] at H
                            obtain ⟨rfl, rfl⟩ := H
                            have hcz29_0 : wc.cell? ⟨gb265, 0, none⟩ = some (.string ((rd_T49 l0 x9_1).f0)) := (blk_cell BK265.out 0).trans rfl
                            have hcz29_1 : wc.cell? ⟨gb265, 1, none⟩ = some (.int .i64 ((rd_T49 l0 x9_1).f1)) := (blk_cell BK265.out 1).trans rfl
                            have hcz29_2 : wc.cell? ⟨gb265, 2, none⟩ = some (.int .i64 ((rd_T49 l0 x9_1).f2)) := (blk_cell BK265.out 2).trans rfl
                            have hfz29_0 := blk_frozen BK265.out 0
                            have hfz29_1 := blk_frozen BK265.out 1
                            have hfz29_2 := blk_frozen BK265.out 2
                            go_wp2
                            go_ret2
                            exact ⟨by first | rfl | (simp [errW_none, errW_some] <;> rfl) | (simp [*, errW_none, errW_some] <;> rfl), by repeat (first | (with_reducible first | exact HB.out | apply below_alloc | apply pw_below_drewN | apply below_drew1 | refine below_set ?_ GE265.out) | exact HB.out)⟩
                        · rw [if_neg c23] at H
                          have c23b0 : decide (1 ≤ ((rd_T49 l0 x9_1).f2)) = false := decide_eq_false c23
                          clear c23
                          simp only [Option.some.injEq, Prod.mk.injEq] at H
                          obtain ⟨rfl, rfl⟩ := H
                          have hcz30_0 : wc.cell? ⟨gb265, 0, none⟩ = some (.string ((rd_T49 l0 x9_1).f0)) := (blk_cell BK265.out 0).trans rfl
                          have hcz30_1 : wc.cell? ⟨gb265, 1, none⟩ = some (.int .i64 ((rd_T49 l0 x9_1).f1)) := (blk_cell BK265.out 1).trans rfl
                          have hcz30_2 : wc.cell? ⟨gb265, 2, none⟩ = some (.int .i64 ((rd_T49 l0 x9_1).f2)) := (blk_cell BK265.out 2).trans rfl
                          have hfz30_0 := blk_frozen BK265.out 0
                          have hfz30_1 := blk_frozen BK265.out 1
                          have hfz30_2 := blk_frozen BK265.out 2
                          go_wp2
                          go_ret2
                          exact ⟨by first | rfl | (simp [errW_none, errW_some] <;> rfl) | (simp [*, errW_none, errW_some] <;> rfl), by repeat (first | (with_reducible first | exact HB.out | apply below_alloc | apply pw_below_drewN | apply below_drew1 | refine below_set ?_ GE265.out) | exact HB.out)⟩
                      · rw [if_neg c22] at H
                        have c22b0 : decide (((rd_T49 l0 x9_1).f1) ≤ 131) = false := decide_eq_false c22
                        clear c22
                        simp only [Option.some.injEq, Prod.mk.injEq] at H
                        obtain ⟨rfl, rfl⟩ := H
                        have hcz31_0 : wc.cell? ⟨gb265, 0, none⟩ = some (.string ((rd_T49 l0 x9_1).f0)) := (blk_cell BK265.out 0).trans rfl
                        have hcz31_1 : wc.cell? ⟨gb265, 1, none⟩ = some (.int .i64 ((rd_T49 l0 x9_1).f1)) := (blk_cell BK265.out 1).trans rfl
                        have hcz31_2 : wc.cell? ⟨gb265, 2, none⟩ = some (.int .i64 ((rd_T49 l0 x9_1).f2)) := (blk_cell BK265.out 2).trans rfl
                        have hfz31_0 := blk_frozen BK265.out 0
                        have hfz31_1 := blk_frozen BK265.out 1
                        have hfz31_2 := blk_frozen BK265.out 2
                        go_wp2
                        go_ret2
                        exact ⟨by first | rfl | (simp [errW_none, errW_some] <;> rfl) | (simp [*, errW_none, errW_some] <;> rfl), by repeat (first | (with_reducible first | exact HB.out | apply below_alloc | apply pw_below_drewN | apply below_drew1 | refine below_set ?_ GE265.out) | exact HB.out)⟩
                    · rw [if_neg c21] at H
                      have c21b0 : decide (4 ≤ ((rd_T49 l0 x9_1).f1)) = false := decide_eq_false c21
                      clear c21
                      simp only [Option.some.injEq, Prod.mk.injEq] at H
                      obtain ⟨rfl, rfl⟩ := H
                      have hcz32_0 : wc.cell? ⟨gb265, 0, none⟩ = some (.string ((rd_T49 l0 x9_1).f0)) := (blk_cell BK265.out 0).trans rfl
                      have hcz32_1 : wc.cell? ⟨gb265, 1, none⟩ = some (.int .i64 ((rd_T49 l0 x9_1).f1)) := (blk_cell BK265.out 1).trans rfl
                      have hcz32_2 : wc.cell? ⟨gb265, 2, none⟩ = some (.int .i64 ((rd_T49 l0 x9_1).f2)) := (blk_cell BK265.out 2).trans rfl
                      have hfz32_0 := blk_frozen BK265.out 0
                      have hfz32_1 := blk_frozen BK265.out 1
                      have hfz32_2 := blk_frozen BK265.out 2
                      go_wp2
                      go_ret2
                      exact ⟨by first | rfl | (simp [errW_none, errW_some] <;> rfl) | (simp [*, errW_none, errW_some] <;> rfl), by repeat (first | (with_reducible first | exact HB.out | apply below_alloc | apply pw_below_drewN | apply below_drew1 | refine below_set ?_ GE265.out) | exact HB.out)⟩
                  · rw [if_neg c20] at H
                    have c20b0 : (((rd_T49 l0 x9_1).f0).toList == ([] : List UInt8)) = false := beq_eq_false_iff_ne.mpr c20
                    have c20b1 : (((rd_T49 l0 x9_1).f0).toList != ([] : List UInt8)) = true := bne_iff_ne.mpr c20
                    simp only [Option.some.injEq, Prod.mk.injEq] at H
                    obtain ⟨rfl, rfl⟩ := H
                    have hcz33_0 : wc.cell? ⟨gb265, 0, none⟩ = some (.string ((rd_T49 l0 x9_1).f0)) := (blk_cell BK265.out 0).trans rfl
                    have hcz33_1 : wc.cell? ⟨gb265, 1, none⟩ = some (.int .i64 ((rd_T49 l0 x9_1).f1)) := (blk_cell BK265.out 1).trans rfl
                    have hcz33_2 : wc.cell? ⟨gb265, 2, none⟩ = some (.int .i64 ((rd_T49 l0 x9_1).f2)) := (blk_cell BK265.out 2).trans rfl
                    have hfz33_0 := blk_frozen BK265.out 0
                    have hfz33_1 := blk_frozen BK265.out 1
                    have hfz33_2 := blk_frozen BK265.out 2
                    go_wp2
                    go_ret2
                    exact ⟨by first | rfl | (simp [errW_none, errW_some] <;> rfl) | (simp [*, errW_none, errW_some] <;> rfl), by repeat (first | (with_reducible first | exact HB.out | apply below_alloc | apply pw_below_drewN | apply below_drew1 | refine below_set ?_ GE265.out) | exact HB.out)⟩
          · rw [if_neg c4] at H
            exact absurd H (by simp)
        · rw [if_neg c3] at H
          exact absurd H (by simp)
      · rw [if_neg c2] at H
        have c2b0 : decide (x9_1 < (l0.length : Int)) = false := decide_eq_false c2
        clear c2
        simp only [Option.some.injEq, Prod.mk.injEq] at H
        obtain ⟨rfl, rfl⟩ := H
        have hcv34 := own_string (P := Try.prog) Try.underlying55 Try.underlying5 Try.underlying9 (Kd.own_of_R HO_4.out)
        go_wp2
        go_ret2
        exact ⟨by first | rfl | (simp [errW_none, errW_some] <;> rfl) | (simp [*, errW_none, errW_some] <;> rfl), by repeat (first | (with_reducible first | exact HB.out | apply below_alloc | apply pw_below_drewN | apply below_drew1) | exact HB.out)⟩
end Go.Proofs.Ytgnoaokpahklaaa.QB
