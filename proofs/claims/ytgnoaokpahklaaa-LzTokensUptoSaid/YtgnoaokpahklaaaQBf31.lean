/- The machine side of a law, written by a program of this session (the kit printer, changed; wip/tools/mkprint.py): functions, their calls, the row. Lean checks it. -/
import Derived.Test.YtgnoaokpahklaaaQBx0
namespace Go.Proofs.Ytgnoaokpahklaaa.QB
open Go.RowKit Go.Proofs.YtgnoaokpahklaaaW.PrintWords Go.Proofs.YtgnoaokpahklaaaW.PrintLast Go.Proofs.YtgnoaokpahklaaaW.PrintMore
attribute [local go_sem] max2_int min2_int max_two min_two max_three min_three max_four min_four   -- for this text's walks alone
set_option linter.unusedVariables false
set_option linter.unusedSimpArgs false
/-! ### lz_literals: function 31 -/
def lz_literals.l0 : Nat → List Int → ByteArray → Option (List Int)
  | 0, _, _ => none
  | k + 1, x0, x1 => if x1.toList = ([] : List UInt8) then (some x0) else (if x0.length < 140737488355328 then ((some (x0 ++ [((mn (x1.size : Int) 128) - 1) % 256] : List Int)).bind fun y149 => (if 0 ≤ (mn (x1.size : Int) 128) then (if (mn (x1.size : Int) 128) ≤ (x1.size : Int) then (if y149.length + (x1.extract 0 ((mn (x1.size : Int) 128) : Int).toNat).size < 140737488355328 then (lz_literals.l0 k (y149 ++ bytesOf (x1.extract 0 ((mn (x1.size : Int) 128) : Int).toNat)) (x1.extract ((mn (x1.size : Int) 128) : Int).toNat x1.size)) else (none)) else (none)) else (none))) else (none))
def lz_literals.f (k : Nat) (l0 : List Int) (a1 : ByteArray) : Option (List Int) := lz_literals.l0 k l0 a1
theorem lz_literals.mono_l : ∀ k, (∀ y0 y1, LeO (lz_literals.l0 k y0 y1) (lz_literals.l0 (k + 1) y0 y1))
  | 0 => fun _ _ r h => by simp [lz_literals.l0] at h
  | k + 1 => by
    have ih0 := lz_literals.mono_l k
    · intro y0 y1
      unfold lz_literals.l0
      repeat' first
      | (with_reducible exact ih0 _ _)
      | (with_reducible exact LeO.refl _)
      | (with_reducible exact LeO.none _)
      | (with_reducible refine LeO.ite ?_ ?_)
      | (with_reducible refine LeO.bind ?_ (fun _ => ?_))
      | exact ih0 _ _
      | exact LeO.none _
      | refine LeO.ite ?_ ?_
      | refine LeO.bind ?_ (fun _ => ?_)
theorem lz_literals.mono : ∀ a0 a1 k, LeO (lz_literals.f k a0 a1) (lz_literals.f (k + 1) a0 a1) := by
  intro a0 a1 k
  have ih0 := lz_literals.mono_l k
  unfold lz_literals.f
  repeat' first
      | (with_reducible exact ih0 _ _)
      | (with_reducible exact LeO.refl _)
      | (with_reducible exact LeO.none _)
      | (with_reducible refine LeO.ite ?_ ?_)
      | (with_reducible refine LeO.bind ?_ (fun _ => ?_))
      | exact ih0 _ _
      | exact LeO.none _
      | refine LeO.ite ?_ ?_
      | refine LeO.bind ?_ (fun _ => ?_)
set_option maxHeartbeats 8000000 in
set_option maxRecDepth 100000 in
theorem lz_literals.calls (k : Nat) (P0_ : Nat → Prop) (u9000_ : Value) (l0 : List Int) (a1 : ByteArray) (r : List Int) (w0 w : World) (hB : Below w0.heap.size w0 w) (ho0 : Kd.R (Kd.int .u8) 5 w w0.heap.size P0_ u9000_ l0) (h : lz_literals.f k l0 a1 = some r) :
    Calls Try.prog 31 #[u9000_, .string a1] w fun e w' => ∃ v0_ : Value, e = .returned (v0_) ∧ Kd.R (Kd.int .u8) 5 w' w0.heap.size (fun k_ => (P0_ k_ ∨ w.heap.size ≤ k_)) v0_ r ∧ Below w0.heap.size w0 w' ∧ Kept w w' (fun k_ => P0_ k_) := by
  have HO0 := Aside0.mk (show Kd.R (Kd.int .u8) 5 w w0.heap.size (fun k_ => (P0_ k_ ∨ w.heap.size ≤ k_)) u9000_ l0 from Kd.R_mono ho0 (fun k_ hk => (.inl hk)))
  have HK := Aside0.mk (Kept.refl w (fun k_ => P0_ k_))
  have HW0 := Aside0.mk hB.size
  have HB := Aside0.mk hB
  clear hB
  have H : (lz_literals.l0 k l0 a1) = some r := h
  clear h
  have H' := Aside0.mk H
  clear H
  go_enter Try.func31, Try.ntmps31
  go_wp2
  go_loopg [0, 1] k (fun kq v0 v1 w' => ∃ (x0_1 : List Int) (x1_1 : ByteArray), v1 = .string x1_1 ∧ Aside0 (lz_literals.l0 kq x0_1 x1_1 = some r) ∧ Aside0 (kq ≤ k) ∧ Aside0 (Kd.R (Kd.int .u8) 5 w' w0.heap.size (fun k_ => (P0_ k_ ∨ w.heap.size ≤ k_)) v0 x0_1) ∧ Aside0 (Kept w w' (fun k_ => P0_ k_)) ∧ Aside0 (Below w0.heap.size w0 w'))
  case atStart => exact ⟨(l0), (a1), (by first | rfl | (simp; done) | (simp [*]; done)), H', ⟨Nat.le_refl _⟩, ⟨by (with_reducible repeat (first | apply Kd.R_alloc | apply Kd.R_drewN | apply Kd.R_drew)); exact HO0.out⟩, ⟨by repeat (first | (with_reducible first | exact HK.out | apply Kept.alloc | apply Kept.drewN | apply Kept.drew) | exact HK.out)⟩, ⟨by repeat (first | (with_reducible first | exact HB.out | apply below_alloc | apply pw_below_drewN | apply below_drew1) | exact HB.out)⟩⟩
  case round =>
    clear H'
    try clear p2
    obtain ⟨x0_1, x1_1, rfl, HA, HK1, HO_0, HK, HB⟩ := hrel
    cases gk with
    | zero => exact absurd HA.out (by simp [lz_literals.l0])
    | succ k1 =>
      have H := HA.out
      clear HA
      simp only [lz_literals.l0] at H
      by_cases c3 : x1_1.toList = ([] : List UInt8)
      · rw [if_pos c3] at H
        have c3b0 : (x1_1.toList == ([] : List UInt8)) = true := beq_iff_eq.mpr c3
        have c3b1 : (x1_1.toList != ([] : List UInt8)) = false := bne_eq_false_iff_eq.mpr c3
        clear c3
        obtain rfl := Option.some.inj H
        go_wp2
        go_ret
        exact ⟨_, by first | rfl | (simp [errW_none, errW_some] <;> rfl) | (simp [*, errW_none, errW_some] <;> rfl), by (with_reducible repeat (first | apply Kd.R_alloc | apply Kd.R_drewN | apply Kd.R_drew)); exact HO_0.out, by repeat (first | (with_reducible first | exact HB.out | apply below_alloc | apply pw_below_drewN | apply below_drew1) | exact HB.out), by repeat (first | (with_reducible first | exact HK.out | apply Kept.alloc | apply Kept.drewN | apply Kept.drew) | exact HK.out)⟩
      · rw [if_neg c3] at H
        have c3b0 : (x1_1.toList == ([] : List UInt8)) = false := beq_eq_false_iff_ne.mpr c3
        have c3b1 : (x1_1.toList != ([] : List UInt8)) = true := bne_iff_ne.mpr c3
        obtain ⟨ji4, hji4⟩ : ∃ j_ : Int, (mn (x1_1.size : Int) 128) = j_ := ⟨_, rfl⟩
        replace H : (if x0_1.length < 140737488355328 then ((some (x0_1 ++ [((ji4) - 1) % 256] : List Int)).bind fun y149 => (if 0 ≤ (ji4) then (if (ji4) ≤ (x1_1.size : Int) then (if y149.length + (x1_1.extract 0 ((ji4) : Int).toNat).size < 140737488355328 then (lz_literals.l0 k1 (y149 ++ bytesOf (x1_1.extract 0 ((ji4) : Int).toNat)) (x1_1.extract ((ji4) : Int).toNat x1_1.size)) else (none)) else (none)) else (none))) else (none)) = some r := by first | (rw [hji4] at H; exact H) | (simp only [hji4] at H ⊢; exact H)
        have hji4_ : (if 128 < (x1_1.size : Int) then 128 else (x1_1.size : Int)) = ji4 := hji4
        by_cases c5 : x0_1.length < 140737488355328
        · rw [if_pos c5] at H
          have LMc5 := Aside0.mk c5
          clear c5
          obtain ⟨y149, hy149⟩ : ∃ y_ : List Int, y_ = (x0_1 ++ [((ji4) - 1) % 256]) := ⟨_, rfl⟩
          replace H : (if 0 ≤ (ji4) then (if (ji4) ≤ (x1_1.size : Int) then (if y149.length + (x1_1.extract 0 ((ji4) : Int).toNat).size < 140737488355328 then (lz_literals.l0 k1 (y149 ++ bytesOf (x1_1.extract 0 ((ji4) : Int).toNat)) (x1_1.extract ((ji4) : Int).toNat x1_1.size)) else (none)) else (none)) else (none)) = some r := by first | (rw [hy149]; with_reducible exact H) | (have H2_ := (Option.bind_some _ _).symm.trans H; rw [hy149]; with_reducible exact H2_) | (have H2_ := (Option.bind_some _ _).symm.trans H; with_reducible exact H2_) | with_reducible exact H | (rw [hy149]; exact H) | exact H
          have Ny149 := Aside0.mk hy149
          clear hy149
          by_cases c6 : 0 ≤ (ji4)
          · rw [if_pos c6] at H
            have c6b0 := eq_true c6
            have c6b1 : decide (0 ≤ (ji4)) = true := decide_eq_true c6
            clear c6
            by_cases c7 : (ji4) ≤ (x1_1.size : Int)
            · rw [if_pos c7] at H
              have c7b0 := eq_true c7
              have c7b1 : decide ((ji4) ≤ (x1_1.size : Int)) = true := decide_eq_true c7
              clear c7
              by_cases c8 : y149.length + (x1_1.extract 0 ((ji4) : Int).toNat).size < 140737488355328
              · rw [if_pos c8] at H
                have LMc8 := Aside0.mk c8
                clear c8
                obtain ⟨y152, hy152⟩ : ∃ y_ : List Int, y_ = (y149 ++ bytesOf (x1_1.extract 0 ((ji4) : Int).toNat)) := ⟨_, rfl⟩
                replace H : (lz_literals.l0 k1 y152 (x1_1.extract ((ji4) : Int).toNat x1_1.size)) = some r := by first | (rw [hy152]; with_reducible exact H) | (have H2_ := (Option.bind_some _ _).symm.trans H; rw [hy152]; with_reducible exact H2_) | (have H2_ := (Option.bind_some _ _).symm.trans H; with_reducible exact H2_) | with_reducible exact H | (rw [hy152]; exact H) | exact H
                have Ny152 := Aside0.mk hy152
                clear hy152
                have c9b0 := eq_true (of_decide_eq_true (by first | (with_reducible assumption) | assumption) : 0 ≤ (ji4))
                have c10b0 := eq_true (of_decide_eq_true (by first | (with_reducible assumption) | assumption) : (ji4) ≤ (x1_1.size : Int))
                have H' := Aside0.mk H
                clear H
                go_wp2_with (first | ((with_reducible refine gate_builtin (b := .append) (xs := #[.tmp 11, .tmp 15]) rfl ?_); at_builtin; refine Kd.R_append (Kd.int .u8) (w0 := w0) w0.heap.size rfl (.tmp 11) (.tmp 15) 55 5 (.int .u8 0) 1 rfl Try.underlying55 info5 rfl (by decide) (by omega) u0 x0_1 (((ji4) - 1) % 256) [.int .u8 (((ji4) - 1) % 256)] (fun k_ => (P0_ k_ ∨ w.heap.size ≤ k_)) (fun _ => False) rfl rfl ?aP (fun _ hk => hk.elim) ?aF ?aO ?aB ?aS ?aL ?_; (case aP => exact rfl); (case aB => exact (by repeat (first | (with_reducible first | exact HB.out | apply below_alloc | apply pw_below_drewN | apply below_drew1) | exact HB.out))); (case aF => exact (fun k_ hk => (.inr (Nat.le_trans (by first | exact HK.out.1 | exact (show Kept w _ (fun k_ => P0_ k_) from by repeat (first | (with_reducible first | exact HK.out | apply Kept.alloc | apply Kept.drewN | apply Kept.drew) | exact HK.out)).1) hk)))); (case aO => exact (by (with_reducible repeat (first | apply Kd.R_alloc | apply Kd.R_drewN | apply Kd.R_drew)); exact HO_0.out)); (case aS => exact (below_size (by repeat (first | (with_reducible first | exact HB.out | apply below_alloc | apply pw_below_drewN | apply below_drew1) | exact HB.out)))); (case aL => have := LMc5.out; omega); intro v150 w11 ho hb hg hat; rw [← Ny149.out] at ho; have n0_ := Aside0.mk (hb); have n1_ := Aside0.mk (Kept.of_grown (S := (fun k_ => P0_ k_)) hg (by repeat (first | (with_reducible first | exact HK.out | apply Kept.alloc | apply Kept.drewN | apply Kept.drew) | exact HK.out)) (fun k_ e_ => (HO_0.out.1 k_ e_))); have n2_ := Aside0.mk (ho); clear HB; clear HK; clear HO_0; have HB := n0_; have HK := n1_; have HO151 := n2_; clear n0_ n1_ n2_; clear ho hb hg hat) | (at_builtin; refine Kd.R_append_str (w0 := w0) w0.heap.size rfl (.tmp 17) _ 55 9 5 rfl Try.underlying55 Try.underlying9 info5 v150 y149 (x1_1.extract 0 ((ji4) : Int).toNat) (fun k_ => (P0_ k_ ∨ w.heap.size ≤ k_)) rfl rfl ?aF ?aO ?aB ?aS ?aL ?_; (case aB => exact (by repeat (first | (with_reducible first | exact HB.out | apply below_alloc | apply pw_below_drewN | apply below_drew1) | exact HB.out))); (case aF => exact (fun k_ hk => (.inr (Nat.le_trans (by first | exact HK.out.1 | exact (show Kept w _ (fun k_ => P0_ k_) from by repeat (first | (with_reducible first | exact HK.out | apply Kept.alloc | apply Kept.drewN | apply Kept.drew) | exact HK.out)).1) hk)))); (case aO => exact (by (with_reducible repeat (first | apply Kd.R_alloc | apply Kd.R_drewN | apply Kd.R_drew)); exact HO151.out)); (case aS => exact (below_size (by repeat (first | (with_reducible first | exact HB.out | apply below_alloc | apply pw_below_drewN | apply below_drew1) | exact HB.out)))); (case aL => have := LMc8.out; omega); intro v153 w12 ho hb hg hat; rw [← Ny152.out] at ho; change Kd.R (Kd.int .u8) 5 w12 w0.heap.size (fun k_ => (P0_ k_ ∨ w.heap.size ≤ k_)) v153 y152 at ho; have n0_ := Aside0.mk (hb); have n1_ := Aside0.mk (Kept.of_grown (S := (fun k_ => P0_ k_)) hg (by repeat (first | (with_reducible first | exact HK.out | apply Kept.alloc | apply Kept.drewN | apply Kept.drew) | exact HK.out)) (fun k_ e_ => (HO151.out.1 k_ e_))); have n2_ := Aside0.mk (ho); clear HB; clear HK; clear HO151; have HB := n0_; have HK := n1_; have HO154 := n2_; clear n0_ n1_ n2_; clear ho hb hg hat))
                go_roundg k1
                case measure => have := HK1.out; omega
                case rel => exact ⟨(y152), (x1_1.extract ((ji4) : Int).toNat x1_1.size), (by first | rfl | (simp; done) | (simp only [← hji4] <;> (first | rfl | simp)) | (simp [*]; done)), H', ⟨by have := HK1.out; omega⟩, ⟨by (with_reducible repeat (first | apply Kd.R_alloc | apply Kd.R_drewN | apply Kd.R_drew)); exact HO154.out⟩, ⟨by repeat (first | (with_reducible first | exact HK.out | apply Kept.alloc | apply Kept.drewN | apply Kept.drew) | exact HK.out)⟩, ⟨by repeat (first | (with_reducible first | exact HB.out | apply below_alloc | apply pw_below_drewN | apply below_drew1) | exact HB.out)⟩⟩
              · rw [if_neg c8] at H
                exact absurd H (by simp)
            · rw [if_neg c7] at H
              exact absurd H (by simp)
          · rw [if_neg c6] at H
            exact absurd H (by simp)
        · rw [if_neg c5] at H
          exact absurd H (by simp)
end Go.Proofs.Ytgnoaokpahklaaa.QB
