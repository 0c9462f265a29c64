/- The machine side of a law, written by a program of this session (the kit printer, changed; wip/tools/mkprint.py): functions, their calls, the row. Lean checks it. -/
import Derived.Test.YtgnoaokpahklaaaQBx0
import Derived.Test.YtgnoaokpahklaaaQBf12
import Derived.Test.YtgnoaokpahklaaaQBf15
import Derived.Test.YtgnoaokpahklaaaQBf25
import Derived.Test.YtgnoaokpahklaaaQBf13
import Derived.Test.YtgnoaokpahklaaaQBf22
namespace Go.Proofs.Ytgnoaokpahklaaa.QB
open Go.RowKit Go.Proofs.YtgnoaokpahklaaaW.PrintWords Go.Proofs.YtgnoaokpahklaaaW.PrintLast Go.Proofs.YtgnoaokpahklaaaW.PrintMore
attribute [local go_sem] max2_int min2_int max_two min_two max_three min_three max_four min_four   -- for this text's walks alone
set_option linter.unusedVariables false
set_option linter.unusedSimpArgs false
/-! ### gantrylaw04_LzTells: function 9 -/
mutual
def gantrylaw04_LzTells.j0 : Nat → ByteArray → ByteArray → List (S49) → Bool → Option (Bool)
  | 0, _, _, _, _ => none
  | k + 1, x0, x3, x4, x33 => if x33 = true then (some false) else ((lz_Form.f k x4).bind fun bt323 => (if bt323.1.toList = x3.toList then (gantrylaw04_LzTells.j1 k x0 x4 (bt323.2 != 0)) else (gantrylaw04_LzTells.j1 k x0 x4 true)))
def gantrylaw04_LzTells.j1 : Nat → ByteArray → List (S49) → Bool → Option (Bool)
  | 0, _, _, _ => none
  | k + 1, x0, x4, x45 => if x45 = true then (some false) else (gantrylaw04_LzTells.l0 k x0 x4 0 0)
def gantrylaw04_LzTells.l0 : Nat → ByteArray → List (S49) → Int → Int → Option (Bool)
  | 0, _, _, _, _ => none
  | k + 1, x0, x4, x8, x9 => if x9 < (x4.length : Int) then (if 0 ≤ x9 then (if ((rd_T49 x4 x9).f1) > 0 then ((lz_Best.f k x0 x8).bind fun bt327 => (if bt327.1 = ((rd_T49 x4 x9).f1) then (if bt327.2 = ((rd_T49 x4 x9).f2) then (if ((rd_T49 x4 x9).f0).toList = ([] : List UInt8) then (gantrylaw04_LzTells.l0 k x0 x4 (wrap64 (x8 + bt327.1)) (wrap64 (x9 + 1))) else (some false)) else (some false)) else (some false))) else (if (((rd_T49 x4 x9).f0).size : Int) > (wrap64 ((x0.size : Int) - x8)) then (gantrylaw04_LzTells.j3 k x0 x4 x8 x9 true ((rd_T49 x4 x9).f0) ((rd_T49 x4 x9).f1) ((rd_T49 x4 x9).f2)) else (if 0 ≤ x8 then (if x8 ≤ (wrap64 (x8 + (((rd_T49 x4 x9).f0).size : Int))) then (if (wrap64 (x8 + (((rd_T49 x4 x9).f0).size : Int))) ≤ (x0.size : Int) then (if (x0.extract (x8 : Int).toNat ((wrap64 (x8 + (((rd_T49 x4 x9).f0).size : Int))) : Int).toNat).toList = ((rd_T49 x4 x9).f0).toList then (if (((rd_T49 x4 x9).f0).size : Int) < 128 then (if (wrap64 (x9 + 1)) < (x4.length : Int) then (if 0 ≤ (wrap64 (x9 + 1)) then (gantrylaw04_LzTells.j3 k x0 x4 x8 x9 (((rd_T49 x4 (wrap64 (x9 + 1))).f1) == 0) ((rd_T49 x4 x9).f0) ((rd_T49 x4 x9).f1) ((rd_T49 x4 x9).f2)) else (none)) else (gantrylaw04_LzTells.j3 k x0 x4 x8 x9 false ((rd_T49 x4 x9).f0) ((rd_T49 x4 x9).f1) ((rd_T49 x4 x9).f2))) else (gantrylaw04_LzTells.j3 k x0 x4 x8 x9 false ((rd_T49 x4 x9).f0) ((rd_T49 x4 x9).f1) ((rd_T49 x4 x9).f2))) else (gantrylaw04_LzTells.j3 k x0 x4 x8 x9 true ((rd_T49 x4 x9).f0) ((rd_T49 x4 x9).f1) ((rd_T49 x4 x9).f2))) else (none)) else (none)) else (none)))) else (none)) else (some (x8 == (x0.size : Int)))
def gantrylaw04_LzTells.j3 : Nat → ByteArray → List (S49) → Int → Int → Bool → ByteArray → Int → Int → Option (Bool)
  | 0, _, _, _, _, _, _, _, _ => none
  | k + 1, x0, x4, x8, x9, x125, x327000, x327001, x327002 => if x125 = true then (some false) else (gantrylaw04_LzTells.l1 k x0 x4 x8 x9 0 x327000 x327001 x327002)
def gantrylaw04_LzTells.l1 : Nat → ByteArray → List (S49) → Int → Int → Int → ByteArray → Int → Int → Option (Bool)
  | 0, _, _, _, _, _, _, _, _ => none
  | k + 1, x0, x4, x8, x9, x13, x327000, x327001, x327002 => if x13 < (x327000.size : Int) then ((lz_Best.f k x0 (wrap64 (x8 + x13))).bind fun bt330 => (if bt330.1 = 0 then (gantrylaw04_LzTells.l1 k x0 x4 x8 x9 (wrap64 (x13 + 1)) x327000 x327001 x327002) else (some false))) else (gantrylaw04_LzTells.l0 k x0 x4 (wrap64 (x8 + (x327000.size : Int))) (wrap64 (x9 + 1)))
end
def gantrylaw04_LzTells.f (k : Nat) (a0 : ByteArray) : Option (Bool) := (gantrylaw04_fixed.f k).bind fun t316 => (if t316 = true then ((lz_Pack.f k a0).bind fun t317 => ((lz_Tokens.f k t317).bind fun bt318 => (if bt318.2.2 = 0 then (gantrylaw04_LzTells.j0 k a0 t317 bt318.1 (bt318.2.1 != (t317.size : Int))) else (gantrylaw04_LzTells.j0 k a0 t317 bt318.1 true)))) else (some false))
theorem gantrylaw04_LzTells.mono_l : ∀ k, (∀ y0 y1 y2 y3, LeO (gantrylaw04_LzTells.j0 k y0 y1 y2 y3) (gantrylaw04_LzTells.j0 (k + 1) y0 y1 y2 y3)) ∧ (∀ y0 y1 y2, LeO (gantrylaw04_LzTells.j1 k y0 y1 y2) (gantrylaw04_LzTells.j1 (k + 1) y0 y1 y2)) ∧ (∀ y0 y1 y2 y3, LeO (gantrylaw04_LzTells.l0 k y0 y1 y2 y3) (gantrylaw04_LzTells.l0 (k + 1) y0 y1 y2 y3)) ∧ (∀ y0 y1 y2 y3 y4 y5 y6 y7, LeO (gantrylaw04_LzTells.j3 k y0 y1 y2 y3 y4 y5 y6 y7) (gantrylaw04_LzTells.j3 (k + 1) y0 y1 y2 y3 y4 y5 y6 y7)) ∧ (∀ y0 y1 y2 y3 y4 y5 y6 y7, LeO (gantrylaw04_LzTells.l1 k y0 y1 y2 y3 y4 y5 y6 y7) (gantrylaw04_LzTells.l1 (k + 1) y0 y1 y2 y3 y4 y5 y6 y7))
  | 0 => ⟨fun _ _ _ _ r h => by simp [gantrylaw04_LzTells.j0] at h, fun _ _ _ r h => by simp [gantrylaw04_LzTells.j1] at h, fun _ _ _ _ r h => by simp [gantrylaw04_LzTells.l0] at h, fun _ _ _ _ _ _ _ _ r h => by simp [gantrylaw04_LzTells.j3] at h, fun _ _ _ _ _ _ _ _ r h => by simp [gantrylaw04_LzTells.l1] at h⟩
  | k + 1 => by
    obtain ⟨ih0, ih1, ih2, ih3, ih4⟩ := gantrylaw04_LzTells.mono_l k
    refine ⟨?_, ?_, ?_, ?_, ?_⟩
    · intro y0 y1 y2 y3
      unfold gantrylaw04_LzTells.j0
      repeat' first
      | (with_reducible exact ih0 _ _ _ _)
      | (with_reducible exact ih1 _ _ _)
      | (with_reducible exact ih2 _ _ _ _)
      | (with_reducible exact ih3 _ _ _ _ _ _ _ _)
      | (with_reducible exact ih4 _ _ _ _ _ _ _ _)
      | (with_reducible exact gantrylaw04_fixed.mono _)
      | (with_reducible exact lz_Best.mono _ _ _)
      | (with_reducible exact lz_Form.mono _ _)
      | (with_reducible exact lz_Pack.mono _ _)
      | (with_reducible exact lz_Tokens.mono _ _)
      | (with_reducible exact LeO.refl _)
      | (with_reducible exact LeO.none _)
      | (with_reducible refine LeO.ite ?_ ?_)
      | (with_reducible refine LeO.bind ?_ (fun _ => ?_))
      | exact ih0 _ _ _ _
      | exact ih1 _ _ _
      | exact ih2 _ _ _ _
      | exact ih3 _ _ _ _ _ _ _ _
      | exact ih4 _ _ _ _ _ _ _ _
      | exact gantrylaw04_fixed.mono _
      | exact lz_Best.mono _ _ _
      | exact lz_Form.mono _ _
      | exact lz_Pack.mono _ _
      | exact lz_Tokens.mono _ _
      | exact LeO.none _
      | refine LeO.ite ?_ ?_
      | refine LeO.bind ?_ (fun _ => ?_)
    · intro y0 y1 y2
      unfold gantrylaw04_LzTells.j1
      repeat' first
      | (with_reducible exact ih0 _ _ _ _)
      | (with_reducible exact ih1 _ _ _)
      | (with_reducible exact ih2 _ _ _ _)
      | (with_reducible exact ih3 _ _ _ _ _ _ _ _)
      | (with_reducible exact ih4 _ _ _ _ _ _ _ _)
      | (with_reducible exact gantrylaw04_fixed.mono _)
      | (with_reducible exact lz_Best.mono _ _ _)
      | (with_reducible exact lz_Form.mono _ _)
      | (with_reducible exact lz_Pack.mono _ _)
      | (with_reducible exact lz_Tokens.mono _ _)
      | (with_reducible exact LeO.refl _)
      | (with_reducible exact LeO.none _)
      | (with_reducible refine LeO.ite ?_ ?_)
      | (with_reducible refine LeO.bind ?_ (fun _ => ?_))
      | exact ih0 _ _ _ _
      | exact ih1 _ _ _
      | exact ih2 _ _ _ _
      | exact ih3 _ _ _ _ _ _ _ _
      | exact ih4 _ _ _ _ _ _ _ _
      | exact gantrylaw04_fixed.mono _
      | exact lz_Best.mono _ _ _
      | exact lz_Form.mono _ _
      | exact lz_Pack.mono _ _
      | exact lz_Tokens.mono _ _
      | exact LeO.none _
      | refine LeO.ite ?_ ?_
      | refine LeO.bind ?_ (fun _ => ?_)
    · intro y0 y1 y2 y3
      unfold gantrylaw04_LzTells.l0
      repeat' first
      | (with_reducible exact ih0 _ _ _ _)
      | (with_reducible exact ih1 _ _ _)
      | (with_reducible exact ih2 _ _ _ _)
      | (with_reducible exact ih3 _ _ _ _ _ _ _ _)
      | (with_reducible exact ih4 _ _ _ _ _ _ _ _)
      | (with_reducible exact gantrylaw04_fixed.mono _)
      | (with_reducible exact lz_Best.mono _ _ _)
      | (with_reducible exact lz_Form.mono _ _)
      | (with_reducible exact lz_Pack.mono _ _)
      | (with_reducible exact lz_Tokens.mono _ _)
      | (with_reducible exact LeO.refl _)
      | (with_reducible exact LeO.none _)
      | (with_reducible refine LeO.ite ?_ ?_)
      | (with_reducible refine LeO.bind ?_ (fun _ => ?_))
      | exact ih0 _ _ _ _
      | exact ih1 _ _ _
      | exact ih2 _ _ _ _
      | exact ih3 _ _ _ _ _ _ _ _
      | exact ih4 _ _ _ _ _ _ _ _
      | exact gantrylaw04_fixed.mono _
      | exact lz_Best.mono _ _ _
      | exact lz_Form.mono _ _
      | exact lz_Pack.mono _ _
      | exact lz_Tokens.mono _ _
      | exact LeO.none _
      | refine LeO.ite ?_ ?_
      | refine LeO.bind ?_ (fun _ => ?_)
    · intro y0 y1 y2 y3 y4 y5 y6 y7
      unfold gantrylaw04_LzTells.j3
      repeat' first
      | (with_reducible exact ih0 _ _ _ _)
      | (with_reducible exact ih1 _ _ _)
      | (with_reducible exact ih2 _ _ _ _)
      | (with_reducible exact ih3 _ _ _ _ _ _ _ _)
      | (with_reducible exact ih4 _ _ _ _ _ _ _ _)
      | (with_reducible exact gantrylaw04_fixed.mono _)
      | (with_reducible exact lz_Best.mono _ _ _)
      | (with_reducible exact lz_Form.mono _ _)
      | (with_reducible exact lz_Pack.mono _ _)
      | (with_reducible exact lz_Tokens.mono _ _)
      | (with_reducible exact LeO.refl _)
      | (with_reducible exact LeO.none _)
      | (with_reducible refine LeO.ite ?_ ?_)
      | (with_reducible refine LeO.bind ?_ (fun _ => ?_))
      | exact ih0 _ _ _ _
      | exact ih1 _ _ _
      | exact ih2 _ _ _ _
      | exact ih3 _ _ _ _ _ _ _ _
      | exact ih4 _ _ _ _ _ _ _ _
      | exact gantrylaw04_fixed.mono _
      | exact lz_Best.mono _ _ _
      | exact lz_Form.mono _ _
      | exact lz_Pack.mono _ _
      | exact lz_Tokens.mono _ _
      | exact LeO.none _
      | refine LeO.ite ?_ ?_
      | refine LeO.bind ?_ (fun _ => ?_)
    · intro y0 y1 y2 y3 y4 y5 y6 y7
      unfold gantrylaw04_LzTells.l1
      repeat' first
      | (with_reducible exact ih0 _ _ _ _)
      | (with_reducible exact ih1 _ _ _)
      | (with_reducible exact ih2 _ _ _ _)
      | (with_reducible exact ih3 _ _ _ _ _ _ _ _)
      | (with_reducible exact ih4 _ _ _ _ _ _ _ _)
      | (with_reducible exact gantrylaw04_fixed.mono _)
      | (with_reducible exact lz_Best.mono _ _ _)
      | (with_reducible exact lz_Form.mono _ _)
      | (with_reducible exact lz_Pack.mono _ _)
      | (with_reducible exact lz_Tokens.mono _ _)
      | (with_reducible exact LeO.refl _)
      | (with_reducible exact LeO.none _)
      | (with_reducible refine LeO.ite ?_ ?_)
      | (with_reducible refine LeO.bind ?_ (fun _ => ?_))
      | exact ih0 _ _ _ _
      | exact ih1 _ _ _
      | exact ih2 _ _ _ _
      | exact ih3 _ _ _ _ _ _ _ _
      | exact ih4 _ _ _ _ _ _ _ _
      | exact gantrylaw04_fixed.mono _
      | exact lz_Best.mono _ _ _
      | exact lz_Form.mono _ _
      | exact lz_Pack.mono _ _
      | exact lz_Tokens.mono _ _
      | exact LeO.none _
      | refine LeO.ite ?_ ?_
      | refine LeO.bind ?_ (fun _ => ?_)
theorem gantrylaw04_LzTells.mono : ∀ a0 k, LeO (gantrylaw04_LzTells.f k a0) (gantrylaw04_LzTells.f (k + 1) a0) := by
  intro a0 k
  obtain ⟨ih0, ih1, ih2, ih3, ih4⟩ := gantrylaw04_LzTells.mono_l k
  unfold gantrylaw04_LzTells.f
  repeat' first
      | (with_reducible exact ih0 _ _ _ _)
      | (with_reducible exact ih1 _ _ _)
      | (with_reducible exact ih2 _ _ _ _)
      | (with_reducible exact ih3 _ _ _ _ _ _ _ _)
      | (with_reducible exact ih4 _ _ _ _ _ _ _ _)
      | (with_reducible exact gantrylaw04_fixed.mono _)
      | (with_reducible exact lz_Best.mono _ _ _)
      | (with_reducible exact lz_Form.mono _ _)
      | (with_reducible exact lz_Pack.mono _ _)
      | (with_reducible exact lz_Tokens.mono _ _)
      | (with_reducible exact LeO.refl _)
      | (with_reducible exact LeO.none _)
      | (with_reducible refine LeO.ite ?_ ?_)
      | (with_reducible refine LeO.bind ?_ (fun _ => ?_))
      | exact ih0 _ _ _ _
      | exact ih1 _ _ _
      | exact ih2 _ _ _ _
      | exact ih3 _ _ _ _ _ _ _ _
      | exact ih4 _ _ _ _ _ _ _ _
      | exact gantrylaw04_fixed.mono _
      | exact lz_Best.mono _ _ _
      | exact lz_Form.mono _ _
      | exact lz_Pack.mono _ _
      | exact lz_Tokens.mono _ _
      | exact LeO.none _
      | refine LeO.ite ?_ ?_
      | refine LeO.bind ?_ (fun _ => ?_)
set_option maxHeartbeats 8000000 in
set_option maxRecDepth 100000 in
theorem gantrylaw04_LzTells.calls (k : Nat) (a0 : ByteArray) (r : Bool) (w : World) (h : gantrylaw04_LzTells.f k a0 = some r) :
    Calls Try.prog 9 #[.string a0] w fun e w' => e = .returned (.bool r) ∧ Below w.heap.size w w' := by
  have hu49 := Try.underlying49
  have HB := Aside0.mk (Below.refl w.heap.size w)
  have H : ((gantrylaw04_fixed.f k).bind fun t316 => (if t316 = true then ((lz_Pack.f k a0).bind fun t317 => ((lz_Tokens.f k t317).bind fun bt318 => (if bt318.2.2 = 0 then (gantrylaw04_LzTells.j0 k a0 t317 bt318.1 (bt318.2.1 != (t317.size : Int))) else (gantrylaw04_LzTells.j0 k a0 t317 bt318.1 true)))) else (some false))) = some r := h
  clear h
  replace H := Option.bind_eq_some_iff.mp H
  obtain ⟨t316, A20, H⟩ := H
  replace H : (if t316 = true then ((lz_Pack.f k a0).bind fun t317 => ((lz_Tokens.f k t317).bind fun bt318 => (if bt318.2.2 = 0 then (gantrylaw04_LzTells.j0 k a0 t317 bt318.1 (bt318.2.1 != (t317.size : Int))) else (gantrylaw04_LzTells.j0 k a0 t317 bt318.1 true)))) else (some false)) = some r := H
  have A2 := Aside0.mk A20
  clear A20
  by_cases c3 : t316 = true
  · subst c3
    have H1 : ((lz_Pack.f k a0).bind fun t317 => ((lz_Tokens.f k t317).bind fun bt318 => (if bt318.2.2 = 0 then (gantrylaw04_LzTells.j0 k a0 t317 bt318.1 (bt318.2.1 != (t317.size : Int))) else (gantrylaw04_LzTells.j0 k a0 t317 bt318.1 true)))) = some r := by rw [if_pos rfl] at H; exact H
    clear H
    have H := H1
    clear H1
    replace H := Option.bind_eq_some_iff.mp H
    obtain ⟨t317, A40, H⟩ := H
    replace H : ((lz_Tokens.f k t317).bind fun bt318 => (if bt318.2.2 = 0 then (gantrylaw04_LzTells.j0 k a0 t317 bt318.1 (bt318.2.1 != (t317.size : Int))) else (gantrylaw04_LzTells.j0 k a0 t317 bt318.1 true))) = some r := H
    have A4 := Aside0.mk A40
    clear A40
    replace H := Option.bind_eq_some_iff.mp H
    obtain ⟨⟨t318, t319, t320⟩, A50, H⟩ := H
    replace H : (if t320 = 0 then (gantrylaw04_LzTells.j0 k a0 t317 t318 (t319 != (t317.size : Int))) else (gantrylaw04_LzTells.j0 k a0 t317 t318 true)) = some r := H
    have A5 := Aside0.mk A50
    clear A50
    have HC6 := Aside0.mk H
    clear H
    go_enter Try.func9, Try.ntmps9
    go_upto_region 5 with (first | (go_at_call 12; (with_reducible refine (gantrylaw04_fixed.calls k  true _ A2.out).mono ?_); rintro e w7 ⟨rfl, hb⟩; have n0_ := Aside0.mk (below_step (by repeat (first | (with_reducible first | exact HB.out | apply below_alloc | apply pw_below_drewN | apply below_drew1) | exact HB.out)) hb); clear HB; have HB := n0_; clear n0_; (try clear hb); (try clear hb2); (try clear hk); (try clear hi)) | (go_at_call 13; (with_reducible refine (lz_Pack.calls k a0 t317 _ A4.out).mono ?_); rintro e w8 ⟨rfl, hb⟩; have n0_ := Aside0.mk (below_step (by repeat (first | (with_reducible first | exact HB.out | apply below_alloc | apply pw_below_drewN | apply below_drew1) | exact HB.out)) hb); clear HB; have HB := n0_; clear n0_; (try clear hb); (try clear hb2); (try clear hk); (try clear hi)) | (go_at_call 22; (with_reducible refine (lz_Tokens.calls k t317 t318 t319 t320 _ A5.out).mono ?_); rintro e w9 ⟨v321, rfl, ho0, hb⟩; have n0_ := Aside0.mk (Kd.R_lower ho0 (below_size (by repeat (first | (with_reducible first | exact HB.out | apply below_alloc | apply pw_below_drewN | apply below_drew1) | exact HB.out)))); have n1_ := Aside0.mk (below_step (by repeat (first | (with_reducible first | exact HB.out | apply below_alloc | apply pw_below_drewN | apply below_drew1) | exact HB.out)) hb); clear HB; have HO322 := n0_; have HB := n1_; clear n0_ n1_; (try clear hb); (try clear hb2); (try clear hk); (try clear hi); (try clear ho0)))
    repeat (go_quiet (first | (go_at_call 12; (with_reducible refine (gantrylaw04_fixed.calls k  true _ A2.out).mono ?_); rintro e w7 ⟨rfl, hb⟩; have n0_ := Aside0.mk (below_step (by repeat (first | (with_reducible first | exact HB.out | apply below_alloc | apply pw_below_drewN | apply below_drew1) | exact HB.out)) hb); clear HB; have HB := n0_; clear n0_; (try clear hb); (try clear hb2); (try clear hk); (try clear hi)) | (go_at_call 13; (with_reducible refine (lz_Pack.calls k a0 t317 _ A4.out).mono ?_); rintro e w8 ⟨rfl, hb⟩; have n0_ := Aside0.mk (below_step (by repeat (first | (with_reducible first | exact HB.out | apply below_alloc | apply pw_below_drewN | apply below_drew1) | exact HB.out)) hb); clear HB; have HB := n0_; clear n0_; (try clear hb); (try clear hb2); (try clear hk); (try clear hi)) | (go_at_call 22; (with_reducible refine (lz_Tokens.calls k t317 t318 t319 t320 _ A5.out).mono ?_); rintro e w9 ⟨v321, rfl, ho0, hb⟩; have n0_ := Aside0.mk (Kd.R_lower ho0 (below_size (by repeat (first | (with_reducible first | exact HB.out | apply below_alloc | apply pw_below_drewN | apply below_drew1) | exact HB.out)))); have n1_ := Aside0.mk (below_step (by repeat (first | (with_reducible first | exact HB.out | apply below_alloc | apply pw_below_drewN | apply below_drew1) | exact HB.out)) hb); clear HB; have HO322 := n0_; have HB := n1_; clear n0_ n1_; (try clear hb); (try clear hb2); (try clear hk); (try clear hi); (try clear ho0))); go_upto_region 5 with (first | (go_at_call 12; (with_reducible refine (gantrylaw04_fixed.calls k  true _ A2.out).mono ?_); rintro e w7 ⟨rfl, hb⟩; have n0_ := Aside0.mk (below_step (by repeat (first | (with_reducible first | exact HB.out | apply below_alloc | apply pw_below_drewN | apply below_drew1) | exact HB.out)) hb); clear HB; have HB := n0_; clear n0_; (try clear hb); (try clear hb2); (try clear hk); (try clear hi)) | (go_at_call 13; (with_reducible refine (lz_Pack.calls k a0 t317 _ A4.out).mono ?_); rintro e w8 ⟨rfl, hb⟩; have n0_ := Aside0.mk (below_step (by repeat (first | (with_reducible first | exact HB.out | apply below_alloc | apply pw_below_drewN | apply below_drew1) | exact HB.out)) hb); clear HB; have HB := n0_; clear n0_; (try clear hb); (try clear hb2); (try clear hk); (try clear hi)) | (go_at_call 22; (with_reducible refine (lz_Tokens.calls k t317 t318 t319 t320 _ A5.out).mono ?_); rintro e w9 ⟨v321, rfl, ho0, hb⟩; have n0_ := Aside0.mk (Kd.R_lower ho0 (below_size (by repeat (first | (with_reducible first | exact HB.out | apply below_alloc | apply pw_below_drewN | apply below_drew1) | exact HB.out)))); have n1_ := Aside0.mk (below_step (by repeat (first | (with_reducible first | exact HB.out | apply below_alloc | apply pw_below_drewN | apply below_drew1) | exact HB.out)) hb); clear HB; have HO322 := n0_; have HB := n1_; clear n0_ n1_; (try clear hb); (try clear hb2); (try clear hk); (try clear hi); (try clear ho0))))
    (try simp only [Act.put, List.setIfInBounds_toArray, List.set_cons_zero, List.set_cons_succ])
    go_cut [33] (fun v33 wc => ∃ (kq : Nat) (x33_5 : Bool), v33 = .bool x33_5 ∧ Aside0 (gantrylaw04_LzTells.j0 kq a0 t317 t318 x33_5 = some r) ∧ Aside0 (kq ≤ k) ∧ Aside0 (Kd.R k49 49 wc w.heap.size (fun _ => True) v321 t318) ∧ Aside0 (Below w.heap.size w wc))
    case first =>
      have H := HC6.out
      clear HC6
      by_cases c10 : t320 = 0
      · rw [if_pos c10] at H
        have c10b0 : (t320 == 0) = true := beq_iff_eq.mpr c10
        have c10b1 : (t320 != 0) = false := bne_eq_false_iff_eq.mpr c10
        clear c10
        (first | rw [c10b0] | (simp only [i64_w, i32_w]; rw [c10b0]) | skip)
        have H' := Aside0.mk H
        clear H
        go_wp2
        repeat (go_quiet (fail); try go_wp2)
        go_meet
        case rel => exact ⟨_, ((t319 != (t317.size : Int))), (by first | rfl | (simp; done) | (simp [*]; done)), H', ⟨by first | omega | exact Nat.le_refl _⟩, ⟨by (with_reducible repeat (first | apply Kd.R_alloc | apply Kd.R_drewN | apply Kd.R_drew)); exact HO322.out⟩, ⟨by repeat (first | (with_reducible first | exact HB.out | apply below_alloc | apply pw_below_drewN | apply below_drew1) | exact HB.out)⟩⟩
      · rw [if_neg c10] at H
        have c10b0 : (t320 == 0) = false := beq_eq_false_iff_ne.mpr c10
        have c10b1 : (t320 != 0) = true := bne_iff_ne.mpr c10
        (first | rw [c10b0] | (simp only [i64_w, i32_w]; rw [c10b0]) | skip)
        have H' := Aside0.mk H
        clear H
        go_wp2
        repeat (go_quiet (fail); try go_wp2)
        go_meet
        case rel => exact ⟨_, (true), (by first | rfl | (simp; done) | (simp [*]; done)), H', ⟨by first | omega | exact Nat.le_refl _⟩, ⟨by (with_reducible repeat (first | apply Kd.R_alloc | apply Kd.R_drewN | apply Kd.R_drew)); exact HO322.out⟩, ⟨by repeat (first | (with_reducible first | exact HB.out | apply below_alloc | apply pw_below_drewN | apply below_drew1) | exact HB.out)⟩⟩
    case rest =>
      clear HC6
      try clear c1
      try clear p2
      try clear c3
      try clear c9
      try clear c10
      try clear c10b0
      try clear c10b1
      obtain ⟨kq, x33_5, rfl, HA, HJ5, HO_4, HB⟩ := hcut
      cases kq with
      | zero => exact absurd HA.out (by simp [gantrylaw04_LzTells.j0])
      | succ kj5 =>
        have H := HA.out
        clear HA
        simp only [gantrylaw04_LzTells.j0] at H
        by_cases c11 : x33_5 = true
        · subst c11
          have H1 : (some false) = some r := by rw [if_pos rfl] at H; exact H
          clear H
          have H := H1
          clear H1
          obtain rfl := Option.some.inj H
          go_wp2
          repeat (go_quiet (fail); try go_wp2)
          go_ret
          exact ⟨by first | rfl | (simp [errW_none, errW_some] <;> rfl) | (simp [*, errW_none, errW_some] <;> rfl), by repeat (first | (with_reducible first | exact HB.out | apply below_alloc | apply pw_below_drewN | apply below_drew1) | exact HB.out)⟩
        · replace c11 := Bool.eq_false_iff.mpr c11
          subst c11
          have H1 : ((lz_Form.f kj5 t318).bind fun bt323 => (if bt323.1.toList = t317.toList then (gantrylaw04_LzTells.j1 kj5 a0 t318 (bt323.2 != 0)) else (gantrylaw04_LzTells.j1 kj5 a0 t318 true))) = some r := by rw [if_neg (show ¬ (false = true) by decide)] at H; exact H
          clear H
          have H := H1
          clear H1
          replace H := Option.bind_eq_some_iff.mp H
          obtain ⟨⟨t323, t324⟩, A120, H⟩ := H
          replace H : (if t323.toList = t317.toList then (gantrylaw04_LzTells.j1 kj5 a0 t318 (t324 != 0)) else (gantrylaw04_LzTells.j1 kj5 a0 t318 true)) = some r := H
          have A12 := Aside0.mk A120
          clear A120
          have HC13 := Aside0.mk H
          clear H
          obtain ⟨Ao14, co14, eo14⟩ := Kd.R_slice HO_4.out
          subst eo14
          go_upto_region 8 with (first | (go_at_call 25; (with_reducible refine (lz_Form.calls kj5 _ _ t318 t323 t324 _ ?side1 ?side2 A12.out).mono ?_); (case side1 => repeat (first | exact (Kd.R_reads' HO_4.out).2.2 | (with_reducible refine Kd.C_alloc ?_ _) | (with_reducible refine Kd.C_drewN ?_ _) | (with_reducible refine Kd.C_drew ?_))); (case side2 => exact (Kd.R_reads' HO_4.out).2.1); rintro e w15 ⟨rfl, hb⟩; have n0_ := Aside0.mk (Kd.R_below (by (with_reducible repeat (first | apply Kd.R_alloc | apply Kd.R_drewN | apply Kd.R_drew)); exact HO_4.out) hb); have n1_ := Aside0.mk (below_step (by repeat (first | (with_reducible first | exact HB.out | apply below_alloc | apply pw_below_drewN | apply below_drew1) | exact HB.out)) hb); clear HO_4; clear HB; have HO_4 := n0_; have HB := n1_; clear n0_ n1_; (try clear hb); (try clear hb2); (try clear hk); (try clear hi)))
          repeat (go_quiet (first | (go_at_call 25; (with_reducible refine (lz_Form.calls kj5 _ _ t318 t323 t324 _ ?side1 ?side2 A12.out).mono ?_); (case side1 => repeat (first | exact (Kd.R_reads' HO_4.out).2.2 | (with_reducible refine Kd.C_alloc ?_ _) | (with_reducible refine Kd.C_drewN ?_ _) | (with_reducible refine Kd.C_drew ?_))); (case side2 => exact (Kd.R_reads' HO_4.out).2.1); rintro e w15 ⟨rfl, hb⟩; have n0_ := Aside0.mk (Kd.R_below (by (with_reducible repeat (first | apply Kd.R_alloc | apply Kd.R_drewN | apply Kd.R_drew)); exact HO_4.out) hb); have n1_ := Aside0.mk (below_step (by repeat (first | (with_reducible first | exact HB.out | apply below_alloc | apply pw_below_drewN | apply below_drew1) | exact HB.out)) hb); clear HO_4; clear HB; have HO_4 := n0_; have HB := n1_; clear n0_ n1_; (try clear hb); (try clear hb2); (try clear hk); (try clear hi))); go_upto_region 8 with (first | (go_at_call 25; (with_reducible refine (lz_Form.calls kj5 _ _ t318 t323 t324 _ ?side1 ?side2 A12.out).mono ?_); (case side1 => repeat (first | exact (Kd.R_reads' HO_4.out).2.2 | (with_reducible refine Kd.C_alloc ?_ _) | (with_reducible refine Kd.C_drewN ?_ _) | (with_reducible refine Kd.C_drew ?_))); (case side2 => exact (Kd.R_reads' HO_4.out).2.1); rintro e w15 ⟨rfl, hb⟩; have n0_ := Aside0.mk (Kd.R_below (by (with_reducible repeat (first | apply Kd.R_alloc | apply Kd.R_drewN | apply Kd.R_drew)); exact HO_4.out) hb); have n1_ := Aside0.mk (below_step (by repeat (first | (with_reducible first | exact HB.out | apply below_alloc | apply pw_below_drewN | apply below_drew1) | exact HB.out)) hb); clear HO_4; clear HB; have HO_4 := n0_; have HB := n1_; clear n0_ n1_; (try clear hb); (try clear hb2); (try clear hk); (try clear hi))))
          (try simp only [Act.put, List.setIfInBounds_toArray, List.set_cons_zero, List.set_cons_succ])
          go_cut [45] (fun v45 wc => ∃ (kq : Nat) (x45_12 : Bool), v45 = .bool x45_12 ∧ Aside0 (gantrylaw04_LzTells.j1 kq a0 t318 x45_12 = some r) ∧ Aside0 (kq ≤ kj5) ∧ Aside0 (Kd.R k49 49 wc w.heap.size (fun _ => True) (.slice Ao14 t318.length co14) t318) ∧ Aside0 (Below w.heap.size w wc))
          case first =>
            have H := HC13.out
            clear HC13
            by_cases c16 : t323.toList = t317.toList
            · rw [if_pos c16] at H
              have c16b0 : (t323.toList == t317.toList) = true := beq_iff_eq.mpr c16
              have c16b1 : (t323.toList != t317.toList) = false := bne_eq_false_iff_eq.mpr c16
              clear c16
              (first | rw [c16b0] | (simp only [i64_w, i32_w]; rw [c16b0]) | skip)
              have H' := Aside0.mk H
              clear H
              go_wp2
              repeat (go_quiet (fail); try go_wp2)
              go_meet
              case rel => exact ⟨_, ((t324 != 0)), (by first | rfl | (simp; done) | (simp [*]; done)), H', ⟨by have := HJ5.out; first | omega | exact Nat.le_refl _⟩, ⟨by (with_reducible repeat (first | apply Kd.R_alloc | apply Kd.R_drewN | apply Kd.R_drew)); exact HO_4.out⟩, ⟨by repeat (first | (with_reducible first | exact HB.out | apply below_alloc | apply pw_below_drewN | apply below_drew1) | exact HB.out)⟩⟩
            · rw [if_neg c16] at H
              have c16b0 : (t323.toList == t317.toList) = false := beq_eq_false_iff_ne.mpr c16
              have c16b1 : (t323.toList != t317.toList) = true := bne_iff_ne.mpr c16
              (first | rw [c16b0] | (simp only [i64_w, i32_w]; rw [c16b0]) | skip)
              have H' := Aside0.mk H
              clear H
              go_wp2
              repeat (go_quiet (fail); try go_wp2)
              go_meet
              case rel => exact ⟨_, (true), (by first | rfl | (simp; done) | (simp [*]; done)), H', ⟨by have := HJ5.out; first | omega | exact Nat.le_refl _⟩, ⟨by (with_reducible repeat (first | apply Kd.R_alloc | apply Kd.R_drewN | apply Kd.R_drew)); exact HO_4.out⟩, ⟨by repeat (first | (with_reducible first | exact HB.out | apply below_alloc | apply pw_below_drewN | apply below_drew1) | exact HB.out)⟩⟩
          case rest =>
            clear HC13
            try clear c1
            try clear p2
            try clear c3
            try clear c9
            try clear c10
            try clear c10b0
            try clear c10b1
            try clear c11
            try clear c16
            try clear c16b0
            try clear c16b1
            try clear p2
            obtain ⟨kq, x45_12, rfl, HA, HJ12, HO_4, HB⟩ := hcut
            cases kq with
            | zero => exact absurd HA.out (by simp [gantrylaw04_LzTells.j1])
            | succ kj12 =>
              have H := HA.out
              clear HA
              simp only [gantrylaw04_LzTells.j1] at H
              by_cases c17 : x45_12 = true
              · subst c17
                have H1 : (some false) = some r := by rw [if_pos rfl] at H; exact H
                clear H
                have H := H1
                clear H1
                obtain rfl := Option.some.inj H
                go_wp2
                repeat (go_quiet (fail); try go_wp2)
                go_ret
                exact ⟨by first | rfl | (simp [errW_none, errW_some] <;> rfl) | (simp [*, errW_none, errW_some] <;> rfl), by repeat (first | (with_reducible first | exact HB.out | apply below_alloc | apply pw_below_drewN | apply below_drew1) | exact HB.out)⟩
              · replace c17 := Bool.eq_false_iff.mpr c17
                subst c17
                have H1 : (gantrylaw04_LzTells.l0 kj12 a0 t318 0 0) = some r := by rw [if_neg (show ¬ (false = true) by decide)] at H; exact H
                clear H
                have H := H1
                clear H1
                have H' := Aside0.mk H
                clear H
                go_wp2
                repeat (go_quiet (fail); try go_wp2)
                go_loopg [8, 9] kj12 (fun kq v8 v9 w' => ∃ (x8_3 : Int) (x9_3 : Int), v8 = .int .i64 x8_3 ∧ v9 = .int .i64 x9_3 ∧ Aside0 (gantrylaw04_LzTells.l0 kq a0 t318 x8_3 x9_3 = some r) ∧ Aside0 (kq ≤ kj12) ∧ Aside0 (Kd.R k49 49 w' w.heap.size (fun _ => True) (.slice Ao14 t318.length co14) t318) ∧ Aside0 (Below w.heap.size w w'))
                case atStart => exact ⟨(0), (0), (by first | rfl | (simp; done) | (simp [*]; done)), (by first | rfl | (simp; done) | (simp [*]; done)), H', ⟨Nat.le_refl _⟩, ⟨by (with_reducible repeat (first | apply Kd.R_alloc | apply Kd.R_drewN | apply Kd.R_drew)); exact HO_4.out⟩, ⟨by repeat (first | (with_reducible first | exact HB.out | apply below_alloc | apply pw_below_drewN | apply below_drew1) | exact HB.out)⟩⟩
                case round =>
                  clear H'
                  try clear c1
                  try clear p2
                  try clear c3
                  try clear c9
                  try clear c10
                  try clear c10b0
                  try clear c10b1
                  try clear c11
                  try clear c16
                  try clear c16b0
                  try clear c16b1
                  try clear c17
                  try clear p2
                  obtain ⟨x8_3, x9_3, rfl, rfl, HA, HK3, HO_4, HB⟩ := hrel
                  cases gk with
                  | zero => exact absurd HA.out (by simp [gantrylaw04_LzTells.l0])
                  | succ k3 =>
                    have H := HA.out
                    clear HA
                    simp only [gantrylaw04_LzTells.l0] at H
                    by_cases c18 : x9_3 < (t318.length : Int)
                    · rw [if_pos c18] at H
                      have c18b0 : decide (x9_3 < (t318.length : Int)) = true := decide_eq_true c18
                      clear c18
                      by_cases c19 : 0 ≤ x9_3
                      · rw [if_pos c19] at H
                        have c19b0 : decide (0 ≤ x9_3) = true := decide_eq_true c19
                        clear c19
                        by_cases c20 : ((rd_T49 t318 x9_3).f1) > 0
                        · rw [if_pos c20] at H
                          have c20b0 : decide (0 < ((rd_T49 t318 x9_3).f1)) = true := decide_eq_true c20
                          clear c20
                          replace H := Option.bind_eq_some_iff.mp H
                          obtain ⟨⟨t327, t328⟩, A210, H⟩ := H
                          replace H : (if t327 = ((rd_T49 t318 x9_3).f1) then (if t328 = ((rd_T49 t318 x9_3).f2) then (if ((rd_T49 t318 x9_3).f0).toList = ([] : List UInt8) then (gantrylaw04_LzTells.l0 k3 a0 t318 (wrap64 (x8_3 + t327)) (wrap64 (x9_3 + 1))) else (some false)) else (some false)) else (some false)) = some r := H
                          have A21 := Aside0.mk A210
                          clear A210
                          by_cases c22 : t327 = ((rd_T49 t318 x9_3).f1)
                          · rw [if_pos c22] at H
                            have c22b0 : (t327 == ((rd_T49 t318 x9_3).f1)) = true := beq_iff_eq.mpr c22
                            have c22b1 : (t327 != ((rd_T49 t318 x9_3).f1)) = false := bne_eq_false_iff_eq.mpr c22
                            clear c22
                            by_cases c23 : t328 = ((rd_T49 t318 x9_3).f2)
                            · rw [if_pos c23] at H
                              have c23b0 : (t328 == ((rd_T49 t318 x9_3).f2)) = true := beq_iff_eq.mpr c23
                              have c23b1 : (t328 != ((rd_T49 t318 x9_3).f2)) = false := bne_eq_false_iff_eq.mpr c23
                              clear c23
                              by_cases c24 : ((rd_T49 t318 x9_3).f0).toList = ([] : List UInt8)
                              · rw [if_pos c24] at H
                                have c24b0 : (((rd_T49 t318 x9_3).f0).toList == ([] : List UInt8)) = true := beq_iff_eq.mpr c24
                                have c24b1 : (((rd_T49 t318 x9_3).f0).toList != ([] : List UInt8)) = false := bne_eq_false_iff_eq.mpr c24
                                clear c24
                                have H' := Aside0.mk H
                                clear H
                                have p325 : 0 ≤ (x9_3 : Int) := of_decide_eq_true (by first | (with_reducible assumption) | assumption)
                                have q325 : x9_3 < (t318.length : Int) := of_decide_eq_true (by first | (with_reducible assumption) | assumption)
                                obtain ⟨ad325, e325, hx325_0, hx325_1, hx325_2⟩ := at_T49 (Kd.R_reads' HO_4.out).2.2 x9_3 p325 q325
                                cases e325
                                replace p325 := eq_true p325
                                replace q325 := eq_true q325
                                go_wp2_with (first | ((with_reducible refine gate_dst (N := 10) rfl ?_); (try (refine gate_guard (by rfl) ?_; dsimp only)); refine box_event ?hg (N := 10) ?hd (cs := #[.string (⟨#[]⟩ : ByteArray), .int .i64 0, .int .i64 0]) (t := 49) ?hr ?_; (case hd => rfl); (case hg => rfl); (case hr => first | (go_simp; done) | (go_simp; rfl)); intro gb326 hg w25 hbox hb; have n0_ := Aside0.mk (Kd.R_below (Kd.R_elderB (by (with_reducible repeat (first | apply Kd.R_alloc | apply Kd.R_drewN | apply Kd.R_drew)); exact HO_4.out) gb326 (Nat.le_of_eq hg.symm)) hb); have n1_ := Aside0.mk (below_step (by repeat (first | (with_reducible first | exact HB.out | apply below_alloc | apply pw_below_drewN | apply below_drew1) | exact HB.out)) hb); have n2_ := Aside0.mk (hbox); have n3_ := Aside0.mk ((by rw [hg]; exact (below_size (by repeat (first | (with_reducible first | exact HB.out | apply below_alloc | apply pw_below_drewN | apply below_drew1) | exact HB.out))) : w.heap.size ≤ gb326)); have n4_ := Aside0.mk ((by rw [hg]; exact (below_size (by repeat (first | (with_reducible first | exact HB.out | apply below_alloc | apply pw_below_drewN | apply below_drew1) | exact HB.out))) : w.heap.size ≤ gb326)); clear HO_4; clear HB; have HO_4 := n0_; have HB := n1_; have BK326 := n2_; have GW326 := n3_; have GE326 := n4_; clear n0_ n1_ n2_ n3_ n4_; clear hb hbox hg; have hcz26_0 : w25.cell? ⟨gb326, 0, none⟩ = some (.string (⟨#[]⟩ : ByteArray)) := (blk_cell BK326.out 0).trans rfl; have hcz26_1 : w25.cell? ⟨gb326, 1, none⟩ = some (.int .i64 0) := (blk_cell BK326.out 1).trans rfl; have hcz26_2 : w25.cell? ⟨gb326, 2, none⟩ = some (.int .i64 0) := (blk_cell BK326.out 2).trans rfl; have hfz26_0 := blk_frozen BK326.out 0; have hfz26_1 := blk_frozen BK326.out 1; have hfz26_2 := blk_frozen BK326.out 2) | (go_at_call 15; (with_reducible refine (lz_Best.calls k3 a0 x8_3 t327 t328 _ A21.out).mono ?_); rintro e w27 ⟨rfl, hb⟩; have n0_ := Aside0.mk (Kd.R_below (by (with_reducible repeat (first | apply Kd.R_alloc | apply Kd.R_drewN | apply Kd.R_drew)); exact (Kd.R_mono (Kd.R_far (p := ⟨gb326, 2, none⟩) (Kd.R_far (p := ⟨gb326, 1, none⟩) (Kd.R_far (p := ⟨gb326, 0, none⟩) (Kd.R_mono HO_4.out (fun k_ hk => (⟨hk, hk.2⟩ : _ ∧ k_ ≠ gb326))) (fun _ hk => hk.2) (.string ((rd_T49 t318 x9_3).f0))) (fun _ hk => hk.2) (.int .i64 ((rd_T49 t318 x9_3).f1))) (fun _ hk => hk.2) (.int .i64 ((rd_T49 t318 x9_3).f2))) (fun _ h_ => h_.1))) hb); have n1_ := Aside0.mk (blk_below (g := gb326) (o := .cells #[.string ((rd_T49 t318 x9_3).f0), .int .i64 ((rd_T49 t318 x9_3).f1), .int .i64 ((rd_T49 t318 x9_3).f2)] 49 (0, 0)) (by (with_reducible repeat (first | refine blk_drewN ?_ _ | refine blk_drew ?_ | refine blk_alloc ?_ _)); refine blk_put (cs := #[.string ((rd_T49 t318 x9_3).f0), .int .i64 ((rd_T49 t318 x9_3).f1), .int .i64 0]) ?_ 2 _ rfl; (with_reducible repeat (first | refine blk_drewN ?_ _ | refine blk_drew ?_ | refine blk_alloc ?_ _)); refine blk_put (cs := #[.string ((rd_T49 t318 x9_3).f0), .int .i64 0, .int .i64 0]) ?_ 1 _ rfl; (with_reducible repeat (first | refine blk_drewN ?_ _ | refine blk_drew ?_ | refine blk_alloc ?_ _)); refine blk_put (cs := #[.string (⟨#[]⟩ : ByteArray), .int .i64 0, .int .i64 0]) ?_ 0 _ rfl; (with_reducible repeat (first | refine blk_drewN ?_ _ | refine blk_drew ?_ | refine blk_alloc ?_ _)); exact BK326.out) hb); have n2_ := Aside0.mk (below_step (by repeat (first | (with_reducible first | exact HB.out | apply below_alloc | apply pw_below_drewN | apply below_drew1 | refine below_set ?_ GE326.out) | exact HB.out)) hb); clear HO_4; clear BK326; clear HB; have HO_4 := n0_; have BK326 := n1_; have HB := n2_; clear n0_ n1_ n2_; (try clear hb); (try clear hb2); (try clear hk); (try clear hi); have hcz28_0 : w27.cell? ⟨gb326, 0, none⟩ = some (.string ((rd_T49 t318 x9_3).f0)) := (blk_cell BK326.out 0).trans rfl; have hcz28_1 : w27.cell? ⟨gb326, 1, none⟩ = some (.int .i64 ((rd_T49 t318 x9_3).f1)) := (blk_cell BK326.out 1).trans rfl; have hcz28_2 : w27.cell? ⟨gb326, 2, none⟩ = some (.int .i64 ((rd_T49 t318 x9_3).f2)) := (blk_cell BK326.out 2).trans rfl; have hfz28_0 := blk_frozen BK326.out 0; have hfz28_1 := blk_frozen BK326.out 1; have hfz28_2 := blk_frozen BK326.out 2))
                                repeat (go_quiet (first | ((with_reducible refine gate_dst (N := 10) rfl ?_); (try (refine gate_guard (by rfl) ?_; dsimp only)); refine box_event ?hg (N := 10) ?hd (cs := #[.string (⟨#[]⟩ : ByteArray), .int .i64 0, .int .i64 0]) (t := 49) ?hr ?_; (case hd => rfl); (case hg => rfl); (case hr => first | (go_simp; done) | (go_simp; rfl)); intro gb326 hg w25 hbox hb; have n0_ := Aside0.mk (Kd.R_below (Kd.R_elderB (by (with_reducible repeat (first | apply Kd.R_alloc | apply Kd.R_drewN | apply Kd.R_drew)); exact HO_4.out) gb326 (Nat.le_of_eq hg.symm)) hb); have n1_ := Aside0.mk (below_step (by repeat (first | (with_reducible first | exact HB.out | apply below_alloc | apply pw_below_drewN | apply below_drew1) | exact HB.out)) hb); have n2_ := Aside0.mk (hbox); have n3_ := Aside0.mk ((by rw [hg]; exact (below_size (by repeat (first | (with_reducible first | exact HB.out | apply below_alloc | apply pw_below_drewN | apply below_drew1) | exact HB.out))) : w.heap.size ≤ gb326)); have n4_ := Aside0.mk ((by rw [hg]; exact (below_size (by repeat (first | (with_reducible first | exact HB.out | apply below_alloc | apply pw_below_drewN | apply below_drew1) | exact HB.out))) : w.heap.size ≤ gb326)); clear HO_4; clear HB; have HO_4 := n0_; have HB := n1_; have BK326 := n2_; have GW326 := n3_; have GE326 := n4_; clear n0_ n1_ n2_ n3_ n4_; clear hb hbox hg; have hcz26_0 : w25.cell? ⟨gb326, 0, none⟩ = some (.string (⟨#[]⟩ : ByteArray)) := (blk_cell BK326.out 0).trans rfl; have hcz26_1 : w25.cell? ⟨gb326, 1, none⟩ = some (.int .i64 0) := (blk_cell BK326.out 1).trans rfl; have hcz26_2 : w25.cell? ⟨gb326, 2, none⟩ = some (.int .i64 0) := (blk_cell BK326.out 2).trans rfl; have hfz26_0 := blk_frozen BK326.out 0; have hfz26_1 := blk_frozen BK326.out 1; have hfz26_2 := blk_frozen BK326.out 2) | (go_at_call 15; (with_reducible refine (lz_Best.calls k3 a0 x8_3 t327 t328 _ A21.out).mono ?_); rintro e w27 ⟨rfl, hb⟩; have n0_ := Aside0.mk (Kd.R_below (by (with_reducible repeat (first | apply Kd.R_alloc | apply Kd.R_drewN | apply Kd.R_drew)); exact (Kd.R_mono (Kd.R_far (p := ⟨gb326, 2, none⟩) (Kd.R_far (p := ⟨gb326, 1, none⟩) (Kd.R_far (p := ⟨gb326, 0, none⟩) (Kd.R_mono HO_4.out (fun k_ hk => (⟨hk, hk.2⟩ : _ ∧ k_ ≠ gb326))) (fun _ hk => hk.2) (.string ((rd_T49 t318 x9_3).f0))) (fun _ hk => hk.2) (.int .i64 ((rd_T49 t318 x9_3).f1))) (fun _ hk => hk.2) (.int .i64 ((rd_T49 t318 x9_3).f2))) (fun _ h_ => h_.1))) hb); have n1_ := Aside0.mk (blk_below (g := gb326) (o := .cells #[.string ((rd_T49 t318 x9_3).f0), .int .i64 ((rd_T49 t318 x9_3).f1), .int .i64 ((rd_T49 t318 x9_3).f2)] 49 (0, 0)) (by (with_reducible repeat (first | refine blk_drewN ?_ _ | refine blk_drew ?_ | refine blk_alloc ?_ _)); refine blk_put (cs := #[.string ((rd_T49 t318 x9_3).f0), .int .i64 ((rd_T49 t318 x9_3).f1), .int .i64 0]) ?_ 2 _ rfl; (with_reducible repeat (first | refine blk_drewN ?_ _ | refine blk_drew ?_ | refine blk_alloc ?_ _)); refine blk_put (cs := #[.string ((rd_T49 t318 x9_3).f0), .int .i64 0, .int .i64 0]) ?_ 1 _ rfl; (with_reducible repeat (first | refine blk_drewN ?_ _ | refine blk_drew ?_ | refine blk_alloc ?_ _)); refine blk_put (cs := #[.string (⟨#[]⟩ : ByteArray), .int .i64 0, .int .i64 0]) ?_ 0 _ rfl; (with_reducible repeat (first | refine blk_drewN ?_ _ | refine blk_drew ?_ | refine blk_alloc ?_ _)); exact BK326.out) hb); have n2_ := Aside0.mk (below_step (by repeat (first | (with_reducible first | exact HB.out | apply below_alloc | apply pw_below_drewN | apply below_drew1 | refine below_set ?_ GE326.out) | exact HB.out)) hb); clear HO_4; clear BK326; clear HB; have HO_4 := n0_; have BK326 := n1_; have HB := n2_; clear n0_ n1_ n2_; (try clear hb); (try clear hb2); (try clear hk); (try clear hi); have hcz28_0 : w27.cell? ⟨gb326, 0, none⟩ = some (.string ((rd_T49 t318 x9_3).f0)) := (blk_cell BK326.out 0).trans rfl; have hcz28_1 : w27.cell? ⟨gb326, 1, none⟩ = some (.int .i64 ((rd_T49 t318 x9_3).f1)) := (blk_cell BK326.out 1).trans rfl; have hcz28_2 : w27.cell? ⟨gb326, 2, none⟩ = some (.int .i64 ((rd_T49 t318 x9_3).f2)) := (blk_cell BK326.out 2).trans rfl; have hfz28_0 := blk_frozen BK326.out 0; have hfz28_1 := blk_frozen BK326.out 1; have hfz28_2 := blk_frozen BK326.out 2)); try go_wp2_with (first | ((with_reducible refine gate_dst (N := 10) rfl ?_); (try (refine gate_guard (by rfl) ?_; dsimp only)); refine box_event ?hg (N := 10) ?hd (cs := #[.string (⟨#[]⟩ : ByteArray), .int .i64 0, .int .i64 0]) (t := 49) ?hr ?_; (case hd => rfl); (case hg => rfl); (case hr => first | (go_simp; done) | (go_simp; rfl)); intro gb326 hg w25 hbox hb; have n0_ := Aside0.mk (Kd.R_below (Kd.R_elderB (by (with_reducible repeat (first | apply Kd.R_alloc | apply Kd.R_drewN | apply Kd.R_drew)); exact HO_4.out) gb326 (Nat.le_of_eq hg.symm)) hb); have n1_ := Aside0.mk (below_step (by repeat (first | (with_reducible first | exact HB.out | apply below_alloc | apply pw_below_drewN | apply below_drew1) | exact HB.out)) hb); have n2_ := Aside0.mk (hbox); have n3_ := Aside0.mk ((by rw [hg]; exact (below_size (by repeat (first | (with_reducible first | exact HB.out | apply below_alloc | apply pw_below_drewN | apply below_drew1) | exact HB.out))) : w.heap.size ≤ gb326)); have n4_ := Aside0.mk ((by rw [hg]; exact (below_size (by repeat (first | (with_reducible first | exact HB.out | apply below_alloc | apply pw_below_drewN | apply below_drew1) | exact HB.out))) : w.heap.size ≤ gb326)); clear HO_4; clear HB; have HO_4 := n0_; have HB := n1_; have BK326 := n2_; have GW326 := n3_; have GE326 := n4_; clear n0_ n1_ n2_ n3_ n4_; clear hb hbox hg; have hcz26_0 : w25.cell? ⟨gb326, 0, none⟩ = some (.string (⟨#[]⟩ : ByteArray)) := (blk_cell BK326.out 0).trans rfl; have hcz26_1 : w25.cell? ⟨gb326, 1, none⟩ = some (.int .i64 0) := (blk_cell BK326.out 1).trans rfl; have hcz26_2 : w25.cell? ⟨gb326, 2, none⟩ = some (.int .i64 0) := (blk_cell BK326.out 2).trans rfl; have hfz26_0 := blk_frozen BK326.out 0; have hfz26_1 := blk_frozen BK326.out 1; have hfz26_2 := blk_frozen BK326.out 2) | (go_at_call 15; (with_reducible refine (lz_Best.calls k3 a0 x8_3 t327 t328 _ A21.out).mono ?_); rintro e w27 ⟨rfl, hb⟩; have n0_ := Aside0.mk (Kd.R_below (by (with_reducible repeat (first | apply Kd.R_alloc | apply Kd.R_drewN | apply Kd.R_drew)); exact (Kd.R_mono (Kd.R_far (p := ⟨gb326, 2, none⟩) (Kd.R_far (p := ⟨gb326, 1, none⟩) (Kd.R_far (p := ⟨gb326, 0, none⟩) (Kd.R_mono HO_4.out (fun k_ hk => (⟨hk, hk.2⟩ : _ ∧ k_ ≠ gb326))) (fun _ hk => hk.2) (.string ((rd_T49 t318 x9_3).f0))) (fun _ hk => hk.2) (.int .i64 ((rd_T49 t318 x9_3).f1))) (fun _ hk => hk.2) (.int .i64 ((rd_T49 t318 x9_3).f2))) (fun _ h_ => h_.1))) hb); have n1_ := Aside0.mk (blk_below (g := gb326) (o := .cells #[.string ((rd_T49 t318 x9_3).f0), .int .i64 ((rd_T49 t318 x9_3).f1), .int .i64 ((rd_T49 t318 x9_3).f2)] 49 (0, 0)) (by (with_reducible repeat (first | refine blk_drewN ?_ _ | refine blk_drew ?_ | refine blk_alloc ?_ _)); refine blk_put (cs := #[.string ((rd_T49 t318 x9_3).f0), .int .i64 ((rd_T49 t318 x9_3).f1), .int .i64 0]) ?_ 2 _ rfl; (with_reducible repeat (first | refine blk_drewN ?_ _ | refine blk_drew ?_ | refine blk_alloc ?_ _)); refine blk_put (cs := #[.string ((rd_T49 t318 x9_3).f0), .int .i64 0, .int .i64 0]) ?_ 1 _ rfl; (with_reducible repeat (first | refine blk_drewN ?_ _ | refine blk_drew ?_ | refine blk_alloc ?_ _)); refine blk_put (cs := #[.string (⟨#[]⟩ : ByteArray), .int .i64 0, .int .i64 0]) ?_ 0 _ rfl; (with_reducible repeat (first | refine blk_drewN ?_ _ | refine blk_drew ?_ | refine blk_alloc ?_ _)); exact BK326.out) hb); have n2_ := Aside0.mk (below_step (by repeat (first | (with_reducible first | exact HB.out | apply below_alloc | apply pw_below_drewN | apply below_drew1 | refine below_set ?_ GE326.out) | exact HB.out)) hb); clear HO_4; clear BK326; clear HB; have HO_4 := n0_; have BK326 := n1_; have HB := n2_; clear n0_ n1_ n2_; (try clear hb); (try clear hb2); (try clear hk); (try clear hi); have hcz28_0 : w27.cell? ⟨gb326, 0, none⟩ = some (.string ((rd_T49 t318 x9_3).f0)) := (blk_cell BK326.out 0).trans rfl; have hcz28_1 : w27.cell? ⟨gb326, 1, none⟩ = some (.int .i64 ((rd_T49 t318 x9_3).f1)) := (blk_cell BK326.out 1).trans rfl; have hcz28_2 : w27.cell? ⟨gb326, 2, none⟩ = some (.int .i64 ((rd_T49 t318 x9_3).f2)) := (blk_cell BK326.out 2).trans rfl; have hfz28_0 := blk_frozen BK326.out 0; have hfz28_1 := blk_frozen BK326.out 1; have hfz28_2 := blk_frozen BK326.out 2)))
                                go_roundg k3
                                case measure => have := HJ5.out; have := HJ12.out; have := HK3.out; omega
                                case rel => exact ⟨(wrap64 (x8_3 + t327)), (wrap64 (x9_3 + 1)), (by first | rfl | (simp; done) | (simp [*]; done)), (by first | rfl | (simp; done) | (simp [*]; done)), H', ⟨by have := HJ5.out; have := HJ12.out; have := HK3.out; omega⟩, ⟨by (with_reducible repeat (first | apply Kd.R_alloc | apply Kd.R_drewN | apply Kd.R_drew)); exact Kd.R_mono HO_4.out (fun _ hk => trivial)⟩, ⟨by repeat (first | (with_reducible first | exact HB.out | apply below_alloc | apply pw_below_drewN | apply below_drew1 | refine below_set ?_ GE326.out) | exact HB.out)⟩⟩
                              · rw [if_neg c24] at H
                                have c24b0 : (((rd_T49 t318 x9_3).f0).toList == ([] : List UInt8)) = false := beq_eq_false_iff_ne.mpr c24
                                have c24b1 : (((rd_T49 t318 x9_3).f0).toList != ([] : List UInt8)) = true := bne_iff_ne.mpr c24
                                obtain rfl := Option.some.inj H
                                have p325 : 0 ≤ (x9_3 : Int) := of_decide_eq_true (by first | (with_reducible assumption) | assumption)
                                have q325 : x9_3 < (t318.length : Int) := of_decide_eq_true (by first | (with_reducible assumption) | assumption)
                                obtain ⟨ad325, e325, hx325_0, hx325_1, hx325_2⟩ := at_T49 (Kd.R_reads' HO_4.out).2.2 x9_3 p325 q325
                                cases e325
                                replace p325 := eq_true p325
                                replace q325 := eq_true q325
                                go_wp2_with (first | ((with_reducible refine gate_dst (N := 10) rfl ?_); (try (refine gate_guard (by rfl) ?_; dsimp only)); refine box_event ?hg (N := 10) ?hd (cs := #[.string (⟨#[]⟩ : ByteArray), .int .i64 0, .int .i64 0]) (t := 49) ?hr ?_; (case hd => rfl); (case hg => rfl); (case hr => first | (go_simp; done) | (go_simp; rfl)); intro gb326 hg w29 hbox hb; have n0_ := Aside0.mk (Kd.R_below (Kd.R_elderB (by (with_reducible repeat (first | apply Kd.R_alloc | apply Kd.R_drewN | apply Kd.R_drew)); exact HO_4.out) gb326 (Nat.le_of_eq hg.symm)) hb); have n1_ := Aside0.mk (below_step (by repeat (first | (with_reducible first | exact HB.out | apply below_alloc | apply pw_below_drewN | apply below_drew1) | exact HB.out)) hb); have n2_ := Aside0.mk (hbox); have n3_ := Aside0.mk ((by rw [hg]; exact (below_size (by repeat (first | (with_reducible first | exact HB.out | apply below_alloc | apply pw_below_drewN | apply below_drew1) | exact HB.out))) : w.heap.size ≤ gb326)); have n4_ := Aside0.mk ((by rw [hg]; exact (below_size (by repeat (first | (with_reducible first | exact HB.out | apply below_alloc | apply pw_below_drewN | apply below_drew1) | exact HB.out))) : w.heap.size ≤ gb326)); clear HO_4; clear HB; have HO_4 := n0_; have HB := n1_; have BK326 := n2_; have GW326 := n3_; have GE326 := n4_; clear n0_ n1_ n2_ n3_ n4_; clear hb hbox hg; have hcz30_0 : w29.cell? ⟨gb326, 0, none⟩ = some (.string (⟨#[]⟩ : ByteArray)) := (blk_cell BK326.out 0).trans rfl; have hcz30_1 : w29.cell? ⟨gb326, 1, none⟩ = some (.int .i64 0) := (blk_cell BK326.out 1).trans rfl; have hcz30_2 : w29.cell? ⟨gb326, 2, none⟩ = some (.int .i64 0) := (blk_cell BK326.out 2).trans rfl; have hfz30_0 := blk_frozen BK326.out 0; have hfz30_1 := blk_frozen BK326.out 1; have hfz30_2 := blk_frozen BK326.out 2) | (go_at_call 15; (with_reducible refine (lz_Best.calls k3 a0 x8_3 t327 t328 _ A21.out).mono ?_); rintro e w31 ⟨rfl, hb⟩; have n0_ := Aside0.mk (Kd.R_below (by (with_reducible repeat (first | apply Kd.R_alloc | apply Kd.R_drewN | apply Kd.R_drew)); exact (Kd.R_mono (Kd.R_far (p := ⟨gb326, 2, none⟩) (Kd.R_far (p := ⟨gb326, 1, none⟩) (Kd.R_far (p := ⟨gb326, 0, none⟩) (Kd.R_mono HO_4.out (fun k_ hk => (⟨hk, hk.2⟩ : _ ∧ k_ ≠ gb326))) (fun _ hk => hk.2) (.string ((rd_T49 t318 x9_3).f0))) (fun _ hk => hk.2) (.int .i64 ((rd_T49 t318 x9_3).f1))) (fun _ hk => hk.2) (.int .i64 ((rd_T49 t318 x9_3).f2))) (fun _ h_ => h_.1))) hb); have n1_ := Aside0.mk (blk_below (g := gb326) (o := .cells #[.string ((rd_T49 t318 x9_3).f0), .int .i64 ((rd_T49 t318 x9_3).f1), .int .i64 ((rd_T49 t318 x9_3).f2)] 49 (0, 0)) (by (with_reducible repeat (first | refine blk_drewN ?_ _ | refine blk_drew ?_ | refine blk_alloc ?_ _)); refine blk_put (cs := #[.string ((rd_T49 t318 x9_3).f0), .int .i64 ((rd_T49 t318 x9_3).f1), .int .i64 0]) ?_ 2 _ rfl; (with_reducible repeat (first | refine blk_drewN ?_ _ | refine blk_drew ?_ | refine blk_alloc ?_ _)); refine blk_put (cs := #[.string ((rd_T49 t318 x9_3).f0), .int .i64 0, .int .i64 0]) ?_ 1 _ rfl; (with_reducible repeat (first | refine blk_drewN ?_ _ | refine blk_drew ?_ | refine blk_alloc ?_ _)); refine blk_put (cs := #[.string (⟨#[]⟩ : ByteArray), .int .i64 0, .int .i64 0]) ?_ 0 _ rfl; (with_reducible repeat (first | refine blk_drewN ?_ _ | refine blk_drew ?_ | refine blk_alloc ?_ _)); exact BK326.out) hb); have n2_ := Aside0.mk (below_step (by repeat (first | (with_reducible first | exact HB.out | apply below_alloc | apply pw_below_drewN | apply below_drew1 | refine below_set ?_ GE326.out) | exact HB.out)) hb); clear HO_4; clear BK326; clear HB; have HO_4 := n0_; have BK326 := n1_; have HB := n2_; clear n0_ n1_ n2_; (try clear hb); (try clear hb2); (try clear hk); (try clear hi); have hcz32_0 : w31.cell? ⟨gb326, 0, none⟩ = some (.string ((rd_T49 t318 x9_3).f0)) := (blk_cell BK326.out 0).trans rfl; have hcz32_1 : w31.cell? ⟨gb326, 1, none⟩ = some (.int .i64 ((rd_T49 t318 x9_3).f1)) := (blk_cell BK326.out 1).trans rfl; have hcz32_2 : w31.cell? ⟨gb326, 2, none⟩ = some (.int .i64 ((rd_T49 t318 x9_3).f2)) := (blk_cell BK326.out 2).trans rfl; have hfz32_0 := blk_frozen BK326.out 0; have hfz32_1 := blk_frozen BK326.out 1; have hfz32_2 := blk_frozen BK326.out 2))
                                repeat (go_quiet (first | ((with_reducible refine gate_dst (N := 10) rfl ?_); (try (refine gate_guard (by rfl) ?_; dsimp only)); refine box_event ?hg (N := 10) ?hd (cs := #[.string (⟨#[]⟩ : ByteArray), .int .i64 0, .int .i64 0]) (t := 49) ?hr ?_; (case hd => rfl); (case hg => rfl); (case hr => first | (go_simp; done) | (go_simp; rfl)); intro gb326 hg w29 hbox hb; have n0_ := Aside0.mk (Kd.R_below (Kd.R_elderB (by (with_reducible repeat (first | apply Kd.R_alloc | apply Kd.R_drewN | apply Kd.R_drew)); exact HO_4.out) gb326 (Nat.le_of_eq hg.symm)) hb); have n1_ := Aside0.mk (below_step (by repeat (first | (with_reducible first | exact HB.out | apply below_alloc | apply pw_below_drewN | apply below_drew1) | exact HB.out)) hb); have n2_ := Aside0.mk (hbox); have n3_ := Aside0.mk ((by rw [hg]; exact (below_size (by repeat (first | (with_reducible first | exact HB.out | apply below_alloc | apply pw_below_drewN | apply below_drew1) | exact HB.out))) : w.heap.size ≤ gb326)); have n4_ := Aside0.mk ((by rw [hg]; exact (below_size (by repeat (first | (with_reducible first | exact HB.out | apply below_alloc | apply pw_below_drewN | apply below_drew1) | exact HB.out))) : w.heap.size ≤ gb326)); clear HO_4; clear HB; have HO_4 := n0_; have HB := n1_; have BK326 := n2_; have GW326 := n3_; have GE326 := n4_; clear n0_ n1_ n2_ n3_ n4_; clear hb hbox hg; have hcz30_0 : w29.cell? ⟨gb326, 0, none⟩ = some (.string (⟨#[]⟩ : ByteArray)) := (blk_cell BK326.out 0).trans rfl; have hcz30_1 : w29.cell? ⟨gb326, 1, none⟩ = some (.int .i64 0) := (blk_cell BK326.out 1).trans rfl; have hcz30_2 : w29.cell? ⟨gb326, 2, none⟩ = some (.int .i64 0) := (blk_cell BK326.out 2).trans rfl; have hfz30_0 := blk_frozen BK326.out 0; have hfz30_1 := blk_frozen BK326.out 1; have hfz30_2 := blk_frozen BK326.out 2) | (go_at_call 15; (with_reducible refine (lz_Best.calls k3 a0 x8_3 t327 t328 _ A21.out).mono ?_); rintro e w31 ⟨rfl, hb⟩; have n0_ := Aside0.mk (Kd.R_below (by (with_reducible repeat (first | apply Kd.R_alloc | apply Kd.R_drewN | apply Kd.R_drew)); exact (Kd.R_mono (Kd.R_far (p := ⟨gb326, 2, none⟩) (Kd.R_far (p := ⟨gb326, 1, none⟩) (Kd.R_far (p := ⟨gb326, 0, none⟩) (Kd.R_mono HO_4.out (fun k_ hk => (⟨hk, hk.2⟩ : _ ∧ k_ ≠ gb326))) (fun _ hk => hk.2) (.string ((rd_T49 t318 x9_3).f0))) (fun _ hk => hk.2) (.int .i64 ((rd_T49 t318 x9_3).f1))) (fun _ hk => hk.2) (.int .i64 ((rd_T49 t318 x9_3).f2))) (fun _ h_ => h_.1))) hb); have n1_ := Aside0.mk (blk_below (g := gb326) (o := .cells #[.string ((rd_T49 t318 x9_3).f0), .int .i64 ((rd_T49 t318 x9_3).f1), .int .i64 ((rd_T49 t318 x9_3).f2)] 49 (0, 0)) (by (with_reducible repeat (first | refine blk_drewN ?_ _ | refine blk_drew ?_ | refine blk_alloc ?_ _)); refine blk_put (cs := #[.string ((rd_T49 t318 x9_3).f0), .int .i64 ((rd_T49 t318 x9_3).f1), .int .i64 0]) ?_ 2 _ rfl; (with_reducible repeat (first | refine blk_drewN ?_ _ | refine blk_drew ?_ | refine blk_alloc ?_ _)); refine blk_put (cs := #[.string ((rd_T49 t318 x9_3).f0), .int .i64 0, .int .i64 0]) ?_ 1 _ rfl; (with_reducible repeat (first | refine blk_drewN ?_ _ | refine blk_drew ?_ | refine blk_alloc ?_ _)); refine blk_put (cs := #[.string (⟨#[]⟩ : ByteArray), .int .i64 0, .int .i64 0]) ?_ 0 _ rfl; (with_reducible repeat (first | refine blk_drewN ?_ _ | refine blk_drew ?_ | refine blk_alloc ?_ _)); exact BK326.out) hb); have n2_ := Aside0.mk (below_step (by repeat (first | (with_reducible first | exact HB.out | apply below_alloc | apply pw_below_drewN | apply below_drew1 | refine below_set ?_ GE326.out) | exact HB.out)) hb); clear HO_4; clear BK326; clear HB; have HO_4 := n0_; have BK326 := n1_; have HB := n2_; clear n0_ n1_ n2_; (try clear hb); (try clear hb2); (try clear hk); (try clear hi); have hcz32_0 : w31.cell? ⟨gb326, 0, none⟩ = some (.string ((rd_T49 t318 x9_3).f0)) := (blk_cell BK326.out 0).trans rfl; have hcz32_1 : w31.cell? ⟨gb326, 1, none⟩ = some (.int .i64 ((rd_T49 t318 x9_3).f1)) := (blk_cell BK326.out 1).trans rfl; have hcz32_2 : w31.cell? ⟨gb326, 2, none⟩ = some (.int .i64 ((rd_T49 t318 x9_3).f2)) := (blk_cell BK326.out 2).trans rfl; have hfz32_0 := blk_frozen BK326.out 0; have hfz32_1 := blk_frozen BK326.out 1; have hfz32_2 := blk_frozen BK326.out 2)); try go_wp2_with (first | ((with_reducible refine gate_dst (N := 10) rfl ?_); (try (refine gate_guard (by rfl) ?_; dsimp only)); refine box_event ?hg (N := 10) ?hd (cs := #[.string (⟨#[]⟩ : ByteArray), .int .i64 0, .int .i64 0]) (t := 49) ?hr ?_; (case hd => rfl); (case hg => rfl); (case hr => first | (go_simp; done) | (go_simp; rfl)); intro gb326 hg w29 hbox hb; have n0_ := Aside0.mk (Kd.R_below (Kd.R_elderB (by (with_reducible repeat (first | apply Kd.R_alloc | apply Kd.R_drewN | apply Kd.R_drew)); exact HO_4.out) gb326 (Nat.le_of_eq hg.symm)) hb); have n1_ := Aside0.mk (below_step (by repeat (first | (with_reducible first | exact HB.out | apply below_alloc | apply pw_below_drewN | apply below_drew1) | exact HB.out)) hb); have n2_ := Aside0.mk (hbox); have n3_ := Aside0.mk ((by rw [hg]; exact (below_size (by repeat (first | (with_reducible first | exact HB.out | apply below_alloc | apply pw_below_drewN | apply below_drew1) | exact HB.out))) : w.heap.size ≤ gb326)); have n4_ := Aside0.mk ((by rw [hg]; exact (below_size (by repeat (first | (with_reducible first | exact HB.out | apply below_alloc | apply pw_below_drewN | apply below_drew1) | exact HB.out))) : w.heap.size ≤ gb326)); clear HO_4; clear HB; have HO_4 := n0_; have HB := n1_; have BK326 := n2_; have GW326 := n3_; have GE326 := n4_; clear n0_ n1_ n2_ n3_ n4_; clear hb hbox hg; have hcz30_0 : w29.cell? ⟨gb326, 0, none⟩ = some (.string (⟨#[]⟩ : ByteArray)) := (blk_cell BK326.out 0).trans rfl; have hcz30_1 : w29.cell? ⟨gb326, 1, none⟩ = some (.int .i64 0) := (blk_cell BK326.out 1).trans rfl; have hcz30_2 : w29.cell? ⟨gb326, 2, none⟩ = some (.int .i64 0) := (blk_cell BK326.out 2).trans rfl; have hfz30_0 := blk_frozen BK326.out 0; have hfz30_1 := blk_frozen BK326.out 1; have hfz30_2 := blk_frozen BK326.out 2) | (go_at_call 15; (with_reducible refine (lz_Best.calls k3 a0 x8_3 t327 t328 _ A21.out).mono ?_); rintro e w31 ⟨rfl, hb⟩; have n0_ := Aside0.mk (Kd.R_below (by (with_reducible repeat (first | apply Kd.R_alloc | apply Kd.R_drewN | apply Kd.R_drew)); exact (Kd.R_mono (Kd.R_far (p := ⟨gb326, 2, none⟩) (Kd.R_far (p := ⟨gb326, 1, none⟩) (Kd.R_far (p := ⟨gb326, 0, none⟩) (Kd.R_mono HO_4.out (fun k_ hk => (⟨hk, hk.2⟩ : _ ∧ k_ ≠ gb326))) (fun _ hk => hk.2) (.string ((rd_T49 t318 x9_3).f0))) (fun _ hk => hk.2) (.int .i64 ((rd_T49 t318 x9_3).f1))) (fun _ hk => hk.2) (.int .i64 ((rd_T49 t318 x9_3).f2))) (fun _ h_ => h_.1))) hb); have n1_ := Aside0.mk (blk_below (g := gb326) (o := .cells #[.string ((rd_T49 t318 x9_3).f0), .int .i64 ((rd_T49 t318 x9_3).f1), .int .i64 ((rd_T49 t318 x9_3).f2)] 49 (0, 0)) (by (with_reducible repeat (first | refine blk_drewN ?_ _ | refine blk_drew ?_ | refine blk_alloc ?_ _)); refine blk_put (cs := #[.string ((rd_T49 t318 x9_3).f0), .int .i64 ((rd_T49 t318 x9_3).f1), .int .i64 0]) ?_ 2 _ rfl; (with_reducible repeat (first | refine blk_drewN ?_ _ | refine blk_drew ?_ | refine blk_alloc ?_ _)); refine blk_put (cs := #[.string ((rd_T49 t318 x9_3).f0), .int .i64 0, .int .i64 0]) ?_ 1 _ rfl; (with_reducible repeat (first | refine blk_drewN ?_ _ | refine blk_drew ?_ | refine blk_alloc ?_ _)); refine blk_put (cs := #[.string (⟨#[]⟩ : ByteArray), .int .i64 0, .int .i64 0]) ?_ 0 _ rfl; (with_reducible repeat (first | refine blk_drewN ?_ _ | refine blk_drew ?_ | refine blk_alloc ?_ _)); exact BK326.out) hb); have n2_ := Aside0.mk (below_step (by repeat (first | (with_reducible first | exact HB.out | apply below_alloc | apply pw_below_drewN | apply below_drew1 | refine below_set ?_ GE326.out) | exact HB.out)) hb); clear HO_4; clear BK326; clear HB; have HO_4 := n0_; have BK326 := n1_; have HB := n2_; clear n0_ n1_ n2_; (try clear hb); (try clear hb2); (try clear hk); (try clear hi); have hcz32_0 : w31.cell? ⟨gb326, 0, none⟩ = some (.string ((rd_T49 t318 x9_3).f0)) := (blk_cell BK326.out 0).trans rfl; have hcz32_1 : w31.cell? ⟨gb326, 1, none⟩ = some (.int .i64 ((rd_T49 t318 x9_3).f1)) := (blk_cell BK326.out 1).trans rfl; have hcz32_2 : w31.cell? ⟨gb326, 2, none⟩ = some (.int .i64 ((rd_T49 t318 x9_3).f2)) := (blk_cell BK326.out 2).trans rfl; have hfz32_0 := blk_frozen BK326.out 0; have hfz32_1 := blk_frozen BK326.out 1; have hfz32_2 := blk_frozen BK326.out 2)))
                                go_ret
                                exact ⟨by first | rfl | (simp [errW_none, errW_some] <;> rfl) | (simp [*, errW_none, errW_some] <;> rfl), by repeat (first | (with_reducible first | exact HB.out | apply below_alloc | apply pw_below_drewN | apply below_drew1 | refine below_set ?_ GE326.out) | exact HB.out)⟩
                            · rw [if_neg c23] at H
                              have c23b0 : (t328 == ((rd_T49 t318 x9_3).f2)) = false := beq_eq_false_iff_ne.mpr c23
                              have c23b1 : (t328 != ((rd_T49 t318 x9_3).f2)) = true := bne_iff_ne.mpr c23
                              obtain rfl := Option.some.inj H
                              have p325 : 0 ≤ (x9_3 : Int) := of_decide_eq_true (by first | (with_reducible assumption) | assumption)
                              have q325 : x9_3 < (t318.length : Int) := of_decide_eq_true (by first | (with_reducible assumption) | assumption)
                              obtain ⟨ad325, e325, hx325_0, hx325_1, hx325_2⟩ := at_T49 (Kd.R_reads' HO_4.out).2.2 x9_3 p325 q325
                              cases e325
                              replace p325 := eq_true p325
                              replace q325 := eq_true q325
                              go_wp2_with (first | ((with_reducible refine gate_dst (N := 10) rfl ?_); (try (refine gate_guard (by rfl) ?_; dsimp only)); refine box_event ?hg (N := 10) ?hd (cs := #[.string (⟨#[]⟩ : ByteArray), .int .i64 0, .int .i64 0]) (t := 49) ?hr ?_; (case hd => rfl); (case hg => rfl); (case hr => first | (go_simp; done) | (go_simp; rfl)); intro gb326 hg w33 hbox hb; have n0_ := Aside0.mk (Kd.R_below (Kd.R_elderB (by (with_reducible repeat (first | apply Kd.R_alloc | apply Kd.R_drewN | apply Kd.R_drew)); exact HO_4.out) gb326 (Nat.le_of_eq hg.symm)) hb); have n1_ := Aside0.mk (below_step (by repeat (first | (with_reducible first | exact HB.out | apply below_alloc | apply pw_below_drewN | apply below_drew1) | exact HB.out)) hb); have n2_ := Aside0.mk (hbox); have n3_ := Aside0.mk ((by rw [hg]; exact (below_size (by repeat (first | (with_reducible first | exact HB.out | apply below_alloc | apply pw_below_drewN | apply below_drew1) | exact HB.out))) : w.heap.size ≤ gb326)); have n4_ := Aside0.mk ((by rw [hg]; exact (below_size (by repeat (first | (with_reducible first | exact HB.out | apply below_alloc | apply pw_below_drewN | apply below_drew1) | exact HB.out))) : w.heap.size ≤ gb326)); clear HO_4; clear HB; have HO_4 := n0_; have HB := n1_; have BK326 := n2_; have GW326 := n3_; have GE326 := n4_; clear n0_ n1_ n2_ n3_ n4_; clear hb hbox hg; have hcz34_0 : w33.cell? ⟨gb326, 0, none⟩ = some (.string (⟨#[]⟩ : ByteArray)) := (blk_cell BK326.out 0).trans rfl; have hcz34_1 : w33.cell? ⟨gb326, 1, none⟩ = some (.int .i64 0) := (blk_cell BK326.out 1).trans rfl; have hcz34_2 : w33.cell? ⟨gb326, 2, none⟩ = some (.int .i64 0) := (blk_cell BK326.out 2).trans rfl; have hfz34_0 := blk_frozen BK326.out 0; have hfz34_1 := blk_frozen BK326.out 1; have hfz34_2 := blk_frozen BK326.out 2) | (go_at_call 15; (with_reducible refine (lz_Best.calls k3 a0 x8_3 t327 t328 _ A21.out).mono ?_); rintro e w35 ⟨rfl, hb⟩; have n0_ := Aside0.mk (Kd.R_below (by (with_reducible repeat (first | apply Kd.R_alloc | apply Kd.R_drewN | apply Kd.R_drew)); exact (Kd.R_mono (Kd.R_far (p := ⟨gb326, 2, none⟩) (Kd.R_far (p := ⟨gb326, 1, none⟩) (Kd.R_far (p := ⟨gb326, 0, none⟩) (Kd.R_mono HO_4.out (fun k_ hk => (⟨hk, hk.2⟩ : _ ∧ k_ ≠ gb326))) (fun _ hk => hk.2) (.string ((rd_T49 t318 x9_3).f0))) (fun _ hk => hk.2) (.int .i64 ((rd_T49 t318 x9_3).f1))) (fun _ hk => hk.2) (.int .i64 ((rd_T49 t318 x9_3).f2))) (fun _ h_ => h_.1))) hb); have n1_ := Aside0.mk (blk_below (g := gb326) (o := .cells #[.string ((rd_T49 t318 x9_3).f0), .int .i64 ((rd_T49 t318 x9_3).f1), .int .i64 ((rd_T49 t318 x9_3).f2)] 49 (0, 0)) (by (with_reducible repeat (first | refine blk_drewN ?_ _ | refine blk_drew ?_ | refine blk_alloc ?_ _)); refine blk_put (cs := #[.string ((rd_T49 t318 x9_3).f0), .int .i64 ((rd_T49 t318 x9_3).f1), .int .i64 0]) ?_ 2 _ rfl; (with_reducible repeat (first | refine blk_drewN ?_ _ | refine blk_drew ?_ | refine blk_alloc ?_ _)); refine blk_put (cs := #[.string ((rd_T49 t318 x9_3).f0), .int .i64 0, .int .i64 0]) ?_ 1 _ rfl; (with_reducible repeat (first | refine blk_drewN ?_ _ | refine blk_drew ?_ | refine blk_alloc ?_ _)); refine blk_put (cs := #[.string (⟨#[]⟩ : ByteArray), .int .i64 0, .int .i64 0]) ?_ 0 _ rfl; (with_reducible repeat (first | refine blk_drewN ?_ _ | refine blk_drew ?_ | refine blk_alloc ?_ _)); exact BK326.out) hb); have n2_ := Aside0.mk (below_step (by repeat (first | (with_reducible first | exact HB.out | apply below_alloc | apply pw_below_drewN | apply below_drew1 | refine below_set ?_ GE326.out) | exact HB.out)) hb); clear HO_4; clear BK326; clear HB; have HO_4 := n0_; have BK326 := n1_; have HB := n2_; clear n0_ n1_ n2_; (try clear hb); (try clear hb2); (try clear hk); (try clear hi); have hcz36_0 : w35.cell? ⟨gb326, 0, none⟩ = some (.string ((rd_T49 t318 x9_3).f0)) := (blk_cell BK326.out 0).trans rfl; have hcz36_1 : w35.cell? ⟨gb326, 1, none⟩ = some (.int .i64 ((rd_T49 t318 x9_3).f1)) := (blk_cell BK326.out 1).trans rfl; have hcz36_2 : w35.cell? ⟨gb326, 2, none⟩ = some (.int .i64 ((rd_T49 t318 x9_3).f2)) := (blk_cell BK326.out 2).trans rfl; have hfz36_0 := blk_frozen BK326.out 0; have hfz36_1 := blk_frozen BK326.out 1; have hfz36_2 := blk_frozen BK326.out 2))
                              repeat (go_quiet (first | ((with_reducible refine gate_dst (N := 10) rfl ?_); (try (refine gate_guard (by rfl) ?_; dsimp only)); refine box_event ?hg (N := 10) ?hd (cs := #[.string (⟨#[]⟩ : ByteArray), .int .i64 0, .int .i64 0]) (t := 49) ?hr ?_; (case hd => rfl); (case hg => rfl); (case hr => first | (go_simp; done) | (go_simp; rfl)); intro gb326 hg w33 hbox hb; have n0_ := Aside0.mk (Kd.R_below (Kd.R_elderB (by (with_reducible repeat (first | apply Kd.R_alloc | apply Kd.R_drewN | apply Kd.R_drew)); exact HO_4.out) gb326 (Nat.le_of_eq hg.symm)) hb); have n1_ := Aside0.mk (below_step (by repeat (first | (with_reducible first | exact HB.out | apply below_alloc | apply pw_below_drewN | apply below_drew1) | exact HB.out)) hb); have n2_ := Aside0.mk (hbox); have n3_ := Aside0.mk ((by rw [hg]; exact (below_size (by repeat (first | (with_reducible first | exact HB.out | apply below_alloc | apply pw_below_drewN | apply below_drew1) | exact HB.out))) : w.heap.size ≤ gb326)); have n4_ := Aside0.mk ((by rw [hg]; exact (below_size (by repeat (first | (with_reducible first | exact HB.out | apply below_alloc | apply pw_below_drewN | apply below_drew1) | exact HB.out))) : w.heap.size ≤ gb326)); clear HO_4; clear HB; have HO_4 := n0_; have HB := n1_; have BK326 := n2_; have GW326 := n3_; have GE326 := n4_; clear n0_ n1_ n2_ n3_ n4_; clear hb hbox hg; have hcz34_0 : w33.cell? ⟨gb326, 0, none⟩ = some (.string (⟨#[]⟩ : ByteArray)) := (blk_cell BK326.out 0).trans rfl; have hcz34_1 : w33.cell? ⟨gb326, 1, none⟩ = some (.int .i64 0) := (blk_cell BK326.out 1).trans rfl; have hcz34_2 : w33.cell? ⟨gb326, 2, none⟩ = some (.int .i64 0) := (blk_cell BK326.out 2).trans rfl; have hfz34_0 := blk_frozen BK326.out 0; have hfz34_1 := blk_frozen BK326.out 1; have hfz34_2 := blk_frozen BK326.out 2) | (go_at_call 15; (with_reducible refine (lz_Best.calls k3 a0 x8_3 t327 t328 _ A21.out).mono ?_); rintro e w35 ⟨rfl, hb⟩; have n0_ := Aside0.mk (Kd.R_below (by (with_reducible repeat (first | apply Kd.R_alloc | apply Kd.R_drewN | apply Kd.R_drew)); exact (Kd.R_mono (Kd.R_far (p := ⟨gb326, 2, none⟩) (Kd.R_far (p := ⟨gb326, 1, none⟩) (Kd.R_far (p := ⟨gb326, 0, none⟩) (Kd.R_mono HO_4.out (fun k_ hk => (⟨hk, hk.2⟩ : _ ∧ k_ ≠ gb326))) (fun _ hk => hk.2) (.string ((rd_T49 t318 x9_3).f0))) (fun _ hk => hk.2) (.int .i64 ((rd_T49 t318 x9_3).f1))) (fun _ hk => hk.2) (.int .i64 ((rd_T49 t318 x9_3).f2))) (fun _ h_ => h_.1))) hb); have n1_ := Aside0.mk (blk_below (g := gb326) (o := .cells #[.string ((rd_T49 t318 x9_3).f0), .int .i64 ((rd_T49 t318 x9_3).f1), .int .i64 ((rd_T49 t318 x9_3).f2)] 49 (0, 0)) (by (with_reducible repeat (first | refine blk_drewN ?_ _ | refine blk_drew ?_ | refine blk_alloc ?_ _)); refine blk_put (cs := #[.string ((rd_T49 t318 x9_3).f0), .int .i64 ((rd_T49 t318 x9_3).f1), .int .i64 0]) ?_ 2 _ rfl; (with_reducible repeat (first | refine blk_drewN ?_ _ | refine blk_drew ?_ | refine blk_alloc ?_ _)); refine blk_put (cs := #[.string ((rd_T49 t318 x9_3).f0), .int .i64 0, .int .i64 0]) ?_ 1 _ rfl; (with_reducible repeat (first | refine blk_drewN ?_ _ | refine blk_drew ?_ | refine blk_alloc ?_ _)); refine blk_put (cs := #[.string (⟨#[]⟩ : ByteArray), .int .i64 0, .int .i64 0]) ?_ 0 _ rfl; (with_reducible repeat (first | refine blk_drewN ?_ _ | refine blk_drew ?_ | refine blk_alloc ?_ _)); exact BK326.out) hb); have n2_ := Aside0.mk (below_step (by repeat (first | (with_reducible first | exact HB.out | apply below_alloc | apply pw_below_drewN | apply below_drew1 | refine below_set ?_ GE326.out) | exact HB.out)) hb); clear HO_4; clear BK326; clear HB; have HO_4 := n0_; have BK326 := n1_; have HB := n2_; clear n0_ n1_ n2_; (try clear hb); (try clear hb2); (try clear hk); (try clear hi); have hcz36_0 : w35.cell? ⟨gb326, 0, none⟩ = some (.string ((rd_T49 t318 x9_3).f0)) := (blk_cell BK326.out 0).trans rfl; have hcz36_1 : w35.cell? ⟨gb326, 1, none⟩ = some (.int .i64 ((rd_T49 t318 x9_3).f1)) := (blk_cell BK326.out 1).trans rfl; have hcz36_2 : w35.cell? ⟨gb326, 2, none⟩ = some (.int .i64 ((rd_T49 t318 x9_3).f2)) := (blk_cell BK326.out 2).trans rfl; have hfz36_0 := blk_frozen BK326.out 0; have hfz36_1 := blk_frozen BK326.out 1; have hfz36_2 := blk_frozen BK326.out 2)); try go_wp2_with (first | ((with_reducible refine gate_dst (N := 10) rfl ?_); (try (refine gate_guard (by rfl) ?_; dsimp only)); refine box_event ?hg (N := 10) ?hd (cs := #[.string (⟨#[]⟩ : ByteArray), .int .i64 0, .int .i64 0]) (t := 49) ?hr ?_; (case hd => rfl); (case hg => rfl); (case hr => first | (go_simp; done) | (go_simp; rfl)); intro gb326 hg w33 hbox hb; have n0_ := Aside0.mk (Kd.R_below (Kd.R_elderB (by (with_reducible repeat (first | apply Kd.R_alloc | apply Kd.R_drewN | apply Kd.R_drew)); exact HO_4.out) gb326 (Nat.le_of_eq hg.symm)) hb); have n1_ := Aside0.mk (below_step (by repeat (first | (with_reducible first | exact HB.out | apply below_alloc | apply pw_below_drewN | apply below_drew1) | exact HB.out)) hb); have n2_ := Aside0.mk (hbox); have n3_ := Aside0.mk ((by rw [hg]; exact (below_size (by repeat (first | (with_reducible first | exact HB.out | apply below_alloc | apply pw_below_drewN | apply below_drew1) | exact HB.out))) : w.heap.size ≤ gb326)); have n4_ := Aside0.mk ((by rw [hg]; exact (below_size (by repeat (first | (with_reducible first | exact HB.out | apply below_alloc | apply pw_below_drewN | apply below_drew1) | exact HB.out))) : w.heap.size ≤ gb326)); clear HO_4; clear HB; have HO_4 := n0_; have HB := n1_; have BK326 := n2_; have GW326 := n3_; have GE326 := n4_; clear n0_ n1_ n2_ n3_ n4_; clear hb hbox hg; have hcz34_0 : w33.cell? ⟨gb326, 0, none⟩ = some (.string (⟨#[]⟩ : ByteArray)) := (blk_cell BK326.out 0).trans rfl; have hcz34_1 : w33.cell? ⟨gb326, 1, none⟩ = some (.int .i64 0) := (blk_cell BK326.out 1).trans rfl; have hcz34_2 : w33.cell? ⟨gb326, 2, none⟩ = some (.int .i64 0) := (blk_cell BK326.out 2).trans rfl; have hfz34_0 := blk_frozen BK326.out 0; have hfz34_1 := blk_frozen BK326.out 1; have hfz34_2 := blk_frozen BK326.out 2) | (go_at_call 15; (with_reducible refine (lz_Best.calls k3 a0 x8_3 t327 t328 _ A21.out).mono ?_); rintro e w35 ⟨rfl, hb⟩; have n0_ := Aside0.mk (Kd.R_below (by (with_reducible repeat (first | apply Kd.R_alloc | apply Kd.R_drewN | apply Kd.R_drew)); exact (Kd.R_mono (Kd.R_far (p := ⟨gb326, 2, none⟩) (Kd.R_far (p := ⟨gb326, 1, none⟩) (Kd.R_far (p := ⟨gb326, 0, none⟩) (Kd.R_mono HO_4.out (fun k_ hk => (⟨hk, hk.2⟩ : _ ∧ k_ ≠ gb326))) (fun _ hk => hk.2) (.string ((rd_T49 t318 x9_3).f0))) (fun _ hk => hk.2) (.int .i64 ((rd_T49 t318 x9_3).f1))) (fun _ hk => hk.2) (.int .i64 ((rd_T49 t318 x9_3).f2))) (fun _ h_ => h_.1))) hb); have n1_ := Aside0.mk (blk_below (g := gb326) (o := .cells #[.string ((rd_T49 t318 x9_3).f0), .int .i64 ((rd_T49 t318 x9_3).f1), .int .i64 ((rd_T49 t318 x9_3).f2)] 49 (0, 0)) (by (with_reducible repeat (first | refine blk_drewN ?_ _ | refine blk_drew ?_ | refine blk_alloc ?_ _)); refine blk_put (cs := #[.string ((rd_T49 t318 x9_3).f0), .int .i64 ((rd_T49 t318 x9_3).f1), .int .i64 0]) ?_ 2 _ rfl; (with_reducible repeat (first | refine blk_drewN ?_ _ | refine blk_drew ?_ | refine blk_alloc ?_ _)); refine blk_put (cs := #[.string ((rd_T49 t318 x9_3).f0), .int .i64 0, .int .i64 0]) ?_ 1 _ rfl; (with_reducible repeat (first | refine blk_drewN ?_ _ | refine blk_drew ?_ | refine blk_alloc ?_ _)); refine blk_put (cs := #[.string (⟨#[]⟩ : ByteArray), .int .i64 0, .int .i64 0]) ?_ 0 _ rfl; (with_reducible repeat (first | refine blk_drewN ?_ _ | refine blk_drew ?_ | refine blk_alloc ?_ _)); exact BK326.out) hb); have n2_ := Aside0.mk (below_step (by repeat (first | (with_reducible first | exact HB.out | apply below_alloc | apply pw_below_drewN | apply below_drew1 | refine below_set ?_ GE326.out) | exact HB.out)) hb); clear HO_4; clear BK326; clear HB; have HO_4 := n0_; have BK326 := n1_; have HB := n2_; clear n0_ n1_ n2_; (try clear hb); (try clear hb2); (try clear hk); (try clear hi); have hcz36_0 : w35.cell? ⟨gb326, 0, none⟩ = some (.string ((rd_T49 t318 x9_3).f0)) := (blk_cell BK326.out 0).trans rfl; have hcz36_1 : w35.cell? ⟨gb326, 1, none⟩ = some (.int .i64 ((rd_T49 t318 x9_3).f1)) := (blk_cell BK326.out 1).trans rfl; have hcz36_2 : w35.cell? ⟨gb326, 2, none⟩ = some (.int .i64 ((rd_T49 t318 x9_3).f2)) := (blk_cell BK326.out 2).trans rfl; have hfz36_0 := blk_frozen BK326.out 0; have hfz36_1 := blk_frozen BK326.out 1; have hfz36_2 := blk_frozen BK326.out 2)))
                              go_ret
                              exact ⟨by first | rfl | (simp [errW_none, errW_some] <;> rfl) | (simp [*, errW_none, errW_some] <;> rfl), by repeat (first | (with_reducible first | exact HB.out | apply below_alloc | apply pw_below_drewN | apply below_drew1 | refine below_set ?_ GE326.out) | exact HB.out)⟩
                          · rw [if_neg c22] at H
                            have c22b0 : (t327 == ((rd_T49 t318 x9_3).f1)) = false := beq_eq_false_iff_ne.mpr c22
                            have c22b1 : (t327 != ((rd_T49 t318 x9_3).f1)) = true := bne_iff_ne.mpr c22
                            obtain rfl := Option.some.inj H
                            have p325 : 0 ≤ (x9_3 : Int) := of_decide_eq_true (by first | (with_reducible assumption) | assumption)
                            have q325 : x9_3 < (t318.length : Int) := of_decide_eq_true (by first | (with_reducible assumption) | assumption)
                            obtain ⟨ad325, e325, hx325_0, hx325_1, hx325_2⟩ := at_T49 (Kd.R_reads' HO_4.out).2.2 x9_3 p325 q325
                            cases e325
                            replace p325 := eq_true p325
                            replace q325 := eq_true q325
                            go_wp2_with (first | ((with_reducible refine gate_dst (N := 10) rfl ?_); (try (refine gate_guard (by rfl) ?_; dsimp only)); refine box_event ?hg (N := 10) ?hd (cs := #[.string (⟨#[]⟩ : ByteArray), .int .i64 0, .int .i64 0]) (t := 49) ?hr ?_; (case hd => rfl); (case hg => rfl); (case hr => first | (go_simp; done) | (go_simp; rfl)); intro gb326 hg w37 hbox hb; have n0_ := Aside0.mk (Kd.R_below (Kd.R_elderB (by (with_reducible repeat (first | apply Kd.R_alloc | apply Kd.R_drewN | apply Kd.R_drew)); exact HO_4.out) gb326 (Nat.le_of_eq hg.symm)) hb); have n1_ := Aside0.mk (below_step (by repeat (first | (with_reducible first | exact HB.out | apply below_alloc | apply pw_below_drewN | apply below_drew1) | exact HB.out)) hb); have n2_ := Aside0.mk (hbox); have n3_ := Aside0.mk ((by rw [hg]; exact (below_size (by repeat (first | (with_reducible first | exact HB.out | apply below_alloc | apply pw_below_drewN | apply below_drew1) | exact HB.out))) : w.heap.size ≤ gb326)); have n4_ := Aside0.mk ((by rw [hg]; exact (below_size (by repeat (first | (with_reducible first | exact HB.out | apply below_alloc | apply pw_below_drewN | apply below_drew1) | exact HB.out))) : w.heap.size ≤ gb326)); clear HO_4; clear HB; have HO_4 := n0_; have HB := n1_; have BK326 := n2_; have GW326 := n3_; have GE326 := n4_; clear n0_ n1_ n2_ n3_ n4_; clear hb hbox hg; have hcz38_0 : w37.cell? ⟨gb326, 0, none⟩ = some (.string (⟨#[]⟩ : ByteArray)) := (blk_cell BK326.out 0).trans rfl; have hcz38_1 : w37.cell? ⟨gb326, 1, none⟩ = some (.int .i64 0) := (blk_cell BK326.out 1).trans rfl; have hcz38_2 : w37.cell? ⟨gb326, 2, none⟩ = some (.int .i64 0) := (blk_cell BK326.out 2).trans rfl; have hfz38_0 := blk_frozen BK326.out 0; have hfz38_1 := blk_frozen BK326.out 1; have hfz38_2 := blk_frozen BK326.out 2) | (go_at_call 15; (with_reducible refine (lz_Best.calls k3 a0 x8_3 t327 t328 _ A21.out).mono ?_); rintro e w39 ⟨rfl, hb⟩; have n0_ := Aside0.mk (Kd.R_below (by (with_reducible repeat (first | apply Kd.R_alloc | apply Kd.R_drewN | apply Kd.R_drew)); exact (Kd.R_mono (Kd.R_far (p := ⟨gb326, 2, none⟩) (Kd.R_far (p := ⟨gb326, 1, none⟩) (Kd.R_far (p := ⟨gb326, 0, none⟩) (Kd.R_mono HO_4.out (fun k_ hk => (⟨hk, hk.2⟩ : _ ∧ k_ ≠ gb326))) (fun _ hk => hk.2) (.string ((rd_T49 t318 x9_3).f0))) (fun _ hk => hk.2) (.int .i64 ((rd_T49 t318 x9_3).f1))) (fun _ hk => hk.2) (.int .i64 ((rd_T49 t318 x9_3).f2))) (fun _ h_ => h_.1))) hb); have n1_ := Aside0.mk (blk_below (g := gb326) (o := .cells #[.string ((rd_T49 t318 x9_3).f0), .int .i64 ((rd_T49 t318 x9_3).f1), .int .i64 ((rd_T49 t318 x9_3).f2)] 49 (0, 0)) (by (with_reducible repeat (first | refine blk_drewN ?_ _ | refine blk_drew ?_ | refine blk_alloc ?_ _)); refine blk_put (cs := #[.string ((rd_T49 t318 x9_3).f0), .int .i64 ((rd_T49 t318 x9_3).f1), .int .i64 0]) ?_ 2 _ rfl; (with_reducible repeat (first | refine blk_drewN ?_ _ | refine blk_drew ?_ | refine blk_alloc ?_ _)); refine blk_put (cs := #[.string ((rd_T49 t318 x9_3).f0), .int .i64 0, .int .i64 0]) ?_ 1 _ rfl; (with_reducible repeat (first | refine blk_drewN ?_ _ | refine blk_drew ?_ | refine blk_alloc ?_ _)); refine blk_put (cs := #[.string (⟨#[]⟩ : ByteArray), .int .i64 0, .int .i64 0]) ?_ 0 _ rfl; (with_reducible repeat (first | refine blk_drewN ?_ _ | refine blk_drew ?_ | refine blk_alloc ?_ _)); exact BK326.out) hb); have n2_ := Aside0.mk (below_step (by repeat (first | (with_reducible first | exact HB.out | apply below_alloc | apply pw_below_drewN | apply below_drew1 | refine below_set ?_ GE326.out) | exact HB.out)) hb); clear HO_4; clear BK326; clear HB; have HO_4 := n0_; have BK326 := n1_; have HB := n2_; clear n0_ n1_ n2_; (try clear hb); (try clear hb2); (try clear hk); (try clear hi); have hcz40_0 : w39.cell? ⟨gb326, 0, none⟩ = some (.string ((rd_T49 t318 x9_3).f0)) := (blk_cell BK326.out 0).trans rfl; have hcz40_1 : w39.cell? ⟨gb326, 1, none⟩ = some (.int .i64 ((rd_T49 t318 x9_3).f1)) := (blk_cell BK326.out 1).trans rfl; have hcz40_2 : w39.cell? ⟨gb326, 2, none⟩ = some (.int .i64 ((rd_T49 t318 x9_3).f2)) := (blk_cell BK326.out 2).trans rfl; have hfz40_0 := blk_frozen BK326.out 0; have hfz40_1 := blk_frozen BK326.out 1; have hfz40_2 := blk_frozen BK326.out 2))
                            repeat (go_quiet (first | ((with_reducible refine gate_dst (N := 10) rfl ?_); (try (refine gate_guard (by rfl) ?_; dsimp only)); refine box_event ?hg (N := 10) ?hd (cs := #[.string (⟨#[]⟩ : ByteArray), .int .i64 0, .int .i64 0]) (t := 49) ?hr ?_; (case hd => rfl); (case hg => rfl); (case hr => first | (go_simp; done) | (go_simp; rfl)); intro gb326 hg w37 hbox hb; have n0_ := Aside0.mk (Kd.R_below (Kd.R_elderB (by (with_reducible repeat (first | apply Kd.R_alloc | apply Kd.R_drewN | apply Kd.R_drew)); exact HO_4.out) gb326 (Nat.le_of_eq hg.symm)) hb); have n1_ := Aside0.mk (below_step (by repeat (first | (with_reducible first | exact HB.out | apply below_alloc | apply pw_below_drewN | apply below_drew1) | exact HB.out)) hb); have n2_ := Aside0.mk (hbox); have n3_ := Aside0.mk ((by rw [hg]; exact (below_size (by repeat (first | (with_reducible first | exact HB.out | apply below_alloc | apply pw_below_drewN | apply below_drew1) | exact HB.out))) : w.heap.size ≤ gb326)); have n4_ := Aside0.mk ((by rw [hg]; exact (below_size (by repeat (first | (with_reducible first | exact HB.out | apply below_alloc | apply pw_below_drewN | apply below_drew1) | exact HB.out))) : w.heap.size ≤ gb326)); clear HO_4; clear HB; have HO_4 := n0_; have HB := n1_; have BK326 := n2_; have GW326 := n3_; have GE326 := n4_; clear n0_ n1_ n2_ n3_ n4_; clear hb hbox hg; have hcz38_0 : w37.cell? ⟨gb326, 0, none⟩ = some (.string (⟨#[]⟩ : ByteArray)) := (blk_cell BK326.out 0).trans rfl; have hcz38_1 : w37.cell? ⟨gb326, 1, none⟩ = some (.int .i64 0) := (blk_cell BK326.out 1).trans rfl; have hcz38_2 : w37.cell? ⟨gb326, 2, none⟩ = some (.int .i64 0) := (blk_cell BK326.out 2).trans rfl; have hfz38_0 := blk_frozen BK326.out 0; have hfz38_1 := blk_frozen BK326.out 1; have hfz38_2 := blk_frozen BK326.out 2) | (go_at_call 15; (with_reducible refine (lz_Best.calls k3 a0 x8_3 t327 t328 _ A21.out).mono ?_); rintro e w39 ⟨rfl, hb⟩; have n0_ := Aside0.mk (Kd.R_below (by (with_reducible repeat (first | apply Kd.R_alloc | apply Kd.R_drewN | apply Kd.R_drew)); exact (Kd.R_mono (Kd.R_far (p := ⟨gb326, 2, none⟩) (Kd.R_far (p := ⟨gb326, 1, none⟩) (Kd.R_far (p := ⟨gb326, 0, none⟩) (Kd.R_mono HO_4.out (fun k_ hk => (⟨hk, hk.2⟩ : _ ∧ k_ ≠ gb326))) (fun _ hk => hk.2) (.string ((rd_T49 t318 x9_3).f0))) (fun _ hk => hk.2) (.int .i64 ((rd_T49 t318 x9_3).f1))) (fun _ hk => hk.2) (.int .i64 ((rd_T49 t318 x9_3).f2))) (fun _ h_ => h_.1))) hb); have n1_ := Aside0.mk (blk_below (g := gb326) (o := .cells #[.string ((rd_T49 t318 x9_3).f0), .int .i64 ((rd_T49 t318 x9_3).f1), .int .i64 ((rd_T49 t318 x9_3).f2)] 49 (0, 0)) (by (with_reducible repeat (first | refine blk_drewN ?_ _ | refine blk_drew ?_ | refine blk_alloc ?_ _)); refine blk_put (cs := #[.string ((rd_T49 t318 x9_3).f0), .int .i64 ((rd_T49 t318 x9_3).f1), .int .i64 0]) ?_ 2 _ rfl; (with_reducible repeat (first | refine blk_drewN ?_ _ | refine blk_drew ?_ | refine blk_alloc ?_ _)); refine blk_put (cs := #[.string ((rd_T49 t318 x9_3).f0), .int .i64 0, .int .i64 0]) ?_ 1 _ rfl; (with_reducible repeat (first | refine blk_drewN ?_ _ | refine blk_drew ?_ | refine blk_alloc ?_ _)); refine blk_put (cs := #[.string (⟨#[]⟩ : ByteArray), .int .i64 0, .int .i64 0]) ?_ 0 _ rfl; (with_reducible repeat (first | refine blk_drewN ?_ _ | refine blk_drew ?_ | refine blk_alloc ?_ _)); exact BK326.out) hb); have n2_ := Aside0.mk (below_step (by repeat (first | (with_reducible first | exact HB.out | apply below_alloc | apply pw_below_drewN | apply below_drew1 | refine below_set ?_ GE326.out) | exact HB.out)) hb); clear HO_4; clear BK326; clear HB; have HO_4 := n0_; have BK326 := n1_; have HB := n2_; clear n0_ n1_ n2_; (try clear hb); (try clear hb2); (try clear hk); (try clear hi); have hcz40_0 : w39.cell? ⟨gb326, 0, none⟩ = some (.string ((rd_T49 t318 x9_3).f0)) := (blk_cell BK326.out 0).trans rfl; have hcz40_1 : w39.cell? ⟨gb326, 1, none⟩ = some (.int .i64 ((rd_T49 t318 x9_3).f1)) := (blk_cell BK326.out 1).trans rfl; have hcz40_2 : w39.cell? ⟨gb326, 2, none⟩ = some (.int .i64 ((rd_T49 t318 x9_3).f2)) := (blk_cell BK326.out 2).trans rfl; have hfz40_0 := blk_frozen BK326.out 0; have hfz40_1 := blk_frozen BK326.out 1; have hfz40_2 := blk_frozen BK326.out 2)); try go_wp2_with (first | ((with_reducible refine gate_dst (N := 10) rfl ?_); (try (refine gate_guard (by rfl) ?_; dsimp only)); refine box_event ?hg (N := 10) ?hd (cs := #[.string (⟨#[]⟩ : ByteArray), .int .i64 0, .int .i64 0]) (t := 49) ?hr ?_; (case hd => rfl); (case hg => rfl); (case hr => first | (go_simp; done) | (go_simp; rfl)); intro gb326 hg w37 hbox hb; have n0_ := Aside0.mk (Kd.R_below (Kd.R_elderB (by (with_reducible repeat (first | apply Kd.R_alloc | apply Kd.R_drewN | apply Kd.R_drew)); exact HO_4.out) gb326 (Nat.le_of_eq hg.symm)) hb); have n1_ := Aside0.mk (below_step (by repeat (first | (with_reducible first | exact HB.out | apply below_alloc | apply pw_below_drewN | apply below_drew1) | exact HB.out)) hb); have n2_ := Aside0.mk (hbox); have n3_ := Aside0.mk ((by rw [hg]; exact (below_size (by repeat (first | (with_reducible first | exact HB.out | apply below_alloc | apply pw_below_drewN | apply below_drew1) | exact HB.out))) : w.heap.size ≤ gb326)); have n4_ := Aside0.mk ((by rw [hg]; exact (below_size (by repeat (first | (with_reducible first | exact HB.out | apply below_alloc | apply pw_below_drewN | apply below_drew1) | exact HB.out))) : w.heap.size ≤ gb326)); clear HO_4; clear HB; have HO_4 := n0_; have HB := n1_; have BK326 := n2_; have GW326 := n3_; have GE326 := n4_; clear n0_ n1_ n2_ n3_ n4_; clear hb hbox hg; have hcz38_0 : w37.cell? ⟨gb326, 0, none⟩ = some (.string (⟨#[]⟩ : ByteArray)) := (blk_cell BK326.out 0).trans rfl; have hcz38_1 : w37.cell? ⟨gb326, 1, none⟩ = some (.int .i64 0) := (blk_cell BK326.out 1).trans rfl; have hcz38_2 : w37.cell? ⟨gb326, 2, none⟩ = some (.int .i64 0) := (blk_cell BK326.out 2).trans rfl; have hfz38_0 := blk_frozen BK326.out 0; have hfz38_1 := blk_frozen BK326.out 1; have hfz38_2 := blk_frozen BK326.out 2) | (go_at_call 15; (with_reducible refine (lz_Best.calls k3 a0 x8_3 t327 t328 _ A21.out).mono ?_); rintro e w39 ⟨rfl, hb⟩; have n0_ := Aside0.mk (Kd.R_below (by (with_reducible repeat (first | apply Kd.R_alloc | apply Kd.R_drewN | apply Kd.R_drew)); exact (Kd.R_mono (Kd.R_far (p := ⟨gb326, 2, none⟩) (Kd.R_far (p := ⟨gb326, 1, none⟩) (Kd.R_far (p := ⟨gb326, 0, none⟩) (Kd.R_mono HO_4.out (fun k_ hk => (⟨hk, hk.2⟩ : _ ∧ k_ ≠ gb326))) (fun _ hk => hk.2) (.string ((rd_T49 t318 x9_3).f0))) (fun _ hk => hk.2) (.int .i64 ((rd_T49 t318 x9_3).f1))) (fun _ hk => hk.2) (.int .i64 ((rd_T49 t318 x9_3).f2))) (fun _ h_ => h_.1))) hb); have n1_ := Aside0.mk (blk_below (g := gb326) (o := .cells #[.string ((rd_T49 t318 x9_3).f0), .int .i64 ((rd_T49 t318 x9_3).f1), .int .i64 ((rd_T49 t318 x9_3).f2)] 49 (0, 0)) (by (with_reducible repeat (first | refine blk_drewN ?_ _ | refine blk_drew ?_ | refine blk_alloc ?_ _)); refine blk_put (cs := #[.string ((rd_T49 t318 x9_3).f0), .int .i64 ((rd_T49 t318 x9_3).f1), .int .i64 0]) ?_ 2 _ rfl; (with_reducible repeat (first | refine blk_drewN ?_ _ | refine blk_drew ?_ | refine blk_alloc ?_ _)); refine blk_put (cs := #[.string ((rd_T49 t318 x9_3).f0), .int .i64 0, .int .i64 0]) ?_ 1 _ rfl; (with_reducible repeat (first | refine blk_drewN ?_ _ | refine blk_drew ?_ | refine blk_alloc ?_ _)); refine blk_put (cs := #[.string (⟨#[]⟩ : ByteArray), .int .i64 0, .int .i64 0]) ?_ 0 _ rfl; (with_reducible repeat (first | refine blk_drewN ?_ _ | refine blk_drew ?_ | refine blk_alloc ?_ _)); exact BK326.out) hb); have n2_ := Aside0.mk (below_step (by repeat (first | (with_reducible first | exact HB.out | apply below_alloc | apply pw_below_drewN | apply below_drew1 | refine below_set ?_ GE326.out) | exact HB.out)) hb); clear HO_4; clear BK326; clear HB; have HO_4 := n0_; have BK326 := n1_; have HB := n2_; clear n0_ n1_ n2_; (try clear hb); (try clear hb2); (try clear hk); (try clear hi); have hcz40_0 : w39.cell? ⟨gb326, 0, none⟩ = some (.string ((rd_T49 t318 x9_3).f0)) := (blk_cell BK326.out 0).trans rfl; have hcz40_1 : w39.cell? ⟨gb326, 1, none⟩ = some (.int .i64 ((rd_T49 t318 x9_3).f1)) := (blk_cell BK326.out 1).trans rfl; have hcz40_2 : w39.cell? ⟨gb326, 2, none⟩ = some (.int .i64 ((rd_T49 t318 x9_3).f2)) := (blk_cell BK326.out 2).trans rfl; have hfz40_0 := blk_frozen BK326.out 0; have hfz40_1 := blk_frozen BK326.out 1; have hfz40_2 := blk_frozen BK326.out 2)))
                            go_ret
                            exact ⟨by first | rfl | (simp [errW_none, errW_some] <;> rfl) | (simp [*, errW_none, errW_some] <;> rfl), by repeat (first | (with_reducible first | exact HB.out | apply below_alloc | apply pw_below_drewN | apply below_drew1 | refine below_set ?_ GE326.out) | exact HB.out)⟩
                        · rw [if_neg c20] at H
                          have c20b0 : decide (0 < ((rd_T49 t318 x9_3).f1)) = false := decide_eq_false c20
                          clear c20
                          have HC41 := Aside0.mk H
                          clear H
                          have p325 : 0 ≤ (x9_3 : Int) := of_decide_eq_true (by first | (with_reducible assumption) | assumption)
                          have q325 : x9_3 < (t318.length : Int) := of_decide_eq_true (by first | (with_reducible assumption) | assumption)
                          obtain ⟨ad325, e325, hx325_0, hx325_1, hx325_2⟩ := at_T49 (Kd.R_reads' HO_4.out).2.2 x9_3 p325 q325
                          cases e325
                          replace p325 := eq_true p325
                          replace q325 := eq_true q325
                          go_upto_region 20 with (first | ((with_reducible refine gate_dst (N := 10) rfl ?_); (try (refine gate_guard (by rfl) ?_; dsimp only)); refine box_event ?hg (N := 10) ?hd (cs := #[.string (⟨#[]⟩ : ByteArray), .int .i64 0, .int .i64 0]) (t := 49) ?hr ?_; (case hd => rfl); (case hg => rfl); (case hr => first | (go_simp; done) | (go_simp; rfl)); intro gb326 hg w42 hbox hb; have n0_ := Aside0.mk (Kd.R_below (Kd.R_elderB (by (with_reducible repeat (first | apply Kd.R_alloc | apply Kd.R_drewN | apply Kd.R_drew)); exact HO_4.out) gb326 (Nat.le_of_eq hg.symm)) hb); have n1_ := Aside0.mk (below_step (by repeat (first | (with_reducible first | exact HB.out | apply below_alloc | apply pw_below_drewN | apply below_drew1) | exact HB.out)) hb); have n2_ := Aside0.mk (hbox); have n3_ := Aside0.mk ((by rw [hg]; exact (below_size (by repeat (first | (with_reducible first | exact HB.out | apply below_alloc | apply pw_below_drewN | apply below_drew1) | exact HB.out))) : w.heap.size ≤ gb326)); have n4_ := Aside0.mk ((by rw [hg]; exact (below_size (by repeat (first | (with_reducible first | exact HB.out | apply below_alloc | apply pw_below_drewN | apply below_drew1) | exact HB.out))) : w.heap.size ≤ gb326)); clear HO_4; clear HB; have HO_4 := n0_; have HB := n1_; have BK326 := n2_; have GW326 := n3_; have GE326 := n4_; clear n0_ n1_ n2_ n3_ n4_; clear hb hbox hg; have hcz43_0 : w42.cell? ⟨gb326, 0, none⟩ = some (.string (⟨#[]⟩ : ByteArray)) := (blk_cell BK326.out 0).trans rfl; have hcz43_1 : w42.cell? ⟨gb326, 1, none⟩ = some (.int .i64 0) := (blk_cell BK326.out 1).trans rfl; have hcz43_2 : w42.cell? ⟨gb326, 2, none⟩ = some (.int .i64 0) := (blk_cell BK326.out 2).trans rfl; have hfz43_0 := blk_frozen BK326.out 0; have hfz43_1 := blk_frozen BK326.out 1; have hfz43_2 := blk_frozen BK326.out 2))
                          repeat (go_quiet (first | ((with_reducible refine gate_dst (N := 10) rfl ?_); (try (refine gate_guard (by rfl) ?_; dsimp only)); refine box_event ?hg (N := 10) ?hd (cs := #[.string (⟨#[]⟩ : ByteArray), .int .i64 0, .int .i64 0]) (t := 49) ?hr ?_; (case hd => rfl); (case hg => rfl); (case hr => first | (go_simp; done) | (go_simp; rfl)); intro gb326 hg w42 hbox hb; have n0_ := Aside0.mk (Kd.R_below (Kd.R_elderB (by (with_reducible repeat (first | apply Kd.R_alloc | apply Kd.R_drewN | apply Kd.R_drew)); exact HO_4.out) gb326 (Nat.le_of_eq hg.symm)) hb); have n1_ := Aside0.mk (below_step (by repeat (first | (with_reducible first | exact HB.out | apply below_alloc | apply pw_below_drewN | apply below_drew1) | exact HB.out)) hb); have n2_ := Aside0.mk (hbox); have n3_ := Aside0.mk ((by rw [hg]; exact (below_size (by repeat (first | (with_reducible first | exact HB.out | apply below_alloc | apply pw_below_drewN | apply below_drew1) | exact HB.out))) : w.heap.size ≤ gb326)); have n4_ := Aside0.mk ((by rw [hg]; exact (below_size (by repeat (first | (with_reducible first | exact HB.out | apply below_alloc | apply pw_below_drewN | apply below_drew1) | exact HB.out))) : w.heap.size ≤ gb326)); clear HO_4; clear HB; have HO_4 := n0_; have HB := n1_; have BK326 := n2_; have GW326 := n3_; have GE326 := n4_; clear n0_ n1_ n2_ n3_ n4_; clear hb hbox hg; have hcz43_0 : w42.cell? ⟨gb326, 0, none⟩ = some (.string (⟨#[]⟩ : ByteArray)) := (blk_cell BK326.out 0).trans rfl; have hcz43_1 : w42.cell? ⟨gb326, 1, none⟩ = some (.int .i64 0) := (blk_cell BK326.out 1).trans rfl; have hcz43_2 : w42.cell? ⟨gb326, 2, none⟩ = some (.int .i64 0) := (blk_cell BK326.out 2).trans rfl; have hfz43_0 := blk_frozen BK326.out 0; have hfz43_1 := blk_frozen BK326.out 1; have hfz43_2 := blk_frozen BK326.out 2)); go_upto_region 20 with (first | ((with_reducible refine gate_dst (N := 10) rfl ?_); (try (refine gate_guard (by rfl) ?_; dsimp only)); refine box_event ?hg (N := 10) ?hd (cs := #[.string (⟨#[]⟩ : ByteArray), .int .i64 0, .int .i64 0]) (t := 49) ?hr ?_; (case hd => rfl); (case hg => rfl); (case hr => first | (go_simp; done) | (go_simp; rfl)); intro gb326 hg w42 hbox hb; have n0_ := Aside0.mk (Kd.R_below (Kd.R_elderB (by (with_reducible repeat (first | apply Kd.R_alloc | apply Kd.R_drewN | apply Kd.R_drew)); exact HO_4.out) gb326 (Nat.le_of_eq hg.symm)) hb); have n1_ := Aside0.mk (below_step (by repeat (first | (with_reducible first | exact HB.out | apply below_alloc | apply pw_below_drewN | apply below_drew1) | exact HB.out)) hb); have n2_ := Aside0.mk (hbox); have n3_ := Aside0.mk ((by rw [hg]; exact (below_size (by repeat (first | (with_reducible first | exact HB.out | apply below_alloc | apply pw_below_drewN | apply below_drew1) | exact HB.out))) : w.heap.size ≤ gb326)); have n4_ := Aside0.mk ((by rw [hg]; exact (below_size (by repeat (first | (with_reducible first | exact HB.out | apply below_alloc | apply pw_below_drewN | apply below_drew1) | exact HB.out))) : w.heap.size ≤ gb326)); clear HO_4; clear HB; have HO_4 := n0_; have HB := n1_; have BK326 := n2_; have GW326 := n3_; have GE326 := n4_; clear n0_ n1_ n2_ n3_ n4_; clear hb hbox hg; have hcz43_0 : w42.cell? ⟨gb326, 0, none⟩ = some (.string (⟨#[]⟩ : ByteArray)) := (blk_cell BK326.out 0).trans rfl; have hcz43_1 : w42.cell? ⟨gb326, 1, none⟩ = some (.int .i64 0) := (blk_cell BK326.out 1).trans rfl; have hcz43_2 : w42.cell? ⟨gb326, 2, none⟩ = some (.int .i64 0) := (blk_cell BK326.out 2).trans rfl; have hfz43_0 := blk_frozen BK326.out 0; have hfz43_1 := blk_frozen BK326.out 1; have hfz43_2 := blk_frozen BK326.out 2)))
                          (try simp only [Act.put, List.setIfInBounds_toArray, List.set_cons_zero, List.set_cons_succ])
                          go_cut [125] (fun v125 wc => ∃ (kq : Nat) (x125_40 : Bool), v125 = .bool x125_40 ∧ Aside0 (gantrylaw04_LzTells.j3 kq a0 t318 x8_3 x9_3 x125_40 ((rd_T49 t318 x9_3).f0) ((rd_T49 t318 x9_3).f1) ((rd_T49 t318 x9_3).f2) = some r) ∧ Aside0 (kq ≤ k3) ∧ Aside0 (Kd.R k49 49 wc w.heap.size (fun k_ => k_ ≠ gb326) (.slice (some ad325) t318.length co14) t318) ∧ Aside0 (wc.heap[gb326]? = some (.cells #[.string ((rd_T49 t318 x9_3).f0), .int .i64 ((rd_T49 t318 x9_3).f1), .int .i64 ((rd_T49 t318 x9_3).f2)] 49 (0, 0))) ∧ Aside0 (Below w.heap.size w wc))
                          case first =>
                            have H := HC41.out
                            clear HC41
                            by_cases c44 : (((rd_T49 t318 x9_3).f0).size : Int) > (wrap64 ((a0.size : Int) - x8_3))
                            · rw [if_pos c44] at H
                              have c44b0 : decide ((wrap64 ((a0.size : Int) - x8_3)) < (((rd_T49 t318 x9_3).f0).size : Int)) = true := decide_eq_true c44
                              clear c44
                              (first | rw [c44b0] | (simp only [i64_w, i32_w]; rw [c44b0]) | skip)
                              have H' := Aside0.mk H
                              clear H
                              have hcz45_0 : w42.cell? ⟨gb326, 0, none⟩ = some (.string (⟨#[]⟩ : ByteArray)) := (blk_cell BK326.out 0).trans rfl
                              have hcz45_1 : w42.cell? ⟨gb326, 1, none⟩ = some (.int .i64 0) := (blk_cell BK326.out 1).trans rfl
                              have hcz45_2 : w42.cell? ⟨gb326, 2, none⟩ = some (.int .i64 0) := (blk_cell BK326.out 2).trans rfl
                              have hfz45_0 := blk_frozen BK326.out 0
                              have hfz45_1 := blk_frozen BK326.out 1
                              have hfz45_2 := blk_frozen BK326.out 2
                              go_wp2
                              repeat (go_quiet (fail); try go_wp2)
                              go_meet
                              case rel => exact ⟨_, (true), (by first | rfl | (simp; done) | (simp [*]; done)), H', ⟨by have := HJ5.out; have := HJ12.out; have := HK3.out; first | omega | exact Nat.le_refl _⟩, ⟨by (with_reducible repeat (first | apply Kd.R_alloc | apply Kd.R_drewN | apply Kd.R_drew)); exact Kd.R_mono (Kd.R_far (p := ⟨gb326, 2, none⟩) (Kd.R_far (p := ⟨gb326, 1, none⟩) (Kd.R_far (p := ⟨gb326, 0, none⟩) (Kd.R_mono HO_4.out (fun k_ hk => (⟨hk, hk.2⟩ : _ ∧ k_ ≠ gb326))) (fun _ hk => hk.2) (.string ((rd_T49 t318 x9_3).f0))) (fun _ hk => hk.2) (.int .i64 ((rd_T49 t318 x9_3).f1))) (fun _ hk => hk.2) (.int .i64 ((rd_T49 t318 x9_3).f2))) (fun _ hk => hk.1.2)⟩, ⟨by (with_reducible repeat (first | refine blk_drewN ?_ _ | refine blk_drew ?_ | refine blk_alloc ?_ _)); refine blk_put (cs := #[.string ((rd_T49 t318 x9_3).f0), .int .i64 ((rd_T49 t318 x9_3).f1), .int .i64 0]) ?_ 2 _ rfl; (with_reducible repeat (first | refine blk_drewN ?_ _ | refine blk_drew ?_ | refine blk_alloc ?_ _)); refine blk_put (cs := #[.string ((rd_T49 t318 x9_3).f0), .int .i64 0, .int .i64 0]) ?_ 1 _ rfl; (with_reducible repeat (first | refine blk_drewN ?_ _ | refine blk_drew ?_ | refine blk_alloc ?_ _)); refine blk_put (cs := #[.string (⟨#[]⟩ : ByteArray), .int .i64 0, .int .i64 0]) ?_ 0 _ rfl; (with_reducible repeat (first | refine blk_drewN ?_ _ | refine blk_drew ?_ | refine blk_alloc ?_ _)); exact BK326.out⟩, ⟨by repeat (first | (with_reducible first | exact HB.out | apply below_alloc | apply pw_below_drewN | apply below_drew1 | refine below_set ?_ GE326.out) | exact HB.out)⟩⟩
                            · rw [if_neg c44] at H
                              have c44b0 : decide ((wrap64 ((a0.size : Int) - x8_3)) < (((rd_T49 t318 x9_3).f0).size : Int)) = false := decide_eq_false c44
                              clear c44
                              (first | rw [c44b0] | (simp only [i64_w, i32_w]; rw [c44b0]) | skip)
                              by_cases c46 : 0 ≤ x8_3
                              · rw [if_pos c46] at H
                                have c46b0 := eq_true c46
                                have c46b1 : decide (0 ≤ x8_3) = true := decide_eq_true c46
                                clear c46
                                by_cases c47 : x8_3 ≤ (wrap64 (x8_3 + (((rd_T49 t318 x9_3).f0).size : Int)))
                                · rw [if_pos c47] at H
                                  have c47b0 := eq_true c47
                                  have c47b1 : decide (x8_3 ≤ (wrap64 (x8_3 + (((rd_T49 t318 x9_3).f0).size : Int)))) = true := decide_eq_true c47
                                  by_cases c48 : (wrap64 (x8_3 + (((rd_T49 t318 x9_3).f0).size : Int))) ≤ (a0.size : Int)
                                  · rw [if_pos c48] at H
                                    have c48b0 := eq_true c48
                                    have c48b1 : decide ((wrap64 (x8_3 + (((rd_T49 t318 x9_3).f0).size : Int))) ≤ (a0.size : Int)) = true := decide_eq_true c48
                                    by_cases c49 : (a0.extract (x8_3 : Int).toNat ((wrap64 (x8_3 + (((rd_T49 t318 x9_3).f0).size : Int))) : Int).toNat).toList = ((rd_T49 t318 x9_3).f0).toList
                                    · rw [if_pos c49] at H
                                      have c49b0 : ((a0.extract (x8_3 : Int).toNat ((wrap64 (x8_3 + (((rd_T49 t318 x9_3).f0).size : Int))) : Int).toNat).toList == ((rd_T49 t318 x9_3).f0).toList) = true := beq_iff_eq.mpr c49
                                      have c49b1 : ((a0.extract (x8_3 : Int).toNat ((wrap64 (x8_3 + (((rd_T49 t318 x9_3).f0).size : Int))) : Int).toNat).toList != ((rd_T49 t318 x9_3).f0).toList) = false := bne_eq_false_iff_eq.mpr c49
                                      clear c49
                                      by_cases c50 : (((rd_T49 t318 x9_3).f0).size : Int) < 128
                                      · rw [if_pos c50] at H
                                        have c50b0 : decide ((((rd_T49 t318 x9_3).f0).size : Int) < 128) = true := decide_eq_true c50
                                        have c50b1 : decide (((rd_T49 t318 x9_3).f0).size < 128) = true := decide_eq_true (by omega)
                                        clear c50
                                        by_cases c51 : (wrap64 (x9_3 + 1)) < (t318.length : Int)
                                        · rw [if_pos c51] at H
                                          have c51b0 : decide ((wrap64 (x9_3 + 1)) < (t318.length : Int)) = true := decide_eq_true c51
                                          clear c51
                                          obtain ⟨ji52, hji52⟩ : ∃ j_ : Int, (wrap64 (x9_3 + 1)) = j_ := ⟨_, rfl⟩
                                          replace H : (if 0 ≤ (ji52) then (gantrylaw04_LzTells.j3 k3 a0 t318 x8_3 x9_3 (((rd_T49 t318 (ji52)).f1) == 0) ((rd_T49 t318 x9_3).f0) ((rd_T49 t318 x9_3).f1) ((rd_T49 t318 x9_3).f2)) else (none)) = some r := by first | (rw [hji52] at H; exact H) | (simp only [hji52] at H ⊢; exact H)
                                          (try rw [hji52] at c51b0)
                                          have hji52w : (IntKind.i64.wrap (x9_3 + 1)) = ji52 := (i64_w _).trans hji52
                                          by_cases c53 : 0 ≤ (ji52)
                                          · rw [if_pos c53] at H
                                            have c53b0 : decide (0 ≤ (ji52)) = true := decide_eq_true c53
                                            clear c53
                                            have H' := Aside0.mk H
                                            clear H
                                            have hcz54_0 : w42.cell? ⟨gb326, 0, none⟩ = some (.string (⟨#[]⟩ : ByteArray)) := (blk_cell BK326.out 0).trans rfl
                                            have hcz54_1 : w42.cell? ⟨gb326, 1, none⟩ = some (.int .i64 0) := (blk_cell BK326.out 1).trans rfl
                                            have hcz54_2 : w42.cell? ⟨gb326, 2, none⟩ = some (.int .i64 0) := (blk_cell BK326.out 2).trans rfl
                                            have hfz54_0 := blk_frozen BK326.out 0
                                            have hfz54_1 := blk_frozen BK326.out 1
                                            have hfz54_2 := blk_frozen BK326.out 2
                                            have p329 : 0 ≤ ((ji52) : Int) := of_decide_eq_true (by first | (with_reducible assumption) | assumption)
                                            have q329 : (ji52) < (t318.length : Int) := of_decide_eq_true (by first | (with_reducible assumption) | assumption)
                                            obtain ⟨ad329, e329, hx329_0, hx329_1, hx329_2⟩ := at_T49 (Kd.R_reads' HO_4.out).2.2 (ji52) p329 q329
                                            obtain rfl : ad325 = ad329 := (by injection e329)
                                            have hn329_0 : ad325.block ≠ gb326 := Kd.own_blk ((by first | exact Kd.R_ne HO_4.out BK326.out (by decide) | exact Kd.ne_of_ok HO_4.out (fun k_ hk => by first | exact hk | exact hk.1 | exact hk.2 | exact hk.1.1 | exact hk.1.2 | exact hk.2.1 | exact hk.2.2)))
                                            have hn329_1 : ad325.block ≠ gb326 := Kd.own_blk ((by first | exact Kd.R_ne HO_4.out BK326.out (by decide) | exact Kd.ne_of_ok HO_4.out (fun k_ hk => by first | exact hk | exact hk.1 | exact hk.2 | exact hk.1.1 | exact hk.1.2 | exact hk.2.1 | exact hk.2.2)))
                                            have hn329_2 : ad325.block ≠ gb326 := Kd.own_blk ((by first | exact Kd.R_ne HO_4.out BK326.out (by decide) | exact Kd.ne_of_ok HO_4.out (fun k_ hk => by first | exact hk | exact hk.1 | exact hk.2 | exact hk.1.1 | exact hk.1.2 | exact hk.2.1 | exact hk.2.2)))
                                            replace hx329_0 := (cell_far (p := ⟨gb326, 0, none⟩) (by first | (rw [add_block]; exact hn329_0) | (show (Addr.add _ _).block ≠ _; rw [add_block]; exact hn329_0) | exact hn329_0) (.string ((rd_T49 t318 x9_3).f0))).trans hx329_0
                                            replace hx329_1 := (cell_far (p := ⟨gb326, 0, none⟩) (by first | (rw [add_block]; exact hn329_0) | (show (Addr.add _ _).block ≠ _; rw [add_block]; exact hn329_0) | exact hn329_0) (.string ((rd_T49 t318 x9_3).f0))).trans hx329_1
                                            replace hx329_2 := (cell_far (p := ⟨gb326, 0, none⟩) (by first | (rw [add_block]; exact hn329_0) | (show (Addr.add _ _).block ≠ _; rw [add_block]; exact hn329_0) | exact hn329_0) (.string ((rd_T49 t318 x9_3).f0))).trans hx329_2
                                            replace hx329_0 := (cell_far (p := ⟨gb326, 1, none⟩) (by first | (rw [add_block]; exact hn329_1) | (show (Addr.add _ _).block ≠ _; rw [add_block]; exact hn329_1) | exact hn329_1) (.int .i64 ((rd_T49 t318 x9_3).f1))).trans hx329_0
                                            replace hx329_1 := (cell_far (p := ⟨gb326, 1, none⟩) (by first | (rw [add_block]; exact hn329_1) | (show (Addr.add _ _).block ≠ _; rw [add_block]; exact hn329_1) | exact hn329_1) (.int .i64 ((rd_T49 t318 x9_3).f1))).trans hx329_1
                                            replace hx329_2 := (cell_far (p := ⟨gb326, 1, none⟩) (by first | (rw [add_block]; exact hn329_1) | (show (Addr.add _ _).block ≠ _; rw [add_block]; exact hn329_1) | exact hn329_1) (.int .i64 ((rd_T49 t318 x9_3).f1))).trans hx329_2
                                            replace hx329_0 := (cell_far (p := ⟨gb326, 2, none⟩) (by first | (rw [add_block]; exact hn329_2) | (show (Addr.add _ _).block ≠ _; rw [add_block]; exact hn329_2) | exact hn329_2) (.int .i64 ((rd_T49 t318 x9_3).f2))).trans hx329_0
                                            replace hx329_1 := (cell_far (p := ⟨gb326, 2, none⟩) (by first | (rw [add_block]; exact hn329_2) | (show (Addr.add _ _).block ≠ _; rw [add_block]; exact hn329_2) | exact hn329_2) (.int .i64 ((rd_T49 t318 x9_3).f2))).trans hx329_1
                                            replace hx329_2 := (cell_far (p := ⟨gb326, 2, none⟩) (by first | (rw [add_block]; exact hn329_2) | (show (Addr.add _ _).block ≠ _; rw [add_block]; exact hn329_2) | exact hn329_2) (.int .i64 ((rd_T49 t318 x9_3).f2))).trans hx329_2
                                            (try have hy329_0 := fun (n_ : Nat) => (show (((((w42.drewN n_).setCell ⟨gb326, 0, none⟩ (.string ((rd_T49 t318 x9_3).f0))).setCell ⟨gb326, 1, none⟩ (.int .i64 ((rd_T49 t318 x9_3).f1))).setCell ⟨gb326, 2, none⟩ (.int .i64 ((rd_T49 t318 x9_3).f2)))).cell? _ = some _ from hx329_0))
                                            (try have hy329_1 := fun (n_ : Nat) => (show (((((w42.drewN n_).setCell ⟨gb326, 0, none⟩ (.string ((rd_T49 t318 x9_3).f0))).setCell ⟨gb326, 1, none⟩ (.int .i64 ((rd_T49 t318 x9_3).f1))).setCell ⟨gb326, 2, none⟩ (.int .i64 ((rd_T49 t318 x9_3).f2)))).cell? _ = some _ from hx329_1))
                                            (try have hy329_2 := fun (n_ : Nat) => (show (((((w42.drewN n_).setCell ⟨gb326, 0, none⟩ (.string ((rd_T49 t318 x9_3).f0))).setCell ⟨gb326, 1, none⟩ (.int .i64 ((rd_T49 t318 x9_3).f1))).setCell ⟨gb326, 2, none⟩ (.int .i64 ((rd_T49 t318 x9_3).f2)))).cell? _ = some _ from hx329_2))
                                            clear hn329_0
                                            clear hn329_1
                                            clear hn329_2
                                            replace p329 := eq_true p329
                                            replace q329 := eq_true q329
                                            go_wp2
                                            repeat (go_quiet (fail); try go_wp2)
                                            go_meet
                                            case rel => exact ⟨_, ((((rd_T49 t318 (ji52)).f1) == 0)), (by first | rfl | (simp; done) | (simp only [← hji52] <;> (first | rfl | simp)) | (simp [*]; done)), H', ⟨by have := HJ5.out; have := HJ12.out; have := HK3.out; first | omega | exact Nat.le_refl _⟩, ⟨by (with_reducible repeat (first | apply Kd.R_alloc | apply Kd.R_drewN | apply Kd.R_drew)); exact Kd.R_mono (Kd.R_far (p := ⟨gb326, 2, none⟩) (Kd.R_far (p := ⟨gb326, 1, none⟩) (Kd.R_far (p := ⟨gb326, 0, none⟩) (Kd.R_mono HO_4.out (fun k_ hk => (⟨hk, hk.2⟩ : _ ∧ k_ ≠ gb326))) (fun _ hk => hk.2) (.string ((rd_T49 t318 x9_3).f0))) (fun _ hk => hk.2) (.int .i64 ((rd_T49 t318 x9_3).f1))) (fun _ hk => hk.2) (.int .i64 ((rd_T49 t318 x9_3).f2))) (fun _ hk => hk.1.2)⟩, ⟨by (with_reducible repeat (first | refine blk_drewN ?_ _ | refine blk_drew ?_ | refine blk_alloc ?_ _)); refine blk_put (cs := #[.string ((rd_T49 t318 x9_3).f0), .int .i64 ((rd_T49 t318 x9_3).f1), .int .i64 0]) ?_ 2 _ rfl; (with_reducible repeat (first | refine blk_drewN ?_ _ | refine blk_drew ?_ | refine blk_alloc ?_ _)); refine blk_put (cs := #[.string ((rd_T49 t318 x9_3).f0), .int .i64 0, .int .i64 0]) ?_ 1 _ rfl; (with_reducible repeat (first | refine blk_drewN ?_ _ | refine blk_drew ?_ | refine blk_alloc ?_ _)); refine blk_put (cs := #[.string (⟨#[]⟩ : ByteArray), .int .i64 0, .int .i64 0]) ?_ 0 _ rfl; (with_reducible repeat (first | refine blk_drewN ?_ _ | refine blk_drew ?_ | refine blk_alloc ?_ _)); exact BK326.out⟩, ⟨by repeat (first | (with_reducible first | exact HB.out | apply below_alloc | apply pw_below_drewN | apply below_drew1 | refine below_set ?_ GE326.out) | exact HB.out)⟩⟩
                                          · rw [if_neg c53] at H
                                            exact absurd H (by simp)
                                        · rw [if_neg c51] at H
                                          have c51b0 : decide ((wrap64 (x9_3 + 1)) < (t318.length : Int)) = false := decide_eq_false c51
                                          clear c51
                                          have H' := Aside0.mk H
                                          clear H
                                          have hcz55_0 : w42.cell? ⟨gb326, 0, none⟩ = some (.string (⟨#[]⟩ : ByteArray)) := (blk_cell BK326.out 0).trans rfl
                                          have hcz55_1 : w42.cell? ⟨gb326, 1, none⟩ = some (.int .i64 0) := (blk_cell BK326.out 1).trans rfl
                                          have hcz55_2 : w42.cell? ⟨gb326, 2, none⟩ = some (.int .i64 0) := (blk_cell BK326.out 2).trans rfl
                                          have hfz55_0 := blk_frozen BK326.out 0
                                          have hfz55_1 := blk_frozen BK326.out 1
                                          have hfz55_2 := blk_frozen BK326.out 2
                                          go_wp2
                                          repeat (go_quiet (fail); try go_wp2)
                                          go_meet
                                          case rel => exact ⟨_, (false), (by first | rfl | (simp; done) | (simp [*]; done)), H', ⟨by have := HJ5.out; have := HJ12.out; have := HK3.out; first | omega | exact Nat.le_refl _⟩, ⟨by (with_reducible repeat (first | apply Kd.R_alloc | apply Kd.R_drewN | apply Kd.R_drew)); exact Kd.R_mono (Kd.R_far (p := ⟨gb326, 2, none⟩) (Kd.R_far (p := ⟨gb326, 1, none⟩) (Kd.R_far (p := ⟨gb326, 0, none⟩) (Kd.R_mono HO_4.out (fun k_ hk => (⟨hk, hk.2⟩ : _ ∧ k_ ≠ gb326))) (fun _ hk => hk.2) (.string ((rd_T49 t318 x9_3).f0))) (fun _ hk => hk.2) (.int .i64 ((rd_T49 t318 x9_3).f1))) (fun _ hk => hk.2) (.int .i64 ((rd_T49 t318 x9_3).f2))) (fun _ hk => hk.1.2)⟩, ⟨by (with_reducible repeat (first | refine blk_drewN ?_ _ | refine blk_drew ?_ | refine blk_alloc ?_ _)); refine blk_put (cs := #[.string ((rd_T49 t318 x9_3).f0), .int .i64 ((rd_T49 t318 x9_3).f1), .int .i64 0]) ?_ 2 _ rfl; (with_reducible repeat (first | refine blk_drewN ?_ _ | refine blk_drew ?_ | refine blk_alloc ?_ _)); refine blk_put (cs := #[.string ((rd_T49 t318 x9_3).f0), .int .i64 0, .int .i64 0]) ?_ 1 _ rfl; (with_reducible repeat (first | refine blk_drewN ?_ _ | refine blk_drew ?_ | refine blk_alloc ?_ _)); refine blk_put (cs := #[.string (⟨#[]⟩ : ByteArray), .int .i64 0, .int .i64 0]) ?_ 0 _ rfl; (with_reducible repeat (first | refine blk_drewN ?_ _ | refine blk_drew ?_ | refine blk_alloc ?_ _)); exact BK326.out⟩, ⟨by repeat (first | (with_reducible first | exact HB.out | apply below_alloc | apply pw_below_drewN | apply below_drew1 | refine below_set ?_ GE326.out) | exact HB.out)⟩⟩
                                      · rw [if_neg c50] at H
                                        have c50b0 : decide ((((rd_T49 t318 x9_3).f0).size : Int) < 128) = false := decide_eq_false c50
                                        have c50b1 : decide (((rd_T49 t318 x9_3).f0).size < 128) = false := decide_eq_false (by omega)
                                        clear c50
                                        have H' := Aside0.mk H
                                        clear H
                                        have hcz56_0 : w42.cell? ⟨gb326, 0, none⟩ = some (.string (⟨#[]⟩ : ByteArray)) := (blk_cell BK326.out 0).trans rfl
                                        have hcz56_1 : w42.cell? ⟨gb326, 1, none⟩ = some (.int .i64 0) := (blk_cell BK326.out 1).trans rfl
                                        have hcz56_2 : w42.cell? ⟨gb326, 2, none⟩ = some (.int .i64 0) := (blk_cell BK326.out 2).trans rfl
                                        have hfz56_0 := blk_frozen BK326.out 0
                                        have hfz56_1 := blk_frozen BK326.out 1
                                        have hfz56_2 := blk_frozen BK326.out 2
                                        go_wp2
                                        repeat (go_quiet (fail); try go_wp2)
                                        go_meet
                                        case rel => exact ⟨_, (false), (by first | rfl | (simp; done) | (simp [*]; done)), H', ⟨by have := HJ5.out; have := HJ12.out; have := HK3.out; first | omega | exact Nat.le_refl _⟩, ⟨by (with_reducible repeat (first | apply Kd.R_alloc | apply Kd.R_drewN | apply Kd.R_drew)); exact Kd.R_mono (Kd.R_far (p := ⟨gb326, 2, none⟩) (Kd.R_far (p := ⟨gb326, 1, none⟩) (Kd.R_far (p := ⟨gb326, 0, none⟩) (Kd.R_mono HO_4.out (fun k_ hk => (⟨hk, hk.2⟩ : _ ∧ k_ ≠ gb326))) (fun _ hk => hk.2) (.string ((rd_T49 t318 x9_3).f0))) (fun _ hk => hk.2) (.int .i64 ((rd_T49 t318 x9_3).f1))) (fun _ hk => hk.2) (.int .i64 ((rd_T49 t318 x9_3).f2))) (fun _ hk => hk.1.2)⟩, ⟨by (with_reducible repeat (first | refine blk_drewN ?_ _ | refine blk_drew ?_ | refine blk_alloc ?_ _)); refine blk_put (cs := #[.string ((rd_T49 t318 x9_3).f0), .int .i64 ((rd_T49 t318 x9_3).f1), .int .i64 0]) ?_ 2 _ rfl; (with_reducible repeat (first | refine blk_drewN ?_ _ | refine blk_drew ?_ | refine blk_alloc ?_ _)); refine blk_put (cs := #[.string ((rd_T49 t318 x9_3).f0), .int .i64 0, .int .i64 0]) ?_ 1 _ rfl; (with_reducible repeat (first | refine blk_drewN ?_ _ | refine blk_drew ?_ | refine blk_alloc ?_ _)); refine blk_put (cs := #[.string (⟨#[]⟩ : ByteArray), .int .i64 0, .int .i64 0]) ?_ 0 _ rfl; (with_reducible repeat (first | refine blk_drewN ?_ _ | refine blk_drew ?_ | refine blk_alloc ?_ _)); exact BK326.out⟩, ⟨by repeat (first | (with_reducible first | exact HB.out | apply below_alloc | apply pw_below_drewN | apply below_drew1 | refine below_set ?_ GE326.out) | exact HB.out)⟩⟩
                                    · rw [if_neg c49] at H
                                      have c49b0 : ((a0.extract (x8_3 : Int).toNat ((wrap64 (x8_3 + (((rd_T49 t318 x9_3).f0).size : Int))) : Int).toNat).toList == ((rd_T49 t318 x9_3).f0).toList) = false := beq_eq_false_iff_ne.mpr c49
                                      have c49b1 : ((a0.extract (x8_3 : Int).toNat ((wrap64 (x8_3 + (((rd_T49 t318 x9_3).f0).size : Int))) : Int).toNat).toList != ((rd_T49 t318 x9_3).f0).toList) = true := bne_iff_ne.mpr c49
                                      have H' := Aside0.mk H
                                      clear H
                                      have hcz57_0 : w42.cell? ⟨gb326, 0, none⟩ = some (.string (⟨#[]⟩ : ByteArray)) := (blk_cell BK326.out 0).trans rfl
                                      have hcz57_1 : w42.cell? ⟨gb326, 1, none⟩ = some (.int .i64 0) := (blk_cell BK326.out 1).trans rfl
                                      have hcz57_2 : w42.cell? ⟨gb326, 2, none⟩ = some (.int .i64 0) := (blk_cell BK326.out 2).trans rfl
                                      have hfz57_0 := blk_frozen BK326.out 0
                                      have hfz57_1 := blk_frozen BK326.out 1
                                      have hfz57_2 := blk_frozen BK326.out 2
                                      go_wp2
                                      repeat (go_quiet (fail); try go_wp2)
                                      go_meet
                                      case rel => exact ⟨_, (true), (by first | rfl | (simp; done) | (simp [*]; done)), H', ⟨by have := HJ5.out; have := HJ12.out; have := HK3.out; first | omega | exact Nat.le_refl _⟩, ⟨by (with_reducible repeat (first | apply Kd.R_alloc | apply Kd.R_drewN | apply Kd.R_drew)); exact Kd.R_mono (Kd.R_far (p := ⟨gb326, 2, none⟩) (Kd.R_far (p := ⟨gb326, 1, none⟩) (Kd.R_far (p := ⟨gb326, 0, none⟩) (Kd.R_mono HO_4.out (fun k_ hk => (⟨hk, hk.2⟩ : _ ∧ k_ ≠ gb326))) (fun _ hk => hk.2) (.string ((rd_T49 t318 x9_3).f0))) (fun _ hk => hk.2) (.int .i64 ((rd_T49 t318 x9_3).f1))) (fun _ hk => hk.2) (.int .i64 ((rd_T49 t318 x9_3).f2))) (fun _ hk => hk.1.2)⟩, ⟨by (with_reducible repeat (first | refine blk_drewN ?_ _ | refine blk_drew ?_ | refine blk_alloc ?_ _)); refine blk_put (cs := #[.string ((rd_T49 t318 x9_3).f0), .int .i64 ((rd_T49 t318 x9_3).f1), .int .i64 0]) ?_ 2 _ rfl; (with_reducible repeat (first | refine blk_drewN ?_ _ | refine blk_drew ?_ | refine blk_alloc ?_ _)); refine blk_put (cs := #[.string ((rd_T49 t318 x9_3).f0), .int .i64 0, .int .i64 0]) ?_ 1 _ rfl; (with_reducible repeat (first | refine blk_drewN ?_ _ | refine blk_drew ?_ | refine blk_alloc ?_ _)); refine blk_put (cs := #[.string (⟨#[]⟩ : ByteArray), .int .i64 0, .int .i64 0]) ?_ 0 _ rfl; (with_reducible repeat (first | refine blk_drewN ?_ _ | refine blk_drew ?_ | refine blk_alloc ?_ _)); exact BK326.out⟩, ⟨by repeat (first | (with_reducible first | exact HB.out | apply below_alloc | apply pw_below_drewN | apply below_drew1 | refine below_set ?_ GE326.out) | exact HB.out)⟩⟩
                                  · rw [if_neg c48] at H
                                    exact absurd H (by simp)
                                · rw [if_neg c47] at H
                                  exact absurd H (by simp)
                              · rw [if_neg c46] at H
                                exact absurd H (by simp)
                          case rest =>
                            clear HC41
                            try clear c1
                            try clear c2
                            try clear p2
                            try clear c3
                            try clear p3
                            try clear q3
                            try clear hx3
                            try clear c4
                            try clear c5
                            try clear p6
                            try clear c9
                            try clear c10
                            try clear c10b0
                            try clear c10b1
                            try clear c11
                            try clear c16
                            try clear c16b0
                            try clear c16b1
                            try clear c17
                            try clear c18
                            try clear c18b0
                            try clear c19
                            try clear c19b0
                            try clear c20
                            try clear c20b0
                            try clear c22
                            try clear c22b0
                            try clear c22b1
                            try clear c23
                            try clear c23b0
                            try clear c23b1
                            try clear c24
                            try clear c24b0
                            try clear c24b1
                            try clear p32
                            try clear q32
                            try clear hx32
                            try clear c44
                            try clear c44b0
                            try clear c46
                            try clear c46b0
                            try clear c46b1
                            try clear c47
                            try clear c47b0
                            try clear c47b1
                            try clear c48
                            try clear c48b0
                            try clear c48b1
                            try clear c49
                            try clear c49b0
                            try clear c49b1
                            try clear c50
                            try clear c50b0
                            try clear c50b1
                            try clear c51
                            try clear c51b0
                            try clear c53
                            try clear c53b0
                            try clear hcz26_0
                            try clear hcz26_1
                            try clear hcz26_2
                            try clear hcz28_0
                            try clear hcz28_1
                            try clear hcz28_2
                            try clear hcz30_0
                            try clear hcz30_1
                            try clear hcz30_2
                            try clear hcz32_0
                            try clear hcz32_1
                            try clear hcz32_2
                            try clear hcz34_0
                            try clear hcz34_1
                            try clear hcz34_2
                            try clear hcz36_0
                            try clear hcz36_1
                            try clear hcz36_2
                            try clear hcz38_0
                            try clear hcz38_1
                            try clear hcz38_2
                            try clear hcz40_0
                            try clear hcz40_1
                            try clear hcz40_2
                            try clear hcz43_0
                            try clear hcz43_1
                            try clear hcz43_2
                            try clear hcz45_0
                            try clear hcz45_1
                            try clear hcz45_2
                            try clear hcz54_0
                            try clear hcz54_1
                            try clear hcz54_2
                            try clear hcz55_0
                            try clear hcz55_1
                            try clear hcz55_2
                            try clear hcz56_0
                            try clear hcz56_1
                            try clear hcz56_2
                            try clear hcz57_0
                            try clear hcz57_1
                            try clear hcz57_2
                            try clear hfz26_0
                            try clear hfz26_1
                            try clear hfz26_2
                            try clear hfz28_0
                            try clear hfz28_1
                            try clear hfz28_2
                            try clear hfz30_0
                            try clear hfz30_1
                            try clear hfz30_2
                            try clear hfz32_0
                            try clear hfz32_1
                            try clear hfz32_2
                            try clear hfz34_0
                            try clear hfz34_1
                            try clear hfz34_2
                            try clear hfz36_0
                            try clear hfz36_1
                            try clear hfz36_2
                            try clear hfz38_0
                            try clear hfz38_1
                            try clear hfz38_2
                            try clear hfz40_0
                            try clear hfz40_1
                            try clear hfz40_2
                            try clear hfz43_0
                            try clear hfz43_1
                            try clear hfz43_2
                            try clear hfz45_0
                            try clear hfz45_1
                            try clear hfz45_2
                            try clear hfz54_0
                            try clear hfz54_1
                            try clear hfz54_2
                            try clear hfz55_0
                            try clear hfz55_1
                            try clear hfz55_2
                            try clear hfz56_0
                            try clear hfz56_1
                            try clear hfz56_2
                            try clear hfz57_0
                            try clear hfz57_1
                            try clear hfz57_2
                            try clear hx325_0
                            try clear hx325_1
                            try clear hx325_2
                            try clear hx329_0
                            try clear hx329_1
                            try clear hx329_2
                            try clear p2
                            try clear p325
                            try clear p329
                            try clear q325
                            try clear q329
                            obtain ⟨kq, x125_40, rfl, HA, HJ40, HO_4, BK326, HB⟩ := hcut
                            cases kq with
                            | zero => exact absurd HA.out (by simp [gantrylaw04_LzTells.j3])
                            | succ kj40 =>
                              have H := HA.out
                              clear HA
                              simp only [gantrylaw04_LzTells.j3] at H
                              by_cases c58 : x125_40 = true
                              · subst c58
                                have H1 : (some false) = some r := by rw [if_pos rfl] at H; exact H
                                clear H
                                have H := H1
                                clear H1
                                obtain rfl := Option.some.inj H
                                go_wp2
                                repeat (go_quiet (fail); try go_wp2)
                                go_ret
                                exact ⟨by first | rfl | (simp [errW_none, errW_some] <;> rfl) | (simp [*, errW_none, errW_some] <;> rfl), by repeat (first | (with_reducible first | exact HB.out | apply below_alloc | apply pw_below_drewN | apply below_drew1 | refine below_set ?_ GE326.out) | exact HB.out)⟩
                              · replace c58 := Bool.eq_false_iff.mpr c58
                                subst c58
                                have H1 : (gantrylaw04_LzTells.l1 kj40 a0 t318 x8_3 x9_3 0 ((rd_T49 t318 x9_3).f0) ((rd_T49 t318 x9_3).f1) ((rd_T49 t318 x9_3).f2)) = some r := by rw [if_neg (show ¬ (false = true) by decide)] at H; exact H
                                clear H
                                have H := H1
                                clear H1
                                have H' := Aside0.mk H
                                clear H
                                go_wp2
                                repeat (go_quiet (fail); try go_wp2)
                                go_loopg [13] kj40 (fun kq v13 w' => ∃ (x13_5 : Int), v13 = .int .i64 x13_5 ∧ Aside0 (gantrylaw04_LzTells.l1 kq a0 t318 x8_3 x9_3 x13_5 ((rd_T49 t318 x9_3).f0) ((rd_T49 t318 x9_3).f1) ((rd_T49 t318 x9_3).f2) = some r) ∧ Aside0 (kq ≤ kj40) ∧ Aside0 (Kd.R k49 49 w' w.heap.size (fun k_ => k_ ≠ gb326) (.slice (some ad325) t318.length co14) t318) ∧ Aside0 (w'.heap[gb326]? = some (.cells #[.string ((rd_T49 t318 x9_3).f0), .int .i64 ((rd_T49 t318 x9_3).f1), .int .i64 ((rd_T49 t318 x9_3).f2)] 49 (0, 0))) ∧ Aside0 (Below w.heap.size w w'))
                                case atStart => exact ⟨(0), (by first | rfl | (simp; done) | (simp [*]; done)), H', ⟨Nat.le_refl _⟩, ⟨by (with_reducible repeat (first | apply Kd.R_alloc | apply Kd.R_drewN | apply Kd.R_drew)); exact HO_4.out⟩, ⟨by (with_reducible repeat (first | refine blk_drewN ?_ _ | refine blk_drew ?_ | refine blk_alloc ?_ _)); exact BK326.out⟩, ⟨by repeat (first | (with_reducible first | exact HB.out | apply below_alloc | apply pw_below_drewN | apply below_drew1 | refine below_set ?_ GE326.out) | exact HB.out)⟩⟩
                                case round =>
                                  clear H'
                                  try clear c1
                                  try clear c2
                                  try clear p2
                                  try clear c3
                                  try clear p3
                                  try clear q3
                                  try clear hx3
                                  try clear c4
                                  try clear c5
                                  try clear p6
                                  try clear c9
                                  try clear c10
                                  try clear c10b0
                                  try clear c10b1
                                  try clear c11
                                  try clear c16
                                  try clear c16b0
                                  try clear c16b1
                                  try clear c17
                                  try clear c18
                                  try clear c18b0
                                  try clear c19
                                  try clear c19b0
                                  try clear c20
                                  try clear c20b0
                                  try clear c22
                                  try clear c22b0
                                  try clear c22b1
                                  try clear c23
                                  try clear c23b0
                                  try clear c23b1
                                  try clear c24
                                  try clear c24b0
                                  try clear c24b1
                                  try clear p32
                                  try clear q32
                                  try clear hx32
                                  try clear c44
                                  try clear c44b0
                                  try clear c46
                                  try clear c46b0
                                  try clear c46b1
                                  try clear c47
                                  try clear c47b0
                                  try clear c47b1
                                  try clear c48
                                  try clear c48b0
                                  try clear c48b1
                                  try clear c49
                                  try clear c49b0
                                  try clear c49b1
                                  try clear c50
                                  try clear c50b0
                                  try clear c50b1
                                  try clear c51
                                  try clear c51b0
                                  try clear c53
                                  try clear c53b0
                                  try clear c58
                                  try clear hcz26_0
                                  try clear hcz26_1
                                  try clear hcz26_2
                                  try clear hcz28_0
                                  try clear hcz28_1
                                  try clear hcz28_2
                                  try clear hcz30_0
                                  try clear hcz30_1
                                  try clear hcz30_2
                                  try clear hcz32_0
                                  try clear hcz32_1
                                  try clear hcz32_2
                                  try clear hcz34_0
                                  try clear hcz34_1
                                  try clear hcz34_2
                                  try clear hcz36_0
                                  try clear hcz36_1
                                  try clear hcz36_2
                                  try clear hcz38_0
                                  try clear hcz38_1
                                  try clear hcz38_2
                                  try clear hcz40_0
                                  try clear hcz40_1
                                  try clear hcz40_2
                                  try clear hcz43_0
                                  try clear hcz43_1
                                  try clear hcz43_2
                                  try clear hcz45_0
                                  try clear hcz45_1
                                  try clear hcz45_2
                                  try clear hcz54_0
                                  try clear hcz54_1
                                  try clear hcz54_2
                                  try clear hcz55_0
                                  try clear hcz55_1
                                  try clear hcz55_2
                                  try clear hcz56_0
                                  try clear hcz56_1
                                  try clear hcz56_2
                                  try clear hcz57_0
                                  try clear hcz57_1
                                  try clear hcz57_2
                                  try clear hfz26_0
                                  try clear hfz26_1
                                  try clear hfz26_2
                                  try clear hfz28_0
                                  try clear hfz28_1
                                  try clear hfz28_2
                                  try clear hfz30_0
                                  try clear hfz30_1
                                  try clear hfz30_2
                                  try clear hfz32_0
                                  try clear hfz32_1
                                  try clear hfz32_2
                                  try clear hfz34_0
                                  try clear hfz34_1
                                  try clear hfz34_2
                                  try clear hfz36_0
                                  try clear hfz36_1
                                  try clear hfz36_2
                                  try clear hfz38_0
                                  try clear hfz38_1
                                  try clear hfz38_2
                                  try clear hfz40_0
                                  try clear hfz40_1
                                  try clear hfz40_2
                                  try clear hfz43_0
                                  try clear hfz43_1
                                  try clear hfz43_2
                                  try clear hfz45_0
                                  try clear hfz45_1
                                  try clear hfz45_2
                                  try clear hfz54_0
                                  try clear hfz54_1
                                  try clear hfz54_2
                                  try clear hfz55_0
                                  try clear hfz55_1
                                  try clear hfz55_2
                                  try clear hfz56_0
                                  try clear hfz56_1
                                  try clear hfz56_2
                                  try clear hfz57_0
                                  try clear hfz57_1
                                  try clear hfz57_2
                                  try clear hx325_0
                                  try clear hx325_1
                                  try clear hx325_2
                                  try clear hx329_0
                                  try clear hx329_1
                                  try clear hx329_2
                                  try clear p2
                                  try clear p3
                                  try clear p32
                                  try clear p325
                                  try clear p329
                                  try clear p6
                                  try clear q3
                                  try clear q32
                                  try clear q325
                                  try clear q329
                                  obtain ⟨x13_5, rfl, HA, HK5, HO_4, BK326, HB⟩ := hrel
                                  cases gk with
                                  | zero => exact absurd HA.out (by simp [gantrylaw04_LzTells.l1])
                                  | succ k5 =>
                                    have H := HA.out
                                    clear HA
                                    simp only [gantrylaw04_LzTells.l1] at H
                                    by_cases c59 : x13_5 < (((rd_T49 t318 x9_3).f0).size : Int)
                                    · rw [if_pos c59] at H
                                      have c59b0 : decide (x13_5 < (((rd_T49 t318 x9_3).f0).size : Int)) = true := decide_eq_true c59
                                      clear c59
                                      replace H := Option.bind_eq_some_iff.mp H
                                      obtain ⟨⟨t330, t331⟩, A600, H⟩ := H
                                      replace H : (if t330 = 0 then (gantrylaw04_LzTells.l1 k5 a0 t318 x8_3 x9_3 (wrap64 (x13_5 + 1)) ((rd_T49 t318 x9_3).f0) ((rd_T49 t318 x9_3).f1) ((rd_T49 t318 x9_3).f2)) else (some false)) = some r := H
                                      have A60 := Aside0.mk A600
                                      clear A600
                                      by_cases c61 : t330 = 0
                                      · rw [if_pos c61] at H
                                        have c61b0 : (t330 == 0) = true := beq_iff_eq.mpr c61
                                        have c61b1 : (t330 != 0) = false := bne_eq_false_iff_eq.mpr c61
                                        clear c61
                                        have H' := Aside0.mk H
                                        clear H
                                        have hcz62_0 : wr.cell? ⟨gb326, 0, none⟩ = some (.string ((rd_T49 t318 x9_3).f0)) := (blk_cell BK326.out 0).trans rfl
                                        have hcz62_1 : wr.cell? ⟨gb326, 1, none⟩ = some (.int .i64 ((rd_T49 t318 x9_3).f1)) := (blk_cell BK326.out 1).trans rfl
                                        have hcz62_2 : wr.cell? ⟨gb326, 2, none⟩ = some (.int .i64 ((rd_T49 t318 x9_3).f2)) := (blk_cell BK326.out 2).trans rfl
                                        have hfz62_0 := blk_frozen BK326.out 0
                                        have hfz62_1 := blk_frozen BK326.out 1
                                        have hfz62_2 := blk_frozen BK326.out 2
                                        go_wp2_with (first | (go_at_call 15; (with_reducible refine (lz_Best.calls k5 a0 (wrap64 (x8_3 + x13_5)) t330 t331 _ A60.out).mono ?_); rintro e w63 ⟨rfl, hb⟩; have n0_ := Aside0.mk (Kd.R_below (by (with_reducible repeat (first | apply Kd.R_alloc | apply Kd.R_drewN | apply Kd.R_drew)); exact HO_4.out) hb); have n1_ := Aside0.mk (blk_below (g := gb326) (o := .cells #[.string ((rd_T49 t318 x9_3).f0), .int .i64 ((rd_T49 t318 x9_3).f1), .int .i64 ((rd_T49 t318 x9_3).f2)] 49 (0, 0)) (by (with_reducible repeat (first | refine blk_drewN ?_ _ | refine blk_drew ?_ | refine blk_alloc ?_ _)); exact BK326.out) hb); have n2_ := Aside0.mk (below_step (by repeat (first | (with_reducible first | exact HB.out | apply below_alloc | apply pw_below_drewN | apply below_drew1 | refine below_set ?_ GE326.out) | exact HB.out)) hb); clear HO_4; clear BK326; clear HB; have HO_4 := n0_; have BK326 := n1_; have HB := n2_; clear n0_ n1_ n2_; (try clear hb); (try clear hb2); (try clear hk); (try clear hi)))
                                        repeat (go_quiet (first | (go_at_call 15; (with_reducible refine (lz_Best.calls k5 a0 (wrap64 (x8_3 + x13_5)) t330 t331 _ A60.out).mono ?_); rintro e w63 ⟨rfl, hb⟩; have n0_ := Aside0.mk (Kd.R_below (by (with_reducible repeat (first | apply Kd.R_alloc | apply Kd.R_drewN | apply Kd.R_drew)); exact HO_4.out) hb); have n1_ := Aside0.mk (blk_below (g := gb326) (o := .cells #[.string ((rd_T49 t318 x9_3).f0), .int .i64 ((rd_T49 t318 x9_3).f1), .int .i64 ((rd_T49 t318 x9_3).f2)] 49 (0, 0)) (by (with_reducible repeat (first | refine blk_drewN ?_ _ | refine blk_drew ?_ | refine blk_alloc ?_ _)); exact BK326.out) hb); have n2_ := Aside0.mk (below_step (by repeat (first | (with_reducible first | exact HB.out | apply below_alloc | apply pw_below_drewN | apply below_drew1 | refine below_set ?_ GE326.out) | exact HB.out)) hb); clear HO_4; clear BK326; clear HB; have HO_4 := n0_; have BK326 := n1_; have HB := n2_; clear n0_ n1_ n2_; (try clear hb); (try clear hb2); (try clear hk); (try clear hi))); try go_wp2_with (first | (go_at_call 15; (with_reducible refine (lz_Best.calls k5 a0 (wrap64 (x8_3 + x13_5)) t330 t331 _ A60.out).mono ?_); rintro e w63 ⟨rfl, hb⟩; have n0_ := Aside0.mk (Kd.R_below (by (with_reducible repeat (first | apply Kd.R_alloc | apply Kd.R_drewN | apply Kd.R_drew)); exact HO_4.out) hb); have n1_ := Aside0.mk (blk_below (g := gb326) (o := .cells #[.string ((rd_T49 t318 x9_3).f0), .int .i64 ((rd_T49 t318 x9_3).f1), .int .i64 ((rd_T49 t318 x9_3).f2)] 49 (0, 0)) (by (with_reducible repeat (first | refine blk_drewN ?_ _ | refine blk_drew ?_ | refine blk_alloc ?_ _)); exact BK326.out) hb); have n2_ := Aside0.mk (below_step (by repeat (first | (with_reducible first | exact HB.out | apply below_alloc | apply pw_below_drewN | apply below_drew1 | refine below_set ?_ GE326.out) | exact HB.out)) hb); clear HO_4; clear BK326; clear HB; have HO_4 := n0_; have BK326 := n1_; have HB := n2_; clear n0_ n1_ n2_; (try clear hb); (try clear hb2); (try clear hk); (try clear hi))))
                                        go_roundg k5
                                        case measure => have := HJ5.out; have := HJ12.out; have := HK3.out; have := HJ40.out; have := HK5.out; omega
                                        case rel => exact ⟨(wrap64 (x13_5 + 1)), (by first | rfl | (simp; done) | (simp [*]; done)), H', ⟨by have := HJ5.out; have := HJ12.out; have := HK3.out; have := HJ40.out; have := HK5.out; omega⟩, ⟨by (with_reducible repeat (first | apply Kd.R_alloc | apply Kd.R_drewN | apply Kd.R_drew)); exact HO_4.out⟩, ⟨by (with_reducible repeat (first | refine blk_drewN ?_ _ | refine blk_drew ?_ | refine blk_alloc ?_ _)); exact BK326.out⟩, ⟨by repeat (first | (with_reducible first | exact HB.out | apply below_alloc | apply pw_below_drewN | apply below_drew1 | refine below_set ?_ GE326.out) | exact HB.out)⟩⟩
                                      · rw [if_neg c61] at H
                                        have c61b0 : (t330 == 0) = false := beq_eq_false_iff_ne.mpr c61
                                        have c61b1 : (t330 != 0) = true := bne_iff_ne.mpr c61
                                        obtain rfl := Option.some.inj H
                                        have hcz64_0 : wr.cell? ⟨gb326, 0, none⟩ = some (.string ((rd_T49 t318 x9_3).f0)) := (blk_cell BK326.out 0).trans rfl
                                        have hcz64_1 : wr.cell? ⟨gb326, 1, none⟩ = some (.int .i64 ((rd_T49 t318 x9_3).f1)) := (blk_cell BK326.out 1).trans rfl
                                        have hcz64_2 : wr.cell? ⟨gb326, 2, none⟩ = some (.int .i64 ((rd_T49 t318 x9_3).f2)) := (blk_cell BK326.out 2).trans rfl
                                        have hfz64_0 := blk_frozen BK326.out 0
                                        have hfz64_1 := blk_frozen BK326.out 1
                                        have hfz64_2 := blk_frozen BK326.out 2
                                        go_wp2_with (first | (go_at_call 15; (with_reducible refine (lz_Best.calls k5 a0 (wrap64 (x8_3 + x13_5)) t330 t331 _ A60.out).mono ?_); rintro e w65 ⟨rfl, hb⟩; have n0_ := Aside0.mk (Kd.R_below (by (with_reducible repeat (first | apply Kd.R_alloc | apply Kd.R_drewN | apply Kd.R_drew)); exact HO_4.out) hb); have n1_ := Aside0.mk (blk_below (g := gb326) (o := .cells #[.string ((rd_T49 t318 x9_3).f0), .int .i64 ((rd_T49 t318 x9_3).f1), .int .i64 ((rd_T49 t318 x9_3).f2)] 49 (0, 0)) (by (with_reducible repeat (first | refine blk_drewN ?_ _ | refine blk_drew ?_ | refine blk_alloc ?_ _)); exact BK326.out) hb); have n2_ := Aside0.mk (below_step (by repeat (first | (with_reducible first | exact HB.out | apply below_alloc | apply pw_below_drewN | apply below_drew1 | refine below_set ?_ GE326.out) | exact HB.out)) hb); clear HO_4; clear BK326; clear HB; have HO_4 := n0_; have BK326 := n1_; have HB := n2_; clear n0_ n1_ n2_; (try clear hb); (try clear hb2); (try clear hk); (try clear hi)))
                                        repeat (go_quiet (first | (go_at_call 15; (with_reducible refine (lz_Best.calls k5 a0 (wrap64 (x8_3 + x13_5)) t330 t331 _ A60.out).mono ?_); rintro e w65 ⟨rfl, hb⟩; have n0_ := Aside0.mk (Kd.R_below (by (with_reducible repeat (first | apply Kd.R_alloc | apply Kd.R_drewN | apply Kd.R_drew)); exact HO_4.out) hb); have n1_ := Aside0.mk (blk_below (g := gb326) (o := .cells #[.string ((rd_T49 t318 x9_3).f0), .int .i64 ((rd_T49 t318 x9_3).f1), .int .i64 ((rd_T49 t318 x9_3).f2)] 49 (0, 0)) (by (with_reducible repeat (first | refine blk_drewN ?_ _ | refine blk_drew ?_ | refine blk_alloc ?_ _)); exact BK326.out) hb); have n2_ := Aside0.mk (below_step (by repeat (first | (with_reducible first | exact HB.out | apply below_alloc | apply pw_below_drewN | apply below_drew1 | refine below_set ?_ GE326.out) | exact HB.out)) hb); clear HO_4; clear BK326; clear HB; have HO_4 := n0_; have BK326 := n1_; have HB := n2_; clear n0_ n1_ n2_; (try clear hb); (try clear hb2); (try clear hk); (try clear hi))); try go_wp2_with (first | (go_at_call 15; (with_reducible refine (lz_Best.calls k5 a0 (wrap64 (x8_3 + x13_5)) t330 t331 _ A60.out).mono ?_); rintro e w65 ⟨rfl, hb⟩; have n0_ := Aside0.mk (Kd.R_below (by (with_reducible repeat (first | apply Kd.R_alloc | apply Kd.R_drewN | apply Kd.R_drew)); exact HO_4.out) hb); have n1_ := Aside0.mk (blk_below (g := gb326) (o := .cells #[.string ((rd_T49 t318 x9_3).f0), .int .i64 ((rd_T49 t318 x9_3).f1), .int .i64 ((rd_T49 t318 x9_3).f2)] 49 (0, 0)) (by (with_reducible repeat (first | refine blk_drewN ?_ _ | refine blk_drew ?_ | refine blk_alloc ?_ _)); exact BK326.out) hb); have n2_ := Aside0.mk (below_step (by repeat (first | (with_reducible first | exact HB.out | apply below_alloc | apply pw_below_drewN | apply below_drew1 | refine below_set ?_ GE326.out) | exact HB.out)) hb); clear HO_4; clear BK326; clear HB; have HO_4 := n0_; have BK326 := n1_; have HB := n2_; clear n0_ n1_ n2_; (try clear hb); (try clear hb2); (try clear hk); (try clear hi))))
                                        go_ret
                                        exact ⟨by first | rfl | (simp [errW_none, errW_some] <;> rfl) | (simp [*, errW_none, errW_some] <;> rfl), by repeat (first | (with_reducible first | exact HB.out | apply below_alloc | apply pw_below_drewN | apply below_drew1 | refine below_set ?_ GE326.out) | exact HB.out)⟩
                                    · rw [if_neg c59] at H
                                      have c59b0 : decide (x13_5 < (((rd_T49 t318 x9_3).f0).size : Int)) = false := decide_eq_false c59
                                      clear c59
                                      have H' := Aside0.mk H
                                      clear H
                                      have hcz66_0 : wr.cell? ⟨gb326, 0, none⟩ = some (.string ((rd_T49 t318 x9_3).f0)) := (blk_cell BK326.out 0).trans rfl
                                      have hcz66_1 : wr.cell? ⟨gb326, 1, none⟩ = some (.int .i64 ((rd_T49 t318 x9_3).f1)) := (blk_cell BK326.out 1).trans rfl
                                      have hcz66_2 : wr.cell? ⟨gb326, 2, none⟩ = some (.int .i64 ((rd_T49 t318 x9_3).f2)) := (blk_cell BK326.out 2).trans rfl
                                      have hfz66_0 := blk_frozen BK326.out 0
                                      have hfz66_1 := blk_frozen BK326.out 1
                                      have hfz66_2 := blk_frozen BK326.out 2
                                      go_wp2
                                      repeat (go_quiet (fail); try go_wp2)
                                      go_roundg k5
                                      case measure => have := HJ5.out; have := HJ12.out; have := HK3.out; have := HJ40.out; have := HK5.out; omega
                                      case rel => exact ⟨(wrap64 (x8_3 + (((rd_T49 t318 x9_3).f0).size : Int))), (wrap64 (x9_3 + 1)), (by first | rfl | (simp; done) | (simp [*]; done)), (by first | rfl | (simp; done) | (simp [*]; done)), H', ⟨by have := HJ5.out; have := HJ12.out; have := HK3.out; have := HJ40.out; have := HK5.out; omega⟩, ⟨by (with_reducible repeat (first | apply Kd.R_alloc | apply Kd.R_drewN | apply Kd.R_drew)); exact Kd.R_mono HO_4.out (fun _ hk => trivial)⟩, ⟨by repeat (first | (with_reducible first | exact HB.out | apply below_alloc | apply pw_below_drewN | apply below_drew1 | refine below_set ?_ GE326.out) | exact HB.out)⟩⟩
                      · rw [if_neg c19] at H
                        exact absurd H (by simp)
                    · rw [if_neg c18] at H
                      have c18b0 : decide (x9_3 < (t318.length : Int)) = false := decide_eq_false c18
                      clear c18
                      obtain rfl := Option.some.inj H
                      go_wp2
                      repeat (go_quiet (fail); try go_wp2)
                      go_ret
                      exact ⟨by first | rfl | (simp [errW_none, errW_some] <;> rfl) | (simp [*, errW_none, errW_some] <;> rfl), by repeat (first | (with_reducible first | exact HB.out | apply below_alloc | apply pw_below_drewN | apply below_drew1) | exact HB.out)⟩
  · replace c3 := Bool.eq_false_iff.mpr c3
    subst c3
    have H1 : (some false) = some r := by rw [if_neg (show ¬ (false = true) by decide)] at H; exact H
    clear H
    have H := H1
    clear H1
    obtain rfl := Option.some.inj H
    go_enter Try.func9, Try.ntmps9
    go_wp2_with (first | (go_at_call 12; (with_reducible refine (gantrylaw04_fixed.calls k  false _ A2.out).mono ?_); rintro e w67 ⟨rfl, hb⟩; have n0_ := Aside0.mk (below_step (by repeat (first | (with_reducible first | exact HB.out | apply below_alloc | apply pw_below_drewN | apply below_drew1) | exact HB.out)) hb); clear HB; have HB := n0_; clear n0_; (try clear hb); (try clear hb2); (try clear hk); (try clear hi)))
    repeat (go_quiet (first | (go_at_call 12; (with_reducible refine (gantrylaw04_fixed.calls k  false _ A2.out).mono ?_); rintro e w67 ⟨rfl, hb⟩; have n0_ := Aside0.mk (below_step (by repeat (first | (with_reducible first | exact HB.out | apply below_alloc | apply pw_below_drewN | apply below_drew1) | exact HB.out)) hb); clear HB; have HB := n0_; clear n0_; (try clear hb); (try clear hb2); (try clear hk); (try clear hi))); try go_wp2_with (first | (go_at_call 12; (with_reducible refine (gantrylaw04_fixed.calls k  false _ A2.out).mono ?_); rintro e w67 ⟨rfl, hb⟩; have n0_ := Aside0.mk (below_step (by repeat (first | (with_reducible first | exact HB.out | apply below_alloc | apply pw_below_drewN | apply below_drew1) | exact HB.out)) hb); clear HB; have HB := n0_; clear n0_; (try clear hb); (try clear hb2); (try clear hk); (try clear hi))))
    go_ret
    exact ⟨by first | rfl | (simp [errW_none, errW_some] <;> rfl) | (simp [*, errW_none, errW_some] <;> rfl), by repeat (first | (with_reducible first | exact HB.out | apply below_alloc | apply pw_below_drewN | apply below_drew1) | exact HB.out)⟩

/-- THE ONE PURE STATEMENT of gantrylaw04_LzTells: yours. -/
def gantrylaw04_LzTells.Pure : Prop := ∀ (a0 : ByteArray), a0.size ≤ 140737488351232 → ∃ k, gantrylaw04_LzTells.f k a0 = some true
theorem gantrylaw04_LzTells.walk (P : gantrylaw04_LzTells.Pure) (a0 : ByteArray) (w : World) (w0 : a0.size ≤ 140737488351232) :
    Calls Try.prog 9 #[.string a0] w fun e w' => e = .returned (.bool true) ∧ Below w.heap.size w w' := by
  obtain ⟨k, h⟩ := P a0 w0
  refine (gantrylaw04_LzTells.calls k a0 true w h).mono ?_
  rintro e w' ⟨rfl, hd⟩
  exact ⟨rfl, hd⟩
end Go.Proofs.Ytgnoaokpahklaaa.QB
