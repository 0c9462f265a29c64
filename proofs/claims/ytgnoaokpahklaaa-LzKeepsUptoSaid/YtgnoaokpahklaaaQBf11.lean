/- The machine side of a law, written by a program of this session (the kit printer, changed; wip/tools/mkprint.py): functions, their calls, the row. Lean checks it. -/
import Derived.Test.YtgnoaokpahklaaaQBx0
import Derived.Test.YtgnoaokpahklaaaQBf12
import Derived.Test.YtgnoaokpahklaaaQBf27
import Derived.Test.YtgnoaokpahklaaaQBf25
import Derived.Test.YtgnoaokpahklaaaQBf13
import Derived.Test.YtgnoaokpahklaaaQBf22
namespace Go.Proofs.Ytgnoaokpahklaaa.QB
open Go.RowKit Go.Proofs.YtgnoaokpahklaaaW.PrintWords Go.Proofs.YtgnoaokpahklaaaW.PrintLast Go.Proofs.YtgnoaokpahklaaaW.PrintMore
attribute [local go_sem] max2_int min2_int max_two min_two max_three min_three max_four min_four   -- for this text's walks alone
set_option linter.unusedVariables false
set_option linter.unusedSimpArgs false
/-! ### gantrylaw04_LzKeeps: function 11 -/
mutual
def gantrylaw04_LzKeeps.l0 : Nat → ByteArray → List (S49) → List (S49) → List (S49) → List (S49) → Int → Option (Bool)
  | 0, _, _, _, _, _, _ => none
  | k + 1, x0, x5, x8, x11, x14, x17 => if x17 < (x5.length : Int) then (if 0 ≤ x17 then (gantrylaw04_LzKeeps.l0 k x0 (x5.set (x17 : Int).toNat (⟨(⟨#[]⟩ : ByteArray), (-1), 0⟩ : S49)) x8 x11 x14 (wrap64 (x17 + 1))) else (none)) else (gantrylaw04_LzKeeps.l1 k x0 x8 x11 x14 x5 0)
def gantrylaw04_LzKeeps.l1 : Nat → ByteArray → List (S49) → List (S49) → List (S49) → List (S49) → Int → Option (Bool)
  | 0, _, _, _, _, _, _ => none
  | k + 1, x0, x8, x11, x14, x18, x19 => if x19 < 16 then (if x18.length < 4398046511104 then (gantrylaw04_LzKeeps.l1 k x0 x8 x11 x14 (x18 ++ [(⟨(⟨#[]⟩ : ByteArray), (-2), 0⟩ : S49)]) (wrap64 (x19 + 1))) else (none)) else ((lz_Form.f k x8).bind fun bt389 => ((gantrylaw04_same.f k x11 x14).bind fun t391 => (if t391 = true then ((lz_Pack.f k x0).bind fun t392 => (if bt389.1.toList = t392.toList then (some (bt389.2 == 0)) else (some false))) else (some false))))
end
def gantrylaw04_LzKeeps.f (k : Nat) (a0 : ByteArray) (a1 : ByteArray) : Option (Bool) := (gantrylaw04_fixed.f k).bind fun t360 => (if t360 = true then ((lz_Pack.f k a0).bind fun t361 => ((lz_Tokens.f k t361).bind fun bt362 => ((lz_Pack.f k a0).bind fun t367 => ((lz_Tokens.f k t367).bind fun bt368 => ((lz_Pack.f k a1).bind fun t373 => ((lz_Tokens.f k t373).bind fun bt374 => ((lz_Pack.f k a1).bind fun t379 => ((lz_Tokens.f k t379).bind fun bt380 => (gantrylaw04_LzKeeps.l0 k a0 bt362.1 bt368.1 bt374.1 bt380.1 0))))))))) else (some false))
theorem gantrylaw04_LzKeeps.mono_l : ∀ k, (∀ y0 y1 y2 y3 y4 y5, LeO (gantrylaw04_LzKeeps.l0 k y0 y1 y2 y3 y4 y5) (gantrylaw04_LzKeeps.l0 (k + 1) y0 y1 y2 y3 y4 y5)) ∧ (∀ y0 y1 y2 y3 y4 y5, LeO (gantrylaw04_LzKeeps.l1 k y0 y1 y2 y3 y4 y5) (gantrylaw04_LzKeeps.l1 (k + 1) y0 y1 y2 y3 y4 y5))
  | 0 => ⟨fun _ _ _ _ _ _ r h => by simp [gantrylaw04_LzKeeps.l0] at h, fun _ _ _ _ _ _ r h => by simp [gantrylaw04_LzKeeps.l1] at h⟩
  | k + 1 => by
    obtain ⟨ih0, ih1⟩ := gantrylaw04_LzKeeps.mono_l k
    refine ⟨?_, ?_⟩
    · intro y0 y1 y2 y3 y4 y5
      unfold gantrylaw04_LzKeeps.l0
      repeat' first
      | (with_reducible exact ih0 _ _ _ _ _ _)
      | (with_reducible exact ih1 _ _ _ _ _ _)
      | (with_reducible exact gantrylaw04_fixed.mono _)
      | (with_reducible exact gantrylaw04_same.mono _ _ _)
      | (with_reducible exact lz_Form.mono _ _)
      | (with_reducible exact lz_Pack.mono _ _)
      | (with_reducible exact lz_Tokens.mono _ _)
      | (with_reducible exact LeO.refl _)
      | (with_reducible exact LeO.none _)
      | (with_reducible refine LeO.ite ?_ ?_)
      | (with_reducible refine LeO.bind ?_ (fun _ => ?_))
      | exact ih0 _ _ _ _ _ _
      | exact ih1 _ _ _ _ _ _
      | exact gantrylaw04_fixed.mono _
      | exact gantrylaw04_same.mono _ _ _
      | exact lz_Form.mono _ _
      | exact lz_Pack.mono _ _
      | exact lz_Tokens.mono _ _
      | exact LeO.none _
      | refine LeO.ite ?_ ?_
      | refine LeO.bind ?_ (fun _ => ?_)
    · intro y0 y1 y2 y3 y4 y5
      unfold gantrylaw04_LzKeeps.l1
      repeat' first
      | (with_reducible exact ih0 _ _ _ _ _ _)
      | (with_reducible exact ih1 _ _ _ _ _ _)
      | (with_reducible exact gantrylaw04_fixed.mono _)
      | (with_reducible exact gantrylaw04_same.mono _ _ _)
      | (with_reducible exact lz_Form.mono _ _)
      | (with_reducible exact lz_Pack.mono _ _)
      | (with_reducible exact lz_Tokens.mono _ _)
      | (with_reducible exact LeO.refl _)
      | (with_reducible exact LeO.none _)
      | (with_reducible refine LeO.ite ?_ ?_)
      | (with_reducible refine LeO.bind ?_ (fun _ => ?_))
      | exact ih0 _ _ _ _ _ _
      | exact ih1 _ _ _ _ _ _
      | exact gantrylaw04_fixed.mono _
      | exact gantrylaw04_same.mono _ _ _
      | exact lz_Form.mono _ _
      | exact lz_Pack.mono _ _
      | exact lz_Tokens.mono _ _
      | exact LeO.none _
      | refine LeO.ite ?_ ?_
      | refine LeO.bind ?_ (fun _ => ?_)
theorem gantrylaw04_LzKeeps.mono : ∀ a0 a1 k, LeO (gantrylaw04_LzKeeps.f k a0 a1) (gantrylaw04_LzKeeps.f (k + 1) a0 a1) := by
  intro a0 a1 k
  obtain ⟨ih0, ih1⟩ := gantrylaw04_LzKeeps.mono_l k
  unfold gantrylaw04_LzKeeps.f
  repeat' first
      | (with_reducible exact ih0 _ _ _ _ _ _)
      | (with_reducible exact ih1 _ _ _ _ _ _)
      | (with_reducible exact gantrylaw04_fixed.mono _)
      | (with_reducible exact gantrylaw04_same.mono _ _ _)
      | (with_reducible exact lz_Form.mono _ _)
      | (with_reducible exact lz_Pack.mono _ _)
      | (with_reducible exact lz_Tokens.mono _ _)
      | (with_reducible exact LeO.refl _)
      | (with_reducible exact LeO.none _)
      | (with_reducible refine LeO.ite ?_ ?_)
      | (with_reducible refine LeO.bind ?_ (fun _ => ?_))
      | exact ih0 _ _ _ _ _ _
      | exact ih1 _ _ _ _ _ _
      | exact gantrylaw04_fixed.mono _
      | exact gantrylaw04_same.mono _ _ _
      | exact lz_Form.mono _ _
      | exact lz_Pack.mono _ _
      | exact lz_Tokens.mono _ _
      | exact LeO.none _
      | refine LeO.ite ?_ ?_
      | refine LeO.bind ?_ (fun _ => ?_)
set_option maxHeartbeats 8000000 in
set_option maxRecDepth 100000 in
theorem gantrylaw04_LzKeeps.calls (k : Nat) (a0 : ByteArray) (a1 : ByteArray) (r : Bool) (w : World) (h : gantrylaw04_LzKeeps.f k a0 a1 = some r) :
    Calls Try.prog 11 #[.string a0, .string a1] w fun e w' => e = .returned (.bool r) ∧ Below w.heap.size w w' := by
  have hu49 := Try.underlying49
  have HB := Aside0.mk (Below.refl w.heap.size w)
  have H : ((gantrylaw04_fixed.f k).bind fun t360 => (if t360 = true then ((lz_Pack.f k a0).bind fun t361 => ((lz_Tokens.f k t361).bind fun bt362 => ((lz_Pack.f k a0).bind fun t367 => ((lz_Tokens.f k t367).bind fun bt368 => ((lz_Pack.f k a1).bind fun t373 => ((lz_Tokens.f k t373).bind fun bt374 => ((lz_Pack.f k a1).bind fun t379 => ((lz_Tokens.f k t379).bind fun bt380 => (gantrylaw04_LzKeeps.l0 k a0 bt362.1 bt368.1 bt374.1 bt380.1 0))))))))) else (some false))) = some r := h
  clear h
  replace H := Option.bind_eq_some_iff.mp H
  obtain ⟨t360, A30, H⟩ := H
  replace H : (if t360 = true then ((lz_Pack.f k a0).bind fun t361 => ((lz_Tokens.f k t361).bind fun bt362 => ((lz_Pack.f k a0).bind fun t367 => ((lz_Tokens.f k t367).bind fun bt368 => ((lz_Pack.f k a1).bind fun t373 => ((lz_Tokens.f k t373).bind fun bt374 => ((lz_Pack.f k a1).bind fun t379 => ((lz_Tokens.f k t379).bind fun bt380 => (gantrylaw04_LzKeeps.l0 k a0 bt362.1 bt368.1 bt374.1 bt380.1 0))))))))) else (some false)) = some r := H
  have A3 := Aside0.mk A30
  clear A30
  by_cases c4 : t360 = true
  · subst c4
    have H1 : ((lz_Pack.f k a0).bind fun t361 => ((lz_Tokens.f k t361).bind fun bt362 => ((lz_Pack.f k a0).bind fun t367 => ((lz_Tokens.f k t367).bind fun bt368 => ((lz_Pack.f k a1).bind fun t373 => ((lz_Tokens.f k t373).bind fun bt374 => ((lz_Pack.f k a1).bind fun t379 => ((lz_Tokens.f k t379).bind fun bt380 => (gantrylaw04_LzKeeps.l0 k a0 bt362.1 bt368.1 bt374.1 bt380.1 0))))))))) = some r := by rw [if_pos rfl] at H; exact H
    clear H
    have H := H1
    clear H1
    replace H := Option.bind_eq_some_iff.mp H
    obtain ⟨t361, A50, H⟩ := H
    replace H : ((lz_Tokens.f k t361).bind fun bt362 => ((lz_Pack.f k a0).bind fun t367 => ((lz_Tokens.f k t367).bind fun bt368 => ((lz_Pack.f k a1).bind fun t373 => ((lz_Tokens.f k t373).bind fun bt374 => ((lz_Pack.f k a1).bind fun t379 => ((lz_Tokens.f k t379).bind fun bt380 => (gantrylaw04_LzKeeps.l0 k a0 bt362.1 bt368.1 bt374.1 bt380.1 0)))))))) = some r := H
    have A5 := Aside0.mk A50
    clear A50
    replace H := Option.bind_eq_some_iff.mp H
    obtain ⟨⟨t362, t363, t364⟩, A60, H⟩ := H
    replace H : ((lz_Pack.f k a0).bind fun t367 => ((lz_Tokens.f k t367).bind fun bt368 => ((lz_Pack.f k a1).bind fun t373 => ((lz_Tokens.f k t373).bind fun bt374 => ((lz_Pack.f k a1).bind fun t379 => ((lz_Tokens.f k t379).bind fun bt380 => (gantrylaw04_LzKeeps.l0 k a0 t362 bt368.1 bt374.1 bt380.1 0))))))) = some r := H
    have A6 := Aside0.mk A60
    clear A60
    replace H := Option.bind_eq_some_iff.mp H
    obtain ⟨t367, A70, H⟩ := H
    replace H : ((lz_Tokens.f k t367).bind fun bt368 => ((lz_Pack.f k a1).bind fun t373 => ((lz_Tokens.f k t373).bind fun bt374 => ((lz_Pack.f k a1).bind fun t379 => ((lz_Tokens.f k t379).bind fun bt380 => (gantrylaw04_LzKeeps.l0 k a0 t362 bt368.1 bt374.1 bt380.1 0)))))) = some r := H
    have A7 := Aside0.mk A70
    clear A70
    replace H := Option.bind_eq_some_iff.mp H
    obtain ⟨⟨t368, t369, t370⟩, A80, H⟩ := H
    replace H : ((lz_Pack.f k a1).bind fun t373 => ((lz_Tokens.f k t373).bind fun bt374 => ((lz_Pack.f k a1).bind fun t379 => ((lz_Tokens.f k t379).bind fun bt380 => (gantrylaw04_LzKeeps.l0 k a0 t362 t368 bt374.1 bt380.1 0))))) = some r := H
    have A8 := Aside0.mk A80
    clear A80
    replace H := Option.bind_eq_some_iff.mp H
    obtain ⟨t373, A90, H⟩ := H
    replace H : ((lz_Tokens.f k t373).bind fun bt374 => ((lz_Pack.f k a1).bind fun t379 => ((lz_Tokens.f k t379).bind fun bt380 => (gantrylaw04_LzKeeps.l0 k a0 t362 t368 bt374.1 bt380.1 0)))) = some r := H
    have A9 := Aside0.mk A90
    clear A90
    replace H := Option.bind_eq_some_iff.mp H
    obtain ⟨⟨t374, t375, t376⟩, A100, H⟩ := H
    replace H : ((lz_Pack.f k a1).bind fun t379 => ((lz_Tokens.f k t379).bind fun bt380 => (gantrylaw04_LzKeeps.l0 k a0 t362 t368 t374 bt380.1 0))) = some r := H
    have A10 := Aside0.mk A100
    clear A100
    replace H := Option.bind_eq_some_iff.mp H
    obtain ⟨t379, A110, H⟩ := H
    replace H : ((lz_Tokens.f k t379).bind fun bt380 => (gantrylaw04_LzKeeps.l0 k a0 t362 t368 t374 bt380.1 0)) = some r := H
    have A11 := Aside0.mk A110
    clear A110
    replace H := Option.bind_eq_some_iff.mp H
    obtain ⟨⟨t380, t381, t382⟩, A120, H⟩ := H
    replace H : (gantrylaw04_LzKeeps.l0 k a0 t362 t368 t374 t380 0) = some r := H
    have A12 := Aside0.mk A120
    clear A120
    have H' := Aside0.mk H
    clear H
    go_enter Try.func11, Try.ntmps11
    go_wp2_with (first | ((with_reducible refine gate_callee (f := 12) rfl ?_); refine goesL_ (some 22) rfl rfl Try.func12 (by kernel_rfl) rfl #[] rfl (by (try simp only [List.map_toArray, List.map_cons, List.map_nil]); first | done | rfl | (simp only [List.length_drop, List.length_take]; rfl)) ?_; (with_reducible refine (gantrylaw04_fixed.calls k  true _ A3.out).mono ?_); rintro e w13 ⟨rfl, hb⟩; refine ⟨_, rfl, ?_⟩; have n0_ := Aside0.mk (below_step (by repeat (first | (with_reducible first | exact HB.out | apply below_alloc | apply pw_below_drewN | apply below_drew1) | exact HB.out)) hb); clear HB; have HB := n0_; clear n0_; (try clear hb); (try clear hb2); (try clear hk); (try clear hi)) | ((with_reducible refine gate_callee (f := 13) rfl ?_); refine goesL_ (some 26) rfl rfl Try.func13 (by kernel_rfl) rfl #[.string a0] rfl (by (try simp only [List.map_toArray, List.map_cons, List.map_nil]); first | done | rfl | (simp only [List.length_drop, List.length_take]; rfl)) ?_; (with_reducible refine (lz_Pack.calls k a0 t361 _ A5.out).mono ?_); rintro e w14 ⟨rfl, hb⟩; refine ⟨_, rfl, ?_⟩; have n0_ := Aside0.mk (below_step (by repeat (first | (with_reducible first | exact HB.out | apply below_alloc | apply pw_below_drewN | apply below_drew1) | exact HB.out)) hb); clear HB; have HB := n0_; clear n0_; (try clear hb); (try clear hb2); (try clear hk); (try clear hi)) | ((with_reducible refine gate_callee (f := 22) rfl ?_); refine goesL_ (some 27) rfl rfl Try.func22 (by kernel_rfl) rfl #[.string t361] rfl (by (try simp only [List.map_toArray, List.map_cons, List.map_nil]); first | done | rfl | (simp only [List.length_drop, List.length_take]; rfl)) ?_; (with_reducible refine (lz_Tokens.calls k t361 t362 t363 t364 _ A6.out).mono ?_); rintro e w15 ⟨v365, rfl, ho0, hb⟩; refine ⟨_, rfl, ?_⟩; have n0_ := Aside0.mk (Kd.R_lower ho0 (below_size (by repeat (first | (with_reducible first | exact HB.out | apply below_alloc | apply pw_below_drewN | apply below_drew1) | exact HB.out)))); have n1_ := Aside0.mk (below_step (by repeat (first | (with_reducible first | exact HB.out | apply below_alloc | apply pw_below_drewN | apply below_drew1) | exact HB.out)) hb); clear HB; have HO366 := n0_; have HB := n1_; clear n0_ n1_; (try clear hb); (try clear hb2); (try clear hk); (try clear hi); (try clear ho0)) | ((with_reducible refine gate_callee (f := 13) rfl ?_); refine goesL_ (some 33) rfl rfl Try.func13 (by kernel_rfl) rfl #[.string a0] rfl (by (try simp only [List.map_toArray, List.map_cons, List.map_nil]); first | done | rfl | (simp only [List.length_drop, List.length_take]; rfl)) ?_; (with_reducible refine (lz_Pack.calls k a0 t367 _ A7.out).mono ?_); rintro e w16 ⟨rfl, hb⟩; refine ⟨_, rfl, ?_⟩; have n0_ := Aside0.mk (Kd.R_below (by (with_reducible repeat (first | apply Kd.R_alloc | apply Kd.R_drewN | apply Kd.R_drew)); exact HO366.out) hb); have n1_ := Aside0.mk (below_step (by repeat (first | (with_reducible first | exact HB.out | apply below_alloc | apply pw_below_drewN | apply below_drew1) | exact HB.out)) hb); clear HO366; clear HB; have HO366 := n0_; have HB := n1_; clear n0_ n1_; (try clear hb); (try clear hb2); (try clear hk); (try clear hi)) | ((with_reducible refine gate_callee (f := 22) rfl ?_); refine goesL_ (some 34) rfl rfl Try.func22 (by kernel_rfl) rfl #[.string t367] rfl (by (try simp only [List.map_toArray, List.map_cons, List.map_nil]); first | done | rfl | (simp only [List.length_drop, List.length_take]; rfl)) ?_; (with_reducible refine (lz_Tokens.calls k t367 t368 t369 t370 _ A8.out).mono ?_); rintro e w17 ⟨v371, rfl, ho0, hb⟩; refine ⟨_, rfl, ?_⟩; have n0_ := Aside0.mk (Kd.R_elder' (by (with_reducible repeat (first | apply Kd.R_alloc | apply Kd.R_drewN | apply Kd.R_drew)); exact HO366.out) (Kd.R_base ho0) hb); have n1_ := Aside0.mk (Kd.R_lower (Kd.R_new' ho0 (Kd.R_lt (by (with_reducible repeat (first | apply Kd.R_alloc | apply Kd.R_drewN | apply Kd.R_drew)); exact HO366.out))) (below_size (by repeat (first | (with_reducible first | exact HB.out | apply below_alloc | apply pw_below_drewN | apply below_drew1) | exact HB.out)))); have n2_ := Aside0.mk (below_step (by repeat (first | (with_reducible first | exact HB.out | apply below_alloc | apply pw_below_drewN | apply below_drew1) | exact HB.out)) hb); clear HO366; clear HB; have HO366 := n0_; have HO372 := n1_; have HB := n2_; clear n0_ n1_ n2_; (try clear hb); (try clear hb2); (try clear hk); (try clear hi); (try clear ho0)) | ((with_reducible refine gate_callee (f := 13) rfl ?_); refine goesL_ (some 40) rfl rfl Try.func13 (by kernel_rfl) rfl #[.string a1] rfl (by (try simp only [List.map_toArray, List.map_cons, List.map_nil]); first | done | rfl | (simp only [List.length_drop, List.length_take]; rfl)) ?_; (with_reducible refine (lz_Pack.calls k a1 t373 _ A9.out).mono ?_); rintro e w18 ⟨rfl, hb⟩; refine ⟨_, rfl, ?_⟩; have n0_ := Aside0.mk (Kd.R_below (by (with_reducible repeat (first | apply Kd.R_alloc | apply Kd.R_drewN | apply Kd.R_drew)); exact HO366.out) hb); have n1_ := Aside0.mk (Kd.R_below (by (with_reducible repeat (first | apply Kd.R_alloc | apply Kd.R_drewN | apply Kd.R_drew)); exact HO372.out) hb); have n2_ := Aside0.mk (below_step (by repeat (first | (with_reducible first | exact HB.out | apply below_alloc | apply pw_below_drewN | apply below_drew1) | exact HB.out)) hb); clear HO366; clear HO372; clear HB; have HO366 := n0_; have HO372 := n1_; have HB := n2_; clear n0_ n1_ n2_; (try clear hb); (try clear hb2); (try clear hk); (try clear hi)) | ((with_reducible refine gate_callee (f := 22) rfl ?_); refine goesL_ (some 41) rfl rfl Try.func22 (by kernel_rfl) rfl #[.string t373] rfl (by (try simp only [List.map_toArray, List.map_cons, List.map_nil]); first | done | rfl | (simp only [List.length_drop, List.length_take]; rfl)) ?_; (with_reducible refine (lz_Tokens.calls k t373 t374 t375 t376 _ A10.out).mono ?_); rintro e w19 ⟨v377, rfl, ho0, hb⟩; refine ⟨_, rfl, ?_⟩; have n0_ := Aside0.mk (Kd.R_elder' (by (with_reducible repeat (first | apply Kd.R_alloc | apply Kd.R_drewN | apply Kd.R_drew)); exact HO366.out) (Kd.R_base ho0) hb); have n1_ := Aside0.mk (Kd.R_elder' (by (with_reducible repeat (first | apply Kd.R_alloc | apply Kd.R_drewN | apply Kd.R_drew)); exact HO372.out) (Kd.R_base ho0) hb); have n2_ := Aside0.mk (Kd.R_lower (Kd.R_new' (Kd.R_new' ho0 (Kd.R_lt (by (with_reducible repeat (first | apply Kd.R_alloc | apply Kd.R_drewN | apply Kd.R_drew)); exact HO366.out))) (Kd.R_lt (by (with_reducible repeat (first | apply Kd.R_alloc | apply Kd.R_drewN | apply Kd.R_drew)); exact HO372.out))) (below_size (by repeat (first | (with_reducible first | exact HB.out | apply below_alloc | apply pw_below_drewN | apply below_drew1) | exact HB.out)))); have n3_ := Aside0.mk (below_step (by repeat (first | (with_reducible first | exact HB.out | apply below_alloc | apply pw_below_drewN | apply below_drew1) | exact HB.out)) hb); clear HO366; clear HO372; clear HB; have HO366 := n0_; have HO372 := n1_; have HO378 := n2_; have HB := n3_; clear n0_ n1_ n2_ n3_; (try clear hb); (try clear hb2); (try clear hk); (try clear hi); (try clear ho0)) | ((with_reducible refine gate_callee (f := 13) rfl ?_); refine goesL_ (some 47) rfl rfl Try.func13 (by kernel_rfl) rfl #[.string a1] rfl (by (try simp only [List.map_toArray, List.map_cons, List.map_nil]); first | done | rfl | (simp only [List.length_drop, List.length_take]; rfl)) ?_; (with_reducible refine (lz_Pack.calls k a1 t379 _ A11.out).mono ?_); rintro e w20 ⟨rfl, hb⟩; refine ⟨_, rfl, ?_⟩; have n0_ := Aside0.mk (Kd.R_below (by (with_reducible repeat (first | apply Kd.R_alloc | apply Kd.R_drewN | apply Kd.R_drew)); exact HO366.out) hb); have n1_ := Aside0.mk (Kd.R_below (by (with_reducible repeat (first | apply Kd.R_alloc | apply Kd.R_drewN | apply Kd.R_drew)); exact HO372.out) hb); have n2_ := Aside0.mk (Kd.R_below (by (with_reducible repeat (first | apply Kd.R_alloc | apply Kd.R_drewN | apply Kd.R_drew)); exact HO378.out) hb); have n3_ := Aside0.mk (below_step (by repeat (first | (with_reducible first | exact HB.out | apply below_alloc | apply pw_below_drewN | apply below_drew1) | exact HB.out)) hb); clear HO366; clear HO372; clear HO378; clear HB; have HO366 := n0_; have HO372 := n1_; have HO378 := n2_; have HB := n3_; clear n0_ n1_ n2_ n3_; (try clear hb); (try clear hb2); (try clear hk); (try clear hi)) | ((with_reducible refine gate_callee (f := 22) rfl ?_); refine goesL_ (some 48) rfl rfl Try.func22 (by kernel_rfl) rfl #[.string t379] rfl (by (try simp only [List.map_toArray, List.map_cons, List.map_nil]); first | done | rfl | (simp only [List.length_drop, List.length_take]; rfl)) ?_; (with_reducible refine (lz_Tokens.calls k t379 t380 t381 t382 _ A12.out).mono ?_); rintro e w21 ⟨v383, rfl, ho0, hb⟩; refine ⟨_, rfl, ?_⟩; have n0_ := Aside0.mk (Kd.R_elder' (by (with_reducible repeat (first | apply Kd.R_alloc | apply Kd.R_drewN | apply Kd.R_drew)); exact HO366.out) (Kd.R_base ho0) hb); have n1_ := Aside0.mk (Kd.R_elder' (by (with_reducible repeat (first | apply Kd.R_alloc | apply Kd.R_drewN | apply Kd.R_drew)); exact HO372.out) (Kd.R_base ho0) hb); have n2_ := Aside0.mk (Kd.R_elder' (by (with_reducible repeat (first | apply Kd.R_alloc | apply Kd.R_drewN | apply Kd.R_drew)); exact HO378.out) (Kd.R_base ho0) hb); have n3_ := Aside0.mk (Kd.R_lower (Kd.R_new' (Kd.R_new' (Kd.R_new' ho0 (Kd.R_lt (by (with_reducible repeat (first | apply Kd.R_alloc | apply Kd.R_drewN | apply Kd.R_drew)); exact HO366.out))) (Kd.R_lt (by (with_reducible repeat (first | apply Kd.R_alloc | apply Kd.R_drewN | apply Kd.R_drew)); exact HO372.out))) (Kd.R_lt (by (with_reducible repeat (first | apply Kd.R_alloc | apply Kd.R_drewN | apply Kd.R_drew)); exact HO378.out))) (below_size (by repeat (first | (with_reducible first | exact HB.out | apply below_alloc | apply pw_below_drewN | apply below_drew1) | exact HB.out)))); have n4_ := Aside0.mk (below_step (by repeat (first | (with_reducible first | exact HB.out | apply below_alloc | apply pw_below_drewN | apply below_drew1) | exact HB.out)) hb); clear HO366; clear HO372; clear HO378; clear HB; have HO366 := n0_; have HO372 := n1_; have HO378 := n2_; have HO384 := n3_; have HB := n4_; clear n0_ n1_ n2_ n3_ n4_; (try clear hb); (try clear hb2); (try clear hk); (try clear hi); (try clear ho0)))
    go_loopg [17] k (fun kq v17 w' => ∃ (x5_1 : List (S49)) (x17_1 : Int), v17 = .int .i64 x17_1 ∧ Aside0 (gantrylaw04_LzKeeps.l0 kq a0 x5_1 t368 t374 t380 x17_1 = some r) ∧ Aside0 (kq ≤ k) ∧ Aside0 (Kd.R k49 49 w' w.heap.size (fun k_ => some k_ ≠ (v371 : Value).ownBlock ∧ some k_ ≠ (v377 : Value).ownBlock ∧ some k_ ≠ (v383 : Value).ownBlock) v365 x5_1) ∧ Aside0 (Kd.R k49 49 w' w.heap.size (fun k_ => some k_ ≠ (v365 : Value).ownBlock ∧ some k_ ≠ (v377 : Value).ownBlock ∧ some k_ ≠ (v383 : Value).ownBlock) v371 t368) ∧ Aside0 (Kd.R k49 49 w' w.heap.size (fun k_ => some k_ ≠ (v365 : Value).ownBlock ∧ some k_ ≠ (v371 : Value).ownBlock ∧ some k_ ≠ (v383 : Value).ownBlock) v377 t374) ∧ Aside0 (Kd.R k49 49 w' w.heap.size (fun k_ => some k_ ≠ (v365 : Value).ownBlock ∧ some k_ ≠ (v371 : Value).ownBlock ∧ some k_ ≠ (v377 : Value).ownBlock) v383 t380) ∧ Aside0 (Below w.heap.size w w'))
    case atStart => exact ⟨(t362), (0), (by first | rfl | (simp; done) | (simp [*]; done)), H', ⟨Nat.le_refl _⟩, ⟨by (with_reducible repeat (first | apply Kd.R_alloc | apply Kd.R_drewN | apply Kd.R_drew)); exact Kd.R_mono HO366.out (fun _ hk => ⟨hk.1.1.2, ⟨hk.1.2, hk.2⟩⟩)⟩, ⟨by (with_reducible repeat (first | apply Kd.R_alloc | apply Kd.R_drewN | apply Kd.R_drew)); exact Kd.R_mono HO372.out (fun _ hk => ⟨hk.1.1.2, ⟨hk.1.2, hk.2⟩⟩)⟩, ⟨by (with_reducible repeat (first | apply Kd.R_alloc | apply Kd.R_drewN | apply Kd.R_drew)); exact Kd.R_mono HO378.out (fun _ hk => ⟨hk.1.1.2, ⟨hk.1.2, hk.2⟩⟩)⟩, ⟨by (with_reducible repeat (first | apply Kd.R_alloc | apply Kd.R_drewN | apply Kd.R_drew)); exact Kd.R_mono HO384.out (fun _ hk => ⟨hk.1.1.2, ⟨hk.1.2, hk.2⟩⟩)⟩, ⟨by repeat (first | (with_reducible first | exact HB.out | apply below_alloc | apply pw_below_drewN | apply below_drew1) | exact HB.out)⟩⟩
    case round =>
      clear H'
      try clear c1
      try clear c2
      try clear p2
      try clear c4
      try clear c11
      try clear c12
      try clear c13
      obtain ⟨x5_1, x17_1, rfl, HA, HK1, HO_5, HO_8, HO_11, HO_14, HB⟩ := hrel
      cases gk with
      | zero => exact absurd HA.out (by simp [gantrylaw04_LzKeeps.l0])
      | succ k1 =>
        have H := HA.out
        clear HA
        simp only [gantrylaw04_LzKeeps.l0] at H
        by_cases c22 : x17_1 < (x5_1.length : Int)
        · rw [if_pos c22] at H
          have c22b0 : decide (x17_1 < (x5_1.length : Int)) = true := decide_eq_true c22
          clear c22
          by_cases c23 : 0 ≤ x17_1
          · rw [if_pos c23] at H
            have c23b0 : decide (0 ≤ x17_1) = true := decide_eq_true c23
            clear c23
            obtain ⟨y385, hy385⟩ : ∃ y_ : List (S49), y_ = (x5_1.set (x17_1 : Int).toNat (⟨(⟨#[]⟩ : ByteArray), (-1), 0⟩ : S49)) := ⟨_, rfl⟩
            replace H : (gantrylaw04_LzKeeps.l0 k1 a0 y385 t368 t374 t380 (wrap64 (x17_1 + 1))) = some r := by first | (rw [hy385]; with_reducible exact H) | (have H2_ := (Option.bind_some _ _).symm.trans H; rw [hy385]; with_reducible exact H2_) | (have H2_ := (Option.bind_some _ _).symm.trans H; with_reducible exact H2_) | with_reducible exact H | (rw [hy385]; exact H) | exact H
            have Ny385 := Aside0.mk hy385
            clear hy385
            have H' := Aside0.mk H
            clear H
            obtain ⟨Ao25, co25, eo25⟩ := Kd.R_slice HO_5.out
            subst eo25
            have p24 : 0 ≤ (x17_1 : Int) := of_decide_eq_true (by first | (with_reducible assumption) | assumption)
            have q24 : (x17_1 : Int) < ((x5_1.length : Int) : Int) := of_decide_eq_true (by first | (with_reducible assumption) | assumption)
            obtain ⟨go24, co24, eo24, gb24, gl24, cl24, HG24⟩ := Kd.R_form HO_5.out (by omega)
            (first | cases eo24 | (injection eo24 with ea_ en_ ec_; (first | subst ea_ | (injection ea_ with ea_; subst ea_)); subst ec_; clear en_))
            have GB24 := Aside0.mk gb24
            have GG24 := Aside0.mk HG24
            clear gb24 gl24 HG24
            obtain ⟨ce24, hcl24, hM24, hcc24, hfr24⟩ := Kd.R_elem HO_5.out z49 (x17_1 : Int) p24 q24
            obtain rfl := k49_openM hM24
            have hx24_0 : wr.cell? ⟨go24, (x17_1 : Int).toNat * 3, none⟩ = some (.string ((rd_T49 x5_1 x17_1).f0)) := hcc24 0 _ rfl
            have hx24_1 : wr.cell? ⟨go24, (x17_1 : Int).toNat * 3 + 1, none⟩ = some (.int .i64 ((rd_T49 x5_1 x17_1).f1)) := hcc24 1 _ rfl
            have hx24_2 : wr.cell? ⟨go24, (x17_1 : Int).toNat * 3 + 2, none⟩ = some (.int .i64 ((rd_T49 x5_1 x17_1).f2)) := hcc24 2 _ rfl
            have hf24_0 : wr.frozen? ⟨go24, (x17_1 : Int).toNat * 3, none⟩ = false := hfr24 0
            have hf24_1 : wr.frozen? ⟨go24, (x17_1 : Int).toNat * 3 + 1, none⟩ = false := hfr24 1
            have hf24_2 : wr.frozen? ⟨go24, (x17_1 : Int).toNat * 3 + 2, none⟩ = false := hfr24 2
            clear hcl24 hcc24 hfr24 hM24
            replace p24 := eq_true p24
            replace q24 := eq_true q24
            have HX26 := Aside0.mk (show Kd.R k49 49 wr w.heap.size (fun k_ => some k_ ≠ (v371 : Value).ownBlock ∧ some k_ ≠ (v377 : Value).ownBlock ∧ some k_ ≠ (v383 : Value).ownBlock) (.slice (some ⟨go24, 0, none⟩) x5_1.length co25) x5_1 from (by (with_reducible repeat (first | apply Kd.R_alloc | apply Kd.R_drewN | apply Kd.R_drew)); exact HO_5.out))
            obtain ⟨ce26, hcl26, hM26, hcc26, hfr26⟩ := Kd.R_elem HX26.out z49 (x17_1 : Int) (of_decide_eq_true (by first | (with_reducible assumption) | assumption)) (by have h_ : (x17_1 : Int) < ((x5_1.length : Int) : Int) := of_decide_eq_true (by first | (with_reducible assumption) | assumption); first | exact h_ | (have e_ := (Kd.R_reads' HO_5.out).1; omega) | simpa using h_)
            obtain rfl := k49_openM hM26
            have HP26 := Kd.R_seg HX26.out (x17_1 : Int) (of_decide_eq_true (by first | (with_reducible assumption) | assumption)) (by have h_ : (x17_1 : Int) < ((x5_1.length : Int) : Int) := of_decide_eq_true (by first | (with_reducible assumption) | assumption); first | exact h_ | (have e_ := (Kd.R_reads' HO_5.out).1; omega) | simpa using h_) (seg := [.string (⟨#[]⟩ : ByteArray), .int .i64 (-1), .int .i64 0]) (j := 0) hcl26 hcc26 (show 3 ≤ 3 from by decide) (x' := (⟨(⟨#[]⟩ : ByteArray), (-1), 0⟩ : S49)) (k49_mkM _ _ _ (⟨(⟨#[]⟩ : ByteArray), (-1), 0⟩ : S49) ) (fun _ hk => hk)
            have hx26_0 := hcc26 0 _ rfl
            (try simp only [show (k49).sz = 3 from rfl, Nat.mul_one, Nat.add_zero] at hx26_0)
            have hf26_0 := hfr26 0
            (try simp only [show (k49).sz = 3 from rfl, Nat.mul_one, Nat.add_zero] at hf26_0)
            have hx26_1 := hcc26 1 _ rfl
            (try simp only [show (k49).sz = 3 from rfl, Nat.mul_one, Nat.add_zero] at hx26_1)
            have hf26_1 := hfr26 1
            (try simp only [show (k49).sz = 3 from rfl, Nat.mul_one, Nat.add_zero] at hf26_1)
            have hx26_2 := hcc26 2 _ rfl
            (try simp only [show (k49).sz = 3 from rfl, Nat.mul_one, Nat.add_zero] at hx26_2)
            have hf26_2 := hfr26 2
            (try simp only [show (k49).sz = 3 from rfl, Nat.mul_one, Nat.add_zero] at hf26_2)
            clear hcl26 hcc26 hfr26 hM26
            go_wp2_with (first | ((with_reducible refine gate_store (t := 49) (p := 61) rfl ?_); refine store_event (t := 49) (p := 61) (v := ?vo_w27) (w1 := (((wr.setCell ⟨go24, (x17_1 : Int).toNat * 3, none⟩ (.string (⟨#[]⟩ : ByteArray))).setCell ⟨go24, (x17_1 : Int).toNat * 3 + 1, none⟩ (.int .i64 (-1))).setCell ⟨go24, (x17_1 : Int).toNat * 3 + 2, none⟩ (.int .i64 0))) ?hg ?ho ?hn ?hr ?_; (case ho => rfl); (case hg => rfl); (case hn => rfl); (case hr => first | (go_simp; done) | (go_simp; rfl)); intro w27 hw; have hg : wr.grownBy w27 (some go24) := (by rw [hw]; exact HP26.2); have hp_ : Kd.R k49 49 w27 w.heap.size (fun k_ => some k_ ≠ (v371 : Value).ownBlock ∧ some k_ ≠ (v377 : Value).ownBlock ∧ some k_ ≠ (v383 : Value).ownBlock) (.slice (some ⟨go24, 0, none⟩) x5_1.length co25) y385 := (by rw [hw, Ny385.out]; exact HP26.1); clear HP26; have n0_ := Aside0.mk (hp_); have n1_ := Aside0.mk (Kd.R_after (v := (.slice (some ⟨go24, 0, none⟩) x5_1.length co25)) (v1 := (.slice (some ⟨go24, 0, none⟩) x5_1.length co25)) (ok := (fun k_ => some k_ ≠ (v377 : Value).ownBlock ∧ some k_ ≠ (v383 : Value).ownBlock)) (by (with_reducible repeat (first | apply Kd.R_alloc | apply Kd.R_drewN | apply Kd.R_drew)); exact Kd.R_mono HO_8.out (fun _ hk => ⟨⟨hk.2.1, hk.2.2⟩, hk.1⟩)) hg (.inl rfl)); have n2_ := Aside0.mk (Kd.R_after (v := (.slice (some ⟨go24, 0, none⟩) x5_1.length co25)) (v1 := (.slice (some ⟨go24, 0, none⟩) x5_1.length co25)) (ok := (fun k_ => some k_ ≠ (v371 : Value).ownBlock ∧ some k_ ≠ (v383 : Value).ownBlock)) (by (with_reducible repeat (first | apply Kd.R_alloc | apply Kd.R_drewN | apply Kd.R_drew)); exact Kd.R_mono HO_11.out (fun _ hk => ⟨⟨hk.2.1, hk.2.2⟩, hk.1⟩)) hg (.inl rfl)); have n3_ := Aside0.mk (Kd.R_after (v := (.slice (some ⟨go24, 0, none⟩) x5_1.length co25)) (v1 := (.slice (some ⟨go24, 0, none⟩) x5_1.length co25)) (ok := (fun k_ => some k_ ≠ (v371 : Value).ownBlock ∧ some k_ ≠ (v377 : Value).ownBlock)) (by (with_reducible repeat (first | apply Kd.R_alloc | apply Kd.R_drewN | apply Kd.R_drew)); exact Kd.R_mono HO_14.out (fun _ hk => ⟨⟨hk.2.1, hk.2.2⟩, hk.1⟩)) hg (.inl rfl)); have n4_ := Aside0.mk ((by rw [hw]; exact below_set (below_set (below_set (HB.out) GB24.out) GB24.out) GB24.out : Below w.heap.size w w27)); clear HO_5; clear HO_8; clear HO_11; clear HO_14; clear HB; have HO_5 := n0_; have HO_8 := n1_; have HO_11 := n2_; have HO_14 := n3_; have HB := n4_; clear n0_ n1_ n2_ n3_ n4_; clear hg hw hp_))
            go_roundg k1
            case measure => have := HK1.out; omega
            case rel => exact ⟨(y385), (wrap64 (x17_1 + 1)), (by first | rfl | (simp; done) | (simp [*]; done)), H', ⟨by have := HK1.out; omega⟩, ⟨by (with_reducible repeat (first | apply Kd.R_alloc | apply Kd.R_drewN | apply Kd.R_drew)); exact HO_5.out⟩, ⟨by (with_reducible repeat (first | apply Kd.R_alloc | apply Kd.R_drewN | apply Kd.R_drew)); exact Kd.R_mono HO_8.out (fun _ hk => ⟨hk.2, ⟨hk.1.1, hk.1.2⟩⟩)⟩, ⟨by (with_reducible repeat (first | apply Kd.R_alloc | apply Kd.R_drewN | apply Kd.R_drew)); exact Kd.R_mono HO_11.out (fun _ hk => ⟨hk.2, ⟨hk.1.1, hk.1.2⟩⟩)⟩, ⟨by (with_reducible repeat (first | apply Kd.R_alloc | apply Kd.R_drewN | apply Kd.R_drew)); exact Kd.R_mono HO_14.out (fun _ hk => ⟨hk.2, ⟨hk.1.1, hk.1.2⟩⟩)⟩, ⟨by repeat (first | (with_reducible first | exact HB.out | apply below_alloc | apply pw_below_drewN | apply below_drew1) | exact HB.out)⟩⟩
          · rw [if_neg c23] at H
            exact absurd H (by simp)
        · rw [if_neg c22] at H
          have c22b0 : decide (x17_1 < (x5_1.length : Int)) = false := decide_eq_false c22
          clear c22
          have H' := Aside0.mk H
          clear H
          obtain ⟨Ao28, co28, eo28⟩ := Kd.R_slice HO_5.out
          subst eo28
          go_wp2
          go_loopg [18, 19] k1 (fun kq v18 v19 w' => ∃ (x18_2 : List (S49)) (x19_2 : Int), v19 = .int .i64 x19_2 ∧ Aside0 (gantrylaw04_LzKeeps.l1 kq a0 t368 t374 t380 x18_2 x19_2 = some r) ∧ Aside0 (kq ≤ k1) ∧ Aside0 (Kd.R k49 49 w' w.heap.size (fun k_ => some k_ ≠ (v377 : Value).ownBlock ∧ some k_ ≠ (v383 : Value).ownBlock ∧ some k_ ≠ (v18 : Value).ownBlock) v371 t368) ∧ Aside0 (Kd.R k49 49 w' w.heap.size (fun k_ => some k_ ≠ (v371 : Value).ownBlock ∧ some k_ ≠ (v383 : Value).ownBlock ∧ some k_ ≠ (v18 : Value).ownBlock) v377 t374) ∧ Aside0 (Kd.R k49 49 w' w.heap.size (fun k_ => some k_ ≠ (v371 : Value).ownBlock ∧ some k_ ≠ (v377 : Value).ownBlock ∧ some k_ ≠ (v18 : Value).ownBlock) v383 t380) ∧ Aside0 (Kd.R k49 49 w' w.heap.size (fun k_ => some k_ ≠ (v371 : Value).ownBlock ∧ some k_ ≠ (v377 : Value).ownBlock ∧ some k_ ≠ (v383 : Value).ownBlock) v18 x18_2) ∧ Aside0 (Below w.heap.size w w'))
          case atStart => exact ⟨(x5_1), (0), (by first | rfl | (simp; done) | (simp [*]; done)), H', ⟨Nat.le_refl _⟩, ⟨by (with_reducible repeat (first | apply Kd.R_alloc | apply Kd.R_drewN | apply Kd.R_drew)); exact Kd.R_mono HO_8.out (fun _ hk => ⟨hk.2.1, ⟨hk.2.2, hk.1⟩⟩)⟩, ⟨by (with_reducible repeat (first | apply Kd.R_alloc | apply Kd.R_drewN | apply Kd.R_drew)); exact Kd.R_mono HO_11.out (fun _ hk => ⟨hk.2.1, ⟨hk.2.2, hk.1⟩⟩)⟩, ⟨by (with_reducible repeat (first | apply Kd.R_alloc | apply Kd.R_drewN | apply Kd.R_drew)); exact Kd.R_mono HO_14.out (fun _ hk => ⟨hk.2.1, ⟨hk.2.2, hk.1⟩⟩)⟩, ⟨by (with_reducible repeat (first | apply Kd.R_alloc | apply Kd.R_drewN | apply Kd.R_drew)); exact HO_5.out⟩, ⟨by repeat (first | (with_reducible first | exact HB.out | apply below_alloc | apply pw_below_drewN | apply below_drew1) | exact HB.out)⟩⟩
          case round =>
            clear H'
            try clear c1
            try clear c2
            try clear p2
            try clear q2
            try clear hx2
            try clear hf2
            try clear c4
            try clear p6
            try clear c11
            try clear c12
            try clear c13
            try clear c22
            try clear c22b0
            try clear c23
            try clear c23b0
            try clear c24
            try clear p24
            try clear q24
            try clear hx24
            try clear hf24
            try clear c26
            try clear hx26
            try clear hf26
            try clear hx24_0
            try clear hx24_1
            try clear hx24_2
            try clear hx26_0
            try clear hx26_1
            try clear hx26_2
            try clear p2
            try clear p24
            try clear q24
            obtain ⟨x18_2, x19_2, rfl, HA, HK2, HO_8, HO_11, HO_14, HO_18, HB⟩ := hrel
            cases gk with
            | zero => exact absurd HA.out (by simp [gantrylaw04_LzKeeps.l1])
            | succ k2 =>
              have H := HA.out
              clear HA
              simp only [gantrylaw04_LzKeeps.l1] at H
              by_cases c29 : x19_2 < 16
              · rw [if_pos c29] at H
                have c29b0 : decide (x19_2 < 16) = true := decide_eq_true c29
                clear c29
                by_cases c30 : x18_2.length < 4398046511104
                · rw [if_pos c30] at H
                  have LMc30 := Aside0.mk c30
                  clear c30
                  obtain ⟨y386, hy386⟩ : ∃ y_ : List (S49), y_ = (x18_2 ++ [(⟨(⟨#[]⟩ : ByteArray), (-2), 0⟩ : S49)]) := ⟨_, rfl⟩
                  replace H : (gantrylaw04_LzKeeps.l1 k2 a0 t368 t374 t380 y386 (wrap64 (x19_2 + 1))) = some r := by first | (rw [hy386]; with_reducible exact H) | (have H2_ := (Option.bind_some _ _).symm.trans H; rw [hy386]; with_reducible exact H2_) | (have H2_ := (Option.bind_some _ _).symm.trans H; with_reducible exact H2_) | with_reducible exact H | (rw [hy386]; exact H) | exact H
                  have Ny386 := Aside0.mk hy386
                  clear hy386
                  have H' := Aside0.mk H
                  clear H
                  go_wp2_with (first | ((with_reducible refine gate_builtin (b := .append) (xs := #[.tmp 67, .tmp 69]) rfl ?_); at_builtin; refine Kd.R_append k49 (w0 := w) w.heap.size rfl (.tmp 67) (.tmp 69) 40 49 (.agg #[(.string ⟨#[]⟩), (.int .i64 0), (.int .i64 0)]) 32 rfl Try.underlying40 info49 rfl (by decide) (by omega) u18 x18_2 (⟨(⟨#[]⟩ : ByteArray), (-2), 0⟩ : S49) [.string (⟨#[]⟩ : ByteArray), .int .i64 (-2), .int .i64 0] (fun k_ => some k_ ≠ (v371 : Value).ownBlock ∧ some k_ ≠ (v377 : Value).ownBlock ∧ some k_ ≠ (v383 : Value).ownBlock) (fun _ => False) rfl rfl ?aP (fun _ hk => hk.elim) ?aF ?aO ?aB ?aS ?aL ?_; (case aP => exact k49_mkM _ _ _ (⟨(⟨#[]⟩ : ByteArray), (-2), 0⟩ : S49)); (case aB => exact (by repeat (first | (with_reducible first | exact HB.out | apply below_alloc | apply pw_below_drewN | apply below_drew1) | exact HB.out))); (case aF => exact (fun k_ hk => ⟨Kd.fresh' (Kd.R_lt (by (with_reducible repeat (first | apply Kd.R_alloc | apply Kd.R_drewN | apply Kd.R_drew)); exact HO_8.out)) k_ hk, Kd.fresh' (Kd.R_lt (by (with_reducible repeat (first | apply Kd.R_alloc | apply Kd.R_drewN | apply Kd.R_drew)); exact HO_11.out)) k_ hk, Kd.fresh' (Kd.R_lt (by (with_reducible repeat (first | apply Kd.R_alloc | apply Kd.R_drewN | apply Kd.R_drew)); exact HO_14.out)) k_ hk⟩)); (case aO => exact (by (with_reducible repeat (first | apply Kd.R_alloc | apply Kd.R_drewN | apply Kd.R_drew)); exact HO_18.out)); (case aS => exact (below_size (by repeat (first | (with_reducible first | exact HB.out | apply below_alloc | apply pw_below_drewN | apply below_drew1) | exact HB.out)))); (case aL => have := LMc30.out; omega); intro v387 w31 ho hb hg hat; rw [← Ny386.out] at ho; have n0_ := Aside0.mk (Kd.R_after (ok := (fun k_ => some k_ ≠ (v377 : Value).ownBlock ∧ some k_ ≠ (v383 : Value).ownBlock)) (by (with_reducible repeat (first | apply Kd.R_alloc | apply Kd.R_drewN | apply Kd.R_drew)); exact Kd.R_mono HO_8.out (fun _ hk => ⟨⟨hk.1, hk.2.1⟩, hk.2.2⟩)) hg hat); have n1_ := Aside0.mk (Kd.R_after (ok := (fun k_ => some k_ ≠ (v371 : Value).ownBlock ∧ some k_ ≠ (v383 : Value).ownBlock)) (by (with_reducible repeat (first | apply Kd.R_alloc | apply Kd.R_drewN | apply Kd.R_drew)); exact Kd.R_mono HO_11.out (fun _ hk => ⟨⟨hk.1, hk.2.1⟩, hk.2.2⟩)) hg hat); have n2_ := Aside0.mk (Kd.R_after (ok := (fun k_ => some k_ ≠ (v371 : Value).ownBlock ∧ some k_ ≠ (v377 : Value).ownBlock)) (by (with_reducible repeat (first | apply Kd.R_alloc | apply Kd.R_drewN | apply Kd.R_drew)); exact Kd.R_mono HO_14.out (fun _ hk => ⟨⟨hk.1, hk.2.1⟩, hk.2.2⟩)) hg hat); have n3_ := Aside0.mk (hb); have n4_ := Aside0.mk (ho); clear HO_8; clear HO_11; clear HO_14; clear HB; clear HO_18; have HO_8 := n0_; have HO_11 := n1_; have HO_14 := n2_; have HB := n3_; have HO388 := n4_; clear n0_ n1_ n2_ n3_ n4_; clear ho hb hg hat))
                  go_roundg k2
                  case measure => have := HK1.out; have := HK2.out; omega
                  case rel => exact ⟨(y386), (wrap64 (x19_2 + 1)), (by first | rfl | (simp; done) | (simp [*]; done)), H', ⟨by have := HK1.out; have := HK2.out; omega⟩, ⟨by (with_reducible repeat (first | apply Kd.R_alloc | apply Kd.R_drewN | apply Kd.R_drew)); exact Kd.R_mono HO_8.out (fun _ hk => ⟨hk.1.1, ⟨hk.1.2, hk.2⟩⟩)⟩, ⟨by (with_reducible repeat (first | apply Kd.R_alloc | apply Kd.R_drewN | apply Kd.R_drew)); exact Kd.R_mono HO_11.out (fun _ hk => ⟨hk.1.1, ⟨hk.1.2, hk.2⟩⟩)⟩, ⟨by (with_reducible repeat (first | apply Kd.R_alloc | apply Kd.R_drewN | apply Kd.R_drew)); exact Kd.R_mono HO_14.out (fun _ hk => ⟨hk.1.1, ⟨hk.1.2, hk.2⟩⟩)⟩, ⟨by (with_reducible repeat (first | apply Kd.R_alloc | apply Kd.R_drewN | apply Kd.R_drew)); exact HO388.out⟩, ⟨by repeat (first | (with_reducible first | exact HB.out | apply below_alloc | apply pw_below_drewN | apply below_drew1) | exact HB.out)⟩⟩
                · rw [if_neg c30] at H
                  exact absurd H (by simp)
              · rw [if_neg c29] at H
                have c29b0 : decide (x19_2 < 16) = false := decide_eq_false c29
                clear c29
                replace H := Option.bind_eq_some_iff.mp H
                obtain ⟨⟨t389, t390⟩, A320, H⟩ := H
                replace H : ((gantrylaw04_same.f k2 t374 t380).bind fun t391 => (if t391 = true then ((lz_Pack.f k2 a0).bind fun t392 => (if t389.toList = t392.toList then (some (t390 == 0)) else (some false))) else (some false))) = some r := H
                have A32 := Aside0.mk A320
                clear A320
                replace H := Option.bind_eq_some_iff.mp H
                obtain ⟨t391, A330, H⟩ := H
                replace H : (if t391 = true then ((lz_Pack.f k2 a0).bind fun t392 => (if t389.toList = t392.toList then (some (t390 == 0)) else (some false))) else (some false)) = some r := H
                have A33 := Aside0.mk A330
                clear A330
                by_cases c34 : t391 = true
                · subst c34
                  have H1 : ((lz_Pack.f k2 a0).bind fun t392 => (if t389.toList = t392.toList then (some (t390 == 0)) else (some false))) = some r := by rw [if_pos rfl] at H; exact H
                  clear H
                  have H := H1
                  clear H1
                  replace H := Option.bind_eq_some_iff.mp H
                  obtain ⟨t392, A350, H⟩ := H
                  replace H : (if t389.toList = t392.toList then (some (t390 == 0)) else (some false)) = some r := H
                  have A35 := Aside0.mk A350
                  clear A350
                  by_cases c36 : t389.toList = t392.toList
                  · rw [if_pos c36] at H
                    have c36b0 : (t389.toList == t392.toList) = true := beq_iff_eq.mpr c36
                    have c36b1 : (t389.toList != t392.toList) = false := bne_eq_false_iff_eq.mpr c36
                    clear c36
                    obtain rfl := Option.some.inj H
                    obtain ⟨Ao37, co37, eo37⟩ := Kd.R_slice HO_8.out
                    subst eo37
                    go_wp2_with (first | ((with_reducible refine gate_callee (f := 25) rfl ?_); refine goesL_ (some 73) rfl rfl Try.func25 (by kernel_rfl) rfl #[.slice Ao37 t368.length co37] rfl (by (try simp only [List.map_toArray, List.map_cons, List.map_nil]); first | done | rfl | (simp only [List.length_drop, List.length_take]; rfl)) ?_; (with_reducible refine (lz_Form.calls k2 _ _ t368 t389 t390 _ ?side1 ?side2 A32.out).mono ?_); (case side1 => repeat (first | exact (Kd.R_reads' HO_8.out).2.2 | (with_reducible refine Kd.C_alloc ?_ _) | (with_reducible refine Kd.C_drewN ?_ _) | (with_reducible refine Kd.C_drew ?_))); (case side2 => exact (Kd.R_reads' HO_8.out).2.1); rintro e w38 ⟨rfl, hb⟩; refine ⟨_, rfl, ?_⟩; have n0_ := Aside0.mk (Kd.R_below (by (with_reducible repeat (first | apply Kd.R_alloc | apply Kd.R_drewN | apply Kd.R_drew)); exact HO_8.out) hb); have n1_ := Aside0.mk (Kd.R_below (by (with_reducible repeat (first | apply Kd.R_alloc | apply Kd.R_drewN | apply Kd.R_drew)); exact HO_11.out) hb); have n2_ := Aside0.mk (Kd.R_below (by (with_reducible repeat (first | apply Kd.R_alloc | apply Kd.R_drewN | apply Kd.R_drew)); exact HO_14.out) hb); have n3_ := Aside0.mk (Kd.R_below (by (with_reducible repeat (first | apply Kd.R_alloc | apply Kd.R_drewN | apply Kd.R_drew)); exact HO_18.out) hb); have n4_ := Aside0.mk (below_step (by repeat (first | (with_reducible first | exact HB.out | apply below_alloc | apply pw_below_drewN | apply below_drew1) | exact HB.out)) hb); clear HO_8; clear HO_11; clear HO_14; clear HO_18; clear HB; have HO_8 := n0_; have HO_11 := n1_; have HO_14 := n2_; have HO_18 := n3_; have HB := n4_; clear n0_ n1_ n2_ n3_ n4_; (try clear hb); (try clear hb2); (try clear hk); (try clear hi); obtain ⟨Ao39, co39, eo39⟩ := Kd.R_slice HO_11.out; subst eo39; obtain ⟨Ao40, co40, eo40⟩ := Kd.R_slice HO_14.out; subst eo40) | ((with_reducible refine gate_callee (f := 27) rfl ?_); refine goesL_ (some 78) rfl rfl Try.func27 (by kernel_rfl) rfl #[.slice Ao39 t374.length co39, .slice Ao40 t380.length co40] rfl (by (try simp only [List.map_toArray, List.map_cons, List.map_nil]); first | done | rfl | (simp only [List.length_drop, List.length_take]; rfl)) ?_; (with_reducible refine (gantrylaw04_same.calls k2 _ _ t374 _ _ t380 true _ ?side1 ?side2 ?side3 ?side4 A33.out).mono ?_); (case side1 => repeat (first | exact (Kd.R_reads' HO_11.out).2.2 | (with_reducible refine Kd.C_alloc ?_ _) | (with_reducible refine Kd.C_drewN ?_ _) | (with_reducible refine Kd.C_drew ?_))); (case side2 => exact (Kd.R_reads' HO_11.out).2.1); (case side3 => repeat (first | exact (Kd.R_reads' HO_14.out).2.2 | (with_reducible refine Kd.C_alloc ?_ _) | (with_reducible refine Kd.C_drewN ?_ _) | (with_reducible refine Kd.C_drew ?_))); (case side4 => exact (Kd.R_reads' HO_14.out).2.1); rintro e w' ⟨rfl, ⟨nd, rfl⟩⟩; refine ⟨_, rfl, ?_⟩) | (go_at_call 13; (with_reducible refine (lz_Pack.calls k2 a0 t392 _ A35.out).mono ?_); rintro e w41 ⟨rfl, hb⟩; have n0_ := Aside0.mk (Kd.R_below (by (with_reducible repeat (first | apply Kd.R_alloc | apply Kd.R_drewN | apply Kd.R_drew)); exact HO_8.out) hb); have n1_ := Aside0.mk (Kd.R_below (by (with_reducible repeat (first | apply Kd.R_alloc | apply Kd.R_drewN | apply Kd.R_drew)); exact HO_11.out) hb); have n2_ := Aside0.mk (Kd.R_below (by (with_reducible repeat (first | apply Kd.R_alloc | apply Kd.R_drewN | apply Kd.R_drew)); exact HO_14.out) hb); have n3_ := Aside0.mk (Kd.R_below (by (with_reducible repeat (first | apply Kd.R_alloc | apply Kd.R_drewN | apply Kd.R_drew)); exact HO_18.out) hb); have n4_ := Aside0.mk (below_step (by repeat (first | (with_reducible first | exact HB.out | apply below_alloc | apply pw_below_drewN | apply below_drew1) | exact HB.out)) hb); clear HO_8; clear HO_11; clear HO_14; clear HO_18; clear HB; have HO_8 := n0_; have HO_11 := n1_; have HO_14 := n2_; have HO_18 := n3_; have HB := n4_; clear n0_ n1_ n2_ n3_ n4_; (try clear hb); (try clear hb2); (try clear hk); (try clear hi)))
                    go_ret
                    exact ⟨by first | rfl | (simp [errW_none, errW_some] <;> rfl) | (simp [*, errW_none, errW_some] <;> rfl), by repeat (first | (with_reducible first | exact HB.out | apply below_alloc | apply pw_below_drewN | apply below_drew1) | exact HB.out)⟩
                  · rw [if_neg c36] at H
                    have c36b0 : (t389.toList == t392.toList) = false := beq_eq_false_iff_ne.mpr c36
                    have c36b1 : (t389.toList != t392.toList) = true := bne_iff_ne.mpr c36
                    obtain rfl := Option.some.inj H
                    obtain ⟨Ao42, co42, eo42⟩ := Kd.R_slice HO_8.out
                    subst eo42
                    go_wp2_with (first | ((with_reducible refine gate_callee (f := 25) rfl ?_); refine goesL_ (some 73) rfl rfl Try.func25 (by kernel_rfl) rfl #[.slice Ao42 t368.length co42] rfl (by (try simp only [List.map_toArray, List.map_cons, List.map_nil]); first | done | rfl | (simp only [List.length_drop, List.length_take]; rfl)) ?_; (with_reducible refine (lz_Form.calls k2 _ _ t368 t389 t390 _ ?side1 ?side2 A32.out).mono ?_); (case side1 => repeat (first | exact (Kd.R_reads' HO_8.out).2.2 | (with_reducible refine Kd.C_alloc ?_ _) | (with_reducible refine Kd.C_drewN ?_ _) | (with_reducible refine Kd.C_drew ?_))); (case side2 => exact (Kd.R_reads' HO_8.out).2.1); rintro e w43 ⟨rfl, hb⟩; refine ⟨_, rfl, ?_⟩; have n0_ := Aside0.mk (Kd.R_below (by (with_reducible repeat (first | apply Kd.R_alloc | apply Kd.R_drewN | apply Kd.R_drew)); exact HO_8.out) hb); have n1_ := Aside0.mk (Kd.R_below (by (with_reducible repeat (first | apply Kd.R_alloc | apply Kd.R_drewN | apply Kd.R_drew)); exact HO_11.out) hb); have n2_ := Aside0.mk (Kd.R_below (by (with_reducible repeat (first | apply Kd.R_alloc | apply Kd.R_drewN | apply Kd.R_drew)); exact HO_14.out) hb); have n3_ := Aside0.mk (Kd.R_below (by (with_reducible repeat (first | apply Kd.R_alloc | apply Kd.R_drewN | apply Kd.R_drew)); exact HO_18.out) hb); have n4_ := Aside0.mk (below_step (by repeat (first | (with_reducible first | exact HB.out | apply below_alloc | apply pw_below_drewN | apply below_drew1) | exact HB.out)) hb); clear HO_8; clear HO_11; clear HO_14; clear HO_18; clear HB; have HO_8 := n0_; have HO_11 := n1_; have HO_14 := n2_; have HO_18 := n3_; have HB := n4_; clear n0_ n1_ n2_ n3_ n4_; (try clear hb); (try clear hb2); (try clear hk); (try clear hi); obtain ⟨Ao44, co44, eo44⟩ := Kd.R_slice HO_11.out; subst eo44; obtain ⟨Ao45, co45, eo45⟩ := Kd.R_slice HO_14.out; subst eo45) | ((with_reducible refine gate_callee (f := 27) rfl ?_); refine goesL_ (some 78) rfl rfl Try.func27 (by kernel_rfl) rfl #[.slice Ao44 t374.length co44, .slice Ao45 t380.length co45] rfl (by (try simp only [List.map_toArray, List.map_cons, List.map_nil]); first | done | rfl | (simp only [List.length_drop, List.length_take]; rfl)) ?_; (with_reducible refine (gantrylaw04_same.calls k2 _ _ t374 _ _ t380 true _ ?side1 ?side2 ?side3 ?side4 A33.out).mono ?_); (case side1 => repeat (first | exact (Kd.R_reads' HO_11.out).2.2 | (with_reducible refine Kd.C_alloc ?_ _) | (with_reducible refine Kd.C_drewN ?_ _) | (with_reducible refine Kd.C_drew ?_))); (case side2 => exact (Kd.R_reads' HO_11.out).2.1); (case side3 => repeat (first | exact (Kd.R_reads' HO_14.out).2.2 | (with_reducible refine Kd.C_alloc ?_ _) | (with_reducible refine Kd.C_drewN ?_ _) | (with_reducible refine Kd.C_drew ?_))); (case side4 => exact (Kd.R_reads' HO_14.out).2.1); rintro e w' ⟨rfl, ⟨nd, rfl⟩⟩; refine ⟨_, rfl, ?_⟩) | (go_at_call 13; (with_reducible refine (lz_Pack.calls k2 a0 t392 _ A35.out).mono ?_); rintro e w46 ⟨rfl, hb⟩; have n0_ := Aside0.mk (Kd.R_below (by (with_reducible repeat (first | apply Kd.R_alloc | apply Kd.R_drewN | apply Kd.R_drew)); exact HO_8.out) hb); have n1_ := Aside0.mk (Kd.R_below (by (with_reducible repeat (first | apply Kd.R_alloc | apply Kd.R_drewN | apply Kd.R_drew)); exact HO_11.out) hb); have n2_ := Aside0.mk (Kd.R_below (by (with_reducible repeat (first | apply Kd.R_alloc | apply Kd.R_drewN | apply Kd.R_drew)); exact HO_14.out) hb); have n3_ := Aside0.mk (Kd.R_below (by (with_reducible repeat (first | apply Kd.R_alloc | apply Kd.R_drewN | apply Kd.R_drew)); exact HO_18.out) hb); have n4_ := Aside0.mk (below_step (by repeat (first | (with_reducible first | exact HB.out | apply below_alloc | apply pw_below_drewN | apply below_drew1) | exact HB.out)) hb); clear HO_8; clear HO_11; clear HO_14; clear HO_18; clear HB; have HO_8 := n0_; have HO_11 := n1_; have HO_14 := n2_; have HO_18 := n3_; have HB := n4_; clear n0_ n1_ n2_ n3_ n4_; (try clear hb); (try clear hb2); (try clear hk); (try clear hi)))
                    go_ret
                    exact ⟨by first | rfl | (simp [errW_none, errW_some] <;> rfl) | (simp [*, errW_none, errW_some] <;> rfl), by repeat (first | (with_reducible first | exact HB.out | apply below_alloc | apply pw_below_drewN | apply below_drew1) | exact HB.out)⟩
                · replace c34 := Bool.eq_false_iff.mpr c34
                  subst c34
                  have H1 : (some false) = some r := by rw [if_neg (show ¬ (false = true) by decide)] at H; exact H
                  clear H
                  have H := H1
                  clear H1
                  obtain rfl := Option.some.inj H
                  obtain ⟨Ao47, co47, eo47⟩ := Kd.R_slice HO_8.out
                  subst eo47
                  go_wp2_with (first | ((with_reducible refine gate_callee (f := 25) rfl ?_); refine goesL_ (some 73) rfl rfl Try.func25 (by kernel_rfl) rfl #[.slice Ao47 t368.length co47] rfl (by (try simp only [List.map_toArray, List.map_cons, List.map_nil]); first | done | rfl | (simp only [List.length_drop, List.length_take]; rfl)) ?_; (with_reducible refine (lz_Form.calls k2 _ _ t368 t389 t390 _ ?side1 ?side2 A32.out).mono ?_); (case side1 => repeat (first | exact (Kd.R_reads' HO_8.out).2.2 | (with_reducible refine Kd.C_alloc ?_ _) | (with_reducible refine Kd.C_drewN ?_ _) | (with_reducible refine Kd.C_drew ?_))); (case side2 => exact (Kd.R_reads' HO_8.out).2.1); rintro e w48 ⟨rfl, hb⟩; refine ⟨_, rfl, ?_⟩; have n0_ := Aside0.mk (Kd.R_below (by (with_reducible repeat (first | apply Kd.R_alloc | apply Kd.R_drewN | apply Kd.R_drew)); exact HO_8.out) hb); have n1_ := Aside0.mk (Kd.R_below (by (with_reducible repeat (first | apply Kd.R_alloc | apply Kd.R_drewN | apply Kd.R_drew)); exact HO_11.out) hb); have n2_ := Aside0.mk (Kd.R_below (by (with_reducible repeat (first | apply Kd.R_alloc | apply Kd.R_drewN | apply Kd.R_drew)); exact HO_14.out) hb); have n3_ := Aside0.mk (Kd.R_below (by (with_reducible repeat (first | apply Kd.R_alloc | apply Kd.R_drewN | apply Kd.R_drew)); exact HO_18.out) hb); have n4_ := Aside0.mk (below_step (by repeat (first | (with_reducible first | exact HB.out | apply below_alloc | apply pw_below_drewN | apply below_drew1) | exact HB.out)) hb); clear HO_8; clear HO_11; clear HO_14; clear HO_18; clear HB; have HO_8 := n0_; have HO_11 := n1_; have HO_14 := n2_; have HO_18 := n3_; have HB := n4_; clear n0_ n1_ n2_ n3_ n4_; (try clear hb); (try clear hb2); (try clear hk); (try clear hi); obtain ⟨Ao49, co49, eo49⟩ := Kd.R_slice HO_11.out; subst eo49; obtain ⟨Ao50, co50, eo50⟩ := Kd.R_slice HO_14.out; subst eo50) | ((with_reducible refine gate_callee (f := 27) rfl ?_); refine goesL_ (some 78) rfl rfl Try.func27 (by kernel_rfl) rfl #[.slice Ao49 t374.length co49, .slice Ao50 t380.length co50] rfl (by (try simp only [List.map_toArray, List.map_cons, List.map_nil]); first | done | rfl | (simp only [List.length_drop, List.length_take]; rfl)) ?_; (with_reducible refine (gantrylaw04_same.calls k2 _ _ t374 _ _ t380 false _ ?side1 ?side2 ?side3 ?side4 A33.out).mono ?_); (case side1 => repeat (first | exact (Kd.R_reads' HO_11.out).2.2 | (with_reducible refine Kd.C_alloc ?_ _) | (with_reducible refine Kd.C_drewN ?_ _) | (with_reducible refine Kd.C_drew ?_))); (case side2 => exact (Kd.R_reads' HO_11.out).2.1); (case side3 => repeat (first | exact (Kd.R_reads' HO_14.out).2.2 | (with_reducible refine Kd.C_alloc ?_ _) | (with_reducible refine Kd.C_drewN ?_ _) | (with_reducible refine Kd.C_drew ?_))); (case side4 => exact (Kd.R_reads' HO_14.out).2.1); rintro e w' ⟨rfl, ⟨nd, rfl⟩⟩; refine ⟨_, rfl, ?_⟩))
                  go_ret
                  exact ⟨by first | rfl | (simp [errW_none, errW_some] <;> rfl) | (simp [*, errW_none, errW_some] <;> rfl), by repeat (first | (with_reducible first | exact HB.out | apply below_alloc | apply pw_below_drewN | apply below_drew1) | exact HB.out)⟩
  · replace c4 := Bool.eq_false_iff.mpr c4
    subst c4
    have H1 : (some false) = some r := by rw [if_neg (show ¬ (false = true) by decide)] at H; exact H
    clear H
    have H := H1
    clear H1
    obtain rfl := Option.some.inj H
    go_enter Try.func11, Try.ntmps11
    go_wp2_with (first | ((with_reducible refine gate_callee (f := 12) rfl ?_); refine goesL_ (some 22) rfl rfl Try.func12 (by kernel_rfl) rfl #[] rfl (by (try simp only [List.map_toArray, List.map_cons, List.map_nil]); first | done | rfl | (simp only [List.length_drop, List.length_take]; rfl)) ?_; (with_reducible refine (gantrylaw04_fixed.calls k  false _ A3.out).mono ?_); rintro e w51 ⟨rfl, hb⟩; refine ⟨_, rfl, ?_⟩; have n0_ := Aside0.mk (below_step (by repeat (first | (with_reducible first | exact HB.out | apply below_alloc | apply pw_below_drewN | apply below_drew1) | exact HB.out)) hb); clear HB; have HB := n0_; clear n0_; (try clear hb); (try clear hb2); (try clear hk); (try clear hi)))
    go_ret
    exact ⟨by first | rfl | (simp [errW_none, errW_some] <;> rfl) | (simp [*, errW_none, errW_some] <;> rfl), by repeat (first | (with_reducible first | exact HB.out | apply below_alloc | apply pw_below_drewN | apply below_drew1) | exact HB.out)⟩

/-- THE ONE PURE STATEMENT of gantrylaw04_LzKeeps: yours. -/
def gantrylaw04_LzKeeps.Pure : Prop := ∀ (a0 : ByteArray) (a1 : ByteArray), a0.size ≤ 140737488351232 → a1.size ≤ 140737488351232 → ∃ k, gantrylaw04_LzKeeps.f k a0 a1 = some true
theorem gantrylaw04_LzKeeps.walk (P : gantrylaw04_LzKeeps.Pure) (a0 : ByteArray) (a1 : ByteArray) (w : World) (w0 : a0.size ≤ 140737488351232) (w1 : a1.size ≤ 140737488351232) :
    Calls Try.prog 11 #[.string a0, .string a1] w fun e w' => e = .returned (.bool true) ∧ Below w.heap.size w w' := by
  obtain ⟨k, h⟩ := P a0 a1 w0 w1
  refine (gantrylaw04_LzKeeps.calls k a0 a1 true w h).mono ?_
  rintro e w' ⟨rfl, hd⟩
  exact ⟨rfl, hd⟩
end Go.Proofs.Ytgnoaokpahklaaa.QB
