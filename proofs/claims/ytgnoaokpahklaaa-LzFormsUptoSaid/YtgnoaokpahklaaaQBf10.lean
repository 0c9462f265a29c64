/- The machine side of a law, written by a program of this session (the kit printer, changed; wip/tools/mkprint.py): functions, their calls, the row. Lean checks it. -/
import Derived.Test.YtgnoaokpahklaaaQBx0
import Derived.Test.YtgnoaokpahklaaaQBf12
import Derived.Test.YtgnoaokpahklaaaQBf27
import Derived.Test.YtgnoaokpahklaaaQBf25
import Derived.Test.YtgnoaokpahklaaaQBf22
import Derived.Test.YtgnoaokpahklaaaQBf19
namespace Go.Proofs.Ytgnoaokpahklaaa.QB
open Go.RowKit Go.Proofs.YtgnoaokpahklaaaW.PrintWords Go.Proofs.YtgnoaokpahklaaaW.PrintLast Go.Proofs.YtgnoaokpahklaaaW.PrintMore
attribute [local go_sem] max2_int min2_int max_two min_two max_three min_three max_four min_four   -- for this text's walks alone
set_option linter.unusedVariables false
set_option linter.unusedSimpArgs false
/-! ### gantrylaw04_LzForms: function 10 -/
mutual
def gantrylaw04_LzForms.j0 : Nat → List (S49) → ByteArray → Bool → Option (Bool)
  | 0, _, _, _ => none
  | k + 1, x0, x3, x56 => if x56 = true then (some false) else (gantrylaw04_LzForms.l0 k x0 x3 ([] : List Int) 0)
def gantrylaw04_LzForms.l0 : Nat → List (S49) → ByteArray → List Int → Int → Option (Bool)
  | 0, _, _, _, _ => none
  | k + 1, x0, x3, x7, x8 => if x8 < (x0.length : Int) then (if 0 ≤ x8 then (if ((rd_T49 x0 x8).f2) > (x7.length : Int) then ((lz_Unpack.f k x3 1099511627776 1099511627776).bind fun bt351 => (if bt351.1.toList = ([] : List UInt8) then (some (bt351.2 == 25)) else (some false))) else (if x7.length + ((rd_T49 x0 x8).f0).size < 140737488355328 then (gantrylaw04_LzForms.l1 k x0 x3 (x7 ++ bytesOf ((rd_T49 x0 x8).f0)) x8 0 ((rd_T49 x0 x8).f0) ((rd_T49 x0 x8).f1) ((rd_T49 x0 x8).f2)) else (none))) else (none)) else ((lz_Unpack.f k x3 (x7.length : Int) (x7.length : Int)).bind fun bt347 => (if bt347.1.toList = (strOfNums x7).toList then (some (bt347.2 == 0)) else (some false)))
def gantrylaw04_LzForms.l1 : Nat → List (S49) → ByteArray → List Int → Int → Int → ByteArray → Int → Int → Option (Bool)
  | 0, _, _, _, _, _, _, _, _ => none
  | k + 1, x0, x3, x7, x8, x12, x351000, x351001, x351002 => if x12 < x351001 then (if 0 ≤ (wrap64 ((x7.length : Int) - x351002)) then (if (wrap64 ((x7.length : Int) - x351002)) < (x7.length : Int) then (if x7.length < 140737488355328 then (gantrylaw04_LzForms.l1 k x0 x3 (x7 ++ [rd x7 (wrap64 ((x7.length : Int) - x351002))]) x8 (wrap64 (x12 + 1)) x351000 x351001 x351002) else (none)) else (none)) else (none)) else (gantrylaw04_LzForms.l0 k x0 x3 x7 (wrap64 (x8 + 1)))
end
def gantrylaw04_LzForms.f (k : Nat) (l0 : List (S49)) : Option (Bool) := (gantrylaw04_fixed.f k).bind fun t332 => (if t332 = true then ((some (([] : List (S49)) : List (S49))).bind fun y333 => (if y333.length + l0.length < 4398046511104 then ((lz_Form.f k (y333 ++ l0)).bind fun bt339 => (if bt339.2 = 0 then ((lz_Tokens.f k bt339.1).bind fun bt341 => ((gantrylaw04_same.f k bt341.1 l0).bind fun t346 => (if t346 = true then (if bt341.2.1 = (bt339.1.size : Int) then (gantrylaw04_LzForms.j0 k l0 bt339.1 (bt341.2.2 != 0)) else (gantrylaw04_LzForms.j0 k l0 bt339.1 true)) else (gantrylaw04_LzForms.j0 k l0 bt339.1 true)))) else (if bt339.1.toList = ([] : List UInt8) then (if bt339.2 = 1 then (some (decide ((l0.length : Int) > 0))) else (some false)) else (some false)))) else (none))) else (some false))
theorem gantrylaw04_LzForms.mono_l : ∀ k, (∀ y0 y1 y2, LeO (gantrylaw04_LzForms.j0 k y0 y1 y2) (gantrylaw04_LzForms.j0 (k + 1) y0 y1 y2)) ∧ (∀ y0 y1 y2 y3, LeO (gantrylaw04_LzForms.l0 k y0 y1 y2 y3) (gantrylaw04_LzForms.l0 (k + 1) y0 y1 y2 y3)) ∧ (∀ y0 y1 y2 y3 y4 y5 y6 y7, LeO (gantrylaw04_LzForms.l1 k y0 y1 y2 y3 y4 y5 y6 y7) (gantrylaw04_LzForms.l1 (k + 1) y0 y1 y2 y3 y4 y5 y6 y7))
  | 0 => ⟨fun _ _ _ r h => by simp [gantrylaw04_LzForms.j0] at h, fun _ _ _ _ r h => by simp [gantrylaw04_LzForms.l0] at h, fun _ _ _ _ _ _ _ _ r h => by simp [gantrylaw04_LzForms.l1] at h⟩
  | k + 1 => by
    obtain ⟨ih0, ih1, ih2⟩ := gantrylaw04_LzForms.mono_l k
    refine ⟨?_, ?_, ?_⟩
    · intro y0 y1 y2
      unfold gantrylaw04_LzForms.j0
      repeat' first
      | (with_reducible exact ih0 _ _ _)
      | (with_reducible exact ih1 _ _ _ _)
      | (with_reducible exact ih2 _ _ _ _ _ _ _ _)
      | (with_reducible exact gantrylaw04_fixed.mono _)
      | (with_reducible exact gantrylaw04_same.mono _ _ _)
      | (with_reducible exact lz_Form.mono _ _)
      | (with_reducible exact lz_Tokens.mono _ _)
      | (with_reducible exact lz_Unpack.mono _ _ _ _)
      | (with_reducible exact LeO.refl _)
      | (with_reducible exact LeO.none _)
      | (with_reducible refine LeO.ite ?_ ?_)
      | (with_reducible refine LeO.bind ?_ (fun _ => ?_))
      | exact ih0 _ _ _
      | exact ih1 _ _ _ _
      | exact ih2 _ _ _ _ _ _ _ _
      | exact gantrylaw04_fixed.mono _
      | exact gantrylaw04_same.mono _ _ _
      | exact lz_Form.mono _ _
      | exact lz_Tokens.mono _ _
      | exact lz_Unpack.mono _ _ _ _
      | exact LeO.none _
      | refine LeO.ite ?_ ?_
      | refine LeO.bind ?_ (fun _ => ?_)
    · intro y0 y1 y2 y3
      unfold gantrylaw04_LzForms.l0
      repeat' first
      | (with_reducible exact ih0 _ _ _)
      | (with_reducible exact ih1 _ _ _ _)
      | (with_reducible exact ih2 _ _ _ _ _ _ _ _)
      | (with_reducible exact gantrylaw04_fixed.mono _)
      | (with_reducible exact gantrylaw04_same.mono _ _ _)
      | (with_reducible exact lz_Form.mono _ _)
      | (with_reducible exact lz_Tokens.mono _ _)
      | (with_reducible exact lz_Unpack.mono _ _ _ _)
      | (with_reducible exact LeO.refl _)
      | (with_reducible exact LeO.none _)
      | (with_reducible refine LeO.ite ?_ ?_)
      | (with_reducible refine LeO.bind ?_ (fun _ => ?_))
      | exact ih0 _ _ _
      | exact ih1 _ _ _ _
      | exact ih2 _ _ _ _ _ _ _ _
      | exact gantrylaw04_fixed.mono _
      | exact gantrylaw04_same.mono _ _ _
      | exact lz_Form.mono _ _
      | exact lz_Tokens.mono _ _
      | exact lz_Unpack.mono _ _ _ _
      | exact LeO.none _
      | refine LeO.ite ?_ ?_
      | refine LeO.bind ?_ (fun _ => ?_)
    · intro y0 y1 y2 y3 y4 y5 y6 y7
      unfold gantrylaw04_LzForms.l1
      repeat' first
      | (with_reducible exact ih0 _ _ _)
      | (with_reducible exact ih1 _ _ _ _)
      | (with_reducible exact ih2 _ _ _ _ _ _ _ _)
      | (with_reducible exact gantrylaw04_fixed.mono _)
      | (with_reducible exact gantrylaw04_same.mono _ _ _)
      | (with_reducible exact lz_Form.mono _ _)
      | (with_reducible exact lz_Tokens.mono _ _)
      | (with_reducible exact lz_Unpack.mono _ _ _ _)
      | (with_reducible exact LeO.refl _)
      | (with_reducible exact LeO.none _)
      | (with_reducible refine LeO.ite ?_ ?_)
      | (with_reducible refine LeO.bind ?_ (fun _ => ?_))
      | exact ih0 _ _ _
      | exact ih1 _ _ _ _
      | exact ih2 _ _ _ _ _ _ _ _
      | exact gantrylaw04_fixed.mono _
      | exact gantrylaw04_same.mono _ _ _
      | exact lz_Form.mono _ _
      | exact lz_Tokens.mono _ _
      | exact lz_Unpack.mono _ _ _ _
      | exact LeO.none _
      | refine LeO.ite ?_ ?_
      | refine LeO.bind ?_ (fun _ => ?_)
theorem gantrylaw04_LzForms.mono : ∀ a0 k, LeO (gantrylaw04_LzForms.f k a0) (gantrylaw04_LzForms.f (k + 1) a0) := by
  intro a0 k
  obtain ⟨ih0, ih1, ih2⟩ := gantrylaw04_LzForms.mono_l k
  unfold gantrylaw04_LzForms.f
  repeat' first
      | (with_reducible exact ih0 _ _ _)
      | (with_reducible exact ih1 _ _ _ _)
      | (with_reducible exact ih2 _ _ _ _ _ _ _ _)
      | (with_reducible exact gantrylaw04_fixed.mono _)
      | (with_reducible exact gantrylaw04_same.mono _ _ _)
      | (with_reducible exact lz_Form.mono _ _)
      | (with_reducible exact lz_Tokens.mono _ _)
      | (with_reducible exact lz_Unpack.mono _ _ _ _)
      | (with_reducible exact LeO.refl _)
      | (with_reducible exact LeO.none _)
      | (with_reducible refine LeO.ite ?_ ?_)
      | (with_reducible refine LeO.bind ?_ (fun _ => ?_))
      | exact ih0 _ _ _
      | exact ih1 _ _ _ _
      | exact ih2 _ _ _ _ _ _ _ _
      | exact gantrylaw04_fixed.mono _
      | exact gantrylaw04_same.mono _ _ _
      | exact lz_Form.mono _ _
      | exact lz_Tokens.mono _ _
      | exact lz_Unpack.mono _ _ _ _
      | exact LeO.none _
      | refine LeO.ite ?_ ?_
      | refine LeO.bind ?_ (fun _ => ?_)
set_option maxHeartbeats 8000000 in
set_option maxRecDepth 100000 in
theorem gantrylaw04_LzForms.calls (k : Nat) (A0 : Option Addr) (c0 : Nat) (l0 : List (S49)) (r : Bool) (w : World) (hr0 : Kd.C k49 w A0 l0.length l0) (hc0 : l0.length ≤ c0) (h : gantrylaw04_LzForms.f k l0 = some r) :
    Calls Try.prog 10 #[.slice A0 l0.length c0] w fun e w' => e = .returned (.bool r) ∧ Below w.heap.size w w' := by
  have hu49 := Try.underlying49
  have HR0 := Aside0.mk hr0
  have HC0 := Aside0.mk hc0
  clear hr0 hc0
  have HB := Aside0.mk (Below.refl w.heap.size w)
  have H : ((gantrylaw04_fixed.f k).bind fun t332 => (if t332 = true then ((some (([] : List (S49)) : List (S49))).bind fun y333 => (if y333.length + l0.length < 4398046511104 then ((lz_Form.f k (y333 ++ l0)).bind fun bt339 => (if bt339.2 = 0 then ((lz_Tokens.f k bt339.1).bind fun bt341 => ((gantrylaw04_same.f k bt341.1 l0).bind fun t346 => (if t346 = true then (if bt341.2.1 = (bt339.1.size : Int) then (gantrylaw04_LzForms.j0 k l0 bt339.1 (bt341.2.2 != 0)) else (gantrylaw04_LzForms.j0 k l0 bt339.1 true)) else (gantrylaw04_LzForms.j0 k l0 bt339.1 true)))) else (if bt339.1.toList = ([] : List UInt8) then (if bt339.2 = 1 then (some (decide ((l0.length : Int) > 0))) else (some false)) else (some false)))) else (none))) else (some false))) = some r := h
  clear h
  replace H := Option.bind_eq_some_iff.mp H
  obtain ⟨t332, A20, H⟩ := H
  replace H : (if t332 = true then ((some (([] : List (S49)) : List (S49))).bind fun y333 => (if y333.length + l0.length < 4398046511104 then ((lz_Form.f k (y333 ++ l0)).bind fun bt339 => (if bt339.2 = 0 then ((lz_Tokens.f k bt339.1).bind fun bt341 => ((gantrylaw04_same.f k bt341.1 l0).bind fun t346 => (if t346 = true then (if bt341.2.1 = (bt339.1.size : Int) then (gantrylaw04_LzForms.j0 k l0 bt339.1 (bt341.2.2 != 0)) else (gantrylaw04_LzForms.j0 k l0 bt339.1 true)) else (gantrylaw04_LzForms.j0 k l0 bt339.1 true)))) else (if bt339.1.toList = ([] : List UInt8) then (if bt339.2 = 1 then (some (decide ((l0.length : Int) > 0))) else (some false)) else (some false)))) else (none))) else (some false)) = some r := H
  have A2 := Aside0.mk A20
  clear A20
  by_cases c3 : t332 = true
  · subst c3
    have H1 : ((some (([] : List (S49)) : List (S49))).bind fun y333 => (if y333.length + l0.length < 4398046511104 then ((lz_Form.f k (y333 ++ l0)).bind fun bt339 => (if bt339.2 = 0 then ((lz_Tokens.f k bt339.1).bind fun bt341 => ((gantrylaw04_same.f k bt341.1 l0).bind fun t346 => (if t346 = true then (if bt341.2.1 = (bt339.1.size : Int) then (gantrylaw04_LzForms.j0 k l0 bt339.1 (bt341.2.2 != 0)) else (gantrylaw04_LzForms.j0 k l0 bt339.1 true)) else (gantrylaw04_LzForms.j0 k l0 bt339.1 true)))) else (if bt339.1.toList = ([] : List UInt8) then (if bt339.2 = 1 then (some (decide ((l0.length : Int) > 0))) else (some false)) else (some false)))) else (none))) = some r := by rw [if_pos rfl] at H; exact H
    clear H
    have H := H1
    clear H1
    obtain ⟨y333, hy333⟩ : ∃ y_ : List (S49), y_ = (([] : List (S49))) := ⟨_, rfl⟩
    replace H : (if y333.length + l0.length < 4398046511104 then ((lz_Form.f k (y333 ++ l0)).bind fun bt339 => (if bt339.2 = 0 then ((lz_Tokens.f k bt339.1).bind fun bt341 => ((gantrylaw04_same.f k bt341.1 l0).bind fun t346 => (if t346 = true then (if bt341.2.1 = (bt339.1.size : Int) then (gantrylaw04_LzForms.j0 k l0 bt339.1 (bt341.2.2 != 0)) else (gantrylaw04_LzForms.j0 k l0 bt339.1 true)) else (gantrylaw04_LzForms.j0 k l0 bt339.1 true)))) else (if bt339.1.toList = ([] : List UInt8) then (if bt339.2 = 1 then (some (decide ((l0.length : Int) > 0))) else (some false)) else (some false)))) else (none)) = some r := by first | (rw [hy333]; with_reducible exact H) | (have H2_ := (Option.bind_some _ _).symm.trans H; rw [hy333]; with_reducible exact H2_) | (have H2_ := (Option.bind_some _ _).symm.trans H; with_reducible exact H2_) | with_reducible exact H | (rw [hy333]; exact H) | exact H
    have Ny333 := Aside0.mk hy333
    clear hy333
    by_cases c4 : y333.length + l0.length < 4398046511104
    · rw [if_pos c4] at H
      have LMc4 := Aside0.mk c4
      clear c4
      obtain ⟨y336, hy336⟩ : ∃ y_ : List (S49), y_ = (y333 ++ l0) := ⟨_, rfl⟩
      replace H : ((lz_Form.f k y336).bind fun bt339 => (if bt339.2 = 0 then ((lz_Tokens.f k bt339.1).bind fun bt341 => ((gantrylaw04_same.f k bt341.1 l0).bind fun t346 => (if t346 = true then (if bt341.2.1 = (bt339.1.size : Int) then (gantrylaw04_LzForms.j0 k l0 bt339.1 (bt341.2.2 != 0)) else (gantrylaw04_LzForms.j0 k l0 bt339.1 true)) else (gantrylaw04_LzForms.j0 k l0 bt339.1 true)))) else (if bt339.1.toList = ([] : List UInt8) then (if bt339.2 = 1 then (some (decide ((l0.length : Int) > 0))) else (some false)) else (some false)))) = some r := by first | (rw [hy336]; with_reducible exact H) | (have H2_ := (Option.bind_some _ _).symm.trans H; rw [hy336]; with_reducible exact H2_) | (have H2_ := (Option.bind_some _ _).symm.trans H; with_reducible exact H2_) | with_reducible exact H | (rw [hy336]; exact H) | exact H
      have Ny336 := Aside0.mk hy336
      clear hy336
      replace H := Option.bind_eq_some_iff.mp H
      obtain ⟨⟨t339, t340⟩, A50, H⟩ := H
      replace H : (if t340 = 0 then ((lz_Tokens.f k t339).bind fun bt341 => ((gantrylaw04_same.f k bt341.1 l0).bind fun t346 => (if t346 = true then (if bt341.2.1 = (t339.size : Int) then (gantrylaw04_LzForms.j0 k l0 t339 (bt341.2.2 != 0)) else (gantrylaw04_LzForms.j0 k l0 t339 true)) else (gantrylaw04_LzForms.j0 k l0 t339 true)))) else (if t339.toList = ([] : List UInt8) then (if t340 = 1 then (some (decide ((l0.length : Int) > 0))) else (some false)) else (some false))) = some r := H
      have A5 := Aside0.mk A50
      clear A50
      by_cases c6 : t340 = 0
      · rw [if_pos c6] at H
        have c6b0 : (t340 == 0) = true := beq_iff_eq.mpr c6
        have c6b1 : (t340 != 0) = false := bne_eq_false_iff_eq.mpr c6
        clear c6
        replace H := Option.bind_eq_some_iff.mp H
        obtain ⟨⟨t341, t342, t343⟩, A70, H⟩ := H
        replace H : ((gantrylaw04_same.f k t341 l0).bind fun t346 => (if t346 = true then (if t342 = (t339.size : Int) then (gantrylaw04_LzForms.j0 k l0 t339 (t343 != 0)) else (gantrylaw04_LzForms.j0 k l0 t339 true)) else (gantrylaw04_LzForms.j0 k l0 t339 true))) = some r := H
        have A7 := Aside0.mk A70
        clear A70
        have HC8 := Aside0.mk H
        clear H
        go_enter Try.func10, Try.ntmps10
        go_upto_region 7 with (first | ((with_reducible refine gate_callee (f := 12) rfl ?_); refine goesL_ (some 15) rfl rfl Try.func12 (by kernel_rfl) rfl #[] rfl (by (try simp only [List.map_toArray, List.map_cons, List.map_nil]); first | done | rfl | (simp only [List.length_drop, List.length_take]; rfl)) ?_; (with_reducible refine (gantrylaw04_fixed.calls k  true _ A2.out).mono ?_); rintro e w9 ⟨rfl, hb⟩; refine ⟨_, rfl, ?_⟩; have n0_ := Aside0.mk (below_step (by repeat (first | (with_reducible first | exact HB.out | apply below_alloc | apply pw_below_drewN | apply below_drew1) | exact HB.out)) hb); clear HB; have HB := n0_; clear n0_; (try clear hb); (try clear hb2); (try clear hk); (try clear hi)) | ((with_reducible refine gate_dst (N := 18) rfl ?_); (try (refine gate_guard (by rfl) ?_; dsimp only)); refine Kd.R_lit k49 _ 49 ?hg (N := 18) ?hd (xs := ([] : List (S49))) (inner := []) (ok := fun _ => True) (okp := fun _ => True) ?hr ?hp (fun _ hk => hk) trivial (Below.refl _ _) (Nat.le_refl _) (by simp) ?_; (case hd => rfl); (case hg => rfl); (case hr => first | (go_simp; done) | (go_simp; rfl)); (case hp => exact (Reps.none _ _)); intro v334 w10 ho11 hb hg_ hnew_; clear hg_ hnew_; (first | rw [← Ny333.out] at ho11 | (simp only [Int.reduceToNat] at ho11; rw [← Ny333.out] at ho11)); have n0_ := Aside0.mk (Kd.R_lower ho11 (below_size (by repeat (first | (with_reducible first | exact HB.out | apply below_alloc | apply pw_below_drewN | apply below_drew1) | exact HB.out)))); have n1_ := Aside0.mk (below_step (by repeat (first | (with_reducible first | exact HB.out | apply below_alloc | apply pw_below_drewN | apply below_drew1) | exact HB.out)) hb); clear HB; have HO335 := n0_; have HB := n1_; clear n0_ n1_; clear hb ho11) | ((with_reducible refine gate_builtin (b := .append) (xs := #[.tmp 18, .tmp 19]) rfl ?_); (try (refine gate_guard (by rfl) ?_; dsimp only)); at_builtin; refine Kd.R_append_rows k49 (w0 := w) w.heap.size rfl (.tmp 18) (.tmp 19) 40 49 (.agg #[(.string ⟨#[]⟩), (.int .i64 0), (.int .i64 0)]) 32 rfl Try.underlying40 info49 rfl (by decide) (by omega) v334 y333 l0 _ _ _ (fun _ => True) (fun _ => False) rfl rfl ?aO ?aR (fun _ _ h => h) (fun _ h => h.elim) ?aF ?aB ?aS ?aL ?_; (case aR => repeat (first | exact (Kd.C_below HR0.out HB.out) | (with_reducible refine Kd.C_alloc ?_ _) | (with_reducible refine Kd.C_drewN ?_ _) | (with_reducible refine Kd.C_drew ?_))); (case aB => exact (by repeat (first | (with_reducible first | exact HB.out | apply below_alloc | apply pw_below_drewN | apply below_drew1) | exact HB.out))); (case aF => exact (fun _ _ => trivial)); (case aO => exact (by (with_reducible repeat (first | apply Kd.R_alloc | apply Kd.R_drewN | apply Kd.R_drew)); exact HO335.out)); (case aS => exact (below_size (by repeat (first | (with_reducible first | exact HB.out | apply below_alloc | apply pw_below_drewN | apply below_drew1) | exact HB.out)))); (case aL => have := LMc4.out; omega); intro v337 w12 ho hb hg hat; rw [← Ny336.out] at ho; have n0_ := Aside0.mk (hb); have n1_ := Aside0.mk (ho); clear HB; clear HO335; have HB := n0_; have HO338 := n1_; clear n0_ n1_; clear ho hb hg hat; obtain ⟨Ao13, co13, eo13⟩ := Kd.R_slice HO338.out; subst eo13) | ((with_reducible refine gate_callee (f := 25) rfl ?_); refine goesL_ (some 21) rfl rfl Try.func25 (by kernel_rfl) rfl #[.slice Ao13 y336.length co13] rfl (by (try simp only [List.map_toArray, List.map_cons, List.map_nil]); first | done | rfl | (simp only [List.length_drop, List.length_take]; rfl)) ?_; (with_reducible refine (lz_Form.calls k _ _ y336 t339 t340 _ ?side1 ?side2 A5.out).mono ?_); (case side1 => repeat (first | exact (Kd.R_reads' HO338.out).2.2 | (with_reducible refine Kd.C_alloc ?_ _) | (with_reducible refine Kd.C_drewN ?_ _) | (with_reducible refine Kd.C_drew ?_))); (case side2 => exact (Kd.R_reads' HO338.out).2.1); rintro e w14 ⟨rfl, hb⟩; refine ⟨_, rfl, ?_⟩; have n0_ := Aside0.mk (Kd.R_below (by (with_reducible repeat (first | apply Kd.R_alloc | apply Kd.R_drewN | apply Kd.R_drew)); exact HO338.out) hb); have n1_ := Aside0.mk (below_step (by repeat (first | (with_reducible first | exact HB.out | apply below_alloc | apply pw_below_drewN | apply below_drew1) | exact HB.out)) hb); clear HO338; clear HB; have HO338 := n0_; have HB := n1_; clear n0_ n1_; (try clear hb); (try clear hb2); (try clear hk); (try clear hi)) | ((with_reducible refine gate_callee (f := 22) rfl ?_); refine goesL_ (some 39) rfl rfl Try.func22 (by kernel_rfl) rfl #[.string t339] rfl (by (try simp only [List.map_toArray, List.map_cons, List.map_nil]); first | done | rfl | (simp only [List.length_drop, List.length_take]; rfl)) ?_; (with_reducible refine (lz_Tokens.calls k t339 t341 t342 t343 _ A7.out).mono ?_); rintro e w15 ⟨v344, rfl, ho0, hb⟩; refine ⟨_, rfl, ?_⟩; have n0_ := Aside0.mk (Kd.R_elder' (by (with_reducible repeat (first | apply Kd.R_alloc | apply Kd.R_drewN | apply Kd.R_drew)); exact HO338.out) (Kd.R_base ho0) hb); have n1_ := Aside0.mk (Kd.R_lower (Kd.R_new' ho0 (Kd.R_lt (by (with_reducible repeat (first | apply Kd.R_alloc | apply Kd.R_drewN | apply Kd.R_drew)); exact HO338.out))) (below_size (by repeat (first | (with_reducible first | exact HB.out | apply below_alloc | apply pw_below_drewN | apply below_drew1) | exact HB.out)))); have n2_ := Aside0.mk (below_step (by repeat (first | (with_reducible first | exact HB.out | apply below_alloc | apply pw_below_drewN | apply below_drew1) | exact HB.out)) hb); clear HO338; clear HB; have HO338 := n0_; have HO345 := n1_; have HB := n2_; clear n0_ n1_ n2_; (try clear hb); (try clear hb2); (try clear hk); (try clear hi); (try clear ho0)))
        (try simp only [Act.put, List.setIfInBounds_toArray, List.set_cons_zero, List.set_cons_succ])
        go_cut [56] (fun v56 wc => ∃ (kq : Nat) (x56_7 : Bool), v56 = .bool x56_7 ∧ Aside0 (gantrylaw04_LzForms.j0 kq l0 t339 x56_7 = some r) ∧ Aside0 (kq ≤ k) ∧ Aside0 (Below w.heap.size w wc))
        case first =>
          have H := HC8.out
          clear HC8
          replace H := Option.bind_eq_some_iff.mp H
          obtain ⟨t346, A160, H⟩ := H
          replace H : (if t346 = true then (if t342 = (t339.size : Int) then (gantrylaw04_LzForms.j0 k l0 t339 (t343 != 0)) else (gantrylaw04_LzForms.j0 k l0 t339 true)) else (gantrylaw04_LzForms.j0 k l0 t339 true)) = some r := H
          have A16 := Aside0.mk A160
          clear A160
          by_cases c17 : t346 = true
          · subst c17
            have H1 : (if t342 = (t339.size : Int) then (gantrylaw04_LzForms.j0 k l0 t339 (t343 != 0)) else (gantrylaw04_LzForms.j0 k l0 t339 true)) = some r := by rw [if_pos rfl] at H; exact H
            clear H
            have H := H1
            clear H1
            by_cases c18 : t342 = (t339.size : Int)
            · rw [if_pos c18] at H
              have c18b0 : (t342 == (t339.size : Int)) = true := beq_iff_eq.mpr c18
              have c18b1 : (t342 != (t339.size : Int)) = false := bne_eq_false_iff_eq.mpr c18
              clear c18
              (first | rw [c18b0] | (simp only [i64_w, i32_w]; rw [c18b0]) | skip)
              have H' := Aside0.mk H
              clear H
              obtain ⟨Ao19, co19, eo19⟩ := Kd.R_slice HO345.out
              subst eo19
              go_wp2_with (first | ((with_reducible refine gate_callee (f := 27) rfl ?_); refine goesL_ (some 45) rfl rfl Try.func27 (by kernel_rfl) rfl #[.slice Ao19 t341.length co19, .slice A0 l0.length c0] rfl (by (try simp only [List.map_toArray, List.map_cons, List.map_nil]); first | done | rfl | (simp only [List.length_drop, List.length_take]; rfl)) ?_; (with_reducible refine (gantrylaw04_same.calls k _ _ t341 _ _ l0 true _ ?side1 ?side2 ?side3 ?side4 A16.out).mono ?_); (case side1 => repeat (first | exact (Kd.R_reads' HO345.out).2.2 | (with_reducible refine Kd.C_alloc ?_ _) | (with_reducible refine Kd.C_drewN ?_ _) | (with_reducible refine Kd.C_drew ?_))); (case side2 => exact (Kd.R_reads' HO345.out).2.1); (case side3 => repeat (first | exact (Kd.C_below HR0.out HB.out) | (with_reducible refine Kd.C_alloc ?_ _) | (with_reducible refine Kd.C_drewN ?_ _) | (with_reducible refine Kd.C_drew ?_))); (case side4 => exact HC0.out); rintro e w' ⟨rfl, ⟨nd, rfl⟩⟩; refine ⟨_, rfl, ?_⟩))
              go_meet
              case rel => exact ⟨_, ((t343 != 0)), (by first | rfl | (simp; done) | (simp [*]; done)), H', ⟨by first | omega | exact Nat.le_refl _⟩, ⟨by repeat (first | (with_reducible first | exact HB.out | apply below_alloc | apply pw_below_drewN | apply below_drew1) | exact HB.out)⟩⟩
            · rw [if_neg c18] at H
              have c18b0 : (t342 == (t339.size : Int)) = false := beq_eq_false_iff_ne.mpr c18
              have c18b1 : (t342 != (t339.size : Int)) = true := bne_iff_ne.mpr c18
              (first | rw [c18b0] | (simp only [i64_w, i32_w]; rw [c18b0]) | skip)
              have H' := Aside0.mk H
              clear H
              obtain ⟨Ao20, co20, eo20⟩ := Kd.R_slice HO345.out
              subst eo20
              go_wp2_with (first | ((with_reducible refine gate_callee (f := 27) rfl ?_); refine goesL_ (some 45) rfl rfl Try.func27 (by kernel_rfl) rfl #[.slice Ao20 t341.length co20, .slice A0 l0.length c0] rfl (by (try simp only [List.map_toArray, List.map_cons, List.map_nil]); first | done | rfl | (simp only [List.length_drop, List.length_take]; rfl)) ?_; (with_reducible refine (gantrylaw04_same.calls k _ _ t341 _ _ l0 true _ ?side1 ?side2 ?side3 ?side4 A16.out).mono ?_); (case side1 => repeat (first | exact (Kd.R_reads' HO345.out).2.2 | (with_reducible refine Kd.C_alloc ?_ _) | (with_reducible refine Kd.C_drewN ?_ _) | (with_reducible refine Kd.C_drew ?_))); (case side2 => exact (Kd.R_reads' HO345.out).2.1); (case side3 => repeat (first | exact (Kd.C_below HR0.out HB.out) | (with_reducible refine Kd.C_alloc ?_ _) | (with_reducible refine Kd.C_drewN ?_ _) | (with_reducible refine Kd.C_drew ?_))); (case side4 => exact HC0.out); rintro e w' ⟨rfl, ⟨nd, rfl⟩⟩; refine ⟨_, rfl, ?_⟩))
              go_meet
              case rel => exact ⟨_, (true), (by first | rfl | (simp; done) | (simp [*]; done)), H', ⟨by first | omega | exact Nat.le_refl _⟩, ⟨by repeat (first | (with_reducible first | exact HB.out | apply below_alloc | apply pw_below_drewN | apply below_drew1) | exact HB.out)⟩⟩
          · replace c17 := Bool.eq_false_iff.mpr c17
            subst c17
            have H1 : (gantrylaw04_LzForms.j0 k l0 t339 true) = some r := by rw [if_neg (show ¬ (false = true) by decide)] at H; exact H
            clear H
            have H := H1
            clear H1
            have H' := Aside0.mk H
            clear H
            obtain ⟨Ao21, co21, eo21⟩ := Kd.R_slice HO345.out
            subst eo21
            go_wp2_with (first | ((with_reducible refine gate_callee (f := 27) rfl ?_); refine goesL_ (some 45) rfl rfl Try.func27 (by kernel_rfl) rfl #[.slice Ao21 t341.length co21, .slice A0 l0.length c0] rfl (by (try simp only [List.map_toArray, List.map_cons, List.map_nil]); first | done | rfl | (simp only [List.length_drop, List.length_take]; rfl)) ?_; (with_reducible refine (gantrylaw04_same.calls k _ _ t341 _ _ l0 false _ ?side1 ?side2 ?side3 ?side4 A16.out).mono ?_); (case side1 => repeat (first | exact (Kd.R_reads' HO345.out).2.2 | (with_reducible refine Kd.C_alloc ?_ _) | (with_reducible refine Kd.C_drewN ?_ _) | (with_reducible refine Kd.C_drew ?_))); (case side2 => exact (Kd.R_reads' HO345.out).2.1); (case side3 => repeat (first | exact (Kd.C_below HR0.out HB.out) | (with_reducible refine Kd.C_alloc ?_ _) | (with_reducible refine Kd.C_drewN ?_ _) | (with_reducible refine Kd.C_drew ?_))); (case side4 => exact HC0.out); rintro e w' ⟨rfl, ⟨nd, rfl⟩⟩; refine ⟨_, rfl, ?_⟩))
            go_meet
            case rel => exact ⟨_, (true), (by first | rfl | (simp; done) | (simp [*]; done)), H', ⟨by first | omega | exact Nat.le_refl _⟩, ⟨by repeat (first | (with_reducible first | exact HB.out | apply below_alloc | apply pw_below_drewN | apply below_drew1) | exact HB.out)⟩⟩
        case rest =>
          clear HC8
          try clear c1
          try clear c2
          try clear p2
          try clear c3
          try clear c4
          try clear c6
          try clear c6b0
          try clear c6b1
          try clear c10
          try clear c12
          try clear c17
          try clear c18
          try clear c18b0
          try clear c18b1
          obtain ⟨kq, x56_7, rfl, HA, HJ7, HB⟩ := hcut
          cases kq with
          | zero => exact absurd HA.out (by simp [gantrylaw04_LzForms.j0])
          | succ kj7 =>
            have H := HA.out
            clear HA
            simp only [gantrylaw04_LzForms.j0] at H
            by_cases c22 : x56_7 = true
            · subst c22
              have H1 : (some false) = some r := by rw [if_pos rfl] at H; exact H
              clear H
              have H := H1
              clear H1
              obtain rfl := Option.some.inj H
              go_wp2
              go_ret
              exact ⟨by first | rfl | (simp [errW_none, errW_some] <;> rfl) | (simp [*, errW_none, errW_some] <;> rfl), by repeat (first | (with_reducible first | exact HB.out | apply below_alloc | apply pw_below_drewN | apply below_drew1) | exact HB.out)⟩
            · replace c22 := Bool.eq_false_iff.mpr c22
              subst c22
              have H1 : (gantrylaw04_LzForms.l0 kj7 l0 t339 ([] : List Int) 0) = some r := by rw [if_neg (show ¬ (false = true) by decide)] at H; exact H
              clear H
              have H := H1
              clear H1
              have H' := Aside0.mk H
              clear H
              go_wp2
              go_loopg [7, 8] kj7 (fun kq v7 v8 w' => ∃ (x7_2 : List Int) (x8_2 : Int), v8 = .int .i64 x8_2 ∧ Aside0 (gantrylaw04_LzForms.l0 kq l0 t339 x7_2 x8_2 = some r) ∧ Aside0 (kq ≤ kj7) ∧ Aside0 (Kd.R (Kd.int .u8) 5 w' w.heap.size (fun _ => True) v7 x7_2) ∧ Aside0 (Below w.heap.size w w'))
              case atStart => exact ⟨(([] : List Int)), (0), (by first | rfl | (simp; done) | (simp [*]; done)), H', ⟨Nat.le_refl _⟩, ⟨by first | exact Kd.R_nil _ _ _ _ _ | exact Kd.N_nil _ _ _ _ _ | exact Kd.V_nil _ _ _ _ _ | exact Kd.Q_nil _ _ _ _ _ | exact Kd.S_nil _ _ _ _ _⟩, ⟨by repeat (first | (with_reducible first | exact HB.out | apply below_alloc | apply pw_below_drewN | apply below_drew1) | exact HB.out)⟩⟩
              case round =>
                clear H'
                try clear c1
                try clear c2
                try clear p2
                try clear c3
                try clear c4
                try clear c6
                try clear c6b0
                try clear c6b1
                try clear c10
                try clear c12
                try clear c17
                try clear c18
                try clear c18b0
                try clear c18b1
                try clear c22
                try clear p2
                obtain ⟨x7_2, x8_2, rfl, HA, HK2, HO_7, HB⟩ := hrel
                cases gk with
                | zero => exact absurd HA.out (by simp [gantrylaw04_LzForms.l0])
                | succ k2 =>
                  have H := HA.out
                  clear HA
                  simp only [gantrylaw04_LzForms.l0] at H
                  by_cases c23 : x8_2 < (l0.length : Int)
                  · rw [if_pos c23] at H
                    have c23b0 : decide (x8_2 < (l0.length : Int)) = true := decide_eq_true c23
                    clear c23
                    by_cases c24 : 0 ≤ x8_2
                    · rw [if_pos c24] at H
                      have c24b0 : decide (0 ≤ x8_2) = true := decide_eq_true c24
                      clear c24
                      by_cases c25 : ((rd_T49 l0 x8_2).f2) > (x7_2.length : Int)
                      · rw [if_pos c25] at H
                        have c25b0 : decide ((x7_2.length : Int) < ((rd_T49 l0 x8_2).f2)) = true := decide_eq_true c25
                        clear c25
                        replace H := Option.bind_eq_some_iff.mp H
                        obtain ⟨⟨t351, t352⟩, A260, H⟩ := H
                        replace H : (if t351.toList = ([] : List UInt8) then (some (t352 == 25)) else (some false)) = some r := H
                        have A26 := Aside0.mk A260
                        clear A260
                        by_cases c27 : t351.toList = ([] : List UInt8)
                        · rw [if_pos c27] at H
                          have c27b0 : (t351.toList == ([] : List UInt8)) = true := beq_iff_eq.mpr c27
                          have c27b1 : (t351.toList != ([] : List UInt8)) = false := bne_eq_false_iff_eq.mpr c27
                          clear c27
                          obtain rfl := Option.some.inj H
                          have p349 : 0 ≤ (x8_2 : Int) := of_decide_eq_true (by first | (with_reducible assumption) | assumption)
                          have q349 : x8_2 < (l0.length : Int) := of_decide_eq_true (by first | (with_reducible assumption) | assumption)
                          obtain ⟨ad349, e349, hx349_0, hx349_1, hx349_2⟩ := at_T49 HR0.out x8_2 p349 q349
                          cases e349
                          replace hx349_0 := (HB.out.cell (World.block_lt_of_cell? w _ hx349_0)).trans hx349_0
                          replace hx349_1 := (HB.out.cell (World.block_lt_of_cell? w _ hx349_1)).trans hx349_1
                          replace hx349_2 := (HB.out.cell (World.block_lt_of_cell? w _ hx349_2)).trans hx349_2
                          replace p349 := eq_true p349
                          replace q349 := eq_true q349
                          go_wp2_with (first | ((with_reducible refine gate_dst (N := 9) rfl ?_); (try (refine gate_guard (by rfl) ?_; dsimp only)); refine box_event ?hg (N := 9) ?hd (cs := #[.string (⟨#[]⟩ : ByteArray), .int .i64 0, .int .i64 0]) (t := 49) ?hr ?_; (case hd => rfl); (case hg => rfl); (case hr => first | (go_simp; done) | (go_simp; rfl)); intro gb350 hg w28 hbox hb; have n0_ := Aside0.mk (Kd.R_below (by (with_reducible repeat (first | apply Kd.R_alloc | apply Kd.R_drewN | apply Kd.R_drew)); exact HO_7.out) hb); have n1_ := Aside0.mk (below_step (by repeat (first | (with_reducible first | exact HB.out | apply below_alloc | apply pw_below_drewN | apply below_drew1) | exact HB.out)) hb); have n2_ := Aside0.mk (hbox); have n3_ := Aside0.mk ((by rw [hg]; exact (below_size (by repeat (first | (with_reducible first | exact HB.out | apply below_alloc | apply pw_below_drewN | apply below_drew1) | exact HB.out))) : w.heap.size ≤ gb350)); have n4_ := Aside0.mk ((by rw [hg]; exact (below_size (by repeat (first | (with_reducible first | exact HB.out | apply below_alloc | apply pw_below_drewN | apply below_drew1) | exact HB.out))) : w.heap.size ≤ gb350)); clear HO_7; clear HB; have HO_7 := n0_; have HB := n1_; have BK350 := n2_; have GW350 := n3_; have GE350 := n4_; clear n0_ n1_ n2_ n3_ n4_; clear hb hbox hg; have hcz29_0 : w28.cell? ⟨gb350, 0, none⟩ = some (.string (⟨#[]⟩ : ByteArray)) := (blk_cell BK350.out 0).trans rfl; have hcz29_1 : w28.cell? ⟨gb350, 1, none⟩ = some (.int .i64 0) := (blk_cell BK350.out 1).trans rfl; have hcz29_2 : w28.cell? ⟨gb350, 2, none⟩ = some (.int .i64 0) := (blk_cell BK350.out 2).trans rfl; have hfz29_0 := blk_frozen BK350.out 0; have hfz29_1 := blk_frozen BK350.out 1; have hfz29_2 := blk_frozen BK350.out 2; obtain ⟨Ao30, co30, eo30⟩ := Kd.R_slice HO_7.out; subst eo30) | ((with_reducible refine gate_callee (f := 19) rfl ?_); refine goesL_ (some 74) rfl rfl Try.func19 (by kernel_rfl) rfl #[.string t339, .int .i64 1099511627776, .int .i64 1099511627776] rfl (by (try simp only [List.map_toArray, List.map_cons, List.map_nil]); first | done | rfl | (simp only [List.length_drop, List.length_take]; rfl)) ?_; (with_reducible refine (lz_Unpack.calls k2 t339 1099511627776 1099511627776 t351 t352 _ A26.out).mono ?_); rintro e w31 ⟨rfl, hb⟩; refine ⟨_, rfl, ?_⟩; have n0_ := Aside0.mk (Kd.R_below (by (with_reducible repeat (first | apply Kd.R_alloc | apply Kd.R_drewN | apply Kd.R_drew)); exact (Kd.R_mono (Kd.R_far (p := ⟨gb350, 2, none⟩) (Kd.R_far (p := ⟨gb350, 1, none⟩) (Kd.R_far (p := ⟨gb350, 0, none⟩) (Kd.R_types HO_7.out BK350.out (by decide)) (fun _ hk => hk.2) (.string ((rd_T49 l0 x8_2).f0))) (fun _ hk => hk.2) (.int .i64 ((rd_T49 l0 x8_2).f1))) (fun _ hk => hk.2) (.int .i64 ((rd_T49 l0 x8_2).f2))) (fun _ h_ => h_.1))) hb); have n1_ := Aside0.mk (blk_below (g := gb350) (o := .cells #[.string ((rd_T49 l0 x8_2).f0), .int .i64 ((rd_T49 l0 x8_2).f1), .int .i64 ((rd_T49 l0 x8_2).f2)] 49 (0, 0)) (by (with_reducible repeat (first | refine blk_drewN ?_ _ | refine blk_drew ?_ | refine blk_alloc ?_ _)); refine blk_put (cs := #[.string ((rd_T49 l0 x8_2).f0), .int .i64 ((rd_T49 l0 x8_2).f1), .int .i64 0]) ?_ 2 _ rfl; (with_reducible repeat (first | refine blk_drewN ?_ _ | refine blk_drew ?_ | refine blk_alloc ?_ _)); refine blk_put (cs := #[.string ((rd_T49 l0 x8_2).f0), .int .i64 0, .int .i64 0]) ?_ 1 _ rfl; (with_reducible repeat (first | refine blk_drewN ?_ _ | refine blk_drew ?_ | refine blk_alloc ?_ _)); refine blk_put (cs := #[.string (⟨#[]⟩ : ByteArray), .int .i64 0, .int .i64 0]) ?_ 0 _ rfl; (with_reducible repeat (first | refine blk_drewN ?_ _ | refine blk_drew ?_ | refine blk_alloc ?_ _)); exact BK350.out) hb); have n2_ := Aside0.mk (below_step (by repeat (first | (with_reducible first | exact HB.out | apply below_alloc | apply pw_below_drewN | apply below_drew1 | refine below_set ?_ GE350.out) | exact HB.out)) hb); clear HO_7; clear BK350; clear HB; have HO_7 := n0_; have BK350 := n1_; have HB := n2_; clear n0_ n1_ n2_; (try clear hb); (try clear hb2); (try clear hk); (try clear hi)))
                          go_ret
                          exact ⟨by first | rfl | (simp [errW_none, errW_some] <;> rfl) | (simp [*, errW_none, errW_some] <;> rfl), by repeat (first | (with_reducible first | exact HB.out | apply below_alloc | apply pw_below_drewN | apply below_drew1 | refine below_set ?_ GE350.out) | exact HB.out)⟩
                        · rw [if_neg c27] at H
                          have c27b0 : (t351.toList == ([] : List UInt8)) = false := beq_eq_false_iff_ne.mpr c27
                          have c27b1 : (t351.toList != ([] : List UInt8)) = true := bne_iff_ne.mpr c27
                          obtain rfl := Option.some.inj H
                          have p349 : 0 ≤ (x8_2 : Int) := of_decide_eq_true (by first | (with_reducible assumption) | assumption)
                          have q349 : x8_2 < (l0.length : Int) := of_decide_eq_true (by first | (with_reducible assumption) | assumption)
                          obtain ⟨ad349, e349, hx349_0, hx349_1, hx349_2⟩ := at_T49 HR0.out x8_2 p349 q349
                          cases e349
                          replace hx349_0 := (HB.out.cell (World.block_lt_of_cell? w _ hx349_0)).trans hx349_0
                          replace hx349_1 := (HB.out.cell (World.block_lt_of_cell? w _ hx349_1)).trans hx349_1
                          replace hx349_2 := (HB.out.cell (World.block_lt_of_cell? w _ hx349_2)).trans hx349_2
                          replace p349 := eq_true p349
                          replace q349 := eq_true q349
                          go_wp2_with (first | ((with_reducible refine gate_dst (N := 9) rfl ?_); (try (refine gate_guard (by rfl) ?_; dsimp only)); refine box_event ?hg (N := 9) ?hd (cs := #[.string (⟨#[]⟩ : ByteArray), .int .i64 0, .int .i64 0]) (t := 49) ?hr ?_; (case hd => rfl); (case hg => rfl); (case hr => first | (go_simp; done) | (go_simp; rfl)); intro gb350 hg w32 hbox hb; have n0_ := Aside0.mk (Kd.R_below (by (with_reducible repeat (first | apply Kd.R_alloc | apply Kd.R_drewN | apply Kd.R_drew)); exact HO_7.out) hb); have n1_ := Aside0.mk (below_step (by repeat (first | (with_reducible first | exact HB.out | apply below_alloc | apply pw_below_drewN | apply below_drew1) | exact HB.out)) hb); have n2_ := Aside0.mk (hbox); have n3_ := Aside0.mk ((by rw [hg]; exact (below_size (by repeat (first | (with_reducible first | exact HB.out | apply below_alloc | apply pw_below_drewN | apply below_drew1) | exact HB.out))) : w.heap.size ≤ gb350)); have n4_ := Aside0.mk ((by rw [hg]; exact (below_size (by repeat (first | (with_reducible first | exact HB.out | apply below_alloc | apply pw_below_drewN | apply below_drew1) | exact HB.out))) : w.heap.size ≤ gb350)); clear HO_7; clear HB; have HO_7 := n0_; have HB := n1_; have BK350 := n2_; have GW350 := n3_; have GE350 := n4_; clear n0_ n1_ n2_ n3_ n4_; clear hb hbox hg; have hcz33_0 : w32.cell? ⟨gb350, 0, none⟩ = some (.string (⟨#[]⟩ : ByteArray)) := (blk_cell BK350.out 0).trans rfl; have hcz33_1 : w32.cell? ⟨gb350, 1, none⟩ = some (.int .i64 0) := (blk_cell BK350.out 1).trans rfl; have hcz33_2 : w32.cell? ⟨gb350, 2, none⟩ = some (.int .i64 0) := (blk_cell BK350.out 2).trans rfl; have hfz33_0 := blk_frozen BK350.out 0; have hfz33_1 := blk_frozen BK350.out 1; have hfz33_2 := blk_frozen BK350.out 2; obtain ⟨Ao34, co34, eo34⟩ := Kd.R_slice HO_7.out; subst eo34) | ((with_reducible refine gate_callee (f := 19) rfl ?_); refine goesL_ (some 74) rfl rfl Try.func19 (by kernel_rfl) rfl #[.string t339, .int .i64 1099511627776, .int .i64 1099511627776] rfl (by (try simp only [List.map_toArray, List.map_cons, List.map_nil]); first | done | rfl | (simp only [List.length_drop, List.length_take]; rfl)) ?_; (with_reducible refine (lz_Unpack.calls k2 t339 1099511627776 1099511627776 t351 t352 _ A26.out).mono ?_); rintro e w35 ⟨rfl, hb⟩; refine ⟨_, rfl, ?_⟩; have n0_ := Aside0.mk (Kd.R_below (by (with_reducible repeat (first | apply Kd.R_alloc | apply Kd.R_drewN | apply Kd.R_drew)); exact (Kd.R_mono (Kd.R_far (p := ⟨gb350, 2, none⟩) (Kd.R_far (p := ⟨gb350, 1, none⟩) (Kd.R_far (p := ⟨gb350, 0, none⟩) (Kd.R_types HO_7.out BK350.out (by decide)) (fun _ hk => hk.2) (.string ((rd_T49 l0 x8_2).f0))) (fun _ hk => hk.2) (.int .i64 ((rd_T49 l0 x8_2).f1))) (fun _ hk => hk.2) (.int .i64 ((rd_T49 l0 x8_2).f2))) (fun _ h_ => h_.1))) hb); have n1_ := Aside0.mk (blk_below (g := gb350) (o := .cells #[.string ((rd_T49 l0 x8_2).f0), .int .i64 ((rd_T49 l0 x8_2).f1), .int .i64 ((rd_T49 l0 x8_2).f2)] 49 (0, 0)) (by (with_reducible repeat (first | refine blk_drewN ?_ _ | refine blk_drew ?_ | refine blk_alloc ?_ _)); refine blk_put (cs := #[.string ((rd_T49 l0 x8_2).f0), .int .i64 ((rd_T49 l0 x8_2).f1), .int .i64 0]) ?_ 2 _ rfl; (with_reducible repeat (first | refine blk_drewN ?_ _ | refine blk_drew ?_ | refine blk_alloc ?_ _)); refine blk_put (cs := #[.string ((rd_T49 l0 x8_2).f0), .int .i64 0, .int .i64 0]) ?_ 1 _ rfl; (with_reducible repeat (first | refine blk_drewN ?_ _ | refine blk_drew ?_ | refine blk_alloc ?_ _)); refine blk_put (cs := #[.string (⟨#[]⟩ : ByteArray), .int .i64 0, .int .i64 0]) ?_ 0 _ rfl; (with_reducible repeat (first | refine blk_drewN ?_ _ | refine blk_drew ?_ | refine blk_alloc ?_ _)); exact BK350.out) hb); have n2_ := Aside0.mk (below_step (by repeat (first | (with_reducible first | exact HB.out | apply below_alloc | apply pw_below_drewN | apply below_drew1 | refine below_set ?_ GE350.out) | exact HB.out)) hb); clear HO_7; clear BK350; clear HB; have HO_7 := n0_; have BK350 := n1_; have HB := n2_; clear n0_ n1_ n2_; (try clear hb); (try clear hb2); (try clear hk); (try clear hi)))
                          go_ret
                          exact ⟨by first | rfl | (simp [errW_none, errW_some] <;> rfl) | (simp [*, errW_none, errW_some] <;> rfl), by repeat (first | (with_reducible first | exact HB.out | apply below_alloc | apply pw_below_drewN | apply below_drew1 | refine below_set ?_ GE350.out) | exact HB.out)⟩
                      · rw [if_neg c25] at H
                        have c25b0 : decide ((x7_2.length : Int) < ((rd_T49 l0 x8_2).f2)) = false := decide_eq_false c25
                        clear c25
                        by_cases c36 : x7_2.length + ((rd_T49 l0 x8_2).f0).size < 140737488355328
                        · rw [if_pos c36] at H
                          have LMc36 := Aside0.mk c36
                          clear c36
                          obtain ⟨y353, hy353⟩ : ∃ y_ : List Int, y_ = (x7_2 ++ bytesOf ((rd_T49 l0 x8_2).f0)) := ⟨_, rfl⟩
                          replace H : (gantrylaw04_LzForms.l1 k2 l0 t339 y353 x8_2 0 ((rd_T49 l0 x8_2).f0) ((rd_T49 l0 x8_2).f1) ((rd_T49 l0 x8_2).f2)) = some r := by first | (rw [hy353]; with_reducible exact H) | (have H2_ := (Option.bind_some _ _).symm.trans H; rw [hy353]; with_reducible exact H2_) | (have H2_ := (Option.bind_some _ _).symm.trans H; with_reducible exact H2_) | with_reducible exact H | (rw [hy353]; exact H) | exact H
                          have Ny353 := Aside0.mk hy353
                          clear hy353
                          have H' := Aside0.mk H
                          clear H
                          have p349 : 0 ≤ (x8_2 : Int) := of_decide_eq_true (by first | (with_reducible assumption) | assumption)
                          have q349 : x8_2 < (l0.length : Int) := of_decide_eq_true (by first | (with_reducible assumption) | assumption)
                          obtain ⟨ad349, e349, hx349_0, hx349_1, hx349_2⟩ := at_T49 HR0.out x8_2 p349 q349
                          cases e349
                          replace hx349_0 := (HB.out.cell (World.block_lt_of_cell? w _ hx349_0)).trans hx349_0
                          replace hx349_1 := (HB.out.cell (World.block_lt_of_cell? w _ hx349_1)).trans hx349_1
                          replace hx349_2 := (HB.out.cell (World.block_lt_of_cell? w _ hx349_2)).trans hx349_2
                          replace p349 := eq_true p349
                          replace q349 := eq_true q349
                          go_wp2_with (first | ((with_reducible refine gate_dst (N := 9) rfl ?_); (try (refine gate_guard (by rfl) ?_; dsimp only)); refine box_event ?hg (N := 9) ?hd (cs := #[.string (⟨#[]⟩ : ByteArray), .int .i64 0, .int .i64 0]) (t := 49) ?hr ?_; (case hd => rfl); (case hg => rfl); (case hr => first | (go_simp; done) | (go_simp; rfl)); intro gb350 hg w37 hbox hb; have n0_ := Aside0.mk (Kd.R_below (by (with_reducible repeat (first | apply Kd.R_alloc | apply Kd.R_drewN | apply Kd.R_drew)); exact HO_7.out) hb); have n1_ := Aside0.mk (below_step (by repeat (first | (with_reducible first | exact HB.out | apply below_alloc | apply pw_below_drewN | apply below_drew1) | exact HB.out)) hb); have n2_ := Aside0.mk (hbox); have n3_ := Aside0.mk ((by rw [hg]; exact (below_size (by repeat (first | (with_reducible first | exact HB.out | apply below_alloc | apply pw_below_drewN | apply below_drew1) | exact HB.out))) : w.heap.size ≤ gb350)); have n4_ := Aside0.mk ((by rw [hg]; exact (below_size (by repeat (first | (with_reducible first | exact HB.out | apply below_alloc | apply pw_below_drewN | apply below_drew1) | exact HB.out))) : w.heap.size ≤ gb350)); clear HO_7; clear HB; have HO_7 := n0_; have HB := n1_; have BK350 := n2_; have GW350 := n3_; have GE350 := n4_; clear n0_ n1_ n2_ n3_ n4_; clear hb hbox hg; have hcz38_0 : w37.cell? ⟨gb350, 0, none⟩ = some (.string (⟨#[]⟩ : ByteArray)) := (blk_cell BK350.out 0).trans rfl; have hcz38_1 : w37.cell? ⟨gb350, 1, none⟩ = some (.int .i64 0) := (blk_cell BK350.out 1).trans rfl; have hcz38_2 : w37.cell? ⟨gb350, 2, none⟩ = some (.int .i64 0) := (blk_cell BK350.out 2).trans rfl; have hfz38_0 := blk_frozen BK350.out 0; have hfz38_1 := blk_frozen BK350.out 1; have hfz38_2 := blk_frozen BK350.out 2; obtain ⟨Ao39, co39, eo39⟩ := Kd.R_slice HO_7.out; subst eo39) | (at_builtin; refine Kd.R_append_str (w0 := w) w.heap.size rfl (.tmp 83) _ 55 9 5 rfl Try.underlying55 Try.underlying9 info5 (.slice Ao39 x7_2.length co39) x7_2 ((rd_T49 l0 x8_2).f0) (fun _ => True) rfl rfl ?aF ?aO ?aB ?aS ?aL ?_; (case aB => exact (by repeat (first | (with_reducible first | exact HB.out | apply below_alloc | apply pw_below_drewN | apply below_drew1 | refine below_set ?_ GE350.out) | exact HB.out))); (case aF => exact (fun _ _ => trivial)); (case aO => exact (by (with_reducible repeat (first | apply Kd.R_alloc | apply Kd.R_drewN | apply Kd.R_drew)); exact Kd.R_mono (Kd.R_far (p := ⟨gb350, 2, none⟩) (Kd.R_far (p := ⟨gb350, 1, none⟩) (Kd.R_far (p := ⟨gb350, 0, none⟩) (Kd.R_types HO_7.out BK350.out (by decide)) (fun _ hk => hk.2) (.string ((rd_T49 l0 x8_2).f0))) (fun _ hk => hk.2) (.int .i64 ((rd_T49 l0 x8_2).f1))) (fun _ hk => hk.2) (.int .i64 ((rd_T49 l0 x8_2).f2))) (fun _ hk => trivial))); (case aS => exact (below_size (by repeat (first | (with_reducible first | exact HB.out | apply below_alloc | apply pw_below_drewN | apply below_drew1 | refine below_set ?_ GE350.out) | exact HB.out)))); (case aL => have := LMc36.out; omega); intro v354 w40 ho hb hg hat; rw [← Ny353.out] at ho; change Kd.R (Kd.int .u8) 5 w40 w.heap.size (fun _ => True) v354 y353 at ho; have n0_ := Aside0.mk (blk_grown (g := gb350) (o := .cells #[.string ((rd_T49 l0 x8_2).f0), .int .i64 ((rd_T49 l0 x8_2).f1), .int .i64 ((rd_T49 l0 x8_2).f2)] 49 (0, 0)) (by (with_reducible repeat (first | refine blk_drewN ?_ _ | refine blk_drew ?_ | refine blk_alloc ?_ _)); refine blk_put (cs := #[.string ((rd_T49 l0 x8_2).f0), .int .i64 ((rd_T49 l0 x8_2).f1), .int .i64 0]) ?_ 2 _ rfl; (with_reducible repeat (first | refine blk_drewN ?_ _ | refine blk_drew ?_ | refine blk_alloc ?_ _)); refine blk_put (cs := #[.string ((rd_T49 l0 x8_2).f0), .int .i64 0, .int .i64 0]) ?_ 1 _ rfl; (with_reducible repeat (first | refine blk_drewN ?_ _ | refine blk_drew ?_ | refine blk_alloc ?_ _)); refine blk_put (cs := #[.string (⟨#[]⟩ : ByteArray), .int .i64 0, .int .i64 0]) ?_ 0 _ rfl; (with_reducible repeat (first | refine blk_drewN ?_ _ | refine blk_drew ?_ | refine blk_alloc ?_ _)); exact BK350.out) hg (Kd.R_ne HO_7.out BK350.out (by decide))); have n1_ := Aside0.mk (hb); have n2_ := Aside0.mk (ho); clear BK350; clear HB; clear HO_7; have BK350 := n0_; have HB := n1_; have HO355 := n2_; clear n0_ n1_ n2_; clear ho hb hg hat))
                          go_loopg [7, 12] k2 (fun kq v7 v12 w' => ∃ (x7_3 : List Int) (x12_3 : Int), v12 = .int .i64 x12_3 ∧ Aside0 (gantrylaw04_LzForms.l1 kq l0 t339 x7_3 x8_2 x12_3 ((rd_T49 l0 x8_2).f0) ((rd_T49 l0 x8_2).f1) ((rd_T49 l0 x8_2).f2) = some r) ∧ Aside0 (kq ≤ k2) ∧ Aside0 (Kd.R (Kd.int .u8) 5 w' w.heap.size (fun _ => True) v7 x7_3) ∧ Aside0 (w'.heap[gb350]? = some (.cells #[.string ((rd_T49 l0 x8_2).f0), .int .i64 ((rd_T49 l0 x8_2).f1), .int .i64 ((rd_T49 l0 x8_2).f2)] 49 (0, 0))) ∧ Aside0 (Below w.heap.size w w'))
                          case atStart => exact ⟨(y353), (0), (by first | rfl | (simp; done) | (simp [*]; done)), H', ⟨Nat.le_refl _⟩, ⟨by (with_reducible repeat (first | apply Kd.R_alloc | apply Kd.R_drewN | apply Kd.R_drew)); exact HO355.out⟩, ⟨by (with_reducible repeat (first | refine blk_drewN ?_ _ | refine blk_drew ?_ | refine blk_alloc ?_ _)); exact BK350.out⟩, ⟨by repeat (first | (with_reducible first | exact HB.out | apply below_alloc | apply pw_below_drewN | apply below_drew1 | refine below_set ?_ GE350.out) | exact HB.out)⟩⟩
                          case round =>
                            clear H'
                            try clear c1
                            try clear c2
                            try clear p2
                            try clear c3
                            try clear p3
                            try clear q3
                            try clear hx3
                            try clear c4
                            try clear c6
                            try clear c6b0
                            try clear c6b1
                            try clear c10
                            try clear c12
                            try clear c17
                            try clear c18
                            try clear c18b0
                            try clear c18b1
                            try clear c19
                            try clear c22
                            try clear c23
                            try clear c23b0
                            try clear c24
                            try clear c24b0
                            try clear c25
                            try clear c25b0
                            try clear c27
                            try clear c27b0
                            try clear c27b1
                            try clear p34
                            try clear q34
                            try clear hx34
                            try clear c36
                            try clear hcz29_0
                            try clear hcz29_1
                            try clear hcz29_2
                            try clear hcz33_0
                            try clear hcz33_1
                            try clear hcz33_2
                            try clear hcz38_0
                            try clear hcz38_1
                            try clear hcz38_2
                            try clear hfz29_0
                            try clear hfz29_1
                            try clear hfz29_2
                            try clear hfz33_0
                            try clear hfz33_1
                            try clear hfz33_2
                            try clear hfz38_0
                            try clear hfz38_1
                            try clear hfz38_2
                            try clear hx349_0
                            try clear hx349_1
                            try clear hx349_2
                            try clear p2
                            try clear p349
                            try clear q349
                            obtain ⟨x7_3, x12_3, rfl, HA, HK3, HO_7, BK350, HB⟩ := hrel
                            cases gk with
                            | zero => exact absurd HA.out (by simp [gantrylaw04_LzForms.l1])
                            | succ k3 =>
                              have H := HA.out
                              clear HA
                              simp only [gantrylaw04_LzForms.l1] at H
                              by_cases c41 : x12_3 < ((rd_T49 l0 x8_2).f1)
                              · rw [if_pos c41] at H
                                have c41b0 : decide (x12_3 < ((rd_T49 l0 x8_2).f1)) = true := decide_eq_true c41
                                clear c41
                                obtain ⟨ji42, hji42⟩ : ∃ j_ : Int, (wrap64 ((x7_3.length : Int) - ((rd_T49 l0 x8_2).f2))) = j_ := ⟨_, rfl⟩
                                replace H : (if 0 ≤ (ji42) then (if (ji42) < (x7_3.length : Int) then (if x7_3.length < 140737488355328 then (gantrylaw04_LzForms.l1 k3 l0 t339 (x7_3 ++ [rd x7_3 (ji42)]) x8_2 (wrap64 (x12_3 + 1)) ((rd_T49 l0 x8_2).f0) ((rd_T49 l0 x8_2).f1) ((rd_T49 l0 x8_2).f2)) else (none)) else (none)) else (none)) = some r := by first | (rw [hji42] at H; exact H) | (simp only [hji42] at H ⊢; exact H)
                                have hji42w : (IntKind.i64.wrap ((x7_3.length : Int) - ((rd_T49 l0 x8_2).f2))) = ji42 := (i64_w _).trans hji42
                                by_cases c43 : 0 ≤ (ji42)
                                · rw [if_pos c43] at H
                                  have c43b0 : decide (0 ≤ (ji42)) = true := decide_eq_true c43
                                  clear c43
                                  by_cases c44 : (ji42) < (x7_3.length : Int)
                                  · rw [if_pos c44] at H
                                    have c44b0 : decide ((ji42) < (x7_3.length : Int)) = true := decide_eq_true c44
                                    clear c44
                                    by_cases c45 : x7_3.length < 140737488355328
                                    · rw [if_pos c45] at H
                                      have LMc45 := Aside0.mk c45
                                      clear c45
                                      obtain ⟨y357, hy357⟩ : ∃ y_ : List Int, y_ = (x7_3 ++ [rd x7_3 (ji42)]) := ⟨_, rfl⟩
                                      replace H : (gantrylaw04_LzForms.l1 k3 l0 t339 y357 x8_2 (wrap64 (x12_3 + 1)) ((rd_T49 l0 x8_2).f0) ((rd_T49 l0 x8_2).f1) ((rd_T49 l0 x8_2).f2)) = some r := by first | (rw [hy357]; with_reducible exact H) | (have H2_ := (Option.bind_some _ _).symm.trans H; rw [hy357]; with_reducible exact H2_) | (have H2_ := (Option.bind_some _ _).symm.trans H; with_reducible exact H2_) | with_reducible exact H | (rw [hy357]; exact H) | exact H
                                      have Ny357 := Aside0.mk hy357
                                      clear hy357
                                      have H' := Aside0.mk H
                                      clear H
                                      have hcz46_0 : wr.cell? ⟨gb350, 0, none⟩ = some (.string ((rd_T49 l0 x8_2).f0)) := (blk_cell BK350.out 0).trans rfl
                                      have hcz46_1 : wr.cell? ⟨gb350, 1, none⟩ = some (.int .i64 ((rd_T49 l0 x8_2).f1)) := (blk_cell BK350.out 1).trans rfl
                                      have hcz46_2 : wr.cell? ⟨gb350, 2, none⟩ = some (.int .i64 ((rd_T49 l0 x8_2).f2)) := (blk_cell BK350.out 2).trans rfl
                                      have hfz46_0 := blk_frozen BK350.out 0
                                      have hfz46_1 := blk_frozen BK350.out 1
                                      have hfz46_2 := blk_frozen BK350.out 2
                                      obtain ⟨Ao47, co47, eo47⟩ := Kd.R_slice HO_7.out
                                      subst eo47
                                      have p356 : 0 ≤ ((ji42) : Int) := of_decide_eq_true (by first | (with_reducible assumption) | assumption)
                                      have q356 : (ji42) < (x7_3.length : Int) := of_decide_eq_true (by first | (with_reducible assumption) | assumption)
                                      obtain ⟨ad356, e356, hx356_0⟩ := Kd.at_int (Kd.R_reads' HO_7.out).2.2 (ji42) p356 q356
                                      cases e356
                                      replace p356 := eq_true p356
                                      replace q356 := eq_true q356
                                      go_wp2_with (first | ((with_reducible refine gate_builtin (b := .append) (xs := #[.tmp 101, .tmp 103]) rfl ?_); (try (refine gate_guard (by rfl) ?_; dsimp only)); at_builtin; refine Kd.R_append (Kd.int .u8) (w0 := w) w.heap.size rfl (.tmp 101) (.tmp 103) 55 5 (.int .u8 0) 1 rfl Try.underlying55 info5 rfl (by decide) (by omega) (.slice (some ad356) x7_3.length co47) x7_3 (rd x7_3 (ji42)) [.int .u8 (rd x7_3 (ji42))] (fun _ => True) (fun _ => False) rfl rfl ?aP (fun _ hk => hk.elim) ?aF ?aO ?aB ?aS ?aL ?_; (case aP => exact rfl); (case aB => exact (by repeat (first | (with_reducible first | exact HB.out | apply below_alloc | apply pw_below_drewN | apply below_drew1 | refine below_set ?_ GE350.out) | exact HB.out))); (case aF => exact (fun _ _ => trivial)); (case aO => exact (by (with_reducible repeat (first | apply Kd.R_alloc | apply Kd.R_drewN | apply Kd.R_drew)); exact HO_7.out)); (case aS => exact (below_size (by repeat (first | (with_reducible first | exact HB.out | apply below_alloc | apply pw_below_drewN | apply below_drew1 | refine below_set ?_ GE350.out) | exact HB.out)))); (case aL => have := LMc45.out; omega); intro v358 w48 ho hb hg hat; rw [← Ny357.out] at ho; have n0_ := Aside0.mk (blk_grown (g := gb350) (o := .cells #[.string ((rd_T49 l0 x8_2).f0), .int .i64 ((rd_T49 l0 x8_2).f1), .int .i64 ((rd_T49 l0 x8_2).f2)] 49 (0, 0)) (by (with_reducible repeat (first | refine blk_drewN ?_ _ | refine blk_drew ?_ | refine blk_alloc ?_ _)); exact BK350.out) hg (Kd.R_ne HO_7.out BK350.out (by decide))); have n1_ := Aside0.mk (hb); have n2_ := Aside0.mk (ho); clear BK350; clear HB; clear HO_7; have BK350 := n0_; have HB := n1_; have HO359 := n2_; clear n0_ n1_ n2_; clear ho hb hg hat))
                                      go_roundg k3
                                      case measure => have := HJ7.out; have := HK2.out; have := HK3.out; omega
                                      case rel => exact ⟨(y357), (wrap64 (x12_3 + 1)), (by first | rfl | (simp; done) | (simp [*]; done)), H', ⟨by have := HJ7.out; have := HK2.out; have := HK3.out; omega⟩, ⟨by (with_reducible repeat (first | apply Kd.R_alloc | apply Kd.R_drewN | apply Kd.R_drew)); exact HO359.out⟩, ⟨by (with_reducible repeat (first | refine blk_drewN ?_ _ | refine blk_drew ?_ | refine blk_alloc ?_ _)); exact BK350.out⟩, ⟨by repeat (first | (with_reducible first | exact HB.out | apply below_alloc | apply pw_below_drewN | apply below_drew1 | refine below_set ?_ GE350.out) | exact HB.out)⟩⟩
                                    · rw [if_neg c45] at H
                                      exact absurd H (by simp)
                                  · rw [if_neg c44] at H
                                    exact absurd H (by simp)
                                · rw [if_neg c43] at H
                                  exact absurd H (by simp)
                              · rw [if_neg c41] at H
                                have c41b0 : decide (x12_3 < ((rd_T49 l0 x8_2).f1)) = false := decide_eq_false c41
                                clear c41
                                have H' := Aside0.mk H
                                clear H
                                have hcz49_0 : wr.cell? ⟨gb350, 0, none⟩ = some (.string ((rd_T49 l0 x8_2).f0)) := (blk_cell BK350.out 0).trans rfl
                                have hcz49_1 : wr.cell? ⟨gb350, 1, none⟩ = some (.int .i64 ((rd_T49 l0 x8_2).f1)) := (blk_cell BK350.out 1).trans rfl
                                have hcz49_2 : wr.cell? ⟨gb350, 2, none⟩ = some (.int .i64 ((rd_T49 l0 x8_2).f2)) := (blk_cell BK350.out 2).trans rfl
                                have hfz49_0 := blk_frozen BK350.out 0
                                have hfz49_1 := blk_frozen BK350.out 1
                                have hfz49_2 := blk_frozen BK350.out 2
                                go_wp2
                                go_roundg k3
                                case measure => have := HJ7.out; have := HK2.out; have := HK3.out; omega
                                case rel => exact ⟨(x7_3), (wrap64 (x8_2 + 1)), (by first | rfl | (simp; done) | (simp [*]; done)), H', ⟨by have := HJ7.out; have := HK2.out; have := HK3.out; omega⟩, ⟨by (with_reducible repeat (first | apply Kd.R_alloc | apply Kd.R_drewN | apply Kd.R_drew)); exact HO_7.out⟩, ⟨by repeat (first | (with_reducible first | exact HB.out | apply below_alloc | apply pw_below_drewN | apply below_drew1 | refine below_set ?_ GE350.out) | exact HB.out)⟩⟩
                        · rw [if_neg c36] at H
                          exact absurd H (by simp)
                    · rw [if_neg c24] at H
                      exact absurd H (by simp)
                  · rw [if_neg c23] at H
                    have c23b0 : decide (x8_2 < (l0.length : Int)) = false := decide_eq_false c23
                    clear c23
                    replace H := Option.bind_eq_some_iff.mp H
                    obtain ⟨⟨t347, t348⟩, A500, H⟩ := H
                    replace H : (if t347.toList = (strOfNums x7_2).toList then (some (t348 == 0)) else (some false)) = some r := H
                    have A50 := Aside0.mk A500
                    clear A500
                    by_cases c51 : t347.toList = (strOfNums x7_2).toList
                    · rw [if_pos c51] at H
                      have c51b0 : (t347.toList == (strOfNums x7_2).toList) = true := beq_iff_eq.mpr c51
                      have c51b1 : (t347.toList != (strOfNums x7_2).toList) = false := bne_eq_false_iff_eq.mpr c51
                      clear c51
                      obtain rfl := Option.some.inj H
                      obtain ⟨Ao52, co52, eo52⟩ := Kd.R_slice HO_7.out
                      subst eo52
                      go_wp2_with (first | ((with_reducible refine gate_callee (f := 19) rfl ?_); refine goesL_ (some 111) rfl rfl Try.func19 (by kernel_rfl) rfl #[.string t339, .int .i64 (x7_2.length : Int), .int .i64 (x7_2.length : Int)] rfl (by (try simp only [List.map_toArray, List.map_cons, List.map_nil]); first | done | rfl | (simp only [List.length_drop, List.length_take]; rfl)) ?_; (with_reducible refine (lz_Unpack.calls k2 t339 (x7_2.length : Int) (x7_2.length : Int) t347 t348 _ A50.out).mono ?_); rintro e w53 ⟨rfl, hb⟩; refine ⟨_, rfl, ?_⟩; have n0_ := Aside0.mk (Kd.R_below (by (with_reducible repeat (first | apply Kd.R_alloc | apply Kd.R_drewN | apply Kd.R_drew)); exact HO_7.out) hb); have n1_ := Aside0.mk (below_step (by repeat (first | (with_reducible first | exact HB.out | apply below_alloc | apply pw_below_drewN | apply below_drew1) | exact HB.out)) hb); clear HO_7; clear HB; have HO_7 := n0_; have HB := n1_; clear n0_ n1_; (try clear hb); (try clear hb2); (try clear hk); (try clear hi); have hcv54 := own_string (P := Try.prog) Try.underlying55 Try.underlying5 Try.underlying9 (Kd.own_of_R HO_7.out)))
                      go_ret
                      exact ⟨by first | rfl | (simp [errW_none, errW_some] <;> rfl) | (simp [*, errW_none, errW_some] <;> rfl), by repeat (first | (with_reducible first | exact HB.out | apply below_alloc | apply pw_below_drewN | apply below_drew1) | exact HB.out)⟩
                    · rw [if_neg c51] at H
                      have c51b0 : (t347.toList == (strOfNums x7_2).toList) = false := beq_eq_false_iff_ne.mpr c51
                      have c51b1 : (t347.toList != (strOfNums x7_2).toList) = true := bne_iff_ne.mpr c51
                      obtain rfl := Option.some.inj H
                      obtain ⟨Ao55, co55, eo55⟩ := Kd.R_slice HO_7.out
                      subst eo55
                      go_wp2_with (first | ((with_reducible refine gate_callee (f := 19) rfl ?_); refine goesL_ (some 111) rfl rfl Try.func19 (by kernel_rfl) rfl #[.string t339, .int .i64 (x7_2.length : Int), .int .i64 (x7_2.length : Int)] rfl (by (try simp only [List.map_toArray, List.map_cons, List.map_nil]); first | done | rfl | (simp only [List.length_drop, List.length_take]; rfl)) ?_; (with_reducible refine (lz_Unpack.calls k2 t339 (x7_2.length : Int) (x7_2.length : Int) t347 t348 _ A50.out).mono ?_); rintro e w56 ⟨rfl, hb⟩; refine ⟨_, rfl, ?_⟩; have n0_ := Aside0.mk (Kd.R_below (by (with_reducible repeat (first | apply Kd.R_alloc | apply Kd.R_drewN | apply Kd.R_drew)); exact HO_7.out) hb); have n1_ := Aside0.mk (below_step (by repeat (first | (with_reducible first | exact HB.out | apply below_alloc | apply pw_below_drewN | apply below_drew1) | exact HB.out)) hb); clear HO_7; clear HB; have HO_7 := n0_; have HB := n1_; clear n0_ n1_; (try clear hb); (try clear hb2); (try clear hk); (try clear hi); have hcv57 := own_string (P := Try.prog) Try.underlying55 Try.underlying5 Try.underlying9 (Kd.own_of_R HO_7.out)))
                      go_ret
                      exact ⟨by first | rfl | (simp [errW_none, errW_some] <;> rfl) | (simp [*, errW_none, errW_some] <;> rfl), by repeat (first | (with_reducible first | exact HB.out | apply below_alloc | apply pw_below_drewN | apply below_drew1) | exact HB.out)⟩
      · rw [if_neg c6] at H
        have c6b0 : (t340 == 0) = false := beq_eq_false_iff_ne.mpr c6
        have c6b1 : (t340 != 0) = true := bne_iff_ne.mpr c6
        by_cases c58 : t339.toList = ([] : List UInt8)
        · rw [if_pos c58] at H
          have c58b0 : (t339.toList == ([] : List UInt8)) = true := beq_iff_eq.mpr c58
          have c58b1 : (t339.toList != ([] : List UInt8)) = false := bne_eq_false_iff_eq.mpr c58
          clear c58
          by_cases c59 : t340 = 1
          · rw [if_pos c59] at H
            have c59b0 : (t340 == 1) = true := beq_iff_eq.mpr c59
            have c59b1 : (t340 != 1) = false := bne_eq_false_iff_eq.mpr c59
            clear c59
            obtain rfl := Option.some.inj H
            go_enter Try.func10, Try.ntmps10
            go_wp2_with (first | ((with_reducible refine gate_callee (f := 12) rfl ?_); refine goesL_ (some 15) rfl rfl Try.func12 (by kernel_rfl) rfl #[] rfl (by (try simp only [List.map_toArray, List.map_cons, List.map_nil]); first | done | rfl | (simp only [List.length_drop, List.length_take]; rfl)) ?_; (with_reducible refine (gantrylaw04_fixed.calls k  true _ A2.out).mono ?_); rintro e w60 ⟨rfl, hb⟩; refine ⟨_, rfl, ?_⟩; have n0_ := Aside0.mk (below_step (by repeat (first | (with_reducible first | exact HB.out | apply below_alloc | apply pw_below_drewN | apply below_drew1) | exact HB.out)) hb); clear HB; have HB := n0_; clear n0_; (try clear hb); (try clear hb2); (try clear hk); (try clear hi)) | ((with_reducible refine gate_dst (N := 18) rfl ?_); (try (refine gate_guard (by rfl) ?_; dsimp only)); refine Kd.R_lit k49 _ 49 ?hg (N := 18) ?hd (xs := ([] : List (S49))) (inner := []) (ok := fun _ => True) (okp := fun _ => True) ?hr ?hp (fun _ hk => hk) trivial (Below.refl _ _) (Nat.le_refl _) (by simp) ?_; (case hd => rfl); (case hg => rfl); (case hr => first | (go_simp; done) | (go_simp; rfl)); (case hp => exact (Reps.none _ _)); intro v334 w61 ho62 hb hg_ hnew_; clear hg_ hnew_; (first | rw [← Ny333.out] at ho62 | (simp only [Int.reduceToNat] at ho62; rw [← Ny333.out] at ho62)); have n0_ := Aside0.mk (Kd.R_lower ho62 (below_size (by repeat (first | (with_reducible first | exact HB.out | apply below_alloc | apply pw_below_drewN | apply below_drew1) | exact HB.out)))); have n1_ := Aside0.mk (below_step (by repeat (first | (with_reducible first | exact HB.out | apply below_alloc | apply pw_below_drewN | apply below_drew1) | exact HB.out)) hb); clear HB; have HO335 := n0_; have HB := n1_; clear n0_ n1_; clear hb ho62) | ((with_reducible refine gate_builtin (b := .append) (xs := #[.tmp 18, .tmp 19]) rfl ?_); (try (refine gate_guard (by rfl) ?_; dsimp only)); at_builtin; refine Kd.R_append_rows k49 (w0 := w) w.heap.size rfl (.tmp 18) (.tmp 19) 40 49 (.agg #[(.string ⟨#[]⟩), (.int .i64 0), (.int .i64 0)]) 32 rfl Try.underlying40 info49 rfl (by decide) (by omega) v334 y333 l0 _ _ _ (fun _ => True) (fun _ => False) rfl rfl ?aO ?aR (fun _ _ h => h) (fun _ h => h.elim) ?aF ?aB ?aS ?aL ?_; (case aR => repeat (first | exact (Kd.C_below HR0.out HB.out) | (with_reducible refine Kd.C_alloc ?_ _) | (with_reducible refine Kd.C_drewN ?_ _) | (with_reducible refine Kd.C_drew ?_))); (case aB => exact (by repeat (first | (with_reducible first | exact HB.out | apply below_alloc | apply pw_below_drewN | apply below_drew1) | exact HB.out))); (case aF => exact (fun _ _ => trivial)); (case aO => exact (by (with_reducible repeat (first | apply Kd.R_alloc | apply Kd.R_drewN | apply Kd.R_drew)); exact HO335.out)); (case aS => exact (below_size (by repeat (first | (with_reducible first | exact HB.out | apply below_alloc | apply pw_below_drewN | apply below_drew1) | exact HB.out)))); (case aL => have := LMc4.out; omega); intro v337 w63 ho hb hg hat; rw [← Ny336.out] at ho; have n0_ := Aside0.mk (hb); have n1_ := Aside0.mk (ho); clear HB; clear HO335; have HB := n0_; have HO338 := n1_; clear n0_ n1_; clear ho hb hg hat; obtain ⟨Ao64, co64, eo64⟩ := Kd.R_slice HO338.out; subst eo64) | ((with_reducible refine gate_callee (f := 25) rfl ?_); refine goesL_ (some 21) rfl rfl Try.func25 (by kernel_rfl) rfl #[.slice Ao64 y336.length co64] rfl (by (try simp only [List.map_toArray, List.map_cons, List.map_nil]); first | done | rfl | (simp only [List.length_drop, List.length_take]; rfl)) ?_; (with_reducible refine (lz_Form.calls k _ _ y336 t339 t340 _ ?side1 ?side2 A5.out).mono ?_); (case side1 => repeat (first | exact (Kd.R_reads' HO338.out).2.2 | (with_reducible refine Kd.C_alloc ?_ _) | (with_reducible refine Kd.C_drewN ?_ _) | (with_reducible refine Kd.C_drew ?_))); (case side2 => exact (Kd.R_reads' HO338.out).2.1); rintro e w65 ⟨rfl, hb⟩; refine ⟨_, rfl, ?_⟩; have n0_ := Aside0.mk (Kd.R_below (by (with_reducible repeat (first | apply Kd.R_alloc | apply Kd.R_drewN | apply Kd.R_drew)); exact HO338.out) hb); have n1_ := Aside0.mk (below_step (by repeat (first | (with_reducible first | exact HB.out | apply below_alloc | apply pw_below_drewN | apply below_drew1) | exact HB.out)) hb); clear HO338; clear HB; have HO338 := n0_; have HB := n1_; clear n0_ n1_; (try clear hb); (try clear hb2); (try clear hk); (try clear hi)))
            go_ret
            exact ⟨by first | rfl | (simp [errW_none, errW_some] <;> rfl) | (simp [*, errW_none, errW_some] <;> rfl), by repeat (first | (with_reducible first | exact HB.out | apply below_alloc | apply pw_below_drewN | apply below_drew1) | exact HB.out)⟩
          · rw [if_neg c59] at H
            have c59b0 : (t340 == 1) = false := beq_eq_false_iff_ne.mpr c59
            have c59b1 : (t340 != 1) = true := bne_iff_ne.mpr c59
            obtain rfl := Option.some.inj H
            go_enter Try.func10, Try.ntmps10
            go_wp2_with (first | ((with_reducible refine gate_callee (f := 12) rfl ?_); refine goesL_ (some 15) rfl rfl Try.func12 (by kernel_rfl) rfl #[] rfl (by (try simp only [List.map_toArray, List.map_cons, List.map_nil]); first | done | rfl | (simp only [List.length_drop, List.length_take]; rfl)) ?_; (with_reducible refine (gantrylaw04_fixed.calls k  true _ A2.out).mono ?_); rintro e w66 ⟨rfl, hb⟩; refine ⟨_, rfl, ?_⟩; have n0_ := Aside0.mk (below_step (by repeat (first | (with_reducible first | exact HB.out | apply below_alloc | apply pw_below_drewN | apply below_drew1) | exact HB.out)) hb); clear HB; have HB := n0_; clear n0_; (try clear hb); (try clear hb2); (try clear hk); (try clear hi)) | ((with_reducible refine gate_dst (N := 18) rfl ?_); (try (refine gate_guard (by rfl) ?_; dsimp only)); refine Kd.R_lit k49 _ 49 ?hg (N := 18) ?hd (xs := ([] : List (S49))) (inner := []) (ok := fun _ => True) (okp := fun _ => True) ?hr ?hp (fun _ hk => hk) trivial (Below.refl _ _) (Nat.le_refl _) (by simp) ?_; (case hd => rfl); (case hg => rfl); (case hr => first | (go_simp; done) | (go_simp; rfl)); (case hp => exact (Reps.none _ _)); intro v334 w67 ho68 hb hg_ hnew_; clear hg_ hnew_; (first | rw [← Ny333.out] at ho68 | (simp only [Int.reduceToNat] at ho68; rw [← Ny333.out] at ho68)); have n0_ := Aside0.mk (Kd.R_lower ho68 (below_size (by repeat (first | (with_reducible first | exact HB.out | apply below_alloc | apply pw_below_drewN | apply below_drew1) | exact HB.out)))); have n1_ := Aside0.mk (below_step (by repeat (first | (with_reducible first | exact HB.out | apply below_alloc | apply pw_below_drewN | apply below_drew1) | exact HB.out)) hb); clear HB; have HO335 := n0_; have HB := n1_; clear n0_ n1_; clear hb ho68) | ((with_reducible refine gate_builtin (b := .append) (xs := #[.tmp 18, .tmp 19]) rfl ?_); (try (refine gate_guard (by rfl) ?_; dsimp only)); at_builtin; refine Kd.R_append_rows k49 (w0 := w) w.heap.size rfl (.tmp 18) (.tmp 19) 40 49 (.agg #[(.string ⟨#[]⟩), (.int .i64 0), (.int .i64 0)]) 32 rfl Try.underlying40 info49 rfl (by decide) (by omega) v334 y333 l0 _ _ _ (fun _ => True) (fun _ => False) rfl rfl ?aO ?aR (fun _ _ h => h) (fun _ h => h.elim) ?aF ?aB ?aS ?aL ?_; (case aR => repeat (first | exact (Kd.C_below HR0.out HB.out) | (with_reducible refine Kd.C_alloc ?_ _) | (with_reducible refine Kd.C_drewN ?_ _) | (with_reducible refine Kd.C_drew ?_))); (case aB => exact (by repeat (first | (with_reducible first | exact HB.out | apply below_alloc | apply pw_below_drewN | apply below_drew1) | exact HB.out))); (case aF => exact (fun _ _ => trivial)); (case aO => exact (by (with_reducible repeat (first | apply Kd.R_alloc | apply Kd.R_drewN | apply Kd.R_drew)); exact HO335.out)); (case aS => exact (below_size (by repeat (first | (with_reducible first | exact HB.out | apply below_alloc | apply pw_below_drewN | apply below_drew1) | exact HB.out)))); (case aL => have := LMc4.out; omega); intro v337 w69 ho hb hg hat; rw [← Ny336.out] at ho; have n0_ := Aside0.mk (hb); have n1_ := Aside0.mk (ho); clear HB; clear HO335; have HB := n0_; have HO338 := n1_; clear n0_ n1_; clear ho hb hg hat; obtain ⟨Ao70, co70, eo70⟩ := Kd.R_slice HO338.out; subst eo70) | ((with_reducible refine gate_callee (f := 25) rfl ?_); refine goesL_ (some 21) rfl rfl Try.func25 (by kernel_rfl) rfl #[.slice Ao70 y336.length co70] rfl (by (try simp only [List.map_toArray, List.map_cons, List.map_nil]); first | done | rfl | (simp only [List.length_drop, List.length_take]; rfl)) ?_; (with_reducible refine (lz_Form.calls k _ _ y336 t339 t340 _ ?side1 ?side2 A5.out).mono ?_); (case side1 => repeat (first | exact (Kd.R_reads' HO338.out).2.2 | (with_reducible refine Kd.C_alloc ?_ _) | (with_reducible refine Kd.C_drewN ?_ _) | (with_reducible refine Kd.C_drew ?_))); (case side2 => exact (Kd.R_reads' HO338.out).2.1); rintro e w71 ⟨rfl, hb⟩; refine ⟨_, rfl, ?_⟩; have n0_ := Aside0.mk (Kd.R_below (by (with_reducible repeat (first | apply Kd.R_alloc | apply Kd.R_drewN | apply Kd.R_drew)); exact HO338.out) hb); have n1_ := Aside0.mk (below_step (by repeat (first | (with_reducible first | exact HB.out | apply below_alloc | apply pw_below_drewN | apply below_drew1) | exact HB.out)) hb); clear HO338; clear HB; have HO338 := n0_; have HB := n1_; clear n0_ n1_; (try clear hb); (try clear hb2); (try clear hk); (try clear hi)))
            go_ret
            exact ⟨by first | rfl | (simp [errW_none, errW_some] <;> rfl) | (simp [*, errW_none, errW_some] <;> rfl), by repeat (first | (with_reducible first | exact HB.out | apply below_alloc | apply pw_below_drewN | apply below_drew1) | exact HB.out)⟩
        · rw [if_neg c58] at H
          have c58b0 : (t339.toList == ([] : List UInt8)) = false := beq_eq_false_iff_ne.mpr c58
          have c58b1 : (t339.toList != ([] : List UInt8)) = true := bne_iff_ne.mpr c58
          obtain rfl := Option.some.inj H
          go_enter Try.func10, Try.ntmps10
          go_wp2_with (first | ((with_reducible refine gate_callee (f := 12) rfl ?_); refine goesL_ (some 15) rfl rfl Try.func12 (by kernel_rfl) rfl #[] rfl (by (try simp only [List.map_toArray, List.map_cons, List.map_nil]); first | done | rfl | (simp only [List.length_drop, List.length_take]; rfl)) ?_; (with_reducible refine (gantrylaw04_fixed.calls k  true _ A2.out).mono ?_); rintro e w72 ⟨rfl, hb⟩; refine ⟨_, rfl, ?_⟩; have n0_ := Aside0.mk (below_step (by repeat (first | (with_reducible first | exact HB.out | apply below_alloc | apply pw_below_drewN | apply below_drew1) | exact HB.out)) hb); clear HB; have HB := n0_; clear n0_; (try clear hb); (try clear hb2); (try clear hk); (try clear hi)) | ((with_reducible refine gate_dst (N := 18) rfl ?_); (try (refine gate_guard (by rfl) ?_; dsimp only)); refine Kd.R_lit k49 _ 49 ?hg (N := 18) ?hd (xs := ([] : List (S49))) (inner := []) (ok := fun _ => True) (okp := fun _ => True) ?hr ?hp (fun _ hk => hk) trivial (Below.refl _ _) (Nat.le_refl _) (by simp) ?_; (case hd => rfl); (case hg => rfl); (case hr => first | (go_simp; done) | (go_simp; rfl)); (case hp => exact (Reps.none _ _)); intro v334 w73 ho74 hb hg_ hnew_; clear hg_ hnew_; (first | rw [← Ny333.out] at ho74 | (simp only [Int.reduceToNat] at ho74; rw [← Ny333.out] at ho74)); have n0_ := Aside0.mk (Kd.R_lower ho74 (below_size (by repeat (first | (with_reducible first | exact HB.out | apply below_alloc | apply pw_below_drewN | apply below_drew1) | exact HB.out)))); have n1_ := Aside0.mk (below_step (by repeat (first | (with_reducible first | exact HB.out | apply below_alloc | apply pw_below_drewN | apply below_drew1) | exact HB.out)) hb); clear HB; have HO335 := n0_; have HB := n1_; clear n0_ n1_; clear hb ho74) | ((with_reducible refine gate_builtin (b := .append) (xs := #[.tmp 18, .tmp 19]) rfl ?_); (try (refine gate_guard (by rfl) ?_; dsimp only)); at_builtin; refine Kd.R_append_rows k49 (w0 := w) w.heap.size rfl (.tmp 18) (.tmp 19) 40 49 (.agg #[(.string ⟨#[]⟩), (.int .i64 0), (.int .i64 0)]) 32 rfl Try.underlying40 info49 rfl (by decide) (by omega) v334 y333 l0 _ _ _ (fun _ => True) (fun _ => False) rfl rfl ?aO ?aR (fun _ _ h => h) (fun _ h => h.elim) ?aF ?aB ?aS ?aL ?_; (case aR => repeat (first | exact (Kd.C_below HR0.out HB.out) | (with_reducible refine Kd.C_alloc ?_ _) | (with_reducible refine Kd.C_drewN ?_ _) | (with_reducible refine Kd.C_drew ?_))); (case aB => exact (by repeat (first | (with_reducible first | exact HB.out | apply below_alloc | apply pw_below_drewN | apply below_drew1) | exact HB.out))); (case aF => exact (fun _ _ => trivial)); (case aO => exact (by (with_reducible repeat (first | apply Kd.R_alloc | apply Kd.R_drewN | apply Kd.R_drew)); exact HO335.out)); (case aS => exact (below_size (by repeat (first | (with_reducible first | exact HB.out | apply below_alloc | apply pw_below_drewN | apply below_drew1) | exact HB.out)))); (case aL => have := LMc4.out; omega); intro v337 w75 ho hb hg hat; rw [← Ny336.out] at ho; have n0_ := Aside0.mk (hb); have n1_ := Aside0.mk (ho); clear HB; clear HO335; have HB := n0_; have HO338 := n1_; clear n0_ n1_; clear ho hb hg hat; obtain ⟨Ao76, co76, eo76⟩ := Kd.R_slice HO338.out; subst eo76) | ((with_reducible refine gate_callee (f := 25) rfl ?_); refine goesL_ (some 21) rfl rfl Try.func25 (by kernel_rfl) rfl #[.slice Ao76 y336.length co76] rfl (by (try simp only [List.map_toArray, List.map_cons, List.map_nil]); first | done | rfl | (simp only [List.length_drop, List.length_take]; rfl)) ?_; (with_reducible refine (lz_Form.calls k _ _ y336 t339 t340 _ ?side1 ?side2 A5.out).mono ?_); (case side1 => repeat (first | exact (Kd.R_reads' HO338.out).2.2 | (with_reducible refine Kd.C_alloc ?_ _) | (with_reducible refine Kd.C_drewN ?_ _) | (with_reducible refine Kd.C_drew ?_))); (case side2 => exact (Kd.R_reads' HO338.out).2.1); rintro e w77 ⟨rfl, hb⟩; refine ⟨_, rfl, ?_⟩; have n0_ := Aside0.mk (Kd.R_below (by (with_reducible repeat (first | apply Kd.R_alloc | apply Kd.R_drewN | apply Kd.R_drew)); exact HO338.out) hb); have n1_ := Aside0.mk (below_step (by repeat (first | (with_reducible first | exact HB.out | apply below_alloc | apply pw_below_drewN | apply below_drew1) | exact HB.out)) hb); clear HO338; clear HB; have HO338 := n0_; have HB := n1_; clear n0_ n1_; (try clear hb); (try clear hb2); (try clear hk); (try clear hi)))
          go_ret
          exact ⟨by first | rfl | (simp [errW_none, errW_some] <;> rfl) | (simp [*, errW_none, errW_some] <;> rfl), by repeat (first | (with_reducible first | exact HB.out | apply below_alloc | apply pw_below_drewN | apply below_drew1) | exact HB.out)⟩
    · rw [if_neg c4] at H
      exact absurd H (by simp)
  · replace c3 := Bool.eq_false_iff.mpr c3
    subst c3
    have H1 : (some false) = some r := by rw [if_neg (show ¬ (false = true) by decide)] at H; exact H
    clear H
    have H := H1
    clear H1
    obtain rfl := Option.some.inj H
    go_enter Try.func10, Try.ntmps10
    go_wp2_with (first | ((with_reducible refine gate_callee (f := 12) rfl ?_); refine goesL_ (some 15) rfl rfl Try.func12 (by kernel_rfl) rfl #[] rfl (by (try simp only [List.map_toArray, List.map_cons, List.map_nil]); first | done | rfl | (simp only [List.length_drop, List.length_take]; rfl)) ?_; (with_reducible refine (gantrylaw04_fixed.calls k  false _ A2.out).mono ?_); rintro e w78 ⟨rfl, hb⟩; refine ⟨_, rfl, ?_⟩; have n0_ := Aside0.mk (below_step (by repeat (first | (with_reducible first | exact HB.out | apply below_alloc | apply pw_below_drewN | apply below_drew1) | exact HB.out)) hb); clear HB; have HB := n0_; clear n0_; (try clear hb); (try clear hb2); (try clear hk); (try clear hi)))
    go_ret
    exact ⟨by first | rfl | (simp [errW_none, errW_some] <;> rfl) | (simp [*, errW_none, errW_some] <;> rfl), by repeat (first | (with_reducible first | exact HB.out | apply below_alloc | apply pw_below_drewN | apply below_drew1) | exact HB.out)⟩
end Go.Proofs.Ytgnoaokpahklaaa.QB
