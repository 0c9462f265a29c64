/- The machine side of a law, written by a program of this session (the kit printer, changed; wip/tools/mkprint.py): functions, their calls, the row. Lean checks it. -/
import Derived.Test.YtipdfajadehkmaaDoorQAx0
import Derived.Test.YtipdfajadehkmaaDoorWn
namespace Go.Proofs.YtipdfajadehkmaaDoor.QA
open Go.RowKit Go.Proofs.YtipdfajadehkmaaDoorW.PrintWords Go.Proofs.YtipdfajadehkmaaDoorW.PrintLast Go.Proofs.YtipdfajadehkmaaDoorW.PrintMore
attribute [local go_sem] max2_int min2_int max_two min_two max_three min_three max_four min_four   -- for this text's walks alone
set_option linter.unusedVariables false
set_option linter.unusedSimpArgs false

/-! ### strconv_Itoa_6: function 6 (given: walked by hand in Wn) -/
def strconv_Itoa_6.f (a0 : Int) : Option (ByteArray) := if 0 ≤ a0 then (if a0 < 100 then some (Wn.dec a0) else none) else none
theorem strconv_Itoa_6.calls (a0 : Int) (r : ByteArray) (w : World) (h : strconv_Itoa_6.f a0 = some r) :
    Calls Tryd.prog 6 #[.int .i64 a0] w fun e w' => e = .returned (.string r) ∧ Drawn0 w w' := by
  unfold strconv_Itoa_6.f at h
  split at h
  · rename_i h0
    split at h
    · rename_i h1
      obtain rfl := Option.some.inj h
      refine (Wn.itoa_calls a0 h0 h1 w).mono ?_
      rintro e w' ⟨rfl, rfl⟩
      exact ⟨rfl, Drawn0.refl _⟩
    · cases h
  · cases h

/-! ### strconv_Itoa_5: function 5 -/
def strconv_Itoa_5.f (a0 : Int) : Option (ByteArray) := (strconv_Itoa_6.f a0).bind fun t120 => (some t120)
set_option maxHeartbeats 8000000 in
set_option maxRecDepth 100000 in
theorem strconv_Itoa_5.calls (a0 : Int) (r : ByteArray) (w : World) (h : strconv_Itoa_5.f a0 = some r) :
    Calls Tryd.prog 5 #[.int .i64 a0] w fun e w' => e = .returned (.string r) ∧ Drawn0 w w' := by
  have H : ((strconv_Itoa_6.f a0).bind fun t120 => (some t120)) = some r := h
  clear h
  replace H := Option.bind_eq_some_iff.mp H
  obtain ⟨t120, A20, H⟩ := H
  replace H : (some t120) = some r := H
  have A2 := Aside0.mk A20
  clear A20
  obtain rfl := Option.some.inj H
  go_enter Tryd.func5, Tryd.ntmps5
  go_wp2_with (first | ((with_reducible refine gate_callee (f := 6) rfl ?_); refine goesL_ (some 4) rfl rfl Tryd.func6 (by kernel_rfl) rfl #[.int .i64 a0] rfl (by (try simp only [List.map_toArray, List.map_cons, List.map_nil]); first | done | rfl | (simp only [List.length_drop, List.length_take]; rfl)) ?_; (with_reducible refine (strconv_Itoa_6.calls a0 t120 _ A2.out).mono ?_); rintro e w' ⟨rfl, ⟨nd, rfl⟩⟩; refine ⟨_, rfl, ?_⟩))
  go_ret
  exact ⟨by first | rfl | (simp; done) | (simp [*]; done), by repeat (first | exact Drawn0.refl _ | apply Drawn0.step)⟩

/-! ### api_Errno_Error: function 4 -/
def api_Errno_Error.f (a0 : Int) : Option (ByteArray) := (strconv_Itoa_5.f a0).bind fun t121 => (if 14 + t121.size ≤ 9223372036854775807 then (some ((⟨#[103, 97, 110, 116, 114, 121, 58, 32, 101, 114, 114, 111, 114, 32]⟩ : ByteArray) ++ t121)) else (none))
set_option maxHeartbeats 8000000 in
set_option maxRecDepth 100000 in
theorem api_Errno_Error.calls (a0 : Int) (r : ByteArray) (w : World) (h : api_Errno_Error.f a0 = some r) :
    Calls Tryd.prog 4 #[.int .i64 a0] w fun e w' => e = .returned (.string r) ∧ Drawn0 w w' := by
  have H : ((strconv_Itoa_5.f a0).bind fun t121 => (if 14 + t121.size ≤ 9223372036854775807 then (some ((⟨#[103, 97, 110, 116, 114, 121, 58, 32, 101, 114, 114, 111, 114, 32]⟩ : ByteArray) ++ t121)) else (none))) = some r := h
  clear h
  replace H := Option.bind_eq_some_iff.mp H
  obtain ⟨t121, A20, H⟩ := H
  replace H : (if 14 + t121.size ≤ 9223372036854775807 then (some ((⟨#[103, 97, 110, 116, 114, 121, 58, 32, 101, 114, 114, 111, 114, 32]⟩ : ByteArray) ++ t121)) else (none)) = some r := H
  have A2 := Aside0.mk A20
  clear A20
  by_cases c3 : 14 + t121.size ≤ 9223372036854775807
  · rw [if_pos c3] at H
    have c3b0 := eq_true c3
    have c3b1 : decide (14 + t121.size ≤ 9223372036854775807) = true := decide_eq_true c3
    try have c3b2 : (9223372036854775807 < 14 + t121.size) = False := eq_false (Nat.not_lt.2 c3)
    obtain rfl := Option.some.inj H
    go_enter Tryd.func4, Tryd.ntmps4
    go_wp2_with (first | ((with_reducible refine gate_callee (f := 5) rfl ?_); refine goesL_ (some 4) rfl rfl Tryd.func5 (by kernel_rfl) rfl #[.int .i64 a0] rfl (by (try simp only [List.map_toArray, List.map_cons, List.map_nil]); first | done | rfl | (simp only [List.length_drop, List.length_take]; rfl)) ?_; (with_reducible refine (strconv_Itoa_5.calls a0 t121 _ A2.out).mono ?_); rintro e w' ⟨rfl, ⟨nd, rfl⟩⟩; refine ⟨_, rfl, ?_⟩))
    go_ret
    exact ⟨by first | rfl | (simp; done) | (simp [*]; done), by repeat (first | exact Drawn0.refl _ | apply Drawn0.step)⟩
  · rw [if_neg c3] at H
    exact absurd H (by simp)

/-! ### gantrytop_WholeNames: function 3 -/
mutual
def gantrytop_WholeNames.l0 : Nat → List (List Int) → Int → Int → Option (Bool)
  | 0, _, _, _ => none
  | k + 1, x18, x19, x20 => if x20 < x19 then (if 0 ≤ x20 then (if x20 < (x18.length : Int) then ((some (([0, 20, 60, 90] : List Int) : List Int)).bind fun y138 => (if x20 < (y138.length : Int) then (gantrytop_WholeNames.l1 k (rd y138 x20) x18 x19 x20 (rd_L2 x18 x20) ((rd_L2 x18 x20).length : Int) 0) else (none))) else (none)) else (none)) else (some true)
def gantrytop_WholeNames.l1 : Nat → Int → List (List Int) → Int → Int → List Int → Int → Int → Option (Bool)
  | 0, _, _, _, _, _, _, _ => none
  | k + 1, x7, x18, x19, x20, x29, x30, x31 => if x31 < x30 then (if 0 ≤ x31 then (if x31 < (x29.length : Int) then (if (rd x29 x31) = (wrap64 (x7 + x31)) then ((api_Errno_Error.f (rd x29 x31)).bind fun t143 => (if t143.toList = ([] : List UInt8) then (some false) else (gantrytop_WholeNames.l1 k x7 x18 x19 x20 x29 x30 (wrap64 (x31 + 1))))) else (some false)) else (none)) else (none)) else (gantrytop_WholeNames.l0 k x18 x19 (wrap64 (x20 + 1)))
end
def gantrytop_WholeNames.f (k : Nat)  : Option (Bool) := (some (([(([0, 1, 2, 3, 4, 5, 6] : List Int)), (([20, 21, 22, 23, 24, 25, 26, 27, 28, 29, 30, 31] : List Int)), (([60, 61, 62, 63, 64, 65, 66] : List Int)), (([90, 91, 92] : List Int))] : List (List Int)) : List (List Int))).bind fun y134 => (gantrytop_WholeNames.l0 k y134 (y134.length : Int) 0)
theorem gantrytop_WholeNames.mono_l : ∀ k, (∀ y0 y1 y2, LeO (gantrytop_WholeNames.l0 k y0 y1 y2) (gantrytop_WholeNames.l0 (k + 1) y0 y1 y2)) ∧ (∀ y0 y1 y2 y3 y4 y5 y6, LeO (gantrytop_WholeNames.l1 k y0 y1 y2 y3 y4 y5 y6) (gantrytop_WholeNames.l1 (k + 1) y0 y1 y2 y3 y4 y5 y6))
  | 0 => ⟨fun _ _ _ r h => by simp [gantrytop_WholeNames.l0] at h, fun _ _ _ _ _ _ _ r h => by simp [gantrytop_WholeNames.l1] at h⟩
  | k + 1 => by
    obtain ⟨ih0, ih1⟩ := gantrytop_WholeNames.mono_l k
    refine ⟨?_, ?_⟩
    · intro y0 y1 y2
      unfold gantrytop_WholeNames.l0
      repeat' first
      | (with_reducible exact ih0 _ _ _)
      | (with_reducible exact ih1 _ _ _ _ _ _ _)
      | (with_reducible exact LeO.refl _)
      | (with_reducible exact LeO.none _)
      | (with_reducible refine LeO.ite ?_ ?_)
      | (with_reducible refine LeO.bind ?_ (fun _ => ?_))
      | exact ih0 _ _ _
      | exact ih1 _ _ _ _ _ _ _
      | exact LeO.none _
      | refine LeO.ite ?_ ?_
      | refine LeO.bind ?_ (fun _ => ?_)
    · intro y0 y1 y2 y3 y4 y5 y6
      unfold gantrytop_WholeNames.l1
      repeat' first
      | (with_reducible exact ih0 _ _ _)
      | (with_reducible exact ih1 _ _ _ _ _ _ _)
      | (with_reducible exact LeO.refl _)
      | (with_reducible exact LeO.none _)
      | (with_reducible refine LeO.ite ?_ ?_)
      | (with_reducible refine LeO.bind ?_ (fun _ => ?_))
      | exact ih0 _ _ _
      | exact ih1 _ _ _ _ _ _ _
      | exact LeO.none _
      | refine LeO.ite ?_ ?_
      | refine LeO.bind ?_ (fun _ => ?_)
theorem gantrytop_WholeNames.mono : ∀ k, LeO (gantrytop_WholeNames.f k ) (gantrytop_WholeNames.f (k + 1) ) := by
  intro  k
  obtain ⟨ih0, ih1⟩ := gantrytop_WholeNames.mono_l k
  unfold gantrytop_WholeNames.f
  repeat' first
      | (with_reducible exact ih0 _ _ _)
      | (with_reducible exact ih1 _ _ _ _ _ _ _)
      | (with_reducible exact LeO.refl _)
      | (with_reducible exact LeO.none _)
      | (with_reducible refine LeO.ite ?_ ?_)
      | (with_reducible refine LeO.bind ?_ (fun _ => ?_))
      | exact ih0 _ _ _
      | exact ih1 _ _ _ _ _ _ _
      | exact LeO.none _
      | refine LeO.ite ?_ ?_
      | refine LeO.bind ?_ (fun _ => ?_)
set_option maxHeartbeats 8000000 in
set_option maxRecDepth 100000 in
theorem gantrytop_WholeNames.calls (k : Nat)  (r : Bool) (w : World) (h : gantrytop_WholeNames.f k  = some r) :
    Calls Tryd.prog 3 #[] w fun e w' => e = .returned (.bool r) ∧ Below w.heap.size w w' := by
  have HB := Aside0.mk (Below.refl w.heap.size w)
  have H : ((some (([(([0, 1, 2, 3, 4, 5, 6] : List Int)), (([20, 21, 22, 23, 24, 25, 26, 27, 28, 29, 30, 31] : List Int)), (([60, 61, 62, 63, 64, 65, 66] : List Int)), (([90, 91, 92] : List Int))] : List (List Int)) : List (List Int))).bind fun y134 => (gantrytop_WholeNames.l0 k y134 (y134.length : Int) 0)) = some r := h
  clear h
  obtain ⟨y122, hy122⟩ : ∃ y_ : List Int, y_ = (([0, 1, 2, 3, 4, 5, 6] : List Int)) := ⟨_, rfl⟩
  replace H : ((some (([y122, (([20, 21, 22, 23, 24, 25, 26, 27, 28, 29, 30, 31] : List Int)), (([60, 61, 62, 63, 64, 65, 66] : List Int)), (([90, 91, 92] : List Int))] : List (List Int)) : List (List Int))).bind fun y134 => (gantrytop_WholeNames.l0 k y134 (y134.length : Int) 0)) = some r := by first | (rw [hy122]; with_reducible exact H) | (have H2_ := (Option.bind_some _ _).symm.trans H; rw [hy122]; with_reducible exact H2_) | (have H2_ := (Option.bind_some _ _).symm.trans H; with_reducible exact H2_) | with_reducible exact H | (rw [hy122]; exact H) | exact H
  have Ny122 := Aside0.mk hy122
  clear hy122
  obtain ⟨y125, hy125⟩ : ∃ y_ : List Int, y_ = (([20, 21, 22, 23, 24, 25, 26, 27, 28, 29, 30, 31] : List Int)) := ⟨_, rfl⟩
  replace H : ((some (([y122, y125, (([60, 61, 62, 63, 64, 65, 66] : List Int)), (([90, 91, 92] : List Int))] : List (List Int)) : List (List Int))).bind fun y134 => (gantrytop_WholeNames.l0 k y134 (y134.length : Int) 0)) = some r := by first | (rw [hy125]; with_reducible exact H) | (have H2_ := (Option.bind_some _ _).symm.trans H; rw [hy125]; with_reducible exact H2_) | (have H2_ := (Option.bind_some _ _).symm.trans H; with_reducible exact H2_) | with_reducible exact H | (rw [hy125]; exact H) | exact H
  have Ny125 := Aside0.mk hy125
  clear hy125
  obtain ⟨y128, hy128⟩ : ∃ y_ : List Int, y_ = (([60, 61, 62, 63, 64, 65, 66] : List Int)) := ⟨_, rfl⟩
  replace H : ((some (([y122, y125, y128, (([90, 91, 92] : List Int))] : List (List Int)) : List (List Int))).bind fun y134 => (gantrytop_WholeNames.l0 k y134 (y134.length : Int) 0)) = some r := by first | (rw [hy128]; with_reducible exact H) | (have H2_ := (Option.bind_some _ _).symm.trans H; rw [hy128]; with_reducible exact H2_) | (have H2_ := (Option.bind_some _ _).symm.trans H; with_reducible exact H2_) | with_reducible exact H | (rw [hy128]; exact H) | exact H
  have Ny128 := Aside0.mk hy128
  clear hy128
  obtain ⟨y131, hy131⟩ : ∃ y_ : List Int, y_ = (([90, 91, 92] : List Int)) := ⟨_, rfl⟩
  replace H : ((some (([y122, y125, y128, y131] : List (List Int)) : List (List Int))).bind fun y134 => (gantrytop_WholeNames.l0 k y134 (y134.length : Int) 0)) = some r := by first | (rw [hy131]; with_reducible exact H) | (have H2_ := (Option.bind_some _ _).symm.trans H; rw [hy131]; with_reducible exact H2_) | (have H2_ := (Option.bind_some _ _).symm.trans H; with_reducible exact H2_) | with_reducible exact H | (rw [hy131]; exact H) | exact H
  have Ny131 := Aside0.mk hy131
  clear hy131
  obtain ⟨y134, hy134⟩ : ∃ y_ : List (List Int), y_ = (([y122, y125, y128, y131] : List (List Int))) := ⟨_, rfl⟩
  replace H : (gantrytop_WholeNames.l0 k y134 (y134.length : Int) 0) = some r := by first | (rw [hy134]; with_reducible exact H) | (have H2_ := (Option.bind_some _ _).symm.trans H; rw [hy134]; with_reducible exact H2_) | (have H2_ := (Option.bind_some _ _).symm.trans H; with_reducible exact H2_) | with_reducible exact H | (rw [hy134]; exact H) | exact H
  have Ny134 := Aside0.mk hy134
  clear hy134
  have H' := Aside0.mk H
  clear H
  go_enter Tryd.func3, Tryd.ntmps3
  go_wp2_with (first | ((with_reducible refine gate_dst (N := 10) rfl ?_); refine Kd.R_lit (Kd.int .i64) _ 22 ?hg (N := 10) ?hd (xs := ([0, 1, 2, 3, 4, 5, 6] : List Int)) (inner := [.int .i64 0, .int .i64 1, .int .i64 2, .int .i64 3, .int .i64 4, .int .i64 5, .int .i64 6]) (ok := fun _ => True) (okp := fun _ => True) ?hr ?hp (fun _ hk => hk) trivial (Below.refl _ _) (Nat.le_refl _) (by simp) ?_; (case hd => rfl); (case hg => rfl); (case hr => first | (go_simp; done) | (go_simp; rfl)); (case hp => exact (Reps.one (show Kd.M (Kd.int .i64) _ _ _ 0 [.int .i64 0] from rfl) (Reps.one (show Kd.M (Kd.int .i64) _ _ _ 1 [.int .i64 1] from rfl) (Reps.one (show Kd.M (Kd.int .i64) _ _ _ 2 [.int .i64 2] from rfl) (Reps.one (show Kd.M (Kd.int .i64) _ _ _ 3 [.int .i64 3] from rfl) (Reps.one (show Kd.M (Kd.int .i64) _ _ _ 4 [.int .i64 4] from rfl) (Reps.one (show Kd.M (Kd.int .i64) _ _ _ 5 [.int .i64 5] from rfl) (Reps.one (show Kd.M (Kd.int .i64) _ _ _ 6 [.int .i64 6] from rfl) (Reps.none _ _))))))))); intro v123 w1 ho2 hb hg_ hnew_; clear hg_ hnew_; (first | rw [← Ny122.out] at ho2 | (simp only [Int.reduceToNat] at ho2; rw [← Ny122.out] at ho2)); have n0_ := Aside0.mk (Kd.R_lower ho2 (below_size (by repeat (first | (with_reducible first | exact HB.out | apply below_alloc | apply pw_below_drewN | apply below_drew1) | exact HB.out)))); have n1_ := Aside0.mk (below_step (by repeat (first | (with_reducible first | exact HB.out | apply below_alloc | apply pw_below_drewN | apply below_drew1) | exact HB.out)) hb); clear HB; have HO124 := n0_; have HB := n1_; clear n0_ n1_; clear hb ho2) | ((with_reducible refine gate_dst (N := 11) rfl ?_); refine Kd.R_lit (Kd.int .i64) _ 22 ?hg (N := 11) ?hd (xs := ([20, 21, 22, 23, 24, 25, 26, 27, 28, 29, 30, 31] : List Int)) (inner := [.int .i64 20, .int .i64 21, .int .i64 22, .int .i64 23, .int .i64 24, .int .i64 25, .int .i64 26, .int .i64 27, .int .i64 28, .int .i64 29, .int .i64 30, .int .i64 31]) (ok := fun _ => True) (okp := fun _ => True) ?hr ?hp (fun _ hk => hk) trivial (Below.refl _ _) (Nat.le_refl _) (by simp) ?_; (case hd => rfl); (case hg => rfl); (case hr => first | (go_simp; done) | (go_simp; rfl)); (case hp => exact (Reps.one (show Kd.M (Kd.int .i64) _ _ _ 20 [.int .i64 20] from rfl) (Reps.one (show Kd.M (Kd.int .i64) _ _ _ 21 [.int .i64 21] from rfl) (Reps.one (show Kd.M (Kd.int .i64) _ _ _ 22 [.int .i64 22] from rfl) (Reps.one (show Kd.M (Kd.int .i64) _ _ _ 23 [.int .i64 23] from rfl) (Reps.one (show Kd.M (Kd.int .i64) _ _ _ 24 [.int .i64 24] from rfl) (Reps.one (show Kd.M (Kd.int .i64) _ _ _ 25 [.int .i64 25] from rfl) (Reps.one (show Kd.M (Kd.int .i64) _ _ _ 26 [.int .i64 26] from rfl) (Reps.one (show Kd.M (Kd.int .i64) _ _ _ 27 [.int .i64 27] from rfl) (Reps.one (show Kd.M (Kd.int .i64) _ _ _ 28 [.int .i64 28] from rfl) (Reps.one (show Kd.M (Kd.int .i64) _ _ _ 29 [.int .i64 29] from rfl) (Reps.one (show Kd.M (Kd.int .i64) _ _ _ 30 [.int .i64 30] from rfl) (Reps.one (show Kd.M (Kd.int .i64) _ _ _ 31 [.int .i64 31] from rfl) (Reps.none _ _)))))))))))))); intro v126 w3 ho4 hb hg_ hnew_; clear hg_ hnew_; (first | rw [← Ny125.out] at ho4 | (simp only [Int.reduceToNat] at ho4; rw [← Ny125.out] at ho4)); have n0_ := Aside0.mk (Kd.R_elder' (by (with_reducible repeat (first | apply Kd.R_alloc | apply Kd.R_drewN | apply Kd.R_drew)); exact HO124.out) (Kd.R_base ho4) hb); have n1_ := Aside0.mk (Kd.R_lower (Kd.R_new' ho4 (Kd.R_lt (by (with_reducible repeat (first | apply Kd.R_alloc | apply Kd.R_drewN | apply Kd.R_drew)); exact HO124.out))) (below_size (by repeat (first | (with_reducible first | exact HB.out | apply below_alloc | apply pw_below_drewN | apply below_drew1) | exact HB.out)))); have n2_ := Aside0.mk (below_step (by repeat (first | (with_reducible first | exact HB.out | apply below_alloc | apply pw_below_drewN | apply below_drew1) | exact HB.out)) hb); clear HO124; clear HB; have HO124 := n0_; have HO127 := n1_; have HB := n2_; clear n0_ n1_ n2_; clear hb ho4) | ((with_reducible refine gate_dst (N := 12) rfl ?_); refine Kd.R_lit (Kd.int .i64) _ 22 ?hg (N := 12) ?hd (xs := ([60, 61, 62, 63, 64, 65, 66] : List Int)) (inner := [.int .i64 60, .int .i64 61, .int .i64 62, .int .i64 63, .int .i64 64, .int .i64 65, .int .i64 66]) (ok := fun _ => True) (okp := fun _ => True) ?hr ?hp (fun _ hk => hk) trivial (Below.refl _ _) (Nat.le_refl _) (by simp) ?_; (case hd => rfl); (case hg => rfl); (case hr => first | (go_simp; done) | (go_simp; rfl)); (case hp => exact (Reps.one (show Kd.M (Kd.int .i64) _ _ _ 60 [.int .i64 60] from rfl) (Reps.one (show Kd.M (Kd.int .i64) _ _ _ 61 [.int .i64 61] from rfl) (Reps.one (show Kd.M (Kd.int .i64) _ _ _ 62 [.int .i64 62] from rfl) (Reps.one (show Kd.M (Kd.int .i64) _ _ _ 63 [.int .i64 63] from rfl) (Reps.one (show Kd.M (Kd.int .i64) _ _ _ 64 [.int .i64 64] from rfl) (Reps.one (show Kd.M (Kd.int .i64) _ _ _ 65 [.int .i64 65] from rfl) (Reps.one (show Kd.M (Kd.int .i64) _ _ _ 66 [.int .i64 66] from rfl) (Reps.none _ _))))))))); intro v129 w5 ho6 hb hg_ hnew_; clear hg_ hnew_; (first | rw [← Ny128.out] at ho6 | (simp only [Int.reduceToNat] at ho6; rw [← Ny128.out] at ho6)); have n0_ := Aside0.mk (Kd.R_elder' (by (with_reducible repeat (first | apply Kd.R_alloc | apply Kd.R_drewN | apply Kd.R_drew)); exact HO124.out) (Kd.R_base ho6) hb); have n1_ := Aside0.mk (Kd.R_elder' (by (with_reducible repeat (first | apply Kd.R_alloc | apply Kd.R_drewN | apply Kd.R_drew)); exact HO127.out) (Kd.R_base ho6) hb); have n2_ := Aside0.mk (Kd.R_lower (Kd.R_new' (Kd.R_new' ho6 (Kd.R_lt (by (with_reducible repeat (first | apply Kd.R_alloc | apply Kd.R_drewN | apply Kd.R_drew)); exact HO124.out))) (Kd.R_lt (by (with_reducible repeat (first | apply Kd.R_alloc | apply Kd.R_drewN | apply Kd.R_drew)); exact HO127.out))) (below_size (by repeat (first | (with_reducible first | exact HB.out | apply below_alloc | apply pw_below_drewN | apply below_drew1) | exact HB.out)))); have n3_ := Aside0.mk (below_step (by repeat (first | (with_reducible first | exact HB.out | apply below_alloc | apply pw_below_drewN | apply below_drew1) | exact HB.out)) hb); clear HO124; clear HO127; clear HB; have HO124 := n0_; have HO127 := n1_; have HO130 := n2_; have HB := n3_; clear n0_ n1_ n2_ n3_; clear hb ho6) | ((with_reducible refine gate_dst (N := 13) rfl ?_); refine Kd.R_lit (Kd.int .i64) _ 22 ?hg (N := 13) ?hd (xs := ([90, 91, 92] : List Int)) (inner := [.int .i64 90, .int .i64 91, .int .i64 92]) (ok := fun _ => True) (okp := fun _ => True) ?hr ?hp (fun _ hk => hk) trivial (Below.refl _ _) (Nat.le_refl _) (by simp) ?_; (case hd => rfl); (case hg => rfl); (case hr => first | (go_simp; done) | (go_simp; rfl)); (case hp => exact (Reps.one (show Kd.M (Kd.int .i64) _ _ _ 90 [.int .i64 90] from rfl) (Reps.one (show Kd.M (Kd.int .i64) _ _ _ 91 [.int .i64 91] from rfl) (Reps.one (show Kd.M (Kd.int .i64) _ _ _ 92 [.int .i64 92] from rfl) (Reps.none _ _))))); intro v132 w7 ho8 hb hg_ hnew_; clear hg_ hnew_; (first | rw [← Ny131.out] at ho8 | (simp only [Int.reduceToNat] at ho8; rw [← Ny131.out] at ho8)); have n0_ := Aside0.mk (Kd.R_elder' (by (with_reducible repeat (first | apply Kd.R_alloc | apply Kd.R_drewN | apply Kd.R_drew)); exact HO124.out) (Kd.R_base ho8) hb); have n1_ := Aside0.mk (Kd.R_elder' (by (with_reducible repeat (first | apply Kd.R_alloc | apply Kd.R_drewN | apply Kd.R_drew)); exact HO127.out) (Kd.R_base ho8) hb); have n2_ := Aside0.mk (Kd.R_elder' (by (with_reducible repeat (first | apply Kd.R_alloc | apply Kd.R_drewN | apply Kd.R_drew)); exact HO130.out) (Kd.R_base ho8) hb); have n3_ := Aside0.mk (Kd.R_lower (Kd.R_new' (Kd.R_new' (Kd.R_new' ho8 (Kd.R_lt (by (with_reducible repeat (first | apply Kd.R_alloc | apply Kd.R_drewN | apply Kd.R_drew)); exact HO124.out))) (Kd.R_lt (by (with_reducible repeat (first | apply Kd.R_alloc | apply Kd.R_drewN | apply Kd.R_drew)); exact HO127.out))) (Kd.R_lt (by (with_reducible repeat (first | apply Kd.R_alloc | apply Kd.R_drewN | apply Kd.R_drew)); exact HO130.out))) (below_size (by repeat (first | (with_reducible first | exact HB.out | apply below_alloc | apply pw_below_drewN | apply below_drew1) | exact HB.out)))); have n4_ := Aside0.mk (below_step (by repeat (first | (with_reducible first | exact HB.out | apply below_alloc | apply pw_below_drewN | apply below_drew1) | exact HB.out)) hb); clear HO124; clear HO127; clear HO130; clear HB; have HO124 := n0_; have HO127 := n1_; have HO130 := n2_; have HO133 := n3_; have HB := n4_; clear n0_ n1_ n2_ n3_ n4_; clear hb ho8; obtain ⟨Ao9, co9, eo9⟩ := Kd.R_slice HO124.out; subst eo9; obtain ⟨Ao10, co10, eo10⟩ := Kd.R_slice HO127.out; subst eo10; obtain ⟨Ao11, co11, eo11⟩ := Kd.R_slice HO130.out; subst eo11; obtain ⟨Ao12, co12, eo12⟩ := Kd.R_slice HO133.out; subst eo12) | ((with_reducible refine gate_dst (N := 18) rfl ?_); refine Kd.N_lit (Kd.slice 22 (Kd.int .i64)) _ 23 ?hg (N' := 18) ?hd (xs := ([y122, y125, y128, y131] : List (List Int))) (inner := [.slice Ao9 y122.length co9, .slice Ao10 y125.length co10, .slice Ao11 y128.length co11, .slice Ao12 y131.length co12]) (ok := (fun _ => True)) (okp := (fun _ => True)) ?hr ?hp (fun _ hk => hk) ((show ∀ k_, w7.heap.size ≤ k_ → (fun _ => True) k_ from fun k_ hk => trivial) _ (Nat.le_refl _)) (Below.refl _ _) (Nat.le_refl _) (by simp) ?_; (case hd => rfl); (case hg => rfl); (case hr => first | (go_simp; done) | (go_simp; rfl)); (case hp => exact (Reps.one (show Kd.FK (Kd.slice 22 (Kd.int .i64)) _ _ y122 [.slice Ao9 y122.length co9] from (Kd.FK_slice_mk (Kd.R_reads' (Kd.R_mono (ok' := (fun _ => True)) (HO124.out) (fun k_ hk => trivial))).2.1 (Kd.R_F (Kd.R_mono (ok' := (fun _ => True)) (HO124.out) (fun k_ hk => trivial))))) (Reps.one (show Kd.FK (Kd.slice 22 (Kd.int .i64)) _ _ y125 [.slice Ao10 y125.length co10] from (Kd.FK_slice_mk (Kd.R_reads' (Kd.R_mono (ok' := (fun _ => True)) (HO127.out) (fun k_ hk => trivial))).2.1 (Kd.R_F (Kd.R_mono (ok' := (fun _ => True)) (HO127.out) (fun k_ hk => trivial))))) (Reps.one (show Kd.FK (Kd.slice 22 (Kd.int .i64)) _ _ y128 [.slice Ao11 y128.length co11] from (Kd.FK_slice_mk (Kd.R_reads' (Kd.R_mono (ok' := (fun _ => True)) (HO130.out) (fun k_ hk => trivial))).2.1 (Kd.R_F (Kd.R_mono (ok' := (fun _ => True)) (HO130.out) (fun k_ hk => trivial))))) (Reps.one (show Kd.FK (Kd.slice 22 (Kd.int .i64)) _ _ y131 [.slice Ao12 y131.length co12] from (Kd.FK_slice_mk (Kd.R_reads' (Kd.R_mono (ok' := (fun _ => True)) (HO133.out) (fun k_ hk => trivial))).2.1 (Kd.R_F (Kd.R_mono (ok' := (fun _ => True)) (HO133.out) (fun k_ hk => trivial))))) (Reps.none _ _)))))); intro v135 w13 ho14 hb hg_ hnew_; clear hg_ hnew_; (first | rw [← Ny134.out] at ho14 | (simp only [Int.reduceToNat] at ho14; rw [← Ny134.out] at ho14)); have n0_ := Aside0.mk (Kd.N_lower ho14 (below_size (by repeat (first | (with_reducible first | exact HB.out | apply below_alloc | apply pw_below_drewN | apply below_drew1) | exact HB.out)))); have n1_ := Aside0.mk (below_step (by repeat (first | (with_reducible first | exact HB.out | apply below_alloc | apply pw_below_drewN | apply below_drew1) | exact HB.out)) hb); clear HB; clear HO124; clear HO127; clear HO130; clear HO133; have HO136 := n0_; have HB := n1_; clear n0_ n1_; clear hb ho14; obtain ⟨Ao15, co15, eo15⟩ := Kd.N_slice HO136.out; subst eo15))
  go_loopg [20] k (fun kq v20 w' => ∃ (x20_1 : Int), v20 = .int .i64 x20_1 ∧ Aside0 (gantrytop_WholeNames.l0 kq y134 (y134.length : Int) x20_1 = some r) ∧ Aside0 (kq ≤ k) ∧ Aside0 (Kd.N (Kd.slice 22 (Kd.int .i64)) 23 w' w.heap.size (fun _ => True) (.slice Ao15 y134.length co15) y134) ∧ Aside0 (Below w.heap.size w w'))
  case atStart => exact ⟨(0), (by first | rfl | (simp; done) | (simp [*]; done)), H', ⟨Nat.le_refl _⟩, ⟨by (with_reducible repeat (first | apply Kd.N_alloc | apply Kd.N_drewN | apply Kd.N_drew)); exact HO136.out⟩, ⟨by repeat (first | (with_reducible first | exact HB.out | apply below_alloc | apply pw_below_drewN | apply below_drew1) | exact HB.out)⟩⟩
  case round =>
    clear H'
    try clear p2
    try clear c3
    obtain ⟨x20_1, rfl, HA, HK1, HO_18, HB⟩ := hrel
    cases gk with
    | zero => exact absurd HA.out (by simp [gantrytop_WholeNames.l0])
    | succ k1 =>
      have H := HA.out
      clear HA
      simp only [gantrytop_WholeNames.l0] at H
      by_cases c16 : x20_1 < (y134.length : Int)
      · rw [if_pos c16] at H
        have c16b0 : decide (x20_1 < (y134.length : Int)) = true := decide_eq_true c16
        clear c16
        by_cases c17 : 0 ≤ x20_1
        · rw [if_pos c17] at H
          have c17b0 : decide (0 ≤ x20_1) = true := decide_eq_true c17
          clear c17
          by_cases c18 : x20_1 < (y134.length : Int)
          · rw [if_pos c18] at H
            have c18b0 : decide (x20_1 < (y134.length : Int)) = true := decide_eq_true c18
            clear c18
            obtain ⟨y138, hy138⟩ : ∃ y_ : List Int, y_ = (([0, 20, 60, 90] : List Int)) := ⟨_, rfl⟩
            replace H : (if x20_1 < (y138.length : Int) then (gantrytop_WholeNames.l1 k1 (rd y138 x20_1) y134 (y134.length : Int) x20_1 (rd_L2 y134 x20_1) ((rd_L2 y134 x20_1).length : Int) 0) else (none)) = some r := by first | (rw [hy138]; with_reducible exact H) | (have H2_ := (Option.bind_some _ _).symm.trans H; rw [hy138]; with_reducible exact H2_) | (have H2_ := (Option.bind_some _ _).symm.trans H; with_reducible exact H2_) | with_reducible exact H | (rw [hy138]; exact H) | exact H
            have Ny138 := Aside0.mk hy138
            clear hy138
            by_cases c19 : x20_1 < (y138.length : Int)
            · rw [if_pos c19] at H
              have c19b0 : decide (x20_1 < (y138.length : Int)) = true := decide_eq_true c19
              clear c19
              have H' := Aside0.mk H
              clear H
              have p137 : 0 ≤ (x20_1 : Int) := of_decide_eq_true (by first | (with_reducible assumption) | assumption)
              have q137 : x20_1 < (y134.length : Int) := of_decide_eq_true (by first | (with_reducible assumption) | assumption)
              obtain ⟨ad137, A137_0, c137_0, e137, hx137_0, hl137_0, hi137_0⟩ := at_L2 (Kd.N_reads' HO_18.out).2.2 x20_1 p137 q137
              cases e137
              obtain ⟨ce137, hce137, hMe137, hcc137⟩ := Kd.N_get HO_18.out [] x20_1 p137 (by first | exact q137 | exact of_decide_eq_true (by first | (with_reducible assumption) | assumption) | (have e_ := (Kd.N_reads' HO_18.out).1; omega))
              obtain ⟨ua137_0, uc137_0, rfl, ul137_0, ge137_0⟩ := Kd.FK_slice_open hMe137
              have hv137_0 := hcc137 0 _ rfl
              rw [Nat.add_zero, show ((Kd.slice 22 (Kd.int .i64))).sz = 1 from rfl, Nat.mul_one] at hv137_0
              replace hv137_0 := Option.some.inj (hv137_0.symm.trans hx137_0)
              injection hv137_0 with hva_ hvn_ hvc_
              rw [hva_] at ge137_0
              rw [hvc_] at ul137_0
              have HL137_0 := Aside0.mk (show Kd.V (Kd.int .i64) 22 _ w.heap.size _ _ (rd_L2 y134 x20_1) from Kd.V_mk ul137_0 ge137_0)
              clear hva_ hvn_ hvc_ ge137_0 ul137_0
              clear hcc137 hce137
              have HR137_0 := Aside0.mk hi137_0
              have HC137_0 := Aside0.mk hl137_0
              clear hi137_0 hl137_0
              replace p137 := eq_true p137
              replace q137 := eq_true q137
              go_wp2_with (first | ((with_reducible refine gate_dst (N := 25) rfl ?_); refine Kd.R_lit (Kd.int .i64) _ 3 ?hg (N := 25) ?hd (xs := ([0, 20, 60, 90] : List Int)) (inner := [.int .i64 0, .int .i64 20, .int .i64 60, .int .i64 90]) (ok := fun _ => True) (okp := fun _ => True) ?hr ?hp (fun _ hk => hk) trivial (Below.refl _ _) (Nat.le_refl _) (by simp) ?_; (case hd => rfl); (case hg => rfl); (case hr => first | (go_simp; done) | (go_simp; rfl)); (case hp => exact (Reps.one (show Kd.M (Kd.int .i64) _ _ _ 0 [.int .i64 0] from rfl) (Reps.one (show Kd.M (Kd.int .i64) _ _ _ 20 [.int .i64 20] from rfl) (Reps.one (show Kd.M (Kd.int .i64) _ _ _ 60 [.int .i64 60] from rfl) (Reps.one (show Kd.M (Kd.int .i64) _ _ _ 90 [.int .i64 90] from rfl) (Reps.none _ _)))))); intro v139 w20 ho21 hb hg_ hnew_; clear hg_ hnew_; (first | rw [← Ny138.out] at ho21 | (simp only [Int.reduceToNat] at ho21; rw [← Ny138.out] at ho21)); have n0_ := Aside0.mk (Kd.N_elder' (by (with_reducible repeat (first | apply Kd.N_alloc | apply Kd.N_drewN | apply Kd.N_drew)); exact HO_18.out) (Kd.R_base ho21) hb); have n1_ := Aside0.mk (Kd.V_elder' (by (with_reducible repeat (first | apply Kd.V_alloc | apply Kd.V_drewN | apply Kd.V_drew)); exact HL137_0.out) (Kd.R_base ho21) hb); have n2_ := Aside0.mk (Kd.R_lower ho21 (below_size (by repeat (first | (with_reducible first | exact HB.out | apply below_alloc | apply pw_below_drewN | apply below_drew1) | exact HB.out)))); have n3_ := Aside0.mk (Kd.C_below (by repeat (first | (with_reducible exact HR137_0.out) | (with_reducible refine Kd.C_alloc ?_ _) | (with_reducible refine Kd.C_drewN ?_ _) | (with_reducible refine Kd.C_drew ?_) | exact HR137_0.out)) hb); have n4_ := Aside0.mk (below_step (by repeat (first | (with_reducible first | exact HB.out | apply below_alloc | apply pw_below_drewN | apply below_drew1) | exact HB.out)) hb); clear HO_18; clear HL137_0; clear HR137_0; clear HB; have HO_18 := n0_; have HL137_0 := n1_; have HO140 := n2_; have HR137_0 := n3_; have HB := n4_; clear n0_ n1_ n2_ n3_ n4_; clear hb ho21; obtain ⟨Ao22, co22, eo22⟩ := Kd.R_slice HO140.out; subst eo22; have p141 : 0 ≤ (x20_1 : Int) := of_decide_eq_true (by first | (with_reducible assumption) | assumption); have q141 : x20_1 < (y138.length : Int) := of_decide_eq_true (by first | (with_reducible assumption) | assumption); obtain ⟨ad141, e141, hx141_0⟩ := Kd.at_int (Kd.R_reads' HO140.out).2.2 x20_1 p141 q141; cases e141; replace p141 := eq_true p141; replace q141 := eq_true q141))
              go_loopg [31] k1 (fun kq v31 w' => ∃ (x31_2 : Int), v31 = .int .i64 x31_2 ∧ Aside0 (gantrytop_WholeNames.l1 kq (rd y138 x20_1) y134 (y134.length : Int) x20_1 (rd_L2 y134 x20_1) ((rd_L2 y134 x20_1).length : Int) x31_2 = some r) ∧ Aside0 (kq ≤ k1) ∧ Aside0 (Kd.N (Kd.slice 22 (Kd.int .i64)) 23 w' w.heap.size (fun _ => True) (.slice (some ad137) y134.length co15) y134) ∧ Aside0 (Kd.C (Kd.int .i64) w' A137_0 (rd_L2 y134 x20_1).length (rd_L2 y134 x20_1)) ∧ Aside0 (Below w.heap.size w w'))
              case atStart => exact ⟨(0), (by first | rfl | (simp; done) | (simp [*]; done)), H', ⟨Nat.le_refl _⟩, ⟨by (with_reducible repeat (first | apply Kd.N_alloc | apply Kd.N_drewN | apply Kd.N_drew)); exact Kd.N_mono HO_18.out (fun _ hk => trivial)⟩, ⟨by repeat (first | (with_reducible exact HR137_0.out) | (with_reducible refine Kd.C_alloc ?_ _) | (with_reducible refine Kd.C_drewN ?_ _) | (with_reducible refine Kd.C_drew ?_) | exact HR137_0.out)⟩, ⟨by repeat (first | (with_reducible first | exact HB.out | apply below_alloc | apply pw_below_drewN | apply below_drew1) | exact HB.out)⟩⟩
              case round =>
                clear H'
                try clear c1
                try clear p1
                try clear q1
                try clear hx1
                try clear p2
                try clear c3
                try clear c13
                try clear p13
                try clear q13
                try clear hx13
                try clear p14
                try clear q14
                try clear hx14
                try clear c16
                try clear c16b0
                try clear c17
                try clear c17b0
                try clear c18
                try clear c18b0
                try clear c19
                try clear c19b0
                try clear hx137_0
                try clear hx141_0
                try clear p137
                try clear p141
                try clear p2
                try clear q137
                try clear q141
                obtain ⟨x31_2, rfl, HA, HK2, HO_18, HR137_0, HB⟩ := hrel
                cases gk with
                | zero => exact absurd HA.out (by simp [gantrytop_WholeNames.l1])
                | succ k2 =>
                  have H := HA.out
                  clear HA
                  simp only [gantrytop_WholeNames.l1] at H
                  by_cases c23 : x31_2 < ((rd_L2 y134 x20_1).length : Int)
                  · rw [if_pos c23] at H
                    have c23b0 : decide (x31_2 < ((rd_L2 y134 x20_1).length : Int)) = true := decide_eq_true c23
                    clear c23
                    by_cases c24 : 0 ≤ x31_2
                    · rw [if_pos c24] at H
                      have c24b0 : decide (0 ≤ x31_2) = true := decide_eq_true c24
                      clear c24
                      by_cases c25 : x31_2 < ((rd_L2 y134 x20_1).length : Int)
                      · rw [if_pos c25] at H
                        have c25b0 : decide (x31_2 < ((rd_L2 y134 x20_1).length : Int)) = true := decide_eq_true c25
                        clear c25
                        by_cases c26 : (rd (rd_L2 y134 x20_1) x31_2) = (wrap64 ((rd y138 x20_1) + x31_2))
                        · rw [if_pos c26] at H
                          have c26b0 : ((rd (rd_L2 y134 x20_1) x31_2) == (wrap64 ((rd y138 x20_1) + x31_2))) = true := beq_iff_eq.mpr c26
                          have c26b1 : ((rd (rd_L2 y134 x20_1) x31_2) != (wrap64 ((rd y138 x20_1) + x31_2))) = false := bne_eq_false_iff_eq.mpr c26
                          clear c26
                          replace H := Option.bind_eq_some_iff.mp H
                          obtain ⟨t143, A270, H⟩ := H
                          replace H : (if t143.toList = ([] : List UInt8) then (some false) else (gantrytop_WholeNames.l1 k2 (rd y138 x20_1) y134 (y134.length : Int) x20_1 (rd_L2 y134 x20_1) ((rd_L2 y134 x20_1).length : Int) (wrap64 (x31_2 + 1)))) = some r := H
                          have A27 := Aside0.mk A270
                          clear A270
                          by_cases c28 : t143.toList = ([] : List UInt8)
                          · rw [if_pos c28] at H
                            have c28b0 : (t143.toList == ([] : List UInt8)) = true := beq_iff_eq.mpr c28
                            have c28b1 : (t143.toList != ([] : List UInt8)) = false := bne_eq_false_iff_eq.mpr c28
                            clear c28
                            obtain rfl := Option.some.inj H
                            have p142 : 0 ≤ (x31_2 : Int) := of_decide_eq_true (by first | (with_reducible assumption) | assumption)
                            have q142 : x31_2 < ((rd_L2 y134 x20_1).length : Int) := of_decide_eq_true (by first | (with_reducible assumption) | assumption)
                            obtain ⟨ad142, e142, hx142_0⟩ := Kd.at_int HR137_0.out x31_2 p142 q142
                            cases e142
                            replace p142 := eq_true p142
                            replace q142 := eq_true q142
                            go_wp2_with (first | (go_at_call 4; (with_reducible refine (api_Errno_Error.calls (rd (rd_L2 y134 x20_1) x31_2) t143 _ A27.out).mono ?_); rintro e w' ⟨rfl, ⟨nd, rfl⟩⟩))
                            go_ret
                            exact ⟨by first | rfl | (simp [errW_none, errW_some] <;> rfl) | (simp [*, errW_none, errW_some] <;> rfl), by repeat (first | (with_reducible first | exact HB.out | apply below_alloc | apply pw_below_drewN | apply below_drew1) | exact HB.out)⟩
                          · rw [if_neg c28] at H
                            have c28b0 : (t143.toList == ([] : List UInt8)) = false := beq_eq_false_iff_ne.mpr c28
                            have c28b1 : (t143.toList != ([] : List UInt8)) = true := bne_iff_ne.mpr c28
                            have H' := Aside0.mk H
                            clear H
                            have p142 : 0 ≤ (x31_2 : Int) := of_decide_eq_true (by first | (with_reducible assumption) | assumption)
                            have q142 : x31_2 < ((rd_L2 y134 x20_1).length : Int) := of_decide_eq_true (by first | (with_reducible assumption) | assumption)
                            obtain ⟨ad142, e142, hx142_0⟩ := Kd.at_int HR137_0.out x31_2 p142 q142
                            cases e142
                            replace p142 := eq_true p142
                            replace q142 := eq_true q142
                            go_wp2_with (first | (go_at_call 4; (with_reducible refine (api_Errno_Error.calls (rd (rd_L2 y134 x20_1) x31_2) t143 _ A27.out).mono ?_); rintro e w' ⟨rfl, ⟨nd, rfl⟩⟩))
                            go_roundg k2
                            case measure => have := HK1.out; have := HK2.out; omega
                            case rel => exact ⟨(wrap64 (x31_2 + 1)), (by first | rfl | (simp; done) | (simp [*]; done)), H', ⟨by have := HK1.out; have := HK2.out; omega⟩, ⟨by (with_reducible repeat (first | apply Kd.N_alloc | apply Kd.N_drewN | apply Kd.N_drew)); exact HO_18.out⟩, ⟨by repeat (first | (with_reducible exact HR137_0.out) | (with_reducible refine Kd.C_alloc ?_ _) | (with_reducible refine Kd.C_drewN ?_ _) | (with_reducible refine Kd.C_drew ?_) | exact HR137_0.out)⟩, ⟨by repeat (first | (with_reducible first | exact HB.out | apply below_alloc | apply pw_below_drewN | apply below_drew1) | exact HB.out)⟩⟩
                        · rw [if_neg c26] at H
                          have c26b0 : ((rd (rd_L2 y134 x20_1) x31_2) == (wrap64 ((rd y138 x20_1) + x31_2))) = false := beq_eq_false_iff_ne.mpr c26
                          have c26b1 : ((rd (rd_L2 y134 x20_1) x31_2) != (wrap64 ((rd y138 x20_1) + x31_2))) = true := bne_iff_ne.mpr c26
                          obtain rfl := Option.some.inj H
                          have p142 : 0 ≤ (x31_2 : Int) := of_decide_eq_true (by first | (with_reducible assumption) | assumption)
                          have q142 : x31_2 < ((rd_L2 y134 x20_1).length : Int) := of_decide_eq_true (by first | (with_reducible assumption) | assumption)
                          obtain ⟨ad142, e142, hx142_0⟩ := Kd.at_int HR137_0.out x31_2 p142 q142
                          cases e142
                          replace p142 := eq_true p142
                          replace q142 := eq_true q142
                          go_wp2
                          go_ret
                          exact ⟨by first | rfl | (simp [errW_none, errW_some] <;> rfl) | (simp [*, errW_none, errW_some] <;> rfl), by repeat (first | (with_reducible first | exact HB.out | apply below_alloc | apply pw_below_drewN | apply below_drew1) | exact HB.out)⟩
                      · rw [if_neg c25] at H
                        exact absurd H (by simp)
                    · rw [if_neg c24] at H
                      exact absurd H (by simp)
                  · rw [if_neg c23] at H
                    have c23b0 : decide (x31_2 < ((rd_L2 y134 x20_1).length : Int)) = false := decide_eq_false c23
                    clear c23
                    have H' := Aside0.mk H
                    clear H
                    go_wp2
                    go_roundg k2
                    case measure => have := HK1.out; have := HK2.out; omega
                    case rel => exact ⟨(wrap64 (x20_1 + 1)), (by first | rfl | (simp; done) | (simp [*]; done)), H', ⟨by have := HK1.out; have := HK2.out; omega⟩, ⟨by (with_reducible repeat (first | apply Kd.N_alloc | apply Kd.N_drewN | apply Kd.N_drew)); exact HO_18.out⟩, ⟨by repeat (first | (with_reducible first | exact HB.out | apply below_alloc | apply pw_below_drewN | apply below_drew1) | exact HB.out)⟩⟩
            · rw [if_neg c19] at H
              exact absurd H (by simp)
          · rw [if_neg c18] at H
            exact absurd H (by simp)
        · rw [if_neg c17] at H
          exact absurd H (by simp)
      · rw [if_neg c16] at H
        have c16b0 : decide (x20_1 < (y134.length : Int)) = false := decide_eq_false c16
        clear c16
        obtain rfl := Option.some.inj H
        go_wp2
        go_ret
        exact ⟨by first | rfl | (simp [errW_none, errW_some] <;> rfl) | (simp [*, errW_none, errW_some] <;> rfl), by repeat (first | (with_reducible first | exact HB.out | apply below_alloc | apply pw_below_drewN | apply below_drew1) | exact HB.out)⟩

/-- THE ONE PURE STATEMENT of gantrytop_WholeNames: yours. -/
def gantrytop_WholeNames.Pure : Prop := ∃ k, gantrytop_WholeNames.f k  = some true
theorem gantrytop_WholeNames.walk (P : gantrytop_WholeNames.Pure)  (w : World)  :
    Calls Tryd.prog 3 #[] w fun e w' => e = .returned (.bool true) ∧ Below w.heap.size w w' := by
  obtain ⟨k, h⟩ := P  
  refine (gantrytop_WholeNames.calls k  true w h).mono ?_
  rintro e w' ⟨rfl, hd⟩
  exact ⟨rfl, hd⟩

end Go.Proofs.YtipdfajadehkmaaDoor.QA
