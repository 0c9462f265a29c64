-- Written by a program of this session (the kit's printer, changed; see wip/tools/mkprint.py). Lean checks it.
import Derived.Test.YtipdfajadehkmaaQVarintAllx0
import Derived.Test.YtipdfajadehkmaaQVarintAllx1
import Derived.Test.YtipdfajadehkmaaQVarintAllx2
namespace Go.Proofs.Ytipdfajadehkmaa.QVarintAll
open Go.RowKit Go.Proofs.YtipdfajadehkmaaW.PrintWords Go.Proofs.YtipdfajadehkmaaW.PrintLast Go.Proofs.YtipdfajadehkmaaW.PrintMore
attribute [local go_sem] max2_int min2_int max_two min_two max_three min_three max_four min_four   -- for this text's walks alone
set_option linter.unusedVariables false
set_option linter.unusedSimpArgs false

/-! ### gantrylaw01_VarintAll: function 8 -/
mutual
def gantrylaw01_VarintAll.j0 : Nat → List Int → Bool → Option (Bool)
  | 0, _, _ => none
  | k + 1, x1, x45 => if x45 = true then (some false) else ((gantryref01_Put.f k x1).bind fun t174 => ((varint_ReadAll.f k t174).bind fun bt175 => ((varint_ReadAll.f k t174).bind fun bt180 => ((gantrylaw01_same.f k bt175.1 x1).bind fun t185 => (if t185 = true then (if bt175.2.1 = (t174.size : Int) then (gantrylaw01_VarintAll.j1 k x1 bt175.1 bt180.1 (bt175.2.2 != 0)) else (gantrylaw01_VarintAll.j1 k x1 bt175.1 bt180.1 true)) else (gantrylaw01_VarintAll.j1 k x1 bt175.1 bt180.1 true))))))
def gantrylaw01_VarintAll.j1 : Nat → List Int → List Int → List Int → Bool → Option (Bool)
  | 0, _, _, _, _ => none
  | k + 1, x1, x5, x12, x73 => if x73 = true then (some false) else (gantrylaw01_VarintAll.l0 k x1 x5 x12 0)
def gantrylaw01_VarintAll.l0 : Nat → List Int → List Int → List Int → Int → Option (Bool)
  | 0, _, _, _, _ => none
  | k + 1, x1, x5, x12, x15 => if x15 < (x5.length : Int) then (if 0 ≤ x15 then (gantrylaw01_VarintAll.l0 k x1 (x5.set (x15 : Int).toNat 7777) x12 (wrap64 (x15 + 1))) else (none)) else (gantrylaw01_VarintAll.l1 k x1 x12 x5 0)
def gantrylaw01_VarintAll.l1 : Nat → List Int → List Int → List Int → Int → Option (Bool)
  | 0, _, _, _, _ => none
  | k + 1, x1, x12, x16, x17 => if x17 < 16 then (if x16.length < 17592186044416 then (gantrylaw01_VarintAll.l1 k x1 x12 (x16 ++ [5]) (wrap64 (x17 + 1))) else (none)) else ((gantrylaw01_same.f k x12 x1).bind fun t190 => (some t190))
end
def gantrylaw01_VarintAll.f (k : Nat) (a0 : ByteArray) (l1 : List Int) : Option (Bool) := (gantrylaw01_fixed.f k).bind fun t162 => (if t162 = true then ((varint_ReadAll.f k a0).bind fun bt163 => ((gantryref01_ReadAll.f k a0).bind fun bt168 => ((gantrylaw01_same.f k bt163.1 bt168.1).bind fun t173 => (if t173 = true then (if bt163.2.1 = bt168.2.1 then (gantrylaw01_VarintAll.j0 k l1 (bt163.2.2 != bt168.2.2)) else (gantrylaw01_VarintAll.j0 k l1 true)) else (gantrylaw01_VarintAll.j0 k l1 true))))) else (some false))
theorem gantrylaw01_VarintAll.mono_l : ∀ k, (∀ y0 y1, LeO (gantrylaw01_VarintAll.j0 k y0 y1) (gantrylaw01_VarintAll.j0 (k + 1) y0 y1)) ∧ (∀ y0 y1 y2 y3, LeO (gantrylaw01_VarintAll.j1 k y0 y1 y2 y3) (gantrylaw01_VarintAll.j1 (k + 1) y0 y1 y2 y3)) ∧ (∀ y0 y1 y2 y3, LeO (gantrylaw01_VarintAll.l0 k y0 y1 y2 y3) (gantrylaw01_VarintAll.l0 (k + 1) y0 y1 y2 y3)) ∧ (∀ y0 y1 y2 y3, LeO (gantrylaw01_VarintAll.l1 k y0 y1 y2 y3) (gantrylaw01_VarintAll.l1 (k + 1) y0 y1 y2 y3))
  | 0 => ⟨fun _ _ r h => by simp [gantrylaw01_VarintAll.j0] at h, fun _ _ _ _ r h => by simp [gantrylaw01_VarintAll.j1] at h, fun _ _ _ _ r h => by simp [gantrylaw01_VarintAll.l0] at h, fun _ _ _ _ r h => by simp [gantrylaw01_VarintAll.l1] at h⟩
  | k + 1 => by
    obtain ⟨ih0, ih1, ih2, ih3⟩ := gantrylaw01_VarintAll.mono_l k
    refine ⟨?_, ?_, ?_, ?_⟩
    · intro y0 y1
      unfold gantrylaw01_VarintAll.j0
      repeat' first
      | (with_reducible exact ih0 _ _)
      | (with_reducible exact ih1 _ _ _ _)
      | (with_reducible exact ih2 _ _ _ _)
      | (with_reducible exact ih3 _ _ _ _)
      | (with_reducible exact gantrylaw01_fixed.mono _)
      | (with_reducible exact gantrylaw01_same.mono _ _ _)
      | (with_reducible exact gantryref01_Put.mono _ _)
      | (with_reducible exact gantryref01_ReadAll.mono _ _)
      | (with_reducible exact varint_ReadAll.mono _ _)
      | (with_reducible exact LeO.refl _)
      | (with_reducible exact LeO.none _)
      | (with_reducible refine LeO.ite ?_ ?_)
      | (with_reducible refine LeO.bind ?_ (fun _ => ?_))
      | exact ih0 _ _
      | exact ih1 _ _ _ _
      | exact ih2 _ _ _ _
      | exact ih3 _ _ _ _
      | exact gantrylaw01_fixed.mono _
      | exact gantrylaw01_same.mono _ _ _
      | exact gantryref01_Put.mono _ _
      | exact gantryref01_ReadAll.mono _ _
      | exact varint_ReadAll.mono _ _
      | exact LeO.none _
      | refine LeO.ite ?_ ?_
      | refine LeO.bind ?_ (fun _ => ?_)
    · intro y0 y1 y2 y3
      unfold gantrylaw01_VarintAll.j1
      repeat' first
      | (with_reducible exact ih0 _ _)
      | (with_reducible exact ih1 _ _ _ _)
      | (with_reducible exact ih2 _ _ _ _)
      | (with_reducible exact ih3 _ _ _ _)
      | (with_reducible exact gantrylaw01_fixed.mono _)
      | (with_reducible exact gantrylaw01_same.mono _ _ _)
      | (with_reducible exact gantryref01_Put.mono _ _)
      | (with_reducible exact gantryref01_ReadAll.mono _ _)
      | (with_reducible exact varint_ReadAll.mono _ _)
      | (with_reducible exact LeO.refl _)
      | (with_reducible exact LeO.none _)
      | (with_reducible refine LeO.ite ?_ ?_)
      | (with_reducible refine LeO.bind ?_ (fun _ => ?_))
      | exact ih0 _ _
      | exact ih1 _ _ _ _
      | exact ih2 _ _ _ _
      | exact ih3 _ _ _ _
      | exact gantrylaw01_fixed.mono _
      | exact gantrylaw01_same.mono _ _ _
      | exact gantryref01_Put.mono _ _
      | exact gantryref01_ReadAll.mono _ _
      | exact varint_ReadAll.mono _ _
      | exact LeO.none _
      | refine LeO.ite ?_ ?_
      | refine LeO.bind ?_ (fun _ => ?_)
    · intro y0 y1 y2 y3
      unfold gantrylaw01_VarintAll.l0
      repeat' first
      | (with_reducible exact ih0 _ _)
      | (with_reducible exact ih1 _ _ _ _)
      | (with_reducible exact ih2 _ _ _ _)
      | (with_reducible exact ih3 _ _ _ _)
      | (with_reducible exact gantrylaw01_fixed.mono _)
      | (with_reducible exact gantrylaw01_same.mono _ _ _)
      | (with_reducible exact gantryref01_Put.mono _ _)
      | (with_reducible exact gantryref01_ReadAll.mono _ _)
      | (with_reducible exact varint_ReadAll.mono _ _)
      | (with_reducible exact LeO.refl _)
      | (with_reducible exact LeO.none _)
      | (with_reducible refine LeO.ite ?_ ?_)
      | (with_reducible refine LeO.bind ?_ (fun _ => ?_))
      | exact ih0 _ _
      | exact ih1 _ _ _ _
      | exact ih2 _ _ _ _
      | exact ih3 _ _ _ _
      | exact gantrylaw01_fixed.mono _
      | exact gantrylaw01_same.mono _ _ _
      | exact gantryref01_Put.mono _ _
      | exact gantryref01_ReadAll.mono _ _
      | exact varint_ReadAll.mono _ _
      | exact LeO.none _
      | refine LeO.ite ?_ ?_
      | refine LeO.bind ?_ (fun _ => ?_)
    · intro y0 y1 y2 y3
      unfold gantrylaw01_VarintAll.l1
      repeat' first
      | (with_reducible exact ih0 _ _)
      | (with_reducible exact ih1 _ _ _ _)
      | (with_reducible exact ih2 _ _ _ _)
      | (with_reducible exact ih3 _ _ _ _)
      | (with_reducible exact gantrylaw01_fixed.mono _)
      | (with_reducible exact gantrylaw01_same.mono _ _ _)
      | (with_reducible exact gantryref01_Put.mono _ _)
      | (with_reducible exact gantryref01_ReadAll.mono _ _)
      | (with_reducible exact varint_ReadAll.mono _ _)
      | (with_reducible exact LeO.refl _)
      | (with_reducible exact LeO.none _)
      | (with_reducible refine LeO.ite ?_ ?_)
      | (with_reducible refine LeO.bind ?_ (fun _ => ?_))
      | exact ih0 _ _
      | exact ih1 _ _ _ _
      | exact ih2 _ _ _ _
      | exact ih3 _ _ _ _
      | exact gantrylaw01_fixed.mono _
      | exact gantrylaw01_same.mono _ _ _
      | exact gantryref01_Put.mono _ _
      | exact gantryref01_ReadAll.mono _ _
      | exact varint_ReadAll.mono _ _
      | exact LeO.none _
      | refine LeO.ite ?_ ?_
      | refine LeO.bind ?_ (fun _ => ?_)
theorem gantrylaw01_VarintAll.mono : ∀ a0 a1 k, LeO (gantrylaw01_VarintAll.f k a0 a1) (gantrylaw01_VarintAll.f (k + 1) a0 a1) := by
  intro a0 a1 k
  obtain ⟨ih0, ih1, ih2, ih3⟩ := gantrylaw01_VarintAll.mono_l k
  unfold gantrylaw01_VarintAll.f
  repeat' first
      | (with_reducible exact ih0 _ _)
      | (with_reducible exact ih1 _ _ _ _)
      | (with_reducible exact ih2 _ _ _ _)
      | (with_reducible exact ih3 _ _ _ _)
      | (with_reducible exact gantrylaw01_fixed.mono _)
      | (with_reducible exact gantrylaw01_same.mono _ _ _)
      | (with_reducible exact gantryref01_Put.mono _ _)
      | (with_reducible exact gantryref01_ReadAll.mono _ _)
      | (with_reducible exact varint_ReadAll.mono _ _)
      | (with_reducible exact LeO.refl _)
      | (with_reducible exact LeO.none _)
      | (with_reducible refine LeO.ite ?_ ?_)
      | (with_reducible refine LeO.bind ?_ (fun _ => ?_))
      | exact ih0 _ _
      | exact ih1 _ _ _ _
      | exact ih2 _ _ _ _
      | exact ih3 _ _ _ _
      | exact gantrylaw01_fixed.mono _
      | exact gantrylaw01_same.mono _ _ _
      | exact gantryref01_Put.mono _ _
      | exact gantryref01_ReadAll.mono _ _
      | exact varint_ReadAll.mono _ _
      | exact LeO.none _
      | refine LeO.ite ?_ ?_
      | refine LeO.bind ?_ (fun _ => ?_)
set_option maxHeartbeats 8000000 in
set_option maxRecDepth 100000 in
theorem gantrylaw01_VarintAll.calls (k : Nat) (a0 : ByteArray) (A1 : Option Addr) (c1 : Nat) (l1 : List Int) (r : Bool) (w : World) (hr1 : Kd.C (Kd.int .u64) w A1 l1.length l1) (hc1 : l1.length ≤ c1) (h : gantrylaw01_VarintAll.f k a0 l1 = some r) :
    Calls Try.prog 8 #[.string a0, .slice A1 l1.length c1] w fun e w' => e = .returned (.bool r) ∧ Below w.heap.size w w' := by
  have HR1 := Aside0.mk hr1
  have HC1 := Aside0.mk hc1
  clear hr1 hc1
  have HB := Aside0.mk (Below.refl w.heap.size w)
  have H : ((gantrylaw01_fixed.f k).bind fun t162 => (if t162 = true then ((varint_ReadAll.f k a0).bind fun bt163 => ((gantryref01_ReadAll.f k a0).bind fun bt168 => ((gantrylaw01_same.f k bt163.1 bt168.1).bind fun t173 => (if t173 = true then (if bt163.2.1 = bt168.2.1 then (gantrylaw01_VarintAll.j0 k l1 (bt163.2.2 != bt168.2.2)) else (gantrylaw01_VarintAll.j0 k l1 true)) else (gantrylaw01_VarintAll.j0 k l1 true))))) else (some false))) = some r := h
  clear h
  replace H := Option.bind_eq_some_iff.mp H
  obtain ⟨t162, A30, H⟩ := H
  replace H : (if t162 = true then ((varint_ReadAll.f k a0).bind fun bt163 => ((gantryref01_ReadAll.f k a0).bind fun bt168 => ((gantrylaw01_same.f k bt163.1 bt168.1).bind fun t173 => (if t173 = true then (if bt163.2.1 = bt168.2.1 then (gantrylaw01_VarintAll.j0 k l1 (bt163.2.2 != bt168.2.2)) else (gantrylaw01_VarintAll.j0 k l1 true)) else (gantrylaw01_VarintAll.j0 k l1 true))))) else (some false)) = some r := H
  have A3 := Aside0.mk A30
  clear A30
  by_cases c4 : t162 = true
  · subst c4
    have H1 : ((varint_ReadAll.f k a0).bind fun bt163 => ((gantryref01_ReadAll.f k a0).bind fun bt168 => ((gantrylaw01_same.f k bt163.1 bt168.1).bind fun t173 => (if t173 = true then (if bt163.2.1 = bt168.2.1 then (gantrylaw01_VarintAll.j0 k l1 (bt163.2.2 != bt168.2.2)) else (gantrylaw01_VarintAll.j0 k l1 true)) else (gantrylaw01_VarintAll.j0 k l1 true))))) = some r := by rw [if_pos rfl] at H; exact H
    clear H
    have H := H1
    clear H1
    replace H := Option.bind_eq_some_iff.mp H
    obtain ⟨⟨t163, t164, t165⟩, A50, H⟩ := H
    replace H : ((gantryref01_ReadAll.f k a0).bind fun bt168 => ((gantrylaw01_same.f k t163 bt168.1).bind fun t173 => (if t173 = true then (if t164 = bt168.2.1 then (gantrylaw01_VarintAll.j0 k l1 (t165 != bt168.2.2)) else (gantrylaw01_VarintAll.j0 k l1 true)) else (gantrylaw01_VarintAll.j0 k l1 true)))) = some r := H
    have A5 := Aside0.mk A50
    clear A50
    replace H := Option.bind_eq_some_iff.mp H
    obtain ⟨⟨t168, t169, t170⟩, A60, H⟩ := H
    replace H : ((gantrylaw01_same.f k t163 t168).bind fun t173 => (if t173 = true then (if t164 = t169 then (gantrylaw01_VarintAll.j0 k l1 (t165 != t170)) else (gantrylaw01_VarintAll.j0 k l1 true)) else (gantrylaw01_VarintAll.j0 k l1 true))) = some r := H
    have A6 := Aside0.mk A60
    clear A60
    have HC7 := Aside0.mk H
    clear H
    go_enter Try.func8, Try.ntmps8
    go_upto_region 5 with (first | ((with_reducible refine gate_callee (f := 12) rfl ?_); refine goesL_ (some 18) rfl rfl Try.func12 (by kernel_rfl) rfl #[] rfl (by (try simp only [List.map_toArray, List.map_cons, List.map_nil]); first | done | rfl | (simp only [List.length_drop, List.length_take]; rfl)) ?_; (with_reducible refine (gantrylaw01_fixed.calls k  true _ A3.out).mono ?_); rintro e w8 ⟨rfl, hb⟩; refine ⟨_, rfl, ?_⟩; have n0_ := Aside0.mk (below_step (by repeat (first | (with_reducible first | exact HB.out | apply below_alloc | apply pw_below_drewN | apply below_drew1) | exact HB.out)) hb); clear HB; have HB := n0_; clear n0_; (try clear hb); (try clear hb2); (try clear hk); (try clear hi)) | ((with_reducible refine gate_callee (f := 18) rfl ?_); refine goesL_ (some 22) rfl rfl Try.func18 (by kernel_rfl) rfl #[.string a0] rfl (by (try simp only [List.map_toArray, List.map_cons, List.map_nil]); first | done | rfl | (simp only [List.length_drop, List.length_take]; rfl)) ?_; (with_reducible refine (varint_ReadAll.calls k a0 t163 t164 t165 _ A5.out).mono ?_); rintro e w9 ⟨v166, rfl, ho0, hb⟩; refine ⟨_, rfl, ?_⟩; have n0_ := Aside0.mk (Kd.R_lower ho0 (below_size (by repeat (first | (with_reducible first | exact HB.out | apply below_alloc | apply pw_below_drewN | apply below_drew1) | exact HB.out)))); have n1_ := Aside0.mk (below_step (by repeat (first | (with_reducible first | exact HB.out | apply below_alloc | apply pw_below_drewN | apply below_drew1) | exact HB.out)) hb); clear HB; have HO167 := n0_; have HB := n1_; clear n0_ n1_; (try clear hb); (try clear hb2); (try clear hk); (try clear hi); (try clear ho0)) | ((with_reducible refine gate_callee (f := 19) rfl ?_); refine goesL_ (some 28) rfl rfl Try.func19 (by kernel_rfl) rfl #[.string a0] rfl (by (try simp only [List.map_toArray, List.map_cons, List.map_nil]); first | done | rfl | (simp only [List.length_drop, List.length_take]; rfl)) ?_; (with_reducible refine (gantryref01_ReadAll.calls k a0 t168 t169 t170 _ A6.out).mono ?_); rintro e w10 ⟨v171, rfl, ho0, hb⟩; refine ⟨_, rfl, ?_⟩; have n0_ := Aside0.mk (Kd.R_elder' (by (with_reducible repeat (first | apply Kd.R_alloc | apply Kd.R_drewN | apply Kd.R_drew)); exact HO167.out) (Kd.R_base ho0) hb); have n1_ := Aside0.mk (Kd.R_lower (Kd.R_new' ho0 (Kd.R_lt (by (with_reducible repeat (first | apply Kd.R_alloc | apply Kd.R_drewN | apply Kd.R_drew)); exact HO167.out))) (below_size (by repeat (first | (with_reducible first | exact HB.out | apply below_alloc | apply pw_below_drewN | apply below_drew1) | exact HB.out)))); have n2_ := Aside0.mk (below_step (by repeat (first | (with_reducible first | exact HB.out | apply below_alloc | apply pw_below_drewN | apply below_drew1) | exact HB.out)) hb); clear HO167; clear HB; have HO167 := n0_; have HO172 := n1_; have HB := n2_; clear n0_ n1_ n2_; (try clear hb); (try clear hb2); (try clear hk); (try clear hi); (try clear ho0)))
    (try simp only [Act.put, List.setIfInBounds_toArray, List.set_cons_zero, List.set_cons_succ])
    go_cut [45] (fun v45 wc => ∃ (kq : Nat) (x45_6 : Bool), v45 = .bool x45_6 ∧ Aside0 (gantrylaw01_VarintAll.j0 kq l1 x45_6 = some r) ∧ Aside0 (kq ≤ k) ∧ Aside0 (Below w.heap.size w wc))
    case first =>
      have H := HC7.out
      clear HC7
      replace H := Option.bind_eq_some_iff.mp H
      obtain ⟨t173, A110, H⟩ := H
      replace H : (if t173 = true then (if t164 = t169 then (gantrylaw01_VarintAll.j0 k l1 (t165 != t170)) else (gantrylaw01_VarintAll.j0 k l1 true)) else (gantrylaw01_VarintAll.j0 k l1 true)) = some r := H
      have A11 := Aside0.mk A110
      clear A110
      by_cases c12 : t173 = true
      · subst c12
        have H1 : (if t164 = t169 then (gantrylaw01_VarintAll.j0 k l1 (t165 != t170)) else (gantrylaw01_VarintAll.j0 k l1 true)) = some r := by rw [if_pos rfl] at H; exact H
        clear H
        have H := H1
        clear H1
        by_cases c13 : t164 = t169
        · rw [if_pos c13] at H
          have c13b0 : (t164 == t169) = true := beq_iff_eq.mpr c13
          have c13b1 : (t164 != t169) = false := bne_eq_false_iff_eq.mpr c13
          clear c13
          (first | rw [c13b0] | (simp only [i64_w, i32_w]; rw [c13b0]) | skip)
          have H' := Aside0.mk H
          clear H
          obtain ⟨Ao14, co14, eo14⟩ := Kd.R_slice HO167.out
          subst eo14
          obtain ⟨Ao15, co15, eo15⟩ := Kd.R_slice HO172.out
          subst eo15
          go_wp2_with (first | ((with_reducible refine gate_callee (f := 20) rfl ?_); refine goesL_ (some 34) rfl rfl Try.func20 (by kernel_rfl) rfl #[.slice Ao14 t163.length co14, .slice Ao15 t168.length co15] rfl (by (try simp only [List.map_toArray, List.map_cons, List.map_nil]); first | done | rfl | (simp only [List.length_drop, List.length_take]; rfl)) ?_; (with_reducible refine (gantrylaw01_same.calls k _ _ t163 _ _ t168 true _ ?side1 ?side2 ?side3 ?side4 A11.out).mono ?_); (case side1 => repeat (first | exact (Kd.R_reads' HO167.out).2.2 | (with_reducible refine Kd.C_alloc ?_ _) | (with_reducible refine Kd.C_drewN ?_ _) | (with_reducible refine Kd.C_drew ?_))); (case side2 => exact (Kd.R_reads' HO167.out).2.1); (case side3 => repeat (first | exact (Kd.R_reads' HO172.out).2.2 | (with_reducible refine Kd.C_alloc ?_ _) | (with_reducible refine Kd.C_drewN ?_ _) | (with_reducible refine Kd.C_drew ?_))); (case side4 => exact (Kd.R_reads' HO172.out).2.1); rintro e w' ⟨rfl, ⟨nd, rfl⟩⟩; refine ⟨_, rfl, ?_⟩))
          go_meet
          case rel => exact ⟨_, ((t165 != t170)), (by first | rfl | (simp; done) | (simp [*]; done)), H', ⟨by first | omega | exact Nat.le_refl _⟩, ⟨by repeat (first | (with_reducible first | exact HB.out | apply below_alloc | apply pw_below_drewN | apply below_drew1) | exact HB.out)⟩⟩
        · rw [if_neg c13] at H
          have c13b0 : (t164 == t169) = false := beq_eq_false_iff_ne.mpr c13
          have c13b1 : (t164 != t169) = true := bne_iff_ne.mpr c13
          (first | rw [c13b0] | (simp only [i64_w, i32_w]; rw [c13b0]) | skip)
          have H' := Aside0.mk H
          clear H
          obtain ⟨Ao16, co16, eo16⟩ := Kd.R_slice HO167.out
          subst eo16
          obtain ⟨Ao17, co17, eo17⟩ := Kd.R_slice HO172.out
          subst eo17
          go_wp2_with (first | ((with_reducible refine gate_callee (f := 20) rfl ?_); refine goesL_ (some 34) rfl rfl Try.func20 (by kernel_rfl) rfl #[.slice Ao16 t163.length co16, .slice Ao17 t168.length co17] rfl (by (try simp only [List.map_toArray, List.map_cons, List.map_nil]); first | done | rfl | (simp only [List.length_drop, List.length_take]; rfl)) ?_; (with_reducible refine (gantrylaw01_same.calls k _ _ t163 _ _ t168 true _ ?side1 ?side2 ?side3 ?side4 A11.out).mono ?_); (case side1 => repeat (first | exact (Kd.R_reads' HO167.out).2.2 | (with_reducible refine Kd.C_alloc ?_ _) | (with_reducible refine Kd.C_drewN ?_ _) | (with_reducible refine Kd.C_drew ?_))); (case side2 => exact (Kd.R_reads' HO167.out).2.1); (case side3 => repeat (first | exact (Kd.R_reads' HO172.out).2.2 | (with_reducible refine Kd.C_alloc ?_ _) | (with_reducible refine Kd.C_drewN ?_ _) | (with_reducible refine Kd.C_drew ?_))); (case side4 => exact (Kd.R_reads' HO172.out).2.1); rintro e w' ⟨rfl, ⟨nd, rfl⟩⟩; refine ⟨_, rfl, ?_⟩))
          go_meet
          case rel => exact ⟨_, (true), (by first | rfl | (simp; done) | (simp [*]; done)), H', ⟨by first | omega | exact Nat.le_refl _⟩, ⟨by repeat (first | (with_reducible first | exact HB.out | apply below_alloc | apply pw_below_drewN | apply below_drew1) | exact HB.out)⟩⟩
      · replace c12 := Bool.eq_false_iff.mpr c12
        subst c12
        have H1 : (gantrylaw01_VarintAll.j0 k l1 true) = some r := by rw [if_neg (show ¬ (false = true) by decide)] at H; exact H
        clear H
        have H := H1
        clear H1
        have H' := Aside0.mk H
        clear H
        obtain ⟨Ao18, co18, eo18⟩ := Kd.R_slice HO167.out
        subst eo18
        obtain ⟨Ao19, co19, eo19⟩ := Kd.R_slice HO172.out
        subst eo19
        go_wp2_with (first | ((with_reducible refine gate_callee (f := 20) rfl ?_); refine goesL_ (some 34) rfl rfl Try.func20 (by kernel_rfl) rfl #[.slice Ao18 t163.length co18, .slice Ao19 t168.length co19] rfl (by (try simp only [List.map_toArray, List.map_cons, List.map_nil]); first | done | rfl | (simp only [List.length_drop, List.length_take]; rfl)) ?_; (with_reducible refine (gantrylaw01_same.calls k _ _ t163 _ _ t168 false _ ?side1 ?side2 ?side3 ?side4 A11.out).mono ?_); (case side1 => repeat (first | exact (Kd.R_reads' HO167.out).2.2 | (with_reducible refine Kd.C_alloc ?_ _) | (with_reducible refine Kd.C_drewN ?_ _) | (with_reducible refine Kd.C_drew ?_))); (case side2 => exact (Kd.R_reads' HO167.out).2.1); (case side3 => repeat (first | exact (Kd.R_reads' HO172.out).2.2 | (with_reducible refine Kd.C_alloc ?_ _) | (with_reducible refine Kd.C_drewN ?_ _) | (with_reducible refine Kd.C_drew ?_))); (case side4 => exact (Kd.R_reads' HO172.out).2.1); rintro e w' ⟨rfl, ⟨nd, rfl⟩⟩; refine ⟨_, rfl, ?_⟩))
        go_meet
        case rel => exact ⟨_, (true), (by first | rfl | (simp; done) | (simp [*]; done)), H', ⟨by first | omega | exact Nat.le_refl _⟩, ⟨by repeat (first | (with_reducible first | exact HB.out | apply below_alloc | apply pw_below_drewN | apply below_drew1) | exact HB.out)⟩⟩
    case rest =>
      clear HC7
      try clear c1
      try clear c2
      try clear p2
      try clear c4
      try clear c8
      try clear c12
      try clear c13
      try clear c13b0
      try clear c13b1
      try clear c18
      try clear c19
      obtain ⟨kq, x45_6, rfl, HA, HJ6, HB⟩ := hcut
      cases kq with
      | zero => exact absurd HA.out (by simp [gantrylaw01_VarintAll.j0])
      | succ kj6 =>
        have H := HA.out
        clear HA
        simp only [gantrylaw01_VarintAll.j0] at H
        by_cases c20 : x45_6 = true
        · subst c20
          have H1 : (some false) = some r := by rw [if_pos rfl] at H; exact H
          clear H
          have H := H1
          clear H1
          obtain rfl := Option.some.inj H
          go_wp2
          go_ret
          exact ⟨by first | rfl | (simp [errW_none, errW_some] <;> rfl) | (simp [*, errW_none, errW_some] <;> rfl), by repeat (first | (with_reducible first | exact HB.out | apply below_alloc | apply pw_below_drewN | apply below_drew1) | exact HB.out)⟩
        · replace c20 := Bool.eq_false_iff.mpr c20
          subst c20
          have H1 : ((gantryref01_Put.f kj6 l1).bind fun t174 => ((varint_ReadAll.f kj6 t174).bind fun bt175 => ((varint_ReadAll.f kj6 t174).bind fun bt180 => ((gantrylaw01_same.f kj6 bt175.1 l1).bind fun t185 => (if t185 = true then (if bt175.2.1 = (t174.size : Int) then (gantrylaw01_VarintAll.j1 kj6 l1 bt175.1 bt180.1 (bt175.2.2 != 0)) else (gantrylaw01_VarintAll.j1 kj6 l1 bt175.1 bt180.1 true)) else (gantrylaw01_VarintAll.j1 kj6 l1 bt175.1 bt180.1 true)))))) = some r := by rw [if_neg (show ¬ (false = true) by decide)] at H; exact H
          clear H
          have H := H1
          clear H1
          replace H := Option.bind_eq_some_iff.mp H
          obtain ⟨t174, A210, H⟩ := H
          replace H : ((varint_ReadAll.f kj6 t174).bind fun bt175 => ((varint_ReadAll.f kj6 t174).bind fun bt180 => ((gantrylaw01_same.f kj6 bt175.1 l1).bind fun t185 => (if t185 = true then (if bt175.2.1 = (t174.size : Int) then (gantrylaw01_VarintAll.j1 kj6 l1 bt175.1 bt180.1 (bt175.2.2 != 0)) else (gantrylaw01_VarintAll.j1 kj6 l1 bt175.1 bt180.1 true)) else (gantrylaw01_VarintAll.j1 kj6 l1 bt175.1 bt180.1 true))))) = some r := H
          have A21 := Aside0.mk A210
          clear A210
          replace H := Option.bind_eq_some_iff.mp H
          obtain ⟨⟨t175, t176, t177⟩, A220, H⟩ := H
          replace H : ((varint_ReadAll.f kj6 t174).bind fun bt180 => ((gantrylaw01_same.f kj6 t175 l1).bind fun t185 => (if t185 = true then (if t176 = (t174.size : Int) then (gantrylaw01_VarintAll.j1 kj6 l1 t175 bt180.1 (t177 != 0)) else (gantrylaw01_VarintAll.j1 kj6 l1 t175 bt180.1 true)) else (gantrylaw01_VarintAll.j1 kj6 l1 t175 bt180.1 true)))) = some r := H
          have A22 := Aside0.mk A220
          clear A220
          replace H := Option.bind_eq_some_iff.mp H
          obtain ⟨⟨t180, t181, t182⟩, A230, H⟩ := H
          replace H : ((gantrylaw01_same.f kj6 t175 l1).bind fun t185 => (if t185 = true then (if t176 = (t174.size : Int) then (gantrylaw01_VarintAll.j1 kj6 l1 t175 t180 (t177 != 0)) else (gantrylaw01_VarintAll.j1 kj6 l1 t175 t180 true)) else (gantrylaw01_VarintAll.j1 kj6 l1 t175 t180 true))) = some r := H
          have A23 := Aside0.mk A230
          clear A230
          have HC24 := Aside0.mk H
          clear H
          go_upto_region 10 with (first | ((with_reducible refine gate_callee (f := 21) rfl ?_); refine goesL_ (some 47) rfl rfl Try.func21 (by kernel_rfl) rfl #[.slice A1 l1.length c1] rfl (by (try simp only [List.map_toArray, List.map_cons, List.map_nil]); first | done | rfl | (simp only [List.length_drop, List.length_take]; rfl)) ?_; (with_reducible refine (gantryref01_Put.calls kj6 _ _ l1 t174 _ ?side1 ?side2 A21.out).mono ?_); (case side1 => repeat (first | exact (Kd.C_below HR1.out HB.out) | (with_reducible refine Kd.C_alloc ?_ _) | (with_reducible refine Kd.C_drewN ?_ _) | (with_reducible refine Kd.C_drew ?_))); (case side2 => exact HC1.out); rintro e w25 ⟨rfl, hb⟩; refine ⟨_, rfl, ?_⟩; have n0_ := Aside0.mk (below_step (by repeat (first | (with_reducible first | exact HB.out | apply below_alloc | apply pw_below_drewN | apply below_drew1) | exact HB.out)) hb); clear HB; have HB := n0_; clear n0_; (try clear hb); (try clear hb2); (try clear hk); (try clear hi)) | ((with_reducible refine gate_callee (f := 18) rfl ?_); refine goesL_ (some 50) rfl rfl Try.func18 (by kernel_rfl) rfl #[.string t174] rfl (by (try simp only [List.map_toArray, List.map_cons, List.map_nil]); first | done | rfl | (simp only [List.length_drop, List.length_take]; rfl)) ?_; (with_reducible refine (varint_ReadAll.calls kj6 t174 t175 t176 t177 _ A22.out).mono ?_); rintro e w26 ⟨v178, rfl, ho0, hb⟩; refine ⟨_, rfl, ?_⟩; have n0_ := Aside0.mk (Kd.R_lower ho0 (below_size (by repeat (first | (with_reducible first | exact HB.out | apply below_alloc | apply pw_below_drewN | apply below_drew1) | exact HB.out)))); have n1_ := Aside0.mk (below_step (by repeat (first | (with_reducible first | exact HB.out | apply below_alloc | apply pw_below_drewN | apply below_drew1) | exact HB.out)) hb); clear HB; have HO179 := n0_; have HB := n1_; clear n0_ n1_; (try clear hb); (try clear hb2); (try clear hk); (try clear hi); (try clear ho0)) | ((with_reducible refine gate_callee (f := 18) rfl ?_); refine goesL_ (some 56) rfl rfl Try.func18 (by kernel_rfl) rfl #[.string t174] rfl (by (try simp only [List.map_toArray, List.map_cons, List.map_nil]); first | done | rfl | (simp only [List.length_drop, List.length_take]; rfl)) ?_; (with_reducible refine (varint_ReadAll.calls kj6 t174 t180 t181 t182 _ A23.out).mono ?_); rintro e w27 ⟨v183, rfl, ho0, hb⟩; refine ⟨_, rfl, ?_⟩; have n0_ := Aside0.mk (Kd.R_elder' (by (with_reducible repeat (first | apply Kd.R_alloc | apply Kd.R_drewN | apply Kd.R_drew)); exact HO179.out) (Kd.R_base ho0) hb); have n1_ := Aside0.mk (Kd.R_lower (Kd.R_new' ho0 (Kd.R_lt (by (with_reducible repeat (first | apply Kd.R_alloc | apply Kd.R_drewN | apply Kd.R_drew)); exact HO179.out))) (below_size (by repeat (first | (with_reducible first | exact HB.out | apply below_alloc | apply pw_below_drewN | apply below_drew1) | exact HB.out)))); have n2_ := Aside0.mk (below_step (by repeat (first | (with_reducible first | exact HB.out | apply below_alloc | apply pw_below_drewN | apply below_drew1) | exact HB.out)) hb); clear HO179; clear HB; have HO179 := n0_; have HO184 := n1_; have HB := n2_; clear n0_ n1_ n2_; (try clear hb); (try clear hb2); (try clear hk); (try clear hi); (try clear ho0)))
          (try simp only [Act.put, List.setIfInBounds_toArray, List.set_cons_zero, List.set_cons_succ])
          go_cut [73] (fun v73 wc => ∃ (kq : Nat) (x73_23 : Bool), v73 = .bool x73_23 ∧ Aside0 (gantrylaw01_VarintAll.j1 kq l1 t175 t180 x73_23 = some r) ∧ Aside0 (kq ≤ kj6) ∧ Aside0 (Kd.R (Kd.int .u64) 26 wc w.heap.size (fun k_ => some k_ ≠ (v183 : Value).ownBlock) v178 t175) ∧ Aside0 (Kd.R (Kd.int .u64) 26 wc w.heap.size (fun k_ => some k_ ≠ (v178 : Value).ownBlock) v183 t180) ∧ Aside0 (Below w.heap.size w wc))
          case first =>
            have H := HC24.out
            clear HC24
            replace H := Option.bind_eq_some_iff.mp H
            obtain ⟨t185, A280, H⟩ := H
            replace H : (if t185 = true then (if t176 = (t174.size : Int) then (gantrylaw01_VarintAll.j1 kj6 l1 t175 t180 (t177 != 0)) else (gantrylaw01_VarintAll.j1 kj6 l1 t175 t180 true)) else (gantrylaw01_VarintAll.j1 kj6 l1 t175 t180 true)) = some r := H
            have A28 := Aside0.mk A280
            clear A280
            by_cases c29 : t185 = true
            · subst c29
              have H1 : (if t176 = (t174.size : Int) then (gantrylaw01_VarintAll.j1 kj6 l1 t175 t180 (t177 != 0)) else (gantrylaw01_VarintAll.j1 kj6 l1 t175 t180 true)) = some r := by rw [if_pos rfl] at H; exact H
              clear H
              have H := H1
              clear H1
              by_cases c30 : t176 = (t174.size : Int)
              · rw [if_pos c30] at H
                have c30b0 : (t176 == (t174.size : Int)) = true := beq_iff_eq.mpr c30
                have c30b1 : (t176 != (t174.size : Int)) = false := bne_eq_false_iff_eq.mpr c30
                clear c30
                (first | rw [c30b0] | (simp only [i64_w, i32_w]; rw [c30b0]) | skip)
                have H' := Aside0.mk H
                clear H
                obtain ⟨Ao31, co31, eo31⟩ := Kd.R_slice HO179.out
                subst eo31
                go_wp2_with (first | ((with_reducible refine gate_callee (f := 20) rfl ?_); refine goesL_ (some 62) rfl rfl Try.func20 (by kernel_rfl) rfl #[.slice Ao31 t175.length co31, .slice A1 l1.length c1] rfl (by (try simp only [List.map_toArray, List.map_cons, List.map_nil]); first | done | rfl | (simp only [List.length_drop, List.length_take]; rfl)) ?_; (with_reducible refine (gantrylaw01_same.calls kj6 _ _ t175 _ _ l1 true _ ?side1 ?side2 ?side3 ?side4 A28.out).mono ?_); (case side1 => repeat (first | exact (Kd.R_reads' HO179.out).2.2 | (with_reducible refine Kd.C_alloc ?_ _) | (with_reducible refine Kd.C_drewN ?_ _) | (with_reducible refine Kd.C_drew ?_))); (case side2 => exact (Kd.R_reads' HO179.out).2.1); (case side3 => repeat (first | exact (Kd.C_below HR1.out HB.out) | (with_reducible refine Kd.C_alloc ?_ _) | (with_reducible refine Kd.C_drewN ?_ _) | (with_reducible refine Kd.C_drew ?_))); (case side4 => exact HC1.out); rintro e w' ⟨rfl, ⟨nd, rfl⟩⟩; refine ⟨_, rfl, ?_⟩))
                go_meet
                case rel => exact ⟨_, ((t177 != 0)), (by first | rfl | (simp; done) | (simp [*]; done)), H', ⟨by have := HJ6.out; first | omega | exact Nat.le_refl _⟩, ⟨by (with_reducible repeat (first | apply Kd.R_alloc | apply Kd.R_drewN | apply Kd.R_drew)); exact Kd.R_mono HO179.out (fun _ hk => hk.2)⟩, ⟨by (with_reducible repeat (first | apply Kd.R_alloc | apply Kd.R_drewN | apply Kd.R_drew)); exact Kd.R_mono HO184.out (fun _ hk => hk.2)⟩, ⟨by repeat (first | (with_reducible first | exact HB.out | apply below_alloc | apply pw_below_drewN | apply below_drew1) | exact HB.out)⟩⟩
              · rw [if_neg c30] at H
                have c30b0 : (t176 == (t174.size : Int)) = false := beq_eq_false_iff_ne.mpr c30
                have c30b1 : (t176 != (t174.size : Int)) = true := bne_iff_ne.mpr c30
                (first | rw [c30b0] | (simp only [i64_w, i32_w]; rw [c30b0]) | skip)
                have H' := Aside0.mk H
                clear H
                obtain ⟨Ao32, co32, eo32⟩ := Kd.R_slice HO179.out
                subst eo32
                go_wp2_with (first | ((with_reducible refine gate_callee (f := 20) rfl ?_); refine goesL_ (some 62) rfl rfl Try.func20 (by kernel_rfl) rfl #[.slice Ao32 t175.length co32, .slice A1 l1.length c1] rfl (by (try simp only [List.map_toArray, List.map_cons, List.map_nil]); first | done | rfl | (simp only [List.length_drop, List.length_take]; rfl)) ?_; (with_reducible refine (gantrylaw01_same.calls kj6 _ _ t175 _ _ l1 true _ ?side1 ?side2 ?side3 ?side4 A28.out).mono ?_); (case side1 => repeat (first | exact (Kd.R_reads' HO179.out).2.2 | (with_reducible refine Kd.C_alloc ?_ _) | (with_reducible refine Kd.C_drewN ?_ _) | (with_reducible refine Kd.C_drew ?_))); (case side2 => exact (Kd.R_reads' HO179.out).2.1); (case side3 => repeat (first | exact (Kd.C_below HR1.out HB.out) | (with_reducible refine Kd.C_alloc ?_ _) | (with_reducible refine Kd.C_drewN ?_ _) | (with_reducible refine Kd.C_drew ?_))); (case side4 => exact HC1.out); rintro e w' ⟨rfl, ⟨nd, rfl⟩⟩; refine ⟨_, rfl, ?_⟩))
                go_meet
                case rel => exact ⟨_, (true), (by first | rfl | (simp; done) | (simp [*]; done)), H', ⟨by have := HJ6.out; first | omega | exact Nat.le_refl _⟩, ⟨by (with_reducible repeat (first | apply Kd.R_alloc | apply Kd.R_drewN | apply Kd.R_drew)); exact Kd.R_mono HO179.out (fun _ hk => hk.2)⟩, ⟨by (with_reducible repeat (first | apply Kd.R_alloc | apply Kd.R_drewN | apply Kd.R_drew)); exact Kd.R_mono HO184.out (fun _ hk => hk.2)⟩, ⟨by repeat (first | (with_reducible first | exact HB.out | apply below_alloc | apply pw_below_drewN | apply below_drew1) | exact HB.out)⟩⟩
            · replace c29 := Bool.eq_false_iff.mpr c29
              subst c29
              have H1 : (gantrylaw01_VarintAll.j1 kj6 l1 t175 t180 true) = some r := by rw [if_neg (show ¬ (false = true) by decide)] at H; exact H
              clear H
              have H := H1
              clear H1
              have H' := Aside0.mk H
              clear H
              obtain ⟨Ao33, co33, eo33⟩ := Kd.R_slice HO179.out
              subst eo33
              go_wp2_with (first | ((with_reducible refine gate_callee (f := 20) rfl ?_); refine goesL_ (some 62) rfl rfl Try.func20 (by kernel_rfl) rfl #[.slice Ao33 t175.length co33, .slice A1 l1.length c1] rfl (by (try simp only [List.map_toArray, List.map_cons, List.map_nil]); first | done | rfl | (simp only [List.length_drop, List.length_take]; rfl)) ?_; (with_reducible refine (gantrylaw01_same.calls kj6 _ _ t175 _ _ l1 false _ ?side1 ?side2 ?side3 ?side4 A28.out).mono ?_); (case side1 => repeat (first | exact (Kd.R_reads' HO179.out).2.2 | (with_reducible refine Kd.C_alloc ?_ _) | (with_reducible refine Kd.C_drewN ?_ _) | (with_reducible refine Kd.C_drew ?_))); (case side2 => exact (Kd.R_reads' HO179.out).2.1); (case side3 => repeat (first | exact (Kd.C_below HR1.out HB.out) | (with_reducible refine Kd.C_alloc ?_ _) | (with_reducible refine Kd.C_drewN ?_ _) | (with_reducible refine Kd.C_drew ?_))); (case side4 => exact HC1.out); rintro e w' ⟨rfl, ⟨nd, rfl⟩⟩; refine ⟨_, rfl, ?_⟩))
              go_meet
              case rel => exact ⟨_, (true), (by first | rfl | (simp; done) | (simp [*]; done)), H', ⟨by have := HJ6.out; first | omega | exact Nat.le_refl _⟩, ⟨by (with_reducible repeat (first | apply Kd.R_alloc | apply Kd.R_drewN | apply Kd.R_drew)); exact Kd.R_mono HO179.out (fun _ hk => hk.2)⟩, ⟨by (with_reducible repeat (first | apply Kd.R_alloc | apply Kd.R_drewN | apply Kd.R_drew)); exact Kd.R_mono HO184.out (fun _ hk => hk.2)⟩, ⟨by repeat (first | (with_reducible first | exact HB.out | apply below_alloc | apply pw_below_drewN | apply below_drew1) | exact HB.out)⟩⟩
          case rest =>
            clear HC24
            try clear c1
            try clear c2
            try clear p2
            try clear c3
            try clear c4
            try clear c8
            try clear c12
            try clear c13
            try clear c13b0
            try clear c13b1
            try clear c18
            try clear c19
            try clear c20
            try clear c21
            try clear c29
            try clear c30
            try clear c30b0
            try clear c30b1
            try clear p2
            obtain ⟨kq, x73_23, rfl, HA, HJ23, HO_5, HO_12, HB⟩ := hcut
            cases kq with
            | zero => exact absurd HA.out (by simp [gantrylaw01_VarintAll.j1])
            | succ kj23 =>
              have H := HA.out
              clear HA
              simp only [gantrylaw01_VarintAll.j1] at H
              by_cases c34 : x73_23 = true
              · subst c34
                have H1 : (some false) = some r := by rw [if_pos rfl] at H; exact H
                clear H
                have H := H1
                clear H1
                obtain rfl := Option.some.inj H
                go_wp2
                go_ret
                exact ⟨by first | rfl | (simp [errW_none, errW_some] <;> rfl) | (simp [*, errW_none, errW_some] <;> rfl), by repeat (first | (with_reducible first | exact HB.out | apply below_alloc | apply pw_below_drewN | apply below_drew1) | exact HB.out)⟩
              · replace c34 := Bool.eq_false_iff.mpr c34
                subst c34
                have H1 : (gantrylaw01_VarintAll.l0 kj23 l1 t175 t180 0) = some r := by rw [if_neg (show ¬ (false = true) by decide)] at H; exact H
                clear H
                have H := H1
                clear H1
                have H' := Aside0.mk H
                clear H
                go_wp2
                go_loopg [15] kj23 (fun kq v15 w' => ∃ (x5_3 : List Int) (x15_3 : Int), v15 = .int .i64 x15_3 ∧ Aside0 (gantrylaw01_VarintAll.l0 kq l1 x5_3 t180 x15_3 = some r) ∧ Aside0 (kq ≤ kj23) ∧ Aside0 (Kd.R (Kd.int .u64) 26 w' w.heap.size (fun k_ => some k_ ≠ (v183 : Value).ownBlock) v178 x5_3) ∧ Aside0 (Kd.R (Kd.int .u64) 26 w' w.heap.size (fun k_ => some k_ ≠ (v178 : Value).ownBlock) v183 t180) ∧ Aside0 (Below w.heap.size w w'))
                case atStart => exact ⟨(t175), (0), (by first | rfl | (simp; done) | (simp [*]; done)), H', ⟨Nat.le_refl _⟩, ⟨by (with_reducible repeat (first | apply Kd.R_alloc | apply Kd.R_drewN | apply Kd.R_drew)); exact HO_5.out⟩, ⟨by (with_reducible repeat (first | apply Kd.R_alloc | apply Kd.R_drewN | apply Kd.R_drew)); exact HO_12.out⟩, ⟨by repeat (first | (with_reducible first | exact HB.out | apply below_alloc | apply pw_below_drewN | apply below_drew1) | exact HB.out)⟩⟩
                case round =>
                  clear H'
                  try clear c1
                  try clear c2
                  try clear p2
                  try clear c3
                  try clear c4
                  try clear c8
                  try clear c12
                  try clear c13
                  try clear c13b0
                  try clear c13b1
                  try clear c18
                  try clear c19
                  try clear c20
                  try clear c21
                  try clear c29
                  try clear c30
                  try clear c30b0
                  try clear c30b1
                  try clear c34
                  try clear p2
                  obtain ⟨x5_3, x15_3, rfl, HA, HK3, HO_5, HO_12, HB⟩ := hrel
                  cases gk with
                  | zero => exact absurd HA.out (by simp [gantrylaw01_VarintAll.l0])
                  | succ k3 =>
                    have H := HA.out
                    clear HA
                    simp only [gantrylaw01_VarintAll.l0] at H
                    by_cases c35 : x15_3 < (x5_3.length : Int)
                    · rw [if_pos c35] at H
                      have c35b0 : decide (x15_3 < (x5_3.length : Int)) = true := decide_eq_true c35
                      clear c35
                      by_cases c36 : 0 ≤ x15_3
                      · rw [if_pos c36] at H
                        have c36b0 : decide (0 ≤ x15_3) = true := decide_eq_true c36
                        clear c36
                        obtain ⟨y186, hy186⟩ : ∃ y_ : List Int, y_ = (x5_3.set (x15_3 : Int).toNat 7777) := ⟨_, rfl⟩
                        replace H : (gantrylaw01_VarintAll.l0 k3 l1 y186 t180 (wrap64 (x15_3 + 1))) = some r := by first | (rw [hy186]; with_reducible exact H) | (have H2_ := (Option.bind_some _ _).symm.trans H; rw [hy186]; with_reducible exact H2_) | (have H2_ := (Option.bind_some _ _).symm.trans H; with_reducible exact H2_) | with_reducible exact H | (rw [hy186]; exact H) | exact H
                        have Ny186 := Aside0.mk hy186
                        clear hy186
                        have H' := Aside0.mk H
                        clear H
                        obtain ⟨Ao38, co38, eo38⟩ := Kd.R_slice HO_5.out
                        subst eo38
                        have p37 : 0 ≤ (x15_3 : Int) := of_decide_eq_true (by first | (with_reducible assumption) | assumption)
                        have q37 : (x15_3 : Int) < ((x5_3.length : Int) : Int) := of_decide_eq_true (by first | (with_reducible assumption) | assumption)
                        obtain ⟨go37, co37, eo37, gb37, gl37, cl37, HG37⟩ := Kd.R_form HO_5.out (by omega)
                        (first | cases eo37 | (injection eo37 with ea_ en_ ec_; (first | subst ea_ | (injection ea_ with ea_; subst ea_)); subst ec_; clear en_))
                        have GB37 := Aside0.mk gb37
                        have GG37 := Aside0.mk HG37
                        clear gb37 gl37 HG37
                        obtain ⟨hx37_0, hf37_0⟩ := Kd.R_celln 0 HO_5.out (x15_3 : Int) p37 q37
                        replace p37 := eq_true p37
                        replace q37 := eq_true q37
                        have HP39 := Kd.R_putg HO_5.out (x15_3 : Int) 7777
                        go_wp2_with (first | ((with_reducible refine gate_store (t := 26) (p := 82) rfl ?_); refine store_event (t := 26) (p := 82) (v := ?vo_w40) (w1 := (wr.setCell ⟨go37, (x15_3 : Int).toNat, none⟩ (.int .u64 7777))) ?hg ?ho ?hn ?hr ?_; (case ho => rfl); (case hg => rfl); (case hn => rfl); (case hr => first | (go_simp; done) | (go_simp; rfl)); intro w40 hw; have hg : wr.grownBy w40 (some go37) := (by rw [hw]; exact HP39.2); have hp_ : Kd.R (Kd.int .u64) 26 w40 w.heap.size (fun k_ => some k_ ≠ (v183 : Value).ownBlock) (.slice (some ⟨go37, 0, none⟩) x5_3.length co38) y186 := (by rw [hw, Ny186.out]; exact HP39.1); clear HP39; have n0_ := Aside0.mk (hp_); have n1_ := Aside0.mk (Kd.R_after (v := (.slice (some ⟨go37, 0, none⟩) x5_3.length co38)) (v1 := (.slice (some ⟨go37, 0, none⟩) x5_3.length co38)) (ok := (fun _ => True)) (by (with_reducible repeat (first | apply Kd.R_alloc | apply Kd.R_drewN | apply Kd.R_drew)); exact Kd.R_mono HO_12.out (fun _ hk => ⟨trivial, hk⟩)) hg (.inl rfl)); have n2_ := Aside0.mk ((by rw [hw]; exact below_set (HB.out) GB37.out : Below w.heap.size w w40)); clear HO_5; clear HO_12; clear HB; have HO_5 := n0_; have HO_12 := n1_; have HB := n2_; clear n0_ n1_ n2_; clear hg hw hp_))
                        go_roundg k3
                        case measure => have := HJ6.out; have := HJ23.out; have := HK3.out; omega
                        case rel => exact ⟨(y186), (wrap64 (x15_3 + 1)), (by first | rfl | (simp; done) | (simp [*]; done)), H', ⟨by have := HJ6.out; have := HJ23.out; have := HK3.out; omega⟩, ⟨by (with_reducible repeat (first | apply Kd.R_alloc | apply Kd.R_drewN | apply Kd.R_drew)); exact HO_5.out⟩, ⟨by (with_reducible repeat (first | apply Kd.R_alloc | apply Kd.R_drewN | apply Kd.R_drew)); exact Kd.R_mono HO_12.out (fun _ hk => hk.2)⟩, ⟨by repeat (first | (with_reducible first | exact HB.out | apply below_alloc | apply pw_below_drewN | apply below_drew1) | exact HB.out)⟩⟩
                      · rw [if_neg c36] at H
                        exact absurd H (by simp)
                    · rw [if_neg c35] at H
                      have c35b0 : decide (x15_3 < (x5_3.length : Int)) = false := decide_eq_false c35
                      clear c35
                      have H' := Aside0.mk H
                      clear H
                      obtain ⟨Ao41, co41, eo41⟩ := Kd.R_slice HO_5.out
                      subst eo41
                      go_wp2
                      go_loopg [16, 17] k3 (fun kq v16 v17 w' => ∃ (x16_4 : List Int) (x17_4 : Int), v17 = .int .i64 x17_4 ∧ Aside0 (gantrylaw01_VarintAll.l1 kq l1 t180 x16_4 x17_4 = some r) ∧ Aside0 (kq ≤ k3) ∧ Aside0 (Kd.R (Kd.int .u64) 26 w' w.heap.size (fun k_ => some k_ ≠ (v16 : Value).ownBlock) v183 t180) ∧ Aside0 (Kd.R (Kd.int .u64) 26 w' w.heap.size (fun k_ => some k_ ≠ (v183 : Value).ownBlock) v16 x16_4) ∧ Aside0 (Below w.heap.size w w'))
                      case atStart => exact ⟨(x5_3), (0), (by first | rfl | (simp; done) | (simp [*]; done)), H', ⟨Nat.le_refl _⟩, ⟨by (with_reducible repeat (first | apply Kd.R_alloc | apply Kd.R_drewN | apply Kd.R_drew)); exact HO_12.out⟩, ⟨by (with_reducible repeat (first | apply Kd.R_alloc | apply Kd.R_drewN | apply Kd.R_drew)); exact HO_5.out⟩, ⟨by repeat (first | (with_reducible first | exact HB.out | apply below_alloc | apply pw_below_drewN | apply below_drew1) | exact HB.out)⟩⟩
                      case round =>
                        clear H'
                        try clear c1
                        try clear c2
                        try clear p2
                        try clear c3
                        try clear p3
                        try clear q3
                        try clear hx3
                        try clear hf3
                        try clear c4
                        try clear p6
                        try clear c8
                        try clear c12
                        try clear c13
                        try clear c13b0
                        try clear c13b1
                        try clear c18
                        try clear c19
                        try clear c20
                        try clear c21
                        try clear c29
                        try clear c30
                        try clear c30b0
                        try clear c30b1
                        try clear c34
                        try clear c35
                        try clear c35b0
                        try clear c36
                        try clear c36b0
                        try clear p37
                        try clear q37
                        try clear hx37
                        try clear hf37
                        try clear hx37_0
                        try clear p2
                        try clear p37
                        try clear q37
                        obtain ⟨x16_4, x17_4, rfl, HA, HK4, HO_12, HO_16, HB⟩ := hrel
                        cases gk with
                        | zero => exact absurd HA.out (by simp [gantrylaw01_VarintAll.l1])
                        | succ k4 =>
                          have H := HA.out
                          clear HA
                          simp only [gantrylaw01_VarintAll.l1] at H
                          by_cases c42 : x17_4 < 16
                          · rw [if_pos c42] at H
                            have c42b0 : decide (x17_4 < 16) = true := decide_eq_true c42
                            clear c42
                            by_cases c43 : x16_4.length < 17592186044416
                            · rw [if_pos c43] at H
                              have LMc43 := Aside0.mk c43
                              clear c43
                              obtain ⟨y187, hy187⟩ : ∃ y_ : List Int, y_ = (x16_4 ++ [5]) := ⟨_, rfl⟩
                              replace H : (gantrylaw01_VarintAll.l1 k4 l1 t180 y187 (wrap64 (x17_4 + 1))) = some r := by first | (rw [hy187]; with_reducible exact H) | (have H2_ := (Option.bind_some _ _).symm.trans H; rw [hy187]; with_reducible exact H2_) | (have H2_ := (Option.bind_some _ _).symm.trans H; with_reducible exact H2_) | with_reducible exact H | (rw [hy187]; exact H) | exact H
                              have Ny187 := Aside0.mk hy187
                              clear hy187
                              have H' := Aside0.mk H
                              clear H
                              go_wp2_with (first | ((with_reducible refine gate_builtin (b := .append) (xs := #[.tmp 88, .tmp 89]) rfl ?_); (try (refine gate_guard (by rfl) ?_; dsimp only)); at_builtin; refine Kd.R_append (Kd.int .u64) (w0 := w) w.heap.size rfl (.tmp 88) (.tmp 89) 31 26 (.int .u64 0) 8 rfl Try.underlying31 info26 rfl (by decide) (by omega) u16 x16_4 5 [.int .u64 5] (fun k_ => some k_ ≠ (v183 : Value).ownBlock) (fun _ => False) rfl rfl ?aP (fun _ hk => hk.elim) ?aF ?aO ?aB ?aS ?aL ?_; (case aP => exact rfl); (case aB => exact (by repeat (first | (with_reducible first | exact HB.out | apply below_alloc | apply pw_below_drewN | apply below_drew1) | exact HB.out))); (case aF => exact (fun k_ hk => Kd.fresh' (Kd.R_lt (by (with_reducible repeat (first | apply Kd.R_alloc | apply Kd.R_drewN | apply Kd.R_drew)); exact HO_12.out)) k_ hk)); (case aO => exact (by (with_reducible repeat (first | apply Kd.R_alloc | apply Kd.R_drewN | apply Kd.R_drew)); exact HO_16.out)); (case aS => exact (below_size (by repeat (first | (with_reducible first | exact HB.out | apply below_alloc | apply pw_below_drewN | apply below_drew1) | exact HB.out)))); (case aL => have := LMc43.out; omega); intro v188 w44 ho hb hg hat; rw [← Ny187.out] at ho; have n0_ := Aside0.mk (Kd.R_after (ok := (fun _ => True)) (by (with_reducible repeat (first | apply Kd.R_alloc | apply Kd.R_drewN | apply Kd.R_drew)); exact Kd.R_mono HO_12.out (fun _ hk => ⟨trivial, hk⟩)) hg hat); have n1_ := Aside0.mk (hb); have n2_ := Aside0.mk (ho); clear HO_12; clear HB; clear HO_16; have HO_12 := n0_; have HB := n1_; have HO189 := n2_; clear n0_ n1_ n2_; clear ho hb hg hat))
                              go_roundg k4
                              case measure => have := HJ6.out; have := HJ23.out; have := HK3.out; have := HK4.out; omega
                              case rel => exact ⟨(y187), (wrap64 (x17_4 + 1)), (by first | rfl | (simp; done) | (simp [*]; done)), H', ⟨by have := HJ6.out; have := HJ23.out; have := HK3.out; have := HK4.out; omega⟩, ⟨by (with_reducible repeat (first | apply Kd.R_alloc | apply Kd.R_drewN | apply Kd.R_drew)); exact Kd.R_mono HO_12.out (fun _ hk => hk.2)⟩, ⟨by (with_reducible repeat (first | apply Kd.R_alloc | apply Kd.R_drewN | apply Kd.R_drew)); exact HO189.out⟩, ⟨by repeat (first | (with_reducible first | exact HB.out | apply below_alloc | apply pw_below_drewN | apply below_drew1) | exact HB.out)⟩⟩
                            · rw [if_neg c43] at H
                              exact absurd H (by simp)
                          · rw [if_neg c42] at H
                            have c42b0 : decide (x17_4 < 16) = false := decide_eq_false c42
                            clear c42
                            replace H := Option.bind_eq_some_iff.mp H
                            obtain ⟨t190, A450, H⟩ := H
                            replace H : (some t190) = some r := H
                            have A45 := Aside0.mk A450
                            clear A450
                            obtain rfl := Option.some.inj H
                            obtain ⟨Ao46, co46, eo46⟩ := Kd.R_slice HO_12.out
                            subst eo46
                            go_wp2_with (first | ((with_reducible refine gate_callee (f := 20) rfl ?_); refine goesL_ (some 93) rfl rfl Try.func20 (by kernel_rfl) rfl #[.slice Ao46 t180.length co46, .slice A1 l1.length c1] rfl (by (try simp only [List.map_toArray, List.map_cons, List.map_nil]); first | done | rfl | (simp only [List.length_drop, List.length_take]; rfl)) ?_; (with_reducible refine (gantrylaw01_same.calls k4 _ _ t180 _ _ l1 t190 _ ?side1 ?side2 ?side3 ?side4 A45.out).mono ?_); (case side1 => repeat (first | exact (Kd.R_reads' HO_12.out).2.2 | (with_reducible refine Kd.C_alloc ?_ _) | (with_reducible refine Kd.C_drewN ?_ _) | (with_reducible refine Kd.C_drew ?_))); (case side2 => exact (Kd.R_reads' HO_12.out).2.1); (case side3 => repeat (first | exact (Kd.C_below HR1.out HB.out) | (with_reducible refine Kd.C_alloc ?_ _) | (with_reducible refine Kd.C_drewN ?_ _) | (with_reducible refine Kd.C_drew ?_))); (case side4 => exact HC1.out); rintro e w' ⟨rfl, ⟨nd, rfl⟩⟩; refine ⟨_, rfl, ?_⟩))
                            go_ret
                            exact ⟨by first | rfl | (simp [errW_none, errW_some] <;> rfl) | (simp [*, errW_none, errW_some] <;> rfl), by repeat (first | (with_reducible first | exact HB.out | apply below_alloc | apply pw_below_drewN | apply below_drew1) | exact HB.out)⟩
  · replace c4 := Bool.eq_false_iff.mpr c4
    subst c4
    have H1 : (some false) = some r := by rw [if_neg (show ¬ (false = true) by decide)] at H; exact H
    clear H
    have H := H1
    clear H1
    obtain rfl := Option.some.inj H
    go_enter Try.func8, Try.ntmps8
    go_wp2_with (first | ((with_reducible refine gate_callee (f := 12) rfl ?_); refine goesL_ (some 18) rfl rfl Try.func12 (by kernel_rfl) rfl #[] rfl (by (try simp only [List.map_toArray, List.map_cons, List.map_nil]); first | done | rfl | (simp only [List.length_drop, List.length_take]; rfl)) ?_; (with_reducible refine (gantrylaw01_fixed.calls k  false _ A3.out).mono ?_); rintro e w47 ⟨rfl, hb⟩; refine ⟨_, rfl, ?_⟩; have n0_ := Aside0.mk (below_step (by repeat (first | (with_reducible first | exact HB.out | apply below_alloc | apply pw_below_drewN | apply below_drew1) | exact HB.out)) hb); clear HB; have HB := n0_; clear n0_; (try clear hb); (try clear hb2); (try clear hk); (try clear hi)))
    go_ret
    exact ⟨by first | rfl | (simp [errW_none, errW_some] <;> rfl) | (simp [*, errW_none, errW_some] <;> rfl), by repeat (first | (with_reducible first | exact HB.out | apply below_alloc | apply pw_below_drewN | apply below_drew1) | exact HB.out)⟩

/-- THE ONE PURE STATEMENT of gantrylaw01_VarintAll: yours. -/
def gantrylaw01_VarintAll.Pure : Prop := ∀ (a0 : ByteArray) (l1 : List Int), a0.size ≤ 140737488351232 → l1.length ≤ maxLen → l1.length * 8 ≤ 140737488351232 → (∀ x ∈ l1, (Lit.int .u64 x).wf = true) → ∃ k, gantrylaw01_VarintAll.f k a0 l1 = some true
theorem gantrylaw01_VarintAll.walk (P : gantrylaw01_VarintAll.Pure) (a0 : ByteArray) (a1 : Option Addr) (len1 cap1 : Nat) (z1 : List Int) (w : World) (w0 : a0.size ≤ 140737488351232) (w1 : (a1 = none ∧ len1 = 0 ∧ cap1 = 0 ∧ z1 = []) ∨ ∃ x, a1 = some x ∧ len1 ≤ cap1 ∧ cap1 ≤ maxLen ∧ z1.length = cap1 ∧ (∀ i, i < z1.length → w.cell? (x.add i) = some (.int .u64 (z1.getD i 0))) ∧ ∀ n ∈ z1, (Lit.int .u64 n).wf = true) (y1 : len1 * 8 ≤ 140737488351232) :
    Calls Try.prog 8 #[.string a0, .slice a1 len1 cap1] w fun e w' => e = .returned (.bool true) ∧ Below w.heap.size w w' := by
  obtain ⟨l1, rfl, hr1, hm1, hw1, hc1⟩ := ReadsInt.ofRowC w1
  obtain ⟨k, h⟩ := P a0 l1 w0 hm1 y1 hw1
  refine (gantrylaw01_VarintAll.calls k a0 _ _ l1 true w (Kd.C_of_reads (d := (0 : Int)) (h1 := fun _ => rfl) hr1) hc1 h).mono ?_
  rintro e w' ⟨rfl, hd⟩
  exact ⟨rfl, hd⟩

end Go.Proofs.Ytipdfajadehkmaa.QVarintAll
