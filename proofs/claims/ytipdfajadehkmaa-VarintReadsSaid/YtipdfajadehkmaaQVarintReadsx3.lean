-- Written by a program of this session (the kit's printer, changed; see wip/tools/mkprint.py). Lean checks it.
import Derived.Test.YtipdfajadehkmaaQVarintReadsx0
import Derived.Test.YtipdfajadehkmaaQVarintReadsx1
import Derived.Test.YtipdfajadehkmaaQVarintReadsx2
namespace Go.Proofs.Ytipdfajadehkmaa.QVarintReads
open Go.RowKit Go.Proofs.YtipdfajadehkmaaW.PrintWords Go.Proofs.YtipdfajadehkmaaW.PrintLast Go.Proofs.YtipdfajadehkmaaW.PrintMore
attribute [local go_sem] max2_int min2_int max_two min_two max_three min_three max_four min_four   -- for this text's walks alone
set_option linter.unusedVariables false
set_option linter.unusedSimpArgs false

/-! ### gantrylaw01_plain: function 13 -/
mutual
def gantrylaw01_plain.j0 : Nat → ByteArray → Bool → Option (Bool)
  | 0, _, _ => none
  | k + 1, x0, x37 => if x37 = true then (some false) else ((varint_Read_uint8.f k x0).bind fun bt153 => ((gantryref01_ReadMost.f k x0 255).bind fun bt156 => (if (IntKind.u64.wrap (bt153.1)) = bt156.1 then (if bt153.2.1 = bt156.2.1 then (gantrylaw01_plain.j1 k x0 (bt153.2.2 != bt156.2.2)) else (gantrylaw01_plain.j1 k x0 true)) else (gantrylaw01_plain.j1 k x0 true))))
def gantrylaw01_plain.j1 : Nat → ByteArray → Bool → Option (Bool)
  | 0, _, _ => none
  | k + 1, x0, x63 => if x63 = true then (some false) else ((varint_Read_uint16.f k x0).bind fun bt159 => ((gantryref01_ReadMost.f k x0 65535).bind fun bt162 => (if (IntKind.u64.wrap (bt159.1)) = bt162.1 then (if bt159.2.1 = bt162.2.1 then (gantrylaw01_plain.j2 k x0 (bt159.2.2 != bt162.2.2)) else (gantrylaw01_plain.j2 k x0 true)) else (gantrylaw01_plain.j2 k x0 true))))
def gantrylaw01_plain.j2 : Nat → ByteArray → Bool → Option (Bool)
  | 0, _, _ => none
  | k + 1, x0, x89 => if x89 = true then (some false) else ((gantrylaw01_Id.f k x0).bind fun bt165 => ((gantryref01_ReadMost.f k x0 4294967295).bind fun bt168 => (if (IntKind.u64.wrap (bt165.1)) = bt168.1 then (if bt165.2.1 = bt168.2.1 then (gantrylaw01_plain.j3 k x0 (bt165.2.2 != bt168.2.2)) else (gantrylaw01_plain.j3 k x0 true)) else (gantrylaw01_plain.j3 k x0 true))))
def gantrylaw01_plain.j3 : Nat → ByteArray → Bool → Option (Bool)
  | 0, _, _ => none
  | k + 1, x0, x115 => if x115 = true then (some false) else ((varint_Read_uint.f k x0).bind fun bt171 => ((gantryref01_Read.f k x0).bind fun bt174 => (if bt171.1 = bt174.1 then (if bt171.2.1 = bt174.2.1 then (some (bt171.2.2 == bt174.2.2)) else (some false)) else (some false))))
end
def gantrylaw01_plain.f (k : Nat) (a0 : ByteArray) : Option (Bool) := (varint_Read_uint64.f k a0).bind fun bt147 => ((gantryref01_Read.f k a0).bind fun bt150 => (if bt147.1 = bt150.1 then (if bt147.2.1 = bt150.2.1 then (gantrylaw01_plain.j0 k a0 (bt147.2.2 != bt150.2.2)) else (gantrylaw01_plain.j0 k a0 true)) else (gantrylaw01_plain.j0 k a0 true)))
theorem gantrylaw01_plain.mono_l : ∀ k, (∀ y0 y1, LeO (gantrylaw01_plain.j0 k y0 y1) (gantrylaw01_plain.j0 (k + 1) y0 y1)) ∧ (∀ y0 y1, LeO (gantrylaw01_plain.j1 k y0 y1) (gantrylaw01_plain.j1 (k + 1) y0 y1)) ∧ (∀ y0 y1, LeO (gantrylaw01_plain.j2 k y0 y1) (gantrylaw01_plain.j2 (k + 1) y0 y1)) ∧ (∀ y0 y1, LeO (gantrylaw01_plain.j3 k y0 y1) (gantrylaw01_plain.j3 (k + 1) y0 y1))
  | 0 => ⟨fun _ _ r h => by simp [gantrylaw01_plain.j0] at h, fun _ _ r h => by simp [gantrylaw01_plain.j1] at h, fun _ _ r h => by simp [gantrylaw01_plain.j2] at h, fun _ _ r h => by simp [gantrylaw01_plain.j3] at h⟩
  | k + 1 => by
    obtain ⟨ih0, ih1, ih2, ih3⟩ := gantrylaw01_plain.mono_l k
    refine ⟨?_, ?_, ?_, ?_⟩
    · intro y0 y1
      unfold gantrylaw01_plain.j0
      repeat' first
      | (with_reducible exact ih0 _ _)
      | (with_reducible exact ih1 _ _)
      | (with_reducible exact ih2 _ _)
      | (with_reducible exact ih3 _ _)
      | (with_reducible exact gantrylaw01_Id.mono _ _)
      | (with_reducible exact gantryref01_Read.mono _ _)
      | (with_reducible exact gantryref01_ReadMost.mono _ _ _)
      | (with_reducible exact varint_Read_uint.mono _ _)
      | (with_reducible exact varint_Read_uint16.mono _ _)
      | (with_reducible exact varint_Read_uint64.mono _ _)
      | (with_reducible exact varint_Read_uint8.mono _ _)
      | (with_reducible exact LeO.refl _)
      | (with_reducible exact LeO.none _)
      | (with_reducible refine LeO.ite ?_ ?_)
      | (with_reducible refine LeO.bind ?_ (fun _ => ?_))
      | exact ih0 _ _
      | exact ih1 _ _
      | exact ih2 _ _
      | exact ih3 _ _
      | exact gantrylaw01_Id.mono _ _
      | exact gantryref01_Read.mono _ _
      | exact gantryref01_ReadMost.mono _ _ _
      | exact varint_Read_uint.mono _ _
      | exact varint_Read_uint16.mono _ _
      | exact varint_Read_uint64.mono _ _
      | exact varint_Read_uint8.mono _ _
      | exact LeO.none _
      | refine LeO.ite ?_ ?_
      | refine LeO.bind ?_ (fun _ => ?_)
    · intro y0 y1
      unfold gantrylaw01_plain.j1
      repeat' first
      | (with_reducible exact ih0 _ _)
      | (with_reducible exact ih1 _ _)
      | (with_reducible exact ih2 _ _)
      | (with_reducible exact ih3 _ _)
      | (with_reducible exact gantrylaw01_Id.mono _ _)
      | (with_reducible exact gantryref01_Read.mono _ _)
      | (with_reducible exact gantryref01_ReadMost.mono _ _ _)
      | (with_reducible exact varint_Read_uint.mono _ _)
      | (with_reducible exact varint_Read_uint16.mono _ _)
      | (with_reducible exact varint_Read_uint64.mono _ _)
      | (with_reducible exact varint_Read_uint8.mono _ _)
      | (with_reducible exact LeO.refl _)
      | (with_reducible exact LeO.none _)
      | (with_reducible refine LeO.ite ?_ ?_)
      | (with_reducible refine LeO.bind ?_ (fun _ => ?_))
      | exact ih0 _ _
      | exact ih1 _ _
      | exact ih2 _ _
      | exact ih3 _ _
      | exact gantrylaw01_Id.mono _ _
      | exact gantryref01_Read.mono _ _
      | exact gantryref01_ReadMost.mono _ _ _
      | exact varint_Read_uint.mono _ _
      | exact varint_Read_uint16.mono _ _
      | exact varint_Read_uint64.mono _ _
      | exact varint_Read_uint8.mono _ _
      | exact LeO.none _
      | refine LeO.ite ?_ ?_
      | refine LeO.bind ?_ (fun _ => ?_)
    · intro y0 y1
      unfold gantrylaw01_plain.j2
      repeat' first
      | (with_reducible exact ih0 _ _)
      | (with_reducible exact ih1 _ _)
      | (with_reducible exact ih2 _ _)
      | (with_reducible exact ih3 _ _)
      | (with_reducible exact gantrylaw01_Id.mono _ _)
      | (with_reducible exact gantryref01_Read.mono _ _)
      | (with_reducible exact gantryref01_ReadMost.mono _ _ _)
      | (with_reducible exact varint_Read_uint.mono _ _)
      | (with_reducible exact varint_Read_uint16.mono _ _)
      | (with_reducible exact varint_Read_uint64.mono _ _)
      | (with_reducible exact varint_Read_uint8.mono _ _)
      | (with_reducible exact LeO.refl _)
      | (with_reducible exact LeO.none _)
      | (with_reducible refine LeO.ite ?_ ?_)
      | (with_reducible refine LeO.bind ?_ (fun _ => ?_))
      | exact ih0 _ _
      | exact ih1 _ _
      | exact ih2 _ _
      | exact ih3 _ _
      | exact gantrylaw01_Id.mono _ _
      | exact gantryref01_Read.mono _ _
      | exact gantryref01_ReadMost.mono _ _ _
      | exact varint_Read_uint.mono _ _
      | exact varint_Read_uint16.mono _ _
      | exact varint_Read_uint64.mono _ _
      | exact varint_Read_uint8.mono _ _
      | exact LeO.none _
      | refine LeO.ite ?_ ?_
      | refine LeO.bind ?_ (fun _ => ?_)
    · intro y0 y1
      unfold gantrylaw01_plain.j3
      repeat' first
      | (with_reducible exact ih0 _ _)
      | (with_reducible exact ih1 _ _)
      | (with_reducible exact ih2 _ _)
      | (with_reducible exact ih3 _ _)
      | (with_reducible exact gantrylaw01_Id.mono _ _)
      | (with_reducible exact gantryref01_Read.mono _ _)
      | (with_reducible exact gantryref01_ReadMost.mono _ _ _)
      | (with_reducible exact varint_Read_uint.mono _ _)
      | (with_reducible exact varint_Read_uint16.mono _ _)
      | (with_reducible exact varint_Read_uint64.mono _ _)
      | (with_reducible exact varint_Read_uint8.mono _ _)
      | (with_reducible exact LeO.refl _)
      | (with_reducible exact LeO.none _)
      | (with_reducible refine LeO.ite ?_ ?_)
      | (with_reducible refine LeO.bind ?_ (fun _ => ?_))
      | exact ih0 _ _
      | exact ih1 _ _
      | exact ih2 _ _
      | exact ih3 _ _
      | exact gantrylaw01_Id.mono _ _
      | exact gantryref01_Read.mono _ _
      | exact gantryref01_ReadMost.mono _ _ _
      | exact varint_Read_uint.mono _ _
      | exact varint_Read_uint16.mono _ _
      | exact varint_Read_uint64.mono _ _
      | exact varint_Read_uint8.mono _ _
      | exact LeO.none _
      | refine LeO.ite ?_ ?_
      | refine LeO.bind ?_ (fun _ => ?_)
theorem gantrylaw01_plain.mono : ∀ a0 k, LeO (gantrylaw01_plain.f k a0) (gantrylaw01_plain.f (k + 1) a0) := by
  intro a0 k
  obtain ⟨ih0, ih1, ih2, ih3⟩ := gantrylaw01_plain.mono_l k
  unfold gantrylaw01_plain.f
  repeat' first
      | (with_reducible exact ih0 _ _)
      | (with_reducible exact ih1 _ _)
      | (with_reducible exact ih2 _ _)
      | (with_reducible exact ih3 _ _)
      | (with_reducible exact gantrylaw01_Id.mono _ _)
      | (with_reducible exact gantryref01_Read.mono _ _)
      | (with_reducible exact gantryref01_ReadMost.mono _ _ _)
      | (with_reducible exact varint_Read_uint.mono _ _)
      | (with_reducible exact varint_Read_uint16.mono _ _)
      | (with_reducible exact varint_Read_uint64.mono _ _)
      | (with_reducible exact varint_Read_uint8.mono _ _)
      | (with_reducible exact LeO.refl _)
      | (with_reducible exact LeO.none _)
      | (with_reducible refine LeO.ite ?_ ?_)
      | (with_reducible refine LeO.bind ?_ (fun _ => ?_))
      | exact ih0 _ _
      | exact ih1 _ _
      | exact ih2 _ _
      | exact ih3 _ _
      | exact gantrylaw01_Id.mono _ _
      | exact gantryref01_Read.mono _ _
      | exact gantryref01_ReadMost.mono _ _ _
      | exact varint_Read_uint.mono _ _
      | exact varint_Read_uint16.mono _ _
      | exact varint_Read_uint64.mono _ _
      | exact varint_Read_uint8.mono _ _
      | exact LeO.none _
      | refine LeO.ite ?_ ?_
      | refine LeO.bind ?_ (fun _ => ?_)
set_option maxHeartbeats 8000000 in
set_option maxRecDepth 100000 in
theorem gantrylaw01_plain.calls (k : Nat) (a0 : ByteArray) (r : Bool) (w : World) (h : gantrylaw01_plain.f k a0 = some r) :
    Calls Try.prog 13 #[.string a0] w fun e w' => e = .returned (.bool r) ∧ Drawn0 w w' := by
  have H : ((varint_Read_uint64.f k a0).bind fun bt147 => ((gantryref01_Read.f k a0).bind fun bt150 => (if bt147.1 = bt150.1 then (if bt147.2.1 = bt150.2.1 then (gantrylaw01_plain.j0 k a0 (bt147.2.2 != bt150.2.2)) else (gantrylaw01_plain.j0 k a0 true)) else (gantrylaw01_plain.j0 k a0 true)))) = some r := h
  clear h
  replace H := Option.bind_eq_some_iff.mp H
  obtain ⟨⟨t147, t148, t149⟩, A20, H⟩ := H
  replace H : ((gantryref01_Read.f k a0).bind fun bt150 => (if t147 = bt150.1 then (if t148 = bt150.2.1 then (gantrylaw01_plain.j0 k a0 (t149 != bt150.2.2)) else (gantrylaw01_plain.j0 k a0 true)) else (gantrylaw01_plain.j0 k a0 true))) = some r := H
  have A2 := Aside0.mk A20
  clear A20
  replace H := Option.bind_eq_some_iff.mp H
  obtain ⟨⟨t150, t151, t152⟩, A30, H⟩ := H
  replace H : (if t147 = t150 then (if t148 = t151 then (gantrylaw01_plain.j0 k a0 (t149 != t152)) else (gantrylaw01_plain.j0 k a0 true)) else (gantrylaw01_plain.j0 k a0 true)) = some r := H
  have A3 := Aside0.mk A30
  clear A30
  have HC4 := Aside0.mk H
  clear H
  go_enter Try.func13, Try.ntmps13
  go_upto_region 3 with (first | ((with_reducible refine gate_callee (f := 39) rfl ?_); refine goesL_ (some 15) rfl rfl Try.func39 (by kernel_rfl) rfl #[.string a0] rfl (by (try simp only [List.map_toArray, List.map_cons, List.map_nil]); first | done | rfl | (simp only [List.length_drop, List.length_take]; rfl)) ?_; (with_reducible refine (varint_Read_uint64.calls k a0 t147 t148 t149 _ A2.out).mono ?_); rintro e w' ⟨rfl, ⟨nd, rfl⟩⟩; refine ⟨_, rfl, ?_⟩) | ((with_reducible refine gate_callee (f := 42) rfl ?_); refine goesL_ (some 21) rfl rfl Try.func42 (by kernel_rfl) rfl #[.string a0] rfl (by (try simp only [List.map_toArray, List.map_cons, List.map_nil]); first | done | rfl | (simp only [List.length_drop, List.length_take]; rfl)) ?_; (with_reducible refine (gantryref01_Read.calls k a0 t150 t151 t152 _ A3.out).mono ?_); rintro e w' ⟨rfl, ⟨nd, rfl⟩⟩; refine ⟨_, rfl, ?_⟩))
  (try simp only [Act.put, List.setIfInBounds_toArray, List.set_cons_zero, List.set_cons_succ])
  go_cut [37] (fun v37 wc => ∃ (kq : Nat) (x37_3 : Bool), v37 = .bool x37_3 ∧ Aside0 (gantrylaw01_plain.j0 kq a0 x37_3 = some r) ∧ Aside0 (kq ≤ k) ∧ Drawn0 w wc)
  case first =>
    have H := HC4.out
    clear HC4
    by_cases c5 : t147 = t150
    · rw [if_pos c5] at H
      have c5b0 : (t147 == t150) = true := beq_iff_eq.mpr c5
      have c5b1 : (t147 != t150) = false := bne_eq_false_iff_eq.mpr c5
      clear c5
      (first | rw [c5b0] | (simp only [i64_w, i32_w]; rw [c5b0]) | skip)
      by_cases c6 : t148 = t151
      · rw [if_pos c6] at H
        have c6b0 : (t148 == t151) = true := beq_iff_eq.mpr c6
        have c6b1 : (t148 != t151) = false := bne_eq_false_iff_eq.mpr c6
        clear c6
        have H' := Aside0.mk H
        clear H
        go_wp2
        go_meet
        case rel => exact ⟨_, ((t149 != t152)), (by first | rfl | (simp; done) | (simp [*]; done)), H', ⟨by first | omega | exact Nat.le_refl _⟩, by repeat (first | exact Drawn0.refl _ | apply Drawn0.step)⟩
      · rw [if_neg c6] at H
        have c6b0 : (t148 == t151) = false := beq_eq_false_iff_ne.mpr c6
        have c6b1 : (t148 != t151) = true := bne_iff_ne.mpr c6
        have H' := Aside0.mk H
        clear H
        go_wp2
        go_meet
        case rel => exact ⟨_, (true), (by first | rfl | (simp; done) | (simp [*]; done)), H', ⟨by first | omega | exact Nat.le_refl _⟩, by repeat (first | exact Drawn0.refl _ | apply Drawn0.step)⟩
    · rw [if_neg c5] at H
      have c5b0 : (t147 == t150) = false := beq_eq_false_iff_ne.mpr c5
      have c5b1 : (t147 != t150) = true := bne_iff_ne.mpr c5
      (first | rw [c5b0] | (simp only [i64_w, i32_w]; rw [c5b0]) | skip)
      have H' := Aside0.mk H
      clear H
      go_wp2
      go_meet
      case rel => exact ⟨_, (true), (by first | rfl | (simp; done) | (simp [*]; done)), H', ⟨by first | omega | exact Nat.le_refl _⟩, by repeat (first | exact Drawn0.refl _ | apply Drawn0.step)⟩
  case rest =>
    clear HC4
    try clear c1
    try clear p2
    try clear c3
    try clear c4
    try clear c5
    try clear c5b0
    try clear c5b1
    try clear c6
    try clear c6b0
    try clear c6b1
    obtain ⟨kq, x37_3, rfl, HA, HJ3, ⟨mc3, rfl⟩⟩ := hcut
    cases kq with
    | zero => exact absurd HA.out (by simp [gantrylaw01_plain.j0])
    | succ kj3 =>
      have H := HA.out
      clear HA
      simp only [gantrylaw01_plain.j0] at H
      by_cases c7 : x37_3 = true
      · subst c7
        have H1 : (some false) = some r := by rw [if_pos rfl] at H; exact H
        clear H
        have H := H1
        clear H1
        obtain rfl := Option.some.inj H
        go_wp2
        go_ret
        exact ⟨by first | rfl | (simp; done) | (simp [*]; done), by repeat (first | exact Drawn0.refl _ | apply Drawn0.step)⟩
      · replace c7 := Bool.eq_false_iff.mpr c7
        subst c7
        have H1 : ((varint_Read_uint8.f kj3 a0).bind fun bt153 => ((gantryref01_ReadMost.f kj3 a0 255).bind fun bt156 => (if (IntKind.u64.wrap (bt153.1)) = bt156.1 then (if bt153.2.1 = bt156.2.1 then (gantrylaw01_plain.j1 kj3 a0 (bt153.2.2 != bt156.2.2)) else (gantrylaw01_plain.j1 kj3 a0 true)) else (gantrylaw01_plain.j1 kj3 a0 true)))) = some r := by rw [if_neg (show ¬ (false = true) by decide)] at H; exact H
        clear H
        have H := H1
        clear H1
        replace H := Option.bind_eq_some_iff.mp H
        obtain ⟨⟨t153, t154, t155⟩, A80, H⟩ := H
        replace H : ((gantryref01_ReadMost.f kj3 a0 255).bind fun bt156 => (if (IntKind.u64.wrap (t153)) = bt156.1 then (if t154 = bt156.2.1 then (gantrylaw01_plain.j1 kj3 a0 (t155 != bt156.2.2)) else (gantrylaw01_plain.j1 kj3 a0 true)) else (gantrylaw01_plain.j1 kj3 a0 true))) = some r := H
        have A8 := Aside0.mk A80
        clear A80
        replace H := Option.bind_eq_some_iff.mp H
        obtain ⟨⟨t156, t157, t158⟩, A90, H⟩ := H
        replace H : (if (IntKind.u64.wrap (t153)) = t156 then (if t154 = t157 then (gantrylaw01_plain.j1 kj3 a0 (t155 != t158)) else (gantrylaw01_plain.j1 kj3 a0 true)) else (gantrylaw01_plain.j1 kj3 a0 true)) = some r := H
        have A9 := Aside0.mk A90
        clear A90
        have HC10 := Aside0.mk H
        clear H
        go_upto_region 7 with (first | ((with_reducible refine gate_callee (f := 41) rfl ?_); refine goesL_ (some 40) rfl rfl Try.func41 (by kernel_rfl) rfl #[.string a0] rfl (by (try simp only [List.map_toArray, List.map_cons, List.map_nil]); first | done | rfl | (simp only [List.length_drop, List.length_take]; rfl)) ?_; (with_reducible refine (varint_Read_uint8.calls kj3 a0 t153 t154 t155 _ A8.out).mono ?_); rintro e w' ⟨rfl, ⟨nd, rfl⟩⟩; refine ⟨_, rfl, ?_⟩) | ((with_reducible refine gate_callee (f := 43) rfl ?_); refine goesL_ (some 46) rfl rfl Try.func43 (by kernel_rfl) rfl #[.string a0, .int .u64 255] rfl (by (try simp only [List.map_toArray, List.map_cons, List.map_nil]); first | done | rfl | (simp only [List.length_drop, List.length_take]; rfl)) ?_; (with_reducible refine (gantryref01_ReadMost.calls kj3 a0 255 t156 t157 t158 _ A9.out).mono ?_); rintro e w' ⟨rfl, ⟨nd, rfl⟩⟩; refine ⟨_, rfl, ?_⟩))
        (try simp only [Act.put, List.setIfInBounds_toArray, List.set_cons_zero, List.set_cons_succ])
        go_cut [63] (fun v63 wc => ∃ (kq : Nat) (x63_9 : Bool), v63 = .bool x63_9 ∧ Aside0 (gantrylaw01_plain.j1 kq a0 x63_9 = some r) ∧ Aside0 (kq ≤ kj3) ∧ Drawn0 w wc)
        case first =>
          have H := HC10.out
          clear HC10
          by_cases c11 : (IntKind.u64.wrap (t153)) = t156
          · rw [if_pos c11] at H
            have c11b0 : ((IntKind.u64.wrap (t153)) == t156) = true := beq_iff_eq.mpr c11
            have c11b1 : ((IntKind.u64.wrap (t153)) != t156) = false := bne_eq_false_iff_eq.mpr c11
            clear c11
            (first | rw [c11b0] | (simp only [i64_w, i32_w]; rw [c11b0]) | skip)
            by_cases c12 : t154 = t157
            · rw [if_pos c12] at H
              have c12b0 : (t154 == t157) = true := beq_iff_eq.mpr c12
              have c12b1 : (t154 != t157) = false := bne_eq_false_iff_eq.mpr c12
              clear c12
              have H' := Aside0.mk H
              clear H
              go_wp2
              go_meet
              case rel => exact ⟨_, ((t155 != t158)), (by first | rfl | (simp; done) | (simp [*]; done)), H', ⟨by have := HJ3.out; first | omega | exact Nat.le_refl _⟩, by repeat (first | exact Drawn0.refl _ | apply Drawn0.step)⟩
            · rw [if_neg c12] at H
              have c12b0 : (t154 == t157) = false := beq_eq_false_iff_ne.mpr c12
              have c12b1 : (t154 != t157) = true := bne_iff_ne.mpr c12
              have H' := Aside0.mk H
              clear H
              go_wp2
              go_meet
              case rel => exact ⟨_, (true), (by first | rfl | (simp; done) | (simp [*]; done)), H', ⟨by have := HJ3.out; first | omega | exact Nat.le_refl _⟩, by repeat (first | exact Drawn0.refl _ | apply Drawn0.step)⟩
          · rw [if_neg c11] at H
            have c11b0 : ((IntKind.u64.wrap (t153)) == t156) = false := beq_eq_false_iff_ne.mpr c11
            have c11b1 : ((IntKind.u64.wrap (t153)) != t156) = true := bne_iff_ne.mpr c11
            (first | rw [c11b0] | (simp only [i64_w, i32_w]; rw [c11b0]) | skip)
            have H' := Aside0.mk H
            clear H
            go_wp2
            go_meet
            case rel => exact ⟨_, (true), (by first | rfl | (simp; done) | (simp [*]; done)), H', ⟨by have := HJ3.out; first | omega | exact Nat.le_refl _⟩, by repeat (first | exact Drawn0.refl _ | apply Drawn0.step)⟩
        case rest =>
          clear HC10
          try clear c1
          try clear p2
          try clear c3
          try clear c4
          try clear c5
          try clear c5b0
          try clear c5b1
          try clear c6
          try clear c6b0
          try clear c6b1
          try clear c7
          try clear c11
          try clear c11b0
          try clear c11b1
          try clear c12
          try clear c12b0
          try clear c12b1
          try clear p2
          obtain ⟨kq, x63_9, rfl, HA, HJ9, ⟨mc9, rfl⟩⟩ := hcut
          cases kq with
          | zero => exact absurd HA.out (by simp [gantrylaw01_plain.j1])
          | succ kj9 =>
            have H := HA.out
            clear HA
            simp only [gantrylaw01_plain.j1] at H
            by_cases c13 : x63_9 = true
            · subst c13
              have H1 : (some false) = some r := by rw [if_pos rfl] at H; exact H
              clear H
              have H := H1
              clear H1
              obtain rfl := Option.some.inj H
              go_wp2
              go_ret
              exact ⟨by first | rfl | (simp; done) | (simp [*]; done), by repeat (first | exact Drawn0.refl _ | apply Drawn0.step)⟩
            · replace c13 := Bool.eq_false_iff.mpr c13
              subst c13
              have H1 : ((varint_Read_uint16.f kj9 a0).bind fun bt159 => ((gantryref01_ReadMost.f kj9 a0 65535).bind fun bt162 => (if (IntKind.u64.wrap (bt159.1)) = bt162.1 then (if bt159.2.1 = bt162.2.1 then (gantrylaw01_plain.j2 kj9 a0 (bt159.2.2 != bt162.2.2)) else (gantrylaw01_plain.j2 kj9 a0 true)) else (gantrylaw01_plain.j2 kj9 a0 true)))) = some r := by rw [if_neg (show ¬ (false = true) by decide)] at H; exact H
              clear H
              have H := H1
              clear H1
              replace H := Option.bind_eq_some_iff.mp H
              obtain ⟨⟨t159, t160, t161⟩, A140, H⟩ := H
              replace H : ((gantryref01_ReadMost.f kj9 a0 65535).bind fun bt162 => (if (IntKind.u64.wrap (t159)) = bt162.1 then (if t160 = bt162.2.1 then (gantrylaw01_plain.j2 kj9 a0 (t161 != bt162.2.2)) else (gantrylaw01_plain.j2 kj9 a0 true)) else (gantrylaw01_plain.j2 kj9 a0 true))) = some r := H
              have A14 := Aside0.mk A140
              clear A140
              replace H := Option.bind_eq_some_iff.mp H
              obtain ⟨⟨t162, t163, t164⟩, A150, H⟩ := H
              replace H : (if (IntKind.u64.wrap (t159)) = t162 then (if t160 = t163 then (gantrylaw01_plain.j2 kj9 a0 (t161 != t164)) else (gantrylaw01_plain.j2 kj9 a0 true)) else (gantrylaw01_plain.j2 kj9 a0 true)) = some r := H
              have A15 := Aside0.mk A150
              clear A150
              have HC16 := Aside0.mk H
              clear H
              go_upto_region 11 with (first | ((with_reducible refine gate_callee (f := 44) rfl ?_); refine goesL_ (some 66) rfl rfl Try.func44 (by kernel_rfl) rfl #[.string a0] rfl (by (try simp only [List.map_toArray, List.map_cons, List.map_nil]); first | done | rfl | (simp only [List.length_drop, List.length_take]; rfl)) ?_; (with_reducible refine (varint_Read_uint16.calls kj9 a0 t159 t160 t161 _ A14.out).mono ?_); rintro e w' ⟨rfl, ⟨nd, rfl⟩⟩; refine ⟨_, rfl, ?_⟩) | ((with_reducible refine gate_callee (f := 43) rfl ?_); refine goesL_ (some 72) rfl rfl Try.func43 (by kernel_rfl) rfl #[.string a0, .int .u64 65535] rfl (by (try simp only [List.map_toArray, List.map_cons, List.map_nil]); first | done | rfl | (simp only [List.length_drop, List.length_take]; rfl)) ?_; (with_reducible refine (gantryref01_ReadMost.calls kj9 a0 65535 t162 t163 t164 _ A15.out).mono ?_); rintro e w' ⟨rfl, ⟨nd, rfl⟩⟩; refine ⟨_, rfl, ?_⟩))
              (try simp only [Act.put, List.setIfInBounds_toArray, List.set_cons_zero, List.set_cons_succ])
              go_cut [89] (fun v89 wc => ∃ (kq : Nat) (x89_15 : Bool), v89 = .bool x89_15 ∧ Aside0 (gantrylaw01_plain.j2 kq a0 x89_15 = some r) ∧ Aside0 (kq ≤ kj9) ∧ Drawn0 w wc)
              case first =>
                have H := HC16.out
                clear HC16
                by_cases c17 : (IntKind.u64.wrap (t159)) = t162
                · rw [if_pos c17] at H
                  have c17b0 : ((IntKind.u64.wrap (t159)) == t162) = true := beq_iff_eq.mpr c17
                  have c17b1 : ((IntKind.u64.wrap (t159)) != t162) = false := bne_eq_false_iff_eq.mpr c17
                  clear c17
                  (first | rw [c17b0] | (simp only [i64_w, i32_w]; rw [c17b0]) | skip)
                  by_cases c18 : t160 = t163
                  · rw [if_pos c18] at H
                    have c18b0 : (t160 == t163) = true := beq_iff_eq.mpr c18
                    have c18b1 : (t160 != t163) = false := bne_eq_false_iff_eq.mpr c18
                    clear c18
                    have H' := Aside0.mk H
                    clear H
                    go_wp2
                    go_meet
                    case rel => exact ⟨_, ((t161 != t164)), (by first | rfl | (simp; done) | (simp [*]; done)), H', ⟨by have := HJ3.out; have := HJ9.out; first | omega | exact Nat.le_refl _⟩, by repeat (first | exact Drawn0.refl _ | apply Drawn0.step)⟩
                  · rw [if_neg c18] at H
                    have c18b0 : (t160 == t163) = false := beq_eq_false_iff_ne.mpr c18
                    have c18b1 : (t160 != t163) = true := bne_iff_ne.mpr c18
                    have H' := Aside0.mk H
                    clear H
                    go_wp2
                    go_meet
                    case rel => exact ⟨_, (true), (by first | rfl | (simp; done) | (simp [*]; done)), H', ⟨by have := HJ3.out; have := HJ9.out; first | omega | exact Nat.le_refl _⟩, by repeat (first | exact Drawn0.refl _ | apply Drawn0.step)⟩
                · rw [if_neg c17] at H
                  have c17b0 : ((IntKind.u64.wrap (t159)) == t162) = false := beq_eq_false_iff_ne.mpr c17
                  have c17b1 : ((IntKind.u64.wrap (t159)) != t162) = true := bne_iff_ne.mpr c17
                  (first | rw [c17b0] | (simp only [i64_w, i32_w]; rw [c17b0]) | skip)
                  have H' := Aside0.mk H
                  clear H
                  go_wp2
                  go_meet
                  case rel => exact ⟨_, (true), (by first | rfl | (simp; done) | (simp [*]; done)), H', ⟨by have := HJ3.out; have := HJ9.out; first | omega | exact Nat.le_refl _⟩, by repeat (first | exact Drawn0.refl _ | apply Drawn0.step)⟩
              case rest =>
                clear HC16
                try clear c1
                try clear p2
                try clear c3
                try clear c4
                try clear c5
                try clear c5b0
                try clear c5b1
                try clear c6
                try clear c6b0
                try clear c6b1
                try clear c7
                try clear c9
                try clear c11
                try clear c11b0
                try clear c11b1
                try clear c12
                try clear c12b0
                try clear c12b1
                try clear c13
                try clear c17
                try clear c17b0
                try clear c17b1
                try clear c18
                try clear c18b0
                try clear c18b1
                try clear p2
                obtain ⟨kq, x89_15, rfl, HA, HJ15, ⟨mc15, rfl⟩⟩ := hcut
                cases kq with
                | zero => exact absurd HA.out (by simp [gantrylaw01_plain.j2])
                | succ kj15 =>
                  have H := HA.out
                  clear HA
                  simp only [gantrylaw01_plain.j2] at H
                  by_cases c19 : x89_15 = true
                  · subst c19
                    have H1 : (some false) = some r := by rw [if_pos rfl] at H; exact H
                    clear H
                    have H := H1
                    clear H1
                    obtain rfl := Option.some.inj H
                    go_wp2
                    go_ret
                    exact ⟨by first | rfl | (simp; done) | (simp [*]; done), by repeat (first | exact Drawn0.refl _ | apply Drawn0.step)⟩
                  · replace c19 := Bool.eq_false_iff.mpr c19
                    subst c19
                    have H1 : ((gantrylaw01_Id.f kj15 a0).bind fun bt165 => ((gantryref01_ReadMost.f kj15 a0 4294967295).bind fun bt168 => (if (IntKind.u64.wrap (bt165.1)) = bt168.1 then (if bt165.2.1 = bt168.2.1 then (gantrylaw01_plain.j3 kj15 a0 (bt165.2.2 != bt168.2.2)) else (gantrylaw01_plain.j3 kj15 a0 true)) else (gantrylaw01_plain.j3 kj15 a0 true)))) = some r := by rw [if_neg (show ¬ (false = true) by decide)] at H; exact H
                    clear H
                    have H := H1
                    clear H1
                    replace H := Option.bind_eq_some_iff.mp H
                    obtain ⟨⟨t165, t166, t167⟩, A200, H⟩ := H
                    replace H : ((gantryref01_ReadMost.f kj15 a0 4294967295).bind fun bt168 => (if (IntKind.u64.wrap (t165)) = bt168.1 then (if t166 = bt168.2.1 then (gantrylaw01_plain.j3 kj15 a0 (t167 != bt168.2.2)) else (gantrylaw01_plain.j3 kj15 a0 true)) else (gantrylaw01_plain.j3 kj15 a0 true))) = some r := H
                    have A20 := Aside0.mk A200
                    clear A200
                    replace H := Option.bind_eq_some_iff.mp H
                    obtain ⟨⟨t168, t169, t170⟩, A210, H⟩ := H
                    replace H : (if (IntKind.u64.wrap (t165)) = t168 then (if t166 = t169 then (gantrylaw01_plain.j3 kj15 a0 (t167 != t170)) else (gantrylaw01_plain.j3 kj15 a0 true)) else (gantrylaw01_plain.j3 kj15 a0 true)) = some r := H
                    have A21 := Aside0.mk A210
                    clear A210
                    have HC22 := Aside0.mk H
                    clear H
                    go_upto_region 15 with (first | ((with_reducible refine gate_callee (f := 45) rfl ?_); refine goesL_ (some 92) rfl rfl Try.func45 (by kernel_rfl) rfl #[.string a0] rfl (by (try simp only [List.map_toArray, List.map_cons, List.map_nil]); first | done | rfl | (simp only [List.length_drop, List.length_take]; rfl)) ?_; (with_reducible refine (gantrylaw01_Id.calls kj15 a0 t165 t166 t167 _ A20.out).mono ?_); rintro e w' ⟨rfl, ⟨nd, rfl⟩⟩; refine ⟨_, rfl, ?_⟩) | ((with_reducible refine gate_callee (f := 43) rfl ?_); refine goesL_ (some 98) rfl rfl Try.func43 (by kernel_rfl) rfl #[.string a0, .int .u64 4294967295] rfl (by (try simp only [List.map_toArray, List.map_cons, List.map_nil]); first | done | rfl | (simp only [List.length_drop, List.length_take]; rfl)) ?_; (with_reducible refine (gantryref01_ReadMost.calls kj15 a0 4294967295 t168 t169 t170 _ A21.out).mono ?_); rintro e w' ⟨rfl, ⟨nd, rfl⟩⟩; refine ⟨_, rfl, ?_⟩))
                    (try simp only [Act.put, List.setIfInBounds_toArray, List.set_cons_zero, List.set_cons_succ])
                    go_cut [115] (fun v115 wc => ∃ (kq : Nat) (x115_21 : Bool), v115 = .bool x115_21 ∧ Aside0 (gantrylaw01_plain.j3 kq a0 x115_21 = some r) ∧ Aside0 (kq ≤ kj15) ∧ Drawn0 w wc)
                    case first =>
                      have H := HC22.out
                      clear HC22
                      by_cases c23 : (IntKind.u64.wrap (t165)) = t168
                      · rw [if_pos c23] at H
                        have c23b0 : ((IntKind.u64.wrap (t165)) == t168) = true := beq_iff_eq.mpr c23
                        have c23b1 : ((IntKind.u64.wrap (t165)) != t168) = false := bne_eq_false_iff_eq.mpr c23
                        clear c23
                        (first | rw [c23b0] | (simp only [i64_w, i32_w]; rw [c23b0]) | skip)
                        by_cases c24 : t166 = t169
                        · rw [if_pos c24] at H
                          have c24b0 : (t166 == t169) = true := beq_iff_eq.mpr c24
                          have c24b1 : (t166 != t169) = false := bne_eq_false_iff_eq.mpr c24
                          clear c24
                          have H' := Aside0.mk H
                          clear H
                          go_wp2
                          go_meet
                          case rel => exact ⟨_, ((t167 != t170)), (by first | rfl | (simp; done) | (simp [*]; done)), H', ⟨by have := HJ3.out; have := HJ9.out; have := HJ15.out; first | omega | exact Nat.le_refl _⟩, by repeat (first | exact Drawn0.refl _ | apply Drawn0.step)⟩
                        · rw [if_neg c24] at H
                          have c24b0 : (t166 == t169) = false := beq_eq_false_iff_ne.mpr c24
                          have c24b1 : (t166 != t169) = true := bne_iff_ne.mpr c24
                          have H' := Aside0.mk H
                          clear H
                          go_wp2
                          go_meet
                          case rel => exact ⟨_, (true), (by first | rfl | (simp; done) | (simp [*]; done)), H', ⟨by have := HJ3.out; have := HJ9.out; have := HJ15.out; first | omega | exact Nat.le_refl _⟩, by repeat (first | exact Drawn0.refl _ | apply Drawn0.step)⟩
                      · rw [if_neg c23] at H
                        have c23b0 : ((IntKind.u64.wrap (t165)) == t168) = false := beq_eq_false_iff_ne.mpr c23
                        have c23b1 : ((IntKind.u64.wrap (t165)) != t168) = true := bne_iff_ne.mpr c23
                        (first | rw [c23b0] | (simp only [i64_w, i32_w]; rw [c23b0]) | skip)
                        have H' := Aside0.mk H
                        clear H
                        go_wp2
                        go_meet
                        case rel => exact ⟨_, (true), (by first | rfl | (simp; done) | (simp [*]; done)), H', ⟨by have := HJ3.out; have := HJ9.out; have := HJ15.out; first | omega | exact Nat.le_refl _⟩, by repeat (first | exact Drawn0.refl _ | apply Drawn0.step)⟩
                    case rest =>
                      clear HC22
                      try clear c1
                      try clear c2
                      try clear p2
                      try clear c3
                      try clear c4
                      try clear c5
                      try clear c5b0
                      try clear c5b1
                      try clear c6
                      try clear c6b0
                      try clear c6b1
                      try clear c7
                      try clear c9
                      try clear c11
                      try clear c11b0
                      try clear c11b1
                      try clear c12
                      try clear c12b0
                      try clear c12b1
                      try clear c13
                      try clear c15
                      try clear c17
                      try clear c17b0
                      try clear c17b1
                      try clear c18
                      try clear c18b0
                      try clear c18b1
                      try clear c19
                      try clear c23
                      try clear c23b0
                      try clear c23b1
                      try clear c24
                      try clear c24b0
                      try clear c24b1
                      try clear p2
                      obtain ⟨kq, x115_21, rfl, HA, HJ21, ⟨mc21, rfl⟩⟩ := hcut
                      cases kq with
                      | zero => exact absurd HA.out (by simp [gantrylaw01_plain.j3])
                      | succ kj21 =>
                        have H := HA.out
                        clear HA
                        simp only [gantrylaw01_plain.j3] at H
                        by_cases c25 : x115_21 = true
                        · subst c25
                          have H1 : (some false) = some r := by rw [if_pos rfl] at H; exact H
                          clear H
                          have H := H1
                          clear H1
                          obtain rfl := Option.some.inj H
                          go_wp2
                          go_ret
                          exact ⟨by first | rfl | (simp; done) | (simp [*]; done), by repeat (first | exact Drawn0.refl _ | apply Drawn0.step)⟩
                        · replace c25 := Bool.eq_false_iff.mpr c25
                          subst c25
                          have H1 : ((varint_Read_uint.f kj21 a0).bind fun bt171 => ((gantryref01_Read.f kj21 a0).bind fun bt174 => (if bt171.1 = bt174.1 then (if bt171.2.1 = bt174.2.1 then (some (bt171.2.2 == bt174.2.2)) else (some false)) else (some false)))) = some r := by rw [if_neg (show ¬ (false = true) by decide)] at H; exact H
                          clear H
                          have H := H1
                          clear H1
                          replace H := Option.bind_eq_some_iff.mp H
                          obtain ⟨⟨t171, t172, t173⟩, A260, H⟩ := H
                          replace H : ((gantryref01_Read.f kj21 a0).bind fun bt174 => (if t171 = bt174.1 then (if t172 = bt174.2.1 then (some (t173 == bt174.2.2)) else (some false)) else (some false))) = some r := H
                          have A26 := Aside0.mk A260
                          clear A260
                          replace H := Option.bind_eq_some_iff.mp H
                          obtain ⟨⟨t174, t175, t176⟩, A270, H⟩ := H
                          replace H : (if t171 = t174 then (if t172 = t175 then (some (t173 == t176)) else (some false)) else (some false)) = some r := H
                          have A27 := Aside0.mk A270
                          clear A270
                          by_cases c28 : t171 = t174
                          · rw [if_pos c28] at H
                            have c28b0 : (t171 == t174) = true := beq_iff_eq.mpr c28
                            have c28b1 : (t171 != t174) = false := bne_eq_false_iff_eq.mpr c28
                            clear c28
                            by_cases c29 : t172 = t175
                            · rw [if_pos c29] at H
                              have c29b0 : (t172 == t175) = true := beq_iff_eq.mpr c29
                              have c29b1 : (t172 != t175) = false := bne_eq_false_iff_eq.mpr c29
                              clear c29
                              obtain rfl := Option.some.inj H
                              go_wp2_with (first | ((with_reducible refine gate_callee (f := 46) rfl ?_); refine goesL_ (some 118) rfl rfl Try.func46 (by kernel_rfl) rfl #[.string a0] rfl (by (try simp only [List.map_toArray, List.map_cons, List.map_nil]); first | done | rfl | (simp only [List.length_drop, List.length_take]; rfl)) ?_; (with_reducible refine (varint_Read_uint.calls kj21 a0 t171 t172 t173 _ A26.out).mono ?_); rintro e w' ⟨rfl, ⟨nd, rfl⟩⟩; refine ⟨_, rfl, ?_⟩) | ((with_reducible refine gate_callee (f := 42) rfl ?_); refine goesL_ (some 124) rfl rfl Try.func42 (by kernel_rfl) rfl #[.string a0] rfl (by (try simp only [List.map_toArray, List.map_cons, List.map_nil]); first | done | rfl | (simp only [List.length_drop, List.length_take]; rfl)) ?_; (with_reducible refine (gantryref01_Read.calls kj21 a0 t174 t175 t176 _ A27.out).mono ?_); rintro e w' ⟨rfl, ⟨nd, rfl⟩⟩; refine ⟨_, rfl, ?_⟩))
                              go_ret
                              exact ⟨by first | rfl | (simp; done) | (simp [*]; done), by repeat (first | exact Drawn0.refl _ | apply Drawn0.step)⟩
                            · rw [if_neg c29] at H
                              have c29b0 : (t172 == t175) = false := beq_eq_false_iff_ne.mpr c29
                              have c29b1 : (t172 != t175) = true := bne_iff_ne.mpr c29
                              obtain rfl := Option.some.inj H
                              go_wp2_with (first | ((with_reducible refine gate_callee (f := 46) rfl ?_); refine goesL_ (some 118) rfl rfl Try.func46 (by kernel_rfl) rfl #[.string a0] rfl (by (try simp only [List.map_toArray, List.map_cons, List.map_nil]); first | done | rfl | (simp only [List.length_drop, List.length_take]; rfl)) ?_; (with_reducible refine (varint_Read_uint.calls kj21 a0 t171 t172 t173 _ A26.out).mono ?_); rintro e w' ⟨rfl, ⟨nd, rfl⟩⟩; refine ⟨_, rfl, ?_⟩) | ((with_reducible refine gate_callee (f := 42) rfl ?_); refine goesL_ (some 124) rfl rfl Try.func42 (by kernel_rfl) rfl #[.string a0] rfl (by (try simp only [List.map_toArray, List.map_cons, List.map_nil]); first | done | rfl | (simp only [List.length_drop, List.length_take]; rfl)) ?_; (with_reducible refine (gantryref01_Read.calls kj21 a0 t174 t175 t176 _ A27.out).mono ?_); rintro e w' ⟨rfl, ⟨nd, rfl⟩⟩; refine ⟨_, rfl, ?_⟩))
                              go_ret
                              exact ⟨by first | rfl | (simp; done) | (simp [*]; done), by repeat (first | exact Drawn0.refl _ | apply Drawn0.step)⟩
                          · rw [if_neg c28] at H
                            have c28b0 : (t171 == t174) = false := beq_eq_false_iff_ne.mpr c28
                            have c28b1 : (t171 != t174) = true := bne_iff_ne.mpr c28
                            obtain rfl := Option.some.inj H
                            go_wp2_with (first | ((with_reducible refine gate_callee (f := 46) rfl ?_); refine goesL_ (some 118) rfl rfl Try.func46 (by kernel_rfl) rfl #[.string a0] rfl (by (try simp only [List.map_toArray, List.map_cons, List.map_nil]); first | done | rfl | (simp only [List.length_drop, List.length_take]; rfl)) ?_; (with_reducible refine (varint_Read_uint.calls kj21 a0 t171 t172 t173 _ A26.out).mono ?_); rintro e w' ⟨rfl, ⟨nd, rfl⟩⟩; refine ⟨_, rfl, ?_⟩) | ((with_reducible refine gate_callee (f := 42) rfl ?_); refine goesL_ (some 124) rfl rfl Try.func42 (by kernel_rfl) rfl #[.string a0] rfl (by (try simp only [List.map_toArray, List.map_cons, List.map_nil]); first | done | rfl | (simp only [List.length_drop, List.length_take]; rfl)) ?_; (with_reducible refine (gantryref01_Read.calls kj21 a0 t174 t175 t176 _ A27.out).mono ?_); rintro e w' ⟨rfl, ⟨nd, rfl⟩⟩; refine ⟨_, rfl, ?_⟩))
                            go_ret
                            exact ⟨by first | rfl | (simp; done) | (simp [*]; done), by repeat (first | exact Drawn0.refl _ | apply Drawn0.step)⟩

/-! ### gantryref01_Unzigzag: function 27 -/
def gantryref01_Unzigzag.f (a0 : Int) : Option (Int) := if (Int.tmod a0 2) = 0 then (some (wrap64 (IntKind.u64.wrap (Int.tdiv a0 2)))) else (some (wrap64 ((wrap64 (-(wrap64 (IntKind.u64.wrap (Int.tdiv a0 2))))) - 1)))
set_option maxHeartbeats 8000000 in
set_option maxRecDepth 100000 in
theorem gantryref01_Unzigzag.calls (a0 : Int) (r : Int) (w : World) (h : gantryref01_Unzigzag.f a0 = some r) :
    Calls Try.prog 27 #[.int .u64 a0] w fun e w' => e = .returned (.int .i64 r) ∧ Drawn0 w w' := by
  have H : (if (Int.tmod a0 2) = 0 then (some (wrap64 (IntKind.u64.wrap (Int.tdiv a0 2)))) else (some (wrap64 ((wrap64 (-(wrap64 (IntKind.u64.wrap (Int.tdiv a0 2))))) - 1)))) = some r := h
  clear h
  by_cases c2 : (Int.tmod a0 2) = 0
  · rw [if_pos c2] at H
    have c2b0 : ((Int.tmod a0 2) == 0) = true := beq_iff_eq.mpr c2
    have c2b1 : ((Int.tmod a0 2) != 0) = false := bne_eq_false_iff_eq.mpr c2
    clear c2
    obtain rfl := Option.some.inj H
    go_enter Try.func27, Try.ntmps27
    go_wp2
    go_ret
    exact ⟨by first | rfl | (simp; done) | (simp [*]; done), by repeat (first | exact Drawn0.refl _ | apply Drawn0.step)⟩
  · rw [if_neg c2] at H
    have c2b0 : ((Int.tmod a0 2) == 0) = false := beq_eq_false_iff_ne.mpr c2
    have c2b1 : ((Int.tmod a0 2) != 0) = true := bne_iff_ne.mpr c2
    obtain rfl := Option.some.inj H
    go_enter Try.func27, Try.ntmps27
    go_wp2
    go_ret
    exact ⟨by first | rfl | (simp; done) | (simp [*]; done), by repeat (first | exact Drawn0.refl _ | apply Drawn0.step)⟩

/-! ### gantryref01_ReadSigned: function 47 -/
def gantryref01_ReadSigned.f (k : Nat) (a0 : ByteArray) (a1 : Int) (a2 : Int) : Option (Int × Int × Int) := (gantryref01_Read.f k a0).bind fun bt177 => (if bt177.2.2 = 0 then ((gantryref01_Unzigzag.f bt177.1).bind fun t180 => (if t180 < a1 then (some (0, 0, 1)) else (if t180 > a2 then (some (0, 0, 1)) else (some (t180, bt177.2.1, 0))))) else (some (0, 0, bt177.2.2)))
theorem gantryref01_ReadSigned.mono : ∀ a0 a1 a2 k, LeO (gantryref01_ReadSigned.f k a0 a1 a2) (gantryref01_ReadSigned.f (k + 1) a0 a1 a2) := by
  intro a0 a1 a2 k
  unfold gantryref01_ReadSigned.f
  repeat' first
      | (with_reducible exact gantryref01_Read.mono _ _)
      | (with_reducible exact LeO.refl _)
      | (with_reducible exact LeO.none _)
      | (with_reducible refine LeO.ite ?_ ?_)
      | (with_reducible refine LeO.bind ?_ (fun _ => ?_))
      | exact gantryref01_Read.mono _ _
      | exact LeO.none _
      | refine LeO.ite ?_ ?_
      | refine LeO.bind ?_ (fun _ => ?_)
set_option maxHeartbeats 8000000 in
set_option maxRecDepth 100000 in
theorem gantryref01_ReadSigned.calls (k : Nat) (a0 : ByteArray) (a1 : Int) (a2 : Int) (r1 : Int) (r2 : Int) (r3 : Int) (w : World) (h : gantryref01_ReadSigned.f k a0 a1 a2 = some (r1, r2, r3)) :
    Calls Try.prog 47 #[.string a0, .int .i64 a1, .int .i64 a2] w fun e w' => e = .returned (.tuple #[.int .i64 r1, .int .i64 r2, .int .i64 r3]) ∧ Drawn0 w w' := by
  have H : ((gantryref01_Read.f k a0).bind fun bt177 => (if bt177.2.2 = 0 then ((gantryref01_Unzigzag.f bt177.1).bind fun t180 => (if t180 < a1 then (some (0, 0, 1)) else (if t180 > a2 then (some (0, 0, 1)) else (some (t180, bt177.2.1, 0))))) else (some (0, 0, bt177.2.2)))) = some (r1, r2, r3) := h
  clear h
  replace H := Option.bind_eq_some_iff.mp H
  obtain ⟨⟨t177, t178, t179⟩, A40, H⟩ := H
  replace H : (if t179 = 0 then ((gantryref01_Unzigzag.f t177).bind fun t180 => (if t180 < a1 then (some (0, 0, 1)) else (if t180 > a2 then (some (0, 0, 1)) else (some (t180, t178, 0))))) else (some (0, 0, t179))) = some (r1, r2, r3) := H
  have A4 := Aside0.mk A40
  clear A40
  by_cases c5 : t179 = 0
  · rw [if_pos c5] at H
    have c5b0 : (t179 == 0) = true := beq_iff_eq.mpr c5
    have c5b1 : (t179 != 0) = false := bne_eq_false_iff_eq.mpr c5
    clear c5
    replace H := Option.bind_eq_some_iff.mp H
    obtain ⟨t180, A60, H⟩ := H
    replace H : (if t180 < a1 then (some (0, 0, 1)) else (if t180 > a2 then (some (0, 0, 1)) else (some (t180, t178, 0)))) = some (r1, r2, r3) := H
    have A6 := Aside0.mk A60
    clear A60
    by_cases c7 : t180 < a1
    · rw [if_pos c7] at H
      have c7b0 : decide (t180 < a1) = true := decide_eq_true c7
      clear c7
      simp only [Option.some.injEq, Prod.mk.injEq] at H
      obtain ⟨rfl, rfl, rfl⟩ := H
      go_enter Try.func47, Try.ntmps47
      go_wp2_with (first | ((with_reducible refine gate_callee (f := 42) rfl ?_); refine goesL_ (some 15) rfl rfl Try.func42 (by kernel_rfl) rfl #[.string a0] rfl (by (try simp only [List.map_toArray, List.map_cons, List.map_nil]); first | done | rfl | (simp only [List.length_drop, List.length_take]; rfl)) ?_; (with_reducible refine (gantryref01_Read.calls k a0 t177 t178 t179 _ A4.out).mono ?_); rintro e w' ⟨rfl, ⟨nd, rfl⟩⟩; refine ⟨_, rfl, ?_⟩) | ((with_reducible refine gate_callee (f := 27) rfl ?_); refine goesL_ (some 23) rfl rfl Try.func27 (by kernel_rfl) rfl #[.int .u64 t177] rfl (by (try simp only [List.map_toArray, List.map_cons, List.map_nil]); first | done | rfl | (simp only [List.length_drop, List.length_take]; rfl)) ?_; (with_reducible refine (gantryref01_Unzigzag.calls t177 t180 _ A6.out).mono ?_); rintro e w' ⟨rfl, ⟨nd, rfl⟩⟩; refine ⟨_, rfl, ?_⟩))
      go_ret3
      exact ⟨by first | rfl | (simp; done) | (simp [*]; done), by repeat (first | exact Drawn0.refl _ | apply Drawn0.step)⟩
    · rw [if_neg c7] at H
      have c7b0 : decide (t180 < a1) = false := decide_eq_false c7
      clear c7
      by_cases c8 : t180 > a2
      · rw [if_pos c8] at H
        have c8b0 : decide (a2 < t180) = true := decide_eq_true c8
        clear c8
        simp only [Option.some.injEq, Prod.mk.injEq] at H
        obtain ⟨rfl, rfl, rfl⟩ := H
        go_enter Try.func47, Try.ntmps47
        go_wp2_with (first | ((with_reducible refine gate_callee (f := 42) rfl ?_); refine goesL_ (some 15) rfl rfl Try.func42 (by kernel_rfl) rfl #[.string a0] rfl (by (try simp only [List.map_toArray, List.map_cons, List.map_nil]); first | done | rfl | (simp only [List.length_drop, List.length_take]; rfl)) ?_; (with_reducible refine (gantryref01_Read.calls k a0 t177 t178 t179 _ A4.out).mono ?_); rintro e w' ⟨rfl, ⟨nd, rfl⟩⟩; refine ⟨_, rfl, ?_⟩) | ((with_reducible refine gate_callee (f := 27) rfl ?_); refine goesL_ (some 23) rfl rfl Try.func27 (by kernel_rfl) rfl #[.int .u64 t177] rfl (by (try simp only [List.map_toArray, List.map_cons, List.map_nil]); first | done | rfl | (simp only [List.length_drop, List.length_take]; rfl)) ?_; (with_reducible refine (gantryref01_Unzigzag.calls t177 t180 _ A6.out).mono ?_); rintro e w' ⟨rfl, ⟨nd, rfl⟩⟩; refine ⟨_, rfl, ?_⟩))
        go_ret3
        exact ⟨by first | rfl | (simp; done) | (simp [*]; done), by repeat (first | exact Drawn0.refl _ | apply Drawn0.step)⟩
      · rw [if_neg c8] at H
        have c8b0 : decide (a2 < t180) = false := decide_eq_false c8
        clear c8
        simp only [Option.some.injEq, Prod.mk.injEq] at H
        obtain ⟨rfl, rfl, rfl⟩ := H
        go_enter Try.func47, Try.ntmps47
        go_wp2_with (first | ((with_reducible refine gate_callee (f := 42) rfl ?_); refine goesL_ (some 15) rfl rfl Try.func42 (by kernel_rfl) rfl #[.string a0] rfl (by (try simp only [List.map_toArray, List.map_cons, List.map_nil]); first | done | rfl | (simp only [List.length_drop, List.length_take]; rfl)) ?_; (with_reducible refine (gantryref01_Read.calls k a0 t177 t178 t179 _ A4.out).mono ?_); rintro e w' ⟨rfl, ⟨nd, rfl⟩⟩; refine ⟨_, rfl, ?_⟩) | ((with_reducible refine gate_callee (f := 27) rfl ?_); refine goesL_ (some 23) rfl rfl Try.func27 (by kernel_rfl) rfl #[.int .u64 t177] rfl (by (try simp only [List.map_toArray, List.map_cons, List.map_nil]); first | done | rfl | (simp only [List.length_drop, List.length_take]; rfl)) ?_; (with_reducible refine (gantryref01_Unzigzag.calls t177 t180 _ A6.out).mono ?_); rintro e w' ⟨rfl, ⟨nd, rfl⟩⟩; refine ⟨_, rfl, ?_⟩))
        go_ret3
        exact ⟨by first | rfl | (simp; done) | (simp [*]; done), by repeat (first | exact Drawn0.refl _ | apply Drawn0.step)⟩
  · rw [if_neg c5] at H
    have c5b0 : (t179 == 0) = false := beq_eq_false_iff_ne.mpr c5
    have c5b1 : (t179 != 0) = true := bne_iff_ne.mpr c5
    simp only [Option.some.injEq, Prod.mk.injEq] at H
    obtain ⟨rfl, rfl, rfl⟩ := H
    go_enter Try.func47, Try.ntmps47
    go_wp2_with (first | ((with_reducible refine gate_callee (f := 42) rfl ?_); refine goesL_ (some 15) rfl rfl Try.func42 (by kernel_rfl) rfl #[.string a0] rfl (by (try simp only [List.map_toArray, List.map_cons, List.map_nil]); first | done | rfl | (simp only [List.length_drop, List.length_take]; rfl)) ?_; (with_reducible refine (gantryref01_Read.calls k a0 t177 t178 t179 _ A4.out).mono ?_); rintro e w' ⟨rfl, ⟨nd, rfl⟩⟩; refine ⟨_, rfl, ?_⟩))
    go_ret3
    exact ⟨by first | rfl | (simp; done) | (simp [*]; done), by repeat (first | exact Drawn0.refl _ | apply Drawn0.step)⟩

/-! ### gantrylaw01_Small: function 48 -/
def gantrylaw01_Small.f (k : Nat) (a0 : ByteArray) : Option (Int × Int × Int) := (varint_take.f k a0).bind fun bt181 => (if bt181.2.2 = 0 then ((varint_Unzigzag.f bt181.1).bind fun t184 => (if (wrap64 (IntKind.i8.wrap (t184))) = t184 then (some (IntKind.i8.wrap (t184), bt181.2.1, 0)) else (some (0, 0, 1)))) else (some (0, 0, bt181.2.2)))
theorem gantrylaw01_Small.mono : ∀ a0 k, LeO (gantrylaw01_Small.f k a0) (gantrylaw01_Small.f (k + 1) a0) := by
  intro a0 k
  unfold gantrylaw01_Small.f
  repeat' first
      | (with_reducible exact varint_take.mono _ _)
      | (with_reducible exact LeO.refl _)
      | (with_reducible exact LeO.none _)
      | (with_reducible refine LeO.ite ?_ ?_)
      | (with_reducible refine LeO.bind ?_ (fun _ => ?_))
      | exact varint_take.mono _ _
      | exact LeO.none _
      | refine LeO.ite ?_ ?_
      | refine LeO.bind ?_ (fun _ => ?_)
set_option maxHeartbeats 8000000 in
set_option maxRecDepth 100000 in
theorem gantrylaw01_Small.calls (k : Nat) (a0 : ByteArray) (r1 : Int) (r2 : Int) (r3 : Int) (w : World) (h : gantrylaw01_Small.f k a0 = some (r1, r2, r3)) :
    Calls Try.prog 48 #[.string a0] w fun e w' => e = .returned (.tuple #[.int .i8 r1, .int .i64 r2, .int .i64 r3]) ∧ Drawn0 w w' := by
  have H : ((varint_take.f k a0).bind fun bt181 => (if bt181.2.2 = 0 then ((varint_Unzigzag.f bt181.1).bind fun t184 => (if (wrap64 (IntKind.i8.wrap (t184))) = t184 then (some (IntKind.i8.wrap (t184), bt181.2.1, 0)) else (some (0, 0, 1)))) else (some (0, 0, bt181.2.2)))) = some (r1, r2, r3) := h
  clear h
  replace H := Option.bind_eq_some_iff.mp H
  obtain ⟨⟨t181, t182, t183⟩, A20, H⟩ := H
  replace H : (if t183 = 0 then ((varint_Unzigzag.f t181).bind fun t184 => (if (wrap64 (IntKind.i8.wrap (t184))) = t184 then (some (IntKind.i8.wrap (t184), t182, 0)) else (some (0, 0, 1)))) else (some (0, 0, t183))) = some (r1, r2, r3) := H
  have A2 := Aside0.mk A20
  clear A20
  by_cases c3 : t183 = 0
  · rw [if_pos c3] at H
    have c3b0 : (t183 == 0) = true := beq_iff_eq.mpr c3
    have c3b1 : (t183 != 0) = false := bne_eq_false_iff_eq.mpr c3
    clear c3
    replace H := Option.bind_eq_some_iff.mp H
    obtain ⟨t184, A40, H⟩ := H
    replace H : (if (wrap64 (IntKind.i8.wrap (t184))) = t184 then (some (IntKind.i8.wrap (t184), t182, 0)) else (some (0, 0, 1))) = some (r1, r2, r3) := H
    have A4 := Aside0.mk A40
    clear A40
    by_cases c5 : (wrap64 (IntKind.i8.wrap (t184))) = t184
    · rw [if_pos c5] at H
      have c5b0 : ((wrap64 (IntKind.i8.wrap (t184))) == t184) = true := beq_iff_eq.mpr c5
      have c5b1 : ((wrap64 (IntKind.i8.wrap (t184))) != t184) = false := bne_eq_false_iff_eq.mpr c5
      clear c5
      simp only [Option.some.injEq, Prod.mk.injEq] at H
      obtain ⟨rfl, rfl, rfl⟩ := H
      go_enter Try.func48, Try.ntmps48
      go_wp2_with (first | ((with_reducible refine gate_callee (f := 52) rfl ?_); refine goesL_ (some 11) rfl rfl Try.func52 (by kernel_rfl) rfl #[.string a0] rfl (by (try simp only [List.map_toArray, List.map_cons, List.map_nil]); first | done | rfl | (simp only [List.length_drop, List.length_take]; rfl)) ?_; (with_reducible refine (varint_take.calls k a0 t181 t182 t183 _ A2.out).mono ?_); rintro e w' ⟨rfl, ⟨nd, rfl⟩⟩; refine ⟨_, rfl, ?_⟩) | ((with_reducible refine gate_callee (f := 17) rfl ?_); refine goesL_ (some 19) rfl rfl Try.func17 (by kernel_rfl) rfl #[.int .u64 t181] rfl (by (try simp only [List.map_toArray, List.map_cons, List.map_nil]); first | done | rfl | (simp only [List.length_drop, List.length_take]; rfl)) ?_; (with_reducible refine (varint_Unzigzag.calls t181 t184 _ A4.out).mono ?_); rintro e w' ⟨rfl, ⟨nd, rfl⟩⟩; refine ⟨_, rfl, ?_⟩))
      go_ret3
      exact ⟨by first | rfl | (simp; done) | (simp [*]; done), by repeat (first | exact Drawn0.refl _ | apply Drawn0.step)⟩
    · rw [if_neg c5] at H
      have c5b0 : ((wrap64 (IntKind.i8.wrap (t184))) == t184) = false := beq_eq_false_iff_ne.mpr c5
      have c5b1 : ((wrap64 (IntKind.i8.wrap (t184))) != t184) = true := bne_iff_ne.mpr c5
      simp only [Option.some.injEq, Prod.mk.injEq] at H
      obtain ⟨rfl, rfl, rfl⟩ := H
      go_enter Try.func48, Try.ntmps48
      go_wp2_with (first | ((with_reducible refine gate_callee (f := 52) rfl ?_); refine goesL_ (some 11) rfl rfl Try.func52 (by kernel_rfl) rfl #[.string a0] rfl (by (try simp only [List.map_toArray, List.map_cons, List.map_nil]); first | done | rfl | (simp only [List.length_drop, List.length_take]; rfl)) ?_; (with_reducible refine (varint_take.calls k a0 t181 t182 t183 _ A2.out).mono ?_); rintro e w' ⟨rfl, ⟨nd, rfl⟩⟩; refine ⟨_, rfl, ?_⟩) | ((with_reducible refine gate_callee (f := 17) rfl ?_); refine goesL_ (some 19) rfl rfl Try.func17 (by kernel_rfl) rfl #[.int .u64 t181] rfl (by (try simp only [List.map_toArray, List.map_cons, List.map_nil]); first | done | rfl | (simp only [List.length_drop, List.length_take]; rfl)) ?_; (with_reducible refine (varint_Unzigzag.calls t181 t184 _ A4.out).mono ?_); rintro e w' ⟨rfl, ⟨nd, rfl⟩⟩; refine ⟨_, rfl, ?_⟩))
      go_ret3
      exact ⟨by first | rfl | (simp; done) | (simp [*]; done), by repeat (first | exact Drawn0.refl _ | apply Drawn0.step)⟩
  · rw [if_neg c3] at H
    have c3b0 : (t183 == 0) = false := beq_eq_false_iff_ne.mpr c3
    have c3b1 : (t183 != 0) = true := bne_iff_ne.mpr c3
    simp only [Option.some.injEq, Prod.mk.injEq] at H
    obtain ⟨rfl, rfl, rfl⟩ := H
    go_enter Try.func48, Try.ntmps48
    go_wp2_with (first | ((with_reducible refine gate_callee (f := 52) rfl ?_); refine goesL_ (some 11) rfl rfl Try.func52 (by kernel_rfl) rfl #[.string a0] rfl (by (try simp only [List.map_toArray, List.map_cons, List.map_nil]); first | done | rfl | (simp only [List.length_drop, List.length_take]; rfl)) ?_; (with_reducible refine (varint_take.calls k a0 t181 t182 t183 _ A2.out).mono ?_); rintro e w' ⟨rfl, ⟨nd, rfl⟩⟩; refine ⟨_, rfl, ?_⟩))
    go_ret3
    exact ⟨by first | rfl | (simp; done) | (simp [*]; done), by repeat (first | exact Drawn0.refl _ | apply Drawn0.step)⟩

/-! ### varint_ReadSigned_int16: function 49 -/
def varint_ReadSigned_int16.f (k : Nat) (a0 : ByteArray) : Option (Int × Int × Int) := (varint_take.f k a0).bind fun bt185 => (if bt185.2.2 = 0 then ((varint_Unzigzag.f bt185.1).bind fun t188 => (if (wrap64 (IntKind.i16.wrap (t188))) = t188 then (some (IntKind.i16.wrap (t188), bt185.2.1, 0)) else (some (0, 0, 1)))) else (some (0, 0, bt185.2.2)))
theorem varint_ReadSigned_int16.mono : ∀ a0 k, LeO (varint_ReadSigned_int16.f k a0) (varint_ReadSigned_int16.f (k + 1) a0) := by
  intro a0 k
  unfold varint_ReadSigned_int16.f
  repeat' first
      | (with_reducible exact varint_take.mono _ _)
      | (with_reducible exact LeO.refl _)
      | (with_reducible exact LeO.none _)
      | (with_reducible refine LeO.ite ?_ ?_)
      | (with_reducible refine LeO.bind ?_ (fun _ => ?_))
      | exact varint_take.mono _ _
      | exact LeO.none _
      | refine LeO.ite ?_ ?_
      | refine LeO.bind ?_ (fun _ => ?_)
set_option maxHeartbeats 8000000 in
set_option maxRecDepth 100000 in
theorem varint_ReadSigned_int16.calls (k : Nat) (a0 : ByteArray) (r1 : Int) (r2 : Int) (r3 : Int) (w : World) (h : varint_ReadSigned_int16.f k a0 = some (r1, r2, r3)) :
    Calls Try.prog 49 #[.string a0] w fun e w' => e = .returned (.tuple #[.int .i16 r1, .int .i64 r2, .int .i64 r3]) ∧ Drawn0 w w' := by
  have H : ((varint_take.f k a0).bind fun bt185 => (if bt185.2.2 = 0 then ((varint_Unzigzag.f bt185.1).bind fun t188 => (if (wrap64 (IntKind.i16.wrap (t188))) = t188 then (some (IntKind.i16.wrap (t188), bt185.2.1, 0)) else (some (0, 0, 1)))) else (some (0, 0, bt185.2.2)))) = some (r1, r2, r3) := h
  clear h
  replace H := Option.bind_eq_some_iff.mp H
  obtain ⟨⟨t185, t186, t187⟩, A20, H⟩ := H
  replace H : (if t187 = 0 then ((varint_Unzigzag.f t185).bind fun t188 => (if (wrap64 (IntKind.i16.wrap (t188))) = t188 then (some (IntKind.i16.wrap (t188), t186, 0)) else (some (0, 0, 1)))) else (some (0, 0, t187))) = some (r1, r2, r3) := H
  have A2 := Aside0.mk A20
  clear A20
  by_cases c3 : t187 = 0
  · rw [if_pos c3] at H
    have c3b0 : (t187 == 0) = true := beq_iff_eq.mpr c3
    have c3b1 : (t187 != 0) = false := bne_eq_false_iff_eq.mpr c3
    clear c3
    replace H := Option.bind_eq_some_iff.mp H
    obtain ⟨t188, A40, H⟩ := H
    replace H : (if (wrap64 (IntKind.i16.wrap (t188))) = t188 then (some (IntKind.i16.wrap (t188), t186, 0)) else (some (0, 0, 1))) = some (r1, r2, r3) := H
    have A4 := Aside0.mk A40
    clear A40
    by_cases c5 : (wrap64 (IntKind.i16.wrap (t188))) = t188
    · rw [if_pos c5] at H
      have c5b0 : ((wrap64 (IntKind.i16.wrap (t188))) == t188) = true := beq_iff_eq.mpr c5
      have c5b1 : ((wrap64 (IntKind.i16.wrap (t188))) != t188) = false := bne_eq_false_iff_eq.mpr c5
      clear c5
      simp only [Option.some.injEq, Prod.mk.injEq] at H
      obtain ⟨rfl, rfl, rfl⟩ := H
      go_enter Try.func49, Try.ntmps49
      go_wp2_with (first | ((with_reducible refine gate_callee (f := 52) rfl ?_); refine goesL_ (some 11) rfl rfl Try.func52 (by kernel_rfl) rfl #[.string a0] rfl (by (try simp only [List.map_toArray, List.map_cons, List.map_nil]); first | done | rfl | (simp only [List.length_drop, List.length_take]; rfl)) ?_; (with_reducible refine (varint_take.calls k a0 t185 t186 t187 _ A2.out).mono ?_); rintro e w' ⟨rfl, ⟨nd, rfl⟩⟩; refine ⟨_, rfl, ?_⟩) | ((with_reducible refine gate_callee (f := 17) rfl ?_); refine goesL_ (some 19) rfl rfl Try.func17 (by kernel_rfl) rfl #[.int .u64 t185] rfl (by (try simp only [List.map_toArray, List.map_cons, List.map_nil]); first | done | rfl | (simp only [List.length_drop, List.length_take]; rfl)) ?_; (with_reducible refine (varint_Unzigzag.calls t185 t188 _ A4.out).mono ?_); rintro e w' ⟨rfl, ⟨nd, rfl⟩⟩; refine ⟨_, rfl, ?_⟩))
      go_ret3
      exact ⟨by first | rfl | (simp; done) | (simp [*]; done), by repeat (first | exact Drawn0.refl _ | apply Drawn0.step)⟩
    · rw [if_neg c5] at H
      have c5b0 : ((wrap64 (IntKind.i16.wrap (t188))) == t188) = false := beq_eq_false_iff_ne.mpr c5
      have c5b1 : ((wrap64 (IntKind.i16.wrap (t188))) != t188) = true := bne_iff_ne.mpr c5
      simp only [Option.some.injEq, Prod.mk.injEq] at H
      obtain ⟨rfl, rfl, rfl⟩ := H
      go_enter Try.func49, Try.ntmps49
      go_wp2_with (first | ((with_reducible refine gate_callee (f := 52) rfl ?_); refine goesL_ (some 11) rfl rfl Try.func52 (by kernel_rfl) rfl #[.string a0] rfl (by (try simp only [List.map_toArray, List.map_cons, List.map_nil]); first | done | rfl | (simp only [List.length_drop, List.length_take]; rfl)) ?_; (with_reducible refine (varint_take.calls k a0 t185 t186 t187 _ A2.out).mono ?_); rintro e w' ⟨rfl, ⟨nd, rfl⟩⟩; refine ⟨_, rfl, ?_⟩) | ((with_reducible refine gate_callee (f := 17) rfl ?_); refine goesL_ (some 19) rfl rfl Try.func17 (by kernel_rfl) rfl #[.int .u64 t185] rfl (by (try simp only [List.map_toArray, List.map_cons, List.map_nil]); first | done | rfl | (simp only [List.length_drop, List.length_take]; rfl)) ?_; (with_reducible refine (varint_Unzigzag.calls t185 t188 _ A4.out).mono ?_); rintro e w' ⟨rfl, ⟨nd, rfl⟩⟩; refine ⟨_, rfl, ?_⟩))
      go_ret3
      exact ⟨by first | rfl | (simp; done) | (simp [*]; done), by repeat (first | exact Drawn0.refl _ | apply Drawn0.step)⟩
  · rw [if_neg c3] at H
    have c3b0 : (t187 == 0) = false := beq_eq_false_iff_ne.mpr c3
    have c3b1 : (t187 != 0) = true := bne_iff_ne.mpr c3
    simp only [Option.some.injEq, Prod.mk.injEq] at H
    obtain ⟨rfl, rfl, rfl⟩ := H
    go_enter Try.func49, Try.ntmps49
    go_wp2_with (first | ((with_reducible refine gate_callee (f := 52) rfl ?_); refine goesL_ (some 11) rfl rfl Try.func52 (by kernel_rfl) rfl #[.string a0] rfl (by (try simp only [List.map_toArray, List.map_cons, List.map_nil]); first | done | rfl | (simp only [List.length_drop, List.length_take]; rfl)) ?_; (with_reducible refine (varint_take.calls k a0 t185 t186 t187 _ A2.out).mono ?_); rintro e w' ⟨rfl, ⟨nd, rfl⟩⟩; refine ⟨_, rfl, ?_⟩))
    go_ret3
    exact ⟨by first | rfl | (simp; done) | (simp [*]; done), by repeat (first | exact Drawn0.refl _ | apply Drawn0.step)⟩

end Go.Proofs.Ytipdfajadehkmaa.QVarintReads
