-- Written by a program of this session (the kit's printer, changed; see wip/tools/mkprint.py). Lean checks it.
import Derived.Test.YtipdfajadehkmaaQVarintReadsx0
import Derived.Test.YtipdfajadehkmaaQVarintReadsx1
import Derived.Test.YtipdfajadehkmaaQVarintReadsx3
namespace Go.Proofs.Ytipdfajadehkmaa.QVarintReads
open Go.RowKit Go.Proofs.YtipdfajadehkmaaW.PrintWords Go.Proofs.YtipdfajadehkmaaW.PrintLast Go.Proofs.YtipdfajadehkmaaW.PrintMore
attribute [local go_sem] max2_int min2_int max_two min_two max_three min_three max_four min_four   -- for this text's walks alone
set_option linter.unusedVariables false
set_option linter.unusedSimpArgs false

/-! ### varint_ReadSigned_int32: function 50 -/
def varint_ReadSigned_int32.f (k : Nat) (a0 : ByteArray) : Option (Int × Int × Int) := (varint_take.f k a0).bind fun bt189 => (if bt189.2.2 = 0 then ((varint_Unzigzag.f bt189.1).bind fun t192 => (if (wrap64 (wrap32 (t192))) = t192 then (some (wrap32 (t192), bt189.2.1, 0)) else (some (0, 0, 1)))) else (some (0, 0, bt189.2.2)))
theorem varint_ReadSigned_int32.mono : ∀ a0 k, LeO (varint_ReadSigned_int32.f k a0) (varint_ReadSigned_int32.f (k + 1) a0) := by
  intro a0 k
  unfold varint_ReadSigned_int32.f
  repeat' first
      | (with_reducible exact varint_take.mono _ _)
      | (with_reducible exact LeO.refl _)
      | (with_reducible exact LeO.none _)
      | (with_reducible refine LeO.ite ?_ ?_)
      | (with_reducible refine LeO.bind ?_ (fun _ => ?_))
      | exact varint_take.mono _ _
      | exact LeO.none _
      | refine LeO.ite ?_ ?_
      | refine LeO.bind ?_ (fun _ => ?_)
set_option maxHeartbeats 8000000 in
set_option maxRecDepth 100000 in
theorem varint_ReadSigned_int32.calls (k : Nat) (a0 : ByteArray) (r1 : Int) (r2 : Int) (r3 : Int) (w : World) (h : varint_ReadSigned_int32.f k a0 = some (r1, r2, r3)) :
    Calls Try.prog 50 #[.string a0] w fun e w' => e = .returned (.tuple #[.int .i32 r1, .int .i64 r2, .int .i64 r3]) ∧ Drawn0 w w' := by
  have H : ((varint_take.f k a0).bind fun bt189 => (if bt189.2.2 = 0 then ((varint_Unzigzag.f bt189.1).bind fun t192 => (if (wrap64 (wrap32 (t192))) = t192 then (some (wrap32 (t192), bt189.2.1, 0)) else (some (0, 0, 1)))) else (some (0, 0, bt189.2.2)))) = some (r1, r2, r3) := h
  clear h
  replace H := Option.bind_eq_some_iff.mp H
  obtain ⟨⟨t189, t190, t191⟩, A20, H⟩ := H
  replace H : (if t191 = 0 then ((varint_Unzigzag.f t189).bind fun t192 => (if (wrap64 (wrap32 (t192))) = t192 then (some (wrap32 (t192), t190, 0)) else (some (0, 0, 1)))) else (some (0, 0, t191))) = some (r1, r2, r3) := H
  have A2 := Aside0.mk A20
  clear A20
  by_cases c3 : t191 = 0
  · rw [if_pos c3] at H
    have c3b0 : (t191 == 0) = true := beq_iff_eq.mpr c3
    have c3b1 : (t191 != 0) = false := bne_eq_false_iff_eq.mpr c3
    clear c3
    replace H := Option.bind_eq_some_iff.mp H
    obtain ⟨t192, A40, H⟩ := H
    replace H : (if (wrap64 (wrap32 (t192))) = t192 then (some (wrap32 (t192), t190, 0)) else (some (0, 0, 1))) = some (r1, r2, r3) := H
    have A4 := Aside0.mk A40
    clear A40
    by_cases c5 : (wrap64 (wrap32 (t192))) = t192
    · rw [if_pos c5] at H
      have c5b0 : ((wrap64 (wrap32 (t192))) == t192) = true := beq_iff_eq.mpr c5
      have c5b1 : ((wrap64 (wrap32 (t192))) != t192) = false := bne_eq_false_iff_eq.mpr c5
      clear c5
      simp only [Option.some.injEq, Prod.mk.injEq] at H
      obtain ⟨rfl, rfl, rfl⟩ := H
      go_enter Try.func50, Try.ntmps50
      go_wp2_with (first | ((with_reducible refine gate_callee (f := 52) rfl ?_); refine goesL_ (some 11) rfl rfl Try.func52 (by kernel_rfl) rfl #[.string a0] rfl (by (try simp only [List.map_toArray, List.map_cons, List.map_nil]); first | done | rfl | (simp only [List.length_drop, List.length_take]; rfl)) ?_; (with_reducible refine (varint_take.calls k a0 t189 t190 t191 _ A2.out).mono ?_); rintro e w' ⟨rfl, ⟨nd, rfl⟩⟩; refine ⟨_, rfl, ?_⟩) | ((with_reducible refine gate_callee (f := 17) rfl ?_); refine goesL_ (some 19) rfl rfl Try.func17 (by kernel_rfl) rfl #[.int .u64 t189] rfl (by (try simp only [List.map_toArray, List.map_cons, List.map_nil]); first | done | rfl | (simp only [List.length_drop, List.length_take]; rfl)) ?_; (with_reducible refine (varint_Unzigzag.calls t189 t192 _ A4.out).mono ?_); rintro e w' ⟨rfl, ⟨nd, rfl⟩⟩; refine ⟨_, rfl, ?_⟩))
      go_ret3
      exact ⟨by first | rfl | (simp; done) | (simp [*]; done), by repeat (first | exact Drawn0.refl _ | apply Drawn0.step)⟩
    · rw [if_neg c5] at H
      have c5b0 : ((wrap64 (wrap32 (t192))) == t192) = false := beq_eq_false_iff_ne.mpr c5
      have c5b1 : ((wrap64 (wrap32 (t192))) != t192) = true := bne_iff_ne.mpr c5
      simp only [Option.some.injEq, Prod.mk.injEq] at H
      obtain ⟨rfl, rfl, rfl⟩ := H
      go_enter Try.func50, Try.ntmps50
      go_wp2_with (first | ((with_reducible refine gate_callee (f := 52) rfl ?_); refine goesL_ (some 11) rfl rfl Try.func52 (by kernel_rfl) rfl #[.string a0] rfl (by (try simp only [List.map_toArray, List.map_cons, List.map_nil]); first | done | rfl | (simp only [List.length_drop, List.length_take]; rfl)) ?_; (with_reducible refine (varint_take.calls k a0 t189 t190 t191 _ A2.out).mono ?_); rintro e w' ⟨rfl, ⟨nd, rfl⟩⟩; refine ⟨_, rfl, ?_⟩) | ((with_reducible refine gate_callee (f := 17) rfl ?_); refine goesL_ (some 19) rfl rfl Try.func17 (by kernel_rfl) rfl #[.int .u64 t189] rfl (by (try simp only [List.map_toArray, List.map_cons, List.map_nil]); first | done | rfl | (simp only [List.length_drop, List.length_take]; rfl)) ?_; (with_reducible refine (varint_Unzigzag.calls t189 t192 _ A4.out).mono ?_); rintro e w' ⟨rfl, ⟨nd, rfl⟩⟩; refine ⟨_, rfl, ?_⟩))
      go_ret3
      exact ⟨by first | rfl | (simp; done) | (simp [*]; done), by repeat (first | exact Drawn0.refl _ | apply Drawn0.step)⟩
  · rw [if_neg c3] at H
    have c3b0 : (t191 == 0) = false := beq_eq_false_iff_ne.mpr c3
    have c3b1 : (t191 != 0) = true := bne_iff_ne.mpr c3
    simp only [Option.some.injEq, Prod.mk.injEq] at H
    obtain ⟨rfl, rfl, rfl⟩ := H
    go_enter Try.func50, Try.ntmps50
    go_wp2_with (first | ((with_reducible refine gate_callee (f := 52) rfl ?_); refine goesL_ (some 11) rfl rfl Try.func52 (by kernel_rfl) rfl #[.string a0] rfl (by (try simp only [List.map_toArray, List.map_cons, List.map_nil]); first | done | rfl | (simp only [List.length_drop, List.length_take]; rfl)) ?_; (with_reducible refine (varint_take.calls k a0 t189 t190 t191 _ A2.out).mono ?_); rintro e w' ⟨rfl, ⟨nd, rfl⟩⟩; refine ⟨_, rfl, ?_⟩))
    go_ret3
    exact ⟨by first | rfl | (simp; done) | (simp [*]; done), by repeat (first | exact Drawn0.refl _ | apply Drawn0.step)⟩

/-! ### varint_ReadSigned_int: function 51 -/
def varint_ReadSigned_int.f (k : Nat) (a0 : ByteArray) : Option (Int × Int × Int) := (varint_take.f k a0).bind fun bt193 => (if bt193.2.2 = 0 then ((varint_Unzigzag.f bt193.1).bind fun t196 => (some (t196, bt193.2.1, 0))) else (some (0, 0, bt193.2.2)))
theorem varint_ReadSigned_int.mono : ∀ a0 k, LeO (varint_ReadSigned_int.f k a0) (varint_ReadSigned_int.f (k + 1) a0) := by
  intro a0 k
  unfold varint_ReadSigned_int.f
  repeat' first
      | (with_reducible exact varint_take.mono _ _)
      | (with_reducible exact LeO.refl _)
      | (with_reducible exact LeO.none _)
      | (with_reducible refine LeO.ite ?_ ?_)
      | (with_reducible refine LeO.bind ?_ (fun _ => ?_))
      | exact varint_take.mono _ _
      | exact LeO.none _
      | refine LeO.ite ?_ ?_
      | refine LeO.bind ?_ (fun _ => ?_)
set_option maxHeartbeats 8000000 in
set_option maxRecDepth 100000 in
theorem varint_ReadSigned_int.calls (k : Nat) (a0 : ByteArray) (r1 : Int) (r2 : Int) (r3 : Int) (w : World) (h : varint_ReadSigned_int.f k a0 = some (r1, r2, r3)) :
    Calls Try.prog 51 #[.string a0] w fun e w' => e = .returned (.tuple #[.int .i64 r1, .int .i64 r2, .int .i64 r3]) ∧ Drawn0 w w' := by
  have H : ((varint_take.f k a0).bind fun bt193 => (if bt193.2.2 = 0 then ((varint_Unzigzag.f bt193.1).bind fun t196 => (some (t196, bt193.2.1, 0))) else (some (0, 0, bt193.2.2)))) = some (r1, r2, r3) := h
  clear h
  replace H := Option.bind_eq_some_iff.mp H
  obtain ⟨⟨t193, t194, t195⟩, A20, H⟩ := H
  replace H : (if t195 = 0 then ((varint_Unzigzag.f t193).bind fun t196 => (some (t196, t194, 0))) else (some (0, 0, t195))) = some (r1, r2, r3) := H
  have A2 := Aside0.mk A20
  clear A20
  by_cases c3 : t195 = 0
  · rw [if_pos c3] at H
    have c3b0 : (t195 == 0) = true := beq_iff_eq.mpr c3
    have c3b1 : (t195 != 0) = false := bne_eq_false_iff_eq.mpr c3
    clear c3
    replace H := Option.bind_eq_some_iff.mp H
    obtain ⟨t196, A40, H⟩ := H
    replace H : (some (t196, t194, 0)) = some (r1, r2, r3) := H
    have A4 := Aside0.mk A40
    clear A40
    simp only [Option.some.injEq, Prod.mk.injEq] at H
    obtain ⟨rfl, rfl, rfl⟩ := H
    go_enter Try.func51, Try.ntmps51
    go_wp2_with (first | ((with_reducible refine gate_callee (f := 52) rfl ?_); refine goesL_ (some 11) rfl rfl Try.func52 (by kernel_rfl) rfl #[.string a0] rfl (by (try simp only [List.map_toArray, List.map_cons, List.map_nil]); first | done | rfl | (simp only [List.length_drop, List.length_take]; rfl)) ?_; (with_reducible refine (varint_take.calls k a0 t193 t194 t195 _ A2.out).mono ?_); rintro e w' ⟨rfl, ⟨nd, rfl⟩⟩; refine ⟨_, rfl, ?_⟩) | ((with_reducible refine gate_callee (f := 17) rfl ?_); refine goesL_ (some 19) rfl rfl Try.func17 (by kernel_rfl) rfl #[.int .u64 t193] rfl (by (try simp only [List.map_toArray, List.map_cons, List.map_nil]); first | done | rfl | (simp only [List.length_drop, List.length_take]; rfl)) ?_; (with_reducible refine (varint_Unzigzag.calls t193 t196 _ A4.out).mono ?_); rintro e w' ⟨rfl, ⟨nd, rfl⟩⟩; refine ⟨_, rfl, ?_⟩))
    go_ret3
    exact ⟨by first | rfl | (simp; done) | (simp [*]; done), by repeat (first | exact Drawn0.refl _ | apply Drawn0.step)⟩
  · rw [if_neg c3] at H
    have c3b0 : (t195 == 0) = false := beq_eq_false_iff_ne.mpr c3
    have c3b1 : (t195 != 0) = true := bne_iff_ne.mpr c3
    simp only [Option.some.injEq, Prod.mk.injEq] at H
    obtain ⟨rfl, rfl, rfl⟩ := H
    go_enter Try.func51, Try.ntmps51
    go_wp2_with (first | ((with_reducible refine gate_callee (f := 52) rfl ?_); refine goesL_ (some 11) rfl rfl Try.func52 (by kernel_rfl) rfl #[.string a0] rfl (by (try simp only [List.map_toArray, List.map_cons, List.map_nil]); first | done | rfl | (simp only [List.length_drop, List.length_take]; rfl)) ?_; (with_reducible refine (varint_take.calls k a0 t193 t194 t195 _ A2.out).mono ?_); rintro e w' ⟨rfl, ⟨nd, rfl⟩⟩; refine ⟨_, rfl, ?_⟩))
    go_ret3
    exact ⟨by first | rfl | (simp; done) | (simp [*]; done), by repeat (first | exact Drawn0.refl _ | apply Drawn0.step)⟩

/-! ### gantrylaw01_signed: function 14 -/
mutual
def gantrylaw01_signed.j0 : Nat → ByteArray → Bool → Option (Bool)
  | 0, _, _ => none
  | k + 1, x0, x37 => if x37 = true then (some false) else ((gantrylaw01_Small.f k x0).bind fun bt203 => ((gantryref01_ReadSigned.f k x0 (-128) 127).bind fun bt206 => (if (wrap64 (bt203.1)) = bt206.1 then (if bt203.2.1 = bt206.2.1 then (gantrylaw01_signed.j1 k x0 (bt203.2.2 != bt206.2.2)) else (gantrylaw01_signed.j1 k x0 true)) else (gantrylaw01_signed.j1 k x0 true))))
def gantrylaw01_signed.j1 : Nat → ByteArray → Bool → Option (Bool)
  | 0, _, _ => none
  | k + 1, x0, x63 => if x63 = true then (some false) else ((varint_ReadSigned_int16.f k x0).bind fun bt209 => ((gantryref01_ReadSigned.f k x0 (-32768) 32767).bind fun bt212 => (if (wrap64 (bt209.1)) = bt212.1 then (if bt209.2.1 = bt212.2.1 then (gantrylaw01_signed.j2 k x0 (bt209.2.2 != bt212.2.2)) else (gantrylaw01_signed.j2 k x0 true)) else (gantrylaw01_signed.j2 k x0 true))))
def gantrylaw01_signed.j2 : Nat → ByteArray → Bool → Option (Bool)
  | 0, _, _ => none
  | k + 1, x0, x89 => if x89 = true then (some false) else ((varint_ReadSigned_int32.f k x0).bind fun bt215 => ((gantryref01_ReadSigned.f k x0 (-2147483648) 2147483647).bind fun bt218 => (if (wrap64 (bt215.1)) = bt218.1 then (if bt215.2.1 = bt218.2.1 then (gantrylaw01_signed.j3 k x0 (bt215.2.2 != bt218.2.2)) else (gantrylaw01_signed.j3 k x0 true)) else (gantrylaw01_signed.j3 k x0 true))))
def gantrylaw01_signed.j3 : Nat → ByteArray → Bool → Option (Bool)
  | 0, _, _ => none
  | k + 1, x0, x115 => if x115 = true then (some false) else ((varint_ReadSigned_int.f k x0).bind fun bt221 => ((gantryref01_ReadSigned.f k x0 (-9223372036854775808) 9223372036854775807).bind fun bt224 => (if bt221.1 = bt224.1 then (if bt221.2.1 = bt224.2.1 then (some (bt221.2.2 == bt224.2.2)) else (some false)) else (some false))))
end
def gantrylaw01_signed.f (k : Nat) (a0 : ByteArray) : Option (Bool) := (varint_ReadSigned_int64.f k a0).bind fun bt197 => ((gantryref01_ReadSigned.f k a0 (-9223372036854775808) 9223372036854775807).bind fun bt200 => (if bt197.1 = bt200.1 then (if bt197.2.1 = bt200.2.1 then (gantrylaw01_signed.j0 k a0 (bt197.2.2 != bt200.2.2)) else (gantrylaw01_signed.j0 k a0 true)) else (gantrylaw01_signed.j0 k a0 true)))
theorem gantrylaw01_signed.mono_l : ∀ k, (∀ y0 y1, LeO (gantrylaw01_signed.j0 k y0 y1) (gantrylaw01_signed.j0 (k + 1) y0 y1)) ∧ (∀ y0 y1, LeO (gantrylaw01_signed.j1 k y0 y1) (gantrylaw01_signed.j1 (k + 1) y0 y1)) ∧ (∀ y0 y1, LeO (gantrylaw01_signed.j2 k y0 y1) (gantrylaw01_signed.j2 (k + 1) y0 y1)) ∧ (∀ y0 y1, LeO (gantrylaw01_signed.j3 k y0 y1) (gantrylaw01_signed.j3 (k + 1) y0 y1))
  | 0 => ⟨fun _ _ r h => by simp [gantrylaw01_signed.j0] at h, fun _ _ r h => by simp [gantrylaw01_signed.j1] at h, fun _ _ r h => by simp [gantrylaw01_signed.j2] at h, fun _ _ r h => by simp [gantrylaw01_signed.j3] at h⟩
  | k + 1 => by
    obtain ⟨ih0, ih1, ih2, ih3⟩ := gantrylaw01_signed.mono_l k
    refine ⟨?_, ?_, ?_, ?_⟩
    · intro y0 y1
      unfold gantrylaw01_signed.j0
      repeat' first
      | (with_reducible exact ih0 _ _)
      | (with_reducible exact ih1 _ _)
      | (with_reducible exact ih2 _ _)
      | (with_reducible exact ih3 _ _)
      | (with_reducible exact gantrylaw01_Small.mono _ _)
      | (with_reducible exact gantryref01_ReadSigned.mono _ _ _ _)
      | (with_reducible exact varint_ReadSigned_int.mono _ _)
      | (with_reducible exact varint_ReadSigned_int16.mono _ _)
      | (with_reducible exact varint_ReadSigned_int32.mono _ _)
      | (with_reducible exact varint_ReadSigned_int64.mono _ _)
      | (with_reducible exact LeO.refl _)
      | (with_reducible exact LeO.none _)
      | (with_reducible refine LeO.ite ?_ ?_)
      | (with_reducible refine LeO.bind ?_ (fun _ => ?_))
      | exact ih0 _ _
      | exact ih1 _ _
      | exact ih2 _ _
      | exact ih3 _ _
      | exact gantrylaw01_Small.mono _ _
      | exact gantryref01_ReadSigned.mono _ _ _ _
      | exact varint_ReadSigned_int.mono _ _
      | exact varint_ReadSigned_int16.mono _ _
      | exact varint_ReadSigned_int32.mono _ _
      | exact varint_ReadSigned_int64.mono _ _
      | exact LeO.none _
      | refine LeO.ite ?_ ?_
      | refine LeO.bind ?_ (fun _ => ?_)
    · intro y0 y1
      unfold gantrylaw01_signed.j1
      repeat' first
      | (with_reducible exact ih0 _ _)
      | (with_reducible exact ih1 _ _)
      | (with_reducible exact ih2 _ _)
      | (with_reducible exact ih3 _ _)
      | (with_reducible exact gantrylaw01_Small.mono _ _)
      | (with_reducible exact gantryref01_ReadSigned.mono _ _ _ _)
      | (with_reducible exact varint_ReadSigned_int.mono _ _)
      | (with_reducible exact varint_ReadSigned_int16.mono _ _)
      | (with_reducible exact varint_ReadSigned_int32.mono _ _)
      | (with_reducible exact varint_ReadSigned_int64.mono _ _)
      | (with_reducible exact LeO.refl _)
      | (with_reducible exact LeO.none _)
      | (with_reducible refine LeO.ite ?_ ?_)
      | (with_reducible refine LeO.bind ?_ (fun _ => ?_))
      | exact ih0 _ _
      | exact ih1 _ _
      | exact ih2 _ _
      | exact ih3 _ _
      | exact gantrylaw01_Small.mono _ _
      | exact gantryref01_ReadSigned.mono _ _ _ _
      | exact varint_ReadSigned_int.mono _ _
      | exact varint_ReadSigned_int16.mono _ _
      | exact varint_ReadSigned_int32.mono _ _
      | exact varint_ReadSigned_int64.mono _ _
      | exact LeO.none _
      | refine LeO.ite ?_ ?_
      | refine LeO.bind ?_ (fun _ => ?_)
    · intro y0 y1
      unfold gantrylaw01_signed.j2
      repeat' first
      | (with_reducible exact ih0 _ _)
      | (with_reducible exact ih1 _ _)
      | (with_reducible exact ih2 _ _)
      | (with_reducible exact ih3 _ _)
      | (with_reducible exact gantrylaw01_Small.mono _ _)
      | (with_reducible exact gantryref01_ReadSigned.mono _ _ _ _)
      | (with_reducible exact varint_ReadSigned_int.mono _ _)
      | (with_reducible exact varint_ReadSigned_int16.mono _ _)
      | (with_reducible exact varint_ReadSigned_int32.mono _ _)
      | (with_reducible exact varint_ReadSigned_int64.mono _ _)
      | (with_reducible exact LeO.refl _)
      | (with_reducible exact LeO.none _)
      | (with_reducible refine LeO.ite ?_ ?_)
      | (with_reducible refine LeO.bind ?_ (fun _ => ?_))
      | exact ih0 _ _
      | exact ih1 _ _
      | exact ih2 _ _
      | exact ih3 _ _
      | exact gantrylaw01_Small.mono _ _
      | exact gantryref01_ReadSigned.mono _ _ _ _
      | exact varint_ReadSigned_int.mono _ _
      | exact varint_ReadSigned_int16.mono _ _
      | exact varint_ReadSigned_int32.mono _ _
      | exact varint_ReadSigned_int64.mono _ _
      | exact LeO.none _
      | refine LeO.ite ?_ ?_
      | refine LeO.bind ?_ (fun _ => ?_)
    · intro y0 y1
      unfold gantrylaw01_signed.j3
      repeat' first
      | (with_reducible exact ih0 _ _)
      | (with_reducible exact ih1 _ _)
      | (with_reducible exact ih2 _ _)
      | (with_reducible exact ih3 _ _)
      | (with_reducible exact gantrylaw01_Small.mono _ _)
      | (with_reducible exact gantryref01_ReadSigned.mono _ _ _ _)
      | (with_reducible exact varint_ReadSigned_int.mono _ _)
      | (with_reducible exact varint_ReadSigned_int16.mono _ _)
      | (with_reducible exact varint_ReadSigned_int32.mono _ _)
      | (with_reducible exact varint_ReadSigned_int64.mono _ _)
      | (with_reducible exact LeO.refl _)
      | (with_reducible exact LeO.none _)
      | (with_reducible refine LeO.ite ?_ ?_)
      | (with_reducible refine LeO.bind ?_ (fun _ => ?_))
      | exact ih0 _ _
      | exact ih1 _ _
      | exact ih2 _ _
      | exact ih3 _ _
      | exact gantrylaw01_Small.mono _ _
      | exact gantryref01_ReadSigned.mono _ _ _ _
      | exact varint_ReadSigned_int.mono _ _
      | exact varint_ReadSigned_int16.mono _ _
      | exact varint_ReadSigned_int32.mono _ _
      | exact varint_ReadSigned_int64.mono _ _
      | exact LeO.none _
      | refine LeO.ite ?_ ?_
      | refine LeO.bind ?_ (fun _ => ?_)
theorem gantrylaw01_signed.mono : ∀ a0 k, LeO (gantrylaw01_signed.f k a0) (gantrylaw01_signed.f (k + 1) a0) := by
  intro a0 k
  obtain ⟨ih0, ih1, ih2, ih3⟩ := gantrylaw01_signed.mono_l k
  unfold gantrylaw01_signed.f
  repeat' first
      | (with_reducible exact ih0 _ _)
      | (with_reducible exact ih1 _ _)
      | (with_reducible exact ih2 _ _)
      | (with_reducible exact ih3 _ _)
      | (with_reducible exact gantrylaw01_Small.mono _ _)
      | (with_reducible exact gantryref01_ReadSigned.mono _ _ _ _)
      | (with_reducible exact varint_ReadSigned_int.mono _ _)
      | (with_reducible exact varint_ReadSigned_int16.mono _ _)
      | (with_reducible exact varint_ReadSigned_int32.mono _ _)
      | (with_reducible exact varint_ReadSigned_int64.mono _ _)
      | (with_reducible exact LeO.refl _)
      | (with_reducible exact LeO.none _)
      | (with_reducible refine LeO.ite ?_ ?_)
      | (with_reducible refine LeO.bind ?_ (fun _ => ?_))
      | exact ih0 _ _
      | exact ih1 _ _
      | exact ih2 _ _
      | exact ih3 _ _
      | exact gantrylaw01_Small.mono _ _
      | exact gantryref01_ReadSigned.mono _ _ _ _
      | exact varint_ReadSigned_int.mono _ _
      | exact varint_ReadSigned_int16.mono _ _
      | exact varint_ReadSigned_int32.mono _ _
      | exact varint_ReadSigned_int64.mono _ _
      | exact LeO.none _
      | refine LeO.ite ?_ ?_
      | refine LeO.bind ?_ (fun _ => ?_)
set_option maxHeartbeats 8000000 in
set_option maxRecDepth 100000 in
theorem gantrylaw01_signed.calls (k : Nat) (a0 : ByteArray) (r : Bool) (w : World) (h : gantrylaw01_signed.f k a0 = some r) :
    Calls Try.prog 14 #[.string a0] w fun e w' => e = .returned (.bool r) ∧ Drawn0 w w' := by
  have H : ((varint_ReadSigned_int64.f k a0).bind fun bt197 => ((gantryref01_ReadSigned.f k a0 (-9223372036854775808) 9223372036854775807).bind fun bt200 => (if bt197.1 = bt200.1 then (if bt197.2.1 = bt200.2.1 then (gantrylaw01_signed.j0 k a0 (bt197.2.2 != bt200.2.2)) else (gantrylaw01_signed.j0 k a0 true)) else (gantrylaw01_signed.j0 k a0 true)))) = some r := h
  clear h
  replace H := Option.bind_eq_some_iff.mp H
  obtain ⟨⟨t197, t198, t199⟩, A20, H⟩ := H
  replace H : ((gantryref01_ReadSigned.f k a0 (-9223372036854775808) 9223372036854775807).bind fun bt200 => (if t197 = bt200.1 then (if t198 = bt200.2.1 then (gantrylaw01_signed.j0 k a0 (t199 != bt200.2.2)) else (gantrylaw01_signed.j0 k a0 true)) else (gantrylaw01_signed.j0 k a0 true))) = some r := H
  have A2 := Aside0.mk A20
  clear A20
  replace H := Option.bind_eq_some_iff.mp H
  obtain ⟨⟨t200, t201, t202⟩, A30, H⟩ := H
  replace H : (if t197 = t200 then (if t198 = t201 then (gantrylaw01_signed.j0 k a0 (t199 != t202)) else (gantrylaw01_signed.j0 k a0 true)) else (gantrylaw01_signed.j0 k a0 true)) = some r := H
  have A3 := Aside0.mk A30
  clear A30
  have HC4 := Aside0.mk H
  clear H
  go_enter Try.func14, Try.ntmps14
  go_upto_region 3 with (first | ((with_reducible refine gate_callee (f := 40) rfl ?_); refine goesL_ (some 15) rfl rfl Try.func40 (by kernel_rfl) rfl #[.string a0] rfl (by (try simp only [List.map_toArray, List.map_cons, List.map_nil]); first | done | rfl | (simp only [List.length_drop, List.length_take]; rfl)) ?_; (with_reducible refine (varint_ReadSigned_int64.calls k a0 t197 t198 t199 _ A2.out).mono ?_); rintro e w' ⟨rfl, ⟨nd, rfl⟩⟩; refine ⟨_, rfl, ?_⟩) | ((with_reducible refine gate_callee (f := 47) rfl ?_); refine goesL_ (some 21) rfl rfl Try.func47 (by kernel_rfl) rfl #[.string a0, .int .i64 (-9223372036854775808), .int .i64 9223372036854775807] rfl (by (try simp only [List.map_toArray, List.map_cons, List.map_nil]); first | done | rfl | (simp only [List.length_drop, List.length_take]; rfl)) ?_; (with_reducible refine (gantryref01_ReadSigned.calls k a0 (-9223372036854775808) 9223372036854775807 t200 t201 t202 _ A3.out).mono ?_); rintro e w' ⟨rfl, ⟨nd, rfl⟩⟩; refine ⟨_, rfl, ?_⟩))
  (try simp only [Act.put, List.setIfInBounds_toArray, List.set_cons_zero, List.set_cons_succ])
  go_cut [37] (fun v37 wc => ∃ (kq : Nat) (x37_3 : Bool), v37 = .bool x37_3 ∧ Aside0 (gantrylaw01_signed.j0 kq a0 x37_3 = some r) ∧ Aside0 (kq ≤ k) ∧ Drawn0 w wc)
  case first =>
    have H := HC4.out
    clear HC4
    by_cases c5 : t197 = t200
    · rw [if_pos c5] at H
      have c5b0 : (t197 == t200) = true := beq_iff_eq.mpr c5
      have c5b1 : (t197 != t200) = false := bne_eq_false_iff_eq.mpr c5
      clear c5
      (first | rw [c5b0] | (simp only [i64_w, i32_w]; rw [c5b0]) | skip)
      by_cases c6 : t198 = t201
      · rw [if_pos c6] at H
        have c6b0 : (t198 == t201) = true := beq_iff_eq.mpr c6
        have c6b1 : (t198 != t201) = false := bne_eq_false_iff_eq.mpr c6
        clear c6
        have H' := Aside0.mk H
        clear H
        go_wp2
        go_meet
        case rel => exact ⟨_, ((t199 != t202)), (by first | rfl | (simp; done) | (simp [*]; done)), H', ⟨by first | omega | exact Nat.le_refl _⟩, by repeat (first | exact Drawn0.refl _ | apply Drawn0.step)⟩
      · rw [if_neg c6] at H
        have c6b0 : (t198 == t201) = false := beq_eq_false_iff_ne.mpr c6
        have c6b1 : (t198 != t201) = true := bne_iff_ne.mpr c6
        have H' := Aside0.mk H
        clear H
        go_wp2
        go_meet
        case rel => exact ⟨_, (true), (by first | rfl | (simp; done) | (simp [*]; done)), H', ⟨by first | omega | exact Nat.le_refl _⟩, by repeat (first | exact Drawn0.refl _ | apply Drawn0.step)⟩
    · rw [if_neg c5] at H
      have c5b0 : (t197 == t200) = false := beq_eq_false_iff_ne.mpr c5
      have c5b1 : (t197 != t200) = true := bne_iff_ne.mpr c5
      (first | rw [c5b0] | (simp only [i64_w, i32_w]; rw [c5b0]) | skip)
      have H' := Aside0.mk H
      clear H
      go_wp2
      go_meet
      case rel => exact ⟨_, (true), (by first | rfl | (simp; done) | (simp [*]; done)), H', ⟨by first | omega | exact Nat.le_refl _⟩, by repeat (first | exact Drawn0.refl _ | apply Drawn0.step)⟩
  case rest =>
    clear HC4
    try clear c1
    try clear p2
    try clear c4
    try clear c5
    try clear c5b0
    try clear c5b1
    try clear c6
    try clear c6b0
    try clear c6b1
    obtain ⟨kq, x37_3, rfl, HA, HJ3, ⟨mc3, rfl⟩⟩ := hcut
    cases kq with
    | zero => exact absurd HA.out (by simp [gantrylaw01_signed.j0])
    | succ kj3 =>
      have H := HA.out
      clear HA
      simp only [gantrylaw01_signed.j0] at H
      by_cases c7 : x37_3 = true
      · subst c7
        have H1 : (some false) = some r := by rw [if_pos rfl] at H; exact H
        clear H
        have H := H1
        clear H1
        obtain rfl := Option.some.inj H
        go_wp2
        go_ret
        exact ⟨by first | rfl | (simp; done) | (simp [*]; done), by repeat (first | exact Drawn0.refl _ | apply Drawn0.step)⟩
      · replace c7 := Bool.eq_false_iff.mpr c7
        subst c7
        have H1 : ((gantrylaw01_Small.f kj3 a0).bind fun bt203 => ((gantryref01_ReadSigned.f kj3 a0 (-128) 127).bind fun bt206 => (if (wrap64 (bt203.1)) = bt206.1 then (if bt203.2.1 = bt206.2.1 then (gantrylaw01_signed.j1 kj3 a0 (bt203.2.2 != bt206.2.2)) else (gantrylaw01_signed.j1 kj3 a0 true)) else (gantrylaw01_signed.j1 kj3 a0 true)))) = some r := by rw [if_neg (show ¬ (false = true) by decide)] at H; exact H
        clear H
        have H := H1
        clear H1
        replace H := Option.bind_eq_some_iff.mp H
        obtain ⟨⟨t203, t204, t205⟩, A80, H⟩ := H
        replace H : ((gantryref01_ReadSigned.f kj3 a0 (-128) 127).bind fun bt206 => (if (wrap64 (t203)) = bt206.1 then (if t204 = bt206.2.1 then (gantrylaw01_signed.j1 kj3 a0 (t205 != bt206.2.2)) else (gantrylaw01_signed.j1 kj3 a0 true)) else (gantrylaw01_signed.j1 kj3 a0 true))) = some r := H
        have A8 := Aside0.mk A80
        clear A80
        replace H := Option.bind_eq_some_iff.mp H
        obtain ⟨⟨t206, t207, t208⟩, A90, H⟩ := H
        replace H : (if (wrap64 (t203)) = t206 then (if t204 = t207 then (gantrylaw01_signed.j1 kj3 a0 (t205 != t208)) else (gantrylaw01_signed.j1 kj3 a0 true)) else (gantrylaw01_signed.j1 kj3 a0 true)) = some r := H
        have A9 := Aside0.mk A90
        clear A90
        have HC10 := Aside0.mk H
        clear H
        go_upto_region 7 with (first | ((with_reducible refine gate_callee (f := 48) rfl ?_); refine goesL_ (some 40) rfl rfl Try.func48 (by kernel_rfl) rfl #[.string a0] rfl (by (try simp only [List.map_toArray, List.map_cons, List.map_nil]); first | done | rfl | (simp only [List.length_drop, List.length_take]; rfl)) ?_; (with_reducible refine (gantrylaw01_Small.calls kj3 a0 t203 t204 t205 _ A8.out).mono ?_); rintro e w' ⟨rfl, ⟨nd, rfl⟩⟩; refine ⟨_, rfl, ?_⟩) | ((with_reducible refine gate_callee (f := 47) rfl ?_); refine goesL_ (some 46) rfl rfl Try.func47 (by kernel_rfl) rfl #[.string a0, .int .i64 (-128), .int .i64 127] rfl (by (try simp only [List.map_toArray, List.map_cons, List.map_nil]); first | done | rfl | (simp only [List.length_drop, List.length_take]; rfl)) ?_; (with_reducible refine (gantryref01_ReadSigned.calls kj3 a0 (-128) 127 t206 t207 t208 _ A9.out).mono ?_); rintro e w' ⟨rfl, ⟨nd, rfl⟩⟩; refine ⟨_, rfl, ?_⟩))
        (try simp only [Act.put, List.setIfInBounds_toArray, List.set_cons_zero, List.set_cons_succ])
        go_cut [63] (fun v63 wc => ∃ (kq : Nat) (x63_9 : Bool), v63 = .bool x63_9 ∧ Aside0 (gantrylaw01_signed.j1 kq a0 x63_9 = some r) ∧ Aside0 (kq ≤ kj3) ∧ Drawn0 w wc)
        case first =>
          have H := HC10.out
          clear HC10
          by_cases c11 : (wrap64 (t203)) = t206
          · rw [if_pos c11] at H
            have c11b0 : ((wrap64 (t203)) == t206) = true := beq_iff_eq.mpr c11
            have c11b1 : ((wrap64 (t203)) != t206) = false := bne_eq_false_iff_eq.mpr c11
            clear c11
            (first | rw [c11b0] | (simp only [i64_w, i32_w]; rw [c11b0]) | skip)
            by_cases c12 : t204 = t207
            · rw [if_pos c12] at H
              have c12b0 : (t204 == t207) = true := beq_iff_eq.mpr c12
              have c12b1 : (t204 != t207) = false := bne_eq_false_iff_eq.mpr c12
              clear c12
              have H' := Aside0.mk H
              clear H
              go_wp2
              go_meet
              case rel => exact ⟨_, ((t205 != t208)), (by first | rfl | (simp; done) | (simp [*]; done)), H', ⟨by have := HJ3.out; first | omega | exact Nat.le_refl _⟩, by repeat (first | exact Drawn0.refl _ | apply Drawn0.step)⟩
            · rw [if_neg c12] at H
              have c12b0 : (t204 == t207) = false := beq_eq_false_iff_ne.mpr c12
              have c12b1 : (t204 != t207) = true := bne_iff_ne.mpr c12
              have H' := Aside0.mk H
              clear H
              go_wp2
              go_meet
              case rel => exact ⟨_, (true), (by first | rfl | (simp; done) | (simp [*]; done)), H', ⟨by have := HJ3.out; first | omega | exact Nat.le_refl _⟩, by repeat (first | exact Drawn0.refl _ | apply Drawn0.step)⟩
          · rw [if_neg c11] at H
            have c11b0 : ((wrap64 (t203)) == t206) = false := beq_eq_false_iff_ne.mpr c11
            have c11b1 : ((wrap64 (t203)) != t206) = true := bne_iff_ne.mpr c11
            (first | rw [c11b0] | (simp only [i64_w, i32_w]; rw [c11b0]) | skip)
            have H' := Aside0.mk H
            clear H
            go_wp2
            go_meet
            case rel => exact ⟨_, (true), (by first | rfl | (simp; done) | (simp [*]; done)), H', ⟨by have := HJ3.out; first | omega | exact Nat.le_refl _⟩, by repeat (first | exact Drawn0.refl _ | apply Drawn0.step)⟩
        case rest =>
          clear HC10
          try clear c1
          try clear p2
          try clear c3
          try clear c4
          try clear c5
          try clear c5b0
          try clear c5b1
          try clear c6
          try clear c6b0
          try clear c6b1
          try clear p6
          try clear c7
          try clear c11
          try clear c11b0
          try clear c11b1
          try clear c12
          try clear c12b0
          try clear c12b1
          try clear p2
          obtain ⟨kq, x63_9, rfl, HA, HJ9, ⟨mc9, rfl⟩⟩ := hcut
          cases kq with
          | zero => exact absurd HA.out (by simp [gantrylaw01_signed.j1])
          | succ kj9 =>
            have H := HA.out
            clear HA
            simp only [gantrylaw01_signed.j1] at H
            by_cases c13 : x63_9 = true
            · subst c13
              have H1 : (some false) = some r := by rw [if_pos rfl] at H; exact H
              clear H
              have H := H1
              clear H1
              obtain rfl := Option.some.inj H
              go_wp2
              go_ret
              exact ⟨by first | rfl | (simp; done) | (simp [*]; done), by repeat (first | exact Drawn0.refl _ | apply Drawn0.step)⟩
            · replace c13 := Bool.eq_false_iff.mpr c13
              subst c13
              have H1 : ((varint_ReadSigned_int16.f kj9 a0).bind fun bt209 => ((gantryref01_ReadSigned.f kj9 a0 (-32768) 32767).bind fun bt212 => (if (wrap64 (bt209.1)) = bt212.1 then (if bt209.2.1 = bt212.2.1 then (gantrylaw01_signed.j2 kj9 a0 (bt209.2.2 != bt212.2.2)) else (gantrylaw01_signed.j2 kj9 a0 true)) else (gantrylaw01_signed.j2 kj9 a0 true)))) = some r := by rw [if_neg (show ¬ (false = true) by decide)] at H; exact H
              clear H
              have H := H1
              clear H1
              replace H := Option.bind_eq_some_iff.mp H
              obtain ⟨⟨t209, t210, t211⟩, A140, H⟩ := H
              replace H : ((gantryref01_ReadSigned.f kj9 a0 (-32768) 32767).bind fun bt212 => (if (wrap64 (t209)) = bt212.1 then (if t210 = bt212.2.1 then (gantrylaw01_signed.j2 kj9 a0 (t211 != bt212.2.2)) else (gantrylaw01_signed.j2 kj9 a0 true)) else (gantrylaw01_signed.j2 kj9 a0 true))) = some r := H
              have A14 := Aside0.mk A140
              clear A140
              replace H := Option.bind_eq_some_iff.mp H
              obtain ⟨⟨t212, t213, t214⟩, A150, H⟩ := H
              replace H : (if (wrap64 (t209)) = t212 then (if t210 = t213 then (gantrylaw01_signed.j2 kj9 a0 (t211 != t214)) else (gantrylaw01_signed.j2 kj9 a0 true)) else (gantrylaw01_signed.j2 kj9 a0 true)) = some r := H
              have A15 := Aside0.mk A150
              clear A150
              have HC16 := Aside0.mk H
              clear H
              go_upto_region 11 with (first | ((with_reducible refine gate_callee (f := 49) rfl ?_); refine goesL_ (some 66) rfl rfl Try.func49 (by kernel_rfl) rfl #[.string a0] rfl (by (try simp only [List.map_toArray, List.map_cons, List.map_nil]); first | done | rfl | (simp only [List.length_drop, List.length_take]; rfl)) ?_; (with_reducible refine (varint_ReadSigned_int16.calls kj9 a0 t209 t210 t211 _ A14.out).mono ?_); rintro e w' ⟨rfl, ⟨nd, rfl⟩⟩; refine ⟨_, rfl, ?_⟩) | ((with_reducible refine gate_callee (f := 47) rfl ?_); refine goesL_ (some 72) rfl rfl Try.func47 (by kernel_rfl) rfl #[.string a0, .int .i64 (-32768), .int .i64 32767] rfl (by (try simp only [List.map_toArray, List.map_cons, List.map_nil]); first | done | rfl | (simp only [List.length_drop, List.length_take]; rfl)) ?_; (with_reducible refine (gantryref01_ReadSigned.calls kj9 a0 (-32768) 32767 t212 t213 t214 _ A15.out).mono ?_); rintro e w' ⟨rfl, ⟨nd, rfl⟩⟩; refine ⟨_, rfl, ?_⟩))
              (try simp only [Act.put, List.setIfInBounds_toArray, List.set_cons_zero, List.set_cons_succ])
              go_cut [89] (fun v89 wc => ∃ (kq : Nat) (x89_15 : Bool), v89 = .bool x89_15 ∧ Aside0 (gantrylaw01_signed.j2 kq a0 x89_15 = some r) ∧ Aside0 (kq ≤ kj9) ∧ Drawn0 w wc)
              case first =>
                have H := HC16.out
                clear HC16
                by_cases c17 : (wrap64 (t209)) = t212
                · rw [if_pos c17] at H
                  have c17b0 : ((wrap64 (t209)) == t212) = true := beq_iff_eq.mpr c17
                  have c17b1 : ((wrap64 (t209)) != t212) = false := bne_eq_false_iff_eq.mpr c17
                  clear c17
                  (first | rw [c17b0] | (simp only [i64_w, i32_w]; rw [c17b0]) | skip)
                  by_cases c18 : t210 = t213
                  · rw [if_pos c18] at H
                    have c18b0 : (t210 == t213) = true := beq_iff_eq.mpr c18
                    have c18b1 : (t210 != t213) = false := bne_eq_false_iff_eq.mpr c18
                    clear c18
                    have H' := Aside0.mk H
                    clear H
                    go_wp2
                    go_meet
                    case rel => exact ⟨_, ((t211 != t214)), (by first | rfl | (simp; done) | (simp [*]; done)), H', ⟨by have := HJ3.out; have := HJ9.out; first | omega | exact Nat.le_refl _⟩, by repeat (first | exact Drawn0.refl _ | apply Drawn0.step)⟩
                  · rw [if_neg c18] at H
                    have c18b0 : (t210 == t213) = false := beq_eq_false_iff_ne.mpr c18
                    have c18b1 : (t210 != t213) = true := bne_iff_ne.mpr c18
                    have H' := Aside0.mk H
                    clear H
                    go_wp2
                    go_meet
                    case rel => exact ⟨_, (true), (by first | rfl | (simp; done) | (simp [*]; done)), H', ⟨by have := HJ3.out; have := HJ9.out; first | omega | exact Nat.le_refl _⟩, by repeat (first | exact Drawn0.refl _ | apply Drawn0.step)⟩
                · rw [if_neg c17] at H
                  have c17b0 : ((wrap64 (t209)) == t212) = false := beq_eq_false_iff_ne.mpr c17
                  have c17b1 : ((wrap64 (t209)) != t212) = true := bne_iff_ne.mpr c17
                  (first | rw [c17b0] | (simp only [i64_w, i32_w]; rw [c17b0]) | skip)
                  have H' := Aside0.mk H
                  clear H
                  go_wp2
                  go_meet
                  case rel => exact ⟨_, (true), (by first | rfl | (simp; done) | (simp [*]; done)), H', ⟨by have := HJ3.out; have := HJ9.out; first | omega | exact Nat.le_refl _⟩, by repeat (first | exact Drawn0.refl _ | apply Drawn0.step)⟩
              case rest =>
                clear HC16
                try clear c1
                try clear p2
                try clear c3
                try clear c4
                try clear c5
                try clear c5b0
                try clear c5b1
                try clear c6
                try clear c6b0
                try clear c6b1
                try clear p6
                try clear c7
                try clear c9
                try clear c11
                try clear c11b0
                try clear c11b1
                try clear c12
                try clear c12b0
                try clear c12b1
                try clear c13
                try clear c14
                try clear c17
                try clear c17b0
                try clear c17b1
                try clear c18
                try clear c18b0
                try clear c18b1
                try clear p2
                try clear p6
                obtain ⟨kq, x89_15, rfl, HA, HJ15, ⟨mc15, rfl⟩⟩ := hcut
                cases kq with
                | zero => exact absurd HA.out (by simp [gantrylaw01_signed.j2])
                | succ kj15 =>
                  have H := HA.out
                  clear HA
                  simp only [gantrylaw01_signed.j2] at H
                  by_cases c19 : x89_15 = true
                  · subst c19
                    have H1 : (some false) = some r := by rw [if_pos rfl] at H; exact H
                    clear H
                    have H := H1
                    clear H1
                    obtain rfl := Option.some.inj H
                    go_wp2
                    go_ret
                    exact ⟨by first | rfl | (simp; done) | (simp [*]; done), by repeat (first | exact Drawn0.refl _ | apply Drawn0.step)⟩
                  · replace c19 := Bool.eq_false_iff.mpr c19
                    subst c19
                    have H1 : ((varint_ReadSigned_int32.f kj15 a0).bind fun bt215 => ((gantryref01_ReadSigned.f kj15 a0 (-2147483648) 2147483647).bind fun bt218 => (if (wrap64 (bt215.1)) = bt218.1 then (if bt215.2.1 = bt218.2.1 then (gantrylaw01_signed.j3 kj15 a0 (bt215.2.2 != bt218.2.2)) else (gantrylaw01_signed.j3 kj15 a0 true)) else (gantrylaw01_signed.j3 kj15 a0 true)))) = some r := by rw [if_neg (show ¬ (false = true) by decide)] at H; exact H
                    clear H
                    have H := H1
                    clear H1
                    replace H := Option.bind_eq_some_iff.mp H
                    obtain ⟨⟨t215, t216, t217⟩, A200, H⟩ := H
                    replace H : ((gantryref01_ReadSigned.f kj15 a0 (-2147483648) 2147483647).bind fun bt218 => (if (wrap64 (t215)) = bt218.1 then (if t216 = bt218.2.1 then (gantrylaw01_signed.j3 kj15 a0 (t217 != bt218.2.2)) else (gantrylaw01_signed.j3 kj15 a0 true)) else (gantrylaw01_signed.j3 kj15 a0 true))) = some r := H
                    have A20 := Aside0.mk A200
                    clear A200
                    replace H := Option.bind_eq_some_iff.mp H
                    obtain ⟨⟨t218, t219, t220⟩, A210, H⟩ := H
                    replace H : (if (wrap64 (t215)) = t218 then (if t216 = t219 then (gantrylaw01_signed.j3 kj15 a0 (t217 != t220)) else (gantrylaw01_signed.j3 kj15 a0 true)) else (gantrylaw01_signed.j3 kj15 a0 true)) = some r := H
                    have A21 := Aside0.mk A210
                    clear A210
                    have HC22 := Aside0.mk H
                    clear H
                    go_upto_region 15 with (first | ((with_reducible refine gate_callee (f := 50) rfl ?_); refine goesL_ (some 92) rfl rfl Try.func50 (by kernel_rfl) rfl #[.string a0] rfl (by (try simp only [List.map_toArray, List.map_cons, List.map_nil]); first | done | rfl | (simp only [List.length_drop, List.length_take]; rfl)) ?_; (with_reducible refine (varint_ReadSigned_int32.calls kj15 a0 t215 t216 t217 _ A20.out).mono ?_); rintro e w' ⟨rfl, ⟨nd, rfl⟩⟩; refine ⟨_, rfl, ?_⟩) | ((with_reducible refine gate_callee (f := 47) rfl ?_); refine goesL_ (some 98) rfl rfl Try.func47 (by kernel_rfl) rfl #[.string a0, .int .i64 (-2147483648), .int .i64 2147483647] rfl (by (try simp only [List.map_toArray, List.map_cons, List.map_nil]); first | done | rfl | (simp only [List.length_drop, List.length_take]; rfl)) ?_; (with_reducible refine (gantryref01_ReadSigned.calls kj15 a0 (-2147483648) 2147483647 t218 t219 t220 _ A21.out).mono ?_); rintro e w' ⟨rfl, ⟨nd, rfl⟩⟩; refine ⟨_, rfl, ?_⟩))
                    (try simp only [Act.put, List.setIfInBounds_toArray, List.set_cons_zero, List.set_cons_succ])
                    go_cut [115] (fun v115 wc => ∃ (kq : Nat) (x115_21 : Bool), v115 = .bool x115_21 ∧ Aside0 (gantrylaw01_signed.j3 kq a0 x115_21 = some r) ∧ Aside0 (kq ≤ kj15) ∧ Drawn0 w wc)
                    case first =>
                      have H := HC22.out
                      clear HC22
                      by_cases c23 : (wrap64 (t215)) = t218
                      · rw [if_pos c23] at H
                        have c23b0 : ((wrap64 (t215)) == t218) = true := beq_iff_eq.mpr c23
                        have c23b1 : ((wrap64 (t215)) != t218) = false := bne_eq_false_iff_eq.mpr c23
                        clear c23
                        (first | rw [c23b0] | (simp only [i64_w, i32_w]; rw [c23b0]) | skip)
                        by_cases c24 : t216 = t219
                        · rw [if_pos c24] at H
                          have c24b0 : (t216 == t219) = true := beq_iff_eq.mpr c24
                          have c24b1 : (t216 != t219) = false := bne_eq_false_iff_eq.mpr c24
                          clear c24
                          have H' := Aside0.mk H
                          clear H
                          go_wp2
                          go_meet
                          case rel => exact ⟨_, ((t217 != t220)), (by first | rfl | (simp; done) | (simp [*]; done)), H', ⟨by have := HJ3.out; have := HJ9.out; have := HJ15.out; first | omega | exact Nat.le_refl _⟩, by repeat (first | exact Drawn0.refl _ | apply Drawn0.step)⟩
                        · rw [if_neg c24] at H
                          have c24b0 : (t216 == t219) = false := beq_eq_false_iff_ne.mpr c24
                          have c24b1 : (t216 != t219) = true := bne_iff_ne.mpr c24
                          have H' := Aside0.mk H
                          clear H
                          go_wp2
                          go_meet
                          case rel => exact ⟨_, (true), (by first | rfl | (simp; done) | (simp [*]; done)), H', ⟨by have := HJ3.out; have := HJ9.out; have := HJ15.out; first | omega | exact Nat.le_refl _⟩, by repeat (first | exact Drawn0.refl _ | apply Drawn0.step)⟩
                      · rw [if_neg c23] at H
                        have c23b0 : ((wrap64 (t215)) == t218) = false := beq_eq_false_iff_ne.mpr c23
                        have c23b1 : ((wrap64 (t215)) != t218) = true := bne_iff_ne.mpr c23
                        (first | rw [c23b0] | (simp only [i64_w, i32_w]; rw [c23b0]) | skip)
                        have H' := Aside0.mk H
                        clear H
                        go_wp2
                        go_meet
                        case rel => exact ⟨_, (true), (by first | rfl | (simp; done) | (simp [*]; done)), H', ⟨by have := HJ3.out; have := HJ9.out; have := HJ15.out; first | omega | exact Nat.le_refl _⟩, by repeat (first | exact Drawn0.refl _ | apply Drawn0.step)⟩
                    case rest =>
                      clear HC22
                      try clear c1
                      try clear c2
                      try clear p2
                      try clear c3
                      try clear c4
                      try clear c5
                      try clear c5b0
                      try clear c5b1
                      try clear c6
                      try clear c6b0
                      try clear c6b1
                      try clear p6
                      try clear c7
                      try clear c9
                      try clear c11
                      try clear c11b0
                      try clear c11b1
                      try clear c12
                      try clear c12b0
                      try clear c12b1
                      try clear c13
                      try clear c14
                      try clear c15
                      try clear c17
                      try clear c17b0
                      try clear c17b1
                      try clear c18
                      try clear c18b0
                      try clear c18b1
                      try clear c19
                      try clear c23
                      try clear c23b0
                      try clear c23b1
                      try clear c24
                      try clear c24b0
                      try clear c24b1
                      try clear p2
                      try clear p6
                      obtain ⟨kq, x115_21, rfl, HA, HJ21, ⟨mc21, rfl⟩⟩ := hcut
                      cases kq with
                      | zero => exact absurd HA.out (by simp [gantrylaw01_signed.j3])
                      | succ kj21 =>
                        have H := HA.out
                        clear HA
                        simp only [gantrylaw01_signed.j3] at H
                        by_cases c25 : x115_21 = true
                        · subst c25
                          have H1 : (some false) = some r := by rw [if_pos rfl] at H; exact H
                          clear H
                          have H := H1
                          clear H1
                          obtain rfl := Option.some.inj H
                          go_wp2
                          go_ret
                          exact ⟨by first | rfl | (simp; done) | (simp [*]; done), by repeat (first | exact Drawn0.refl _ | apply Drawn0.step)⟩
                        · replace c25 := Bool.eq_false_iff.mpr c25
                          subst c25
                          have H1 : ((varint_ReadSigned_int.f kj21 a0).bind fun bt221 => ((gantryref01_ReadSigned.f kj21 a0 (-9223372036854775808) 9223372036854775807).bind fun bt224 => (if bt221.1 = bt224.1 then (if bt221.2.1 = bt224.2.1 then (some (bt221.2.2 == bt224.2.2)) else (some false)) else (some false)))) = some r := by rw [if_neg (show ¬ (false = true) by decide)] at H; exact H
                          clear H
                          have H := H1
                          clear H1
                          replace H := Option.bind_eq_some_iff.mp H
                          obtain ⟨⟨t221, t222, t223⟩, A260, H⟩ := H
                          replace H : ((gantryref01_ReadSigned.f kj21 a0 (-9223372036854775808) 9223372036854775807).bind fun bt224 => (if t221 = bt224.1 then (if t222 = bt224.2.1 then (some (t223 == bt224.2.2)) else (some false)) else (some false))) = some r := H
                          have A26 := Aside0.mk A260
                          clear A260
                          replace H := Option.bind_eq_some_iff.mp H
                          obtain ⟨⟨t224, t225, t226⟩, A270, H⟩ := H
                          replace H : (if t221 = t224 then (if t222 = t225 then (some (t223 == t226)) else (some false)) else (some false)) = some r := H
                          have A27 := Aside0.mk A270
                          clear A270
                          by_cases c28 : t221 = t224
                          · rw [if_pos c28] at H
                            have c28b0 : (t221 == t224) = true := beq_iff_eq.mpr c28
                            have c28b1 : (t221 != t224) = false := bne_eq_false_iff_eq.mpr c28
                            clear c28
                            by_cases c29 : t222 = t225
                            · rw [if_pos c29] at H
                              have c29b0 : (t222 == t225) = true := beq_iff_eq.mpr c29
                              have c29b1 : (t222 != t225) = false := bne_eq_false_iff_eq.mpr c29
                              clear c29
                              obtain rfl := Option.some.inj H
                              go_wp2_with (first | ((with_reducible refine gate_callee (f := 51) rfl ?_); refine goesL_ (some 118) rfl rfl Try.func51 (by kernel_rfl) rfl #[.string a0] rfl (by (try simp only [List.map_toArray, List.map_cons, List.map_nil]); first | done | rfl | (simp only [List.length_drop, List.length_take]; rfl)) ?_; (with_reducible refine (varint_ReadSigned_int.calls kj21 a0 t221 t222 t223 _ A26.out).mono ?_); rintro e w' ⟨rfl, ⟨nd, rfl⟩⟩; refine ⟨_, rfl, ?_⟩) | ((with_reducible refine gate_callee (f := 47) rfl ?_); refine goesL_ (some 124) rfl rfl Try.func47 (by kernel_rfl) rfl #[.string a0, .int .i64 (-9223372036854775808), .int .i64 9223372036854775807] rfl (by (try simp only [List.map_toArray, List.map_cons, List.map_nil]); first | done | rfl | (simp only [List.length_drop, List.length_take]; rfl)) ?_; (with_reducible refine (gantryref01_ReadSigned.calls kj21 a0 (-9223372036854775808) 9223372036854775807 t224 t225 t226 _ A27.out).mono ?_); rintro e w' ⟨rfl, ⟨nd, rfl⟩⟩; refine ⟨_, rfl, ?_⟩))
                              go_ret
                              exact ⟨by first | rfl | (simp; done) | (simp [*]; done), by repeat (first | exact Drawn0.refl _ | apply Drawn0.step)⟩
                            · rw [if_neg c29] at H
                              have c29b0 : (t222 == t225) = false := beq_eq_false_iff_ne.mpr c29
                              have c29b1 : (t222 != t225) = true := bne_iff_ne.mpr c29
                              obtain rfl := Option.some.inj H
                              go_wp2_with (first | ((with_reducible refine gate_callee (f := 51) rfl ?_); refine goesL_ (some 118) rfl rfl Try.func51 (by kernel_rfl) rfl #[.string a0] rfl (by (try simp only [List.map_toArray, List.map_cons, List.map_nil]); first | done | rfl | (simp only [List.length_drop, List.length_take]; rfl)) ?_; (with_reducible refine (varint_ReadSigned_int.calls kj21 a0 t221 t222 t223 _ A26.out).mono ?_); rintro e w' ⟨rfl, ⟨nd, rfl⟩⟩; refine ⟨_, rfl, ?_⟩) | ((with_reducible refine gate_callee (f := 47) rfl ?_); refine goesL_ (some 124) rfl rfl Try.func47 (by kernel_rfl) rfl #[.string a0, .int .i64 (-9223372036854775808), .int .i64 9223372036854775807] rfl (by (try simp only [List.map_toArray, List.map_cons, List.map_nil]); first | done | rfl | (simp only [List.length_drop, List.length_take]; rfl)) ?_; (with_reducible refine (gantryref01_ReadSigned.calls kj21 a0 (-9223372036854775808) 9223372036854775807 t224 t225 t226 _ A27.out).mono ?_); rintro e w' ⟨rfl, ⟨nd, rfl⟩⟩; refine ⟨_, rfl, ?_⟩))
                              go_ret
                              exact ⟨by first | rfl | (simp; done) | (simp [*]; done), by repeat (first | exact Drawn0.refl _ | apply Drawn0.step)⟩
                          · rw [if_neg c28] at H
                            have c28b0 : (t221 == t224) = false := beq_eq_false_iff_ne.mpr c28
                            have c28b1 : (t221 != t224) = true := bne_iff_ne.mpr c28
                            obtain rfl := Option.some.inj H
                            go_wp2_with (first | ((with_reducible refine gate_callee (f := 51) rfl ?_); refine goesL_ (some 118) rfl rfl Try.func51 (by kernel_rfl) rfl #[.string a0] rfl (by (try simp only [List.map_toArray, List.map_cons, List.map_nil]); first | done | rfl | (simp only [List.length_drop, List.length_take]; rfl)) ?_; (with_reducible refine (varint_ReadSigned_int.calls kj21 a0 t221 t222 t223 _ A26.out).mono ?_); rintro e w' ⟨rfl, ⟨nd, rfl⟩⟩; refine ⟨_, rfl, ?_⟩) | ((with_reducible refine gate_callee (f := 47) rfl ?_); refine goesL_ (some 124) rfl rfl Try.func47 (by kernel_rfl) rfl #[.string a0, .int .i64 (-9223372036854775808), .int .i64 9223372036854775807] rfl (by (try simp only [List.map_toArray, List.map_cons, List.map_nil]); first | done | rfl | (simp only [List.length_drop, List.length_take]; rfl)) ?_; (with_reducible refine (gantryref01_ReadSigned.calls kj21 a0 (-9223372036854775808) 9223372036854775807 t224 t225 t226 _ A27.out).mono ?_); rintro e w' ⟨rfl, ⟨nd, rfl⟩⟩; refine ⟨_, rfl, ?_⟩))
                            go_ret
                            exact ⟨by first | rfl | (simp; done) | (simp [*]; done), by repeat (first | exact Drawn0.refl _ | apply Drawn0.step)⟩

end Go.Proofs.Ytipdfajadehkmaa.QVarintReads
