/- The machine side of a law, written by a program of this session (the kit printer, changed; wip/tools/mkprint.py): functions, their calls, the row. Lean checks it. -/
import Derived.Test.YtclnpedmoelipaaQWx0
import Derived.Test.YtclnpedmoelipaaQWx5
import Derived.Test.YtclnpedmoelipaaQWx6
import Derived.Test.YtclnpedmoelipaaQWx8
namespace Go.Proofs.Ytclnpedmoelipaa.QW
open Go.RowKit Go.Proofs.YtclnpedmoelipaaW.PrintWords Go.Proofs.YtclnpedmoelipaaW.PrintLast Go.Proofs.YtclnpedmoelipaaW.PrintMore
attribute [local go_sem] max2_int min2_int max_two min_two max_three min_three max_four min_four   -- for this text's walks alone
set_option linter.unusedVariables false
set_option linter.unusedSimpArgs false

/-! ### gantryref02_Reader_Varint: function 108 -/
def gantryref02_Reader_Varint.f (k : Nat) (s0_0 : ByteArray) (s0_1 : Int) (s0_2 : Int) : Option (Int × Int × ByteArray × Int × Int) := (gantryref02_Reader_Uvarint.f k s0_0 s0_1 s0_2).bind fun bt217 => (if bt217.2.1 = 0 then ((gantryref01_Unzigzag.f bt217.1).bind fun t222 => (some (t222, 0, bt217.2.2.1, bt217.2.2.2.1, bt217.2.2.2.2))) else (some (0, bt217.2.1, bt217.2.2.1, bt217.2.2.2.1, bt217.2.2.2.2)))
theorem gantryref02_Reader_Varint.mono : ∀ a0 a1 a2 k, LeO (gantryref02_Reader_Varint.f k a0 a1 a2) (gantryref02_Reader_Varint.f (k + 1) a0 a1 a2) := by
  intro a0 a1 a2 k
  unfold gantryref02_Reader_Varint.f
  repeat' first
      | (with_reducible exact gantryref02_Reader_Uvarint.mono _ _ _ _)
      | (with_reducible exact LeO.refl _)
      | (with_reducible exact LeO.none _)
      | (with_reducible refine LeO.ite ?_ ?_)
      | (with_reducible refine LeO.bind ?_ (fun _ => ?_))
      | exact gantryref02_Reader_Uvarint.mono _ _ _ _
      | exact LeO.none _
      | refine LeO.ite ?_ ?_
      | refine LeO.bind ?_ (fun _ => ?_)
set_option maxHeartbeats 8000000 in
set_option maxRecDepth 100000 in
theorem gantryref02_Reader_Varint.calls (k : Nat) (g : Nat) (s0_0 : ByteArray) (s0_1 : Int) (s0_2 : Int) (r1 : Int) (r2 : Int) (r3 : ByteArray) (r4 : Int) (r5 : Int) (w0 w : World) (hI : IsS100 w0 w g s0_0 s0_1 s0_2) (hB : Below w0.heap.size w0 w) (h : gantryref02_Reader_Varint.f k s0_0 s0_1 s0_2 = some (r1, r2, r3, r4, r5)) :
    Calls Try.prog 108 #[.pointer (some ⟨g, 0, none⟩)] w fun e w' => e = .returned (.tuple #[.int .i64 r1, .int .i64 r2]) ∧ IsS100 w0 w' g r3 r4 r5 ∧ Below w0.heap.size w0 w' ∧ KeepBut w w' g none := by
  have HI0 := Aside0.mk hI
  have HK := Aside0.mk (KeepBut.refl w g none)
  have HL := Aside0.mk hB.size
  clear hI
  have HW0 := Aside0.mk hB.size
  have HB := Aside0.mk hB
  clear hB
  have H : ((gantryref02_Reader_Uvarint.f k s0_0 s0_1 s0_2).bind fun bt217 => (if bt217.2.1 = 0 then ((gantryref01_Unzigzag.f bt217.1).bind fun t222 => (some (t222, 0, bt217.2.2.1, bt217.2.2.2.1, bt217.2.2.2.2))) else (some (0, bt217.2.1, bt217.2.2.1, bt217.2.2.2.1, bt217.2.2.2.2)))) = some (r1, r2, r3, r4, r5) := h
  clear h
  replace H := Option.bind_eq_some_iff.mp H
  obtain ⟨⟨t217, t218, t219, t220, t221⟩, A20, H⟩ := H
  replace H : (if t218 = 0 then ((gantryref01_Unzigzag.f t217).bind fun t222 => (some (t222, 0, t219, t220, t221))) else (some (0, t218, t219, t220, t221))) = some (r1, r2, r3, r4, r5) := H
  have A2 := Aside0.mk A20
  clear A20
  by_cases c3 : t218 = 0
  · rw [if_pos c3] at H
    have c3b0 : (t218 == 0) = true := beq_iff_eq.mpr c3
    have c3b1 : (t218 != 0) = false := bne_eq_false_iff_eq.mpr c3
    clear c3
    replace H := Option.bind_eq_some_iff.mp H
    obtain ⟨t222, A40, H⟩ := H
    replace H : (some (t222, 0, t219, t220, t221)) = some (r1, r2, r3, r4, r5) := H
    have A4 := Aside0.mk A40
    clear A40
    simp only [Option.some.injEq, Prod.mk.injEq] at H
    obtain ⟨rfl, rfl, rfl, rfl, rfl⟩ := H
    go_enter Try.func108, Try.ntmps108
    go_wp2_with (first | ((with_reducible refine gate_callee (f := 107) rfl ?_); refine goesL_ (some 8) rfl rfl Try.func107 (by kernel_rfl) rfl #[.pointer (some ⟨g, 0, none⟩)] rfl (by (try simp only [List.map_toArray, List.map_cons, List.map_nil]); first | done | rfl | (simp only [List.length_drop, List.length_take]; rfl)) ?_; (with_reducible refine (gantryref02_Reader_Uvarint.calls k g s0_0 s0_1 s0_2 t217 t218 t219 t220 t221 w0 _ ?side1 ?side2 A2.out).mono ?_); (case side1 => repeat (first | (with_reducible first | exact HI0.out | apply IsS100.alloc | apply IsS100.drewN | apply IsS100.drew | apply IsS100.set_0 | apply IsS100.set_1 | apply IsS100.set_2) | exact HI0.out)); (case side2 => repeat (first | (with_reducible first | exact HB.out | apply below_alloc | apply pw_below_drewN | apply below_drew1 | refine below_set ?_ (IsS100.ge HI0.out)) | exact HB.out)); rintro e w5 ⟨rfl, hi, hb, hk⟩; refine ⟨_, rfl, ?_⟩; have n0_ := Aside0.mk (KeepBut.trans (by repeat (first | (with_reducible first | exact HK.out | apply KeepBut.set_ | apply keep_drewN | apply keep_drew | apply keep_alloc) | exact HK.out)) hk (.inl rfl)); have n1_ := Aside0.mk (hb); have n2_ := Aside0.mk (hi); clear HK; clear HB; clear HI0; have HK := n0_; have HB := n1_; have HI0 := n2_; clear n0_ n1_ n2_; (try clear hb); (try clear hb2); (try clear hk); (try clear hi)) | ((with_reducible refine gate_callee (f := 126) rfl ?_); refine goesL_ (some 15) rfl rfl Try.func126 (by kernel_rfl) rfl #[.int .u64 t217] rfl (by (try simp only [List.map_toArray, List.map_cons, List.map_nil]); first | done | rfl | (simp only [List.length_drop, List.length_take]; rfl)) ?_; (with_reducible refine (gantryref01_Unzigzag.calls t217 t222 _ A4.out).mono ?_); rintro e w' ⟨rfl, ⟨nd, rfl⟩⟩; refine ⟨_, rfl, ?_⟩))
    go_ret2
    exact ⟨by first | rfl | (simp [errW_none, errW_some] <;> rfl) | (simp [*, errW_none, errW_some] <;> rfl), by repeat (first | (with_reducible first | exact HI0.out | apply IsS100.alloc | apply IsS100.drewN | apply IsS100.drew | apply IsS100.set_0 | apply IsS100.set_1 | apply IsS100.set_2) | exact HI0.out), by repeat (first | (with_reducible first | exact HB.out | apply below_alloc | apply pw_below_drewN | apply below_drew1 | refine below_set ?_ (IsS100.ge HI0.out)) | exact HB.out), by repeat (first | (with_reducible first | exact HK.out | apply KeepBut.set_ | apply keep_drewN | apply keep_drew | apply keep_alloc) | exact HK.out)⟩
  · rw [if_neg c3] at H
    have c3b0 : (t218 == 0) = false := beq_eq_false_iff_ne.mpr c3
    have c3b1 : (t218 != 0) = true := bne_iff_ne.mpr c3
    simp only [Option.some.injEq, Prod.mk.injEq] at H
    obtain ⟨rfl, rfl, rfl, rfl, rfl⟩ := H
    go_enter Try.func108, Try.ntmps108
    go_wp2_with (first | ((with_reducible refine gate_callee (f := 107) rfl ?_); refine goesL_ (some 8) rfl rfl Try.func107 (by kernel_rfl) rfl #[.pointer (some ⟨g, 0, none⟩)] rfl (by (try simp only [List.map_toArray, List.map_cons, List.map_nil]); first | done | rfl | (simp only [List.length_drop, List.length_take]; rfl)) ?_; (with_reducible refine (gantryref02_Reader_Uvarint.calls k g s0_0 s0_1 s0_2 t217 t218 t219 t220 t221 w0 _ ?side1 ?side2 A2.out).mono ?_); (case side1 => repeat (first | (with_reducible first | exact HI0.out | apply IsS100.alloc | apply IsS100.drewN | apply IsS100.drew | apply IsS100.set_0 | apply IsS100.set_1 | apply IsS100.set_2) | exact HI0.out)); (case side2 => repeat (first | (with_reducible first | exact HB.out | apply below_alloc | apply pw_below_drewN | apply below_drew1 | refine below_set ?_ (IsS100.ge HI0.out)) | exact HB.out)); rintro e w6 ⟨rfl, hi, hb, hk⟩; refine ⟨_, rfl, ?_⟩; have n0_ := Aside0.mk (KeepBut.trans (by repeat (first | (with_reducible first | exact HK.out | apply KeepBut.set_ | apply keep_drewN | apply keep_drew | apply keep_alloc) | exact HK.out)) hk (.inl rfl)); have n1_ := Aside0.mk (hb); have n2_ := Aside0.mk (hi); clear HK; clear HB; clear HI0; have HK := n0_; have HB := n1_; have HI0 := n2_; clear n0_ n1_ n2_; (try clear hb); (try clear hb2); (try clear hk); (try clear hi)))
    go_ret2
    exact ⟨by first | rfl | (simp [errW_none, errW_some] <;> rfl) | (simp [*, errW_none, errW_some] <;> rfl), by repeat (first | (with_reducible first | exact HI0.out | apply IsS100.alloc | apply IsS100.drewN | apply IsS100.drew | apply IsS100.set_0 | apply IsS100.set_1 | apply IsS100.set_2) | exact HI0.out), by repeat (first | (with_reducible first | exact HB.out | apply below_alloc | apply pw_below_drewN | apply below_drew1 | refine below_set ?_ (IsS100.ge HI0.out)) | exact HB.out), by repeat (first | (with_reducible first | exact HK.out | apply KeepBut.set_ | apply keep_drewN | apply keep_drew | apply keep_alloc) | exact HK.out)⟩

-- NOT PRINTED: function 77 (gantrylaw02_number)

-- NOT PRINTED: function 78 (wire_Reader_Raw)

/-! ### gantryref02_Reader_Raw: function 79 -/
def gantryref02_Reader_Raw.f (s0_0 : ByteArray) (s0_1 : Int) (s0_2 : Int) (a1 : Int) : Option (ByteArray × Int × ByteArray × Int × Int) := if s0_2 = 0 then (if a1 < 0 then ((gantryref02_Reader_fail.f s0_0 s0_1 s0_2 1).bind fun bt223 => (some ((⟨#[]⟩ : ByteArray), bt223.1, bt223.2.1, bt223.2.2.1, bt223.2.2.2))) else ((gantryref02_Reader_Left.f s0_0 s0_1 s0_2).bind fun bt227 => (if a1 > bt227.1 then ((gantryref02_Reader_fail.f bt227.2.1 bt227.2.2.1 bt227.2.2.2 20).bind fun bt231 => (some ((⟨#[]⟩ : ByteArray), bt231.1, bt231.2.1, bt231.2.2.1, bt231.2.2.2))) else (if 0 ≤ bt227.2.2.1 then (if bt227.2.2.1 ≤ (wrap64 (bt227.2.2.1 + a1)) then (if (wrap64 (bt227.2.2.1 + a1)) ≤ (bt227.2.1.size : Int) then (some (bt227.2.1.extract (bt227.2.2.1 : Int).toNat ((wrap64 (bt227.2.2.1 + a1)) : Int).toNat, 0, bt227.2.1, wrap64 (bt227.2.2.1 + a1), bt227.2.2.2)) else (none)) else (none)) else (none))))) else (some ((⟨#[]⟩ : ByteArray), s0_2, s0_0, s0_1, s0_2))
set_option maxHeartbeats 8000000 in
set_option maxRecDepth 100000 in
theorem gantryref02_Reader_Raw.calls (g : Nat) (s0_0 : ByteArray) (s0_1 : Int) (s0_2 : Int) (a1 : Int) (r1 : ByteArray) (r2 : Int) (r3 : ByteArray) (r4 : Int) (r5 : Int) (w0 w : World) (hI : IsS100 w0 w g s0_0 s0_1 s0_2) (hB : Below w0.heap.size w0 w) (h : gantryref02_Reader_Raw.f s0_0 s0_1 s0_2 a1 = some (r1, r2, r3, r4, r5)) :
    Calls Try.prog 79 #[.pointer (some ⟨g, 0, none⟩), .int .i64 a1] w fun e w' => e = .returned (.tuple #[.string r1, .int .i64 r2]) ∧ IsS100 w0 w' g r3 r4 r5 ∧ Below w0.heap.size w0 w' ∧ KeepBut w w' g none := by
  have HI0 := Aside0.mk hI
  have HK := Aside0.mk (KeepBut.refl w g none)
  have HL := Aside0.mk hB.size
  clear hI
  have HW0 := Aside0.mk hB.size
  have HB := Aside0.mk hB
  clear hB
  have H : (if s0_2 = 0 then (if a1 < 0 then ((gantryref02_Reader_fail.f s0_0 s0_1 s0_2 1).bind fun bt223 => (some ((⟨#[]⟩ : ByteArray), bt223.1, bt223.2.1, bt223.2.2.1, bt223.2.2.2))) else ((gantryref02_Reader_Left.f s0_0 s0_1 s0_2).bind fun bt227 => (if a1 > bt227.1 then ((gantryref02_Reader_fail.f bt227.2.1 bt227.2.2.1 bt227.2.2.2 20).bind fun bt231 => (some ((⟨#[]⟩ : ByteArray), bt231.1, bt231.2.1, bt231.2.2.1, bt231.2.2.2))) else (if 0 ≤ bt227.2.2.1 then (if bt227.2.2.1 ≤ (wrap64 (bt227.2.2.1 + a1)) then (if (wrap64 (bt227.2.2.1 + a1)) ≤ (bt227.2.1.size : Int) then (some (bt227.2.1.extract (bt227.2.2.1 : Int).toNat ((wrap64 (bt227.2.2.1 + a1)) : Int).toNat, 0, bt227.2.1, wrap64 (bt227.2.2.1 + a1), bt227.2.2.2)) else (none)) else (none)) else (none))))) else (some ((⟨#[]⟩ : ByteArray), s0_2, s0_0, s0_1, s0_2))) = some (r1, r2, r3, r4, r5) := h
  clear h
  by_cases c3 : s0_2 = 0
  · rw [if_pos c3] at H
    have c3b0 : (s0_2 == 0) = true := beq_iff_eq.mpr c3
    have c3b1 : (s0_2 != 0) = false := bne_eq_false_iff_eq.mpr c3
    clear c3
    by_cases c4 : a1 < 0
    · rw [if_pos c4] at H
      have c4b0 : decide (a1 < 0) = true := decide_eq_true c4
      clear c4
      replace H := Option.bind_eq_some_iff.mp H
      obtain ⟨⟨t223, t224, t225, t226⟩, A50, H⟩ := H
      replace H : (some ((⟨#[]⟩ : ByteArray), t223, t224, t225, t226)) = some (r1, r2, r3, r4, r5) := H
      have A5 := Aside0.mk A50
      clear A50
      simp only [Option.some.injEq, Prod.mk.injEq] at H
      obtain ⟨rfl, rfl, rfl, rfl, rfl⟩ := H
      obtain ⟨HGz6, hgz6⟩ := HI0.out
      have hcz6_0 := cellS100_0 HGz6
      have hcz6_1 := cellS100_1 HGz6
      have hcz6_2 := cellS100_2 HGz6
      have hfz6_0 := blk_frozen HGz6 0
      have hfz6_1 := blk_frozen HGz6 1
      have hfz6_2 := blk_frozen HGz6 2
      clear HGz6 hgz6
      go_enter Try.func79, Try.ntmps79
      go_wp2_with (first | (go_at_call 110; (with_reducible refine (gantryref02_Reader_fail.calls g s0_0 s0_1 s0_2 1 t223 t224 t225 t226 w0 _ ?side1 ?side2 A5.out).mono ?_); (case side1 => repeat (first | (with_reducible first | exact HI0.out | apply IsS100.alloc | apply IsS100.drewN | apply IsS100.drew | apply IsS100.set_0 | apply IsS100.set_1 | apply IsS100.set_2) | exact HI0.out)); (case side2 => repeat (first | (with_reducible first | exact HB.out | apply below_alloc | apply pw_below_drewN | apply below_drew1 | refine below_set ?_ (IsS100.ge HI0.out)) | exact HB.out)); rintro e w7 ⟨rfl, hi, hb, hk⟩; have n0_ := Aside0.mk (KeepBut.trans (by repeat (first | (with_reducible first | exact HK.out | apply KeepBut.set_ | apply keep_drewN | apply keep_drew | apply keep_alloc) | exact HK.out)) hk (.inl rfl)); have n1_ := Aside0.mk (hb); have n2_ := Aside0.mk (hi); clear HK; clear HB; clear HI0; have HK := n0_; have HB := n1_; have HI0 := n2_; clear n0_ n1_ n2_; (try clear hb); (try clear hb2); (try clear hk); (try clear hi)))
      repeat (go_quiet (first | (go_at_call 110; (with_reducible refine (gantryref02_Reader_fail.calls g s0_0 s0_1 s0_2 1 t223 t224 t225 t226 w0 _ ?side1 ?side2 A5.out).mono ?_); (case side1 => repeat (first | (with_reducible first | exact HI0.out | apply IsS100.alloc | apply IsS100.drewN | apply IsS100.drew | apply IsS100.set_0 | apply IsS100.set_1 | apply IsS100.set_2) | exact HI0.out)); (case side2 => repeat (first | (with_reducible first | exact HB.out | apply below_alloc | apply pw_below_drewN | apply below_drew1 | refine below_set ?_ (IsS100.ge HI0.out)) | exact HB.out)); rintro e w7 ⟨rfl, hi, hb, hk⟩; have n0_ := Aside0.mk (KeepBut.trans (by repeat (first | (with_reducible first | exact HK.out | apply KeepBut.set_ | apply keep_drewN | apply keep_drew | apply keep_alloc) | exact HK.out)) hk (.inl rfl)); have n1_ := Aside0.mk (hb); have n2_ := Aside0.mk (hi); clear HK; clear HB; clear HI0; have HK := n0_; have HB := n1_; have HI0 := n2_; clear n0_ n1_ n2_; (try clear hb); (try clear hb2); (try clear hk); (try clear hi))); try go_wp2_with (first | (go_at_call 110; (with_reducible refine (gantryref02_Reader_fail.calls g s0_0 s0_1 s0_2 1 t223 t224 t225 t226 w0 _ ?side1 ?side2 A5.out).mono ?_); (case side1 => repeat (first | (with_reducible first | exact HI0.out | apply IsS100.alloc | apply IsS100.drewN | apply IsS100.drew | apply IsS100.set_0 | apply IsS100.set_1 | apply IsS100.set_2) | exact HI0.out)); (case side2 => repeat (first | (with_reducible first | exact HB.out | apply below_alloc | apply pw_below_drewN | apply below_drew1 | refine below_set ?_ (IsS100.ge HI0.out)) | exact HB.out)); rintro e w7 ⟨rfl, hi, hb, hk⟩; have n0_ := Aside0.mk (KeepBut.trans (by repeat (first | (with_reducible first | exact HK.out | apply KeepBut.set_ | apply keep_drewN | apply keep_drew | apply keep_alloc) | exact HK.out)) hk (.inl rfl)); have n1_ := Aside0.mk (hb); have n2_ := Aside0.mk (hi); clear HK; clear HB; clear HI0; have HK := n0_; have HB := n1_; have HI0 := n2_; clear n0_ n1_ n2_; (try clear hb); (try clear hb2); (try clear hk); (try clear hi))))
      go_ret2
      exact ⟨by first | rfl | (simp [errW_none, errW_some] <;> rfl) | (simp [*, errW_none, errW_some] <;> rfl), by repeat (first | (with_reducible first | exact HI0.out | apply IsS100.alloc | apply IsS100.drewN | apply IsS100.drew | apply IsS100.set_0 | apply IsS100.set_1 | apply IsS100.set_2) | exact HI0.out), by repeat (first | (with_reducible first | exact HB.out | apply below_alloc | apply pw_below_drewN | apply below_drew1 | refine below_set ?_ (IsS100.ge HI0.out)) | exact HB.out), by repeat (first | (with_reducible first | exact HK.out | apply KeepBut.set_ | apply keep_drewN | apply keep_drew | apply keep_alloc) | exact HK.out)⟩
    · rw [if_neg c4] at H
      have c4b0 : decide (a1 < 0) = false := decide_eq_false c4
      clear c4
      replace H := Option.bind_eq_some_iff.mp H
      obtain ⟨⟨t227, t228, t229, t230⟩, A80, H⟩ := H
      replace H : (if a1 > t227 then ((gantryref02_Reader_fail.f t228 t229 t230 20).bind fun bt231 => (some ((⟨#[]⟩ : ByteArray), bt231.1, bt231.2.1, bt231.2.2.1, bt231.2.2.2))) else (if 0 ≤ t229 then (if t229 ≤ (wrap64 (t229 + a1)) then (if (wrap64 (t229 + a1)) ≤ (t228.size : Int) then (some (t228.extract (t229 : Int).toNat ((wrap64 (t229 + a1)) : Int).toNat, 0, t228, wrap64 (t229 + a1), t230)) else (none)) else (none)) else (none))) = some (r1, r2, r3, r4, r5) := H
      have A8 := Aside0.mk A80
      clear A80
      by_cases c9 : a1 > t227
      · rw [if_pos c9] at H
        have c9b0 : decide (t227 < a1) = true := decide_eq_true c9
        clear c9
        replace H := Option.bind_eq_some_iff.mp H
        obtain ⟨⟨t231, t232, t233, t234⟩, A100, H⟩ := H
        replace H : (some ((⟨#[]⟩ : ByteArray), t231, t232, t233, t234)) = some (r1, r2, r3, r4, r5) := H
        have A10 := Aside0.mk A100
        clear A100
        simp only [Option.some.injEq, Prod.mk.injEq] at H
        obtain ⟨rfl, rfl, rfl, rfl, rfl⟩ := H
        obtain ⟨HGz11, hgz11⟩ := HI0.out
        have hcz11_0 := cellS100_0 HGz11
        have hcz11_1 := cellS100_1 HGz11
        have hcz11_2 := cellS100_2 HGz11
        have hfz11_0 := blk_frozen HGz11 0
        have hfz11_1 := blk_frozen HGz11 1
        have hfz11_2 := blk_frozen HGz11 2
        clear HGz11 hgz11
        go_enter Try.func79, Try.ntmps79
        go_wp2_with (first | (go_at_call 33; (with_reducible refine (gantryref02_Reader_Left.calls g s0_0 s0_1 s0_2 t227 t228 t229 t230 w0 _ ?side1 ?side2 A8.out).mono ?_); (case side1 => repeat (first | (with_reducible first | exact HI0.out | apply IsS100.alloc | apply IsS100.drewN | apply IsS100.drew | apply IsS100.set_0 | apply IsS100.set_1 | apply IsS100.set_2) | exact HI0.out)); (case side2 => repeat (first | (with_reducible first | exact HB.out | apply below_alloc | apply pw_below_drewN | apply below_drew1 | refine below_set ?_ (IsS100.ge HI0.out)) | exact HB.out)); rintro e w12 ⟨rfl, hi, hb, hk⟩; have n0_ := Aside0.mk (KeepBut.trans (by repeat (first | (with_reducible first | exact HK.out | apply KeepBut.set_ | apply keep_drewN | apply keep_drew | apply keep_alloc) | exact HK.out)) hk (.inl rfl)); have n1_ := Aside0.mk (hb); have n2_ := Aside0.mk (hi); clear HK; clear HB; clear HI0; have HK := n0_; have HB := n1_; have HI0 := n2_; clear n0_ n1_ n2_; (try clear hb); (try clear hb2); (try clear hk); (try clear hi)) | (go_at_call 110; (with_reducible refine (gantryref02_Reader_fail.calls g t228 t229 t230 20 t231 t232 t233 t234 w0 _ ?side1 ?side2 A10.out).mono ?_); (case side1 => repeat (first | (with_reducible first | exact HI0.out | apply IsS100.alloc | apply IsS100.drewN | apply IsS100.drew | apply IsS100.set_0 | apply IsS100.set_1 | apply IsS100.set_2) | exact HI0.out)); (case side2 => repeat (first | (with_reducible first | exact HB.out | apply below_alloc | apply pw_below_drewN | apply below_drew1 | refine below_set ?_ (IsS100.ge HI0.out)) | exact HB.out)); rintro e w13 ⟨rfl, hi, hb, hk⟩; have n0_ := Aside0.mk (KeepBut.trans (by repeat (first | (with_reducible first | exact HK.out | apply KeepBut.set_ | apply keep_drewN | apply keep_drew | apply keep_alloc) | exact HK.out)) hk (.inl rfl)); have n1_ := Aside0.mk (hb); have n2_ := Aside0.mk (hi); clear HK; clear HB; clear HI0; have HK := n0_; have HB := n1_; have HI0 := n2_; clear n0_ n1_ n2_; (try clear hb); (try clear hb2); (try clear hk); (try clear hi)))
        repeat (go_quiet (first | (go_at_call 33; (with_reducible refine (gantryref02_Reader_Left.calls g s0_0 s0_1 s0_2 t227 t228 t229 t230 w0 _ ?side1 ?side2 A8.out).mono ?_); (case side1 => repeat (first | (with_reducible first | exact HI0.out | apply IsS100.alloc | apply IsS100.drewN | apply IsS100.drew | apply IsS100.set_0 | apply IsS100.set_1 | apply IsS100.set_2) | exact HI0.out)); (case side2 => repeat (first | (with_reducible first | exact HB.out | apply below_alloc | apply pw_below_drewN | apply below_drew1 | refine below_set ?_ (IsS100.ge HI0.out)) | exact HB.out)); rintro e w12 ⟨rfl, hi, hb, hk⟩; have n0_ := Aside0.mk (KeepBut.trans (by repeat (first | (with_reducible first | exact HK.out | apply KeepBut.set_ | apply keep_drewN | apply keep_drew | apply keep_alloc) | exact HK.out)) hk (.inl rfl)); have n1_ := Aside0.mk (hb); have n2_ := Aside0.mk (hi); clear HK; clear HB; clear HI0; have HK := n0_; have HB := n1_; have HI0 := n2_; clear n0_ n1_ n2_; (try clear hb); (try clear hb2); (try clear hk); (try clear hi)) | (go_at_call 110; (with_reducible refine (gantryref02_Reader_fail.calls g t228 t229 t230 20 t231 t232 t233 t234 w0 _ ?side1 ?side2 A10.out).mono ?_); (case side1 => repeat (first | (with_reducible first | exact HI0.out | apply IsS100.alloc | apply IsS100.drewN | apply IsS100.drew | apply IsS100.set_0 | apply IsS100.set_1 | apply IsS100.set_2) | exact HI0.out)); (case side2 => repeat (first | (with_reducible first | exact HB.out | apply below_alloc | apply pw_below_drewN | apply below_drew1 | refine below_set ?_ (IsS100.ge HI0.out)) | exact HB.out)); rintro e w13 ⟨rfl, hi, hb, hk⟩; have n0_ := Aside0.mk (KeepBut.trans (by repeat (first | (with_reducible first | exact HK.out | apply KeepBut.set_ | apply keep_drewN | apply keep_drew | apply keep_alloc) | exact HK.out)) hk (.inl rfl)); have n1_ := Aside0.mk (hb); have n2_ := Aside0.mk (hi); clear HK; clear HB; clear HI0; have HK := n0_; have HB := n1_; have HI0 := n2_; clear n0_ n1_ n2_; (try clear hb); (try clear hb2); (try clear hk); (try clear hi))); try go_wp2_with (first | (go_at_call 33; (with_reducible refine (gantryref02_Reader_Left.calls g s0_0 s0_1 s0_2 t227 t228 t229 t230 w0 _ ?side1 ?side2 A8.out).mono ?_); (case side1 => repeat (first | (with_reducible first | exact HI0.out | apply IsS100.alloc | apply IsS100.drewN | apply IsS100.drew | apply IsS100.set_0 | apply IsS100.set_1 | apply IsS100.set_2) | exact HI0.out)); (case side2 => repeat (first | (with_reducible first | exact HB.out | apply below_alloc | apply pw_below_drewN | apply below_drew1 | refine below_set ?_ (IsS100.ge HI0.out)) | exact HB.out)); rintro e w12 ⟨rfl, hi, hb, hk⟩; have n0_ := Aside0.mk (KeepBut.trans (by repeat (first | (with_reducible first | exact HK.out | apply KeepBut.set_ | apply keep_drewN | apply keep_drew | apply keep_alloc) | exact HK.out)) hk (.inl rfl)); have n1_ := Aside0.mk (hb); have n2_ := Aside0.mk (hi); clear HK; clear HB; clear HI0; have HK := n0_; have HB := n1_; have HI0 := n2_; clear n0_ n1_ n2_; (try clear hb); (try clear hb2); (try clear hk); (try clear hi)) | (go_at_call 110; (with_reducible refine (gantryref02_Reader_fail.calls g t228 t229 t230 20 t231 t232 t233 t234 w0 _ ?side1 ?side2 A10.out).mono ?_); (case side1 => repeat (first | (with_reducible first | exact HI0.out | apply IsS100.alloc | apply IsS100.drewN | apply IsS100.drew | apply IsS100.set_0 | apply IsS100.set_1 | apply IsS100.set_2) | exact HI0.out)); (case side2 => repeat (first | (with_reducible first | exact HB.out | apply below_alloc | apply pw_below_drewN | apply below_drew1 | refine below_set ?_ (IsS100.ge HI0.out)) | exact HB.out)); rintro e w13 ⟨rfl, hi, hb, hk⟩; have n0_ := Aside0.mk (KeepBut.trans (by repeat (first | (with_reducible first | exact HK.out | apply KeepBut.set_ | apply keep_drewN | apply keep_drew | apply keep_alloc) | exact HK.out)) hk (.inl rfl)); have n1_ := Aside0.mk (hb); have n2_ := Aside0.mk (hi); clear HK; clear HB; clear HI0; have HK := n0_; have HB := n1_; have HI0 := n2_; clear n0_ n1_ n2_; (try clear hb); (try clear hb2); (try clear hk); (try clear hi))))
        go_ret2
        exact ⟨by first | rfl | (simp [errW_none, errW_some] <;> rfl) | (simp [*, errW_none, errW_some] <;> rfl), by repeat (first | (with_reducible first | exact HI0.out | apply IsS100.alloc | apply IsS100.drewN | apply IsS100.drew | apply IsS100.set_0 | apply IsS100.set_1 | apply IsS100.set_2) | exact HI0.out), by repeat (first | (with_reducible first | exact HB.out | apply below_alloc | apply pw_below_drewN | apply below_drew1 | refine below_set ?_ (IsS100.ge HI0.out)) | exact HB.out), by repeat (first | (with_reducible first | exact HK.out | apply KeepBut.set_ | apply keep_drewN | apply keep_drew | apply keep_alloc) | exact HK.out)⟩
      · rw [if_neg c9] at H
        have c9b0 : decide (t227 < a1) = false := decide_eq_false c9
        clear c9
        by_cases c14 : 0 ≤ t229
        · rw [if_pos c14] at H
          have c14b0 := eq_true c14
          have c14b1 : decide (0 ≤ t229) = true := decide_eq_true c14
          clear c14
          by_cases c15 : t229 ≤ (wrap64 (t229 + a1))
          · rw [if_pos c15] at H
            have c15b0 := eq_true c15
            have c15b1 : decide (t229 ≤ (wrap64 (t229 + a1))) = true := decide_eq_true c15
            by_cases c16 : (wrap64 (t229 + a1)) ≤ (t228.size : Int)
            · rw [if_pos c16] at H
              have c16b0 := eq_true c16
              have c16b1 : decide ((wrap64 (t229 + a1)) ≤ (t228.size : Int)) = true := decide_eq_true c16
              simp only [Option.some.injEq, Prod.mk.injEq] at H
              obtain ⟨rfl, rfl, rfl, rfl, rfl⟩ := H
              obtain ⟨HGz17, hgz17⟩ := HI0.out
              have hcz17_0 := cellS100_0 HGz17
              have hcz17_1 := cellS100_1 HGz17
              have hcz17_2 := cellS100_2 HGz17
              have hfz17_0 := blk_frozen HGz17 0
              have hfz17_1 := blk_frozen HGz17 1
              have hfz17_2 := blk_frozen HGz17 2
              clear HGz17 hgz17
              go_enter Try.func79, Try.ntmps79
              go_wp2_with (first | (go_at_call 33; (with_reducible refine (gantryref02_Reader_Left.calls g s0_0 s0_1 s0_2 t227 t228 t229 t230 w0 _ ?side1 ?side2 A8.out).mono ?_); (case side1 => repeat (first | (with_reducible first | exact HI0.out | apply IsS100.alloc | apply IsS100.drewN | apply IsS100.drew | apply IsS100.set_0 | apply IsS100.set_1 | apply IsS100.set_2) | exact HI0.out)); (case side2 => repeat (first | (with_reducible first | exact HB.out | apply below_alloc | apply pw_below_drewN | apply below_drew1 | refine below_set ?_ (IsS100.ge HI0.out)) | exact HB.out)); rintro e w18 ⟨rfl, hi, hb, hk⟩; have n0_ := Aside0.mk (KeepBut.trans (by repeat (first | (with_reducible first | exact HK.out | apply KeepBut.set_ | apply keep_drewN | apply keep_drew | apply keep_alloc) | exact HK.out)) hk (.inl rfl)); have n1_ := Aside0.mk (hb); have n2_ := Aside0.mk (hi); clear HK; clear HB; clear HI0; have HK := n0_; have HB := n1_; have HI0 := n2_; clear n0_ n1_ n2_; (try clear hb); (try clear hb2); (try clear hk); (try clear hi); obtain ⟨HGz19, hgz19⟩ := HI0.out; have hcz19_0 := cellS100_0 HGz19; have hcz19_1 := cellS100_1 HGz19; have hcz19_2 := cellS100_2 HGz19; have hfz19_0 := blk_frozen HGz19 0; have hfz19_1 := blk_frozen HGz19 1; have hfz19_2 := blk_frozen HGz19 2; clear HGz19 hgz19))
              repeat (go_quiet (first | (go_at_call 33; (with_reducible refine (gantryref02_Reader_Left.calls g s0_0 s0_1 s0_2 t227 t228 t229 t230 w0 _ ?side1 ?side2 A8.out).mono ?_); (case side1 => repeat (first | (with_reducible first | exact HI0.out | apply IsS100.alloc | apply IsS100.drewN | apply IsS100.drew | apply IsS100.set_0 | apply IsS100.set_1 | apply IsS100.set_2) | exact HI0.out)); (case side2 => repeat (first | (with_reducible first | exact HB.out | apply below_alloc | apply pw_below_drewN | apply below_drew1 | refine below_set ?_ (IsS100.ge HI0.out)) | exact HB.out)); rintro e w18 ⟨rfl, hi, hb, hk⟩; have n0_ := Aside0.mk (KeepBut.trans (by repeat (first | (with_reducible first | exact HK.out | apply KeepBut.set_ | apply keep_drewN | apply keep_drew | apply keep_alloc) | exact HK.out)) hk (.inl rfl)); have n1_ := Aside0.mk (hb); have n2_ := Aside0.mk (hi); clear HK; clear HB; clear HI0; have HK := n0_; have HB := n1_; have HI0 := n2_; clear n0_ n1_ n2_; (try clear hb); (try clear hb2); (try clear hk); (try clear hi); obtain ⟨HGz19, hgz19⟩ := HI0.out; have hcz19_0 := cellS100_0 HGz19; have hcz19_1 := cellS100_1 HGz19; have hcz19_2 := cellS100_2 HGz19; have hfz19_0 := blk_frozen HGz19 0; have hfz19_1 := blk_frozen HGz19 1; have hfz19_2 := blk_frozen HGz19 2; clear HGz19 hgz19)); try go_wp2_with (first | (go_at_call 33; (with_reducible refine (gantryref02_Reader_Left.calls g s0_0 s0_1 s0_2 t227 t228 t229 t230 w0 _ ?side1 ?side2 A8.out).mono ?_); (case side1 => repeat (first | (with_reducible first | exact HI0.out | apply IsS100.alloc | apply IsS100.drewN | apply IsS100.drew | apply IsS100.set_0 | apply IsS100.set_1 | apply IsS100.set_2) | exact HI0.out)); (case side2 => repeat (first | (with_reducible first | exact HB.out | apply below_alloc | apply pw_below_drewN | apply below_drew1 | refine below_set ?_ (IsS100.ge HI0.out)) | exact HB.out)); rintro e w18 ⟨rfl, hi, hb, hk⟩; have n0_ := Aside0.mk (KeepBut.trans (by repeat (first | (with_reducible first | exact HK.out | apply KeepBut.set_ | apply keep_drewN | apply keep_drew | apply keep_alloc) | exact HK.out)) hk (.inl rfl)); have n1_ := Aside0.mk (hb); have n2_ := Aside0.mk (hi); clear HK; clear HB; clear HI0; have HK := n0_; have HB := n1_; have HI0 := n2_; clear n0_ n1_ n2_; (try clear hb); (try clear hb2); (try clear hk); (try clear hi); obtain ⟨HGz19, hgz19⟩ := HI0.out; have hcz19_0 := cellS100_0 HGz19; have hcz19_1 := cellS100_1 HGz19; have hcz19_2 := cellS100_2 HGz19; have hfz19_0 := blk_frozen HGz19 0; have hfz19_1 := blk_frozen HGz19 1; have hfz19_2 := blk_frozen HGz19 2; clear HGz19 hgz19)))
              go_ret2
              exact ⟨by first | rfl | (simp [errW_none, errW_some] <;> rfl) | (simp [*, errW_none, errW_some] <;> rfl), by repeat (first | (with_reducible first | exact HI0.out | apply IsS100.alloc | apply IsS100.drewN | apply IsS100.drew | apply IsS100.set_0 | apply IsS100.set_1 | apply IsS100.set_2) | exact HI0.out), by repeat (first | (with_reducible first | exact HB.out | apply below_alloc | apply pw_below_drewN | apply below_drew1 | refine below_set ?_ (IsS100.ge HI0.out)) | exact HB.out), by repeat (first | (with_reducible first | exact HK.out | apply KeepBut.set_ | apply keep_drewN | apply keep_drew | apply keep_alloc) | exact HK.out)⟩
            · rw [if_neg c16] at H
              exact absurd H (by simp)
          · rw [if_neg c15] at H
            exact absurd H (by simp)
        · rw [if_neg c14] at H
          exact absurd H (by simp)
  · rw [if_neg c3] at H
    have c3b0 : (s0_2 == 0) = false := beq_eq_false_iff_ne.mpr c3
    have c3b1 : (s0_2 != 0) = true := bne_iff_ne.mpr c3
    simp only [Option.some.injEq, Prod.mk.injEq] at H
    obtain ⟨rfl, rfl, rfl, rfl, rfl⟩ := H
    obtain ⟨HGz20, hgz20⟩ := HI0.out
    have hcz20_0 := cellS100_0 HGz20
    have hcz20_1 := cellS100_1 HGz20
    have hcz20_2 := cellS100_2 HGz20
    have hfz20_0 := blk_frozen HGz20 0
    have hfz20_1 := blk_frozen HGz20 1
    have hfz20_2 := blk_frozen HGz20 2
    clear HGz20 hgz20
    go_enter Try.func79, Try.ntmps79
    go_wp2
    repeat (go_quiet (fail); try go_wp2)
    go_ret2
    exact ⟨by first | rfl | (simp [errW_none, errW_some] <;> rfl) | (simp [*, errW_none, errW_some] <;> rfl), by repeat (first | (with_reducible first | exact HI0.out | apply IsS100.alloc | apply IsS100.drewN | apply IsS100.drew | apply IsS100.set_0 | apply IsS100.set_1 | apply IsS100.set_2) | exact HI0.out), by repeat (first | (with_reducible first | exact HB.out | apply below_alloc | apply pw_below_drewN | apply below_drew1 | refine below_set ?_ (IsS100.ge HI0.out)) | exact HB.out), by repeat (first | (with_reducible first | exact HK.out | apply KeepBut.set_ | apply keep_drewN | apply keep_drew | apply keep_alloc) | exact HK.out)⟩

end Go.Proofs.Ytclnpedmoelipaa.QW
