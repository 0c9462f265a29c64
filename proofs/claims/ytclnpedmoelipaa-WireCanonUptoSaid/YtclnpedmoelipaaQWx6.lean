/- The machine side of a law, written by a program of this session (the kit printer, changed; wip/tools/mkprint.py): functions, their calls, the row. Lean checks it. -/
import Derived.Test.YtclnpedmoelipaaQWx0
import Derived.Test.YtclnpedmoelipaaQWx5
namespace Go.Proofs.Ytclnpedmoelipaa.QW
open Go.RowKit Go.Proofs.YtclnpedmoelipaaW.PrintWords Go.Proofs.YtclnpedmoelipaaW.PrintLast Go.Proofs.YtclnpedmoelipaaW.PrintMore
attribute [local go_sem] max2_int min2_int max_two min_two max_three min_three max_four min_four   -- for this text's walks alone
set_option linter.unusedVariables false
set_option linter.unusedSimpArgs false

/-! ### gantryref02_Reader_Done: function 37 -/
def gantryref02_Reader_Done.f (s0_0 : ByteArray) (s0_1 : Int) (s0_2 : Int) : Option (Int × ByteArray × Int × Int) := if s0_2 = 0 then ((gantryref02_Reader_Left.f s0_0 s0_1 s0_2).bind fun bt168 => (if bt168.1 > 0 then (some (22, bt168.2.1, bt168.2.2.1, bt168.2.2.2)) else (some (bt168.2.2.2, bt168.2.1, bt168.2.2.1, bt168.2.2.2)))) else (some (s0_2, s0_0, s0_1, s0_2))
set_option maxHeartbeats 8000000 in
set_option maxRecDepth 100000 in
theorem gantryref02_Reader_Done.calls (g : Nat) (s0_0 : ByteArray) (s0_1 : Int) (s0_2 : Int) (r1 : Int) (r2 : ByteArray) (r3 : Int) (r4 : Int) (w0 w : World) (hI : IsS100 w0 w g s0_0 s0_1 s0_2) (hB : Below w0.heap.size w0 w) (h : gantryref02_Reader_Done.f s0_0 s0_1 s0_2 = some (r1, r2, r3, r4)) :
    Calls Try.prog 37 #[.pointer (some ⟨g, 0, none⟩)] w fun e w' => e = .returned (.int .i64 r1) ∧ IsS100 w0 w' g r2 r3 r4 ∧ Below w0.heap.size w0 w' ∧ KeepBut w w' g none := by
  have HI0 := Aside0.mk hI
  have HK := Aside0.mk (KeepBut.refl w g none)
  have HL := Aside0.mk hB.size
  clear hI
  have HW0 := Aside0.mk hB.size
  have HB := Aside0.mk hB
  clear hB
  have H : (if s0_2 = 0 then ((gantryref02_Reader_Left.f s0_0 s0_1 s0_2).bind fun bt168 => (if bt168.1 > 0 then (some (22, bt168.2.1, bt168.2.2.1, bt168.2.2.2)) else (some (bt168.2.2.2, bt168.2.1, bt168.2.2.1, bt168.2.2.2)))) else (some (s0_2, s0_0, s0_1, s0_2))) = some (r1, r2, r3, r4) := h
  clear h
  by_cases c2 : s0_2 = 0
  · rw [if_pos c2] at H
    have c2b0 : (s0_2 == 0) = true := beq_iff_eq.mpr c2
    have c2b1 : (s0_2 != 0) = false := bne_eq_false_iff_eq.mpr c2
    clear c2
    replace H := Option.bind_eq_some_iff.mp H
    obtain ⟨⟨t168, t169, t170, t171⟩, A30, H⟩ := H
    replace H : (if t168 > 0 then (some (22, t169, t170, t171)) else (some (t171, t169, t170, t171))) = some (r1, r2, r3, r4) := H
    have A3 := Aside0.mk A30
    clear A30
    by_cases c4 : t168 > 0
    · rw [if_pos c4] at H
      have c4b0 : decide (0 < t168) = true := decide_eq_true c4
      clear c4
      simp only [Option.some.injEq, Prod.mk.injEq] at H
      obtain ⟨rfl, rfl, rfl, rfl⟩ := H
      obtain ⟨HGz5, hgz5⟩ := HI0.out
      have hcz5_0 := cellS100_0 HGz5
      have hcz5_1 := cellS100_1 HGz5
      have hcz5_2 := cellS100_2 HGz5
      have hfz5_0 := blk_frozen HGz5 0
      have hfz5_1 := blk_frozen HGz5 1
      have hfz5_2 := blk_frozen HGz5 2
      clear HGz5 hgz5
      go_enter Try.func37, Try.ntmps37
      go_wp2_with (first | (go_at_call 33; (with_reducible refine (gantryref02_Reader_Left.calls g s0_0 s0_1 s0_2 t168 t169 t170 t171 w0 _ ?side1 ?side2 A3.out).mono ?_); (case side1 => repeat (first | (with_reducible first | exact HI0.out | apply IsS100.alloc | apply IsS100.drewN | apply IsS100.drew | apply IsS100.set_0 | apply IsS100.set_1 | apply IsS100.set_2) | exact HI0.out)); (case side2 => repeat (first | (with_reducible first | exact HB.out | apply below_alloc | apply pw_below_drewN | apply below_drew1 | refine below_set ?_ (IsS100.ge HI0.out)) | exact HB.out)); rintro e w6 ⟨rfl, hi, hb, hk⟩; have n0_ := Aside0.mk (KeepBut.trans (by repeat (first | (with_reducible first | exact HK.out | apply KeepBut.set_ | apply keep_drewN | apply keep_drew | apply keep_alloc) | exact HK.out)) hk (.inl rfl)); have n1_ := Aside0.mk (hb); have n2_ := Aside0.mk (hi); clear HK; clear HB; clear HI0; have HK := n0_; have HB := n1_; have HI0 := n2_; clear n0_ n1_ n2_; (try clear hb); (try clear hb2); (try clear hk); (try clear hi)))
      go_ret
      exact ⟨by first | rfl | (simp [errW_none, errW_some] <;> rfl) | (simp [*, errW_none, errW_some] <;> rfl), by repeat (first | (with_reducible first | exact HI0.out | apply IsS100.alloc | apply IsS100.drewN | apply IsS100.drew | apply IsS100.set_0 | apply IsS100.set_1 | apply IsS100.set_2) | exact HI0.out), by repeat (first | (with_reducible first | exact HB.out | apply below_alloc | apply pw_below_drewN | apply below_drew1 | refine below_set ?_ (IsS100.ge HI0.out)) | exact HB.out), by repeat (first | (with_reducible first | exact HK.out | apply KeepBut.set_ | apply keep_drewN | apply keep_drew | apply keep_alloc) | exact HK.out)⟩
    · rw [if_neg c4] at H
      have c4b0 : decide (0 < t168) = false := decide_eq_false c4
      clear c4
      simp only [Option.some.injEq, Prod.mk.injEq] at H
      obtain ⟨rfl, rfl, rfl, rfl⟩ := H
      obtain ⟨HGz7, hgz7⟩ := HI0.out
      have hcz7_0 := cellS100_0 HGz7
      have hcz7_1 := cellS100_1 HGz7
      have hcz7_2 := cellS100_2 HGz7
      have hfz7_0 := blk_frozen HGz7 0
      have hfz7_1 := blk_frozen HGz7 1
      have hfz7_2 := blk_frozen HGz7 2
      clear HGz7 hgz7
      go_enter Try.func37, Try.ntmps37
      go_wp2_with (first | (go_at_call 33; (with_reducible refine (gantryref02_Reader_Left.calls g s0_0 s0_1 s0_2 t168 t169 t170 t171 w0 _ ?side1 ?side2 A3.out).mono ?_); (case side1 => repeat (first | (with_reducible first | exact HI0.out | apply IsS100.alloc | apply IsS100.drewN | apply IsS100.drew | apply IsS100.set_0 | apply IsS100.set_1 | apply IsS100.set_2) | exact HI0.out)); (case side2 => repeat (first | (with_reducible first | exact HB.out | apply below_alloc | apply pw_below_drewN | apply below_drew1 | refine below_set ?_ (IsS100.ge HI0.out)) | exact HB.out)); rintro e w8 ⟨rfl, hi, hb, hk⟩; have n0_ := Aside0.mk (KeepBut.trans (by repeat (first | (with_reducible first | exact HK.out | apply KeepBut.set_ | apply keep_drewN | apply keep_drew | apply keep_alloc) | exact HK.out)) hk (.inl rfl)); have n1_ := Aside0.mk (hb); have n2_ := Aside0.mk (hi); clear HK; clear HB; clear HI0; have HK := n0_; have HB := n1_; have HI0 := n2_; clear n0_ n1_ n2_; (try clear hb); (try clear hb2); (try clear hk); (try clear hi); obtain ⟨HGz9, hgz9⟩ := HI0.out; have hcz9_0 := cellS100_0 HGz9; have hcz9_1 := cellS100_1 HGz9; have hcz9_2 := cellS100_2 HGz9; have hfz9_0 := blk_frozen HGz9 0; have hfz9_1 := blk_frozen HGz9 1; have hfz9_2 := blk_frozen HGz9 2; clear HGz9 hgz9))
      go_ret
      exact ⟨by first | rfl | (simp [errW_none, errW_some] <;> rfl) | (simp [*, errW_none, errW_some] <;> rfl), by repeat (first | (with_reducible first | exact HI0.out | apply IsS100.alloc | apply IsS100.drewN | apply IsS100.drew | apply IsS100.set_0 | apply IsS100.set_1 | apply IsS100.set_2) | exact HI0.out), by repeat (first | (with_reducible first | exact HB.out | apply below_alloc | apply pw_below_drewN | apply below_drew1 | refine below_set ?_ (IsS100.ge HI0.out)) | exact HB.out), by repeat (first | (with_reducible first | exact HK.out | apply KeepBut.set_ | apply keep_drewN | apply keep_drew | apply keep_alloc) | exact HK.out)⟩
  · rw [if_neg c2] at H
    have c2b0 : (s0_2 == 0) = false := beq_eq_false_iff_ne.mpr c2
    have c2b1 : (s0_2 != 0) = true := bne_iff_ne.mpr c2
    simp only [Option.some.injEq, Prod.mk.injEq] at H
    obtain ⟨rfl, rfl, rfl, rfl⟩ := H
    obtain ⟨HGz10, hgz10⟩ := HI0.out
    have hcz10_0 := cellS100_0 HGz10
    have hcz10_1 := cellS100_1 HGz10
    have hcz10_2 := cellS100_2 HGz10
    have hfz10_0 := blk_frozen HGz10 0
    have hfz10_1 := blk_frozen HGz10 1
    have hfz10_2 := blk_frozen HGz10 2
    clear HGz10 hgz10
    go_enter Try.func37, Try.ntmps37
    go_wp2
    go_ret
    exact ⟨by first | rfl | (simp [errW_none, errW_some] <;> rfl) | (simp [*, errW_none, errW_some] <;> rfl), by repeat (first | (with_reducible first | exact HI0.out | apply IsS100.alloc | apply IsS100.drewN | apply IsS100.drew | apply IsS100.set_0 | apply IsS100.set_1 | apply IsS100.set_2) | exact HI0.out), by repeat (first | (with_reducible first | exact HB.out | apply below_alloc | apply pw_below_drewN | apply below_drew1 | refine below_set ?_ (IsS100.ge HI0.out)) | exact HB.out), by repeat (first | (with_reducible first | exact HK.out | apply KeepBut.set_ | apply keep_drewN | apply keep_drew | apply keep_alloc) | exact HK.out)⟩

-- NOT PRINTED: function 40 (wire_Reader_U64)

-- NOT PRINTED: function 113 (wire_try_uint16)

-- NOT PRINTED: function 84 (wire_Reader_U16)

-- NOT PRINTED: function 115 (wire_try_uint32)

-- NOT PRINTED: function 85 (wire_Reader_U32)

-- NOT PRINTED: function 117 (wire_try_int32)

-- NOT PRINTED: function 86 (wire_Reader_I32)

/-! ### gantryref02_Reader_fail: function 110 -/
def gantryref02_Reader_fail.f (s0_0 : ByteArray) (s0_1 : Int) (s0_2 : Int) (a1 : Int) : Option (Int × ByteArray × Int × Int) := if s0_2 = 0 then (some (a1, s0_0, s0_1, a1)) else (some (s0_2, s0_0, s0_1, s0_2))
set_option maxHeartbeats 8000000 in
set_option maxRecDepth 100000 in
theorem gantryref02_Reader_fail.calls (g : Nat) (s0_0 : ByteArray) (s0_1 : Int) (s0_2 : Int) (a1 : Int) (r1 : Int) (r2 : ByteArray) (r3 : Int) (r4 : Int) (w0 w : World) (hI : IsS100 w0 w g s0_0 s0_1 s0_2) (hB : Below w0.heap.size w0 w) (h : gantryref02_Reader_fail.f s0_0 s0_1 s0_2 a1 = some (r1, r2, r3, r4)) :
    Calls Try.prog 110 #[.pointer (some ⟨g, 0, none⟩), .int .i64 a1] w fun e w' => e = .returned (.int .i64 r1) ∧ IsS100 w0 w' g r2 r3 r4 ∧ Below w0.heap.size w0 w' ∧ KeepBut w w' g none := by
  have HI0 := Aside0.mk hI
  have HK := Aside0.mk (KeepBut.refl w g none)
  have HL := Aside0.mk hB.size
  clear hI
  have HW0 := Aside0.mk hB.size
  have HB := Aside0.mk hB
  clear hB
  have H : (if s0_2 = 0 then (some (a1, s0_0, s0_1, a1)) else (some (s0_2, s0_0, s0_1, s0_2))) = some (r1, r2, r3, r4) := h
  clear h
  by_cases c3 : s0_2 = 0
  · rw [if_pos c3] at H
    have c3b0 : (s0_2 == 0) = true := beq_iff_eq.mpr c3
    have c3b1 : (s0_2 != 0) = false := bne_eq_false_iff_eq.mpr c3
    clear c3
    simp only [Option.some.injEq, Prod.mk.injEq] at H
    obtain ⟨rfl, rfl, rfl, rfl⟩ := H
    obtain ⟨HGz4, hgz4⟩ := HI0.out
    have hcz4_0 := cellS100_0 HGz4
    have hcz4_1 := cellS100_1 HGz4
    have hcz4_2 := cellS100_2 HGz4
    have hfz4_0 := blk_frozen HGz4 0
    have hfz4_1 := blk_frozen HGz4 1
    have hfz4_2 := blk_frozen HGz4 2
    clear HGz4 hgz4
    go_enter Try.func110, Try.ntmps110
    go_wp2
    go_ret
    exact ⟨by first | rfl | (simp [errW_none, errW_some] <;> rfl) | (simp [*, errW_none, errW_some] <;> rfl), by repeat (first | (with_reducible first | exact HI0.out | apply IsS100.alloc | apply IsS100.drewN | apply IsS100.drew | apply IsS100.set_0 | apply IsS100.set_1 | apply IsS100.set_2) | exact HI0.out), by repeat (first | (with_reducible first | exact HB.out | apply below_alloc | apply pw_below_drewN | apply below_drew1 | refine below_set ?_ (IsS100.ge HI0.out)) | exact HB.out), by repeat (first | (with_reducible first | exact HK.out | apply KeepBut.set_ | apply keep_drewN | apply keep_drew | apply keep_alloc) | exact HK.out)⟩
  · rw [if_neg c3] at H
    have c3b0 : (s0_2 == 0) = false := beq_eq_false_iff_ne.mpr c3
    have c3b1 : (s0_2 != 0) = true := bne_iff_ne.mpr c3
    simp only [Option.some.injEq, Prod.mk.injEq] at H
    obtain ⟨rfl, rfl, rfl, rfl⟩ := H
    obtain ⟨HGz5, hgz5⟩ := HI0.out
    have hcz5_0 := cellS100_0 HGz5
    have hcz5_1 := cellS100_1 HGz5
    have hcz5_2 := cellS100_2 HGz5
    have hfz5_0 := blk_frozen HGz5 0
    have hfz5_1 := blk_frozen HGz5 1
    have hfz5_2 := blk_frozen HGz5 2
    clear HGz5 hgz5
    go_enter Try.func110, Try.ntmps110
    go_wp2
    go_ret
    exact ⟨by first | rfl | (simp [errW_none, errW_some] <;> rfl) | (simp [*, errW_none, errW_some] <;> rfl), by repeat (first | (with_reducible first | exact HI0.out | apply IsS100.alloc | apply IsS100.drewN | apply IsS100.drew | apply IsS100.set_0 | apply IsS100.set_1 | apply IsS100.set_2) | exact HI0.out), by repeat (first | (with_reducible first | exact HB.out | apply below_alloc | apply pw_below_drewN | apply below_drew1 | refine below_set ?_ (IsS100.ge HI0.out)) | exact HB.out), by repeat (first | (with_reducible first | exact HK.out | apply KeepBut.set_ | apply keep_drewN | apply keep_drew | apply keep_alloc) | exact HK.out)⟩

/-! ### gantryref02_Reader_fixed: function 124 -/
mutual
def gantryref02_Reader_fixed.j0 : Nat → Int → Bool → ByteArray → Int → Int → Option (Int × Int × ByteArray × Int × Int)
  | 0, _, _, _, _, _ => none
  | k + 1, x1, x18, x1000, x1001, x1002 => if x18 = true then ((gantryref02_Reader_fail.f x1000 x1001 x1002 20).bind fun bt176 => (some (0, bt176.1, bt176.2.1, bt176.2.2.1, bt176.2.2.2))) else (gantryref02_Reader_fixed.l0 k x1 0 0 x1000 x1001 x1002)
def gantryref02_Reader_fixed.l0 : Nat → Int → Int → Int → ByteArray → Int → Int → Option (Int × Int × ByteArray × Int × Int)
  | 0, _, _, _, _, _, _ => none
  | k + 1, x1, x6, x7, x1000, x1001, x1002 => if x7 < x1 then (if 0 ≤ (wrap64 (x1001 + x7)) then (if (wrap64 (x1001 + x7)) < (x1000.size : Int) then (gantryref02_Reader_fixed.l0 k x1 (IntKind.u64.wrap ((IntKind.u64.wrap (x6 * 256)) + (IntKind.u64.wrap (bt x1000 (wrap64 (x1001 + x7)))))) (wrap64 (x7 + 1)) x1000 x1001 x1002) else (none)) else (none)) else (some (x6, 0, x1000, wrap64 (x1001 + x1), x1002))
end
def gantryref02_Reader_fixed.f (k : Nat) (s0_0 : ByteArray) (s0_1 : Int) (s0_2 : Int) (a1 : Int) : Option (Int × Int × ByteArray × Int × Int) := if s0_2 = 0 then ((gantryref02_Reader_Left.f s0_0 s0_1 s0_2).bind fun bt172 => (gantryref02_Reader_fixed.j0 k a1 (decide (bt172.1 < a1)) bt172.2.1 bt172.2.2.1 bt172.2.2.2)) else (gantryref02_Reader_fixed.j0 k a1 true s0_0 s0_1 s0_2)
theorem gantryref02_Reader_fixed.mono_l : ∀ k, (∀ y0 y1 y2 y3 y4, LeO (gantryref02_Reader_fixed.j0 k y0 y1 y2 y3 y4) (gantryref02_Reader_fixed.j0 (k + 1) y0 y1 y2 y3 y4)) ∧ (∀ y0 y1 y2 y3 y4 y5, LeO (gantryref02_Reader_fixed.l0 k y0 y1 y2 y3 y4 y5) (gantryref02_Reader_fixed.l0 (k + 1) y0 y1 y2 y3 y4 y5))
  | 0 => ⟨fun _ _ _ _ _ r h => by simp [gantryref02_Reader_fixed.j0] at h, fun _ _ _ _ _ _ r h => by simp [gantryref02_Reader_fixed.l0] at h⟩
  | k + 1 => by
    obtain ⟨ih0, ih1⟩ := gantryref02_Reader_fixed.mono_l k
    refine ⟨?_, ?_⟩
    · intro y0 y1 y2 y3 y4
      unfold gantryref02_Reader_fixed.j0
      repeat' first
      | (with_reducible exact ih0 _ _ _ _ _)
      | (with_reducible exact ih1 _ _ _ _ _ _)
      | (with_reducible exact LeO.refl _)
      | (with_reducible exact LeO.none _)
      | (with_reducible refine LeO.ite ?_ ?_)
      | (with_reducible refine LeO.bind ?_ (fun _ => ?_))
      | exact ih0 _ _ _ _ _
      | exact ih1 _ _ _ _ _ _
      | exact LeO.none _
      | refine LeO.ite ?_ ?_
      | refine LeO.bind ?_ (fun _ => ?_)
    · intro y0 y1 y2 y3 y4 y5
      unfold gantryref02_Reader_fixed.l0
      repeat' first
      | (with_reducible exact ih0 _ _ _ _ _)
      | (with_reducible exact ih1 _ _ _ _ _ _)
      | (with_reducible exact LeO.refl _)
      | (with_reducible exact LeO.none _)
      | (with_reducible refine LeO.ite ?_ ?_)
      | (with_reducible refine LeO.bind ?_ (fun _ => ?_))
      | exact ih0 _ _ _ _ _
      | exact ih1 _ _ _ _ _ _
      | exact LeO.none _
      | refine LeO.ite ?_ ?_
      | refine LeO.bind ?_ (fun _ => ?_)
theorem gantryref02_Reader_fixed.mono : ∀ a0 a1 a2 a3 k, LeO (gantryref02_Reader_fixed.f k a0 a1 a2 a3) (gantryref02_Reader_fixed.f (k + 1) a0 a1 a2 a3) := by
  intro a0 a1 a2 a3 k
  obtain ⟨ih0, ih1⟩ := gantryref02_Reader_fixed.mono_l k
  unfold gantryref02_Reader_fixed.f
  repeat' first
      | (with_reducible exact ih0 _ _ _ _ _)
      | (with_reducible exact ih1 _ _ _ _ _ _)
      | (with_reducible exact LeO.refl _)
      | (with_reducible exact LeO.none _)
      | (with_reducible refine LeO.ite ?_ ?_)
      | (with_reducible refine LeO.bind ?_ (fun _ => ?_))
      | exact ih0 _ _ _ _ _
      | exact ih1 _ _ _ _ _ _
      | exact LeO.none _
      | refine LeO.ite ?_ ?_
      | refine LeO.bind ?_ (fun _ => ?_)
set_option maxHeartbeats 8000000 in
set_option maxRecDepth 100000 in
theorem gantryref02_Reader_fixed.calls (k : Nat) (g : Nat) (s0_0 : ByteArray) (s0_1 : Int) (s0_2 : Int) (a1 : Int) (r1 : Int) (r2 : Int) (r3 : ByteArray) (r4 : Int) (r5 : Int) (w0 w : World) (hI : IsS100 w0 w g s0_0 s0_1 s0_2) (hB : Below w0.heap.size w0 w) (h : gantryref02_Reader_fixed.f k s0_0 s0_1 s0_2 a1 = some (r1, r2, r3, r4, r5)) :
    Calls Try.prog 124 #[.pointer (some ⟨g, 0, none⟩), .int .i64 a1] w fun e w' => e = .returned (.tuple #[.int .u64 r1, .int .i64 r2]) ∧ IsS100 w0 w' g r3 r4 r5 ∧ Below w0.heap.size w0 w' ∧ KeepBut w w' g none := by
  have HI0 := Aside0.mk hI
  have HK := Aside0.mk (KeepBut.refl w g none)
  have HL := Aside0.mk hB.size
  clear hI
  have HW0 := Aside0.mk hB.size
  have HB := Aside0.mk hB
  clear hB
  have H : (if s0_2 = 0 then ((gantryref02_Reader_Left.f s0_0 s0_1 s0_2).bind fun bt172 => (gantryref02_Reader_fixed.j0 k a1 (decide (bt172.1 < a1)) bt172.2.1 bt172.2.2.1 bt172.2.2.2)) else (gantryref02_Reader_fixed.j0 k a1 true s0_0 s0_1 s0_2)) = some (r1, r2, r3, r4, r5) := h
  clear h
  have HC3 := Aside0.mk H
  clear H
  go_enter Try.func124, Try.ntmps124
  go_upto_region 1 with (fail)
  repeat (go_quiet (fail); go_upto_region 1 with (fail))
  go_cut [18] (fun v18 wc => ∃ (kq : Nat) (x18_2 : Bool) (x1000_2 : ByteArray) (x1001_2 : Int) (x1002_2 : Int), v18 = .bool x18_2 ∧ Aside0 (gantryref02_Reader_fixed.j0 kq a1 x18_2 x1000_2 x1001_2 x1002_2 = some (r1, r2, r3, r4, r5)) ∧ Aside0 (kq ≤ k) ∧ Aside0 (IsS100 w0 wc g x1000_2 x1001_2 x1002_2) ∧ Aside0 (KeepBut w wc g none) ∧ Aside0 (Below w0.heap.size w0 wc))
  case first =>
    have H := HC3.out
    clear HC3
    by_cases c4 : s0_2 = 0
    · rw [if_pos c4] at H
      have c4b0 : (s0_2 == 0) = true := beq_iff_eq.mpr c4
      have c4b1 : (s0_2 != 0) = false := bne_eq_false_iff_eq.mpr c4
      clear c4
      (first | rw [c4b0] | (simp only [i64_w, i32_w]; rw [c4b0]) | skip)
      replace H := Option.bind_eq_some_iff.mp H
      obtain ⟨⟨t172, t173, t174, t175⟩, A50, H⟩ := H
      replace H : (gantryref02_Reader_fixed.j0 k a1 (decide (t172 < a1)) t173 t174 t175) = some (r1, r2, r3, r4, r5) := H
      have A5 := Aside0.mk A50
      clear A50
      have H' := Aside0.mk H
      clear H
      obtain ⟨HGz6, hgz6⟩ := HI0.out
      have hcz6_0 := cellS100_0 HGz6
      have hcz6_1 := cellS100_1 HGz6
      have hcz6_2 := cellS100_2 HGz6
      have hfz6_0 := blk_frozen HGz6 0
      have hfz6_1 := blk_frozen HGz6 1
      have hfz6_2 := blk_frozen HGz6 2
      clear HGz6 hgz6
      go_wp2_with (first | (go_at_call 33; (with_reducible refine (gantryref02_Reader_Left.calls g s0_0 s0_1 s0_2 t172 t173 t174 t175 w0 _ ?side1 ?side2 A5.out).mono ?_); (case side1 => repeat (first | (with_reducible first | exact HI0.out | apply IsS100.alloc | apply IsS100.drewN | apply IsS100.drew | apply IsS100.set_0 | apply IsS100.set_1 | apply IsS100.set_2) | exact HI0.out)); (case side2 => repeat (first | (with_reducible first | exact HB.out | apply below_alloc | apply pw_below_drewN | apply below_drew1 | refine below_set ?_ (IsS100.ge HI0.out)) | exact HB.out)); rintro e w7 ⟨rfl, hi, hb, hk⟩; have n0_ := Aside0.mk (KeepBut.trans (by repeat (first | (with_reducible first | exact HK.out | apply KeepBut.set_ | apply keep_drewN | apply keep_drew | apply keep_alloc) | exact HK.out)) hk (.inl rfl)); have n1_ := Aside0.mk (hb); have n2_ := Aside0.mk (hi); clear HK; clear HB; clear HI0; have HK := n0_; have HB := n1_; have HI0 := n2_; clear n0_ n1_ n2_; (try clear hb); (try clear hb2); (try clear hk); (try clear hi)))
      repeat (go_quiet (first | (go_at_call 33; (with_reducible refine (gantryref02_Reader_Left.calls g s0_0 s0_1 s0_2 t172 t173 t174 t175 w0 _ ?side1 ?side2 A5.out).mono ?_); (case side1 => repeat (first | (with_reducible first | exact HI0.out | apply IsS100.alloc | apply IsS100.drewN | apply IsS100.drew | apply IsS100.set_0 | apply IsS100.set_1 | apply IsS100.set_2) | exact HI0.out)); (case side2 => repeat (first | (with_reducible first | exact HB.out | apply below_alloc | apply pw_below_drewN | apply below_drew1 | refine below_set ?_ (IsS100.ge HI0.out)) | exact HB.out)); rintro e w7 ⟨rfl, hi, hb, hk⟩; have n0_ := Aside0.mk (KeepBut.trans (by repeat (first | (with_reducible first | exact HK.out | apply KeepBut.set_ | apply keep_drewN | apply keep_drew | apply keep_alloc) | exact HK.out)) hk (.inl rfl)); have n1_ := Aside0.mk (hb); have n2_ := Aside0.mk (hi); clear HK; clear HB; clear HI0; have HK := n0_; have HB := n1_; have HI0 := n2_; clear n0_ n1_ n2_; (try clear hb); (try clear hb2); (try clear hk); (try clear hi))); try go_wp2_with (first | (go_at_call 33; (with_reducible refine (gantryref02_Reader_Left.calls g s0_0 s0_1 s0_2 t172 t173 t174 t175 w0 _ ?side1 ?side2 A5.out).mono ?_); (case side1 => repeat (first | (with_reducible first | exact HI0.out | apply IsS100.alloc | apply IsS100.drewN | apply IsS100.drew | apply IsS100.set_0 | apply IsS100.set_1 | apply IsS100.set_2) | exact HI0.out)); (case side2 => repeat (first | (with_reducible first | exact HB.out | apply below_alloc | apply pw_below_drewN | apply below_drew1 | refine below_set ?_ (IsS100.ge HI0.out)) | exact HB.out)); rintro e w7 ⟨rfl, hi, hb, hk⟩; have n0_ := Aside0.mk (KeepBut.trans (by repeat (first | (with_reducible first | exact HK.out | apply KeepBut.set_ | apply keep_drewN | apply keep_drew | apply keep_alloc) | exact HK.out)) hk (.inl rfl)); have n1_ := Aside0.mk (hb); have n2_ := Aside0.mk (hi); clear HK; clear HB; clear HI0; have HK := n0_; have HB := n1_; have HI0 := n2_; clear n0_ n1_ n2_; (try clear hb); (try clear hb2); (try clear hk); (try clear hi))))
      go_meet
      case rel => exact ⟨_, (decide (t172 < a1)), (t173), (t174), (t175), (by first | rfl | (simp; done) | (simp [*]; done)), H', ⟨by first | omega | exact Nat.le_refl _⟩, ⟨by repeat (first | (with_reducible first | exact HI0.out | apply IsS100.alloc | apply IsS100.drewN | apply IsS100.drew | apply IsS100.set_0 | apply IsS100.set_1 | apply IsS100.set_2) | exact HI0.out)⟩, ⟨by repeat (first | (with_reducible first | exact HK.out | apply KeepBut.set_ | apply keep_drewN | apply keep_drew | apply keep_alloc) | exact HK.out)⟩, ⟨by repeat (first | (with_reducible first | exact HB.out | apply below_alloc | apply pw_below_drewN | apply below_drew1 | refine below_set ?_ (IsS100.ge HI0.out)) | exact HB.out)⟩⟩
    · rw [if_neg c4] at H
      have c4b0 : (s0_2 == 0) = false := beq_eq_false_iff_ne.mpr c4
      have c4b1 : (s0_2 != 0) = true := bne_iff_ne.mpr c4
      (first | rw [c4b0] | (simp only [i64_w, i32_w]; rw [c4b0]) | skip)
      have H' := Aside0.mk H
      clear H
      obtain ⟨HGz8, hgz8⟩ := HI0.out
      have hcz8_0 := cellS100_0 HGz8
      have hcz8_1 := cellS100_1 HGz8
      have hcz8_2 := cellS100_2 HGz8
      have hfz8_0 := blk_frozen HGz8 0
      have hfz8_1 := blk_frozen HGz8 1
      have hfz8_2 := blk_frozen HGz8 2
      clear HGz8 hgz8
      go_wp2
      repeat (go_quiet (fail); try go_wp2)
      go_meet
      case rel => exact ⟨_, (true), (s0_0), (s0_1), (s0_2), (by first | rfl | (simp; done) | (simp [*]; done)), H', ⟨by first | omega | exact Nat.le_refl _⟩, ⟨by repeat (first | (with_reducible first | exact HI0.out | apply IsS100.alloc | apply IsS100.drewN | apply IsS100.drew | apply IsS100.set_0 | apply IsS100.set_1 | apply IsS100.set_2) | exact HI0.out)⟩, ⟨by repeat (first | (with_reducible first | exact HK.out | apply KeepBut.set_ | apply keep_drewN | apply keep_drew | apply keep_alloc) | exact HK.out)⟩, ⟨by repeat (first | (with_reducible first | exact HB.out | apply below_alloc | apply pw_below_drewN | apply below_drew1 | refine below_set ?_ (IsS100.ge HI0.out)) | exact HB.out)⟩⟩
  case rest =>
    clear HC3
    try clear c1
    try clear p2
    try clear c4
    try clear c4b0
    try clear c4b1
    try clear hcz6_0
    try clear hcz6_1
    try clear hcz6_2
    try clear hcz8_0
    try clear hcz8_1
    try clear hcz8_2
    try clear hfz6_0
    try clear hfz6_1
    try clear hfz6_2
    try clear hfz8_0
    try clear hfz8_1
    try clear hfz8_2
    obtain ⟨kq, x18_2, x1000_2, x1001_2, x1002_2, rfl, HA, HJ2, HI0, HK, HB⟩ := hcut
    cases kq with
    | zero => exact absurd HA.out (by simp [gantryref02_Reader_fixed.j0])
    | succ kj2 =>
      have H := HA.out
      clear HA
      simp only [gantryref02_Reader_fixed.j0] at H
      by_cases c9 : x18_2 = true
      · subst c9
        have H1 : ((gantryref02_Reader_fail.f x1000_2 x1001_2 x1002_2 20).bind fun bt176 => (some (0, bt176.1, bt176.2.1, bt176.2.2.1, bt176.2.2.2))) = some (r1, r2, r3, r4, r5) := by rw [if_pos rfl] at H; exact H
        clear H
        have H := H1
        clear H1
        replace H := Option.bind_eq_some_iff.mp H
        obtain ⟨⟨t176, t177, t178, t179⟩, A100, H⟩ := H
        replace H : (some (0, t176, t177, t178, t179)) = some (r1, r2, r3, r4, r5) := H
        have A10 := Aside0.mk A100
        clear A100
        simp only [Option.some.injEq, Prod.mk.injEq] at H
        obtain ⟨rfl, rfl, rfl, rfl, rfl⟩ := H
        go_wp2_with (first | (go_at_call 110; (with_reducible refine (gantryref02_Reader_fail.calls g x1000_2 x1001_2 x1002_2 20 t176 t177 t178 t179 w0 _ ?side1 ?side2 A10.out).mono ?_); (case side1 => repeat (first | (with_reducible first | exact HI0.out | apply IsS100.alloc | apply IsS100.drewN | apply IsS100.drew | apply IsS100.set_0 | apply IsS100.set_1 | apply IsS100.set_2) | exact HI0.out)); (case side2 => repeat (first | (with_reducible first | exact HB.out | apply below_alloc | apply pw_below_drewN | apply below_drew1 | refine below_set ?_ (IsS100.ge HI0.out)) | exact HB.out)); rintro e w11 ⟨rfl, hi, hb, hk⟩; have n0_ := Aside0.mk (KeepBut.trans (by repeat (first | (with_reducible first | exact HK.out | apply KeepBut.set_ | apply keep_drewN | apply keep_drew | apply keep_alloc) | exact HK.out)) hk (.inl rfl)); have n1_ := Aside0.mk (hb); have n2_ := Aside0.mk (hi); clear HK; clear HB; clear HI0; have HK := n0_; have HB := n1_; have HI0 := n2_; clear n0_ n1_ n2_; (try clear hb); (try clear hb2); (try clear hk); (try clear hi)))
        repeat (go_quiet (first | (go_at_call 110; (with_reducible refine (gantryref02_Reader_fail.calls g x1000_2 x1001_2 x1002_2 20 t176 t177 t178 t179 w0 _ ?side1 ?side2 A10.out).mono ?_); (case side1 => repeat (first | (with_reducible first | exact HI0.out | apply IsS100.alloc | apply IsS100.drewN | apply IsS100.drew | apply IsS100.set_0 | apply IsS100.set_1 | apply IsS100.set_2) | exact HI0.out)); (case side2 => repeat (first | (with_reducible first | exact HB.out | apply below_alloc | apply pw_below_drewN | apply below_drew1 | refine below_set ?_ (IsS100.ge HI0.out)) | exact HB.out)); rintro e w11 ⟨rfl, hi, hb, hk⟩; have n0_ := Aside0.mk (KeepBut.trans (by repeat (first | (with_reducible first | exact HK.out | apply KeepBut.set_ | apply keep_drewN | apply keep_drew | apply keep_alloc) | exact HK.out)) hk (.inl rfl)); have n1_ := Aside0.mk (hb); have n2_ := Aside0.mk (hi); clear HK; clear HB; clear HI0; have HK := n0_; have HB := n1_; have HI0 := n2_; clear n0_ n1_ n2_; (try clear hb); (try clear hb2); (try clear hk); (try clear hi))); try go_wp2_with (first | (go_at_call 110; (with_reducible refine (gantryref02_Reader_fail.calls g x1000_2 x1001_2 x1002_2 20 t176 t177 t178 t179 w0 _ ?side1 ?side2 A10.out).mono ?_); (case side1 => repeat (first | (with_reducible first | exact HI0.out | apply IsS100.alloc | apply IsS100.drewN | apply IsS100.drew | apply IsS100.set_0 | apply IsS100.set_1 | apply IsS100.set_2) | exact HI0.out)); (case side2 => repeat (first | (with_reducible first | exact HB.out | apply below_alloc | apply pw_below_drewN | apply below_drew1 | refine below_set ?_ (IsS100.ge HI0.out)) | exact HB.out)); rintro e w11 ⟨rfl, hi, hb, hk⟩; have n0_ := Aside0.mk (KeepBut.trans (by repeat (first | (with_reducible first | exact HK.out | apply KeepBut.set_ | apply keep_drewN | apply keep_drew | apply keep_alloc) | exact HK.out)) hk (.inl rfl)); have n1_ := Aside0.mk (hb); have n2_ := Aside0.mk (hi); clear HK; clear HB; clear HI0; have HK := n0_; have HB := n1_; have HI0 := n2_; clear n0_ n1_ n2_; (try clear hb); (try clear hb2); (try clear hk); (try clear hi))))
        go_ret2
        exact ⟨by first | rfl | (simp [errW_none, errW_some] <;> rfl) | (simp [*, errW_none, errW_some] <;> rfl), by repeat (first | (with_reducible first | exact HI0.out | apply IsS100.alloc | apply IsS100.drewN | apply IsS100.drew | apply IsS100.set_0 | apply IsS100.set_1 | apply IsS100.set_2) | exact HI0.out), by repeat (first | (with_reducible first | exact HB.out | apply below_alloc | apply pw_below_drewN | apply below_drew1 | refine below_set ?_ (IsS100.ge HI0.out)) | exact HB.out), by repeat (first | (with_reducible first | exact HK.out | apply KeepBut.set_ | apply keep_drewN | apply keep_drew | apply keep_alloc) | exact HK.out)⟩
      · replace c9 := Bool.eq_false_iff.mpr c9
        subst c9
        have H1 : (gantryref02_Reader_fixed.l0 kj2 a1 0 0 x1000_2 x1001_2 x1002_2) = some (r1, r2, r3, r4, r5) := by rw [if_neg (show ¬ (false = true) by decide)] at H; exact H
        clear H
        have H := H1
        clear H1
        have H' := Aside0.mk H
        clear H
        go_wp2
        repeat (go_quiet (fail); try go_wp2)
        go_loopg [6, 7] kj2 (fun kq v6 v7 w' => ∃ (x6_2 : Int) (x7_2 : Int), v6 = .int .u64 x6_2 ∧ v7 = .int .i64 x7_2 ∧ Aside0 (gantryref02_Reader_fixed.l0 kq a1 x6_2 x7_2 x1000_2 x1001_2 x1002_2 = some (r1, r2, r3, r4, r5)) ∧ Aside0 (kq ≤ kj2) ∧ Aside0 (IsS100 w0 w' g x1000_2 x1001_2 x1002_2) ∧ Aside0 (KeepBut w w' g none) ∧ Aside0 (Below w0.heap.size w0 w'))
        case atStart => exact ⟨(0), (0), (by first | rfl | (simp; done) | (simp [*]; done)), (by first | rfl | (simp; done) | (simp [*]; done)), H', ⟨Nat.le_refl _⟩, ⟨by repeat (first | (with_reducible first | exact HI0.out | apply IsS100.alloc | apply IsS100.drewN | apply IsS100.drew | apply IsS100.set_0 | apply IsS100.set_1 | apply IsS100.set_2) | exact HI0.out)⟩, ⟨by repeat (first | (with_reducible first | exact HK.out | apply KeepBut.set_ | apply keep_drewN | apply keep_drew | apply keep_alloc) | exact HK.out)⟩, ⟨by repeat (first | (with_reducible first | exact HB.out | apply below_alloc | apply pw_below_drewN | apply below_drew1 | refine below_set ?_ (IsS100.ge HI0.out)) | exact HB.out)⟩⟩
        case round =>
          clear H'
          try clear c1
          try clear p2
          try clear c4
          try clear c4b0
          try clear c4b1
          try clear c9
          try clear hcz6_0
          try clear hcz6_1
          try clear hcz6_2
          try clear hcz8_0
          try clear hcz8_1
          try clear hcz8_2
          try clear hfz6_0
          try clear hfz6_1
          try clear hfz6_2
          try clear hfz8_0
          try clear hfz8_1
          try clear hfz8_2
          try clear p2
          obtain ⟨x6_2, x7_2, rfl, rfl, HA, HK2, HI0, HK, HB⟩ := hrel
          cases gk with
          | zero => exact absurd HA.out (by simp [gantryref02_Reader_fixed.l0])
          | succ k2 =>
            have H := HA.out
            clear HA
            simp only [gantryref02_Reader_fixed.l0] at H
            by_cases c12 : x7_2 < a1
            · rw [if_pos c12] at H
              have c12b0 : decide (x7_2 < a1) = true := decide_eq_true c12
              clear c12
              obtain ⟨ji13, hji13⟩ : ∃ j_ : Int, (wrap64 (x1001_2 + x7_2)) = j_ := ⟨_, rfl⟩
              replace H : (if 0 ≤ (ji13) then (if (ji13) < (x1000_2.size : Int) then (gantryref02_Reader_fixed.l0 k2 a1 (IntKind.u64.wrap ((IntKind.u64.wrap (x6_2 * 256)) + (IntKind.u64.wrap (bt x1000_2 (ji13))))) (wrap64 (x7_2 + 1)) x1000_2 x1001_2 x1002_2) else (none)) else (none)) = some (r1, r2, r3, r4, r5) := by first | (rw [hji13] at H; exact H) | (simp only [hji13] at H ⊢; exact H)
              have hji13w : (IntKind.i64.wrap (x1001_2 + x7_2)) = ji13 := (i64_w _).trans hji13
              by_cases c14 : 0 ≤ (ji13)
              · rw [if_pos c14] at H
                have c14b0 : decide (0 ≤ (ji13)) = true := decide_eq_true c14
                clear c14
                by_cases c15 : (ji13) < (x1000_2.size : Int)
                · rw [if_pos c15] at H
                  have c15b0 : decide ((ji13) < (x1000_2.size : Int)) = true := decide_eq_true c15
                  clear c15
                  have H' := Aside0.mk H
                  clear H
                  obtain ⟨HGz17, hgz17⟩ := HI0.out
                  have hcz17_0 := cellS100_0 HGz17
                  have hcz17_1 := cellS100_1 HGz17
                  have hcz17_2 := cellS100_2 HGz17
                  have hfz17_0 := blk_frozen HGz17 0
                  have hfz17_1 := blk_frozen HGz17 1
                  have hfz17_2 := blk_frozen HGz17 2
                  clear HGz17 hgz17
                  have p16 : 0 ≤ ((ji13) : Int) := of_decide_eq_true (by first | (with_reducible assumption) | assumption)
                  have q16 : (ji13) < (x1000_2.size : Int) := of_decide_eq_true (by first | (with_reducible assumption) | assumption)
                  have hx16 := bt_at x1000_2 (ji13)
                  replace p16 := eq_true p16
                  replace q16 := eq_true q16
                  go_wp2
                  repeat (go_quiet (fail); try go_wp2)
                  go_roundg k2
                  case measure => have := HJ2.out; have := HK2.out; omega
                  case rel => exact ⟨(IntKind.u64.wrap ((IntKind.u64.wrap (x6_2 * 256)) + (IntKind.u64.wrap (bt x1000_2 (ji13))))), (wrap64 (x7_2 + 1)), (by first | rfl | (simp; done) | (simp only [← hji13] <;> (first | rfl | simp)) | (simp [*]; done)), (by first | rfl | (simp; done) | (simp [*]; done)), H', ⟨by have := HJ2.out; have := HK2.out; omega⟩, ⟨by repeat (first | (with_reducible first | exact HI0.out | apply IsS100.alloc | apply IsS100.drewN | apply IsS100.drew | apply IsS100.set_0 | apply IsS100.set_1 | apply IsS100.set_2) | exact HI0.out)⟩, ⟨by repeat (first | (with_reducible first | exact HK.out | apply KeepBut.set_ | apply keep_drewN | apply keep_drew | apply keep_alloc) | exact HK.out)⟩, ⟨by repeat (first | (with_reducible first | exact HB.out | apply below_alloc | apply pw_below_drewN | apply below_drew1 | refine below_set ?_ (IsS100.ge HI0.out)) | exact HB.out)⟩⟩
                · rw [if_neg c15] at H
                  exact absurd H (by simp)
              · rw [if_neg c14] at H
                exact absurd H (by simp)
            · rw [if_neg c12] at H
              have c12b0 : decide (x7_2 < a1) = false := decide_eq_false c12
              clear c12
              simp only [Option.some.injEq, Prod.mk.injEq] at H
              obtain ⟨rfl, rfl, rfl, rfl, rfl⟩ := H
              obtain ⟨HGz18, hgz18⟩ := HI0.out
              have hcz18_0 := cellS100_0 HGz18
              have hcz18_1 := cellS100_1 HGz18
              have hcz18_2 := cellS100_2 HGz18
              have hfz18_0 := blk_frozen HGz18 0
              have hfz18_1 := blk_frozen HGz18 1
              have hfz18_2 := blk_frozen HGz18 2
              clear HGz18 hgz18
              go_wp2
              repeat (go_quiet (fail); try go_wp2)
              go_ret2
              exact ⟨by first | rfl | (simp [errW_none, errW_some] <;> rfl) | (simp [*, errW_none, errW_some] <;> rfl), by repeat (first | (with_reducible first | exact HI0.out | apply IsS100.alloc | apply IsS100.drewN | apply IsS100.drew | apply IsS100.set_0 | apply IsS100.set_1 | apply IsS100.set_2) | exact HI0.out), by repeat (first | (with_reducible first | exact HB.out | apply below_alloc | apply pw_below_drewN | apply below_drew1 | refine below_set ?_ (IsS100.ge HI0.out)) | exact HB.out), by repeat (first | (with_reducible first | exact HK.out | apply KeepBut.set_ | apply keep_drewN | apply keep_drew | apply keep_alloc) | exact HK.out)⟩

end Go.Proofs.Ytclnpedmoelipaa.QW
