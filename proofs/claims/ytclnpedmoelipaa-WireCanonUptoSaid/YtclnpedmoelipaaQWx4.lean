/- The machine side of a law, written by a program of this session (the kit printer, changed; wip/tools/mkprint.py): functions, their calls, the row. Lean checks it. -/
import Derived.Test.YtclnpedmoelipaaQWx0
import Derived.Test.YtclnpedmoelipaaQWx3
namespace Go.Proofs.Ytclnpedmoelipaa.QW
open Go.RowKit Go.Proofs.YtclnpedmoelipaaW.PrintWords Go.Proofs.YtclnpedmoelipaaW.PrintLast Go.Proofs.YtclnpedmoelipaaW.PrintMore
attribute [local go_sem] max2_int min2_int max_two min_two max_three min_three max_four min_four   -- for this text's walks alone
set_option linter.unusedVariables false
set_option linter.unusedSimpArgs false

/-! ### gantryref01_Put: function 91 -/
def gantryref01_Put.l0 : Nat → List Int → List Int → Int → Option (ByteArray)
  | 0, _, _, _ => none
  | k + 1, x0, x3, x4 => if x4 < (x0.length : Int) then (if 0 ≤ x4 then ((gantryref01_one.f k (rd x0 x4)).bind fun t140 => (if x3.length + t140.length < 140737488355328 then (gantryref01_Put.l0 k x0 (x3 ++ t140) (wrap64 (x4 + 1))) else (none))) else (none)) else (some (strOfNums x3))
def gantryref01_Put.f (k : Nat) (l0 : List Int) : Option (ByteArray) := gantryref01_Put.l0 k l0 ([] : List Int) 0
theorem gantryref01_Put.mono_l : ∀ k, (∀ y0 y1 y2, LeO (gantryref01_Put.l0 k y0 y1 y2) (gantryref01_Put.l0 (k + 1) y0 y1 y2))
  | 0 => fun _ _ _ r h => by simp [gantryref01_Put.l0] at h
  | k + 1 => by
    have ih0 := gantryref01_Put.mono_l k
    · intro y0 y1 y2
      unfold gantryref01_Put.l0
      repeat' first
      | (with_reducible exact ih0 _ _ _)
      | (with_reducible exact gantryref01_one.mono _ _)
      | (with_reducible exact LeO.refl _)
      | (with_reducible exact LeO.none _)
      | (with_reducible refine LeO.ite ?_ ?_)
      | (with_reducible refine LeO.bind ?_ (fun _ => ?_))
      | exact ih0 _ _ _
      | exact gantryref01_one.mono _ _
      | exact LeO.none _
      | refine LeO.ite ?_ ?_
      | refine LeO.bind ?_ (fun _ => ?_)
theorem gantryref01_Put.mono : ∀ a0 k, LeO (gantryref01_Put.f k a0) (gantryref01_Put.f (k + 1) a0) := by
  intro a0 k
  have ih0 := gantryref01_Put.mono_l k
  unfold gantryref01_Put.f
  repeat' first
      | (with_reducible exact ih0 _ _ _)
      | (with_reducible exact gantryref01_one.mono _ _)
      | (with_reducible exact LeO.refl _)
      | (with_reducible exact LeO.none _)
      | (with_reducible refine LeO.ite ?_ ?_)
      | (with_reducible refine LeO.bind ?_ (fun _ => ?_))
      | exact ih0 _ _ _
      | exact gantryref01_one.mono _ _
      | exact LeO.none _
      | refine LeO.ite ?_ ?_
      | refine LeO.bind ?_ (fun _ => ?_)
set_option maxHeartbeats 8000000 in
set_option maxRecDepth 100000 in
theorem gantryref01_Put.calls (k : Nat) (A0 : Option Addr) (c0 : Nat) (l0 : List Int) (r : ByteArray) (w : World) (hr0 : Kd.C (Kd.int .u64) w A0 l0.length l0) (hc0 : l0.length ≤ c0) (h : gantryref01_Put.f k l0 = some r) :
    Calls Try.prog 91 #[.slice A0 l0.length c0] w fun e w' => e = .returned (.string r) ∧ Below w.heap.size w w' := by
  have HR0 := Aside0.mk hr0
  have HC0 := Aside0.mk hc0
  clear hr0 hc0
  have HB := Aside0.mk (Below.refl w.heap.size w)
  have H : (gantryref01_Put.l0 k l0 ([] : List Int) 0) = some r := h
  clear h
  have H' := Aside0.mk H
  clear H
  go_enter Try.func91, Try.ntmps91
  go_wp2
  go_loopg [3, 4] k (fun kq v3 v4 w' => ∃ (x3_1 : List Int) (x4_1 : Int), v4 = .int .i64 x4_1 ∧ Aside0 (gantryref01_Put.l0 kq l0 x3_1 x4_1 = some r) ∧ Aside0 (kq ≤ k) ∧ Aside0 (Kd.R (Kd.int .u8) 5 w' w.heap.size (fun _ => True) v3 x3_1) ∧ Aside0 (Below w.heap.size w w'))
  case atStart => exact ⟨(([] : List Int)), (0), (by first | rfl | (simp; done) | (simp [*]; done)), H', ⟨Nat.le_refl _⟩, ⟨by first | exact Kd.R_nil _ _ _ _ _ | exact Kd.N_nil _ _ _ _ _ | exact Kd.V_nil _ _ _ _ _ | exact Kd.Q_nil _ _ _ _ _ | exact Kd.S_nil _ _ _ _ _⟩, ⟨by repeat (first | (with_reducible first | exact HB.out | apply below_alloc | apply pw_below_drewN | apply below_drew1) | exact HB.out)⟩⟩
  case round =>
    clear H'
    obtain ⟨x3_1, x4_1, rfl, HA, HK1, HO_3, HB⟩ := hrel
    cases gk with
    | zero => exact absurd HA.out (by simp [gantryref01_Put.l0])
    | succ k1 =>
      have H := HA.out
      clear HA
      simp only [gantryref01_Put.l0] at H
      by_cases c2 : x4_1 < (l0.length : Int)
      · rw [if_pos c2] at H
        have c2b0 : decide (x4_1 < (l0.length : Int)) = true := decide_eq_true c2
        clear c2
        by_cases c3 : 0 ≤ x4_1
        · rw [if_pos c3] at H
          have c3b0 : decide (0 ≤ x4_1) = true := decide_eq_true c3
          clear c3
          replace H := Option.bind_eq_some_iff.mp H
          obtain ⟨t140, A40, H⟩ := H
          replace H : (if x3_1.length + t140.length < 140737488355328 then (gantryref01_Put.l0 k1 l0 (x3_1 ++ t140) (wrap64 (x4_1 + 1))) else (none)) = some r := H
          have A4 := Aside0.mk A40
          clear A40
          by_cases c5 : x3_1.length + t140.length < 140737488355328
          · rw [if_pos c5] at H
            have LMc5 := Aside0.mk c5
            clear c5
            obtain ⟨y143, hy143⟩ : ∃ y_ : List Int, y_ = (x3_1 ++ t140) := ⟨_, rfl⟩
            replace H : (gantryref01_Put.l0 k1 l0 y143 (wrap64 (x4_1 + 1))) = some r := by first | (rw [hy143]; with_reducible exact H) | (have H2_ := (Option.bind_some _ _).symm.trans H; rw [hy143]; with_reducible exact H2_) | (have H2_ := (Option.bind_some _ _).symm.trans H; with_reducible exact H2_) | with_reducible exact H | (rw [hy143]; exact H) | exact H
            have Ny143 := Aside0.mk hy143
            clear hy143
            have H' := Aside0.mk H
            clear H
            have p139 : 0 ≤ (x4_1 : Int) := of_decide_eq_true (by first | (with_reducible assumption) | assumption)
            have q139 : x4_1 < (l0.length : Int) := of_decide_eq_true (by first | (with_reducible assumption) | assumption)
            obtain ⟨ad139, e139, hx139_0⟩ := Kd.at_int HR0.out x4_1 p139 q139
            cases e139
            replace hx139_0 := (HB.out.cell (World.block_lt_of_cell? w _ hx139_0)).trans hx139_0
            replace p139 := eq_true p139
            replace q139 := eq_true q139
            go_wp2_with (first | ((with_reducible refine gate_callee (f := 120) rfl ?_); refine goesL_ (some 16) rfl rfl Try.func120 (by kernel_rfl) rfl #[.int .u64 (rd l0 x4_1)] rfl (by (try simp only [List.map_toArray, List.map_cons, List.map_nil]); first | done | rfl | (simp only [List.length_drop, List.length_take]; rfl)) ?_; (with_reducible refine (gantryref01_one.calls k1 (rd l0 x4_1) t140 _ A4.out).mono ?_); rintro e w6 ⟨v141, rfl, ho0, hb⟩; refine ⟨_, rfl, ?_⟩; have n0_ := Aside0.mk (Kd.R_elder' (by (with_reducible repeat (first | apply Kd.R_alloc | apply Kd.R_drewN | apply Kd.R_drew)); exact HO_3.out) (Kd.R_base ho0) hb); have n1_ := Aside0.mk (Kd.R_lower (Kd.R_new' ho0 (Kd.R_lt (by (with_reducible repeat (first | apply Kd.R_alloc | apply Kd.R_drewN | apply Kd.R_drew)); exact HO_3.out))) (below_size (by repeat (first | (with_reducible first | exact HB.out | apply below_alloc | apply pw_below_drewN | apply below_drew1) | exact HB.out)))); have n2_ := Aside0.mk (below_step (by repeat (first | (with_reducible first | exact HB.out | apply below_alloc | apply pw_below_drewN | apply below_drew1) | exact HB.out)) hb); clear HO_3; clear HB; have HO_3 := n0_; have HO142 := n1_; have HB := n2_; clear n0_ n1_ n2_; (try clear hb); (try clear hb2); (try clear hk); (try clear hi); (try clear ho0); obtain ⟨Ao8, co8, eo8⟩ := Kd.R_slice HO142.out; subst eo8) | ((with_reducible refine gate_builtin (b := .append) (xs := #[.tmp 17, .tmp 18]) rfl ?_); at_builtin; refine Kd.R_append_rows (Kd.int .u8) (w0 := w) w.heap.size rfl (.tmp 17) (.tmp 18) 72 5 (.int .u8 0) 1 rfl Try.underlying72 info5 rfl (by decide) (by omega) u3 x3_1 t140 _ _ _ (fun k_ => some k_ ≠ (.slice Ao8 t140.length co8 : Value).ownBlock) (fun _ => False) rfl rfl ?aO ?aR (fun _ _ h => h) (fun _ h => h.elim) ?aF ?aB ?aS ?aL ?_; (case aR => repeat (first | exact (Kd.R_reads' HO142.out).2.2 | (with_reducible refine Kd.C_alloc ?_ _) | (with_reducible refine Kd.C_drewN ?_ _) | (with_reducible refine Kd.C_drew ?_))); (case aB => exact (by repeat (first | (with_reducible first | exact HB.out | apply below_alloc | apply pw_below_drewN | apply below_drew1) | exact HB.out))); (case aF => exact (fun k_ hk => Kd.fresh' (Kd.R_lt (by (with_reducible repeat (first | apply Kd.R_alloc | apply Kd.R_drewN | apply Kd.R_drew)); exact HO142.out)) k_ hk)); (case aO => exact (by (with_reducible repeat (first | apply Kd.R_alloc | apply Kd.R_drewN | apply Kd.R_drew)); exact Kd.R_mono HO_3.out (fun _ hk => hk.2))); (case aS => exact (below_size (by repeat (first | (with_reducible first | exact HB.out | apply below_alloc | apply pw_below_drewN | apply below_drew1) | exact HB.out)))); (case aL => have := LMc5.out; omega); intro v144 w7 ho hb hg hat; rw [← Ny143.out] at ho; have n0_ := Aside0.mk (Kd.R_after (ok := (fun _ => True)) (by (with_reducible repeat (first | apply Kd.R_alloc | apply Kd.R_drewN | apply Kd.R_drew)); exact HO142.out) hg hat); have n1_ := Aside0.mk (hb); have n2_ := Aside0.mk (ho); clear HO142; clear HB; clear HO_3; have HO142 := n0_; have HB := n1_; have HO145 := n2_; clear n0_ n1_ n2_; clear ho hb hg hat))
            go_roundg k1
            case measure => have := HK1.out; omega
            case rel => exact ⟨(y143), (wrap64 (x4_1 + 1)), (by first | rfl | (simp; done) | (simp [*]; done)), H', ⟨by have := HK1.out; omega⟩, ⟨by (with_reducible repeat (first | apply Kd.R_alloc | apply Kd.R_drewN | apply Kd.R_drew)); exact Kd.R_mono HO145.out (fun _ hk => trivial)⟩, ⟨by repeat (first | (with_reducible first | exact HB.out | apply below_alloc | apply pw_below_drewN | apply below_drew1) | exact HB.out)⟩⟩
          · rw [if_neg c5] at H
            exact absurd H (by simp)
        · rw [if_neg c3] at H
          exact absurd H (by simp)
      · rw [if_neg c2] at H
        have c2b0 : decide (x4_1 < (l0.length : Int)) = false := decide_eq_false c2
        clear c2
        obtain rfl := Option.some.inj H
        have hcv9 := own_string (P := Try.prog) Try.underlying72 Try.underlying5 Try.underlying9 (Kd.own_of_R HO_3.out)
        go_wp2
        go_ret
        exact ⟨by first | rfl | (simp [errW_none, errW_some] <;> rfl) | (simp [*, errW_none, errW_some] <;> rfl), by repeat (first | (with_reducible first | exact HB.out | apply below_alloc | apply pw_below_drewN | apply below_drew1) | exact HB.out)⟩

/-! ### gantryref02_Writer_Uvarint: function 53 -/
def gantryref02_Writer_Uvarint.f (k : Nat) (s0_0 : ByteArray) (a1 : Int) : Option (ByteArray) := (gantryref01_Put.f k (([a1] : List Int))).bind fun t149 => (if s0_0.size + t149.size ≤ 9223372036854775807 then (some (s0_0 ++ t149)) else (none))
theorem gantryref02_Writer_Uvarint.mono : ∀ a0 a1 k, LeO (gantryref02_Writer_Uvarint.f k a0 a1) (gantryref02_Writer_Uvarint.f (k + 1) a0 a1) := by
  intro a0 a1 k
  unfold gantryref02_Writer_Uvarint.f
  repeat' first
      | (with_reducible exact gantryref01_Put.mono _ _)
      | (with_reducible exact LeO.refl _)
      | (with_reducible exact LeO.none _)
      | (with_reducible refine LeO.ite ?_ ?_)
      | (with_reducible refine LeO.bind ?_ (fun _ => ?_))
      | exact gantryref01_Put.mono _ _
      | exact LeO.none _
      | refine LeO.ite ?_ ?_
      | refine LeO.bind ?_ (fun _ => ?_)
set_option maxHeartbeats 8000000 in
set_option maxRecDepth 100000 in
theorem gantryref02_Writer_Uvarint.calls (k : Nat) (g : Nat) (s0_0 : ByteArray) (a1 : Int) (r : ByteArray) (w0 w : World) (hI : IsS76 w0 w g s0_0) (hB : Below w0.heap.size w0 w) (h : gantryref02_Writer_Uvarint.f k s0_0 a1 = some r) :
    Calls Try.prog 53 #[.pointer (some ⟨g, 0, none⟩), .int .u64 a1] w fun e w' => e = .returned (.tuple #[]) ∧ IsS76 w0 w' g r ∧ Below w0.heap.size w0 w' ∧ KeepBut w w' g none := by
  have HI0 := Aside0.mk hI
  have HK := Aside0.mk (KeepBut.refl w g none)
  have HL := Aside0.mk hB.size
  clear hI
  have HW0 := Aside0.mk hB.size
  have HB := Aside0.mk hB
  clear hB
  have H : ((gantryref01_Put.f k (([a1] : List Int))).bind fun t149 => (if s0_0.size + t149.size ≤ 9223372036854775807 then (some (s0_0 ++ t149)) else (none))) = some r := h
  clear h
  obtain ⟨y146, hy146⟩ : ∃ y_ : List Int, y_ = (([a1] : List Int)) := ⟨_, rfl⟩
  replace H : ((gantryref01_Put.f k y146).bind fun t149 => (if s0_0.size + t149.size ≤ 9223372036854775807 then (some (s0_0 ++ t149)) else (none))) = some r := by first | (rw [hy146]; with_reducible exact H) | (have H2_ := (Option.bind_some _ _).symm.trans H; rw [hy146]; with_reducible exact H2_) | (have H2_ := (Option.bind_some _ _).symm.trans H; with_reducible exact H2_) | with_reducible exact H | (rw [hy146]; exact H) | exact H
  have Ny146 := Aside0.mk hy146
  clear hy146
  replace H := Option.bind_eq_some_iff.mp H
  obtain ⟨t149, A30, H⟩ := H
  replace H : (if s0_0.size + t149.size ≤ 9223372036854775807 then (some (s0_0 ++ t149)) else (none)) = some r := H
  have A3 := Aside0.mk A30
  clear A30
  by_cases c4 : s0_0.size + t149.size ≤ 9223372036854775807
  · rw [if_pos c4] at H
    have c4b0 := eq_true c4
    have c4b1 : decide (s0_0.size + t149.size ≤ 9223372036854775807) = true := decide_eq_true c4
    try have c4b2 : (9223372036854775807 < s0_0.size + t149.size) = False := eq_false (Nat.not_lt.2 c4)
    obtain rfl := Option.some.inj H
    go_enter Try.func53, Try.ntmps53
    go_wp2_with (first | ((with_reducible refine gate_dst (N := 6) rfl ?_); refine Kd.R_lit (Kd.int .u64) _ 28 ?hg (N := 6) ?hd (xs := ([a1] : List Int)) (inner := [.int .u64 a1]) (ok := fun _ => True) (okp := fun _ => True) ?hr ?hp (fun _ hk => hk) trivial (Below.refl _ _) (Nat.le_refl _) (by simp) ?_; (case hd => rfl); (case hg => rfl); (case hr => first | (go_simp; done) | (go_simp; rfl)); (case hp => exact (Reps.one (show Kd.M (Kd.int .u64) _ _ _ a1 [.int .u64 a1] from rfl) (Reps.none _ _))); intro v147 w5 ho6 hb hg_ hnew_; clear hg_ hnew_; (first | rw [← Ny146.out] at ho6 | (simp only [Int.reduceToNat] at ho6; rw [← Ny146.out] at ho6)); have n0_ := Aside0.mk (Kd.R_lower ho6 (keep_size (w := w) (g := g) (row := none) (by repeat (first | (with_reducible first | exact HK.out | apply KeepBut.set_ | apply keep_drewN | apply keep_drew | apply keep_alloc) | exact HK.out)))); have n1_ := Aside0.mk (IsS76.below (by repeat (first | (with_reducible first | exact HI0.out | apply IsS76.alloc | apply IsS76.drewN | apply IsS76.drew | apply IsS76.set_0) | exact HI0.out)) hb); have n2_ := Aside0.mk (KeepBut.trans (by repeat (first | (with_reducible first | exact HK.out | apply KeepBut.set_ | apply keep_drewN | apply keep_drew | apply keep_alloc) | exact HK.out)) (KeepBut.of_below hb g none) (.inl rfl)); have n3_ := Aside0.mk (below_step (by repeat (first | (with_reducible first | exact HB.out | apply below_alloc | apply pw_below_drewN | apply below_drew1 | refine below_set ?_ (IsS76.ge HI0.out)) | exact HB.out)) hb); clear HI0; clear HK; clear HB; have HO148 := n0_; have HI0 := n1_; have HK := n2_; have HB := n3_; clear n0_ n1_ n2_ n3_; clear hb ho6; obtain ⟨Ao7, co7, eo7⟩ := Kd.R_slice HO148.out; subst eo7) | ((with_reducible refine gate_callee (f := 91) rfl ?_); refine goesL_ (some 7) rfl rfl Try.func91 (by kernel_rfl) rfl #[.slice Ao7 y146.length co7] rfl (by (try simp only [List.map_toArray, List.map_cons, List.map_nil]); first | done | rfl | (simp only [List.length_drop, List.length_take]; rfl)) ?_; (with_reducible refine (gantryref01_Put.calls k _ _ y146 t149 _ ?side1 ?side2 A3.out).mono ?_); (case side1 => repeat (first | exact (Kd.R_reads' HO148.out).2.2 | (with_reducible refine Kd.C_alloc ?_ _) | (with_reducible refine Kd.C_drewN ?_ _) | (with_reducible refine Kd.C_drew ?_))); (case side2 => exact (Kd.R_reads' HO148.out).2.1); rintro e w8 ⟨rfl, hb⟩; refine ⟨_, rfl, ?_⟩; have n0_ := Aside0.mk (Kd.R_below (by (with_reducible repeat (first | apply Kd.R_alloc | apply Kd.R_drewN | apply Kd.R_drew)); exact HO148.out) hb); have n1_ := Aside0.mk (IsS76.below (by repeat (first | (with_reducible first | exact HI0.out | apply IsS76.alloc | apply IsS76.drewN | apply IsS76.drew | apply IsS76.set_0) | exact HI0.out)) hb); have n2_ := Aside0.mk (KeepBut.trans (by repeat (first | (with_reducible first | exact HK.out | apply KeepBut.set_ | apply keep_drewN | apply keep_drew | apply keep_alloc) | exact HK.out)) (KeepBut.of_below hb g none) (.inl rfl)); have n3_ := Aside0.mk (below_step (by repeat (first | (with_reducible first | exact HB.out | apply below_alloc | apply pw_below_drewN | apply below_drew1 | refine below_set ?_ (IsS76.ge HI0.out)) | exact HB.out)) hb); clear HO148; clear HI0; clear HK; clear HB; have HO148 := n0_; have HI0 := n1_; have HK := n2_; have HB := n3_; clear n0_ n1_ n2_ n3_; (try clear hb); (try clear hb2); (try clear hk); (try clear hi); obtain ⟨HGz9, hgz9⟩ := HI0.out; have hcz9_0 := cellS76_0 HGz9; have hfz9_0 := blk_frozen HGz9 0; clear HGz9 hgz9))
    first | go_end0 | ((try simp only [Exit.inBlock, Exit.then]); refine bodyPost_ret (results_none rfl _ _ _) rfl ?_)
    exact ⟨by first | rfl | (simp [errW_none, errW_some] <;> rfl) | (simp [*, errW_none, errW_some] <;> rfl), by repeat (first | (with_reducible first | exact HI0.out | apply IsS76.alloc | apply IsS76.drewN | apply IsS76.drew | apply IsS76.set_0) | exact HI0.out), by repeat (first | (with_reducible first | exact HB.out | apply below_alloc | apply pw_below_drewN | apply below_drew1 | refine below_set ?_ (IsS76.ge HI0.out)) | exact HB.out), by repeat (first | (with_reducible first | exact HK.out | apply KeepBut.set_ | apply keep_drewN | apply keep_drew | apply keep_alloc) | exact HK.out)⟩
  · rw [if_neg c4] at H
    exact absurd H (by simp)

/-! ### gantryref01_Zigzag: function 121 -/
def gantryref01_Zigzag.f (a0 : Int) : Option (Int) := if a0 ≥ 0 then (some (IntKind.u64.wrap (2 * (IntKind.u64.wrap (a0))))) else (some (IntKind.u64.wrap ((IntKind.u64.wrap (2 * (IntKind.u64.wrap (wrap64 (-(wrap64 (a0 + 1))))))) + 1)))
set_option maxHeartbeats 8000000 in
set_option maxRecDepth 100000 in
theorem gantryref01_Zigzag.calls (a0 : Int) (r : Int) (w : World) (h : gantryref01_Zigzag.f a0 = some r) :
    Calls Try.prog 121 #[.int .i64 a0] w fun e w' => e = .returned (.int .u64 r) ∧ Drawn0 w w' := by
  have H : (if a0 ≥ 0 then (some (IntKind.u64.wrap (2 * (IntKind.u64.wrap (a0))))) else (some (IntKind.u64.wrap ((IntKind.u64.wrap (2 * (IntKind.u64.wrap (wrap64 (-(wrap64 (a0 + 1))))))) + 1)))) = some r := h
  clear h
  by_cases c2 : a0 ≥ 0
  · rw [if_pos c2] at H
    have c2b0 : decide (0 ≤ a0) = true := decide_eq_true c2
    clear c2
    obtain rfl := Option.some.inj H
    go_enter Try.func121, Try.ntmps121
    go_wp2
    go_ret
    exact ⟨by first | rfl | (simp; done) | (simp [*]; done), by repeat (first | exact Drawn0.refl _ | apply Drawn0.step)⟩
  · rw [if_neg c2] at H
    have c2b0 : decide (0 ≤ a0) = false := decide_eq_false c2
    clear c2
    obtain rfl := Option.some.inj H
    go_enter Try.func121, Try.ntmps121
    go_wp2
    go_ret
    exact ⟨by first | rfl | (simp; done) | (simp [*]; done), by repeat (first | exact Drawn0.refl _ | apply Drawn0.step)⟩

/-! ### gantryref01_PutSigned: function 92 -/
def gantryref01_PutSigned.l0 : Nat → List Int → List Int → Int → Option (ByteArray)
  | 0, _, _, _ => none
  | k + 1, x0, x3, x4 => if x4 < (x0.length : Int) then (if 0 ≤ x4 then ((gantryref01_Zigzag.f (rd x0 x4)).bind fun t151 => (if x3.length < 17592186044416 then (gantryref01_PutSigned.l0 k x0 (x3 ++ [t151]) (wrap64 (x4 + 1))) else (none))) else (none)) else ((gantryref01_Put.f k x3).bind fun t155 => (some t155))
def gantryref01_PutSigned.f (k : Nat) (l0 : List Int) : Option (ByteArray) := gantryref01_PutSigned.l0 k l0 ([] : List Int) 0
theorem gantryref01_PutSigned.mono_l : ∀ k, (∀ y0 y1 y2, LeO (gantryref01_PutSigned.l0 k y0 y1 y2) (gantryref01_PutSigned.l0 (k + 1) y0 y1 y2))
  | 0 => fun _ _ _ r h => by simp [gantryref01_PutSigned.l0] at h
  | k + 1 => by
    have ih0 := gantryref01_PutSigned.mono_l k
    · intro y0 y1 y2
      unfold gantryref01_PutSigned.l0
      repeat' first
      | (with_reducible exact ih0 _ _ _)
      | (with_reducible exact gantryref01_Put.mono _ _)
      | (with_reducible exact LeO.refl _)
      | (with_reducible exact LeO.none _)
      | (with_reducible refine LeO.ite ?_ ?_)
      | (with_reducible refine LeO.bind ?_ (fun _ => ?_))
      | exact ih0 _ _ _
      | exact gantryref01_Put.mono _ _
      | exact LeO.none _
      | refine LeO.ite ?_ ?_
      | refine LeO.bind ?_ (fun _ => ?_)
theorem gantryref01_PutSigned.mono : ∀ a0 k, LeO (gantryref01_PutSigned.f k a0) (gantryref01_PutSigned.f (k + 1) a0) := by
  intro a0 k
  have ih0 := gantryref01_PutSigned.mono_l k
  unfold gantryref01_PutSigned.f
  repeat' first
      | (with_reducible exact ih0 _ _ _)
      | (with_reducible exact gantryref01_Put.mono _ _)
      | (with_reducible exact LeO.refl _)
      | (with_reducible exact LeO.none _)
      | (with_reducible refine LeO.ite ?_ ?_)
      | (with_reducible refine LeO.bind ?_ (fun _ => ?_))
      | exact ih0 _ _ _
      | exact gantryref01_Put.mono _ _
      | exact LeO.none _
      | refine LeO.ite ?_ ?_
      | refine LeO.bind ?_ (fun _ => ?_)
set_option maxHeartbeats 8000000 in
set_option maxRecDepth 100000 in
theorem gantryref01_PutSigned.calls (k : Nat) (A0 : Option Addr) (c0 : Nat) (l0 : List Int) (r : ByteArray) (w : World) (hr0 : Kd.C (Kd.int .i64) w A0 l0.length l0) (hc0 : l0.length ≤ c0) (h : gantryref01_PutSigned.f k l0 = some r) :
    Calls Try.prog 92 #[.slice A0 l0.length c0] w fun e w' => e = .returned (.string r) ∧ Below w.heap.size w w' := by
  have HR0 := Aside0.mk hr0
  have HC0 := Aside0.mk hc0
  clear hr0 hc0
  have HB := Aside0.mk (Below.refl w.heap.size w)
  have H : (gantryref01_PutSigned.l0 k l0 ([] : List Int) 0) = some r := h
  clear h
  have H' := Aside0.mk H
  clear H
  go_enter Try.func92, Try.ntmps92
  go_wp2
  go_loopg [3, 4] k (fun kq v3 v4 w' => ∃ (x3_1 : List Int) (x4_1 : Int), v4 = .int .i64 x4_1 ∧ Aside0 (gantryref01_PutSigned.l0 kq l0 x3_1 x4_1 = some r) ∧ Aside0 (kq ≤ k) ∧ Aside0 (Kd.R (Kd.int .u64) 28 w' w.heap.size (fun _ => True) v3 x3_1) ∧ Aside0 (Below w.heap.size w w'))
  case atStart => exact ⟨(([] : List Int)), (0), (by first | rfl | (simp; done) | (simp [*]; done)), H', ⟨Nat.le_refl _⟩, ⟨by first | exact Kd.R_nil _ _ _ _ _ | exact Kd.N_nil _ _ _ _ _ | exact Kd.V_nil _ _ _ _ _ | exact Kd.Q_nil _ _ _ _ _ | exact Kd.S_nil _ _ _ _ _⟩, ⟨by repeat (first | (with_reducible first | exact HB.out | apply below_alloc | apply pw_below_drewN | apply below_drew1) | exact HB.out)⟩⟩
  case round =>
    clear H'
    obtain ⟨x3_1, x4_1, rfl, HA, HK1, HO_3, HB⟩ := hrel
    cases gk with
    | zero => exact absurd HA.out (by simp [gantryref01_PutSigned.l0])
    | succ k1 =>
      have H := HA.out
      clear HA
      simp only [gantryref01_PutSigned.l0] at H
      by_cases c2 : x4_1 < (l0.length : Int)
      · rw [if_pos c2] at H
        have c2b0 : decide (x4_1 < (l0.length : Int)) = true := decide_eq_true c2
        clear c2
        by_cases c3 : 0 ≤ x4_1
        · rw [if_pos c3] at H
          have c3b0 : decide (0 ≤ x4_1) = true := decide_eq_true c3
          clear c3
          replace H := Option.bind_eq_some_iff.mp H
          obtain ⟨t151, A40, H⟩ := H
          replace H : (if x3_1.length < 17592186044416 then (gantryref01_PutSigned.l0 k1 l0 (x3_1 ++ [t151]) (wrap64 (x4_1 + 1))) else (none)) = some r := H
          have A4 := Aside0.mk A40
          clear A40
          by_cases c5 : x3_1.length < 17592186044416
          · rw [if_pos c5] at H
            have LMc5 := Aside0.mk c5
            clear c5
            obtain ⟨y152, hy152⟩ : ∃ y_ : List Int, y_ = (x3_1 ++ [t151]) := ⟨_, rfl⟩
            replace H : (gantryref01_PutSigned.l0 k1 l0 y152 (wrap64 (x4_1 + 1))) = some r := by first | (rw [hy152]; with_reducible exact H) | (have H2_ := (Option.bind_some _ _).symm.trans H; rw [hy152]; with_reducible exact H2_) | (have H2_ := (Option.bind_some _ _).symm.trans H; with_reducible exact H2_) | with_reducible exact H | (rw [hy152]; exact H) | exact H
            have Ny152 := Aside0.mk hy152
            clear hy152
            have H' := Aside0.mk H
            clear H
            have p150 : 0 ≤ (x4_1 : Int) := of_decide_eq_true (by first | (with_reducible assumption) | assumption)
            have q150 : x4_1 < (l0.length : Int) := of_decide_eq_true (by first | (with_reducible assumption) | assumption)
            obtain ⟨ad150, e150, hx150_0⟩ := Kd.at_int HR0.out x4_1 p150 q150
            cases e150
            replace hx150_0 := (HB.out.cell (World.block_lt_of_cell? w _ hx150_0)).trans hx150_0
            replace p150 := eq_true p150
            replace q150 := eq_true q150
            go_wp2_with (first | ((with_reducible refine gate_callee (f := 121) rfl ?_); refine goesL_ (some 16) rfl rfl Try.func121 (by kernel_rfl) rfl #[.int .i64 (rd l0 x4_1)] rfl (by (try simp only [List.map_toArray, List.map_cons, List.map_nil]); first | done | rfl | (simp only [List.length_drop, List.length_take]; rfl)) ?_; (with_reducible refine (gantryref01_Zigzag.calls (rd l0 x4_1) t151 _ A4.out).mono ?_); rintro e w' ⟨rfl, ⟨nd, rfl⟩⟩; refine ⟨_, rfl, ?_⟩) | ((with_reducible refine gate_builtin (b := .append) (xs := #[.tmp 11, .tmp 17]) rfl ?_); at_builtin; refine Kd.R_append (Kd.int .u64) (w0 := w) w.heap.size rfl (.tmp 11) (.tmp 17) 116 28 (.int .u64 0) 8 rfl Try.underlying116 info28 rfl (by decide) (by omega) u3 x3_1 t151 [.int .u64 t151] (fun _ => True) (fun _ => False) rfl rfl ?aP (fun _ hk => hk.elim) ?aF ?aO ?aB ?aS ?aL ?_; (case aP => exact rfl); (case aB => exact (by repeat (first | (with_reducible first | exact HB.out | apply below_alloc | apply pw_below_drewN | apply below_drew1) | exact HB.out))); (case aF => exact (fun _ _ => trivial)); (case aO => exact (by (with_reducible repeat (first | apply Kd.R_alloc | apply Kd.R_drewN | apply Kd.R_drew)); exact HO_3.out)); (case aS => exact (below_size (by repeat (first | (with_reducible first | exact HB.out | apply below_alloc | apply pw_below_drewN | apply below_drew1) | exact HB.out)))); (case aL => have := LMc5.out; omega); intro v153 w6 ho hb hg hat; rw [← Ny152.out] at ho; have n0_ := Aside0.mk (hb); have n1_ := Aside0.mk (ho); clear HB; clear HO_3; have HB := n0_; have HO154 := n1_; clear n0_ n1_; clear ho hb hg hat))
            go_roundg k1
            case measure => have := HK1.out; omega
            case rel => exact ⟨(y152), (wrap64 (x4_1 + 1)), (by first | rfl | (simp; done) | (simp [*]; done)), H', ⟨by have := HK1.out; omega⟩, ⟨by (with_reducible repeat (first | apply Kd.R_alloc | apply Kd.R_drewN | apply Kd.R_drew)); exact HO154.out⟩, ⟨by repeat (first | (with_reducible first | exact HB.out | apply below_alloc | apply pw_below_drewN | apply below_drew1) | exact HB.out)⟩⟩
          · rw [if_neg c5] at H
            exact absurd H (by simp)
        · rw [if_neg c3] at H
          exact absurd H (by simp)
      · rw [if_neg c2] at H
        have c2b0 : decide (x4_1 < (l0.length : Int)) = false := decide_eq_false c2
        clear c2
        replace H := Option.bind_eq_some_iff.mp H
        obtain ⟨t155, A70, H⟩ := H
        replace H : (some t155) = some r := H
        have A7 := Aside0.mk A70
        clear A70
        obtain rfl := Option.some.inj H
        obtain ⟨Ao8, co8, eo8⟩ := Kd.R_slice HO_3.out
        subst eo8
        go_wp2_with (first | ((with_reducible refine gate_callee (f := 91) rfl ?_); refine goesL_ (some 20) rfl rfl Try.func91 (by kernel_rfl) rfl #[.slice Ao8 x3_1.length co8] rfl (by (try simp only [List.map_toArray, List.map_cons, List.map_nil]); first | done | rfl | (simp only [List.length_drop, List.length_take]; rfl)) ?_; (with_reducible refine (gantryref01_Put.calls k1 _ _ x3_1 t155 _ ?side1 ?side2 A7.out).mono ?_); (case side1 => repeat (first | exact (Kd.R_reads' HO_3.out).2.2 | (with_reducible refine Kd.C_alloc ?_ _) | (with_reducible refine Kd.C_drewN ?_ _) | (with_reducible refine Kd.C_drew ?_))); (case side2 => exact (Kd.R_reads' HO_3.out).2.1); rintro e w9 ⟨rfl, hb⟩; refine ⟨_, rfl, ?_⟩; have n0_ := Aside0.mk (Kd.R_below (by (with_reducible repeat (first | apply Kd.R_alloc | apply Kd.R_drewN | apply Kd.R_drew)); exact HO_3.out) hb); have n1_ := Aside0.mk (below_step (by repeat (first | (with_reducible first | exact HB.out | apply below_alloc | apply pw_below_drewN | apply below_drew1) | exact HB.out)) hb); clear HO_3; clear HB; have HO_3 := n0_; have HB := n1_; clear n0_ n1_; (try clear hb); (try clear hb2); (try clear hk); (try clear hi)))
        go_ret
        exact ⟨by first | rfl | (simp [errW_none, errW_some] <;> rfl) | (simp [*, errW_none, errW_some] <;> rfl), by repeat (first | (with_reducible first | exact HB.out | apply below_alloc | apply pw_below_drewN | apply below_drew1) | exact HB.out)⟩

/-! ### gantryref02_Writer_Varint: function 54 -/
def gantryref02_Writer_Varint.f (k : Nat) (s0_0 : ByteArray) (a1 : Int) : Option (ByteArray) := (gantryref01_PutSigned.f k (([a1] : List Int))).bind fun t159 => (if s0_0.size + t159.size ≤ 9223372036854775807 then (some (s0_0 ++ t159)) else (none))
theorem gantryref02_Writer_Varint.mono : ∀ a0 a1 k, LeO (gantryref02_Writer_Varint.f k a0 a1) (gantryref02_Writer_Varint.f (k + 1) a0 a1) := by
  intro a0 a1 k
  unfold gantryref02_Writer_Varint.f
  repeat' first
      | (with_reducible exact gantryref01_PutSigned.mono _ _)
      | (with_reducible exact LeO.refl _)
      | (with_reducible exact LeO.none _)
      | (with_reducible refine LeO.ite ?_ ?_)
      | (with_reducible refine LeO.bind ?_ (fun _ => ?_))
      | exact gantryref01_PutSigned.mono _ _
      | exact LeO.none _
      | refine LeO.ite ?_ ?_
      | refine LeO.bind ?_ (fun _ => ?_)
set_option maxHeartbeats 8000000 in
set_option maxRecDepth 100000 in
theorem gantryref02_Writer_Varint.calls (k : Nat) (g : Nat) (s0_0 : ByteArray) (a1 : Int) (r : ByteArray) (w0 w : World) (hI : IsS76 w0 w g s0_0) (hB : Below w0.heap.size w0 w) (h : gantryref02_Writer_Varint.f k s0_0 a1 = some r) :
    Calls Try.prog 54 #[.pointer (some ⟨g, 0, none⟩), .int .i64 a1] w fun e w' => e = .returned (.tuple #[]) ∧ IsS76 w0 w' g r ∧ Below w0.heap.size w0 w' ∧ KeepBut w w' g none := by
  have HI0 := Aside0.mk hI
  have HK := Aside0.mk (KeepBut.refl w g none)
  have HL := Aside0.mk hB.size
  clear hI
  have HW0 := Aside0.mk hB.size
  have HB := Aside0.mk hB
  clear hB
  have H : ((gantryref01_PutSigned.f k (([a1] : List Int))).bind fun t159 => (if s0_0.size + t159.size ≤ 9223372036854775807 then (some (s0_0 ++ t159)) else (none))) = some r := h
  clear h
  obtain ⟨y156, hy156⟩ : ∃ y_ : List Int, y_ = (([a1] : List Int)) := ⟨_, rfl⟩
  replace H : ((gantryref01_PutSigned.f k y156).bind fun t159 => (if s0_0.size + t159.size ≤ 9223372036854775807 then (some (s0_0 ++ t159)) else (none))) = some r := by first | (rw [hy156]; with_reducible exact H) | (have H2_ := (Option.bind_some _ _).symm.trans H; rw [hy156]; with_reducible exact H2_) | (have H2_ := (Option.bind_some _ _).symm.trans H; with_reducible exact H2_) | with_reducible exact H | (rw [hy156]; exact H) | exact H
  have Ny156 := Aside0.mk hy156
  clear hy156
  replace H := Option.bind_eq_some_iff.mp H
  obtain ⟨t159, A30, H⟩ := H
  replace H : (if s0_0.size + t159.size ≤ 9223372036854775807 then (some (s0_0 ++ t159)) else (none)) = some r := H
  have A3 := Aside0.mk A30
  clear A30
  by_cases c4 : s0_0.size + t159.size ≤ 9223372036854775807
  · rw [if_pos c4] at H
    have c4b0 := eq_true c4
    have c4b1 : decide (s0_0.size + t159.size ≤ 9223372036854775807) = true := decide_eq_true c4
    try have c4b2 : (9223372036854775807 < s0_0.size + t159.size) = False := eq_false (Nat.not_lt.2 c4)
    obtain rfl := Option.some.inj H
    go_enter Try.func54, Try.ntmps54
    go_wp2_with (first | ((with_reducible refine gate_dst (N := 6) rfl ?_); refine Kd.R_lit (Kd.int .i64) _ 2 ?hg (N := 6) ?hd (xs := ([a1] : List Int)) (inner := [.int .i64 a1]) (ok := fun _ => True) (okp := fun _ => True) ?hr ?hp (fun _ hk => hk) trivial (Below.refl _ _) (Nat.le_refl _) (by simp) ?_; (case hd => rfl); (case hg => rfl); (case hr => first | (go_simp; done) | (go_simp; rfl)); (case hp => exact (Reps.one (show Kd.M (Kd.int .i64) _ _ _ a1 [.int .i64 a1] from rfl) (Reps.none _ _))); intro v157 w5 ho6 hb hg_ hnew_; clear hg_ hnew_; (first | rw [← Ny156.out] at ho6 | (simp only [Int.reduceToNat] at ho6; rw [← Ny156.out] at ho6)); have n0_ := Aside0.mk (Kd.R_lower ho6 (keep_size (w := w) (g := g) (row := none) (by repeat (first | (with_reducible first | exact HK.out | apply KeepBut.set_ | apply keep_drewN | apply keep_drew | apply keep_alloc) | exact HK.out)))); have n1_ := Aside0.mk (IsS76.below (by repeat (first | (with_reducible first | exact HI0.out | apply IsS76.alloc | apply IsS76.drewN | apply IsS76.drew | apply IsS76.set_0) | exact HI0.out)) hb); have n2_ := Aside0.mk (KeepBut.trans (by repeat (first | (with_reducible first | exact HK.out | apply KeepBut.set_ | apply keep_drewN | apply keep_drew | apply keep_alloc) | exact HK.out)) (KeepBut.of_below hb g none) (.inl rfl)); have n3_ := Aside0.mk (below_step (by repeat (first | (with_reducible first | exact HB.out | apply below_alloc | apply pw_below_drewN | apply below_drew1 | refine below_set ?_ (IsS76.ge HI0.out)) | exact HB.out)) hb); clear HI0; clear HK; clear HB; have HO158 := n0_; have HI0 := n1_; have HK := n2_; have HB := n3_; clear n0_ n1_ n2_ n3_; clear hb ho6; obtain ⟨Ao7, co7, eo7⟩ := Kd.R_slice HO158.out; subst eo7) | ((with_reducible refine gate_callee (f := 92) rfl ?_); refine goesL_ (some 7) rfl rfl Try.func92 (by kernel_rfl) rfl #[.slice Ao7 y156.length co7] rfl (by (try simp only [List.map_toArray, List.map_cons, List.map_nil]); first | done | rfl | (simp only [List.length_drop, List.length_take]; rfl)) ?_; (with_reducible refine (gantryref01_PutSigned.calls k _ _ y156 t159 _ ?side1 ?side2 A3.out).mono ?_); (case side1 => repeat (first | exact (Kd.R_reads' HO158.out).2.2 | (with_reducible refine Kd.C_alloc ?_ _) | (with_reducible refine Kd.C_drewN ?_ _) | (with_reducible refine Kd.C_drew ?_))); (case side2 => exact (Kd.R_reads' HO158.out).2.1); rintro e w8 ⟨rfl, hb⟩; refine ⟨_, rfl, ?_⟩; have n0_ := Aside0.mk (Kd.R_below (by (with_reducible repeat (first | apply Kd.R_alloc | apply Kd.R_drewN | apply Kd.R_drew)); exact HO158.out) hb); have n1_ := Aside0.mk (IsS76.below (by repeat (first | (with_reducible first | exact HI0.out | apply IsS76.alloc | apply IsS76.drewN | apply IsS76.drew | apply IsS76.set_0) | exact HI0.out)) hb); have n2_ := Aside0.mk (KeepBut.trans (by repeat (first | (with_reducible first | exact HK.out | apply KeepBut.set_ | apply keep_drewN | apply keep_drew | apply keep_alloc) | exact HK.out)) (KeepBut.of_below hb g none) (.inl rfl)); have n3_ := Aside0.mk (below_step (by repeat (first | (with_reducible first | exact HB.out | apply below_alloc | apply pw_below_drewN | apply below_drew1 | refine below_set ?_ (IsS76.ge HI0.out)) | exact HB.out)) hb); clear HO158; clear HI0; clear HK; clear HB; have HO158 := n0_; have HI0 := n1_; have HK := n2_; have HB := n3_; clear n0_ n1_ n2_ n3_; (try clear hb); (try clear hb2); (try clear hk); (try clear hi); obtain ⟨HGz9, hgz9⟩ := HI0.out; have hcz9_0 := cellS76_0 HGz9; have hfz9_0 := blk_frozen HGz9 0; clear HGz9 hgz9))
    first | go_end0 | ((try simp only [Exit.inBlock, Exit.then]); refine bodyPost_ret (results_none rfl _ _ _) rfl ?_)
    exact ⟨by first | rfl | (simp [errW_none, errW_some] <;> rfl) | (simp [*, errW_none, errW_some] <;> rfl), by repeat (first | (with_reducible first | exact HI0.out | apply IsS76.alloc | apply IsS76.drewN | apply IsS76.drew | apply IsS76.set_0) | exact HI0.out), by repeat (first | (with_reducible first | exact HB.out | apply below_alloc | apply pw_below_drewN | apply below_drew1 | refine below_set ?_ (IsS76.ge HI0.out)) | exact HB.out), by repeat (first | (with_reducible first | exact HK.out | apply KeepBut.set_ | apply keep_drewN | apply keep_drew | apply keep_alloc) | exact HK.out)⟩
  · rw [if_neg c4] at H
    exact absurd H (by simp)

/-! ### gantryref02_Writer_Raw: function 56 -/
def gantryref02_Writer_Raw.f (s0_0 : ByteArray) (a1 : ByteArray) : Option (ByteArray) := if s0_0.size + a1.size ≤ 9223372036854775807 then (some (s0_0 ++ a1)) else (none)
set_option maxHeartbeats 8000000 in
set_option maxRecDepth 100000 in
theorem gantryref02_Writer_Raw.calls (g : Nat) (s0_0 : ByteArray) (a1 : ByteArray) (r : ByteArray) (w0 w : World) (hI : IsS76 w0 w g s0_0) (hB : Below w0.heap.size w0 w) (h : gantryref02_Writer_Raw.f s0_0 a1 = some r) :
    Calls Try.prog 56 #[.pointer (some ⟨g, 0, none⟩), .string a1] w fun e w' => e = .returned (.tuple #[]) ∧ IsS76 w0 w' g r ∧ Below w0.heap.size w0 w' ∧ KeepBut w w' g none := by
  have HI0 := Aside0.mk hI
  have HK := Aside0.mk (KeepBut.refl w g none)
  have HL := Aside0.mk hB.size
  clear hI
  have HW0 := Aside0.mk hB.size
  have HB := Aside0.mk hB
  clear hB
  have H : (if s0_0.size + a1.size ≤ 9223372036854775807 then (some (s0_0 ++ a1)) else (none)) = some r := h
  clear h
  by_cases c3 : s0_0.size + a1.size ≤ 9223372036854775807
  · rw [if_pos c3] at H
    have c3b0 := eq_true c3
    have c3b1 : decide (s0_0.size + a1.size ≤ 9223372036854775807) = true := decide_eq_true c3
    try have c3b2 : (9223372036854775807 < s0_0.size + a1.size) = False := eq_false (Nat.not_lt.2 c3)
    obtain rfl := Option.some.inj H
    obtain ⟨HGz4, hgz4⟩ := HI0.out
    have hcz4_0 := cellS76_0 HGz4
    have hfz4_0 := blk_frozen HGz4 0
    clear HGz4 hgz4
    go_enter Try.func56, Try.ntmps56
    go_wp2
    first | go_end0 | ((try simp only [Exit.inBlock, Exit.then]); refine bodyPost_ret (results_none rfl _ _ _) rfl ?_)
    exact ⟨by first | rfl | (simp [errW_none, errW_some] <;> rfl) | (simp [*, errW_none, errW_some] <;> rfl), by repeat (first | (with_reducible first | exact HI0.out | apply IsS76.alloc | apply IsS76.drewN | apply IsS76.drew | apply IsS76.set_0) | exact HI0.out), by repeat (first | (with_reducible first | exact HB.out | apply below_alloc | apply pw_below_drewN | apply below_drew1 | refine below_set ?_ (IsS76.ge HI0.out)) | exact HB.out), by repeat (first | (with_reducible first | exact HK.out | apply KeepBut.set_ | apply keep_drewN | apply keep_drew | apply keep_alloc) | exact HK.out)⟩
  · rw [if_neg c3] at H
    exact absurd H (by simp)

end Go.Proofs.Ytclnpedmoelipaa.QW
