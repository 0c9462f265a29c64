/- The machine side of a law, written by a program of this session (the kit printer, changed; wip/tools/mkprint.py): functions, their calls, the row. Lean checks it. -/
import Derived.Test.YtipdfajadehkmaaQVarintPutsx0
namespace Go.Proofs.Ytipdfajadehkmaa.QVarintPuts
open Go.RowKit Go.Proofs.YtipdfajadehkmaaW.PrintWords Go.Proofs.YtipdfajadehkmaaW.PrintLast Go.Proofs.YtipdfajadehkmaaW.PrintMore
attribute [local go_sem] max2_int min2_int max_two min_two max_three min_three max_four min_four   -- for this text's walks alone
set_option linter.unusedVariables false
set_option linter.unusedSimpArgs false

/-! ### varint_Zigzag: function 16 -/
def varint_Zigzag.f (a0 : Int) : Option (Int) := some (Go.bits .xor .u64 (IntKind.u64.wrap ((IntKind.u64.wrap (a0)) * 2)) (IntKind.u64.wrap (a0 / 9223372036854775808)))
set_option maxHeartbeats 8000000 in
set_option maxRecDepth 100000 in
theorem varint_Zigzag.calls (a0 : Int) (r : Int) (w : World) (h : varint_Zigzag.f a0 = some r) :
    Calls Try.prog 16 #[.int .i64 a0] w fun e w' => e = .returned (.int .u64 r) ∧ Drawn0 w w' := by
  have H : (some (Go.bits .xor .u64 (IntKind.u64.wrap ((IntKind.u64.wrap (a0)) * 2)) (IntKind.u64.wrap (a0 / 9223372036854775808)))) = some r := h
  clear h
  obtain rfl := Option.some.inj H
  go_enter Try.func16, Try.ntmps16
  go_wp2
  go_ret
  exact ⟨by first | rfl | (simp; done) | (simp [*]; done), by repeat (first | exact Drawn0.refl _ | apply Drawn0.step)⟩

/-! ### varint_form: function 54 -/
def varint_form.l0 : Nat → List Int → Int → Option (List Int)
  | 0, _, _ => none
  | k + 1, x0, x1 => if x1 ≥ 128 then (if x0.length < 140737488355328 then (varint_form.l0 k (x0 ++ [Go.bits .or .u8 ((x1) % 256) 128]) (x1 / 128)) else (none)) else (if x0.length < 140737488355328 then (some (x0 ++ [(x1) % 256])) else (none))
def varint_form.f (k : Nat) (l0 : List Int) (a1 : Int) : Option (List Int) := varint_form.l0 k l0 a1
theorem varint_form.mono_l : ∀ k, (∀ y0 y1, LeO (varint_form.l0 k y0 y1) (varint_form.l0 (k + 1) y0 y1))
  | 0 => fun _ _ r h => by simp [varint_form.l0] at h
  | k + 1 => by
    have ih0 := varint_form.mono_l k
    · intro y0 y1
      unfold varint_form.l0
      repeat' first
      | (with_reducible exact ih0 _ _)
      | (with_reducible exact LeO.refl _)
      | (with_reducible exact LeO.none _)
      | (with_reducible refine LeO.ite ?_ ?_)
      | (with_reducible refine LeO.bind ?_ (fun _ => ?_))
      | exact ih0 _ _
      | exact LeO.none _
      | refine LeO.ite ?_ ?_
      | refine LeO.bind ?_ (fun _ => ?_)
theorem varint_form.mono : ∀ a0 a1 k, LeO (varint_form.f k a0 a1) (varint_form.f (k + 1) a0 a1) := by
  intro a0 a1 k
  have ih0 := varint_form.mono_l k
  unfold varint_form.f
  repeat' first
      | (with_reducible exact ih0 _ _)
      | (with_reducible exact LeO.refl _)
      | (with_reducible exact LeO.none _)
      | (with_reducible refine LeO.ite ?_ ?_)
      | (with_reducible refine LeO.bind ?_ (fun _ => ?_))
      | exact ih0 _ _
      | exact LeO.none _
      | refine LeO.ite ?_ ?_
      | refine LeO.bind ?_ (fun _ => ?_)
set_option maxHeartbeats 8000000 in
set_option maxRecDepth 100000 in
theorem varint_form.calls (k : Nat) (P0_ : Nat → Prop) (u9000_ : Value) (l0 : List Int) (a1 : Int) (r : List Int) (w0 w : World) (hB : Below w0.heap.size w0 w) (ho0 : Kd.R (Kd.int .u8) 5 w w0.heap.size P0_ u9000_ l0) (h : varint_form.f k l0 a1 = some r) :
    Calls Try.prog 54 #[u9000_, .int .u64 a1] w fun e w' => ∃ v0_ : Value, e = .returned (v0_) ∧ Kd.R (Kd.int .u8) 5 w' w0.heap.size (fun k_ => (P0_ k_ ∨ w.heap.size ≤ k_)) v0_ r ∧ Below w0.heap.size w0 w' ∧ Kept w w' (fun k_ => P0_ k_) := by
  have HO0 := Aside0.mk (show Kd.R (Kd.int .u8) 5 w w0.heap.size (fun k_ => (P0_ k_ ∨ w.heap.size ≤ k_)) u9000_ l0 from Kd.R_mono ho0 (fun k_ hk => (.inl hk)))
  have HK := Aside0.mk (Kept.refl w (fun k_ => P0_ k_))
  have HW0 := Aside0.mk hB.size
  have HB := Aside0.mk hB
  clear hB
  have H : (varint_form.l0 k l0 a1) = some r := h
  clear h
  have H' := Aside0.mk H
  clear H
  go_enter Try.func54, Try.ntmps54
  go_wp2
  go_loopg [0, 1] k (fun kq v0 v1 w' => ∃ (x0_1 : List Int) (x1_1 : Int), v1 = .int .u64 x1_1 ∧ Aside0 (varint_form.l0 kq x0_1 x1_1 = some r) ∧ Aside0 (kq ≤ k) ∧ Aside0 (Kd.R (Kd.int .u8) 5 w' w0.heap.size (fun k_ => (P0_ k_ ∨ w.heap.size ≤ k_)) v0 x0_1) ∧ Aside0 (Kept w w' (fun k_ => P0_ k_)) ∧ Aside0 (Below w0.heap.size w0 w'))
  case atStart => exact ⟨(l0), (a1), (by first | rfl | (simp; done) | (simp [*]; done)), H', ⟨Nat.le_refl _⟩, ⟨by (with_reducible repeat (first | apply Kd.R_alloc | apply Kd.R_drewN | apply Kd.R_drew)); exact HO0.out⟩, ⟨by repeat (first | (with_reducible first | exact HK.out | apply Kept.alloc | apply Kept.drewN | apply Kept.drew) | exact HK.out)⟩, ⟨by repeat (first | (with_reducible first | exact HB.out | apply below_alloc | apply pw_below_drewN | apply below_drew1) | exact HB.out)⟩⟩
  case round =>
    clear H'
    try clear p2
    obtain ⟨x0_1, x1_1, rfl, HA, HK1, HO_0, HK, HB⟩ := hrel
    cases gk with
    | zero => exact absurd HA.out (by simp [varint_form.l0])
    | succ k1 =>
      have H := HA.out
      clear HA
      simp only [varint_form.l0] at H
      by_cases c3 : x1_1 ≥ 128
      · rw [if_pos c3] at H
        have c3b0 : decide (128 ≤ x1_1) = true := decide_eq_true c3
        clear c3
        by_cases c4 : x0_1.length < 140737488355328
        · rw [if_pos c4] at H
          have LMc4 := Aside0.mk c4
          clear c4
          obtain ⟨y101, hy101⟩ : ∃ y_ : List Int, y_ = (x0_1 ++ [Go.bits .or .u8 ((x1_1) % 256) 128]) := ⟨_, rfl⟩
          replace H : (varint_form.l0 k1 y101 (x1_1 / 128)) = some r := by first | (rw [hy101]; with_reducible exact H) | (have H2_ := (Option.bind_some _ _).symm.trans H; rw [hy101]; with_reducible exact H2_) | (have H2_ := (Option.bind_some _ _).symm.trans H; with_reducible exact H2_) | with_reducible exact H | (rw [hy101]; exact H) | exact H
          have Ny101 := Aside0.mk hy101
          clear hy101
          have H' := Aside0.mk H
          clear H
          go_wp2_with (first | ((with_reducible refine gate_builtin (b := .append) (xs := #[.tmp 7, .tmp 11]) rfl ?_); at_builtin; refine Kd.R_append (Kd.int .u8) (w0 := w0) w0.heap.size rfl (.tmp 7) (.tmp 11) 85 5 (.int .u8 0) 1 rfl Try.underlying85 info5 rfl (by decide) (by omega) u0 x0_1 (Go.bits .or .u8 ((x1_1) % 256) 128) [.int .u8 (Go.bits .or .u8 ((x1_1) % 256) 128)] (fun k_ => (P0_ k_ ∨ w.heap.size ≤ k_)) (fun _ => False) rfl rfl ?aP (fun _ hk => hk.elim) ?aF ?aO ?aB ?aS ?aL ?_; (case aP => exact rfl); (case aB => exact (by repeat (first | (with_reducible first | exact HB.out | apply below_alloc | apply pw_below_drewN | apply below_drew1) | exact HB.out))); (case aF => exact (fun k_ hk => (.inr (Nat.le_trans (by first | exact HK.out.1 | exact (show Kept w _ (fun k_ => P0_ k_) from by repeat (first | (with_reducible first | exact HK.out | apply Kept.alloc | apply Kept.drewN | apply Kept.drew) | exact HK.out)).1) hk)))); (case aO => exact (by (with_reducible repeat (first | apply Kd.R_alloc | apply Kd.R_drewN | apply Kd.R_drew)); exact HO_0.out)); (case aS => exact (below_size (by repeat (first | (with_reducible first | exact HB.out | apply below_alloc | apply pw_below_drewN | apply below_drew1) | exact HB.out)))); (case aL => have := LMc4.out; omega); intro v102 w5 ho hb hg hat; rw [← Ny101.out] at ho; have n0_ := Aside0.mk (hb); have n1_ := Aside0.mk (Kept.of_grown (S := (fun k_ => P0_ k_)) hg (by repeat (first | (with_reducible first | exact HK.out | apply Kept.alloc | apply Kept.drewN | apply Kept.drew) | exact HK.out)) (fun k_ e_ => (HO_0.out.1 k_ e_))); have n2_ := Aside0.mk (ho); clear HB; clear HK; clear HO_0; have HB := n0_; have HK := n1_; have HO103 := n2_; clear n0_ n1_ n2_; clear ho hb hg hat))
          go_roundg k1
          case measure => have := HK1.out; omega
          case rel => exact ⟨(y101), (x1_1 / 128), (by first | rfl | (simp; done) | (simp [*]; done)), H', ⟨by have := HK1.out; omega⟩, ⟨by (with_reducible repeat (first | apply Kd.R_alloc | apply Kd.R_drewN | apply Kd.R_drew)); exact HO103.out⟩, ⟨by repeat (first | (with_reducible first | exact HK.out | apply Kept.alloc | apply Kept.drewN | apply Kept.drew) | exact HK.out)⟩, ⟨by repeat (first | (with_reducible first | exact HB.out | apply below_alloc | apply pw_below_drewN | apply below_drew1) | exact HB.out)⟩⟩
        · rw [if_neg c4] at H
          exact absurd H (by simp)
      · rw [if_neg c3] at H
        have c3b0 : decide (128 ≤ x1_1) = false := decide_eq_false c3
        clear c3
        by_cases c6 : x0_1.length < 140737488355328
        · rw [if_pos c6] at H
          have LMc6 := Aside0.mk c6
          clear c6
          obtain ⟨y104, hy104⟩ : ∃ y_ : List Int, y_ = (x0_1 ++ [(x1_1) % 256]) := ⟨_, rfl⟩
          replace H : (some y104) = some r := by first | (rw [hy104]; with_reducible exact H) | (have H2_ := (Option.bind_some _ _).symm.trans H; rw [hy104]; with_reducible exact H2_) | (have H2_ := (Option.bind_some _ _).symm.trans H; with_reducible exact H2_) | with_reducible exact H | (rw [hy104]; exact H) | exact H
          have Ny104 := Aside0.mk hy104
          clear hy104
          obtain rfl := Option.some.inj H
          go_wp2_with (first | ((with_reducible refine gate_builtin (b := .append) (xs := #[.tmp 15, .tmp 18]) rfl ?_); at_builtin; refine Kd.R_append (Kd.int .u8) (w0 := w0) w0.heap.size rfl (.tmp 15) (.tmp 18) 85 5 (.int .u8 0) 1 rfl Try.underlying85 info5 rfl (by decide) (by omega) u0 x0_1 ((x1_1) % 256) [.int .u8 ((x1_1) % 256)] (fun k_ => (P0_ k_ ∨ w.heap.size ≤ k_)) (fun _ => False) rfl rfl ?aP (fun _ hk => hk.elim) ?aF ?aO ?aB ?aS ?aL ?_; (case aP => exact rfl); (case aB => exact (by repeat (first | (with_reducible first | exact HB.out | apply below_alloc | apply pw_below_drewN | apply below_drew1) | exact HB.out))); (case aF => exact (fun k_ hk => (.inr (Nat.le_trans (by first | exact HK.out.1 | exact (show Kept w _ (fun k_ => P0_ k_) from by repeat (first | (with_reducible first | exact HK.out | apply Kept.alloc | apply Kept.drewN | apply Kept.drew) | exact HK.out)).1) hk)))); (case aO => exact (by (with_reducible repeat (first | apply Kd.R_alloc | apply Kd.R_drewN | apply Kd.R_drew)); exact HO_0.out)); (case aS => exact (below_size (by repeat (first | (with_reducible first | exact HB.out | apply below_alloc | apply pw_below_drewN | apply below_drew1) | exact HB.out)))); (case aL => have := LMc6.out; omega); intro v105 w7 ho hb hg hat; rw [← Ny104.out] at ho; have n0_ := Aside0.mk (hb); have n1_ := Aside0.mk (Kept.of_grown (S := (fun k_ => P0_ k_)) hg (by repeat (first | (with_reducible first | exact HK.out | apply Kept.alloc | apply Kept.drewN | apply Kept.drew) | exact HK.out)) (fun k_ e_ => (HO_0.out.1 k_ e_))); have n2_ := Aside0.mk (ho); clear HB; clear HK; clear HO_0; have HB := n0_; have HK := n1_; have HO106 := n2_; clear n0_ n1_ n2_; clear ho hb hg hat))
          go_ret
          exact ⟨_, by first | rfl | (simp [errW_none, errW_some] <;> rfl) | (simp [*, errW_none, errW_some] <;> rfl), by (with_reducible repeat (first | apply Kd.R_alloc | apply Kd.R_drewN | apply Kd.R_drew)); exact HO106.out, by repeat (first | (with_reducible first | exact HB.out | apply below_alloc | apply pw_below_drewN | apply below_drew1) | exact HB.out), by repeat (first | (with_reducible first | exact HK.out | apply Kept.alloc | apply Kept.drewN | apply Kept.drew) | exact HK.out)⟩
        · rw [if_neg c6] at H
          exact absurd H (by simp)

/-! ### varint_Put_uint64: function 22 -/
def varint_Put_uint64.l0 : Nat → List Int → List Int → Int → Int → Option (ByteArray)
  | 0, _, _, _, _ => none
  | k + 1, x3, x6, x7, x8 => if x8 < x7 then (if 0 ≤ x8 then (if x8 < (x6.length : Int) then ((varint_form.f k x3 (rd x6 x8)).bind fun t108 => (varint_Put_uint64.l0 k t108 x6 x7 (wrap64 (x8 + 1)))) else (none)) else (none)) else (some (strOfNums x3))
def varint_Put_uint64.f (k : Nat) (l0 : List Int) : Option (ByteArray) := varint_Put_uint64.l0 k ([] : List Int) l0 (l0.length : Int) 0
theorem varint_Put_uint64.mono_l : ∀ k, (∀ y0 y1 y2 y3, LeO (varint_Put_uint64.l0 k y0 y1 y2 y3) (varint_Put_uint64.l0 (k + 1) y0 y1 y2 y3))
  | 0 => fun _ _ _ _ r h => by simp [varint_Put_uint64.l0] at h
  | k + 1 => by
    have ih0 := varint_Put_uint64.mono_l k
    · intro y0 y1 y2 y3
      unfold varint_Put_uint64.l0
      repeat' first
      | (with_reducible exact ih0 _ _ _ _)
      | (with_reducible exact varint_form.mono _ _ _)
      | (with_reducible exact LeO.refl _)
      | (with_reducible exact LeO.none _)
      | (with_reducible refine LeO.ite ?_ ?_)
      | (with_reducible refine LeO.bind ?_ (fun _ => ?_))
      | exact ih0 _ _ _ _
      | exact varint_form.mono _ _ _
      | exact LeO.none _
      | refine LeO.ite ?_ ?_
      | refine LeO.bind ?_ (fun _ => ?_)
theorem varint_Put_uint64.mono : ∀ a0 k, LeO (varint_Put_uint64.f k a0) (varint_Put_uint64.f (k + 1) a0) := by
  intro a0 k
  have ih0 := varint_Put_uint64.mono_l k
  unfold varint_Put_uint64.f
  repeat' first
      | (with_reducible exact ih0 _ _ _ _)
      | (with_reducible exact varint_form.mono _ _ _)
      | (with_reducible exact LeO.refl _)
      | (with_reducible exact LeO.none _)
      | (with_reducible refine LeO.ite ?_ ?_)
      | (with_reducible refine LeO.bind ?_ (fun _ => ?_))
      | exact ih0 _ _ _ _
      | exact varint_form.mono _ _ _
      | exact LeO.none _
      | refine LeO.ite ?_ ?_
      | refine LeO.bind ?_ (fun _ => ?_)
set_option maxHeartbeats 8000000 in
set_option maxRecDepth 100000 in
theorem varint_Put_uint64.calls (k : Nat) (A0 : Option Addr) (c0 : Nat) (l0 : List Int) (r : ByteArray) (w : World) (hr0 : Kd.C (Kd.int .u64) w A0 l0.length l0) (hc0 : l0.length ≤ c0) (h : varint_Put_uint64.f k l0 = some r) :
    Calls Try.prog 22 #[.slice A0 l0.length c0] w fun e w' => e = .returned (.string r) ∧ Below w.heap.size w w' := by
  have HR0 := Aside0.mk hr0
  have HC0 := Aside0.mk hc0
  clear hr0 hc0
  have HB := Aside0.mk (Below.refl w.heap.size w)
  have H : (varint_Put_uint64.l0 k ([] : List Int) l0 (l0.length : Int) 0) = some r := h
  clear h
  have H' := Aside0.mk H
  clear H
  go_enter Try.func22, Try.ntmps22
  go_wp2
  go_loopg [3, 8] k (fun kq v3 v8 w' => ∃ (x3_1 : List Int) (x8_1 : Int), v8 = .int .i64 x8_1 ∧ Aside0 (varint_Put_uint64.l0 kq x3_1 l0 (l0.length : Int) x8_1 = some r) ∧ Aside0 (kq ≤ k) ∧ Aside0 (Kd.R (Kd.int .u8) 5 w' w.heap.size (fun _ => True) v3 x3_1) ∧ Aside0 (Below w.heap.size w w'))
  case atStart => exact ⟨(([] : List Int)), (0), (by first | rfl | (simp; done) | (simp [*]; done)), H', ⟨Nat.le_refl _⟩, ⟨by first | exact Kd.R_nil _ _ _ _ _ | exact Kd.N_nil _ _ _ _ _ | exact Kd.V_nil _ _ _ _ _ | exact Kd.Q_nil _ _ _ _ _ | exact Kd.S_nil _ _ _ _ _⟩, ⟨by repeat (first | (with_reducible first | exact HB.out | apply below_alloc | apply pw_below_drewN | apply below_drew1) | exact HB.out)⟩⟩
  case round =>
    clear H'
    obtain ⟨x3_1, x8_1, rfl, HA, HK1, HO_3, HB⟩ := hrel
    cases gk with
    | zero => exact absurd HA.out (by simp [varint_Put_uint64.l0])
    | succ k1 =>
      have H := HA.out
      clear HA
      simp only [varint_Put_uint64.l0] at H
      by_cases c2 : x8_1 < (l0.length : Int)
      · rw [if_pos c2] at H
        have c2b0 : decide (x8_1 < (l0.length : Int)) = true := decide_eq_true c2
        clear c2
        by_cases c3 : 0 ≤ x8_1
        · rw [if_pos c3] at H
          have c3b0 : decide (0 ≤ x8_1) = true := decide_eq_true c3
          clear c3
          by_cases c4 : x8_1 < (l0.length : Int)
          · rw [if_pos c4] at H
            have c4b0 : decide (x8_1 < (l0.length : Int)) = true := decide_eq_true c4
            clear c4
            replace H := Option.bind_eq_some_iff.mp H
            obtain ⟨t108, A50, H⟩ := H
            replace H : (varint_Put_uint64.l0 k1 t108 l0 (l0.length : Int) (wrap64 (x8_1 + 1))) = some r := H
            have A5 := Aside0.mk A50
            clear A50
            have H' := Aside0.mk H
            clear H
            have p107 : 0 ≤ (x8_1 : Int) := of_decide_eq_true (by first | (with_reducible assumption) | assumption)
            have q107 : x8_1 < (l0.length : Int) := of_decide_eq_true (by first | (with_reducible assumption) | assumption)
            obtain ⟨ad107, e107, hx107_0⟩ := Kd.at_int HR0.out x8_1 p107 q107
            cases e107
            replace hx107_0 := (HB.out.cell (World.block_lt_of_cell? w _ hx107_0)).trans hx107_0
            replace p107 := eq_true p107
            replace q107 := eq_true q107
            obtain ⟨Ao6, co6, eo6⟩ := Kd.R_slice HO_3.out
            subst eo6
            go_wp2_with (first | ((with_reducible refine gate_callee (f := 54) rfl ?_); refine goesL_ (some 14) rfl rfl Try.func54 (by kernel_rfl) rfl #[.slice Ao6 x3_1.length co6, .int .u64 (rd l0 x8_1)] rfl (by (try simp only [List.map_toArray, List.map_cons, List.map_nil]); first | done | rfl | (simp only [List.length_drop, List.length_take]; rfl)) ?_; (with_reducible refine (varint_form.calls k1 (fun k_ => some k_ = (.slice Ao6 x3_1.length co6 : Value).ownBlock) (.slice Ao6 x3_1.length co6) x3_1 (rd l0 x8_1) t108 w _ ?side1 ?side2 A5.out).mono ?_); (case side1 => repeat (first | (with_reducible first | exact HB.out | apply below_alloc | apply pw_below_drewN | apply below_drew1) | exact HB.out)); (case side2 => exact Kd.R_tight rfl HO_3.out); rintro e w7 ⟨v109, rfl, ho0, hb, hkp⟩; refine ⟨_, rfl, ?_⟩; have n0_ := Aside0.mk (Kd.R_mono (ok' := fun k_ => True) ho0 (fun k_ hk_ => trivial)); have n1_ := Aside0.mk (hb); clear HB; clear HO_3; have HO110 := n0_; have HB := n1_; clear n0_ n1_; (try clear hb); (try clear hkp); (try clear ho0)))
            go_roundg k1
            case measure => have := HK1.out; omega
            case rel => exact ⟨(t108), (wrap64 (x8_1 + 1)), (by first | rfl | (simp; done) | (simp [*]; done)), H', ⟨by have := HK1.out; omega⟩, ⟨by (with_reducible repeat (first | apply Kd.R_alloc | apply Kd.R_drewN | apply Kd.R_drew)); exact HO110.out⟩, ⟨by repeat (first | (with_reducible first | exact HB.out | apply below_alloc | apply pw_below_drewN | apply below_drew1) | exact HB.out)⟩⟩
          · rw [if_neg c4] at H
            exact absurd H (by simp)
        · rw [if_neg c3] at H
          exact absurd H (by simp)
      · rw [if_neg c2] at H
        have c2b0 : decide (x8_1 < (l0.length : Int)) = false := decide_eq_false c2
        clear c2
        obtain rfl := Option.some.inj H
        have hcv8 := own_string (P := Try.prog) Try.underlying85 Try.underlying5 Try.underlying9 (Kd.own_of_R HO_3.out)
        go_wp2
        go_ret
        exact ⟨by first | rfl | (simp [errW_none, errW_some] <;> rfl) | (simp [*, errW_none, errW_some] <;> rfl), by repeat (first | (with_reducible first | exact HB.out | apply below_alloc | apply pw_below_drewN | apply below_drew1) | exact HB.out)⟩

/-! ### varint_take: function 52 -/
mutual
def varint_take.l0 : Nat → ByteArray → Int → Int → Option (Int × Int × Int)
  | 0, _, _, _ => none
  | k + 1, x0, x5, x8 => if x8 < 10 then (if x8 = (x0.size : Int) then (some (0, 0, 20)) else (if 0 ≤ x8 then (if x8 < (x0.size : Int) then (if x8 = 9 then (if (bt x0 x8) > 1 then (varint_take.j1 k x0 x5 x8 (bt x0 x8) x8 true) else (if x8 > 0 then (varint_take.j1 k x0 x5 x8 (bt x0 x8) x8 ((bt x0 x8) == 0)) else (varint_take.j1 k x0 x5 x8 (bt x0 x8) x8 false))) else (if x8 > 0 then (varint_take.j1 k x0 x5 x8 (bt x0 x8) x8 ((bt x0 x8) == 0)) else (varint_take.j1 k x0 x5 x8 (bt x0 x8) x8 false))) else (none)) else (none))) else (some (0, 0, 23))
def varint_take.j1 : Nat → ByteArray → Int → Int → Int → Int → Bool → Option (Int × Int × Int)
  | 0, _, _, _, _, _, _ => none
  | k + 1, x0, x5, x6, x7, x8, x31 => if x31 = true then (some (0, 0, 23)) else (if 0 ≤ (wrap64 (7 * x6)) then (if x7 < 128 then (some (Go.bits .or .u64 x5 (shl .u64 (IntKind.u64.wrap (Go.bits .and .u8 x7 127)) (wrap64 (7 * x6))), wrap64 (x6 + 1), 0)) else (varint_take.l0 k x0 (Go.bits .or .u64 x5 (shl .u64 (IntKind.u64.wrap (Go.bits .and .u8 x7 127)) (wrap64 (7 * x6)))) (wrap64 (x8 + 1)))) else (none))
end
def varint_take.f (k : Nat) (a0 : ByteArray) : Option (Int × Int × Int) := varint_take.l0 k a0 0 0
theorem varint_take.mono_l : ∀ k, (∀ y0 y1 y2, LeO (varint_take.l0 k y0 y1 y2) (varint_take.l0 (k + 1) y0 y1 y2)) ∧ (∀ y0 y1 y2 y3 y4 y5, LeO (varint_take.j1 k y0 y1 y2 y3 y4 y5) (varint_take.j1 (k + 1) y0 y1 y2 y3 y4 y5))
  | 0 => ⟨fun _ _ _ r h => by simp [varint_take.l0] at h, fun _ _ _ _ _ _ r h => by simp [varint_take.j1] at h⟩
  | k + 1 => by
    obtain ⟨ih0, ih1⟩ := varint_take.mono_l k
    refine ⟨?_, ?_⟩
    · intro y0 y1 y2
      unfold varint_take.l0
      repeat' first
      | (with_reducible exact ih0 _ _ _)
      | (with_reducible exact ih1 _ _ _ _ _ _)
      | (with_reducible exact LeO.refl _)
      | (with_reducible exact LeO.none _)
      | (with_reducible refine LeO.ite ?_ ?_)
      | (with_reducible refine LeO.bind ?_ (fun _ => ?_))
      | exact ih0 _ _ _
      | exact ih1 _ _ _ _ _ _
      | exact LeO.none _
      | refine LeO.ite ?_ ?_
      | refine LeO.bind ?_ (fun _ => ?_)
    · intro y0 y1 y2 y3 y4 y5
      unfold varint_take.j1
      repeat' first
      | (with_reducible exact ih0 _ _ _)
      | (with_reducible exact ih1 _ _ _ _ _ _)
      | (with_reducible exact LeO.refl _)
      | (with_reducible exact LeO.none _)
      | (with_reducible refine LeO.ite ?_ ?_)
      | (with_reducible refine LeO.bind ?_ (fun _ => ?_))
      | exact ih0 _ _ _
      | exact ih1 _ _ _ _ _ _
      | exact LeO.none _
      | refine LeO.ite ?_ ?_
      | refine LeO.bind ?_ (fun _ => ?_)
theorem varint_take.mono : ∀ a0 k, LeO (varint_take.f k a0) (varint_take.f (k + 1) a0) := by
  intro a0 k
  obtain ⟨ih0, ih1⟩ := varint_take.mono_l k
  unfold varint_take.f
  repeat' first
      | (with_reducible exact ih0 _ _ _)
      | (with_reducible exact ih1 _ _ _ _ _ _)
      | (with_reducible exact LeO.refl _)
      | (with_reducible exact LeO.none _)
      | (with_reducible refine LeO.ite ?_ ?_)
      | (with_reducible refine LeO.bind ?_ (fun _ => ?_))
      | exact ih0 _ _ _
      | exact ih1 _ _ _ _ _ _
      | exact LeO.none _
      | refine LeO.ite ?_ ?_
      | refine LeO.bind ?_ (fun _ => ?_)
set_option maxHeartbeats 8000000 in
set_option maxRecDepth 100000 in
theorem varint_take.calls (k : Nat) (a0 : ByteArray) (r1 : Int) (r2 : Int) (r3 : Int) (w : World) (h : varint_take.f k a0 = some (r1, r2, r3)) :
    Calls Try.prog 52 #[.string a0] w fun e w' => e = .returned (.tuple #[.int .u64 r1, .int .i64 r2, .int .i64 r3]) ∧ Drawn0 w w' := by
  have H : (varint_take.l0 k a0 0 0) = some (r1, r2, r3) := h
  clear h
  have H' := Aside0.mk H
  clear H
  go_enter Try.func52, Try.ntmps52
  go_wp2
  go_loopg [5, 8] k (fun kq v5 v8 w' => ∃ (x5_1 : Int) (x8_1 : Int), v5 = .int .u64 x5_1 ∧ v8 = .int .i64 x8_1 ∧ Aside0 (varint_take.l0 kq a0 x5_1 x8_1 = some (r1, r2, r3)) ∧ Aside0 (kq ≤ k) ∧ Drawn0 w w')
  case atStart => exact ⟨(0), (0), (by first | rfl | (simp; done) | (simp [*]; done)), (by first | rfl | (simp; done) | (simp [*]; done)), H', ⟨Nat.le_refl _⟩, by repeat (first | exact Drawn0.refl _ | apply Drawn0.step)⟩
  case round =>
    clear H'
    obtain ⟨x5_1, x8_1, rfl, rfl, HA, HK1, ⟨m1, rfl⟩⟩ := hrel
    cases gk with
    | zero => exact absurd HA.out (by simp [varint_take.l0])
    | succ k1 =>
      have H := HA.out
      clear HA
      simp only [varint_take.l0] at H
      by_cases c2 : x8_1 < 10
      · rw [if_pos c2] at H
        have c2b0 : decide (x8_1 < 10) = true := decide_eq_true c2
        clear c2
        by_cases c3 : x8_1 = (a0.size : Int)
        · rw [if_pos c3] at H
          have c3b0 : (x8_1 == (a0.size : Int)) = true := beq_iff_eq.mpr c3
          have c3b1 : (x8_1 != (a0.size : Int)) = false := bne_eq_false_iff_eq.mpr c3
          clear c3
          simp only [Option.some.injEq, Prod.mk.injEq] at H
          obtain ⟨rfl, rfl, rfl⟩ := H
          go_wp2
          go_ret3
          exact ⟨by first | rfl | (simp; done) | (simp [*]; done), by repeat (first | exact Drawn0.refl _ | apply Drawn0.step)⟩
        · rw [if_neg c3] at H
          have c3b0 : (x8_1 == (a0.size : Int)) = false := beq_eq_false_iff_ne.mpr c3
          have c3b1 : (x8_1 != (a0.size : Int)) = true := bne_iff_ne.mpr c3
          by_cases c4 : 0 ≤ x8_1
          · rw [if_pos c4] at H
            have c4b0 : decide (0 ≤ x8_1) = true := decide_eq_true c4
            clear c4
            by_cases c5 : x8_1 < (a0.size : Int)
            · rw [if_pos c5] at H
              have c5b0 : decide (x8_1 < (a0.size : Int)) = true := decide_eq_true c5
              clear c5
              have HC7 := Aside0.mk H
              clear H
              have p6 : 0 ≤ (x8_1 : Int) := of_decide_eq_true (by first | (with_reducible assumption) | assumption)
              have q6 : x8_1 < (a0.size : Int) := of_decide_eq_true (by first | (with_reducible assumption) | assumption)
              have hx6 := bt_at a0 x8_1
              replace p6 := eq_true p6
              replace q6 := eq_true q6
              go_upto_region 8 with (fail)
              go_cut [31] (fun v31 wc => ∃ (kq : Nat) (x31_6 : Bool), v31 = .bool x31_6 ∧ Aside0 (varint_take.j1 kq a0 x5_1 x8_1 (bt a0 x8_1) x8_1 x31_6 = some (r1, r2, r3)) ∧ Aside0 (kq ≤ k1) ∧ Drawn0 w wc)
              case first =>
                have H := HC7.out
                clear HC7
                by_cases c8 : x8_1 = 9
                · rw [if_pos c8] at H
                  have c8b0 : (x8_1 == 9) = true := beq_iff_eq.mpr c8
                  have c8b1 : (x8_1 != 9) = false := bne_eq_false_iff_eq.mpr c8
                  clear c8
                  (first | rw [c8b0] | (simp only [i64_w, i32_w]; rw [c8b0]) | skip)
                  by_cases c9 : (bt a0 x8_1) > 1
                  · rw [if_pos c9] at H
                    have c9b0 : decide (1 < (bt a0 x8_1)) = true := decide_eq_true c9
                    clear c9
                    have H' := Aside0.mk H
                    clear H
                    go_wp2
                    go_meet
                    case rel => exact ⟨_, (true), (by first | rfl | (simp; done) | (simp [*]; done)), H', ⟨by have := HK1.out; first | omega | exact Nat.le_refl _⟩, by repeat (first | exact Drawn0.refl _ | apply Drawn0.step)⟩
                  · rw [if_neg c9] at H
                    have c9b0 : decide (1 < (bt a0 x8_1)) = false := decide_eq_false c9
                    clear c9
                    by_cases c10 : x8_1 > 0
                    · rw [if_pos c10] at H
                      have c10b0 : decide (0 < x8_1) = true := decide_eq_true c10
                      clear c10
                      have H' := Aside0.mk H
                      clear H
                      go_wp2
                      go_meet
                      case rel => exact ⟨_, (((bt a0 x8_1) == 0)), (by first | rfl | (simp; done) | (simp [*]; done)), H', ⟨by have := HK1.out; first | omega | exact Nat.le_refl _⟩, by repeat (first | exact Drawn0.refl _ | apply Drawn0.step)⟩
                    · rw [if_neg c10] at H
                      have c10b0 : decide (0 < x8_1) = false := decide_eq_false c10
                      clear c10
                      have H' := Aside0.mk H
                      clear H
                      go_wp2
                      go_meet
                      case rel => exact ⟨_, (false), (by first | rfl | (simp; done) | (simp [*]; done)), H', ⟨by have := HK1.out; first | omega | exact Nat.le_refl _⟩, by repeat (first | exact Drawn0.refl _ | apply Drawn0.step)⟩
                · rw [if_neg c8] at H
                  have c8b0 : (x8_1 == 9) = false := beq_eq_false_iff_ne.mpr c8
                  have c8b1 : (x8_1 != 9) = true := bne_iff_ne.mpr c8
                  (first | rw [c8b0] | (simp only [i64_w, i32_w]; rw [c8b0]) | skip)
                  by_cases c11 : x8_1 > 0
                  · rw [if_pos c11] at H
                    have c11b0 : decide (0 < x8_1) = true := decide_eq_true c11
                    clear c11
                    have H' := Aside0.mk H
                    clear H
                    go_wp2
                    go_meet
                    case rel => exact ⟨_, (((bt a0 x8_1) == 0)), (by first | rfl | (simp; done) | (simp [*]; done)), H', ⟨by have := HK1.out; first | omega | exact Nat.le_refl _⟩, by repeat (first | exact Drawn0.refl _ | apply Drawn0.step)⟩
                  · rw [if_neg c11] at H
                    have c11b0 : decide (0 < x8_1) = false := decide_eq_false c11
                    clear c11
                    have H' := Aside0.mk H
                    clear H
                    go_wp2
                    go_meet
                    case rel => exact ⟨_, (false), (by first | rfl | (simp; done) | (simp [*]; done)), H', ⟨by have := HK1.out; first | omega | exact Nat.le_refl _⟩, by repeat (first | exact Drawn0.refl _ | apply Drawn0.step)⟩
              case rest =>
                clear HC7
                try clear c1
                try clear c2
                try clear c2b0
                try clear p2
                try clear c3
                try clear c3b0
                try clear c3b1
                try clear c4
                try clear c4b0
                try clear c5
                try clear c5b0
                try clear p6
                try clear q6
                try clear hx6
                try clear c8
                try clear c8b0
                try clear c8b1
                try clear c9
                try clear c9b0
                try clear c10
                try clear c10b0
                try clear c11
                try clear c11b0
                try clear p6
                try clear q6
                obtain ⟨kq, x31_6, rfl, HA, HJ6, ⟨mc6, rfl⟩⟩ := hcut
                cases kq with
                | zero => exact absurd HA.out (by simp [varint_take.j1])
                | succ kj6 =>
                  have H := HA.out
                  clear HA
                  simp only [varint_take.j1] at H
                  by_cases c12 : x31_6 = true
                  · subst c12
                    have H1 : (some (0, 0, 23)) = some (r1, r2, r3) := by rw [if_pos rfl] at H; exact H
                    clear H
                    have H := H1
                    clear H1
                    simp only [Option.some.injEq, Prod.mk.injEq] at H
                    obtain ⟨rfl, rfl, rfl⟩ := H
                    go_wp2
                    go_ret3
                    exact ⟨by first | rfl | (simp; done) | (simp [*]; done), by repeat (first | exact Drawn0.refl _ | apply Drawn0.step)⟩
                  · replace c12 := Bool.eq_false_iff.mpr c12
                    subst c12
                    have H1 : (if 0 ≤ (wrap64 (7 * x8_1)) then (if (bt a0 x8_1) < 128 then (some (Go.bits .or .u64 x5_1 (shl .u64 (IntKind.u64.wrap (Go.bits .and .u8 (bt a0 x8_1) 127)) (wrap64 (7 * x8_1))), wrap64 (x8_1 + 1), 0)) else (varint_take.l0 kj6 a0 (Go.bits .or .u64 x5_1 (shl .u64 (IntKind.u64.wrap (Go.bits .and .u8 (bt a0 x8_1) 127)) (wrap64 (7 * x8_1)))) (wrap64 (x8_1 + 1)))) else (none)) = some (r1, r2, r3) := by rw [if_neg (show ¬ (false = true) by decide)] at H; exact H
                    clear H
                    have H := H1
                    clear H1
                    obtain ⟨ji13, hji13⟩ : ∃ j_ : Int, (wrap64 (7 * x8_1)) = j_ := ⟨_, rfl⟩
                    replace H : (if 0 ≤ (ji13) then (if (bt a0 x8_1) < 128 then (some (Go.bits .or .u64 x5_1 (shl .u64 (IntKind.u64.wrap (Go.bits .and .u8 (bt a0 x8_1) 127)) (ji13)), wrap64 (x8_1 + 1), 0)) else (varint_take.l0 kj6 a0 (Go.bits .or .u64 x5_1 (shl .u64 (IntKind.u64.wrap (Go.bits .and .u8 (bt a0 x8_1) 127)) (ji13))) (wrap64 (x8_1 + 1)))) else (none)) = some (r1, r2, r3) := by first | (rw [hji13] at H; exact H) | (simp only [hji13] at H ⊢; exact H)
                    have hji13w : (IntKind.i64.wrap (7 * x8_1)) = ji13 := (i64_w _).trans hji13
                    by_cases c14 : 0 ≤ (ji13)
                    · rw [if_pos c14] at H
                      have c14b0 := eq_true c14
                      have c14b1 : decide (0 ≤ (ji13)) = true := decide_eq_true c14
                      clear c14
                      obtain ⟨ji15, hji15⟩ : ∃ j_ : Int, (shl .u64 (IntKind.u64.wrap (Go.bits .and .u8 (bt a0 x8_1) 127)) (ji13)) = j_ := ⟨_, rfl⟩
                      replace H : (if (bt a0 x8_1) < 128 then (some (Go.bits .or .u64 x5_1 (ji15), wrap64 (x8_1 + 1), 0)) else (varint_take.l0 kj6 a0 (Go.bits .or .u64 x5_1 (ji15)) (wrap64 (x8_1 + 1)))) = some (r1, r2, r3) := by first | (rw [hji15] at H; exact H) | (simp only [hji15] at H ⊢; exact H)
                      have hji15_ : (IntKind.u64.wrap ((IntKind.u64.wrap (Go.bits .and .u8 (bt a0 x8_1) 127)) * 2 ^ min (ji13).toNat 64)) = ji15 := hji15
                      have hji15z : (ji13) ≤ 64 → (IntKind.u64.wrap ((IntKind.u64.wrap (Go.bits .and .u8 (bt a0 x8_1) 127)) * 2 ^ (ji13).toNat)) = ji15 := shl_small hji15
                      by_cases c16 : (bt a0 x8_1) < 128
                      · rw [if_pos c16] at H
                        have c16b0 : decide ((bt a0 x8_1) < 128) = true := decide_eq_true c16
                        clear c16
                        simp only [Option.some.injEq, Prod.mk.injEq] at H
                        obtain ⟨rfl, rfl, rfl⟩ := H
                        go_wp2
                        go_ret3
                        exact ⟨by first | rfl | (simp; done) | (simp only [← hji13, ← hji15] <;> (first | rfl | simp)) | (simp [*]; done), by repeat (first | exact Drawn0.refl _ | apply Drawn0.step)⟩
                      · rw [if_neg c16] at H
                        have c16b0 : decide ((bt a0 x8_1) < 128) = false := decide_eq_false c16
                        clear c16
                        have H' := Aside0.mk H
                        clear H
                        go_wp2
                        go_roundg kj6
                        case measure => have := HK1.out; have := HJ6.out; omega
                        case rel => exact ⟨(Go.bits .or .u64 x5_1 (ji15)), (wrap64 (x8_1 + 1)), (by first | rfl | (simp; done) | (simp only [← hji15] <;> (first | rfl | simp)) | (simp [*]; done)), (by first | rfl | (simp; done) | (simp [*]; done)), H', ⟨by have := HK1.out; have := HJ6.out; omega⟩, by repeat (first | exact Drawn0.refl _ | apply Drawn0.step)⟩
                    · rw [if_neg c14] at H
                      exact absurd H (by simp)
            · rw [if_neg c5] at H
              exact absurd H (by simp)
          · rw [if_neg c4] at H
            exact absurd H (by simp)
      · rw [if_neg c2] at H
        have c2b0 : decide (x8_1 < 10) = false := decide_eq_false c2
        clear c2
        simp only [Option.some.injEq, Prod.mk.injEq] at H
        obtain ⟨rfl, rfl, rfl⟩ := H
        go_wp2
        go_ret3
        exact ⟨by first | rfl | (simp; done) | (simp [*]; done), by repeat (first | exact Drawn0.refl _ | apply Drawn0.step)⟩

/-! ### varint_Read_uint64: function 39 -/
def varint_Read_uint64.f (k : Nat) (a0 : ByteArray) : Option (Int × Int × Int) := (varint_take.f k a0).bind fun bt111 => (if bt111.2.2 = 0 then (some (bt111.1, bt111.2.1, 0)) else (some (0, 0, bt111.2.2)))
theorem varint_Read_uint64.mono : ∀ a0 k, LeO (varint_Read_uint64.f k a0) (varint_Read_uint64.f (k + 1) a0) := by
  intro a0 k
  unfold varint_Read_uint64.f
  repeat' first
      | (with_reducible exact varint_take.mono _ _)
      | (with_reducible exact LeO.refl _)
      | (with_reducible exact LeO.none _)
      | (with_reducible refine LeO.ite ?_ ?_)
      | (with_reducible refine LeO.bind ?_ (fun _ => ?_))
      | exact varint_take.mono _ _
      | exact LeO.none _
      | refine LeO.ite ?_ ?_
      | refine LeO.bind ?_ (fun _ => ?_)
set_option maxHeartbeats 8000000 in
set_option maxRecDepth 100000 in
theorem varint_Read_uint64.calls (k : Nat) (a0 : ByteArray) (r1 : Int) (r2 : Int) (r3 : Int) (w : World) (h : varint_Read_uint64.f k a0 = some (r1, r2, r3)) :
    Calls Try.prog 39 #[.string a0] w fun e w' => e = .returned (.tuple #[.int .u64 r1, .int .i64 r2, .int .i64 r3]) ∧ Drawn0 w w' := by
  have H : ((varint_take.f k a0).bind fun bt111 => (if bt111.2.2 = 0 then (some (bt111.1, bt111.2.1, 0)) else (some (0, 0, bt111.2.2)))) = some (r1, r2, r3) := h
  clear h
  replace H := Option.bind_eq_some_iff.mp H
  obtain ⟨⟨t111, t112, t113⟩, A20, H⟩ := H
  replace H : (if t113 = 0 then (some (t111, t112, 0)) else (some (0, 0, t113))) = some (r1, r2, r3) := H
  have A2 := Aside0.mk A20
  clear A20
  by_cases c3 : t113 = 0
  · rw [if_pos c3] at H
    have c3b0 : (t113 == 0) = true := beq_iff_eq.mpr c3
    have c3b1 : (t113 != 0) = false := bne_eq_false_iff_eq.mpr c3
    clear c3
    simp only [Option.some.injEq, Prod.mk.injEq] at H
    obtain ⟨rfl, rfl, rfl⟩ := H
    go_enter Try.func39, Try.ntmps39
    go_wp2_with (first | ((with_reducible refine gate_callee (f := 52) rfl ?_); refine goesL_ (some 10) rfl rfl Try.func52 (by kernel_rfl) rfl #[.string a0] rfl (by (try simp only [List.map_toArray, List.map_cons, List.map_nil]); first | done | rfl | (simp only [List.length_drop, List.length_take]; rfl)) ?_; (with_reducible refine (varint_take.calls k a0 t111 t112 t113 _ A2.out).mono ?_); rintro e w' ⟨rfl, ⟨nd, rfl⟩⟩; refine ⟨_, rfl, ?_⟩))
    go_ret3
    exact ⟨by first | rfl | (simp; done) | (simp [*]; done), by repeat (first | exact Drawn0.refl _ | apply Drawn0.step)⟩
  · rw [if_neg c3] at H
    have c3b0 : (t113 == 0) = false := beq_eq_false_iff_ne.mpr c3
    have c3b1 : (t113 != 0) = true := bne_iff_ne.mpr c3
    simp only [Option.some.injEq, Prod.mk.injEq] at H
    obtain ⟨rfl, rfl, rfl⟩ := H
    go_enter Try.func39, Try.ntmps39
    go_wp2_with (first | ((with_reducible refine gate_callee (f := 52) rfl ?_); refine goesL_ (some 10) rfl rfl Try.func52 (by kernel_rfl) rfl #[.string a0] rfl (by (try simp only [List.map_toArray, List.map_cons, List.map_nil]); first | done | rfl | (simp only [List.length_drop, List.length_take]; rfl)) ?_; (with_reducible refine (varint_take.calls k a0 t111 t112 t113 _ A2.out).mono ?_); rintro e w' ⟨rfl, ⟨nd, rfl⟩⟩; refine ⟨_, rfl, ?_⟩))
    go_ret3
    exact ⟨by first | rfl | (simp; done) | (simp [*]; done), by repeat (first | exact Drawn0.refl _ | apply Drawn0.step)⟩

/-! ### varint_Unzigzag: function 17 -/
def varint_Unzigzag.f (a0 : Int) : Option (Int) := some (Go.bits .xor .i64 (wrap64 (a0 / 2)) (wrap64 (-(wrap64 (Go.bits .and .u64 a0 1)))))
set_option maxHeartbeats 8000000 in
set_option maxRecDepth 100000 in
theorem varint_Unzigzag.calls (a0 : Int) (r : Int) (w : World) (h : varint_Unzigzag.f a0 = some r) :
    Calls Try.prog 17 #[.int .u64 a0] w fun e w' => e = .returned (.int .i64 r) ∧ Drawn0 w w' := by
  have H : (some (Go.bits .xor .i64 (wrap64 (a0 / 2)) (wrap64 (-(wrap64 (Go.bits .and .u64 a0 1)))))) = some r := h
  clear h
  obtain rfl := Option.some.inj H
  go_enter Try.func17, Try.ntmps17
  go_wp2
  go_ret
  exact ⟨by first | rfl | (simp; done) | (simp [*]; done), by repeat (first | exact Drawn0.refl _ | apply Drawn0.step)⟩

/-! ### varint_ReadSigned_int64: function 40 -/
def varint_ReadSigned_int64.f (k : Nat) (a0 : ByteArray) : Option (Int × Int × Int) := (varint_take.f k a0).bind fun bt114 => (if bt114.2.2 = 0 then ((varint_Unzigzag.f bt114.1).bind fun t117 => (some (t117, bt114.2.1, 0))) else (some (0, 0, bt114.2.2)))
theorem varint_ReadSigned_int64.mono : ∀ a0 k, LeO (varint_ReadSigned_int64.f k a0) (varint_ReadSigned_int64.f (k + 1) a0) := by
  intro a0 k
  unfold varint_ReadSigned_int64.f
  repeat' first
      | (with_reducible exact varint_take.mono _ _)
      | (with_reducible exact LeO.refl _)
      | (with_reducible exact LeO.none _)
      | (with_reducible refine LeO.ite ?_ ?_)
      | (with_reducible refine LeO.bind ?_ (fun _ => ?_))
      | exact varint_take.mono _ _
      | exact LeO.none _
      | refine LeO.ite ?_ ?_
      | refine LeO.bind ?_ (fun _ => ?_)
set_option maxHeartbeats 8000000 in
set_option maxRecDepth 100000 in
theorem varint_ReadSigned_int64.calls (k : Nat) (a0 : ByteArray) (r1 : Int) (r2 : Int) (r3 : Int) (w : World) (h : varint_ReadSigned_int64.f k a0 = some (r1, r2, r3)) :
    Calls Try.prog 40 #[.string a0] w fun e w' => e = .returned (.tuple #[.int .i64 r1, .int .i64 r2, .int .i64 r3]) ∧ Drawn0 w w' := by
  have H : ((varint_take.f k a0).bind fun bt114 => (if bt114.2.2 = 0 then ((varint_Unzigzag.f bt114.1).bind fun t117 => (some (t117, bt114.2.1, 0))) else (some (0, 0, bt114.2.2)))) = some (r1, r2, r3) := h
  clear h
  replace H := Option.bind_eq_some_iff.mp H
  obtain ⟨⟨t114, t115, t116⟩, A20, H⟩ := H
  replace H : (if t116 = 0 then ((varint_Unzigzag.f t114).bind fun t117 => (some (t117, t115, 0))) else (some (0, 0, t116))) = some (r1, r2, r3) := H
  have A2 := Aside0.mk A20
  clear A20
  by_cases c3 : t116 = 0
  · rw [if_pos c3] at H
    have c3b0 : (t116 == 0) = true := beq_iff_eq.mpr c3
    have c3b1 : (t116 != 0) = false := bne_eq_false_iff_eq.mpr c3
    clear c3
    replace H := Option.bind_eq_some_iff.mp H
    obtain ⟨t117, A40, H⟩ := H
    replace H : (some (t117, t115, 0)) = some (r1, r2, r3) := H
    have A4 := Aside0.mk A40
    clear A40
    simp only [Option.some.injEq, Prod.mk.injEq] at H
    obtain ⟨rfl, rfl, rfl⟩ := H
    go_enter Try.func40, Try.ntmps40
    go_wp2_with (first | ((with_reducible refine gate_callee (f := 52) rfl ?_); refine goesL_ (some 11) rfl rfl Try.func52 (by kernel_rfl) rfl #[.string a0] rfl (by (try simp only [List.map_toArray, List.map_cons, List.map_nil]); first | done | rfl | (simp only [List.length_drop, List.length_take]; rfl)) ?_; (with_reducible refine (varint_take.calls k a0 t114 t115 t116 _ A2.out).mono ?_); rintro e w' ⟨rfl, ⟨nd, rfl⟩⟩; refine ⟨_, rfl, ?_⟩) | ((with_reducible refine gate_callee (f := 17) rfl ?_); refine goesL_ (some 19) rfl rfl Try.func17 (by kernel_rfl) rfl #[.int .u64 t114] rfl (by (try simp only [List.map_toArray, List.map_cons, List.map_nil]); first | done | rfl | (simp only [List.length_drop, List.length_take]; rfl)) ?_; (with_reducible refine (varint_Unzigzag.calls t114 t117 _ A4.out).mono ?_); rintro e w' ⟨rfl, ⟨nd, rfl⟩⟩; refine ⟨_, rfl, ?_⟩))
    go_ret3
    exact ⟨by first | rfl | (simp; done) | (simp [*]; done), by repeat (first | exact Drawn0.refl _ | apply Drawn0.step)⟩
  · rw [if_neg c3] at H
    have c3b0 : (t116 == 0) = false := beq_eq_false_iff_ne.mpr c3
    have c3b1 : (t116 != 0) = true := bne_iff_ne.mpr c3
    simp only [Option.some.injEq, Prod.mk.injEq] at H
    obtain ⟨rfl, rfl, rfl⟩ := H
    go_enter Try.func40, Try.ntmps40
    go_wp2_with (first | ((with_reducible refine gate_callee (f := 52) rfl ?_); refine goesL_ (some 11) rfl rfl Try.func52 (by kernel_rfl) rfl #[.string a0] rfl (by (try simp only [List.map_toArray, List.map_cons, List.map_nil]); first | done | rfl | (simp only [List.length_drop, List.length_take]; rfl)) ?_; (with_reducible refine (varint_take.calls k a0 t114 t115 t116 _ A2.out).mono ?_); rintro e w' ⟨rfl, ⟨nd, rfl⟩⟩; refine ⟨_, rfl, ?_⟩))
    go_ret3
    exact ⟨by first | rfl | (simp; done) | (simp [*]; done), by repeat (first | exact Drawn0.refl _ | apply Drawn0.step)⟩

/-! ### varint_Read_uint8: function 41 -/
def varint_Read_uint8.f (k : Nat) (a0 : ByteArray) : Option (Int × Int × Int) := (varint_take.f k a0).bind fun bt118 => (if bt118.2.2 = 0 then (if ((bt118.1) % 256) = bt118.1 then (some ((bt118.1) % 256, bt118.2.1, 0)) else (some (0, 0, 1))) else (some (0, 0, bt118.2.2)))
theorem varint_Read_uint8.mono : ∀ a0 k, LeO (varint_Read_uint8.f k a0) (varint_Read_uint8.f (k + 1) a0) := by
  intro a0 k
  unfold varint_Read_uint8.f
  repeat' first
      | (with_reducible exact varint_take.mono _ _)
      | (with_reducible exact LeO.refl _)
      | (with_reducible exact LeO.none _)
      | (with_reducible refine LeO.ite ?_ ?_)
      | (with_reducible refine LeO.bind ?_ (fun _ => ?_))
      | exact varint_take.mono _ _
      | exact LeO.none _
      | refine LeO.ite ?_ ?_
      | refine LeO.bind ?_ (fun _ => ?_)
set_option maxHeartbeats 8000000 in
set_option maxRecDepth 100000 in
theorem varint_Read_uint8.calls (k : Nat) (a0 : ByteArray) (r1 : Int) (r2 : Int) (r3 : Int) (w : World) (h : varint_Read_uint8.f k a0 = some (r1, r2, r3)) :
    Calls Try.prog 41 #[.string a0] w fun e w' => e = .returned (.tuple #[.int .u8 r1, .int .i64 r2, .int .i64 r3]) ∧ Drawn0 w w' := by
  have H : ((varint_take.f k a0).bind fun bt118 => (if bt118.2.2 = 0 then (if ((bt118.1) % 256) = bt118.1 then (some ((bt118.1) % 256, bt118.2.1, 0)) else (some (0, 0, 1))) else (some (0, 0, bt118.2.2)))) = some (r1, r2, r3) := h
  clear h
  replace H := Option.bind_eq_some_iff.mp H
  obtain ⟨⟨t118, t119, t120⟩, A20, H⟩ := H
  replace H : (if t120 = 0 then (if ((t118) % 256) = t118 then (some ((t118) % 256, t119, 0)) else (some (0, 0, 1))) else (some (0, 0, t120))) = some (r1, r2, r3) := H
  have A2 := Aside0.mk A20
  clear A20
  by_cases c3 : t120 = 0
  · rw [if_pos c3] at H
    have c3b0 : (t120 == 0) = true := beq_iff_eq.mpr c3
    have c3b1 : (t120 != 0) = false := bne_eq_false_iff_eq.mpr c3
    clear c3
    by_cases c4 : ((t118) % 256) = t118
    · rw [if_pos c4] at H
      have c4b0 : (((t118) % 256) == t118) = true := beq_iff_eq.mpr c4
      have c4b1 : (((t118) % 256) != t118) = false := bne_eq_false_iff_eq.mpr c4
      clear c4
      simp only [Option.some.injEq, Prod.mk.injEq] at H
      obtain ⟨rfl, rfl, rfl⟩ := H
      go_enter Try.func41, Try.ntmps41
      go_wp2_with (first | ((with_reducible refine gate_callee (f := 52) rfl ?_); refine goesL_ (some 10) rfl rfl Try.func52 (by kernel_rfl) rfl #[.string a0] rfl (by (try simp only [List.map_toArray, List.map_cons, List.map_nil]); first | done | rfl | (simp only [List.length_drop, List.length_take]; rfl)) ?_; (with_reducible refine (varint_take.calls k a0 t118 t119 t120 _ A2.out).mono ?_); rintro e w' ⟨rfl, ⟨nd, rfl⟩⟩; refine ⟨_, rfl, ?_⟩))
      go_ret3
      exact ⟨by first | rfl | (simp; done) | (simp [*]; done), by repeat (first | exact Drawn0.refl _ | apply Drawn0.step)⟩
    · rw [if_neg c4] at H
      have c4b0 : (((t118) % 256) == t118) = false := beq_eq_false_iff_ne.mpr c4
      have c4b1 : (((t118) % 256) != t118) = true := bne_iff_ne.mpr c4
      simp only [Option.some.injEq, Prod.mk.injEq] at H
      obtain ⟨rfl, rfl, rfl⟩ := H
      go_enter Try.func41, Try.ntmps41
      go_wp2_with (first | ((with_reducible refine gate_callee (f := 52) rfl ?_); refine goesL_ (some 10) rfl rfl Try.func52 (by kernel_rfl) rfl #[.string a0] rfl (by (try simp only [List.map_toArray, List.map_cons, List.map_nil]); first | done | rfl | (simp only [List.length_drop, List.length_take]; rfl)) ?_; (with_reducible refine (varint_take.calls k a0 t118 t119 t120 _ A2.out).mono ?_); rintro e w' ⟨rfl, ⟨nd, rfl⟩⟩; refine ⟨_, rfl, ?_⟩))
      go_ret3
      exact ⟨by first | rfl | (simp; done) | (simp [*]; done), by repeat (first | exact Drawn0.refl _ | apply Drawn0.step)⟩
  · rw [if_neg c3] at H
    have c3b0 : (t120 == 0) = false := beq_eq_false_iff_ne.mpr c3
    have c3b1 : (t120 != 0) = true := bne_iff_ne.mpr c3
    simp only [Option.some.injEq, Prod.mk.injEq] at H
    obtain ⟨rfl, rfl, rfl⟩ := H
    go_enter Try.func41, Try.ntmps41
    go_wp2_with (first | ((with_reducible refine gate_callee (f := 52) rfl ?_); refine goesL_ (some 10) rfl rfl Try.func52 (by kernel_rfl) rfl #[.string a0] rfl (by (try simp only [List.map_toArray, List.map_cons, List.map_nil]); first | done | rfl | (simp only [List.length_drop, List.length_take]; rfl)) ?_; (with_reducible refine (varint_take.calls k a0 t118 t119 t120 _ A2.out).mono ?_); rintro e w' ⟨rfl, ⟨nd, rfl⟩⟩; refine ⟨_, rfl, ?_⟩))
    go_ret3
    exact ⟨by first | rfl | (simp; done) | (simp [*]; done), by repeat (first | exact Drawn0.refl _ | apply Drawn0.step)⟩

/-! ### gantrylaw01_fixed: function 12 -/
def gantrylaw01_fixed.f (k : Nat)  : Option (Bool) := (varint_Read_uint64.f k (⟨#[172, 2, 7]⟩ : ByteArray)).bind fun bt121 => ((varint_Read_uint8.f k (⟨#[172, 2]⟩ : ByteArray)).bind fun bt124 => ((varint_ReadSigned_int64.f k (⟨#[127]⟩ : ByteArray)).bind fun bt127 => (if bt121.1 = 300 then (if bt121.2.1 = 2 then (if bt121.2.2 = 0 then (if bt124.2.2 = 1 then (if bt127.1 = (-64) then (if bt127.2.1 = 1 then (if bt127.2.2 = 0 then ((varint_Put_uint64.f k (([300, 0] : List Int))).bind fun t133 => (if t133.toList = ([172, 2, 0] : List UInt8) then ((varint_Zigzag.f (-1)).bind fun t134 => (some (t134 == 1))) else (some false))) else (some false)) else (some false)) else (some false)) else (some false)) else (some false)) else (some false)) else (some false))))
theorem gantrylaw01_fixed.mono : ∀ k, LeO (gantrylaw01_fixed.f k ) (gantrylaw01_fixed.f (k + 1) ) := by
  intro  k
  unfold gantrylaw01_fixed.f
  repeat' first
      | (with_reducible exact varint_Put_uint64.mono _ _)
      | (with_reducible exact varint_ReadSigned_int64.mono _ _)
      | (with_reducible exact varint_Read_uint64.mono _ _)
      | (with_reducible exact varint_Read_uint8.mono _ _)
      | (with_reducible exact LeO.refl _)
      | (with_reducible exact LeO.none _)
      | (with_reducible refine LeO.ite ?_ ?_)
      | (with_reducible refine LeO.bind ?_ (fun _ => ?_))
      | exact varint_Put_uint64.mono _ _
      | exact varint_ReadSigned_int64.mono _ _
      | exact varint_Read_uint64.mono _ _
      | exact varint_Read_uint8.mono _ _
      | exact LeO.none _
      | refine LeO.ite ?_ ?_
      | refine LeO.bind ?_ (fun _ => ?_)
set_option maxHeartbeats 8000000 in
set_option maxRecDepth 100000 in
theorem gantrylaw01_fixed.calls (k : Nat)  (r : Bool) (w : World) (h : gantrylaw01_fixed.f k  = some r) :
    Calls Try.prog 12 #[] w fun e w' => e = .returned (.bool r) ∧ Below w.heap.size w w' := by
  have HB := Aside0.mk (Below.refl w.heap.size w)
  have H : ((varint_Read_uint64.f k (⟨#[172, 2, 7]⟩ : ByteArray)).bind fun bt121 => ((varint_Read_uint8.f k (⟨#[172, 2]⟩ : ByteArray)).bind fun bt124 => ((varint_ReadSigned_int64.f k (⟨#[127]⟩ : ByteArray)).bind fun bt127 => (if bt121.1 = 300 then (if bt121.2.1 = 2 then (if bt121.2.2 = 0 then (if bt124.2.2 = 1 then (if bt127.1 = (-64) then (if bt127.2.1 = 1 then (if bt127.2.2 = 0 then ((varint_Put_uint64.f k (([300, 0] : List Int))).bind fun t133 => (if t133.toList = ([172, 2, 0] : List UInt8) then ((varint_Zigzag.f (-1)).bind fun t134 => (some (t134 == 1))) else (some false))) else (some false)) else (some false)) else (some false)) else (some false)) else (some false)) else (some false)) else (some false))))) = some r := h
  clear h
  replace H := Option.bind_eq_some_iff.mp H
  obtain ⟨⟨t121, t122, t123⟩, A10, H⟩ := H
  replace H : ((varint_Read_uint8.f k (⟨#[172, 2]⟩ : ByteArray)).bind fun bt124 => ((varint_ReadSigned_int64.f k (⟨#[127]⟩ : ByteArray)).bind fun bt127 => (if t121 = 300 then (if t122 = 2 then (if t123 = 0 then (if bt124.2.2 = 1 then (if bt127.1 = (-64) then (if bt127.2.1 = 1 then (if bt127.2.2 = 0 then ((varint_Put_uint64.f k (([300, 0] : List Int))).bind fun t133 => (if t133.toList = ([172, 2, 0] : List UInt8) then ((varint_Zigzag.f (-1)).bind fun t134 => (some (t134 == 1))) else (some false))) else (some false)) else (some false)) else (some false)) else (some false)) else (some false)) else (some false)) else (some false)))) = some r := H
  have A1 := Aside0.mk A10
  clear A10
  replace H := Option.bind_eq_some_iff.mp H
  obtain ⟨⟨t124, t125, t126⟩, A20, H⟩ := H
  replace H : ((varint_ReadSigned_int64.f k (⟨#[127]⟩ : ByteArray)).bind fun bt127 => (if t121 = 300 then (if t122 = 2 then (if t123 = 0 then (if t126 = 1 then (if bt127.1 = (-64) then (if bt127.2.1 = 1 then (if bt127.2.2 = 0 then ((varint_Put_uint64.f k (([300, 0] : List Int))).bind fun t133 => (if t133.toList = ([172, 2, 0] : List UInt8) then ((varint_Zigzag.f (-1)).bind fun t134 => (some (t134 == 1))) else (some false))) else (some false)) else (some false)) else (some false)) else (some false)) else (some false)) else (some false)) else (some false))) = some r := H
  have A2 := Aside0.mk A20
  clear A20
  replace H := Option.bind_eq_some_iff.mp H
  obtain ⟨⟨t127, t128, t129⟩, A30, H⟩ := H
  replace H : (if t121 = 300 then (if t122 = 2 then (if t123 = 0 then (if t126 = 1 then (if t127 = (-64) then (if t128 = 1 then (if t129 = 0 then ((varint_Put_uint64.f k (([300, 0] : List Int))).bind fun t133 => (if t133.toList = ([172, 2, 0] : List UInt8) then ((varint_Zigzag.f (-1)).bind fun t134 => (some (t134 == 1))) else (some false))) else (some false)) else (some false)) else (some false)) else (some false)) else (some false)) else (some false)) else (some false)) = some r := H
  have A3 := Aside0.mk A30
  clear A30
  by_cases c4 : t121 = 300
  · rw [if_pos c4] at H
    have c4b0 : (t121 == 300) = true := beq_iff_eq.mpr c4
    have c4b1 : (t121 != 300) = false := bne_eq_false_iff_eq.mpr c4
    clear c4
    by_cases c5 : t122 = 2
    · rw [if_pos c5] at H
      have c5b0 : (t122 == 2) = true := beq_iff_eq.mpr c5
      have c5b1 : (t122 != 2) = false := bne_eq_false_iff_eq.mpr c5
      clear c5
      by_cases c6 : t123 = 0
      · rw [if_pos c6] at H
        have c6b0 : (t123 == 0) = true := beq_iff_eq.mpr c6
        have c6b1 : (t123 != 0) = false := bne_eq_false_iff_eq.mpr c6
        clear c6
        by_cases c7 : t126 = 1
        · rw [if_pos c7] at H
          have c7b0 : (t126 == 1) = true := beq_iff_eq.mpr c7
          have c7b1 : (t126 != 1) = false := bne_eq_false_iff_eq.mpr c7
          clear c7
          by_cases c8 : t127 = (-64)
          · rw [if_pos c8] at H
            have c8b0 : (t127 == (-64)) = true := beq_iff_eq.mpr c8
            have c8b1 : (t127 != (-64)) = false := bne_eq_false_iff_eq.mpr c8
            clear c8
            by_cases c9 : t128 = 1
            · rw [if_pos c9] at H
              have c9b0 : (t128 == 1) = true := beq_iff_eq.mpr c9
              have c9b1 : (t128 != 1) = false := bne_eq_false_iff_eq.mpr c9
              clear c9
              by_cases c10 : t129 = 0
              · rw [if_pos c10] at H
                have c10b0 : (t129 == 0) = true := beq_iff_eq.mpr c10
                have c10b1 : (t129 != 0) = false := bne_eq_false_iff_eq.mpr c10
                clear c10
                obtain ⟨y130, hy130⟩ : ∃ y_ : List Int, y_ = (([300, 0] : List Int)) := ⟨_, rfl⟩
                replace H : ((varint_Put_uint64.f k y130).bind fun t133 => (if t133.toList = ([172, 2, 0] : List UInt8) then ((varint_Zigzag.f (-1)).bind fun t134 => (some (t134 == 1))) else (some false))) = some r := by first | (rw [hy130]; with_reducible exact H) | (have H2_ := (Option.bind_some _ _).symm.trans H; rw [hy130]; with_reducible exact H2_) | (have H2_ := (Option.bind_some _ _).symm.trans H; with_reducible exact H2_) | with_reducible exact H | (rw [hy130]; exact H) | exact H
                have Ny130 := Aside0.mk hy130
                clear hy130
                replace H := Option.bind_eq_some_iff.mp H
                obtain ⟨t133, A110, H⟩ := H
                replace H : (if t133.toList = ([172, 2, 0] : List UInt8) then ((varint_Zigzag.f (-1)).bind fun t134 => (some (t134 == 1))) else (some false)) = some r := H
                have A11 := Aside0.mk A110
                clear A110
                by_cases c12 : t133.toList = ([172, 2, 0] : List UInt8)
                · rw [if_pos c12] at H
                  have c12b0 : (t133.toList == ([172, 2, 0] : List UInt8)) = true := beq_iff_eq.mpr c12
                  have c12b1 : (t133.toList != ([172, 2, 0] : List UInt8)) = false := bne_eq_false_iff_eq.mpr c12
                  clear c12
                  replace H := Option.bind_eq_some_iff.mp H
                  obtain ⟨t134, A130, H⟩ := H
                  replace H : (some (t134 == 1)) = some r := H
                  have A13 := Aside0.mk A130
                  clear A130
                  obtain rfl := Option.some.inj H
                  go_enter Try.func12, Try.ntmps12
                  go_wp2_with (first | ((with_reducible refine gate_callee (f := 39) rfl ?_); refine goesL_ (some 11) rfl rfl Try.func39 (by kernel_rfl) rfl #[.string (⟨#[172, 2, 7]⟩ : ByteArray)] rfl (by (try simp only [List.map_toArray, List.map_cons, List.map_nil]); first | done | rfl | (simp only [List.length_drop, List.length_take]; rfl)) ?_; (with_reducible refine (varint_Read_uint64.calls k (⟨#[172, 2, 7]⟩ : ByteArray) t121 t122 t123 _ A1.out).mono ?_); rintro e w' ⟨rfl, ⟨nd, rfl⟩⟩; refine ⟨_, rfl, ?_⟩) | ((with_reducible refine gate_callee (f := 41) rfl ?_); refine goesL_ (some 16) rfl rfl Try.func41 (by kernel_rfl) rfl #[.string (⟨#[172, 2]⟩ : ByteArray)] rfl (by (try simp only [List.map_toArray, List.map_cons, List.map_nil]); first | done | rfl | (simp only [List.length_drop, List.length_take]; rfl)) ?_; (with_reducible refine (varint_Read_uint8.calls k (⟨#[172, 2]⟩ : ByteArray) t124 t125 t126 _ A2.out).mono ?_); rintro e w' ⟨rfl, ⟨nd, rfl⟩⟩; refine ⟨_, rfl, ?_⟩) | ((with_reducible refine gate_callee (f := 40) rfl ?_); refine goesL_ (some 21) rfl rfl Try.func40 (by kernel_rfl) rfl #[.string (⟨#[127]⟩ : ByteArray)] rfl (by (try simp only [List.map_toArray, List.map_cons, List.map_nil]); first | done | rfl | (simp only [List.length_drop, List.length_take]; rfl)) ?_; (with_reducible refine (varint_ReadSigned_int64.calls k (⟨#[127]⟩ : ByteArray) t127 t128 t129 _ A3.out).mono ?_); rintro e w' ⟨rfl, ⟨nd, rfl⟩⟩; refine ⟨_, rfl, ?_⟩) | ((with_reducible refine gate_dst (N := 52) rfl ?_); (try (refine gate_guard (by rfl) ?_; dsimp only)); refine Kd.R_lit (Kd.int .u64) _ 26 ?hg (N := 52) ?hd (xs := ([300, 0] : List Int)) (inner := [.int .u64 300, .int .u64 0]) (ok := fun _ => True) (okp := fun _ => True) ?hr ?hp (fun _ hk => hk) trivial (Below.refl _ _) (Nat.le_refl _) (by simp) ?_; (case hd => rfl); (case hg => rfl); (case hr => first | (go_simp; done) | (go_simp; rfl)); (case hp => exact (Reps.one (show Kd.M (Kd.int .u64) _ _ _ 300 [.int .u64 300] from rfl) (Reps.one (show Kd.M (Kd.int .u64) _ _ _ 0 [.int .u64 0] from rfl) (Reps.none _ _)))); intro v131 w14 ho15 hb hg_ hnew_; clear hg_ hnew_; (first | rw [← Ny130.out] at ho15 | (simp only [Int.reduceToNat] at ho15; rw [← Ny130.out] at ho15)); have n0_ := Aside0.mk (Kd.R_lower ho15 (below_size (by repeat (first | (with_reducible first | exact HB.out | apply below_alloc | apply pw_below_drewN | apply below_drew1) | exact HB.out)))); have n1_ := Aside0.mk (below_step (by repeat (first | (with_reducible first | exact HB.out | apply below_alloc | apply pw_below_drewN | apply below_drew1) | exact HB.out)) hb); clear HB; have HO132 := n0_; have HB := n1_; clear n0_ n1_; clear hb ho15; obtain ⟨Ao16, co16, eo16⟩ := Kd.R_slice HO132.out; subst eo16) | (go_at_call 22; (with_reducible refine (varint_Put_uint64.calls k _ _ y130 t133 _ ?side1 ?side2 A11.out).mono ?_); (case side1 => repeat (first | exact (Kd.R_reads' HO132.out).2.2 | (with_reducible refine Kd.C_alloc ?_ _) | (with_reducible refine Kd.C_drewN ?_ _) | (with_reducible refine Kd.C_drew ?_))); (case side2 => exact (Kd.R_reads' HO132.out).2.1); rintro e w17 ⟨rfl, hb⟩; have n0_ := Aside0.mk (Kd.R_below (by (with_reducible repeat (first | apply Kd.R_alloc | apply Kd.R_drewN | apply Kd.R_drew)); exact HO132.out) hb); have n1_ := Aside0.mk (below_step (by repeat (first | (with_reducible first | exact HB.out | apply below_alloc | apply pw_below_drewN | apply below_drew1) | exact HB.out)) hb); clear HO132; clear HB; have HO132 := n0_; have HB := n1_; clear n0_ n1_; (try clear hb); (try clear hb2); (try clear hk); (try clear hi)) | (go_at_call 16; (with_reducible refine (varint_Zigzag.calls (-1) t134 _ A13.out).mono ?_); rintro e w' ⟨rfl, ⟨nd, rfl⟩⟩))
                  go_ret
                  exact ⟨by first | rfl | (simp [errW_none, errW_some] <;> rfl) | (simp [*, errW_none, errW_some] <;> rfl), by repeat (first | (with_reducible first | exact HB.out | apply below_alloc | apply pw_below_drewN | apply below_drew1) | exact HB.out)⟩
                · rw [if_neg c12] at H
                  have c12b0 : (t133.toList == ([172, 2, 0] : List UInt8)) = false := beq_eq_false_iff_ne.mpr c12
                  have c12b1 : (t133.toList != ([172, 2, 0] : List UInt8)) = true := bne_iff_ne.mpr c12
                  obtain rfl := Option.some.inj H
                  go_enter Try.func12, Try.ntmps12
                  go_wp2_with (first | ((with_reducible refine gate_callee (f := 39) rfl ?_); refine goesL_ (some 11) rfl rfl Try.func39 (by kernel_rfl) rfl #[.string (⟨#[172, 2, 7]⟩ : ByteArray)] rfl (by (try simp only [List.map_toArray, List.map_cons, List.map_nil]); first | done | rfl | (simp only [List.length_drop, List.length_take]; rfl)) ?_; (with_reducible refine (varint_Read_uint64.calls k (⟨#[172, 2, 7]⟩ : ByteArray) t121 t122 t123 _ A1.out).mono ?_); rintro e w' ⟨rfl, ⟨nd, rfl⟩⟩; refine ⟨_, rfl, ?_⟩) | ((with_reducible refine gate_callee (f := 41) rfl ?_); refine goesL_ (some 16) rfl rfl Try.func41 (by kernel_rfl) rfl #[.string (⟨#[172, 2]⟩ : ByteArray)] rfl (by (try simp only [List.map_toArray, List.map_cons, List.map_nil]); first | done | rfl | (simp only [List.length_drop, List.length_take]; rfl)) ?_; (with_reducible refine (varint_Read_uint8.calls k (⟨#[172, 2]⟩ : ByteArray) t124 t125 t126 _ A2.out).mono ?_); rintro e w' ⟨rfl, ⟨nd, rfl⟩⟩; refine ⟨_, rfl, ?_⟩) | ((with_reducible refine gate_callee (f := 40) rfl ?_); refine goesL_ (some 21) rfl rfl Try.func40 (by kernel_rfl) rfl #[.string (⟨#[127]⟩ : ByteArray)] rfl (by (try simp only [List.map_toArray, List.map_cons, List.map_nil]); first | done | rfl | (simp only [List.length_drop, List.length_take]; rfl)) ?_; (with_reducible refine (varint_ReadSigned_int64.calls k (⟨#[127]⟩ : ByteArray) t127 t128 t129 _ A3.out).mono ?_); rintro e w' ⟨rfl, ⟨nd, rfl⟩⟩; refine ⟨_, rfl, ?_⟩) | ((with_reducible refine gate_dst (N := 52) rfl ?_); (try (refine gate_guard (by rfl) ?_; dsimp only)); refine Kd.R_lit (Kd.int .u64) _ 26 ?hg (N := 52) ?hd (xs := ([300, 0] : List Int)) (inner := [.int .u64 300, .int .u64 0]) (ok := fun _ => True) (okp := fun _ => True) ?hr ?hp (fun _ hk => hk) trivial (Below.refl _ _) (Nat.le_refl _) (by simp) ?_; (case hd => rfl); (case hg => rfl); (case hr => first | (go_simp; done) | (go_simp; rfl)); (case hp => exact (Reps.one (show Kd.M (Kd.int .u64) _ _ _ 300 [.int .u64 300] from rfl) (Reps.one (show Kd.M (Kd.int .u64) _ _ _ 0 [.int .u64 0] from rfl) (Reps.none _ _)))); intro v131 w18 ho19 hb hg_ hnew_; clear hg_ hnew_; (first | rw [← Ny130.out] at ho19 | (simp only [Int.reduceToNat] at ho19; rw [← Ny130.out] at ho19)); have n0_ := Aside0.mk (Kd.R_lower ho19 (below_size (by repeat (first | (with_reducible first | exact HB.out | apply below_alloc | apply pw_below_drewN | apply below_drew1) | exact HB.out)))); have n1_ := Aside0.mk (below_step (by repeat (first | (with_reducible first | exact HB.out | apply below_alloc | apply pw_below_drewN | apply below_drew1) | exact HB.out)) hb); clear HB; have HO132 := n0_; have HB := n1_; clear n0_ n1_; clear hb ho19; obtain ⟨Ao20, co20, eo20⟩ := Kd.R_slice HO132.out; subst eo20) | (go_at_call 22; (with_reducible refine (varint_Put_uint64.calls k _ _ y130 t133 _ ?side1 ?side2 A11.out).mono ?_); (case side1 => repeat (first | exact (Kd.R_reads' HO132.out).2.2 | (with_reducible refine Kd.C_alloc ?_ _) | (with_reducible refine Kd.C_drewN ?_ _) | (with_reducible refine Kd.C_drew ?_))); (case side2 => exact (Kd.R_reads' HO132.out).2.1); rintro e w21 ⟨rfl, hb⟩; have n0_ := Aside0.mk (Kd.R_below (by (with_reducible repeat (first | apply Kd.R_alloc | apply Kd.R_drewN | apply Kd.R_drew)); exact HO132.out) hb); have n1_ := Aside0.mk (below_step (by repeat (first | (with_reducible first | exact HB.out | apply below_alloc | apply pw_below_drewN | apply below_drew1) | exact HB.out)) hb); clear HO132; clear HB; have HO132 := n0_; have HB := n1_; clear n0_ n1_; (try clear hb); (try clear hb2); (try clear hk); (try clear hi)))
                  go_ret
                  exact ⟨by first | rfl | (simp [errW_none, errW_some] <;> rfl) | (simp [*, errW_none, errW_some] <;> rfl), by repeat (first | (with_reducible first | exact HB.out | apply below_alloc | apply pw_below_drewN | apply below_drew1) | exact HB.out)⟩
              · rw [if_neg c10] at H
                have c10b0 : (t129 == 0) = false := beq_eq_false_iff_ne.mpr c10
                have c10b1 : (t129 != 0) = true := bne_iff_ne.mpr c10
                obtain rfl := Option.some.inj H
                go_enter Try.func12, Try.ntmps12
                go_wp2_with (first | ((with_reducible refine gate_callee (f := 39) rfl ?_); refine goesL_ (some 11) rfl rfl Try.func39 (by kernel_rfl) rfl #[.string (⟨#[172, 2, 7]⟩ : ByteArray)] rfl (by (try simp only [List.map_toArray, List.map_cons, List.map_nil]); first | done | rfl | (simp only [List.length_drop, List.length_take]; rfl)) ?_; (with_reducible refine (varint_Read_uint64.calls k (⟨#[172, 2, 7]⟩ : ByteArray) t121 t122 t123 _ A1.out).mono ?_); rintro e w' ⟨rfl, ⟨nd, rfl⟩⟩; refine ⟨_, rfl, ?_⟩) | ((with_reducible refine gate_callee (f := 41) rfl ?_); refine goesL_ (some 16) rfl rfl Try.func41 (by kernel_rfl) rfl #[.string (⟨#[172, 2]⟩ : ByteArray)] rfl (by (try simp only [List.map_toArray, List.map_cons, List.map_nil]); first | done | rfl | (simp only [List.length_drop, List.length_take]; rfl)) ?_; (with_reducible refine (varint_Read_uint8.calls k (⟨#[172, 2]⟩ : ByteArray) t124 t125 t126 _ A2.out).mono ?_); rintro e w' ⟨rfl, ⟨nd, rfl⟩⟩; refine ⟨_, rfl, ?_⟩) | ((with_reducible refine gate_callee (f := 40) rfl ?_); refine goesL_ (some 21) rfl rfl Try.func40 (by kernel_rfl) rfl #[.string (⟨#[127]⟩ : ByteArray)] rfl (by (try simp only [List.map_toArray, List.map_cons, List.map_nil]); first | done | rfl | (simp only [List.length_drop, List.length_take]; rfl)) ?_; (with_reducible refine (varint_ReadSigned_int64.calls k (⟨#[127]⟩ : ByteArray) t127 t128 t129 _ A3.out).mono ?_); rintro e w' ⟨rfl, ⟨nd, rfl⟩⟩; refine ⟨_, rfl, ?_⟩))
                go_ret
                exact ⟨by first | rfl | (simp [errW_none, errW_some] <;> rfl) | (simp [*, errW_none, errW_some] <;> rfl), by repeat (first | (with_reducible first | exact HB.out | apply below_alloc | apply pw_below_drewN | apply below_drew1) | exact HB.out)⟩
            · rw [if_neg c9] at H
              have c9b0 : (t128 == 1) = false := beq_eq_false_iff_ne.mpr c9
              have c9b1 : (t128 != 1) = true := bne_iff_ne.mpr c9
              obtain rfl := Option.some.inj H
              go_enter Try.func12, Try.ntmps12
              go_wp2_with (first | ((with_reducible refine gate_callee (f := 39) rfl ?_); refine goesL_ (some 11) rfl rfl Try.func39 (by kernel_rfl) rfl #[.string (⟨#[172, 2, 7]⟩ : ByteArray)] rfl (by (try simp only [List.map_toArray, List.map_cons, List.map_nil]); first | done | rfl | (simp only [List.length_drop, List.length_take]; rfl)) ?_; (with_reducible refine (varint_Read_uint64.calls k (⟨#[172, 2, 7]⟩ : ByteArray) t121 t122 t123 _ A1.out).mono ?_); rintro e w' ⟨rfl, ⟨nd, rfl⟩⟩; refine ⟨_, rfl, ?_⟩) | ((with_reducible refine gate_callee (f := 41) rfl ?_); refine goesL_ (some 16) rfl rfl Try.func41 (by kernel_rfl) rfl #[.string (⟨#[172, 2]⟩ : ByteArray)] rfl (by (try simp only [List.map_toArray, List.map_cons, List.map_nil]); first | done | rfl | (simp only [List.length_drop, List.length_take]; rfl)) ?_; (with_reducible refine (varint_Read_uint8.calls k (⟨#[172, 2]⟩ : ByteArray) t124 t125 t126 _ A2.out).mono ?_); rintro e w' ⟨rfl, ⟨nd, rfl⟩⟩; refine ⟨_, rfl, ?_⟩) | ((with_reducible refine gate_callee (f := 40) rfl ?_); refine goesL_ (some 21) rfl rfl Try.func40 (by kernel_rfl) rfl #[.string (⟨#[127]⟩ : ByteArray)] rfl (by (try simp only [List.map_toArray, List.map_cons, List.map_nil]); first | done | rfl | (simp only [List.length_drop, List.length_take]; rfl)) ?_; (with_reducible refine (varint_ReadSigned_int64.calls k (⟨#[127]⟩ : ByteArray) t127 t128 t129 _ A3.out).mono ?_); rintro e w' ⟨rfl, ⟨nd, rfl⟩⟩; refine ⟨_, rfl, ?_⟩))
              go_ret
              exact ⟨by first | rfl | (simp [errW_none, errW_some] <;> rfl) | (simp [*, errW_none, errW_some] <;> rfl), by repeat (first | (with_reducible first | exact HB.out | apply below_alloc | apply pw_below_drewN | apply below_drew1) | exact HB.out)⟩
          · rw [if_neg c8] at H
            have c8b0 : (t127 == (-64)) = false := beq_eq_false_iff_ne.mpr c8
            have c8b1 : (t127 != (-64)) = true := bne_iff_ne.mpr c8
            obtain rfl := Option.some.inj H
            go_enter Try.func12, Try.ntmps12
            go_wp2_with (first | ((with_reducible refine gate_callee (f := 39) rfl ?_); refine goesL_ (some 11) rfl rfl Try.func39 (by kernel_rfl) rfl #[.string (⟨#[172, 2, 7]⟩ : ByteArray)] rfl (by (try simp only [List.map_toArray, List.map_cons, List.map_nil]); first | done | rfl | (simp only [List.length_drop, List.length_take]; rfl)) ?_; (with_reducible refine (varint_Read_uint64.calls k (⟨#[172, 2, 7]⟩ : ByteArray) t121 t122 t123 _ A1.out).mono ?_); rintro e w' ⟨rfl, ⟨nd, rfl⟩⟩; refine ⟨_, rfl, ?_⟩) | ((with_reducible refine gate_callee (f := 41) rfl ?_); refine goesL_ (some 16) rfl rfl Try.func41 (by kernel_rfl) rfl #[.string (⟨#[172, 2]⟩ : ByteArray)] rfl (by (try simp only [List.map_toArray, List.map_cons, List.map_nil]); first | done | rfl | (simp only [List.length_drop, List.length_take]; rfl)) ?_; (with_reducible refine (varint_Read_uint8.calls k (⟨#[172, 2]⟩ : ByteArray) t124 t125 t126 _ A2.out).mono ?_); rintro e w' ⟨rfl, ⟨nd, rfl⟩⟩; refine ⟨_, rfl, ?_⟩) | ((with_reducible refine gate_callee (f := 40) rfl ?_); refine goesL_ (some 21) rfl rfl Try.func40 (by kernel_rfl) rfl #[.string (⟨#[127]⟩ : ByteArray)] rfl (by (try simp only [List.map_toArray, List.map_cons, List.map_nil]); first | done | rfl | (simp only [List.length_drop, List.length_take]; rfl)) ?_; (with_reducible refine (varint_ReadSigned_int64.calls k (⟨#[127]⟩ : ByteArray) t127 t128 t129 _ A3.out).mono ?_); rintro e w' ⟨rfl, ⟨nd, rfl⟩⟩; refine ⟨_, rfl, ?_⟩))
            go_ret
            exact ⟨by first | rfl | (simp [errW_none, errW_some] <;> rfl) | (simp [*, errW_none, errW_some] <;> rfl), by repeat (first | (with_reducible first | exact HB.out | apply below_alloc | apply pw_below_drewN | apply below_drew1) | exact HB.out)⟩
        · rw [if_neg c7] at H
          have c7b0 : (t126 == 1) = false := beq_eq_false_iff_ne.mpr c7
          have c7b1 : (t126 != 1) = true := bne_iff_ne.mpr c7
          obtain rfl := Option.some.inj H
          go_enter Try.func12, Try.ntmps12
          go_wp2_with (first | ((with_reducible refine gate_callee (f := 39) rfl ?_); refine goesL_ (some 11) rfl rfl Try.func39 (by kernel_rfl) rfl #[.string (⟨#[172, 2, 7]⟩ : ByteArray)] rfl (by (try simp only [List.map_toArray, List.map_cons, List.map_nil]); first | done | rfl | (simp only [List.length_drop, List.length_take]; rfl)) ?_; (with_reducible refine (varint_Read_uint64.calls k (⟨#[172, 2, 7]⟩ : ByteArray) t121 t122 t123 _ A1.out).mono ?_); rintro e w' ⟨rfl, ⟨nd, rfl⟩⟩; refine ⟨_, rfl, ?_⟩) | ((with_reducible refine gate_callee (f := 41) rfl ?_); refine goesL_ (some 16) rfl rfl Try.func41 (by kernel_rfl) rfl #[.string (⟨#[172, 2]⟩ : ByteArray)] rfl (by (try simp only [List.map_toArray, List.map_cons, List.map_nil]); first | done | rfl | (simp only [List.length_drop, List.length_take]; rfl)) ?_; (with_reducible refine (varint_Read_uint8.calls k (⟨#[172, 2]⟩ : ByteArray) t124 t125 t126 _ A2.out).mono ?_); rintro e w' ⟨rfl, ⟨nd, rfl⟩⟩; refine ⟨_, rfl, ?_⟩) | ((with_reducible refine gate_callee (f := 40) rfl ?_); refine goesL_ (some 21) rfl rfl Try.func40 (by kernel_rfl) rfl #[.string (⟨#[127]⟩ : ByteArray)] rfl (by (try simp only [List.map_toArray, List.map_cons, List.map_nil]); first | done | rfl | (simp only [List.length_drop, List.length_take]; rfl)) ?_; (with_reducible refine (varint_ReadSigned_int64.calls k (⟨#[127]⟩ : ByteArray) t127 t128 t129 _ A3.out).mono ?_); rintro e w' ⟨rfl, ⟨nd, rfl⟩⟩; refine ⟨_, rfl, ?_⟩))
          go_ret
          exact ⟨by first | rfl | (simp [errW_none, errW_some] <;> rfl) | (simp [*, errW_none, errW_some] <;> rfl), by repeat (first | (with_reducible first | exact HB.out | apply below_alloc | apply pw_below_drewN | apply below_drew1) | exact HB.out)⟩
      · rw [if_neg c6] at H
        have c6b0 : (t123 == 0) = false := beq_eq_false_iff_ne.mpr c6
        have c6b1 : (t123 != 0) = true := bne_iff_ne.mpr c6
        obtain rfl := Option.some.inj H
        go_enter Try.func12, Try.ntmps12
        go_wp2_with (first | ((with_reducible refine gate_callee (f := 39) rfl ?_); refine goesL_ (some 11) rfl rfl Try.func39 (by kernel_rfl) rfl #[.string (⟨#[172, 2, 7]⟩ : ByteArray)] rfl (by (try simp only [List.map_toArray, List.map_cons, List.map_nil]); first | done | rfl | (simp only [List.length_drop, List.length_take]; rfl)) ?_; (with_reducible refine (varint_Read_uint64.calls k (⟨#[172, 2, 7]⟩ : ByteArray) t121 t122 t123 _ A1.out).mono ?_); rintro e w' ⟨rfl, ⟨nd, rfl⟩⟩; refine ⟨_, rfl, ?_⟩) | ((with_reducible refine gate_callee (f := 41) rfl ?_); refine goesL_ (some 16) rfl rfl Try.func41 (by kernel_rfl) rfl #[.string (⟨#[172, 2]⟩ : ByteArray)] rfl (by (try simp only [List.map_toArray, List.map_cons, List.map_nil]); first | done | rfl | (simp only [List.length_drop, List.length_take]; rfl)) ?_; (with_reducible refine (varint_Read_uint8.calls k (⟨#[172, 2]⟩ : ByteArray) t124 t125 t126 _ A2.out).mono ?_); rintro e w' ⟨rfl, ⟨nd, rfl⟩⟩; refine ⟨_, rfl, ?_⟩) | ((with_reducible refine gate_callee (f := 40) rfl ?_); refine goesL_ (some 21) rfl rfl Try.func40 (by kernel_rfl) rfl #[.string (⟨#[127]⟩ : ByteArray)] rfl (by (try simp only [List.map_toArray, List.map_cons, List.map_nil]); first | done | rfl | (simp only [List.length_drop, List.length_take]; rfl)) ?_; (with_reducible refine (varint_ReadSigned_int64.calls k (⟨#[127]⟩ : ByteArray) t127 t128 t129 _ A3.out).mono ?_); rintro e w' ⟨rfl, ⟨nd, rfl⟩⟩; refine ⟨_, rfl, ?_⟩))
        go_ret
        exact ⟨by first | rfl | (simp [errW_none, errW_some] <;> rfl) | (simp [*, errW_none, errW_some] <;> rfl), by repeat (first | (with_reducible first | exact HB.out | apply below_alloc | apply pw_below_drewN | apply below_drew1) | exact HB.out)⟩
    · rw [if_neg c5] at H
      have c5b0 : (t122 == 2) = false := beq_eq_false_iff_ne.mpr c5
      have c5b1 : (t122 != 2) = true := bne_iff_ne.mpr c5
      obtain rfl := Option.some.inj H
      go_enter Try.func12, Try.ntmps12
      go_wp2_with (first | ((with_reducible refine gate_callee (f := 39) rfl ?_); refine goesL_ (some 11) rfl rfl Try.func39 (by kernel_rfl) rfl #[.string (⟨#[172, 2, 7]⟩ : ByteArray)] rfl (by (try simp only [List.map_toArray, List.map_cons, List.map_nil]); first | done | rfl | (simp only [List.length_drop, List.length_take]; rfl)) ?_; (with_reducible refine (varint_Read_uint64.calls k (⟨#[172, 2, 7]⟩ : ByteArray) t121 t122 t123 _ A1.out).mono ?_); rintro e w' ⟨rfl, ⟨nd, rfl⟩⟩; refine ⟨_, rfl, ?_⟩) | ((with_reducible refine gate_callee (f := 41) rfl ?_); refine goesL_ (some 16) rfl rfl Try.func41 (by kernel_rfl) rfl #[.string (⟨#[172, 2]⟩ : ByteArray)] rfl (by (try simp only [List.map_toArray, List.map_cons, List.map_nil]); first | done | rfl | (simp only [List.length_drop, List.length_take]; rfl)) ?_; (with_reducible refine (varint_Read_uint8.calls k (⟨#[172, 2]⟩ : ByteArray) t124 t125 t126 _ A2.out).mono ?_); rintro e w' ⟨rfl, ⟨nd, rfl⟩⟩; refine ⟨_, rfl, ?_⟩) | ((with_reducible refine gate_callee (f := 40) rfl ?_); refine goesL_ (some 21) rfl rfl Try.func40 (by kernel_rfl) rfl #[.string (⟨#[127]⟩ : ByteArray)] rfl (by (try simp only [List.map_toArray, List.map_cons, List.map_nil]); first | done | rfl | (simp only [List.length_drop, List.length_take]; rfl)) ?_; (with_reducible refine (varint_ReadSigned_int64.calls k (⟨#[127]⟩ : ByteArray) t127 t128 t129 _ A3.out).mono ?_); rintro e w' ⟨rfl, ⟨nd, rfl⟩⟩; refine ⟨_, rfl, ?_⟩))
      go_ret
      exact ⟨by first | rfl | (simp [errW_none, errW_some] <;> rfl) | (simp [*, errW_none, errW_some] <;> rfl), by repeat (first | (with_reducible first | exact HB.out | apply below_alloc | apply pw_below_drewN | apply below_drew1) | exact HB.out)⟩
  · rw [if_neg c4] at H
    have c4b0 : (t121 == 300) = false := beq_eq_false_iff_ne.mpr c4
    have c4b1 : (t121 != 300) = true := bne_iff_ne.mpr c4
    obtain rfl := Option.some.inj H
    go_enter Try.func12, Try.ntmps12
    go_wp2_with (first | ((with_reducible refine gate_callee (f := 39) rfl ?_); refine goesL_ (some 11) rfl rfl Try.func39 (by kernel_rfl) rfl #[.string (⟨#[172, 2, 7]⟩ : ByteArray)] rfl (by (try simp only [List.map_toArray, List.map_cons, List.map_nil]); first | done | rfl | (simp only [List.length_drop, List.length_take]; rfl)) ?_; (with_reducible refine (varint_Read_uint64.calls k (⟨#[172, 2, 7]⟩ : ByteArray) t121 t122 t123 _ A1.out).mono ?_); rintro e w' ⟨rfl, ⟨nd, rfl⟩⟩; refine ⟨_, rfl, ?_⟩) | ((with_reducible refine gate_callee (f := 41) rfl ?_); refine goesL_ (some 16) rfl rfl Try.func41 (by kernel_rfl) rfl #[.string (⟨#[172, 2]⟩ : ByteArray)] rfl (by (try simp only [List.map_toArray, List.map_cons, List.map_nil]); first | done | rfl | (simp only [List.length_drop, List.length_take]; rfl)) ?_; (with_reducible refine (varint_Read_uint8.calls k (⟨#[172, 2]⟩ : ByteArray) t124 t125 t126 _ A2.out).mono ?_); rintro e w' ⟨rfl, ⟨nd, rfl⟩⟩; refine ⟨_, rfl, ?_⟩) | ((with_reducible refine gate_callee (f := 40) rfl ?_); refine goesL_ (some 21) rfl rfl Try.func40 (by kernel_rfl) rfl #[.string (⟨#[127]⟩ : ByteArray)] rfl (by (try simp only [List.map_toArray, List.map_cons, List.map_nil]); first | done | rfl | (simp only [List.length_drop, List.length_take]; rfl)) ?_; (with_reducible refine (varint_ReadSigned_int64.calls k (⟨#[127]⟩ : ByteArray) t127 t128 t129 _ A3.out).mono ?_); rintro e w' ⟨rfl, ⟨nd, rfl⟩⟩; refine ⟨_, rfl, ?_⟩))
    go_ret
    exact ⟨by first | rfl | (simp [errW_none, errW_some] <;> rfl) | (simp [*, errW_none, errW_some] <;> rfl), by repeat (first | (with_reducible first | exact HB.out | apply below_alloc | apply pw_below_drewN | apply below_drew1) | exact HB.out)⟩

/-! ### varint_Size_uint64: function 15 -/
def varint_Size_uint64.l0 : Nat → Int → Int → Option (Int)
  | 0, _, _ => none
  | k + 1, x3, x4 => if x4 ≥ 128 then (varint_Size_uint64.l0 k (wrap64 (x3 + 1)) (x4 / 128)) else (some x3)
def varint_Size_uint64.f (k : Nat) (a0 : Int) : Option (Int) := varint_Size_uint64.l0 k 1 a0
theorem varint_Size_uint64.mono_l : ∀ k, (∀ y0 y1, LeO (varint_Size_uint64.l0 k y0 y1) (varint_Size_uint64.l0 (k + 1) y0 y1))
  | 0 => fun _ _ r h => by simp [varint_Size_uint64.l0] at h
  | k + 1 => by
    have ih0 := varint_Size_uint64.mono_l k
    · intro y0 y1
      unfold varint_Size_uint64.l0
      repeat' first
      | (with_reducible exact ih0 _ _)
      | (with_reducible exact LeO.refl _)
      | (with_reducible exact LeO.none _)
      | (with_reducible refine LeO.ite ?_ ?_)
      | (with_reducible refine LeO.bind ?_ (fun _ => ?_))
      | exact ih0 _ _
      | exact LeO.none _
      | refine LeO.ite ?_ ?_
      | refine LeO.bind ?_ (fun _ => ?_)
theorem varint_Size_uint64.mono : ∀ a0 k, LeO (varint_Size_uint64.f k a0) (varint_Size_uint64.f (k + 1) a0) := by
  intro a0 k
  have ih0 := varint_Size_uint64.mono_l k
  unfold varint_Size_uint64.f
  repeat' first
      | (with_reducible exact ih0 _ _)
      | (with_reducible exact LeO.refl _)
      | (with_reducible exact LeO.none _)
      | (with_reducible refine LeO.ite ?_ ?_)
      | (with_reducible refine LeO.bind ?_ (fun _ => ?_))
      | exact ih0 _ _
      | exact LeO.none _
      | refine LeO.ite ?_ ?_
      | refine LeO.bind ?_ (fun _ => ?_)
set_option maxHeartbeats 8000000 in
set_option maxRecDepth 100000 in
theorem varint_Size_uint64.calls (k : Nat) (a0 : Int) (r : Int) (w : World) (h : varint_Size_uint64.f k a0 = some r) :
    Calls Try.prog 15 #[.int .u64 a0] w fun e w' => e = .returned (.int .i64 r) ∧ Drawn0 w w' := by
  have H : (varint_Size_uint64.l0 k 1 a0) = some r := h
  clear h
  have H' := Aside0.mk H
  clear H
  go_enter Try.func15, Try.ntmps15
  go_wp2
  go_loopg [3, 4] k (fun kq v3 v4 w' => ∃ (x3_1 : Int) (x4_1 : Int), v3 = .int .i64 x3_1 ∧ v4 = .int .u64 x4_1 ∧ Aside0 (varint_Size_uint64.l0 kq x3_1 x4_1 = some r) ∧ Aside0 (kq ≤ k) ∧ Drawn0 w w')
  case atStart => exact ⟨(1), (a0), (by first | rfl | (simp; done) | (simp [*]; done)), (by first | rfl | (simp; done) | (simp [*]; done)), H', ⟨Nat.le_refl _⟩, by repeat (first | exact Drawn0.refl _ | apply Drawn0.step)⟩
  case round =>
    clear H'
    try clear c1
    obtain ⟨x3_1, x4_1, rfl, rfl, HA, HK1, ⟨m1, rfl⟩⟩ := hrel
    cases gk with
    | zero => exact absurd HA.out (by simp [varint_Size_uint64.l0])
    | succ k1 =>
      have H := HA.out
      clear HA
      simp only [varint_Size_uint64.l0] at H
      by_cases c2 : x4_1 ≥ 128
      · rw [if_pos c2] at H
        have c2b0 : decide (128 ≤ x4_1) = true := decide_eq_true c2
        clear c2
        have H' := Aside0.mk H
        clear H
        go_wp2
        go_roundg k1
        case measure => have := HK1.out; omega
        case rel => exact ⟨(wrap64 (x3_1 + 1)), (x4_1 / 128), (by first | rfl | (simp; done) | (simp [*]; done)), (by first | rfl | (simp; done) | (simp [*]; done)), H', ⟨by have := HK1.out; omega⟩, by repeat (first | exact Drawn0.refl _ | apply Drawn0.step)⟩
      · rw [if_neg c2] at H
        have c2b0 : decide (128 ≤ x4_1) = false := decide_eq_false c2
        clear c2
        obtain rfl := Option.some.inj H
        go_wp2
        go_ret
        exact ⟨by first | rfl | (simp; done) | (simp [*]; done), by repeat (first | exact Drawn0.refl _ | apply Drawn0.step)⟩

end Go.Proofs.Ytipdfajadehkmaa.QVarintPuts
