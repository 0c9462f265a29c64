/- The reader of layer 2: Opt, a text or null. -/
import Derived.Test.YtclnpedmoelipaaRu
import Derived.Test.YtclnpedmoelipaaTryOpt
namespace Go.Proofs.Ytclnpedmoelipaa.Rd
open Go Go.RowKit Go.Lib Go.Proofs.Ytclnpedmoelipaa.Vm Go.Proofs.Ytclnpedmoelipaa.Wr Go.Proofs.YtclnpedmoelipaaW.PrintWords
set_option linter.unusedVariables false
set_option linter.unusedSimpArgs false

theorem box2 {w w1 : World} {b x : Nat} {S : ByteArray} {pos : Nat} {er : Int} {F : Nat → Prop} {u0 u1 : Value} (h1 : RdAt w1 b S pos er) (hx1 : Blk w1 x 49 #[u0, u1]) (hC : Chg F w w1) (hxw : w.heap.size ≤ x) (v0 v1 : Value) :
    RdAt ((w1.setCell ⟨x, 0, none⟩ v0).setCell ⟨x, 1, none⟩ v1) b S pos er ∧ Chg F w ((w1.setCell ⟨x, 0, none⟩ v0).setCell ⟨x, 1, none⟩ v1) ∧ Blk ((w1.setCell ⟨x, 0, none⟩ v0).setCell ⟨x, 1, none⟩ v1) x 49 #[v0, v1] := by
  have hne : b ≠ x := Blk.ne_ h1 hx1 (by decide)
  refine ⟨Blk.far (p := ⟨x, 1, none⟩) (Blk.far (p := ⟨x, 0, none⟩) h1 hne v0) hne v1, ⟨Nat.le_trans hC.1 (by simp), fun i hi hf => ?_, hC.3⟩, Blk.set_ (Blk.set_ hx1 0 v0) 1 v1⟩
  have hix : i ≠ x := by omega
  exact (heap_set _ _ _ _ hix).trans ((heap_set _ _ _ _ hix).trans (hC.2 i hi hf))

set_option maxRecDepth 100000 in
theorem one_opt_null (b : Nat) (S : ByteArray) (pos : Nat) (er : Int) (w : World) (h : RdAt w b S pos er) (g : Nat) (hp : pos ≤ S.size) (hS : S.size ≤ 140737488355328) (n : Nat) (hr : rdSigned (-9223372036854775808) 9223372036854775807 (rd64 (bytesOf (S.extract pos S.size))) = (-1, (n : Int), 0)) (hn : pos + n ≤ S.size) :
    Calls Try.prog 73 #[.pointer (some ⟨b, 0, none⟩), .pointer (some ⟨g, 0, none⟩)] w fun e w' => e = .returned (.agg #[.bool false, .string ⟨#[]⟩]) ∧ RdAt w' b S (pos + n) er ∧ Chg (fun k => k = b) w w' := by
  obtain ⟨W0, hW0⟩ : ∃ W0, w.alloc (.cells #[.bool false, .string ⟨#[]⟩] 49) = W0 := ⟨_, rfl⟩
  have hC0 := Chg.alloc (fun _ => False) w (.cells #[.bool false, .string ⟨#[]⟩] 49)
  have hx : Blk (w.alloc (.cells #[.bool false, .string ⟨#[]⟩] 49)) w.heap.size 49 #[.bool false, .string ⟨#[]⟩] := heap_new _ _
  rw [hW0] at hC0 hx
  have k0 := h.chg hC0 (fun h => h)
  go_enter Try.func73, Try.ntmps73
  go_wp2_with fail
  refine (signed_ok b S pos er W0 k0 hp hS (-1) n hr (by omega) (by omega)).mono ?_
  rintro e w1 ⟨rfl, h1, hC1⟩
  have hx1 : Blk w1 w.heap.size 49 #[.bool false, .string ⟨#[]⟩] := (hC1.2 _ hx.lt (Nat.ne_of_gt (Blk.lt h))).trans hx
  have hC1w := hC0.none.trans hC1
  rw [Int.toNat_natCast] at h1
  have cx0 : w1.cell? ⟨w.heap.size, 0, none⟩ = some (.bool false) := hx1.cell 0
  have cx1 : w1.cell? ⟨w.heap.size, 1, none⟩ = some (.string ⟨#[]⟩) := hx1.cell 1
  have fx0 : w1.frozen? ⟨w.heap.size, 0, none⟩ = false := hx1.frozen 0
  have fx1 : w1.frozen? ⟨w.heap.size, 1, none⟩ = false := hx1.frozen 1
  go_wp2
  obtain ⟨n0, nC, nx⟩ := box2 h1 hx1 hC1w (Nat.le_refl _) (.bool false) (.string ⟨#[]⟩)
  have cy0 : _ = some (Value.bool false) := nx.cell 0
  have cy1 : _ = some (Value.string ⟨#[]⟩) := nx.cell 1
  refine ⟨rfl, .agg #[.bool false, .string ⟨#[]⟩], ?_, rfl, n0, nC⟩
  simp [results, Try.results73, go_sem, cy0, cy1]
set_option maxRecDepth 100000 in
theorem one_opt_ok (b : Nat) (S : ByteArray) (pos : Nat) (er : Int) (w : World) (h : RdAt w b S pos er) (most : Int) (hm0 : -9223372036854775808 ≤ most) (hm1 : most ≤ 9223372036854775807) (g : Nat) (hg : Blk w g 3 #[.int .i64 most]) (hp : pos ≤ S.size) (hS : S.size ≤ 140737488355328) (v n : Nat) (hr : rdSigned (-9223372036854775808) 9223372036854775807 (rd64 (bytesOf (S.extract pos S.size))) = ((v : Int), (n : Int), 0)) (hn : pos + n + v ≤ S.size) (hv : (v : Int) ≤ max most 0) :
    Calls Try.prog 73 #[.pointer (some ⟨b, 0, none⟩), .pointer (some ⟨g, 0, none⟩)] w fun e w' => e = .returned (.agg #[.bool true, .string (S.extract (pos + n) (pos + n + v))]) ∧ RdAt w' b S (pos + n + v) er ∧ Chg (fun k => k = b) w w' := by
  obtain ⟨W0, hW0⟩ : ∃ W0, w.alloc (.cells #[.bool false, .string ⟨#[]⟩] 49) = W0 := ⟨_, rfl⟩
  have hC0 := Chg.alloc (fun _ => False) w (.cells #[.bool false, .string ⟨#[]⟩] 49)
  have hx : Blk (w.alloc (.cells #[.bool false, .string ⟨#[]⟩] 49)) w.heap.size 49 #[.bool false, .string ⟨#[]⟩] := heap_new _ _
  rw [hW0] at hC0 hx
  have k0 := h.chg hC0 (fun h => h)
  have hg0 : Blk W0 g 3 #[.int .i64 most] := (hC0.2 _ hg.lt (fun h => h)).trans hg
  go_enter Try.func73, Try.ntmps73
  go_wp2_with fail
  refine (signed_ok b S pos er W0 k0 hp hS v n hr (by omega) (by omega)).mono ?_
  rintro e w1 ⟨rfl, h1, hC1⟩
  have hx1 : Blk w1 w.heap.size 49 #[.bool false, .string ⟨#[]⟩] := (hC1.2 _ hx.lt (Nat.ne_of_gt (Blk.lt h))).trans hx
  have hC1w := hC0.none.trans hC1
  rw [Int.toNat_natCast] at h1
  have hgb : g ≠ b := fun e => by subst e; exact absurd rfl (Blk.ne_ k0 hg0 (by decide))
  have hg1 : Blk w1 g 3 #[.int .i64 most] := (hC1.2 _ hg0.lt hgb).trans hg0
  have cg : w1.cell? ⟨g, 0, none⟩ = some (.int .i64 most) := hg1.cell 0
  have hne : ((v : Int) == -1) = false := by rw [beq_eq_false_iff_ne]; omega
  have hge : decide ((0 : Int) ≤ (v : Int)) = true := by simp
  have hle : decide ((v : Int) ≤ 9223372036854775807) = true := by simp; omega
  go_wp2_with fail
  all_goals (
    refine (left_calls b S (pos + n) er w1 h1 (by omega) hS).mono ?_
    rintro e w2 ⟨rfl, m, rfl⟩
    have h2 := h1.drewN m
    have hx2 : Blk (w1.drewN m) w.heap.size 49 #[.bool false, .string ⟨#[]⟩] := hx1
    have hC2 := hC1w.trans (Chg.drewN (fun k => k = b) w1 m)
    generalize w1.drewN m = W at *
    go_wp2_with fail
    refine (need_ok _ (by first | rfl | (rw [decide_eq_true_iff]; omega) | omega | (simp; omega) | (simp_all; omega)) _ _).mono ?_
    rintro e w3 ⟨rfl, rfl⟩
    go_wp2_with fail
    refine (take_ok b S (pos + n) v er _ (by first | rfl | omega | (unfold wrap64; omega) | (rw [IntWalk.i64_in _ (by omega)]) | (simp; omega)) W h2 (by omega) hS).mono ?_
    rintro e w4 ⟨rfl, h4, hC4⟩
    have hx4 : Blk w4 w.heap.size 49 #[.bool false, .string ⟨#[]⟩] := (hC4.2 _ (Blk.lt hx2) (Nat.ne_of_gt (Blk.lt h))).trans hx2
    have cx0 : w4.cell? ⟨w.heap.size, 0, none⟩ = some (.bool false) := hx4.cell 0
    have cx1 : w4.cell? ⟨w.heap.size, 1, none⟩ = some (.string ⟨#[]⟩) := hx4.cell 1
    have fx0 : w4.frozen? ⟨w.heap.size, 0, none⟩ = false := hx4.frozen 0
    have fx1 : w4.frozen? ⟨w.heap.size, 1, none⟩ = false := hx4.frozen 1
    go_wp2
    first
      | (obtain ⟨n0, nC, nx⟩ := box2 h4 hx4 (hC2.trans hC4) (Nat.le_refl _) (.bool true) (.string (S.extract (pos + n) (pos + n + v)))
         have cy0 : _ = some (Value.bool true) := nx.cell 0
         have cy1 : _ = some (Value.string (S.extract (pos + n) (pos + n + v))) := nx.cell 1
         refine ⟨rfl, .agg #[.bool true, .string (S.extract (pos + n) (pos + n + v))], ?_, rfl, n0, nC⟩
         simp [results, Try.results73, go_sem, cy0, cy1])
      | (have hv0 : v = 0 := by omega
         subst hv0
         obtain ⟨n0, nC, nx⟩ := box2 h4 hx4 (hC2.trans hC4) (Nat.le_refl _) (.bool true) (.string ByteArray.empty)
         have cy0 : _ = some (Value.bool true) := nx.cell 0
         have cy1 : _ = some (Value.string ByteArray.empty) := nx.cell 1
         refine ⟨rfl, .agg #[.bool true, .string (S.extract (pos + n) (pos + n + 0))], ?_, rfl, n0, nC⟩
         simp [results, Try.results73, go_sem, cy0, cy1]))
set_option maxRecDepth 100000 in
theorem one_opt_long (b : Nat) (S : ByteArray) (pos : Nat) (er : Int) (w : World) (h : RdAt w b S pos er) (most : Int) (hm0 : -9223372036854775808 ≤ most) (hm1 : most ≤ 9223372036854775807) (g : Nat) (hg : Blk w g 3 #[.int .i64 most]) (hp : pos ≤ S.size) (hS : S.size ≤ 140737488355328) (v : Int) (n : Nat) (hv0 : -9223372036854775808 ≤ v) (hv1 : v ≤ 9223372036854775807) (hr : rdSigned (-9223372036854775808) 9223372036854775807 (rd64 (bytesOf (S.extract pos S.size))) = (v, (n : Int), 0)) (hn : pos + n ≤ S.size) (hv : v < -1 ∨ max most 0 < v ∨ (0 ≤ v ∧ (S.size : Int) < pos + n + v)) :
    Calls Try.prog 73 #[.pointer (some ⟨b, 0, none⟩), .pointer (some ⟨g, 0, none⟩)] w fun e w' => e = .panicked [fault 21] ∧ (∃ p2, RdAt w' b S p2 er) ∧ Chg (fun k => k = b) w w' := by
  obtain ⟨W0, hW0⟩ : ∃ W0, w.alloc (.cells #[.bool false, .string ⟨#[]⟩] 49) = W0 := ⟨_, rfl⟩
  have hC0 := Chg.alloc (fun _ => False) w (.cells #[.bool false, .string ⟨#[]⟩] 49)
  have hx : Blk (w.alloc (.cells #[.bool false, .string ⟨#[]⟩] 49)) w.heap.size 49 #[.bool false, .string ⟨#[]⟩] := heap_new _ _
  rw [hW0] at hC0 hx
  have k0 := h.chg hC0 (fun h => h)
  have hg0 : Blk W0 g 3 #[.int .i64 most] := (hC0.2 _ hg.lt (fun h => h)).trans hg
  go_enter Try.func73, Try.ntmps73
  go_wp2_with fail
  refine (signed_ok b S pos er W0 k0 hp hS v n hr (by omega) (by omega)).mono ?_
  rintro e w1 ⟨rfl, h1, hC1⟩
  have hx1 : Blk w1 w.heap.size 49 #[.bool false, .string ⟨#[]⟩] := (hC1.2 _ hx.lt (Nat.ne_of_gt (Blk.lt h))).trans hx
  have hC1w := hC0.none.trans hC1
  rw [Int.toNat_natCast] at h1
  have hgb : g ≠ b := fun e => by subst e; exact absurd rfl (Blk.ne_ k0 hg0 (by decide))
  have hg1 : Blk w1 g 3 #[.int .i64 most] := (hC1.2 _ hg0.lt hgb).trans hg0
  have cg : w1.cell? ⟨g, 0, none⟩ = some (.int .i64 most) := hg1.cell 0
  have hne : (v == -1) = false := by rw [beq_eq_false_iff_ne]; omega
  have hle : decide (v ≤ 9223372036854775807) = true := by simp; omega
  by_cases h0 : v < 0
  · have hge : decide ((0 : Int) ≤ v) = false := by simp; omega
    go_wp2_with fail
    refine (need_bad _ (by first | rfl | (rw [decide_eq_false_iff_not]; omega) | omega | (simp; omega) | (simp_all; omega)) _ _).mono ?_
    rintro e w3 ⟨rfl, rfl⟩
    exact ⟨rfl, rfl, ⟨_, h1⟩, hC1w⟩
  · have hge : decide ((0 : Int) ≤ v) = true := by simp; omega
    by_cases hl : max most 0 < v
    · go_wp2_with fail
      all_goals (
        refine (need_bad _ (by first | rfl | (rw [decide_eq_false_iff_not]; omega) | omega | (simp; omega) | (simp_all; omega)) _ _).mono ?_
        rintro e w3 ⟨rfl, rfl⟩
        exact ⟨rfl, rfl, ⟨_, h1⟩, hC1w⟩)
    · have hv2 : (S.size : Int) < pos + n + v := by omega
      clear hv
      go_wp2_with fail
      all_goals (
        refine (left_calls b S (pos + n) er w1 h1 (by omega) hS).mono ?_
        rintro e w2 ⟨rfl, m, rfl⟩
        have h2 := h1.drewN m
        have hC2 := hC1w.trans (Chg.drewN (fun k => k = b) w1 m)
        generalize w1.drewN m = W at *
        go_wp2_with fail
        refine (need_bad _ (by first | rfl | (rw [decide_eq_false_iff_not]; omega) | omega | (simp; omega) | (simp_all; omega)) _ _).mono ?_
        rintro e w3 ⟨rfl, rfl⟩
        exact ⟨rfl, rfl, ⟨_, h2⟩, hC2⟩)
set_option maxRecDepth 100000 in
theorem one_opt_bad (b : Nat) (S : ByteArray) (pos : Nat) (er : Int) (w : World) (h : RdAt w b S pos er) (g : Nat) (hp : pos ≤ S.size) (hS : S.size ≤ 140737488355328) (v n ec : Int) (hr : rdSigned (-9223372036854775808) 9223372036854775807 (rd64 (bytesOf (S.extract pos S.size))) = (v, n, ec)) (hec : ec ≠ 0) :
    Calls Try.prog 73 #[.pointer (some ⟨b, 0, none⟩), .pointer (some ⟨g, 0, none⟩)] w fun e w' => e = .panicked [fault ec] ∧ (∃ p2, RdAt w' b S p2 er) ∧ Chg (fun k => k = b) w w' := by
  obtain ⟨W0, hW0⟩ : ∃ W0, w.alloc (.cells #[.bool false, .string ⟨#[]⟩] 49) = W0 := ⟨_, rfl⟩
  have hC0 := Chg.alloc (fun _ => False) w (.cells #[.bool false, .string ⟨#[]⟩] 49)
  have hx : Blk (w.alloc (.cells #[.bool false, .string ⟨#[]⟩] 49)) w.heap.size 49 #[.bool false, .string ⟨#[]⟩] := heap_new _ _
  rw [hW0] at hC0 hx
  have k0 := h.chg hC0 (fun h => h)
  go_enter Try.func73, Try.ntmps73
  go_wp2_with fail
  refine (signed_bad b S pos er W0 k0 hp hS v n ec hr hec).mono ?_
  rintro e w1 ⟨rfl, h1, hC1⟩
  replace hC1 := hC0.trans hC1
  exact ⟨rfl, rfl, ⟨pos, h1⟩, hC1.none⟩

set_option maxRecDepth 100000 in
theorem Opt_fault (b : Nat) (S : ByteArray) (pos : Nat) (most er : Int) (w : World) (h : RdAt w b S pos er) (her : (er != 0) = true) :
    Calls Try.prog 24 #[.pointer (some ⟨b, 0, none⟩), .int .i64 most] w fun e w' => e = .returned (.tuple #[.agg #[.bool false, .string ⟨#[]⟩], .int .i64 er]) ∧ RdAt w' b S pos er ∧ Chg (fun _ => False) w w' := by
  obtain ⟨W0, hW0⟩ : ∃ W0, w.alloc (.cells #[.int .i64 most] 3) = W0 := ⟨_, rfl⟩
  have hC0 := Chg.alloc (fun _ => False) w (.cells #[.int .i64 most] 3)
  have hg : Blk (w.alloc (.cells #[.int .i64 most] 3)) w.heap.size 3 #[.int .i64 most] := heap_new _ _
  rw [hW0] at hC0 hg
  have k0 := h.chg hC0 (fun h => h)
  obtain ⟨W1, hW1⟩ : ∃ W1, W0.alloc (.cells #[.bool false, .string ⟨#[]⟩] 49) = W1 := ⟨_, rfl⟩
  have hC1 := Chg.alloc (fun _ => False) W0 (.cells #[.bool false, .string ⟨#[]⟩] 49)
  have hx : Blk (W0.alloc (.cells #[.bool false, .string ⟨#[]⟩] 49)) W0.heap.size 49 #[.bool false, .string ⟨#[]⟩] := heap_new _ _
  rw [hW1] at hC1 hx
  replace hg : Blk W1 w.heap.size 3 #[.int .i64 most] := (hC1.2 _ hg.lt (fun h => h)).trans hg
  replace k0 := k0.chg hC1 (fun h => h)
  replace hC0 := hC0.trans hC1
  go_enter Try.func24, Try.ntmps24
  go_wp2_with fail
  refine (tryFault_opt b S pos er _ W1 k0 her).mono ?_
  rintro e w1 ⟨rfl, h1, hC⟩
  have hx1 : Blk w1 W0.heap.size 49 #[.bool false, .string ⟨#[]⟩] := (hC.2 _ hx.lt (fun h => h)).trans hx
  have cx0 : w1.cell? ⟨W0.heap.size, 0, none⟩ = some (.bool false) := hx1.cell 0
  have cx1 : w1.cell? ⟨W0.heap.size, 1, none⟩ = some (.string ⟨#[]⟩) := hx1.cell 1
  have fx0 : w1.frozen? ⟨W0.heap.size, 0, none⟩ = false := hx1.frozen 0
  have fx1 : w1.frozen? ⟨W0.heap.size, 1, none⟩ = false := hx1.frozen 1
  have hw0 : w.heap.size ≤ W0.heap.size := by rw [← hW0]; simp
  go_wp2
  obtain ⟨n0, nC, nx⟩ := box2 h1 hx1 (hC0.trans hC) hw0 (.bool false) (.string ⟨#[]⟩)
  have cy0 : _ = some (Value.bool false) := nx.cell 0
  have cy1 : _ = some (Value.string ⟨#[]⟩) := nx.cell 1
  refine ⟨rfl, .tuple #[.agg #[(.bool false), (.string ⟨#[]⟩)], .int .i64 er], ?_, rfl, n0, nC⟩
  simp [results, Try.results24, go_sem, cy0, cy1]
set_option maxRecDepth 100000 in
/-- What reads, read by the closure's answer. -/
theorem Opt_from (b : Nat) (S : ByteArray) (pos pos' : Nat) (xb : Bool) (xs : ByteArray) (w : World) (h : RdAt w b S pos 0) (most : Int)
    (hone : ∀ W g, RdAt W b S pos 0 → Blk W g 3 #[.int .i64 most] → Calls Try.prog 73 #[.pointer (some ⟨b, 0, none⟩), .pointer (some ⟨g, 0, none⟩)] W fun e W' => e = .returned (.agg #[.bool xb, .string xs]) ∧ RdAt W' b S pos' 0 ∧ Chg (fun k => k = b) W W') :
    Calls Try.prog 24 #[.pointer (some ⟨b, 0, none⟩), .int .i64 most] w fun e w' => e = .returned (.tuple #[.agg #[.bool xb, .string xs], .int .i64 0]) ∧ RdAt w' b S pos' 0 ∧ Chg (fun k => k = b) w w' := by
  obtain ⟨W0, hW0⟩ : ∃ W0, w.alloc (.cells #[.int .i64 most] 3) = W0 := ⟨_, rfl⟩
  have hC0 := Chg.alloc (fun _ => False) w (.cells #[.int .i64 most] 3)
  have hg : Blk (w.alloc (.cells #[.int .i64 most] 3)) w.heap.size 3 #[.int .i64 most] := heap_new _ _
  rw [hW0] at hC0 hg
  have k0 := h.chg hC0 (fun h => h)
  obtain ⟨W1, hW1⟩ : ∃ W1, W0.alloc (.cells #[.bool false, .string ⟨#[]⟩] 49) = W1 := ⟨_, rfl⟩
  have hC1 := Chg.alloc (fun _ => False) W0 (.cells #[.bool false, .string ⟨#[]⟩] 49)
  have hx : Blk (W0.alloc (.cells #[.bool false, .string ⟨#[]⟩] 49)) W0.heap.size 49 #[.bool false, .string ⟨#[]⟩] := heap_new _ _
  rw [hW1] at hC1 hx
  replace hg : Blk W1 w.heap.size 3 #[.int .i64 most] := (hC1.2 _ hg.lt (fun h => h)).trans hg
  replace k0 := k0.chg hC1 (fun h => h)
  replace hC0 := hC0.trans hC1
  have HO := Lib.hid hone
  clear hone
  go_enter Try.func24, Try.ntmps24
  go_wp2_with fail
  refine (tryOk_opt b S pos pos' 73 #[.pointer (some ⟨w.heap.size, 0, none⟩)] xb xs W1 k0 (fun _ _ => rfl) (fun W h1 hc => HO.out W _ h1 ((hc.2 _ hg.lt (fun h => h)).trans hg))).mono ?_
  rintro e w1 ⟨rfl, h1, hC⟩
  have hx1 : Blk w1 W0.heap.size 49 #[.bool false, .string ⟨#[]⟩] := (hC.2 _ hx.lt (fun e => Blk.ne_ k0 hx (by decide) e.symm)).trans hx
  have cx0 : w1.cell? ⟨W0.heap.size, 0, none⟩ = some (.bool false) := hx1.cell 0
  have cx1 : w1.cell? ⟨W0.heap.size, 1, none⟩ = some (.string ⟨#[]⟩) := hx1.cell 1
  have fx0 : w1.frozen? ⟨W0.heap.size, 0, none⟩ = false := hx1.frozen 0
  have fx1 : w1.frozen? ⟨W0.heap.size, 1, none⟩ = false := hx1.frozen 1
  have hw0 : w.heap.size ≤ W0.heap.size := by rw [← hW0]; simp
  go_wp2
  obtain ⟨n0, nC, nx⟩ := box2 h1 hx1 (hC0.none.trans hC) hw0 (.bool xb) (.string xs)
  have cy0 : _ = some (Value.bool xb) := nx.cell 0
  have cy1 : _ = some (Value.string xs) := nx.cell 1
  refine ⟨rfl, .tuple #[.agg #[(.bool xb), (.string xs)], .int .i64 0], ?_, rfl, n0, nC⟩
  simp [results, Try.results24, go_sem, cy0, cy1]
set_option maxRecDepth 100000 in
theorem Opt_stop (b : Nat) (S : ByteArray) (pos : Nat) (ec : Int) (w : World) (h : RdAt w b S pos 0) (most : Int)
    (hone : ∀ W g, RdAt W b S pos 0 → Blk W g 3 #[.int .i64 most] → Calls Try.prog 73 #[.pointer (some ⟨b, 0, none⟩), .pointer (some ⟨g, 0, none⟩)] W fun e W' => e = .panicked [fault ec] ∧ (∃ p2, RdAt W' b S p2 0) ∧ Chg (fun k => k = b) W W') :
    Calls Try.prog 24 #[.pointer (some ⟨b, 0, none⟩), .int .i64 most] w fun e w' => e = .returned (.tuple #[.agg #[.bool false, .string ⟨#[]⟩], .int .i64 ec]) ∧ RdAt w' b S pos ec ∧ Chg (fun k => k = b) w w' := by
  obtain ⟨W0, hW0⟩ : ∃ W0, w.alloc (.cells #[.int .i64 most] 3) = W0 := ⟨_, rfl⟩
  have hC0 := Chg.alloc (fun _ => False) w (.cells #[.int .i64 most] 3)
  have hg : Blk (w.alloc (.cells #[.int .i64 most] 3)) w.heap.size 3 #[.int .i64 most] := heap_new _ _
  rw [hW0] at hC0 hg
  have k0 := h.chg hC0 (fun h => h)
  obtain ⟨W1, hW1⟩ : ∃ W1, W0.alloc (.cells #[.bool false, .string ⟨#[]⟩] 49) = W1 := ⟨_, rfl⟩
  have hC1 := Chg.alloc (fun _ => False) W0 (.cells #[.bool false, .string ⟨#[]⟩] 49)
  have hx : Blk (W0.alloc (.cells #[.bool false, .string ⟨#[]⟩] 49)) W0.heap.size 49 #[.bool false, .string ⟨#[]⟩] := heap_new _ _
  rw [hW1] at hC1 hx
  replace hg : Blk W1 w.heap.size 3 #[.int .i64 most] := (hC1.2 _ hg.lt (fun h => h)).trans hg
  replace k0 := k0.chg hC1 (fun h => h)
  replace hC0 := hC0.trans hC1
  have HO := Lib.hid hone
  clear hone
  go_enter Try.func24, Try.ntmps24
  go_wp2_with fail
  refine (tryBad_opt b S pos ec 73 #[.pointer (some ⟨w.heap.size, 0, none⟩)] W1 k0 (fun _ _ => rfl) (fun W h1 hc => HO.out W _ h1 ((hc.2 _ hg.lt (fun h => h)).trans hg))).mono ?_
  rintro e w1 ⟨rfl, h1, hC⟩
  have hx1 : Blk w1 W0.heap.size 49 #[.bool false, .string ⟨#[]⟩] := (hC.2 _ hx.lt (fun e => Blk.ne_ k0 hx (by decide) e.symm)).trans hx
  have cx0 : w1.cell? ⟨W0.heap.size, 0, none⟩ = some (.bool false) := hx1.cell 0
  have cx1 : w1.cell? ⟨W0.heap.size, 1, none⟩ = some (.string ⟨#[]⟩) := hx1.cell 1
  have fx0 : w1.frozen? ⟨W0.heap.size, 0, none⟩ = false := hx1.frozen 0
  have fx1 : w1.frozen? ⟨W0.heap.size, 1, none⟩ = false := hx1.frozen 1
  have hw0 : w.heap.size ≤ W0.heap.size := by rw [← hW0]; simp
  go_wp2
  obtain ⟨n0, nC, nx⟩ := box2 h1 hx1 (hC0.none.trans hC) hw0 (.bool false) (.string ⟨#[]⟩)
  have cy0 : _ = some (Value.bool false) := nx.cell 0
  have cy1 : _ = some (Value.string ⟨#[]⟩) := nx.cell 1
  refine ⟨rfl, .tuple #[.agg #[(.bool false), (.string ⟨#[]⟩)], .int .i64 ec], ?_, rfl, n0, nC⟩
  simp [results, Try.results24, go_sem, cy0, cy1]
end Go.Proofs.Ytclnpedmoelipaa.Rd
