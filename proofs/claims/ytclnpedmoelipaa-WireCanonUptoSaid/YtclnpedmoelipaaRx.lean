/- The reader of layer 2: Text. -/
import Derived.Test.YtclnpedmoelipaaRu
import Derived.Test.YtclnpedmoelipaaTryStr
namespace Go.Proofs.Ytclnpedmoelipaa.Rd
open Go Go.RowKit Go.Lib Go.Proofs.Ytclnpedmoelipaa.Vm Go.Proofs.Ytclnpedmoelipaa.Wr Go.Proofs.YtclnpedmoelipaaW.PrintWords
set_option linter.unusedVariables false
set_option linter.unusedSimpArgs false

set_option maxRecDepth 100000 in
theorem one_text_ok (b : Nat) (S : ByteArray) (pos : Nat) (er : Int) (w : World) (h : RdAt w b S pos er) (most : Int) (hm0 : -9223372036854775808 ≤ most) (hm1 : most ≤ 9223372036854775807) (g : Nat) (hg : Blk w g 3 #[.int .i64 most]) (hp : pos ≤ S.size) (hS : S.size ≤ 140737488355328) (v n : Nat) (hr : rd64 (bytesOf (S.extract pos S.size)) = ((v : Int), (n : Int), 0)) (hn : pos + n + v ≤ S.size) (hv : (v : Int) ≤ max most 0) :
    Calls Try.prog 69 #[.pointer (some ⟨b, 0, none⟩), .pointer (some ⟨g, 0, none⟩)] w fun e w' => e = .returned (.string (S.extract (pos + n) (pos + n + v))) ∧ RdAt w' b S (pos + n + v) er ∧ Chg (fun k => k = b) w w' := by
  go_enter Try.func69, Try.ntmps69
  go_wp2_with fail
  refine (unsigned_ok b S pos er w h hp hS v n hr (by omega) (by omega)).mono ?_
  rintro e w1 ⟨rfl, h1, hC1⟩
  rw [Int.toNat_natCast] at h1
  have hgb : g ≠ b := fun e => by subst e; exact absurd rfl (Blk.ne_ h hg (by decide))
  have hg1 : Blk w1 g 3 #[.int .i64 most] := (hC1.2 _ hg.lt hgb).trans hg
  have cg : w1.cell? ⟨g, 0, none⟩ = some (.int .i64 most) := hg1.cell 0
  go_wp2_with fail
  all_goals (
    refine (left_calls b S (pos + n) er w1 h1 (by omega) hS).mono ?_
    rintro e w2 ⟨rfl, m, rfl⟩
    have h2 := h1.drewN m
    have hC2 := hC1.trans (Chg.drewN (fun k => k = b) w1 m)
    generalize w1.drewN m = W at *
    have el : IntKind.u64.wrap ((S.size : Int) - ((pos + n : Nat) : Int)) = (S.size : Int) - ((pos + n : Nat) : Int) := by rw [IntKind.wrap_u64]; omega
    go_wp2_with fail
    refine (need_ok _ (by first | rfl | (rw [decide_eq_true_iff]; omega) | omega | (simp; omega) | (simp_all; omega)) _ _).mono ?_
    rintro e w3 ⟨rfl, rfl⟩
    go_wp2_with fail
    refine (take_ok b S (pos + n) v er _ (by first | rfl | omega | (unfold wrap64; omega) | (rw [IntWalk.i64_in _ (by omega)]) | (simp; omega)) W h2 (by omega) hS).mono ?_
    rintro e w4 ⟨rfl, h4, hC4⟩
    go_wp2
    go_ret
    first
      | exact ⟨rfl, h4, hC2.trans hC4⟩
      | (have hv0 : v = 0 := by omega
         refine ⟨?_, h4, hC2.trans hC4⟩
         subst hv0
         simp))
set_option maxRecDepth 100000 in
theorem Text_fault (b : Nat) (S : ByteArray) (pos : Nat) (most er : Int) (w : World) (h : RdAt w b S pos er) (her : (er != 0) = true) :
    Calls Try.prog 22 #[.pointer (some ⟨b, 0, none⟩), .int .i64 most] w fun e w' => e = .returned (.tuple #[.string ⟨#[]⟩, .int .i64 er]) ∧ RdAt w' b S pos er ∧ Chg (fun _ => False) w w' := by
  obtain ⟨W0, hW0⟩ : ∃ W0, w.alloc (.cells #[.int .i64 most] 3) = W0 := ⟨_, rfl⟩
  have hC0 := Chg.alloc (fun _ => False) w (.cells #[.int .i64 most] 3)
  have hg : Blk (w.alloc (.cells #[.int .i64 most] 3)) w.heap.size 3 #[.int .i64 most] := heap_new _ _
  rw [hW0] at hC0 hg
  have k0 := h.chg hC0 (fun h => h)
  go_enter Try.func22, Try.ntmps22
  go_wp2_with fail
  refine (tryFault_str b S pos er _ W0 k0 her).mono ?_
  rintro e w1 ⟨rfl, h1, hC⟩
  go_wp2
  refine ⟨rfl, .tuple #[.string ⟨#[]⟩, .int .i64 er], ?_, rfl, h1, hC0.trans hC⟩
  simp [results, Try.results22, go_sem]
set_option maxRecDepth 100000 in
theorem Text_ok (b : Nat) (S : ByteArray) (pos : Nat) (w : World) (h : RdAt w b S pos 0) (most : Int) (hm0 : -9223372036854775808 ≤ most) (hm1 : most ≤ 9223372036854775807) (hp : pos ≤ S.size) (hS : S.size ≤ 140737488355328) (v n : Nat) (hr : rd64 (bytesOf (S.extract pos S.size)) = ((v : Int), (n : Int), 0)) (hn : pos + n + v ≤ S.size) (hv : (v : Int) ≤ max most 0) :
    Calls Try.prog 22 #[.pointer (some ⟨b, 0, none⟩), .int .i64 most] w fun e w' => e = .returned (.tuple #[.string (S.extract (pos + n) (pos + n + v)), .int .i64 0]) ∧ RdAt w' b S (pos + n + v) 0 ∧ Chg (fun k => k = b) w w' := by
  obtain ⟨W0, hW0⟩ : ∃ W0, w.alloc (.cells #[.int .i64 most] 3) = W0 := ⟨_, rfl⟩
  have hC0 := Chg.alloc (fun _ => False) w (.cells #[.int .i64 most] 3)
  have hg : Blk (w.alloc (.cells #[.int .i64 most] 3)) w.heap.size 3 #[.int .i64 most] := heap_new _ _
  rw [hW0] at hC0 hg
  have k0 := h.chg hC0 (fun h => h)
  go_enter Try.func22, Try.ntmps22
  go_wp2_with fail
  refine (tryOk_str b S pos (pos + n + v) 69 #[.pointer (some ⟨w.heap.size, 0, none⟩)] (S.extract (pos + n) (pos + n + v)) W0 k0 (fun _ _ => rfl) (fun W h1 hc => one_text_ok b S pos 0 W h1 most hm0 hm1 _ ((hc.2 _ hg.lt (fun h => h)).trans hg) hp hS v n hr hn hv)).mono ?_
  rintro e w1 ⟨rfl, h1, hC⟩
  go_wp2
  refine ⟨rfl, .tuple #[.string (S.extract (pos + n) (pos + n + v)), .int .i64 0], ?_, rfl, h1, hC0.none.trans hC⟩
  simp [results, Try.results22, go_sem]
set_option maxRecDepth 100000 in
theorem one_text_bad (b : Nat) (S : ByteArray) (pos : Nat) (er : Int) (w : World) (h : RdAt w b S pos er) (g : Nat) (hp : pos ≤ S.size) (hS : S.size ≤ 140737488355328) (v n ec : Int) (hr : rd64 (bytesOf (S.extract pos S.size)) = (v, n, ec)) (hec : ec ≠ 0) :
    Calls Try.prog 69 #[.pointer (some ⟨b, 0, none⟩), .pointer (some ⟨g, 0, none⟩)] w fun e w' => e = .panicked [fault ec] ∧ (∃ p2, RdAt w' b S p2 er) ∧ Chg (fun k => k = b) w w' := by
  go_enter Try.func69, Try.ntmps69
  go_wp2_with fail
  refine (unsigned_bad b S pos er w h hp hS v n ec hr hec).mono ?_
  rintro e w1 ⟨rfl, h1, hC1⟩
  exact ⟨rfl, rfl, ⟨pos, h1⟩, hC1.none⟩
set_option maxRecDepth 100000 in
theorem Text_bad (b : Nat) (S : ByteArray) (pos : Nat) (w : World) (h : RdAt w b S pos 0) (most : Int) (hp : pos ≤ S.size) (hS : S.size ≤ 140737488355328) (v n ec : Int) (hr : rd64 (bytesOf (S.extract pos S.size)) = (v, n, ec)) (hec : ec ≠ 0) :
    Calls Try.prog 22 #[.pointer (some ⟨b, 0, none⟩), .int .i64 most] w fun e w' => e = .returned (.tuple #[.string ⟨#[]⟩, .int .i64 ec]) ∧ RdAt w' b S pos ec ∧ Chg (fun k => k = b) w w' := by
  obtain ⟨W0, hW0⟩ : ∃ W0, w.alloc (.cells #[.int .i64 most] 3) = W0 := ⟨_, rfl⟩
  have hC0 := Chg.alloc (fun _ => False) w (.cells #[.int .i64 most] 3)
  have hg : Blk (w.alloc (.cells #[.int .i64 most] 3)) w.heap.size 3 #[.int .i64 most] := heap_new _ _
  rw [hW0] at hC0 hg
  have k0 := h.chg hC0 (fun h => h)
  go_enter Try.func22, Try.ntmps22
  go_wp2_with fail
  refine (tryBad_str b S pos ec 69 #[.pointer (some ⟨w.heap.size, 0, none⟩)] W0 k0 (fun _ _ => rfl) (fun W h1 hc => one_text_bad b S pos 0 W h1 _ hp hS v n ec hr hec)).mono ?_
  rintro e w1 ⟨rfl, h1, hC⟩
  go_wp2
  refine ⟨rfl, .tuple #[.string ⟨#[]⟩, .int .i64 ec], ?_, rfl, h1, hC0.none.trans hC⟩
  simp [results, Try.results22, go_sem]
set_option maxRecDepth 100000 in
theorem one_text_long (b : Nat) (S : ByteArray) (pos : Nat) (er : Int) (w : World) (h : RdAt w b S pos er) (most : Int) (hm0 : -9223372036854775808 ≤ most) (hm1 : most ≤ 9223372036854775807) (g : Nat) (hg : Blk w g 3 #[.int .i64 most]) (hp : pos ≤ S.size) (hS : S.size ≤ 140737488355328) (v n : Nat) (hv64 : v < 18446744073709551616) (hr : rd64 (bytesOf (S.extract pos S.size)) = ((v : Int), (n : Int), 0)) (hn : pos + n ≤ S.size) (hv : max most 0 < (v : Int) ∨ S.size < pos + n + v) :
    Calls Try.prog 69 #[.pointer (some ⟨b, 0, none⟩), .pointer (some ⟨g, 0, none⟩)] w fun e w' => e = .panicked [fault 21] ∧ (∃ p2, RdAt w' b S p2 er) ∧ Chg (fun k => k = b) w w' := by
  go_enter Try.func69, Try.ntmps69
  go_wp2_with fail
  refine (unsigned_ok b S pos er w h hp hS v n hr (by omega) (by omega)).mono ?_
  rintro e w1 ⟨rfl, h1, hC1⟩
  rw [Int.toNat_natCast] at h1
  have hgb : g ≠ b := fun e => by subst e; exact absurd rfl (Blk.ne_ h hg (by decide))
  have hg1 : Blk w1 g 3 #[.int .i64 most] := (hC1.2 _ hg.lt hgb).trans hg
  have cg : w1.cell? ⟨g, 0, none⟩ = some (.int .i64 most) := hg1.cell 0
  by_cases hl : max most 0 < (v : Int)
  · go_wp2_with fail
    all_goals (
      refine (need_bad _ (by first | rfl | (rw [decide_eq_false_iff_not]; omega) | omega | (simp; omega) | (simp_all; omega)) _ _).mono ?_
      rintro e w3 ⟨rfl, rfl⟩
      exact ⟨rfl, rfl, ⟨_, h1⟩, hC1⟩)
  · have hv2 : S.size < pos + n + v := by omega
    clear hv
    go_wp2_with fail
    all_goals (
      refine (left_calls b S (pos + n) er w1 h1 (by omega) hS).mono ?_
      rintro e w2 ⟨rfl, m, rfl⟩
      have h2 := h1.drewN m
      have hC2 := hC1.trans (Chg.drewN (fun k => k = b) w1 m)
      generalize w1.drewN m = W at *
      have el : IntKind.u64.wrap ((S.size : Int) - ((pos + n : Nat) : Int)) = (S.size : Int) - ((pos + n : Nat) : Int) := by rw [IntKind.wrap_u64]; omega
      go_wp2_with fail
      refine (need_bad _ (by first | rfl | (rw [decide_eq_false_iff_not]; omega) | omega | (simp; omega) | (simp_all; omega)) _ _).mono ?_
      rintro e w3 ⟨rfl, rfl⟩
      exact ⟨rfl, rfl, ⟨_, h2⟩, hC2⟩)
set_option maxRecDepth 100000 in
theorem Text_long (b : Nat) (S : ByteArray) (pos : Nat) (w : World) (h : RdAt w b S pos 0) (most : Int) (hm0 : -9223372036854775808 ≤ most) (hm1 : most ≤ 9223372036854775807) (hp : pos ≤ S.size) (hS : S.size ≤ 140737488355328) (v n : Nat) (hv64 : v < 18446744073709551616) (hr : rd64 (bytesOf (S.extract pos S.size)) = ((v : Int), (n : Int), 0)) (hn : pos + n ≤ S.size) (hv : max most 0 < (v : Int) ∨ S.size < pos + n + v) :
    Calls Try.prog 22 #[.pointer (some ⟨b, 0, none⟩), .int .i64 most] w fun e w' => e = .returned (.tuple #[.string ⟨#[]⟩, .int .i64 21]) ∧ RdAt w' b S pos 21 ∧ Chg (fun k => k = b) w w' := by
  obtain ⟨W0, hW0⟩ : ∃ W0, w.alloc (.cells #[.int .i64 most] 3) = W0 := ⟨_, rfl⟩
  have hC0 := Chg.alloc (fun _ => False) w (.cells #[.int .i64 most] 3)
  have hg : Blk (w.alloc (.cells #[.int .i64 most] 3)) w.heap.size 3 #[.int .i64 most] := heap_new _ _
  rw [hW0] at hC0 hg
  have k0 := h.chg hC0 (fun h => h)
  go_enter Try.func22, Try.ntmps22
  go_wp2_with fail
  refine (tryBad_str b S pos 21 69 #[.pointer (some ⟨w.heap.size, 0, none⟩)] W0 k0 (fun _ _ => rfl) (fun W h1 hc => one_text_long b S pos 0 W h1 most hm0 hm1 _ ((hc.2 _ hg.lt (fun h => h)).trans hg) hp hS v n hv64 hr hn hv)).mono ?_
  rintro e w1 ⟨rfl, h1, hC⟩
  go_wp2
  refine ⟨rfl, .tuple #[.string ⟨#[]⟩, .int .i64 21], ?_, rfl, h1, hC0.none.trans hC⟩
  simp [results, Try.results22, go_sem]
end Go.Proofs.Ytclnpedmoelipaa.Rd
