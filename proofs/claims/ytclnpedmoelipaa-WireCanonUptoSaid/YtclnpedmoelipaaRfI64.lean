/- The reader of layer 2: one of its fixed numbers. -/
import Derived.Test.YtclnpedmoelipaaTryI64
namespace Go.Proofs.Ytclnpedmoelipaa.Rd
open Go Go.RowKit Go.Lib Go.Proofs.Ytclnpedmoelipaa.Vm Go.Proofs.Ytclnpedmoelipaa.Wr Go.Proofs.YtclnpedmoelipaaW.PrintWords
set_option linter.unusedVariables false
set_option linter.unusedSimpArgs false

set_option maxRecDepth 100000 in
theorem one_i64_ok (b : Nat) (S : ByteArray) (pos : Nat) (er : Int) (w : World) (h : RdAt w b S pos er) (hn : pos + 8 ≤ S.size) (hS : S.size ≤ 140737488355328) :
    Calls Try.prog 74 #[.pointer (some ⟨b, 0, none⟩)] w fun e w' => e = .returned (.int .i64 (wrap64 (beV (bytesOf (S.extract pos (pos + 8)))))) ∧ RdAt w' b S (pos + 8) er ∧ Chg (fun k => k = b) w w' := by
  go_enter Try.func74, Try.ntmps74
  go_wp2_with fail
  refine (number_ok b S pos 8 er 8 rfl w h (by omega) hn hS).mono ?_
  rintro e w1 ⟨rfl, h1, hC⟩
  go_wp2
  go_ret
  exact ⟨rfl, h1, hC⟩
set_option maxRecDepth 100000 in
theorem one_i64_short (b : Nat) (S : ByteArray) (pos : Nat) (er : Int) (w : World) (h : RdAt w b S pos er) (hp : pos ≤ S.size) (hn : S.size < pos + 8) (hS : S.size ≤ 140737488355328) :
    Calls Try.prog 74 #[.pointer (some ⟨b, 0, none⟩)] w fun e w' => e = .panicked [fault 20] ∧ (∃ p2, RdAt w' b S p2 er) ∧ Chg (fun k => k = b) w w' := by
  go_enter Try.func74, Try.ntmps74
  go_wp2_with fail
  refine (number_short b S pos 8 er w h hp (by omega) (by omega) hS).mono ?_
  rintro e w1 ⟨rfl, m, rfl⟩
  exact ⟨rfl, rfl, ⟨pos, h.drewN m⟩, Chg.drewN _ _ _⟩

set_option maxRecDepth 100000 in
theorem i64_fault (b : Nat) (S : ByteArray) (pos : Nat) (er : Int) (w : World) (h : RdAt w b S pos er) (her : (er != 0) = true) :
    Calls Try.prog 26 #[.pointer (some ⟨b, 0, none⟩)] w fun e w' => e = .returned (.tuple #[.int .i64 0, .int .i64 er]) ∧ RdAt w' b S pos er ∧ Chg (fun _ => False) w w' := by
  go_enter Try.func26, Try.ntmps26
  go_wp2_with fail
  refine (tryFault_i64 b S pos er _ w h her).mono ?_
  rintro e w1 ⟨rfl, h1, hC⟩
  go_wp2
  refine ⟨rfl, .tuple #[.int .i64 0, .int .i64 er], ?_, rfl, h1, hC⟩
  simp [results, Try.results26, go_sem]
set_option maxRecDepth 100000 in
theorem i64_ok (b : Nat) (S : ByteArray) (pos : Nat) (w : World) (h : RdAt w b S pos 0) (hn : pos + 8 ≤ S.size) (hS : S.size ≤ 140737488355328) :
    Calls Try.prog 26 #[.pointer (some ⟨b, 0, none⟩)] w fun e w' => e = .returned (.tuple #[.int .i64 (wrap64 (beV (bytesOf (S.extract pos (pos + 8))))), .int .i64 0]) ∧ RdAt w' b S (pos + 8) 0 ∧ Chg (fun k => k = b) w w' := by
  go_enter Try.func26, Try.ntmps26
  go_wp2_with fail
  refine (tryOk_i64 b S pos (pos + 8) 74 #[] (wrap64 (beV (bytesOf (S.extract pos (pos + 8))))) w h (fun _ _ => rfl) (fun W h1 _ => one_i64_ok b S pos 0 W h1 hn hS)).mono ?_
  rintro e w1 ⟨rfl, h1, hC⟩
  go_wp2
  refine ⟨rfl, .tuple #[.int .i64 (wrap64 (beV (bytesOf (S.extract pos (pos + 8))))), .int .i64 0], ?_, rfl, h1, hC⟩
  simp [results, Try.results26, go_sem]
set_option maxRecDepth 100000 in
theorem i64_short (b : Nat) (S : ByteArray) (pos : Nat) (w : World) (h : RdAt w b S pos 0) (hp : pos ≤ S.size) (hn : S.size < pos + 8) (hS : S.size ≤ 140737488355328) :
    Calls Try.prog 26 #[.pointer (some ⟨b, 0, none⟩)] w fun e w' => e = .returned (.tuple #[.int .i64 0, .int .i64 20]) ∧ RdAt w' b S pos 20 ∧ Chg (fun k => k = b) w w' := by
  go_enter Try.func26, Try.ntmps26
  go_wp2_with fail
  refine (tryBad_i64 b S pos 20 74 #[] w h (fun _ _ => rfl) (fun W h1 _ => one_i64_short b S pos 0 W h1 hp hn hS)).mono ?_
  rintro e w1 ⟨rfl, h1, hC⟩
  go_wp2
  refine ⟨rfl, .tuple #[.int .i64 0, .int .i64 20], ?_, rfl, h1, hC⟩
  simp [results, Try.results26, go_sem]
end Go.Proofs.Ytclnpedmoelipaa.Rd
