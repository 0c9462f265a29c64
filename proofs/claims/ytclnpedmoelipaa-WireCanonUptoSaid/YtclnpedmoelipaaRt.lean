/- The reader of layer 2: Done. -/
import Derived.Test.YtclnpedmoelipaaRu
namespace Go.Proofs.Ytclnpedmoelipaa.Rd
open Go Go.RowKit Go.Lib Go.Proofs.Ytclnpedmoelipaa.Vm Go.Proofs.Ytclnpedmoelipaa.Wr Go.Proofs.YtclnpedmoelipaaW.PrintWords
set_option linter.unusedVariables false
set_option linter.unusedSimpArgs false
set_option maxRecDepth 100000 in
theorem Done_fault (b : Nat) (S : ByteArray) (pos : Nat) (er : Int) (w : World) (h : RdAt w b S pos er) (her : (er == 0) = false) :
    Calls Try.prog 36 #[.pointer (some ⟨b, 0, none⟩)] w fun e w' => e = .returned (.int .i64 er) ∧ w = w' := by
  go_enter Try.func36, Try.ntmps36
  go_wp2_with fail
  refine (err_calls b S pos er _ h).mono ?_
  rintro e w1 ⟨rfl, rfl⟩
  go_wp2_with fail
  refine (err_calls b S pos er _ h).mono ?_
  rintro e w1 ⟨rfl, rfl⟩
  go_wp2
  go_ret
  exact ⟨rfl, rfl⟩
set_option maxRecDepth 100000 in
theorem Done_ok (b : Nat) (S : ByteArray) (pos : Nat) (w : World) (h : RdAt w b S pos 0) (hp : pos ≤ S.size) (hS : S.size ≤ 140737488355328) :
    Calls Try.prog 36 #[.pointer (some ⟨b, 0, none⟩)] w fun e w' => e = .returned (.int .i64 (if pos < S.size then 22 else 0)) ∧ ∃ m, w' = w.drewN m := by
  go_enter Try.func36, Try.ntmps36
  go_wp2_with fail
  refine (err_calls b S pos 0 _ h).mono ?_
  rintro e w1 ⟨rfl, rfl⟩
  go_wp2_with fail
  refine (left_calls b S pos 0 _ h hp hS).mono ?_
  rintro e w1 ⟨rfl, m, rfl⟩
  by_cases hl : pos < S.size
  · have hd : decide ((0 : Int) < (S.size : Int) - pos) = true := by simp; omega
    go_wp2
    go_ret
    exact ⟨rfl, _, rfl⟩
  · have hd : decide ((0 : Int) < (S.size : Int) - pos) = false := by simp; omega
    go_wp2
    go_ret
    exact ⟨rfl, _, rfl⟩
end Go.Proofs.Ytclnpedmoelipaa.Rd
