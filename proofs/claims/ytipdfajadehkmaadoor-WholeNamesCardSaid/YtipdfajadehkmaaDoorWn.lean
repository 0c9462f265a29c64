/- Itoa of a number from 0 to 99: the hand walk (it takes its letters out of one of two tables). -/
import Derived.Test.YtipdfajadehkmaaDoorProg
import Derived.WalkKit
import Derived.Below
import Derived.Lib.Hide
import Derived.Laws.Rows
import Derived.WalkLawsBesides
import Derived.WalkSpells
import Derived.RegionTactic
import Derived.IntWalk
namespace Go.Proofs.YtipdfajadehkmaaDoor.Wn
open Go Go.RowKit Go.Lib
set_option linter.unusedVariables false
set_option linter.unusedSimpArgs false

def one : ByteArray := ⟨#[48, 49, 50, 51, 52, 53, 54, 55, 56, 57, 97, 98, 99, 100, 101, 102, 103, 104, 105, 106, 107, 108, 109, 110, 111, 112, 113, 114, 115, 116, 117, 118, 119, 120, 121, 122]⟩
def two : ByteArray := ⟨#[48, 48, 48, 49, 48, 50, 48, 51, 48, 52, 48, 53, 48, 54, 48, 55, 48, 56, 48, 57, 49, 48, 49, 49, 49, 50, 49, 51, 49, 52, 49, 53, 49, 54, 49, 55, 49, 56, 49, 57, 50, 48, 50, 49, 50, 50, 50, 51, 50, 52, 50, 53, 50, 54, 50, 55, 50, 56, 50, 57, 51, 48, 51, 49, 51, 50, 51, 51, 51, 52, 51, 53, 51, 54, 51, 55, 51, 56, 51, 57, 52, 48, 52, 49, 52, 50, 52, 51, 52, 52, 52, 53, 52, 54, 52, 55, 52, 56, 52, 57, 53, 48, 53, 49, 53, 50, 53, 51, 53, 52, 53, 53, 53, 54, 53, 55, 53, 56, 53, 57, 54, 48, 54, 49, 54, 50, 54, 51, 54, 52, 54, 53, 54, 54, 54, 55, 54, 56, 54, 57, 55, 48, 55, 49, 55, 50, 55, 51, 55, 52, 55, 53, 55, 54, 55, 55, 55, 56, 55, 57, 56, 48, 56, 49, 56, 50, 56, 51, 56, 52, 56, 53, 56, 54, 56, 55, 56, 56, 56, 57, 57, 48, 57, 49, 57, 50, 57, 51, 57, 52, 57, 53, 57, 54, 57, 55, 57, 56, 57, 57]⟩
def dec (i : Int) : ByteArray := if i < 10 then one.extract i.toNat (i + 1).toNat else two.extract (i * 2).toNat (i * 2 + 2).toNat
set_option maxRecDepth 100000 in
theorem small_lo (i : Int) (h0 : 0 ≤ i) (h1 : i < 10) (w : World) : Calls Tryd.prog 8 #[.int .i64 i] w fun e w' => e = .returned (.string (dec i)) ∧ w' = w := by
  have e1 : IntKind.i64.wrap (i + 1) = i + 1 := IntWalk.i64_in _ (by omega)
  go_enter Tryd.func8, Tryd.ntmps8
  go_wp2
  go_ret
  exact ⟨by unfold dec; rw [if_pos h1]; rfl, rfl⟩
set_option maxRecDepth 100000 in
theorem small_hi (i : Int) (h0 : 10 ≤ i) (h1 : i < 100) (w : World) : Calls Tryd.prog 8 #[.int .i64 i] w fun e w' => e = .returned (.string (dec i)) ∧ w' = w := by
  have e1 : IntKind.i64.wrap (i * 2) = i * 2 := IntWalk.i64_in _ (by omega)
  have e2 : IntKind.i64.wrap (i * 2 + 2) = i * 2 + 2 := IntWalk.i64_in _ (by omega)
  go_enter Tryd.func8, Tryd.ntmps8
  go_wp2
  go_ret
  exact ⟨by unfold dec; rw [if_neg (by omega)]; rfl, rfl⟩
theorem small_calls (i : Int) (h0 : 0 ≤ i) (h1 : i < 100) (w : World) : Calls Tryd.prog 8 #[.int .i64 i] w fun e w' => e = .returned (.string (dec i)) ∧ w' = w := by
  by_cases h : i < 10
  · exact small_lo i h0 h w
  · exact small_hi i (by omega) h1 w
set_option maxRecDepth 100000 in
theorem format_calls (i : Int) (h0 : 0 ≤ i) (h1 : i < 100) (w : World) : Calls Tryd.prog 7 #[.int .i64 i, .int .i64 10] w fun e w' => e = .returned (.string (dec i)) ∧ w' = w := by
  go_enter Tryd.func7, Tryd.ntmps7
  go_wp2_with ((go_at_call 8; refine (small_calls i h0 h1 _).mono ?_; rintro e w1 ⟨rfl, rfl⟩))
  go_ret
  exact ⟨rfl, rfl⟩
set_option maxRecDepth 100000 in
theorem itoa_calls (i : Int) (h0 : 0 ≤ i) (h1 : i < 100) (w : World) : Calls Tryd.prog 6 #[.int .i64 i] w fun e w' => e = .returned (.string (dec i)) ∧ w' = w := by
  go_enter Tryd.func6, Tryd.ntmps6
  go_wp2_with ((go_at_call 7; refine (format_calls i h0 h1 _).mono ?_; rintro e w1 ⟨rfl, rfl⟩))
  go_ret
  exact ⟨rfl, rfl⟩
end Go.Proofs.YtipdfajadehkmaaDoor.Wn
