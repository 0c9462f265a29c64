/- LzTells, the row of the second form: for all arguments that are together of bulk at most 1048576 the call returns true and leaves them as they are. -/
import Derived.Test.YtgnoaokpahklaaaRows
import Derived.Test.YtgnoaokpahklaaaPureLzTells
import Derived.Test.YtgnoaokpahklaaaOp
import Derived.WalkKit
import Derived.ProofKit
import Derived.OpenShut
import Derived.ShutString
import Derived.ChangeOld
import Derived.Below
import Derived.SizedLaws
import Derived.JoinedCond
namespace Go.Proofs.Ytgnoaokpahklaaa.lzTellsUpto
open Go.ChangeShapes Go.WideShapes Go.ChangeAt Go.RowKit Go.Proofs.YtgnoaokpahklaaaW.PrintWords Go.Proofs.Ytgnoaokpahklaaa.Op Go.Proofs.Ytgnoaokpahklaaa.QB
open Go.ChangeMaps (open_string shut_string)
set_option linter.unusedVariables false
set_option linter.unusedSimpArgs false
theorem op9 : Opens Try.prog Kd.string 9 (fun s => s.size ≤ maxLen) (fun s => s.size + 1) := opens_str Try.underlying9 (by kernel_rfl)
theorem own : ownKnob Try.prog.godebug = none := by kernel_rfl
theorem laidOut : laidOutB Try.prog = true := by kernel_rfl
set_option maxRecDepth 100000 in
theorem lifted (os : Os) (started : os.Started) (H : Type) (enc : TypeId × Value → H) (F : Stop.Interp) :
    ReturnsInHanded {} Try.checked os 9 .any ((Rows.OpenSpec.upto Rows.lzTellsSpec).pre6 enc Try.prog Try.f9 Rows.lzTellsUptoRow.domain false) (((Rows.OpenSpec.upto Rows.lzTellsSpec).at F).post enc Try.prog Try.f9 false true false false) := by
  refine returnsInHanded_of_cond (C := Try.checked) (s := Rows.OpenSpec.upto Rows.lzTellsSpec) (k := Rows.uptoSmall) rfl own started (by kernel_rfl) Try.func9
    (OpenSpec.witness (enc := enc) (C := Try.checked) (s := Rows.OpenSpec.upto Rows.lzTellsSpec) (k := Rows.uptoSmall) rfl false ⟨#[], #[.string ByteArray.empty], []⟩ 8 (by kernel_rfl) (by kernel_rfl) (by kernel_rfl)
      (x := ([.lit (.string [])], [], [])) (by kernel_rfl) rfl (by kernel_rfl)) ?_
  intro W base args ds gs before hval0 hW hcnd hk0 _
  have hval : ∀ (j : Nat) t v, Try.f9.params[j]? = some t → args[j]? = some v → Value.okWide Try.prog W .any base t v := hval0
  have hW' := hW
  obtain ⟨p, q, hA0, hV, rfl, hfz, hnd⟩ := hW
  have hA : DataW.TrodAll enc Try.prog W 0 (fun _ => true) true Try.f9.params.toList args.toList ds p := hA0
  rw [Try.params9] at hA hval
  obtain ⟨v0, vs0, d0, ds0, p0, q0, hargs, rfl, rfl, h0, r0⟩ := trodAll_cons hA
  obtain ⟨rfl, rfl, rfl⟩ := trodAll_nil r0
  obtain rfl : args = #[v0] := by cases args; simp_all
  obtain ⟨rfl, rfl⟩ := trodVars_none hV
  obtain ⟨a0, rfl, rfl, rfl, w0⟩ := open_string Try.underlying9 (hval 0 9 v0 rfl rfl) h0
  have b0 : a0.size + 1 ≤ Rows.uptoBulk (DataW.lit (H := H) (.string a0.data.toList)) := by simp only [Rows.uptoBulk]; have e : a0.data.toList.length = a0.size := by { rw [Array.length_toList]; rfl }; omega
  have hb0 := bound hk0
  simp only [Rows.uptoBulkAll, List.cons_append, List.nil_append, List.append_nil] at hb0
  have hb : (a0.size + 1) ≤ 1048576 := by  omega
  clear hA0 hval0 hk0
  refine (Pure.coreLzTells a0 w0 W rfl hb).mono fun e W' ⟨he, bel⟩ => ?_
  subst he
  exact ⟨_, rfl, _, _, _, [], _, [], hW', trodAll_mk1 (shut_bool Try.underlying4 _), (trodAll_cons_mk (shut_string Try.underlying9 w0) trodAll_mk0), rfl, bel.frame _, fun h => by cases h⟩
theorem over : Rows.lzTellsUptoRow.holds Try.pinned (Rows.OpenSpec.upto Rows.lzTellsSpec) :=
  OpenClaim.holds_of_cond 9 Try.f9 rfl rfl rfl rfl rfl rfl rfl ⟨rfl, rfl, rfl, rfl, rfl⟩ rfl rfl rfl rfl rfl (by kernel_rfl) Try.func9 (by kernel_rfl)
    (of_decide_eq_true (by kernel_rfl)) (by unfold Func.isWrapper; first | (rw [if_pos (by decide +kernel)]; kernel_rfl) | (rw [if_neg (by decide +kernel)]; exact ⟨rfl, rfl⟩))
    (fun os started H enc _ F => lifted os started H enc F)
theorem proved : Rows.LzTellsUptoSaid := over
end Go.Proofs.Ytgnoaokpahklaaa.lzTellsUpto
namespace Go.Proofs.Ytgnoaokpahklaaa
/-- The row, under a short name, for the claim. -/
theorem lzTellsUpto_holds : Rows.LzTellsUptoSaid := lzTellsUpto.proved
end Go.Proofs.Ytgnoaokpahklaaa
