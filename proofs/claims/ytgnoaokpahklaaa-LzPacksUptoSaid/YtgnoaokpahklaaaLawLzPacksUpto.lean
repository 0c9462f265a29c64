/- LzPacks, the row of the second form: for all texts that are together of bulk at most 1048576 the call returns true and leaves them as they are. -/
import Derived.Test.YtgnoaokpahklaaaRows
import Derived.Test.YtgnoaokpahklaaaPureLzPacks
import Derived.Test.YtgnoaokpahklaaaOp
import Derived.WalkKit
import Derived.ProofKit
import Derived.OpenShut
import Derived.ShutString
import Derived.ChangeOld
import Derived.Below
import Derived.SizedLaws
import Derived.JoinedCond
namespace Go.Proofs.Ytgnoaokpahklaaa.lzPacksUpto
open Go.ChangeShapes Go.WideShapes Go.ChangeAt Go.RowKit Go.Proofs.YtgnoaokpahklaaaW.PrintWords Go.Proofs.Ytgnoaokpahklaaa.Op Go.Proofs.Ytgnoaokpahklaaa.QB
open Go.ChangeMaps (open_string shut_string)
set_option linter.unusedVariables false
set_option linter.unusedSimpArgs false
theorem op9 : Opens Try.prog Kd.string 9 (fun s => s.size ≤ maxLen) (fun s => s.size + 1) := opens_str Try.underlying9 (by kernel_rfl)
theorem op22 : Opens Try.prog (Kd.slice 9 Kd.string) 22 (fun xs => (∀ x ∈ xs, (fun s => s.size ≤ maxLen) x) ∧ xs.length ≤ maxLen) (fun xs => (xs.map (fun s => s.size + 1)).sum + 1) := opens_slice op9 Try.underlying22 (by kernel_rfl)
theorem own : ownKnob Try.prog.godebug = none := by kernel_rfl
theorem laidOut : laidOutB Try.prog = true := by kernel_rfl
set_option maxRecDepth 100000 in
theorem lifted (os : Os) (started : os.Started) (H : Type) (enc : TypeId × Value → H) (F : Stop.Interp) :
    ReturnsInHanded {} Try.checked os 3 .any ((Rows.OpenSpec.upto Rows.lzPacksSpec).pre6 enc Try.prog Try.f3 Rows.lzPacksUptoRow.domain false) (((Rows.OpenSpec.upto Rows.lzPacksSpec).at F).post enc Try.prog Try.f3 false true false false) := by
  refine returnsInHanded_of_cond (C := Try.checked) (s := Rows.OpenSpec.upto Rows.lzPacksSpec) (k := Rows.uptoSmall) rfl own started (by kernel_rfl) Try.func3
    (OpenSpec.witness (enc := enc) (C := Try.checked) (s := Rows.OpenSpec.upto Rows.lzPacksSpec) (k := Rows.uptoSmall) rfl false ⟨#[], #[.slice none 0 0], []⟩ 8 (by kernel_rfl) (by kernel_rfl) (by kernel_rfl)
      (x := ([.nil], [], [])) (by kernel_rfl) rfl (by kernel_rfl)) ?_
  intro W base args ds gs before hval0 hW hcnd hk0 _
  have hval : ∀ (j : Nat) t v, Try.f3.params[j]? = some t → args[j]? = some v → Value.okWide Try.prog W .any base t v := hval0
  have hW' := hW
  obtain ⟨p, q, hA0, hV, rfl, hfz, hnd⟩ := hW
  have hA : DataW.TrodAll enc Try.prog W 0 (fun _ => true) true Try.f3.params.toList args.toList ds p := hA0
  rw [Try.params3] at hA hval
  obtain ⟨v0, vs0, d0, ds0, p0, q0, hargs, rfl, rfl, h0, r0⟩ := trodAll_cons hA
  obtain ⟨rfl, rfl, rfl⟩ := trodAll_nil r0
  obtain rfl : args = #[v0] := by cases args; simp_all
  obtain ⟨rfl, rfl⟩ := trodVars_none hV
  obtain ⟨a0, len0, cap0, rfl⟩ := okWide_slice Try.underlying22 (hval 0 22 v0 rfl rfl)
  have k0 := h0
  have lt0 : ∀ x ∈ p0, x.block < W.heap.size := by obtain ⟨m, hm⟩ := k0; exact DataW.trod_lt m _ _ _ hm
  obtain ⟨l0, K0, ok0, b0⟩ : ∃ l : (List ByteArray), (Kd.slice 9 Kd.string).K W l [.slice a0 len0 cap0] ∧ (fun xs => (∀ x ∈ xs, (fun s => s.size ≤ maxLen) x) ∧ xs.length ≤ maxLen) l ∧ (fun xs => (xs.map (fun s => s.size + 1)).sum + 1) l ≤ Rows.uptoBulk d0 := by
    obtain ⟨fuel, hf⟩ := h0
    exact op22.open_ (cs := [.slice a0 len0 cap0]) (by simpa [Value.cells] using hf)
  obtain ⟨A0, c0, e0, L0, C0⟩ := K0
  obtain ⟨rfl, rfl, rfl⟩ : a0 = A0 ∧ len0 = l0.length ∧ cap0 = c0 := by simpa using e0
  have hb0 := bound hk0
  simp only [Rows.uptoBulkAll, List.cons_append, List.nil_append, List.append_nil] at hb0
  have hb : (fun xs => (xs.map (fun s => s.size + 1)).sum + 1) l0 ≤ 1048576 := by  omega
  clear hA0 hval0 hk0
  refine (Pure.coreLzPacks a0 cap0 l0 L0 C0 ok0 W rfl hb).mono fun e W' ⟨he, bel⟩ => ?_
  subst he
  exact ⟨_, rfl, _, _, _, [], _, [], hW', trodAll_mk1 (shut_bool Try.underlying4 _), (trodAll_cons_mk (Below.trod laidOut (by kernel_rfl) (of_decide_eq_true (by kernel_rfl)) k0 bel lt0) trodAll_mk0), rfl, bel.frame _, fun h => by cases h⟩
theorem over : Rows.lzPacksUptoRow.holds Try.pinned (Rows.OpenSpec.upto Rows.lzPacksSpec) :=
  OpenClaim.holds_of_cond 3 Try.f3 rfl rfl rfl rfl rfl rfl rfl ⟨rfl, rfl, rfl, rfl, rfl⟩ rfl rfl rfl rfl rfl (by kernel_rfl) Try.func3 (by kernel_rfl)
    (of_decide_eq_true (by kernel_rfl)) (by unfold Func.isWrapper; first | (rw [if_pos (by decide +kernel)]; kernel_rfl) | (rw [if_neg (by decide +kernel)]; exact ⟨rfl, rfl⟩))
    (fun os started H enc _ F => lifted os started H enc F)
theorem proved : Rows.LzPacksUptoSaid := over
end Go.Proofs.Ytgnoaokpahklaaa.lzPacksUpto
namespace Go.Proofs.Ytgnoaokpahklaaa
/-- The row, under a short name, for the claim. -/
theorem lzPacksUpto_holds : Rows.LzPacksUptoSaid := lzPacksUpto.proved
end Go.Proofs.Ytgnoaokpahklaaa
