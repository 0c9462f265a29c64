/- LzTokens, the row of the second form: for all arguments that are together of bulk at most 1048576 the call returns true and leaves them as they are. -/
import Derived.Test.YtgnoaokpahklaaaRows
import Derived.Test.YtgnoaokpahklaaaPureLzTokens
import Derived.Test.YtgnoaokpahklaaaOp
import Derived.WalkKit
import Derived.ProofKit
import Derived.OpenShut
import Derived.ShutString
import Derived.ChangeOld
import Derived.Below
import Derived.SizedLaws
import Derived.JoinedCond
namespace Go.Proofs.Ytgnoaokpahklaaa.lzTokensUpto
open Go.ChangeShapes Go.WideShapes Go.ChangeAt Go.RowKit Go.Proofs.YtgnoaokpahklaaaW.PrintWords Go.Proofs.Ytgnoaokpahklaaa.Op Go.Proofs.Ytgnoaokpahklaaa.QB
open Go.ChangeMaps (open_string shut_string)
set_option linter.unusedVariables false
set_option linter.unusedSimpArgs false
theorem op9 : Opens Try.prog Kd.string 9 (fun s => s.size ≤ maxLen) (fun s => s.size + 1) := opens_str Try.underlying9 (by kernel_rfl)
theorem op3 : Opens Try.prog (Kd.int .i64) 3 (fun x => (Lit.int .i64 x).wf = true) (fun _ => 1) := opens_int Try.underlying3 (by kernel_rfl)
theorem op49 : Opens Try.prog k49 49 (fun x : S49 => ((fun s => s.size ≤ maxLen) x.f0 ∧ ((fun x => (Lit.int .i64 x).wf = true) x.f1 ∧ (fun x => (Lit.int .i64 x).wf = true) x.f2))) (fun x : S49 => ((fun s => s.size + 1) x.f0 + ((fun _ => 1) x.f1 + ((fun _ => 1) x.f2))) + 1) := by
  have h := opens_iso (opens_struct (opensF_cons op9 rfl (opensF_cons op3 rfl (opensF_one op3 rfl))) Try.underlying49 (by kernel_rfl)) (fun x : S49 => (x.f0, x.f1, x.f2)) (fun y => ⟨y.1, y.2.1, y.2.2⟩) (fun _ => rfl)
  exact opens_mono h (fun _ h => h) (fun _ => Nat.le_refl _)
theorem op40 : Opens Try.prog (Kd.slice 49 k49) 40 (fun xs => (∀ x ∈ xs, (fun x : S49 => ((fun s => s.size ≤ maxLen) x.f0 ∧ ((fun x => (Lit.int .i64 x).wf = true) x.f1 ∧ (fun x => (Lit.int .i64 x).wf = true) x.f2))) x) ∧ xs.length ≤ maxLen) (fun xs => (xs.map (fun x : S49 => ((fun s => s.size + 1) x.f0 + ((fun _ => 1) x.f1 + ((fun _ => 1) x.f2))) + 1)).sum + 1) := opens_slice op49 Try.underlying40 (by kernel_rfl)
theorem own : ownKnob Try.prog.godebug = none := by kernel_rfl
theorem laidOut : laidOutB Try.prog = true := by kernel_rfl
set_option maxRecDepth 100000 in
theorem lifted (os : Os) (started : os.Started) (H : Type) (enc : TypeId × Value → H) (F : Stop.Interp) :
    ReturnsInHanded {} Try.checked os 8 .any ((Rows.OpenSpec.upto Rows.lzTokensSpec).pre6 enc Try.prog Try.f8 Rows.lzTokensUptoRow.domain false) (((Rows.OpenSpec.upto Rows.lzTokensSpec).at F).post enc Try.prog Try.f8 false true false false) := by
  refine returnsInHanded_of_cond (C := Try.checked) (s := Rows.OpenSpec.upto Rows.lzTokensSpec) (k := Rows.uptoSmall) rfl own started (by kernel_rfl) Try.func8
    (OpenSpec.witness (enc := enc) (C := Try.checked) (s := Rows.OpenSpec.upto Rows.lzTokensSpec) (k := Rows.uptoSmall) rfl false ⟨#[], #[.string ByteArray.empty, .slice none 0 0], []⟩ 8 (by kernel_rfl) (by kernel_rfl) (by kernel_rfl)
      (x := ([.lit (.string []), .nil], [], [])) (by kernel_rfl) rfl (by kernel_rfl)) ?_
  intro W base args ds gs before hval0 hW hcnd hk0 _
  have hval : ∀ (j : Nat) t v, Try.f8.params[j]? = some t → args[j]? = some v → Value.okWide Try.prog W .any base t v := hval0
  have hW' := hW
  obtain ⟨p, q, hA0, hV, rfl, hfz, hnd⟩ := hW
  have hA : DataW.TrodAll enc Try.prog W 0 (fun _ => true) true Try.f8.params.toList args.toList ds p := hA0
  rw [Try.params8] at hA hval
  obtain ⟨v0, vs0, d0, ds0, p0, q0, hargs, rfl, rfl, h0, r0⟩ := trodAll_cons hA
  obtain ⟨v1, vs1, d1, ds1, p1, q1, rfl, rfl, rfl, h1, r1⟩ := trodAll_cons r0
  obtain ⟨rfl, rfl, rfl⟩ := trodAll_nil r1
  obtain rfl : args = #[v0, v1] := by cases args; simp_all
  obtain ⟨rfl, rfl⟩ := trodVars_none hV
  obtain ⟨a0, rfl, rfl, rfl, w0⟩ := open_string Try.underlying9 (hval 0 9 v0 rfl rfl) h0
  have b0 : a0.size + 1 ≤ Rows.uptoBulk (DataW.lit (H := H) (.string a0.data.toList)) := by simp only [Rows.uptoBulk]; have e : a0.data.toList.length = a0.size := by { rw [Array.length_toList]; rfl }; omega
  obtain ⟨a1, len1, cap1, rfl⟩ := okWide_slice Try.underlying40 (hval 1 40 v1 rfl rfl)
  have k1 := h1
  have lt1 : ∀ x ∈ p1, x.block < W.heap.size := by obtain ⟨m, hm⟩ := k1; exact DataW.trod_lt m _ _ _ hm
  obtain ⟨l1, K1, ok1, b1⟩ : ∃ l : (List S49), (Kd.slice 49 k49).K W l [.slice a1 len1 cap1] ∧ (fun xs => (∀ x ∈ xs, (fun x : S49 => ((fun s => s.size ≤ maxLen) x.f0 ∧ ((fun x => (Lit.int .i64 x).wf = true) x.f1 ∧ (fun x => (Lit.int .i64 x).wf = true) x.f2))) x) ∧ xs.length ≤ maxLen) l ∧ (fun xs => (xs.map (fun x : S49 => ((fun s => s.size + 1) x.f0 + ((fun _ => 1) x.f1 + ((fun _ => 1) x.f2))) + 1)).sum + 1) l ≤ Rows.uptoBulk d1 := by
    obtain ⟨fuel, hf⟩ := h1
    exact op40.open_ (cs := [.slice a1 len1 cap1]) (by simpa [Value.cells] using hf)
  obtain ⟨A1, c1, e1, L1, C1⟩ := K1
  obtain ⟨rfl, rfl, rfl⟩ : a1 = A1 ∧ len1 = l1.length ∧ cap1 = c1 := by simpa using e1
  have hb0 := bound hk0
  simp only [Rows.uptoBulkAll, List.cons_append, List.nil_append, List.append_nil] at hb0
  have hb : (a0.size + 1) + (fun xs => (xs.map (fun x : S49 => ((fun s => s.size + 1) x.f0 + ((fun _ => 1) x.f1 + ((fun _ => 1) x.f2))) + 1)).sum + 1) l1 ≤ 1048576 := by  omega
  clear hA0 hval0 hk0
  refine (Pure.coreLzTokens a0 w0 a1 cap1 l1 L1 C1 ok1 W rfl hb).mono fun e W' ⟨he, bel⟩ => ?_
  subst he
  exact ⟨_, rfl, _, _, _, [], _, [], hW', trodAll_mk1 (shut_bool Try.underlying4 _), (trodAll_cons_mk (shut_string Try.underlying9 w0) (trodAll_cons_mk (Below.trod laidOut (by kernel_rfl) (of_decide_eq_true (by kernel_rfl)) k1 bel lt1) trodAll_mk0)), rfl, bel.frame _, fun h => by cases h⟩
theorem over : Rows.lzTokensUptoRow.holds Try.pinned (Rows.OpenSpec.upto Rows.lzTokensSpec) :=
  OpenClaim.holds_of_cond 8 Try.f8 rfl rfl rfl rfl rfl rfl rfl ⟨rfl, rfl, rfl, rfl, rfl⟩ rfl rfl rfl rfl rfl (by kernel_rfl) Try.func8 (by kernel_rfl)
    (of_decide_eq_true (by kernel_rfl)) (by unfold Func.isWrapper; first | (rw [if_pos (by decide +kernel)]; kernel_rfl) | (rw [if_neg (by decide +kernel)]; exact ⟨rfl, rfl⟩))
    (fun os started H enc _ F => lifted os started H enc F)
theorem proved : Rows.LzTokensUptoSaid := over
end Go.Proofs.Ytgnoaokpahklaaa.lzTokensUpto
namespace Go.Proofs.Ytgnoaokpahklaaa
/-- The row, under a short name, for the claim. -/
theorem lzTokensUpto_holds : Rows.LzTokensUptoSaid := lzTokensUpto.proved
end Go.Proofs.Ytgnoaokpahklaaa
