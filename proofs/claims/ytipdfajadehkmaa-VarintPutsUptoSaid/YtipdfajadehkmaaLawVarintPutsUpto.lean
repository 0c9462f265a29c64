/- What is proved: of every list of numbers whose bytes fit a machine, each Put, PutSigned, Size and Zigzag answers as the document says (VarintPuts, in its bounded form: up to each size that a machine can have). -/
import Derived.Test.YtipdfajadehkmaaRows
import Derived.Test.YtipdfajadehkmaaPureVarintPuts
import Derived.Test.YtipdfajadehkmaaOp
import Derived.WalkKit
import Derived.ProofKit
import Derived.OpenShut
import Derived.ShutString
import Derived.ChangeOld
import Derived.Below
import Derived.SizedLaws
import Derived.JoinedCond
namespace Go.Proofs.Ytipdfajadehkmaa.varintPutsUpto
open Go.ChangeShapes Go.WideShapes Go.ChangeAt Go.RowKit Go.Proofs.YtipdfajadehkmaaW.PrintWords Go.Proofs.Ytipdfajadehkmaa.Op
open Go.ChangeMaps (open_string shut_string)
set_option linter.unusedVariables false
set_option linter.unusedSimpArgs false
theorem op26 : Opens Try.prog (Kd.int .u64) 26 (fun x => (Lit.int .u64 x).wf = true) (fun _ => 1) := opens_int Try.underlying26 (by kernel_rfl)
theorem op31 : Opens Try.prog (Kd.slice 26 (Kd.int .u64)) 31 (fun xs => (∀ x ∈ xs, (fun x => (Lit.int .u64 x).wf = true) x) ∧ xs.length ≤ maxLen) (fun xs => (xs.map (fun _ => 1)).sum + 1) := opens_slice op26 Try.underlying31 (by kernel_rfl)
theorem op2 : Opens Try.prog (Kd.int .i64) 2 (fun x => (Lit.int .i64 x).wf = true) (fun _ => 1) := opens_int Try.underlying2 (by kernel_rfl)
theorem op38 : Opens Try.prog (Kd.slice 2 (Kd.int .i64)) 38 (fun xs => (∀ x ∈ xs, (fun x => (Lit.int .i64 x).wf = true) x) ∧ xs.length ≤ maxLen) (fun xs => (xs.map (fun _ => 1)).sum + 1) := opens_slice op2 Try.underlying38 (by kernel_rfl)
theorem own : ownKnob Try.prog.godebug = none := by kernel_rfl
theorem laidOut : laidOutB Try.prog = true := by kernel_rfl
set_option maxRecDepth 100000 in
theorem lifted (os : Os) (started : os.Started) (H : Type) (enc : TypeId × Value → H) (F : Stop.Interp) :
    ReturnsInHanded {} Try.checked os 9 .any ((Rows.OpenSpec.upto Rows.varintPutsSpec).pre6 enc Try.prog Try.f9 Rows.varintPutsUptoRow.domain false) (((Rows.OpenSpec.upto Rows.varintPutsSpec).at F).post enc Try.prog Try.f9 false true false false) := by
  refine returnsInHanded_of_cond (C := Try.checked) (s := Rows.OpenSpec.upto Rows.varintPutsSpec) (k := Rows.uptoSmall) rfl own started (by kernel_rfl) Try.func9
    (OpenSpec.witness (enc := enc) (C := Try.checked) (s := Rows.OpenSpec.upto Rows.varintPutsSpec) (k := Rows.uptoSmall) rfl false ⟨#[], #[.slice none 0 0, .slice none 0 0], []⟩ 8 (by kernel_rfl) (by kernel_rfl) (by kernel_rfl)
      (x := ([.nil, .nil], [], [])) (by kernel_rfl) rfl (by kernel_rfl)) ?_
  intro W base args ds gs before hval0 hW hcnd hk0 _
  have hval : ∀ (j : Nat) t v, Try.f9.params[j]? = some t → args[j]? = some v → Value.okWide Try.prog W .any base t v := hval0
  have hW' := hW
  obtain ⟨p, q, hA0, hV, rfl, hfz, hnd⟩ := hW
  have hA : DataW.TrodAll enc Try.prog W 0 (fun _ => true) true Try.f9.params.toList args.toList ds p := hA0
  rw [Try.params9] at hA hval
  obtain ⟨v0, vs0, d0, ds0, p0, q0, hargs, rfl, rfl, h0, r0⟩ := trodAll_cons hA
  obtain ⟨v1, vs1, d1, ds1, p1, q1, rfl, rfl, rfl, h1, r1⟩ := trodAll_cons r0
  obtain ⟨rfl, rfl, rfl⟩ := trodAll_nil r1
  obtain rfl : args = #[v0, v1] := by cases args; simp_all
  obtain ⟨rfl, rfl⟩ := trodVars_none hV
  obtain ⟨a0, len0, cap0, rfl⟩ := okWide_slice Try.underlying31 (hval 0 31 v0 rfl rfl)
  have k0 := h0
  have lt0 : ∀ x ∈ p0, x.block < W.heap.size := by obtain ⟨m, hm⟩ := k0; exact DataW.trod_lt m _ _ _ hm
  obtain ⟨l0, K0, ok0, b0⟩ : ∃ l : (List Int), (Kd.slice 26 (Kd.int .u64)).K W l [.slice a0 len0 cap0] ∧ (fun xs => (∀ x ∈ xs, (fun x => (Lit.int .u64 x).wf = true) x) ∧ xs.length ≤ maxLen) l ∧ (fun xs => (xs.map (fun _ => 1)).sum + 1) l ≤ Rows.uptoBulk d0 := by
    obtain ⟨fuel, hf⟩ := h0
    exact op31.open_ (cs := [.slice a0 len0 cap0]) (by simpa [Value.cells] using hf)
  obtain ⟨A0, c0, e0, L0, C0⟩ := K0
  obtain ⟨rfl, rfl, rfl⟩ : a0 = A0 ∧ len0 = l0.length ∧ cap0 = c0 := by simpa using e0
  obtain ⟨a1, len1, cap1, rfl⟩ := okWide_slice Try.underlying38 (hval 1 38 v1 rfl rfl)
  have k1 := h1
  have lt1 : ∀ x ∈ p1, x.block < W.heap.size := by obtain ⟨m, hm⟩ := k1; exact DataW.trod_lt m _ _ _ hm
  obtain ⟨l1, K1, ok1, b1⟩ : ∃ l : (List Int), (Kd.slice 2 (Kd.int .i64)).K W l [.slice a1 len1 cap1] ∧ (fun xs => (∀ x ∈ xs, (fun x => (Lit.int .i64 x).wf = true) x) ∧ xs.length ≤ maxLen) l ∧ (fun xs => (xs.map (fun _ => 1)).sum + 1) l ≤ Rows.uptoBulk d1 := by
    obtain ⟨fuel, hf⟩ := h1
    exact op38.open_ (cs := [.slice a1 len1 cap1]) (by simpa [Value.cells] using hf)
  obtain ⟨A1, c1, e1, L1, C1⟩ := K1
  obtain ⟨rfl, rfl, rfl⟩ : a1 = A1 ∧ len1 = l1.length ∧ cap1 = c1 := by simpa using e1
  have hb0 := bound hk0
  simp only [Rows.uptoBulkAll, List.cons_append, List.nil_append, List.append_nil] at hb0
  have hb : (fun xs => (xs.map (fun _ => 1)).sum + 1) l0 + (fun xs => (xs.map (fun _ => 1)).sum + 1) l1 ≤ 1048576 := by  omega
  clear hA0 hval0 hk0
  refine (Pure.core a0 cap0 l0 L0 C0 ok0 a1 cap1 l1 L1 C1 ok1 W rfl hb).mono fun e W' ⟨he, bel⟩ => ?_
  subst he
  exact ⟨_, rfl, _, _, _, [], _, [], hW', trodAll_mk1 (shut_bool Try.underlying4 _), (trodAll_cons_mk (Below.trod laidOut (by kernel_rfl) (of_decide_eq_true (by kernel_rfl)) k0 bel lt0) (trodAll_cons_mk (Below.trod laidOut (by kernel_rfl) (of_decide_eq_true (by kernel_rfl)) k1 bel lt1) trodAll_mk0)), rfl, bel.frame _, fun h => by cases h⟩
theorem over : Rows.varintPutsUptoRow.holds Try.pinned (Rows.OpenSpec.upto Rows.varintPutsSpec) :=
  OpenClaim.holds_of_cond 9 Try.f9 rfl rfl rfl rfl rfl rfl rfl ⟨rfl, rfl, rfl, rfl, rfl⟩ rfl rfl rfl rfl rfl (by kernel_rfl) Try.func9 (by kernel_rfl)
    (of_decide_eq_true (by kernel_rfl)) (by unfold Func.isWrapper; first | (rw [if_pos (by decide +kernel)]; kernel_rfl) | (rw [if_neg (by decide +kernel)]; exact ⟨rfl, rfl⟩))
    (fun os started H enc _ F => lifted os started H enc F)
theorem proved : Rows.VarintPutsUptoSaid := over
end Go.Proofs.Ytipdfajadehkmaa.varintPutsUpto
namespace Go.Proofs.Ytipdfajadehkmaa
/-- The row, under a short name, for the claim. -/
theorem varintPutsUpto_holds : Rows.VarintPutsUptoSaid := varintPutsUpto.proved
end Go.Proofs.Ytipdfajadehkmaa
