/- VarintKinds: for every number without a sign and every number with one: a number has one form, of whatever kind it is. No condition. -/
import Derived.Test.YtipdfajadehkmaaVlVarintKinds
namespace Go.Proofs.Ytipdfajadehkmaa.Pure
open Go.RowKit Go.Proofs.Ytipdfajadehkmaa.QVarintKinds Go.Proofs.YtipdfajadehkmaaW.PrintWords Go.Proofs.YtipdfajadehkmaaW.PrintLast Go.Proofs.YtipdfajadehkmaaW.PrintMore Go.Proofs.Ytipdfajadehkmaa.Vm Go.Proofs.Ytipdfajadehkmaa.VlVarintKinds

theorem one_u {x : Int} (h0 : 0 ≤ x) (h1 : x ≤ 18446744073709551615) : ∀ y ∈ [x], 0 ≤ y ∧ y ≤ 18446744073709551615 := by intro y hy; simp at hy; omega
theorem one_i {x : Int} (h0 : -9223372036854775808 ≤ x) (h1 : x ≤ 9223372036854775807) : ∀ y ∈ [x], -9223372036854775808 ≤ y ∧ y ≤ 9223372036854775807 := by intro y hy; simp at hy; omega
theorem short1 (x : Int) : 10 * [x].length ≤ 140737488355328 := by simp
theorem VarintKinds : gantrylaw01_VarintKinds.Pure := by
  intro u v hu hv
  obtain ⟨hu0, hu1⟩ := bounds_u64 hu
  obtain ⟨hv0, hv1⟩ := bounds_i64 hv
  refine Ev.rounds (g := fun k => gantrylaw01_VarintKinds.f k u v) ?_
  unfold gantrylaw01_VarintKinds.f
  have t1 : Int.tmod u 256 = u % 256 := Int.tmod_eq_emod_of_nonneg hu0
  have t2 : Int.tmod u 65536 = u % 65536 := Int.tmod_eq_emod_of_nonneg hu0
  have t3 : Int.tmod u 4294967296 = u % 4294967296 := Int.tmod_eq_emod_of_nonneg hu0
  rw [t1, t2, t3, wrap_u16']
  refine Ev.bind fixed_ev ?_
  simp only [if_true]
  refine Ev.bind (varint_Put_uint8_ev [u % 256] (one_u (by omega) (by omega)) (short1 _)) ?_
  refine Ev.bind (varint_Put_uint64_ev [u % 256] (one_u (by omega) (by omega)) (short1 _)) ?_
  simp only [if_true]
  refine Ev.bind (varint_Put_uint16_ev [u % 65536] (one_u (by omega) (by omega)) (short1 _)) ?_
  refine Ev.bind (varint_Put_uint64_ev [u % 65536] (one_u (by omega) (by omega)) (short1 _)) ?_
  simp only [if_true]
  refine Ev.bind (gantrylaw01_Id_31_ev [u % 4294967296] (one_u (by omega) (by omega)) (short1 _)) ?_
  refine Ev.bind (varint_Put_uint64_ev [u % 4294967296] (one_u (by omega) (by omega)) (short1 _)) ?_
  simp only [if_true]
  refine Ev.bind (varint_Put_uint_ev [u] (one_u (by omega) (by omega)) (short1 _)) ?_
  refine Ev.bind (varint_Put_uint64_ev [u] (one_u (by omega) (by omega)) (short1 _)) ?_
  simp only [if_true]
  have m0 : 0 ≤ u % 4294967296 := by omega
  have m1 : u % 4294967296 < 4294967296 := by omega
  obtain ⟨M, hM⟩ := Int.eq_ofNat_of_zero_le m0
  rw [hM]
  refine Ev.bind (gantrylaw01_Id_33_ev (v := M) (by omega)) ?_
  refine Ev.bind (varint_Size_uint64_ev (v := M) (by omega)) ?_
  simp only [bne_self_eq_false]
  refine Ev.step (f := fun k => _) (fun k => by rw [gantrylaw01_VarintKinds.j0, if_neg (by simp)]) ?_
  have w8 : -128 ≤ IntKind.i8.wrap v ∧ IntKind.i8.wrap v ≤ 127 := by rw [wrap_i8']; omega
  have w16 : -32768 ≤ IntKind.i16.wrap v ∧ IntKind.i16.wrap v ≤ 32767 := by rw [wrap_i16']; omega
  have w32 : -2147483648 ≤ wrap32 v ∧ wrap32 v ≤ 2147483647 := by rw [wrap_i32']; omega
  generalize IntKind.i8.wrap v = a at *
  generalize IntKind.i16.wrap v = b at *
  generalize wrap32 v = c at *
  have ea : wrap64 a = a := by unfold wrap64; omega
  have eb : wrap64 b = b := by unfold wrap64; omega
  have ec : wrap64 c = c := by unfold wrap64; omega
  rw [ea, eb, ec]
  refine Ev.bind (gantrylaw01_Small_34_ev [a] (one_i (by omega) (by omega)) (short1 _)) ?_
  refine Ev.bind (varint_PutSigned_int64_ev [a] (one_i (by omega) (by omega)) (short1 _)) ?_
  simp only [if_true]
  refine Ev.bind (varint_PutSigned_int16_ev [b] (one_i (by omega) (by omega)) (short1 _)) ?_
  refine Ev.bind (varint_PutSigned_int64_ev [b] (one_i (by omega) (by omega)) (short1 _)) ?_
  simp only [if_true]
  refine Ev.bind (varint_PutSigned_int32_ev [c] (one_i (by omega) (by omega)) (short1 _)) ?_
  refine Ev.bind (varint_PutSigned_int64_ev [c] (one_i (by omega) (by omega)) (short1 _)) ?_
  simp only [if_true]
  refine Ev.bind (varint_PutSigned_int_ev [v] (one_i (by omega) (by omega)) (short1 _)) ?_
  refine Ev.bind (varint_PutSigned_int64_ev [v] (one_i (by omega) (by omega)) (short1 _)) ?_
  simp only [if_true]
  refine Ev.bind (gantrylaw01_Small_38_ev (v := a) (by omega) (by omega)) ?_
  refine Ev.bind (varint_SizeSigned_int64_ev (v := a) (by omega) (by omega)) ?_
  simp only [beq_self_eq_true]
  exact Ev.now _
end Go.Proofs.Ytipdfajadehkmaa.Pure
