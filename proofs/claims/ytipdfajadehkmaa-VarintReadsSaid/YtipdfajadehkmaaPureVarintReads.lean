/- VarintReads: every text of any list, read as every kind of number, is read as the document's reference reads it. Condition: the list is one that can be read. -/
import Derived.Test.YtipdfajadehkmaaVlVarintReads
namespace Go.Proofs.Ytipdfajadehkmaa.Pure
open Go.RowKit Go.Proofs.Ytipdfajadehkmaa.QVarintReads Go.Proofs.YtipdfajadehkmaaW.PrintWords Go.Proofs.YtipdfajadehkmaaW.PrintLast Go.Proofs.YtipdfajadehkmaaW.PrintMore Go.Proofs.Ytipdfajadehkmaa.Vm Go.Proofs.Ytipdfajadehkmaa.VlVarintReads

theorem most_range (l : List Int) (hl : ∀ x ∈ l, 0 ≤ x ∧ x < 256) {m : Int} (hm : 0 ≤ m) : 0 ≤ (rdMost m (rd64 l)).1 ∧ (rdMost m (rd64 l)).1 ≤ m := by
  rcases rd64_tells l hl with ⟨e, he, h⟩ | ⟨u, hu, _, _, h⟩
  · rw [h]; unfold rdMost; dsimp only; rw [if_neg (by omega)]; exact ⟨by simp, by simpa using hm⟩
  · rw [h]; unfold rdMost; simp only [eq_self, if_true]; split
    · exact ⟨by simp, by assumption⟩
    · exact ⟨by simp, by simpa using hm⟩
theorem signed_range (l : List Int) (hl : ∀ x ∈ l, 0 ≤ x ∧ x < 256) {lo hi : Int} (h0 : lo ≤ 0) (h1 : 0 ≤ hi) : lo ≤ (rdSigned lo hi (rd64 l)).1 ∧ (rdSigned lo hi (rd64 l)).1 ≤ hi := by
  rcases rd64_tells l hl with ⟨e, he, h⟩ | ⟨u, hu, _, _, h⟩
  · rw [h]; unfold rdSigned; dsimp only; rw [if_neg (by omega)]; exact ⟨h0, h1⟩
  · rw [h]; unfold rdSigned; simp only [eq_self, if_true]; split
    · assumption
    · exact ⟨h0, h1⟩
theorem u64_id {x : Int} (h0 : 0 ≤ x) (h1 : x ≤ 4294967295) : IntKind.u64.wrap x = x := by rw [IntKind.wrap_u64]; omega
theorem w64_id {x : Int} (h0 : -2147483648 ≤ x) (h1 : x ≤ 2147483647) : wrap64 x = x := by unfold wrap64; omega
theorem plain_ev (s : ByteArray) : Ev (fun k => gantrylaw01_plain.f k s) true := by
  have m1 := most_range (bytesOf s) (bytes_ok s) (m := 255) (by omega)
  have m2 := most_range (bytesOf s) (bytes_ok s) (m := 65535) (by omega)
  have m3 := most_range (bytesOf s) (bytes_ok s) (m := 4294967295) (by omega)
  have e1 : IntKind.u64.wrap (rdMost 255 (rd64 (bytesOf s))).1 = (rdMost 255 (rd64 (bytesOf s))).1 := u64_id (by omega) (by omega)
  have e2 : IntKind.u64.wrap (rdMost 65535 (rd64 (bytesOf s))).1 = (rdMost 65535 (rd64 (bytesOf s))).1 := u64_id (by omega) (by omega)
  have e3 : IntKind.u64.wrap (rdMost 4294967295 (rd64 (bytesOf s))).1 = (rdMost 4294967295 (rd64 (bytesOf s))).1 := u64_id (by omega) (by omega)
  have J3 : Ev (fun k => gantrylaw01_plain.j3 k s false) true := by
    refine Ev.step (f := fun k => _) (fun k => by rw [gantrylaw01_plain.j3, if_neg (by simp)]) ?_
    refine Ev.bind (varint_Read_uint_ev s) ?_
    refine Ev.bind (refRead_ev s) ?_
    simp only [if_true, beq_self_eq_true]
    exact Ev.now _
  have J2 : Ev (fun k => gantrylaw01_plain.j2 k s false) true := by
    refine Ev.step (f := fun k => _) (fun k => by rw [gantrylaw01_plain.j2, if_neg (by simp)]) ?_
    refine Ev.bind (gantrylaw01_Id_ev s) ?_
    refine Ev.bind (refReadMost_ev s _) ?_
    simp only [e3, if_true, bne_self_eq_false]
    exact J3
  have J1 : Ev (fun k => gantrylaw01_plain.j1 k s false) true := by
    refine Ev.step (f := fun k => _) (fun k => by rw [gantrylaw01_plain.j1, if_neg (by simp)]) ?_
    refine Ev.bind (varint_Read_uint16_ev s) ?_
    refine Ev.bind (refReadMost_ev s _) ?_
    simp only [e2, if_true, bne_self_eq_false]
    exact J2
  have J0 : Ev (fun k => gantrylaw01_plain.j0 k s false) true := by
    refine Ev.step (f := fun k => _) (fun k => by rw [gantrylaw01_plain.j0, if_neg (by simp)]) ?_
    refine Ev.bind (varint_Read_uint8_ev s) ?_
    refine Ev.bind (refReadMost_ev s _) ?_
    simp only [e1, if_true, bne_self_eq_false]
    exact J1
  unfold gantrylaw01_plain.f
  refine Ev.bind (varint_Read_uint64_ev s) ?_
  refine Ev.bind (refRead_ev s) ?_
  simp only [if_true, bne_self_eq_false]
  exact J0
theorem signed_ev (s : ByteArray) : Ev (fun k => gantrylaw01_signed.f k s) true := by
  have m1 := signed_range (bytesOf s) (bytes_ok s) (lo := -128) (hi := 127) (by omega) (by omega)
  have m2 := signed_range (bytesOf s) (bytes_ok s) (lo := -32768) (hi := 32767) (by omega) (by omega)
  have m3 := signed_range (bytesOf s) (bytes_ok s) (lo := -2147483648) (hi := 2147483647) (by omega) (by omega)
  have e1 : wrap64 (rdSigned (-128) 127 (rd64 (bytesOf s))).1 = (rdSigned (-128) 127 (rd64 (bytesOf s))).1 := w64_id (by omega) (by omega)
  have e2 : wrap64 (rdSigned (-32768) 32767 (rd64 (bytesOf s))).1 = (rdSigned (-32768) 32767 (rd64 (bytesOf s))).1 := w64_id (by omega) (by omega)
  have e3 : wrap64 (rdSigned (-2147483648) 2147483647 (rd64 (bytesOf s))).1 = (rdSigned (-2147483648) 2147483647 (rd64 (bytesOf s))).1 := w64_id (by omega) (by omega)
  have J3 : Ev (fun k => gantrylaw01_signed.j3 k s false) true := by
    refine Ev.step (f := fun k => _) (fun k => by rw [gantrylaw01_signed.j3, if_neg (by simp)]) ?_
    refine Ev.bind (varint_ReadSigned_int_ev s) ?_
    refine Ev.bind (refReadSigned_ev s _ _) ?_
    simp only [if_true, beq_self_eq_true]
    exact Ev.now _
  have J2 : Ev (fun k => gantrylaw01_signed.j2 k s false) true := by
    refine Ev.step (f := fun k => _) (fun k => by rw [gantrylaw01_signed.j2, if_neg (by simp)]) ?_
    refine Ev.bind (varint_ReadSigned_int32_ev s) ?_
    refine Ev.bind (refReadSigned_ev s _ _) ?_
    simp only [e3, if_true, bne_self_eq_false]
    exact J3
  have J1 : Ev (fun k => gantrylaw01_signed.j1 k s false) true := by
    refine Ev.step (f := fun k => _) (fun k => by rw [gantrylaw01_signed.j1, if_neg (by simp)]) ?_
    refine Ev.bind (varint_ReadSigned_int16_ev s) ?_
    refine Ev.bind (refReadSigned_ev s _ _) ?_
    simp only [e2, if_true, bne_self_eq_false]
    exact J2
  have J0 : Ev (fun k => gantrylaw01_signed.j0 k s false) true := by
    refine Ev.step (f := fun k => _) (fun k => by rw [gantrylaw01_signed.j0, if_neg (by simp)]) ?_
    refine Ev.bind (gantrylaw01_Small_ev s) ?_
    refine Ev.bind (refReadSigned_ev s _ _) ?_
    simp only [e1, if_true, bne_self_eq_false]
    exact J1
  unfold gantrylaw01_signed.f
  refine Ev.bind (varint_ReadSigned_int64_ev s) ?_
  refine Ev.bind (refReadSigned_ev s _ _) ?_
  simp only [if_true, bne_self_eq_false]
  exact J0
theorem reads_ev (l : List ByteArray) (hm : l.length ≤ maxLen) : Ev (fun k => gantrylaw01_VarintReads.f k l) true := by
  have hm' : l.length ≤ 9223372036854775807 := hm
  have key : ∀ (d i : Nat), i + d = l.length → Ev (fun k => gantrylaw01_VarintReads.l0 k l (i : Int)) true := by
    intro d
    induction d with
    | zero =>
      intro i hi
      refine Ev.step (f := fun _ => some true) (fun k => ?_) (Ev.now _)
      rw [gantrylaw01_VarintReads.l0, if_neg (by omega)]
    | succ d ih =>
      intro i hi
      refine Ev.step (f := fun k => (gantrylaw01_plain.f k (rdOf ByteArray.empty l (i : Int))).bind fun t229 => (if t229 = true then ((gantrylaw01_signed.f k (rdOf ByteArray.empty l (i : Int))).bind fun t231 => (if t231 = true then (gantrylaw01_VarintReads.l0 k l ((i + 1 : Nat) : Int)) else (some false))) else (some false))) (fun k => ?_) ?_
      · rw [gantrylaw01_VarintReads.l0, if_pos (by omega), if_pos (by omega), wrap_succ (by omega)]
      · refine Ev.bind (plain_ev _) ?_
        simp only [if_true]
        refine Ev.bind (signed_ev _) ?_
        simp only [if_true]
        exact ih (i + 1) (by omega)
  unfold gantrylaw01_VarintReads.f
  refine Ev.bind fixed_ev ?_
  simp only [if_true]
  exact key l.length 0 (by omega)
end Go.Proofs.Ytipdfajadehkmaa.Pure
