/- VarintPuts: every Put and PutSigned of many numbers, of one, and of none, sizes and zigzags are the document's. Condition: the two lists together hold at most 1048576 numbers. -/
import Derived.Test.YtipdfajadehkmaaVlVarintPuts
namespace Go.Proofs.Ytipdfajadehkmaa.Pure
open Go Go.RowKit Go.Proofs.Ytipdfajadehkmaa.QVarintPuts Go.Proofs.YtipdfajadehkmaaW.PrintWords Go.Proofs.YtipdfajadehkmaaW.PrintMore Go.Proofs.Ytipdfajadehkmaa.Vm Go.Proofs.Ytipdfajadehkmaa.VlVarintPuts
set_option linter.unusedVariables false
set_option linter.unusedSimpArgs false
theorem wid {x : Int} (h0 : -9223372036854775808 ≤ x) (h1 : x ≤ 9223372036854775807) : wrap64 x = x := by unfold wrap64; omega
theorem rd_mem (l : List Int) (i : Nat) (h : i < l.length) : rd l (i : Int) ∈ l := by
  unfold rd
  rw [Int.toNat_natCast, List.getD_eq_getElem?_getD, List.getElem?_eq_getElem h]
  exact List.getElem_mem _
theorem take_drop_one (l : List Int) (i : Nat) (h : i < l.length) : (l.take (i + 1)).drop i = [rd l (i : Int)] := by
  unfold rd
  rw [Int.toNat_natCast, List.getD_eq_getElem?_getD, List.getElem?_eq_getElem h, Option.getD_some, List.take_succ_eq_append_getElem h, List.drop_append_of_le_length (by rw [List.length_take]; omega), List.drop_eq_nil_of_le (by rw [List.length_take]; omega), List.nil_append]
theorem puts_ev (l0 l1 : List Int) (h0 : ∀ x ∈ l0, 0 ≤ x ∧ x ≤ 18446744073709551615) (h1 : ∀ x ∈ l1, -9223372036854775808 ≤ x ∧ x ≤ 9223372036854775807) (n0 : l0.length ≤ 1048576) (n1 : l1.length ≤ 1048576) : Ev (fun k => gantrylaw01_VarintPuts.f k l0 l1) true := by
  have second : ∀ (d i : Nat), i + d = l1.length → Ev (fun k => gantrylaw01_VarintPuts.l1 k l1 (i : Int)) true := by
    intro d
    induction d with
    | zero => intro i hi; exact Ev.step (f := fun _ => some true) (fun k => by rw [gantrylaw01_VarintPuts.l1, if_neg (by omega)]) (Ev.now _)
    | succ d ih =>
      intro i hi
      have hb := h1 _ (rd_mem l1 i (by omega))
      have hz := zig_lt hb.1 hb.2
      refine Ev.step (fun k => by rw [gantrylaw01_VarintPuts.l1, if_pos (show (i : Int) < (l1.length : Int) by omega), if_pos (show 0 ≤ (i : Int) by omega), refZig_some hb.1 hb.2, Option.bind_some, zig_some hb.1 hb.2, Option.bind_some, if_pos rfl]) ?_
      refine Ev.bind (varint_SizeSigned_int64_ev hb.1 hb.2) (Ev.bind (refSize_ev hz) ?_)
      simp only [if_true]
      have e1 := varint_PutSigned_int64_ev [rd l1 (i : Int)] (fun x hx => by rw [List.mem_singleton] at hx; rw [hx]; exact hb) (by simp)
      have e2 := refPut_ev [(zig (rd l1 (i : Int)) : Int)] (fun x hx => by rw [List.mem_singleton] at hx; rw [hx]; omega) (by simp)
      refine Ev.bind e1 (Ev.bind e2 ?_)
      have : strOfNums ([rd l1 (i : Int)].flatMap (fun x => enc (zig x))) = strOfNums ([(zig (rd l1 (i : Int)) : Int)].flatMap (fun x => enc x.toNat)) := by simp
      rw [this]
      simp only [if_true]
      rw [wid (show -9223372036854775808 ≤ (i : Int) + 1 by omega) (by omega)]
      exact ih (i + 1) (by omega)
  have first_ : ∀ (d i : Nat), i + d = l0.length → Ev (fun k => gantrylaw01_VarintPuts.l0 k l0 l1 (i : Int)) true := by
    intro d
    induction d with
    | zero => intro i hi; exact Ev.step (fun k => by rw [gantrylaw01_VarintPuts.l0, if_neg (show ¬ (i : Int) < (l0.length : Int) by omega)]; rfl) (second l1.length 0 (by omega))
    | succ d ih =>
      intro i hi
      have hb := h0 _ (rd_mem l0 i (by omega))
      have htd := take_drop_one l0 i (by omega)
      obtain ⟨v, hv⟩ : ∃ v : Nat, rd l0 (i : Int) = (v : Int) := ⟨(rd l0 (i : Int)).toNat, by omega⟩
      rw [hv] at hb htd
      have hvl : v < 18446744073709551616 := by omega
      refine Ev.step (fun k => by rw [gantrylaw01_VarintPuts.l0, if_pos (show (i : Int) < (l0.length : Int) by omega), if_pos (show 0 ≤ (i : Int) by omega), hv]) ?_
      refine Ev.bind (varint_Size_uint64_ev hvl) (Ev.bind (refSize_ev hvl) ?_)
      simp only [if_true, unzig_some hvl, refUnzig_some hvl, Option.bind_some]
      have e1 := varint_Put_uint64_ev [(v : Int)] (fun x hx => by rw [List.mem_singleton] at hx; rw [hx]; omega) (by simp)
      have e2 := refPut_ev [(v : Int)] (fun x hx => by rw [List.mem_singleton] at hx; rw [hx]; omega) (by simp)
      refine Ev.bind e1 ?_
      rw [wid (show -9223372036854775808 ≤ (i : Int) + 1 by omega) (by omega)]
      have g1 : (i : Int) ≤ (i : Int) + 1 := by omega
      have g2 : (i : Int) + 1 ≤ (l0.length : Int) := by omega
      have g3 : ((i : Int) + 1).toNat = i + 1 := by omega
      simp only [g1, g2, if_true, g3, Int.toNat_natCast, htd]
      refine Ev.bind e2 ?_
      simp only [if_true]
      exact ih (i + 1) (by omega)
  refine Ev.bind fixed_ev ?_
  have k0 : l0.length < 17592186044416 := by omega
  have k1 : l1.length < 17592186044416 := by omega
  simp only [if_true, Option.bind_some, List.length_nil, Nat.zero_add, List.nil_append, k0, k1]
  refine Ev.bind (varint_Put_uint64_ev l0 h0 (by omega)) (Ev.bind (refPut_ev l0 h0 (by omega)) ?_)
  simp only [if_true]
  refine Ev.bind (varint_PutSigned_int64_ev l1 h1 (by omega)) (Ev.bind (refPutSigned_ev l1 h1 (by omega)) ?_)
  simp only [if_true]
  refine Ev.bind (varint_Put_uint8_ev [] (by simp) (by simp)) ?_
  have : ((strOfNums (([] : List Int).flatMap (fun x => enc x.toNat))).toList != ([] : List UInt8)) = false := by
    rw [Go.Lib.toList_data]; rfl
  rw [this]
  exact Ev.step (fun k => by rw [gantrylaw01_VarintPuts.j0, if_neg (by simp)]; rfl) (first_ l0.length 0 (by omega))
theorem core (A0 : Option Addr) (c0 : Nat) (l0 : List Int) (L0 : l0.length ≤ c0) {w : World} (C0 : (Kd.int .u64).C w A0 l0.length l0) (ok0 : (∀ x ∈ l0, (Lit.int .u64 x).wf = true) ∧ l0.length ≤ maxLen)
    (A1 : Option Addr) (c1 : Nat) (l1 : List Int) (L1 : l1.length ≤ c1) (C1 : (Kd.int .i64).C w A1 l1.length l1) (ok1 : (∀ x ∈ l1, (Lit.int .i64 x).wf = true) ∧ l1.length ≤ maxLen)
    (W : World) (hW : w = W) (hb : ((l0.map (fun _ => 1)).sum + 1) + ((l1.map (fun _ => 1)).sum + 1) ≤ 1048576) :
    Calls Try.prog 9 #[.slice A0 l0.length c0, .slice A1 l1.length c1] W fun e w' => e = .returned (.bool true) ∧ Below W.heap.size W w' := by
  subst hW
  have hs : ∀ l : List Int, (l.map (fun _ => 1)).sum = l.length := by
    intro l
    induction l with
    | nil => rfl
    | cons a l ih => rw [List.map_cons, List.sum_cons, ih, List.length_cons]; omega
  rw [hs, hs] at hb
  obtain ⟨k, h⟩ := Ev.rounds (puts_ev l0 l1 (fun x hx => bounds_u64 (ok0.1 x hx)) (fun x hx => bounds_i64 (ok1.1 x hx)) (by omega) (by omega))
  exact gantrylaw01_VarintPuts.calls k A0 c0 l0 A1 c1 l1 true w C0 L0 C1 L1 h
end Go.Proofs.Ytipdfajadehkmaa.Pure
