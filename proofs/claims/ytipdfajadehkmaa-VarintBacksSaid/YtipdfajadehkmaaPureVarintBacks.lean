/- VarintBacks: for every number without a sign, every number with one and every text: what is put is read again, whatever stands behind it; what is read is what is put; each cut of a form is too short. Condition: the text has at most 2^47 - 4096 bytes, as every text that can be read. -/
import Derived.Test.YtipdfajadehkmaaVlVarintBacks
namespace Go.Proofs.Ytipdfajadehkmaa.Pure
open Go.RowKit Go.Proofs.Ytipdfajadehkmaa.QVarintBacks Go.Proofs.YtipdfajadehkmaaW.PrintWords Go.Proofs.YtipdfajadehkmaaW.PrintLast Go.Proofs.Ytipdfajadehkmaa.Vm Go.Proofs.Ytipdfajadehkmaa.VlVarintBacks

theorem backs_tail (t : ByteArray) : Ev (fun k => (varint_Read_uint64.f k t).bind fun bt162 => (if bt162.2.2 = 0 then (if bt162.2.1 ≥ 1 then (if bt162.2.1 ≤ 10 then (if bt162.2.1 ≤ (t.size : Int) then ((varint_Put_uint64.f k (([bt162.1] : List Int))).bind fun t168 => (if 0 ≤ bt162.2.1 then (some (t168.toList == (t.extract 0 (bt162.2.1 : Int).toNat).toList)) else (none))) else (some false)) else (some false)) else (some false)) else (if bt162.1 = 0 then (some (bt162.2.1 == 0)) else (some false)))) true := by
  refine Ev.bind (varint_Read_uint64_ev t) ?_
  rcases rd64_tells (bytesOf t) (bytes_ok t) with ⟨e, he, h⟩ | ⟨u, hu, htk, hle, h⟩
  · rw [h]
    have he0 : ¬ e = 0 := by omega
    simp only [he0, if_false, if_true]
    exact Ev.now _
  · rw [h]
    have h1 := enc_pos u
    have h2 := enc_len64 hu
    rw [bytesOf_length] at hle
    have g1 : ((enc u).length : Int) ≥ 1 := by omega
    have g2 : ((enc u).length : Int) ≤ 10 := by omega
    have g3 : ((enc u).length : Int) ≤ (t.size : Int) := by omega
    have g4 : (0 : Int) ≤ ((enc u).length : Int) := by omega
    simp only [g1, g2, g3, g4, if_true]
    refine Ev.bind (varint_Put_uint64_ev [(u : Int)] (by intro x hx; simp at hx; omega) (by simp)) ?_
    have e1 : ([(u : Int)].flatMap fun x => enc x.toNat) = enc u := by simp
    rw [e1, Int.toNat_natCast]
    have e2 : (strOfNums (enc u)).toList = (t.extract 0 (enc u).length).toList := by
      rw [toList_iff, bytesOf_nums (enc_bytes u), bytesOf_extract, List.drop_zero, Nat.sub_zero, htk]
    rw [e2]
    simp only [beq_self_eq_true]
    exact Ev.now _
theorem backs_cuts (u : Nat) (hu : u < 18446744073709551616) (t s : ByteArray) (hs : bytesOf s = enc u) : ∀ (d i : Nat), i + d = s.size → Ev (fun k => gantrylaw01_VarintBacks.l0 k t s (i : Int)) true := by
  have hsz : s.size = (enc u).length := by rw [← bytesOf_length, hs]
  have hl := enc_len64 hu
  intro d
  induction d with
  | zero =>
    intro i hi
    refine Ev.step (f := fun k => _) (fun k => ?_) (backs_tail t)
    rw [gantrylaw01_VarintBacks.l0, if_neg (by omega)]
  | succ d ih =>
    intro i hi
    have hr := varint_Read_uint64_ev (s.extract 0 i)
    rw [bytesOf_extract, List.drop_zero, Nat.sub_zero, hs, rd64_cut hu (by omega)] at hr
    refine Ev.step (f := fun k => (varint_Read_uint64.f k (s.extract 0 i)).bind fun bt159 => (if bt159.2.1 = 0 then (if bt159.2.2 = 20 then (gantrylaw01_VarintBacks.l0 k t s ((i + 1 : Nat) : Int)) else (some false)) else (some false))) (fun k => ?_) ?_
    · rw [gantrylaw01_VarintBacks.l0, if_pos (by omega), if_pos (by omega), if_pos (by omega), wrap_succ (by omega), Int.toNat_natCast]
    · refine Ev.bind hr ?_
      simp only [if_true]
      exact ih (i + 1) (by omega)
theorem VarintBacks : gantrylaw01_VarintBacks.Pure := by
  intro u v t hu hv ht
  obtain ⟨hu0, hu1⟩ := bounds_u64 hu
  obtain ⟨hv0, hv1⟩ := bounds_i64 hv
  obtain ⟨U, rfl⟩ := Int.eq_ofNat_of_zero_le hu0
  have hU : U < 18446744073709551616 := by omega
  have hZ := zig_lt hv0 hv1
  have lU := enc_len64 hU
  have lZ := enc_len64 hZ
  have p1 := varint_Put_uint64_ev [(U : Int)] (by intro x hx; simp at hx; omega) (by simp)
  have p2 := varint_PutSigned_int64_ev [v] (by intro x hx; simp at hx; omega) (by simp)
  have e1 : ([(U : Int)].flatMap fun x => enc x.toNat) = enc U := by simp
  have e2 : ([v].flatMap fun x => enc (zig x)) = enc (zig v) := by simp
  rw [e1] at p1
  rw [e2] at p2
  have b1 := bytesOf_nums (enc_bytes U)
  have b2 := bytesOf_nums (enc_bytes (zig v))
  have s1 : (strOfNums (enc U)).size = (enc U).length := Go.strOfNums_size _
  have s2 : (strOfNums (enc (zig v))).size = (enc (zig v)).length := Go.strOfNums_size _
  refine Ev.rounds (g := fun k => gantrylaw01_VarintBacks.f k (U : Int) v t) ?_
  unfold gantrylaw01_VarintBacks.f
  refine Ev.bind fixed_ev ?_
  simp only [if_true]
  refine Ev.bind p1 ?_
  refine Ev.bind p2 ?_
  have g1 : (strOfNums (enc U)).size + t.size ≤ 9223372036854775807 := by omega
  have g2 : (strOfNums (enc (zig v))).size + t.size ≤ 9223372036854775807 := by omega
  simp only [g1, g2, if_true]
  have r1 := varint_Read_uint64_ev (strOfNums (enc U) ++ t)
  rw [bytesOf_append, b1, rd64_enc hU] at r1
  have r2 := varint_ReadSigned_int64_ev (strOfNums (enc (zig v)) ++ t)
  rw [bytesOf_append, b2, rd64_enc hZ] at r2
  have e3 : rdSigned (-9223372036854775808) 9223372036854775807 (((zig v : Nat) : Int), ((enc (zig v)).length : Int), 0) = (v, ((enc (zig v)).length : Int), 0) := by
    unfold rdSigned
    simp only [eq_self, if_true]
    rw [Int.toNat_natCast, unzig_zig, if_pos ⟨hv0, hv1⟩]
  rw [e3] at r2
  refine Ev.bind r1 ?_
  refine Ev.bind r2 ?_
  simp only [s1, s2, if_true]
  refine Ev.bind (varint_Size_uint64_ev hU) ?_
  simp only [if_true]
  refine Ev.bind (varint_SizeSigned_int64_ev hv0 hv1) ?_
  simp only [bne_self_eq_false]
  refine Ev.step (f := fun k => gantrylaw01_VarintBacks.l0 k t (strOfNums (enc U)) 0) (fun k => ?_) ?_
  · rw [gantrylaw01_VarintBacks.j0, if_neg (by simp)]
  · exact backs_cuts U hU t _ b1 (strOfNums (enc U)).size 0 (by omega)
end Go.Proofs.Ytipdfajadehkmaa.Pure
