/- VarintSizes: for every two numbers without a sign and every number with one: a greater number has no shorter form; k bytes hold just the numbers below 2 to the 7k; zigzag goes by the size of numbers, the sign last. No condition. -/
import Derived.Test.YtipdfajadehkmaaVlVarintSizes
namespace Go.Proofs.Ytipdfajadehkmaa.Pure
open Go.RowKit Go.Proofs.Ytipdfajadehkmaa.QVarintSizes Go.Proofs.YtipdfajadehkmaaW.PrintWords Go.Proofs.YtipdfajadehkmaaW.PrintLast Go.Proofs.YtipdfajadehkmaaW.PrintMore Go.Proofs.Ytipdfajadehkmaa.Vm Go.Proofs.Ytipdfajadehkmaa.VlVarintSizes

theorem sizes_odd (v : Int) : (((Int.tmod ((zig v : Nat) : Int) 2) == 1) != (decide (v < 0))) = false := by
  rw [Int.tmod_eq_emod_of_nonneg (by omega)]
  by_cases h : 0 ≤ v
  · have e : ((zig v : Nat) : Int) % 2 = 0 := by unfold zig; rw [if_pos h]; omega
    have h2 : decide (v < 0) = false := decide_eq_false (by omega)
    rw [e, h2]; decide
  · have e : ((zig v : Nat) : Int) % 2 = 1 := by unfold zig; rw [if_neg h]; omega
    have h2 : decide (v < 0) = true := decide_eq_true (by omega)
    rw [e, h2]; decide
theorem sizes_neg {v : Int} (h0 : -9223372036854775808 ≤ v) (h : ¬ v ≥ 0) : (((zig v : Nat) : Int) == (IntKind.u64.wrap (((zig (-(v + 1)) : Nat) : Int) + 1))) = true := by
  rw [beq_iff_eq, IntKind.wrap_u64]
  unfold zig
  rw [if_neg (by omega), if_pos (by omega)]
  omega
theorem sizes_wrap {v : Int} (h0 : -9223372036854775808 ≤ v) (h : ¬ v ≥ 0) : wrap64 (-(wrap64 (v + 1))) = -(v + 1) := by unfold wrap64; omega
theorem j1_pos (k : Nat) (u v z t : Int) (h : v ≥ 0) (z1 : varint_Zigzag.f v = some z) (z2 : varint_Unzigzag.f z = some v) (z3 : varint_Unzigzag.f u = some t) (z4 : varint_Zigzag.f t = some u) (z5 : (((Int.tmod z 2) == 1) != (decide (v < 0))) = false) :
    gantrylaw01_VarintSizes.j1 (k + 1) u v false = some true := by
  rw [gantrylaw01_VarintSizes.j1]
  simp only [Bool.false_eq_true, if_false, z1, z2, z3, z4, z5, Option.bind_some, if_true, h]
theorem j1_neg (k : Nat) (u v z t y x : Int) (h : ¬ v ≥ 0) (z1 : varint_Zigzag.f v = some z) (z2 : varint_Unzigzag.f z = some v) (z3 : varint_Unzigzag.f u = some t) (z4 : varint_Zigzag.f t = some u) (z5 : (((Int.tmod z 2) == 1) != (decide (v < 0))) = false)
    (z8 : wrap64 (-(wrap64 (v + 1))) = y) (z6 : varint_Zigzag.f y = some x) (z7 : (z == IntKind.u64.wrap (x + 1)) = true) :
    gantrylaw01_VarintSizes.j1 (k + 1) u v false = some true := by
  rw [gantrylaw01_VarintSizes.j1]
  simp only [Bool.false_eq_true, if_false, z1, z2, z3, z4, z5, z6, z7, z8, Option.bind_some, if_true, h]
theorem sizes_j1 (u : Nat) (hu : u < 18446744073709551616) (v : Int) (h0 : -9223372036854775808 ≤ v) (h1 : v ≤ 9223372036854775807) : Ev (fun k => gantrylaw01_VarintSizes.j1 k (u : Int) v false) true := by
  have z1 := zig_some h0 h1
  have z2 : varint_Unzigzag.f ((zig v : Nat) : Int) = some v := by rw [unzig_some (zig_lt h0 h1), unzig_zig]
  have z3 := unzig_some hu
  have z4 : varint_Zigzag.f (unzig u) = some (u : Int) := by rw [zig_some (unzig_lo hu).1 (unzig_lo hu).2, zig_unzig]
  have z5 := sizes_odd v
  by_cases h : v ≥ 0
  · exact Ev.step (f := fun _ => some true) (fun k => j1_pos k _ v _ _ h z1 z2 z3 z4 z5) (Ev.now _)
  · have z6 : varint_Zigzag.f (-(v + 1)) = some ((zig (-(v + 1)) : Nat) : Int) := zig_some (by omega) (by omega)
    have z7 := sizes_neg h0 h
    have z8 := sizes_wrap h0 h
    exact Ev.step (f := fun _ => some true) (fun k => j1_neg k _ v _ _ _ _ h z1 z2 z3 z4 z5 z8 z6 z7) (Ev.now _)
theorem shr_nat (x : Nat) (n : Nat) (hn : n ≤ 9) : shr .u64 (x : Int) (wrap64 (7 * (n : Int))) = ((x / 128 ^ n : Nat) : Int) := by
  rw [wrap7 hn]
  unfold shr
  have e3 : min (((7 * n : Nat) : Int)).toNat IntKind.u64.bits = 7 * n := by
    show min _ 64 = _
    omega
  rw [e3, pow_two]
  have : ((128 : Int) ^ n) = ((128 ^ n : Nat) : Int) := by rw [Int.natCast_pow]; rfl
  rw [this]; rfl
theorem sizes_j0 (a b : Nat) (hab : a ≤ b) (hb : b < 18446744073709551616) (v : Int) (h0 : -9223372036854775808 ≤ v) (h1 : v ≤ 9223372036854775807) : Ev (fun k => gantrylaw01_VarintSizes.j0 k (a : Int) (b : Int) v) true := by
  have ha : a < 18446744073709551616 := by omega
  have p := enc_pos a
  have q := enc_len64 ha
  have m := enc_len_mono hab
  have J := sizes_j1 a ha v h0 h1
  refine Ev.step (f := fun k => _) (fun k => by rw [gantrylaw01_VarintSizes.j0]) ?_
  · refine Ev.bind (varint_Size_uint64_ev ha) ?_
    refine Ev.bind (varint_Size_uint64_ev hb) ?_
    generalize hn : (enc a).length = n at *
    have c1 : ¬ ((n : Int) > ((enc b).length : Int)) := by omega
    have c2 : ¬ ((n : Int) < 1) := by omega
    have c3 : ¬ ((n : Int) > 10) := by omega
    have w1 : wrap64 ((n : Int) - 1) = ((n - 1 : Nat) : Int) := by unfold wrap64; omega
    have s2 : n > 1 → ((shr .u64 (a : Int) (wrap64 (7 * ((n - 1 : Nat) : Int)))) == 0) = false := by
      intro hgt
      rw [shr_nat a (n - 1) (by omega), beq_eq_false_iff_ne]
      have : 128 ^ (n - 1) ≤ a := by
        rcases Nat.lt_or_ge a (128 ^ (n - 1)) with hlt | hge
        · have := enc_len_lt (n - 2) a (by rw [show n - 2 + 1 = n - 1 from by omega]; exact hlt)
          omega
        · exact hge
      have hp : 0 < a / 128 ^ (n - 1) := Nat.div_pos this (Nat.pow_pos (by omega))
      omega
    have inner : Ev (fun k => if (n : Int) > 1 then (if 0 ≤ (wrap64 (7 * (wrap64 ((n : Int) - 1)))) then (gantrylaw01_VarintSizes.j1 k (a : Int) v ((shr .u64 (a : Int) (wrap64 (7 * (wrap64 ((n : Int) - 1))))) == 0)) else (none)) else (gantrylaw01_VarintSizes.j1 k (a : Int) v false)) true := by
      rw [w1]
      have g : 0 ≤ wrap64 (7 * ((n - 1 : Nat) : Int)) := wrap7_nn (by omega)
      by_cases hgt : (n : Int) > 1
      · simp only [hgt, g, if_true]; rw [s2 (by omega)]; exact J
      · simp only [hgt, if_false]; exact J
    simp only [c1, c2, c3, if_false]
    by_cases h10 : (n : Int) < 10
    · have g : 0 ≤ wrap64 (7 * (n : Int)) := wrap7_nn (by omega)
      have s1 : shr .u64 (a : Int) (wrap64 (7 * (n : Int))) = 0 := by
        rw [shr_nat a n (by omega)]
        have : a < 128 ^ n := by
          rcases Nat.lt_or_ge a (128 ^ n) with hlt | hge
          · exact hlt
          · have := enc_len_ge n a hge; omega
        rw [Nat.div_eq_of_lt this]; rfl
      simp only [h10, g, s1, if_true]
      exact inner
    · simp only [h10, if_false]
      exact inner
theorem VarintSizes : gantrylaw01_VarintSizes.Pure := by
  intro a b v ha hb hv
  obtain ⟨ha0, ha1⟩ := bounds_u64 ha
  obtain ⟨hb0, hb1⟩ := bounds_u64 hb
  obtain ⟨hv0, hv1⟩ := bounds_i64 hv
  obtain ⟨A, rfl⟩ := Int.eq_ofNat_of_zero_le ha0
  obtain ⟨B, rfl⟩ := Int.eq_ofNat_of_zero_le hb0
  refine Ev.rounds (g := fun k => gantrylaw01_VarintSizes.f k (A : Int) (B : Int) v) ?_
  unfold gantrylaw01_VarintSizes.f
  refine Ev.bind fixed_ev ?_
  simp only [if_true]
  by_cases h : (A : Int) > (B : Int)
  · simp only [h, if_true]
    exact sizes_j0 B A (by omega) (by omega) v hv0 hv1
  · simp only [h, if_false]
    exact sizes_j0 A B (by omega) (by omega) v hv0 hv1
end Go.Proofs.Ytipdfajadehkmaa.Pure
