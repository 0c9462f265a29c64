/- The plain law of layer 1's form of numbers: a number's bytes, how they are read again, how long they are, and how numbers with a sign are laid among those without one. No program, no condition. -/
import Derived.Lib.VarintBits
import Derived.Lib.Zigzag
import Derived.Lib.Strings
import Derived.Lib.SmallJoins
import Derived.Test.YtclnpedmoelipaaWWords
import Derived.Test.YtclnpedmoelipaaWMore
namespace Go.Proofs.Ytclnpedmoelipaa.Vm
open Go Go.RowKit Go.Proofs.YtclnpedmoelipaaW.PrintWords Go.Proofs.YtclnpedmoelipaaW.PrintMore

/-- The bytes of a number's form. -/
def enc (v : Nat) : List Int := if h : v < 128 then [(v : Int)] else ((v % 128 + 128 : Nat) : Int) :: enc (v / 128)
termination_by v
decreasing_by omega

theorem enc_lo {v : Nat} (h : v < 128) : enc v = [(v : Int)] := by rw [enc]; simp [h]
theorem enc_hi {v : Nat} (h : ¬ v < 128) : enc v = ((v % 128 + 128 : Nat) : Int) :: enc (v / 128) := by rw [enc]; simp [h]
theorem enc_pos (v : Nat) : 1 ≤ (enc v).length := by
  by_cases h : v < 128
  · rw [enc_lo h]; simp
  · rw [enc_hi h]; simp
theorem enc_ne (v : Nat) : enc v ≠ [] := by
  intro h; have := enc_pos v; rw [h] at this; simp at this
theorem enc_len_lt : ∀ (k v : Nat), v < 128 ^ (k + 1) → (enc v).length ≤ k + 1 := by
  intro k
  induction k with
  | zero => intro v h; rw [enc_lo (by simpa using h)]; simp
  | succ k ih =>
    intro v h
    by_cases h1 : v < 128
    · rw [enc_lo h1]; simp
    · rw [enc_hi h1, List.length_cons]
      have := ih (v / 128) (by rw [Nat.div_lt_iff_lt_mul (by omega)]; rw [Nat.pow_succ] at h; exact h)
      omega
theorem enc_len_ge : ∀ (k v : Nat), 128 ^ k ≤ v → k + 1 ≤ (enc v).length := by
  intro k
  induction k with
  | zero => intro v _; have := enc_pos v; omega
  | succ k ih =>
    intro v h
    have h1 : ¬ v < 128 := by
      have : 128 ≤ 128 ^ (k + 1) := by rw [Nat.pow_succ]; have := Nat.pow_pos (n := k) (show 0 < 128 by omega); omega
      omega
    rw [enc_hi h1, List.length_cons]
    have := ih (v / 128) (by rw [Nat.le_div_iff_mul_le (by omega)]; rw [Nat.pow_succ] at h; exact h)
    omega
theorem enc_len64 {v : Nat} (h : v < 18446744073709551616) : (enc v).length ≤ 10 := by
  have := enc_len_lt 9 v (by omega)
  omega
theorem enc_len_mono {a b : Nat} (h : a ≤ b) : (enc a).length ≤ (enc b).length := by
  induction b using Nat.strongRecOn generalizing a with
  | _ b ih =>
    by_cases hb : b < 128
    · rw [enc_lo hb, enc_lo (by omega)]; simp
    · by_cases ha : a < 128
      · rw [enc_lo ha]; have := enc_pos b; simp; omega
      · rw [enc_hi hb, enc_hi ha, List.length_cons, List.length_cons]
        have := ih (b / 128) (by omega) (a := a / 128) (by omega)
        omega
theorem enc_bytes (v : Nat) : ∀ x ∈ enc v, 0 ≤ x ∧ x < 256 := by
  induction v using Nat.strongRecOn with
  | _ v ih =>
    intro x hx
    by_cases h : v < 128
    · rw [enc_lo h] at hx; simp at hx; omega
    · rw [enc_hi h] at hx
      rcases List.mem_cons.1 hx with rfl | hx
      · omega
      · exact ih (v / 128) (by omega) x hx

/-- Reading from the byte number i on, with at most d bytes. -/
def rdv : Nat → Nat → Int → List Int → Int × Int × Int
  | 0, _, _, _ => (0, 0, 23)
  | _ + 1, _, _, [] => (0, 0, 20)
  | d + 1, i, v, c :: r =>
    if (i = 9 ∧ 1 < c) ∨ (0 < i ∧ c = 0) then (0, 0, 23)
    else if c < 128 then (v + c % 128 * 128 ^ i, (i : Int) + 1, 0)
    else rdv d (i + 1) (v + c % 128 * 128 ^ i) r

def rd64 (l : List Int) : Int × Int × Int := rdv 10 0 0 l

theorem pow_succ' (i : Nat) : (128 : Int) ^ (i + 1) = 128 ^ i * 128 := Int.pow_succ _ _
theorem pow_nn (i : Nat) : (0 : Int) < 128 ^ i := Int.pow_pos (by omega)

theorem rdv_enc : ∀ (d i u : Nat) (v : Int) (tail : List Int), i + d = 10 → u * 128 ^ i < 18446744073709551616 → (0 < i → 0 < u) →
    rdv d i v (enc u ++ tail) = (v + (u : Int) * 128 ^ i, (i : Int) + (enc u).length, 0) := by
  intro d
  induction d with
  | zero =>
    intro i u v tail hi hu hp
    exfalso
    obtain rfl : i = 10 := by omega
    have := hp (by omega)
    have : 1 * 128 ^ 10 ≤ u * 128 ^ 10 := Nat.mul_le_mul_right _ this
    omega
  | succ d ih =>
    intro i u v tail hi hu hp
    by_cases h : u < 128
    · rw [enc_lo h]
      simp only [List.cons_append, List.nil_append, rdv, List.length_cons, List.length_nil]
      have h9 : ¬ ((i = 9 ∧ (1 : Int) < u) ∨ (0 < i ∧ (u : Int) = 0)) := by
        rintro (⟨rfl, h1⟩ | ⟨h1, h2⟩)
        · have : 2 * 128 ^ 9 ≤ u * 128 ^ 9 := Nat.mul_le_mul_right _ (by omega)
          omega
        · have := hp h1; omega
      rw [if_neg h9, if_pos (by omega)]
      have : (u : Int) % 128 = u := by omega
      rw [this]; simp
    · rw [enc_hi h]
      simp only [List.cons_append, rdv, List.length_cons]
      have hi9 : i ≠ 9 := by
        rintro rfl
        have : 128 * 128 ^ 9 ≤ u * 128 ^ 9 := Nat.mul_le_mul_right _ (by omega)
        omega
      rw [if_neg (by rintro (⟨h1, _⟩ | ⟨_, h1⟩) <;> omega), if_neg (by omega)]
      have hq : u / 128 * 128 ^ (i + 1) < 18446744073709551616 := by
        have h1 : u / 128 * 128 ^ (i + 1) = (u / 128 * 128) * 128 ^ i := by rw [Nat.pow_succ]; rw [Nat.mul_comm (128 ^ i) 128, Nat.mul_assoc]
        have h2 : (u / 128 * 128) * 128 ^ i ≤ u * 128 ^ i := Nat.mul_le_mul_right _ (by omega)
        omega
      rw [ih (i + 1) (u / 128) _ tail (by omega) hq (fun _ => by omega)]
      have e1 : ((u % 128 + 128 : Nat) : Int) % 128 = (u : Int) % 128 := by omega
      have e2 : v + (u : Int) % 128 * 128 ^ i + ((u / 128 : Nat) : Int) * 128 ^ (i + 1) = v + (u : Int) * 128 ^ i := by
        have : (u : Int) = (u : Int) % 128 + 128 * ((u : Int) / 128) := by omega
        have e3 : ((u / 128 : Nat) : Int) = (u : Int) / 128 := by omega
        rw [e3, pow_succ']
        generalize (128 : Int) ^ i = P at *
        generalize (u : Int) / 128 = q at *
        generalize hr : (u : Int) % 128 = r at *
        rw [this, Int.add_mul, Int.add_assoc, Int.mul_comm P 128, ← Int.mul_assoc, Int.mul_comm q 128]
      rw [e1, e2]
      refine Prod.ext rfl (Prod.ext ?_ rfl)
      show ((i + 1 : Nat) : Int) + _ = (i : Int) + ((_ + 1 : Nat) : Int)
      omega
theorem rd64_enc {u : Nat} (hu : u < 18446744073709551616) (tail : List Int) : rd64 (enc u ++ tail) = ((u : Int), ((enc u).length : Int), 0) := by
  unfold rd64
  rw [rdv_enc 10 0 u 0 tail rfl (by simpa using hu) (by omega)]
  simp

theorem rdv_cut : ∀ (d i u : Nat) (v : Int) (n : Nat), i + d = 10 → u * 128 ^ i < 18446744073709551616 → (0 < i → 0 < u) → n < (enc u).length →
    rdv d i v ((enc u).take n) = (0, 0, 20) := by
  intro d
  induction d with
  | zero =>
    intro i u v n hi hu hp hn
    exfalso
    obtain rfl : i = 10 := by omega
    have := hp (by omega)
    have : 1 * 128 ^ 10 ≤ u * 128 ^ 10 := Nat.mul_le_mul_right _ this
    omega
  | succ d ih =>
    intro i u v n hi hu hp hn
    cases n with
    | zero => simp [rdv]
    | succ n =>
      by_cases h : u < 128
      · rw [enc_lo h] at hn; simp at hn
      · rw [enc_hi h] at hn ⊢
        simp only [List.length_cons] at hn
        simp only [List.take_succ_cons, rdv]
        have hi9 : i ≠ 9 := by
          rintro rfl
          have : 128 * 128 ^ 9 ≤ u * 128 ^ 9 := Nat.mul_le_mul_right _ (by omega)
          omega
        rw [if_neg (by rintro (⟨h1, _⟩ | ⟨_, h1⟩) <;> omega), if_neg (by omega)]
        have hq : u / 128 * 128 ^ (i + 1) < 18446744073709551616 := by
          have h1 : u / 128 * 128 ^ (i + 1) = (u / 128 * 128) * 128 ^ i := by rw [Nat.pow_succ]; rw [Nat.mul_comm (128 ^ i) 128, Nat.mul_assoc]
          have h2 : (u / 128 * 128) * 128 ^ i ≤ u * 128 ^ i := Nat.mul_le_mul_right _ (by omega)
          omega
        exact ih (i + 1) (u / 128) _ n (by omega) hq (fun _ => by omega) (by omega)
theorem rd64_cut {u : Nat} (hu : u < 18446744073709551616) {n : Nat} (hn : n < (enc u).length) : rd64 ((enc u).take n) = (0, 0, 20) :=
  rdv_cut 10 0 u 0 n rfl (by simpa using hu) (by omega) hn

set_option maxRecDepth 20000 in
theorem pow_room {i u m : Nat} (hi : i ≤ 9) (hu : u * (128 ^ i * 128) < 18446744073709551616) (hp : 0 < u) (hm : m ≤ 127) : (u * 128 + m) * 128 ^ i < 18446744073709551616 := by
  have key : ∀ P Q : Nat, P * 128 * Q = 18446744073709551616 → u * (P * 128) < 18446744073709551616 → (u * 128 + m) * P < 18446744073709551616 := by
    intro P Q hq h
    have h1 : u < Q := by
      rcases Nat.lt_or_ge u Q with h2 | h2
      · exact h2
      · have := Nat.mul_le_mul_left (P * 128) h2
        rw [Nat.mul_comm u] at h
        omega
    have h2 : (u + 1) * (P * 128) ≤ Q * (P * 128) := Nat.mul_le_mul_right _ h1
    have h3 : Q * (P * 128) = 18446744073709551616 := by rw [Nat.mul_comm]; exact hq
    have h4 : (u * 128 + m) * P = u * (P * 128) + m * P := by rw [Nat.add_mul, Nat.mul_assoc, Nat.mul_comm 128 P]
    have h5 : (u + 1) * (P * 128) = u * (P * 128) + 128 * P := by rw [Nat.add_mul, Nat.one_mul, Nat.mul_comm P 128]
    have h6 : m * P ≤ 127 * P := Nat.mul_le_mul_right _ hm
    have h7 : 0 < P := by
      rcases Nat.eq_zero_or_pos P with h0 | h0
      · subst h0; simp at hq
      · exact h0
    omega
  rcases (by omega : i = 0 ∨ i = 1 ∨ i = 2 ∨ i = 3 ∨ i = 4 ∨ i = 5 ∨ i = 6 ∨ i = 7 ∨ i = 8 ∨ i = 9) with rfl | rfl | rfl | rfl | rfl | rfl | rfl | rfl | rfl | rfl
  · exact key _ (2 ^ 57) (by decide) hu
  · exact key _ (2 ^ 50) (by decide) hu
  · exact key _ (2 ^ 43) (by decide) hu
  · exact key _ (2 ^ 36) (by decide) hu
  · exact key _ (2 ^ 29) (by decide) hu
  · exact key _ (2 ^ 22) (by decide) hu
  · exact key _ (2 ^ 15) (by decide) hu
  · exact key _ (2 ^ 8) (by decide) hu
  · exact key _ (2 ^ 1) (by decide) hu
  · exfalso
    have h1 : 1 * (128 ^ 9 * 128) ≤ u * (128 ^ 9 * 128) := Nat.mul_le_mul_right _ hp
    have h2 : (18446744073709551616 : Nat) ≤ 1 * (128 ^ 9 * 128) := by decide
    exact absurd (Nat.lt_of_le_of_lt (Nat.le_trans h2 h1) hu) (Nat.lt_irrefl _)

/-- What reading answers: an error and nothing, or the number whose form stands there. -/
theorem rdv_tells : ∀ (d i : Nat) (v : Int) (l : List Int), i + d = 10 → (∀ x ∈ l, 0 ≤ x ∧ x < 256) →
    (∃ e, (e = 20 ∨ e = 23) ∧ rdv d i v l = (0, 0, e)) ∨
    (∃ u : Nat, u * 128 ^ i < 18446744073709551616 ∧ (0 < i → 0 < u) ∧ l.take (enc u).length = enc u ∧ (enc u).length ≤ l.length ∧ rdv d i v l = (v + (u : Int) * 128 ^ i, (i : Int) + (enc u).length, 0)) := by
  intro d
  induction d with
  | zero => intro i v l _ _; exact .inl ⟨23, .inr rfl, rfl⟩
  | succ d ih =>
    intro i v l hi hl
    cases l with
    | nil => exact .inl ⟨20, .inl rfl, rfl⟩
    | cons c r =>
      obtain ⟨hc0, hc1⟩ := hl c (by simp)
      simp only [rdv]
      by_cases h1 : (i = 9 ∧ 1 < c) ∨ (0 < i ∧ c = 0)
      · rw [if_pos h1]; exact .inl ⟨23, .inr rfl, rfl⟩
      · rw [if_neg h1]
        by_cases h2 : c < 128
        · rw [if_pos h2]
          refine .inr ⟨c.toNat, ?_, ?_, ?_, ?_, ?_⟩
          · by_cases h9 : i = 9
            · subst h9
              have : c.toNat ≤ 1 := by omega
              have := Nat.mul_le_mul_right (128 ^ 9) this
              omega
            · have h8 : i ≤ 8 := by omega
              have a1 : 128 ^ i ≤ 128 ^ 8 := Nat.pow_le_pow_right (by omega) h8
              have a2 : c.toNat * 128 ^ i ≤ 127 * 128 ^ 8 := Nat.mul_le_mul (by omega) a1
              omega
          · intro h; omega
          · rw [enc_lo (by omega)]; simp; omega
          · rw [enc_lo (by omega)]; simp
          · rw [enc_lo (by omega)]
            have e1 : c % 128 = c := by omega
            have e2 : ((c.toNat : Nat) : Int) = c := by omega
            rw [e1, e2]; rfl
        · rw [if_neg h2]
          rcases ih (i + 1) (v + c % 128 * 128 ^ i) r (by omega) (fun x hx => hl x (by simp [hx])) with ⟨e, he, h⟩ | ⟨u, hu, hp, ht, hn, h⟩
          · exact .inl ⟨e, he, h⟩
          · refine .inr ⟨u * 128 + (c - 128).toNat, ?_, ?_, ?_, ?_, ?_⟩
            · rw [Nat.pow_succ] at hu; exact pow_room (by omega) hu (hp (by omega)) (by omega)
            · intro _; have := hp (by omega); omega
            · have hh : ¬ (u * 128 + (c - 128).toNat) < 128 := by have := hp (by omega); omega
              rw [enc_hi hh]
              have e1 : (u * 128 + (c - 128).toNat) / 128 = u := by omega
              have e2 : (((u * 128 + (c - 128).toNat) % 128 + 128 : Nat) : Int) = c := by omega
              rw [e1, e2]; simp [ht]
            · have hh : ¬ (u * 128 + (c - 128).toNat) < 128 := by have := hp (by omega); omega
              rw [enc_hi hh]
              have e1 : (u * 128 + (c - 128).toNat) / 128 = u := by omega
              rw [e1]; simp; exact hn
            · have hh : ¬ (u * 128 + (c - 128).toNat) < 128 := by have := hp (by omega); omega
              rw [enc_hi hh, h]
              have e1 : (u * 128 + (c - 128).toNat) / 128 = u := by omega
              rw [e1, pow_succ']
              refine Prod.ext ?_ (Prod.ext ?_ rfl)
              · show v + c % 128 * 128 ^ i + (u : Int) * (128 ^ i * 128) = v + ((u * 128 + (c - 128).toNat : Nat) : Int) * 128 ^ i
                have e2 : ((u * 128 + (c - 128).toNat : Nat) : Int) = (u : Int) * 128 + c % 128 := by omega
                rw [e2, Int.add_mul, Int.mul_assoc, Int.mul_comm 128 (128 ^ i), Int.add_assoc, Int.add_comm (c % 128 * _)]
              · show ((i + 1 : Nat) : Int) + _ = (i : Int) + ((_ + 1 : Nat) : Int)
                omega
theorem rd64_tells (l : List Int) (hl : ∀ x ∈ l, 0 ≤ x ∧ x < 256) :
    (∃ e, (e = 20 ∨ e = 23) ∧ rd64 l = (0, 0, e)) ∨
    (∃ u : Nat, u < 18446744073709551616 ∧ l.take (enc u).length = enc u ∧ (enc u).length ≤ l.length ∧ rd64 l = ((u : Int), ((enc u).length : Int), 0)) := by
  rcases rdv_tells 10 0 0 l rfl hl with h | ⟨u, hu, _, ht, hn, h⟩
  · exact .inl h
  · refine .inr ⟨u, by simpa using hu, ht, hn, ?_⟩
    unfold rd64
    rw [h]; simp

/-! Zigzag. -/
def zig (v : Int) : Nat := if 0 ≤ v then (2 * v).toNat else (-2 * v - 1).toNat
def unzig (u : Nat) : Int := if u % 2 = 0 then ((u / 2 : Nat) : Int) else -((u / 2 : Nat) : Int) - 1
theorem zig_lt {v : Int} (h0 : -9223372036854775808 ≤ v) (h1 : v ≤ 9223372036854775807) : zig v < 18446744073709551616 := by unfold zig; split <;> omega
theorem unzig_lo {u : Nat} (h : u < 18446744073709551616) : -9223372036854775808 ≤ unzig u ∧ unzig u ≤ 9223372036854775807 := by unfold unzig; split <;> omega
theorem unzig_zig (v : Int) : unzig (zig v) = v := by
  unfold unzig zig
  by_cases h : 0 ≤ v
  · rw [if_pos h, if_pos (by omega)]; omega
  · rw [if_neg h, if_neg (by omega)]; omega
theorem zig_unzig (u : Nat) : zig (unzig u) = u := by
  unfold unzig
  by_cases h : u % 2 = 0
  · rw [if_pos h]; unfold zig; rw [if_pos (by omega)]; omega
  · rw [if_neg h]; unfold zig; rw [if_neg (by omega)]; omega

theorem xor_zig (v : Int) (h0 : -9223372036854775808 ≤ v) (h1 : v ≤ 9223372036854775807) :
    Go.bits .xor .u64 (IntKind.u64.wrap ((IntKind.u64.wrap v) * 2)) (IntKind.u64.wrap (v / 9223372036854775808)) = (zig v : Int) := by
  by_cases h : 0 ≤ v
  · have e1 : IntKind.u64.wrap ((IntKind.u64.wrap v) * 2) = (((2 * v).toNat : Nat) : Int) := by rw [IntKind.wrap_u64, IntKind.wrap_u64]; omega
    have e2 : IntKind.u64.wrap (v / 9223372036854775808) = ((0 : Nat) : Int) := by rw [IntKind.wrap_u64]; omega
    rw [e1, e2, bits_xor_u64_nat _ _ (by omega) (by omega), Nat.xor_zero]
    unfold zig; rw [if_pos h]
  · have e1 : IntKind.u64.wrap ((IntKind.u64.wrap v) * 2) = (((2 * v + 18446744073709551616).toNat : Nat) : Int) := by rw [IntKind.wrap_u64, IntKind.wrap_u64]; omega
    have e2 : IntKind.u64.wrap (v / 9223372036854775808) = ((2 ^ 64 - 1 : Nat) : Int) := by rw [IntKind.wrap_u64]; omega
    rw [e1, e2, bits_xor_u64_nat _ _ (by omega) (by omega), Nat.xor_comm, Go.Lib.xor_ones64 _ (by omega)]
    unfold zig; rw [if_neg h]; omega
theorem xor_unzig (u : Nat) (h : u < 18446744073709551616) :
    Go.bits .xor .i64 (wrap64 ((u : Int) / 2)) (wrap64 (-(wrap64 (Go.bits .and .u64 (u : Int) 1)))) = unzig u := by
  rw [Go.Lib.u64_and1 _ (by omega) (by omega)]
  have e1 : wrap64 ((u : Int) / 2) = ((u / 2 : Nat) : Int) := by unfold wrap64; omega
  rw [e1]
  by_cases hb : u % 2 = 0
  · have e2 : wrap64 (-(wrap64 ((u : Int) % 2))) = 0 := by unfold wrap64; omega
    rw [e2]
    unfold unzig; rw [if_pos hb]
    show IntKind.i64.wrap ((BitVec.ofInt 64 ((u / 2 : Nat) : Int) ^^^ BitVec.ofInt 64 0).toNat : Int) = _
    rw [show BitVec.ofInt 64 0 = 0#64 from rfl, BitVec.xor_zero, BitVec.ofInt_natCast, BitVec.toNat_ofNat, IntKind.wrap_i64, Nat.mod_eq_of_lt (by omega)]
    omega
  · have e2 : wrap64 (-(wrap64 ((u : Int) % 2))) = -1 := by unfold wrap64; omega
    rw [e2]
    unfold unzig; rw [if_neg hb]
    have := Go.Lib.i64_not (u / 2) (by omega)
    have hc : ∀ a b : Int, Go.bits .xor .i64 a b = Go.bits .xor .i64 b a := by
      intro a b
      show IntKind.i64.wrap ((BitVec.ofInt 64 a ^^^ BitVec.ofInt 64 b).toNat : Int) = IntKind.i64.wrap ((BitVec.ofInt 64 b ^^^ BitVec.ofInt 64 a).toNat : Int)
      rw [BitVec.xor_comm]
    rw [hc, this]

/-! Bits of a byte and of the number that is read. -/
theorem or128 (x : Nat) : Go.bits .or .u8 ((x : Int) % 256) 128 = ((x % 128 + 128 : Nat) : Int) := by
  have h : ∀ y : Fin 256, Go.bits .or .u8 ((y.1 : Nat) : Int) 128 = ((y.1 % 128 + 128 : Nat) : Int) := by decide +kernel
  have := h ⟨x % 256, by omega⟩
  have e : (x : Int) % 256 = ((x % 256 : Nat) : Int) := by omega
  rw [e, this]
  show ((x % 256 % 128 + 128 : Nat) : Int) = _
  congr 2
  omega
theorem and127 {c : Int} (h0 : 0 ≤ c) (h1 : c < 256) : Go.bits .and .u8 c 127 = c % 128 := Go.u8_and127 _ h0 h1
theorem pow_two (i : Nat) : (2 : Int) ^ (7 * i) = 128 ^ i := by
  induction i with
  | zero => rfl
  | succ i ih => rw [Nat.mul_succ, Int.pow_add, ih, pow_succ']; rfl
/-- The next seven bits laid above those that have been read. -/
theorem or_step {v c : Int} {i : Nat} (hi : i ≤ 9) (hv0 : 0 ≤ v) (hv : v < 128 ^ i) (hc0 : 0 ≤ c) (hc : c < 256) (h9 : i = 9 → c ≤ 1) :
    Go.bits .or .u64 v (shl .u64 (IntKind.u64.wrap (Go.bits .and .u8 c 127)) (wrap64 (7 * (i : Int)))) = v + c % 128 * 128 ^ i := by
  rw [and127 hc0 hc]
  have e1 : IntKind.u64.wrap (c % 128) = c % 128 := by rw [IntKind.wrap_u64]; omega
  have e2 : wrap64 (7 * (i : Int)) = ((7 * i : Nat) : Int) := by unfold wrap64; omega
  rw [e1, e2]
  unfold shl
  have e3 : min (((7 * i : Nat) : Int)).toNat IntKind.u64.bits = 7 * i := by
    show min _ 64 = _
    omega
  rw [e3, pow_two, IntKind.wrap_u64]
  rcases (by omega : i = 0 ∨ i = 1 ∨ i = 2 ∨ i = 3 ∨ i = 4 ∨ i = 5 ∨ i = 6 ∨ i = 7 ∨ i = 8 ∨ i = 9) with rfl | rfl | rfl | rfl | rfl | rfl | rfl | rfl | rfl | rfl
  · rw [Int.emod_eq_of_lt (by omega) (by omega)]; exact Go.u64_orv0 _ _ hv0 (by omega) (by omega) (by omega) (by omega)
  · rw [Int.emod_eq_of_lt (by omega) (by omega)]; exact Go.u64_orv7 _ _ hv0 (by omega) (by omega) (by omega) (by omega)
  · rw [Int.emod_eq_of_lt (by omega) (by omega)]; exact Go.u64_orv14 _ _ hv0 (by omega) (by omega) (by omega) (by omega)
  · rw [Int.emod_eq_of_lt (by omega) (by omega)]; exact Go.u64_orv21 _ _ hv0 (by omega) (by omega) (by omega) (by omega)
  · rw [Int.emod_eq_of_lt (by omega) (by omega)]; exact Go.u64_orv28 _ _ hv0 (by omega) (by omega) (by omega) (by omega)
  · rw [Int.emod_eq_of_lt (by omega) (by omega)]; exact Go.u64_orv35 _ _ hv0 (by omega) (by omega) (by omega) (by omega)
  · rw [Int.emod_eq_of_lt (by omega) (by omega)]; exact Go.u64_orv42 _ _ hv0 (by omega) (by omega) (by omega) (by omega)
  · rw [Int.emod_eq_of_lt (by omega) (by omega)]; exact Go.u64_orv49 _ _ hv0 (by omega) (by omega) (by omega) (by omega)
  · rw [Int.emod_eq_of_lt (by omega) (by omega)]; exact Go.u64_orv56 _ _ hv0 (by omega) (by omega) (by omega) (by omega)
  · have := h9 rfl
    rw [Int.emod_eq_of_lt (by omega) (by omega)]; exact Go.u64_orv63 _ _ hv0 (by omega) (by omega) (by omega) (by omega)

/-- A reading held to a greatest number; a reading of a number with a sign held to two. -/
def rdMost (m : Int) (r : Int × Int × Int) : Int × Int × Int := if r.2.2 = 0 then if r.1 ≤ m then r else (0, 0, 1) else (0, 0, r.2.2)
def rdSigned (lo hi : Int) (r : Int × Int × Int) : Int × Int × Int := if r.2.2 = 0 then if lo ≤ unzig r.1.toNat ∧ unzig r.1.toNat ≤ hi then (unzig r.1.toNat, r.2.1, 0) else (0, 0, 1) else (0, 0, r.2.2)
theorem wrap_u16' (n : Int) : IntKind.u16.wrap n = n % 65536 := by simp [IntKind.wrap, IntKind.bits, IntKind.signed]
theorem wrap_i8' (n : Int) : IntKind.i8.wrap n = (n + 128) % 256 - 128 := by simp only [IntKind.wrap, IntKind.bits, IntKind.signed]; simp; omega
theorem wrap_i16' (n : Int) : IntKind.i16.wrap n = (n + 32768) % 65536 - 32768 := by simp only [IntKind.wrap, IntKind.bits, IntKind.signed]; simp; omega
theorem wrap_i32' (n : Int) : wrap32 n = (n + 2147483648) % 4294967296 - 2147483648 := by unfold wrap32; omega
/-- The next seven bits added to those that have been read, and the next weight. -/
theorem sum_step {v c : Int} {i : Nat} (hi : i ≤ 9) (hv0 : 0 ≤ v) (hv : v < 128 ^ i) (hc0 : 0 ≤ c) (hc : c < 256) (h9 : i = 9 → c ≤ 1) :
    IntKind.u64.wrap (v + (IntKind.u64.wrap ((Int.tmod c 128) * 128 ^ i))) = v + c % 128 * 128 ^ i ∧ IntKind.u64.wrap ((128 : Int) ^ i * 128) = (if i + 1 < 10 then 128 ^ (i + 1) else 0) := by
  rw [Int.tmod_eq_emod_of_nonneg hc0]
  simp only [IntKind.wrap_u64]
  rcases (by omega : i = 0 ∨ i = 1 ∨ i = 2 ∨ i = 3 ∨ i = 4 ∨ i = 5 ∨ i = 6 ∨ i = 7 ∨ i = 8 ∨ i = 9) with rfl | rfl | rfl | rfl | rfl | rfl | rfl | rfl | rfl | rfl
  all_goals refine ⟨?_, by decide⟩
  · rw [Int.emod_eq_of_lt (by omega) (by omega), Int.emod_eq_of_lt (by omega) (by omega)]
  · rw [Int.emod_eq_of_lt (by omega) (by omega), Int.emod_eq_of_lt (by omega) (by omega)]
  · rw [Int.emod_eq_of_lt (by omega) (by omega), Int.emod_eq_of_lt (by omega) (by omega)]
  · rw [Int.emod_eq_of_lt (by omega) (by omega), Int.emod_eq_of_lt (by omega) (by omega)]
  · rw [Int.emod_eq_of_lt (by omega) (by omega), Int.emod_eq_of_lt (by omega) (by omega)]
  · rw [Int.emod_eq_of_lt (by omega) (by omega), Int.emod_eq_of_lt (by omega) (by omega)]
  · rw [Int.emod_eq_of_lt (by omega) (by omega), Int.emod_eq_of_lt (by omega) (by omega)]
  · rw [Int.emod_eq_of_lt (by omega) (by omega), Int.emod_eq_of_lt (by omega) (by omega)]
  · rw [Int.emod_eq_of_lt (by omega) (by omega), Int.emod_eq_of_lt (by omega) (by omega)]
  · have := h9 rfl
    rw [Int.emod_eq_of_lt (by omega) (by omega), Int.emod_eq_of_lt (by omega) (by omega)]

theorem wrap7 {i : Nat} (h : i ≤ 9) : wrap64 (7 * (i : Int)) = ((7 * i : Nat) : Int) := by unfold wrap64; omega
theorem wrap7_nn {i : Nat} (h : i ≤ 9) : 0 ≤ wrap64 (7 * (i : Int)) := by rw [wrap7 h]; omega


/-! Strings as lists of bytes. -/
theorem bytesOf_nums {l : List Int} (h : ∀ x ∈ l, 0 ≤ x ∧ x < 256) : bytesOf (strOfNums l) = l := by
  unfold bytesOf
  rw [strOfNums_data, List.map_map]
  conv => rhs; rw [← List.map_id l]
  apply List.map_congr_left
  intro x hx
  obtain ⟨h0, h1⟩ := h x hx
  show ((UInt8.ofNat x.toNat).toNat : Int) = x
  rw [UInt8.toNat_ofNat', Nat.mod_eq_of_lt (by omega)]
  omega
theorem bytesOf_append (a b : ByteArray) : bytesOf (a ++ b) = bytesOf a ++ bytesOf b := by
  unfold bytesOf; rw [Go.Joins.data_append, List.map_append]
theorem bytesOf_extract (s : ByteArray) (a b : Nat) : bytesOf (s.extract a b) = ((bytesOf s).drop a).take (b - a) := by
  unfold bytesOf; rw [Go.Lib.extract_data, List.map_take, List.map_drop]
theorem bytesOf_inj {a b : ByteArray} (h : bytesOf a = bytesOf b) : a = b := by
  unfold bytesOf at h
  have h2 : a.data.toList = b.data.toList := by
    refine (List.map_inj_right ?_).1 h
    intro x y hxy
    have : x.toNat = y.toNat := by omega
    exact UInt8.toNat_inj.1 this
  cases a; cases b
  simp at h2
  rw [h2]
theorem toList_iff {a b : ByteArray} : a.toList = b.toList ↔ bytesOf a = bytesOf b := by
  rw [Go.Lib.toList_data, Go.Lib.toList_data]
  constructor
  · intro h; unfold bytesOf; rw [h]
  · intro h; rw [bytesOf_inj h]
theorem bytes_ok (s : ByteArray) : ∀ x ∈ bytesOf s, 0 ≤ x ∧ x < 256 := by
  intro x hx
  unfold bytesOf at hx
  obtain ⟨b, _, rfl⟩ := List.mem_map.1 hx
  have := b.toNat_lt
  omega
theorem enc_inj {a b : Nat} (ha : a < 18446744073709551616) (hb : b < 18446744073709551616) (h : enc a = enc b) : a = b := by
  have h1 := rd64_enc ha []
  have h2 := rd64_enc hb []
  rw [h, h2] at h1
  have := congrArg Prod.fst h1
  simp at this
  omega

end Go.Proofs.Ytclnpedmoelipaa.Vm
