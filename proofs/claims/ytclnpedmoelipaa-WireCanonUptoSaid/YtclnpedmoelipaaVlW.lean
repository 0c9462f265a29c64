/- What each printed function of layer 1 that the law W reaches comes to, in the plain law's words. No program in sight, no condition beyond the sizes that are written. -/
import Derived.Test.YtclnpedmoelipaaQWx0
import Derived.Test.YtclnpedmoelipaaQWx1
import Derived.Test.YtclnpedmoelipaaQWx2
import Derived.Test.YtclnpedmoelipaaQWx3
import Derived.Test.YtclnpedmoelipaaQWx4
import Derived.Test.YtclnpedmoelipaaQWx5
import Derived.Test.YtclnpedmoelipaaQWx6
import Derived.Test.YtclnpedmoelipaaQWx7
import Derived.Test.YtclnpedmoelipaaQWx8
import Derived.Test.YtclnpedmoelipaaQWx9
import Derived.Test.YtclnpedmoelipaaQWx10
import Derived.Test.YtclnpedmoelipaaQWx11
import Derived.Test.YtclnpedmoelipaaQWx12
import Derived.Test.YtclnpedmoelipaaVm
import Derived.OpenShut
namespace Go.Proofs.Ytclnpedmoelipaa.VlW
open Go.RowKit Go.Proofs.Ytclnpedmoelipaa.QW Go.Proofs.YtclnpedmoelipaaW.PrintWords Go.Proofs.YtclnpedmoelipaaW.PrintMore Go.Proofs.Ytclnpedmoelipaa.Vm

set_option linter.unusedSimpArgs false
set_option linter.unusedVariables false
theorem rd_nat {xs : List Int} {i : Nat} (h : i < xs.length) : rd xs (i : Int) = xs[i] := by
  unfold rd; simp [List.getD_eq_getElem?_getD, h]
theorem wrap_succ {i : Nat} (h : (i : Int) < 9223372036854775807) : wrap64 ((i : Int) + 1) = ((i + 1 : Nat) : Int) := by unfold wrap64; omega
theorem bt_nat {s : ByteArray} {i : Nat} (h : i < s.size) : bt s (i : Int) = (bytesOf s)[i]'(by rw [bytesOf_length]; exact h) := by
  rw [← rd_bytesOf, rd_nat]

theorem form_ev : ∀ (v : Nat) (b : List Int), b.length + (enc v).length ≤ 140737488355328 → Ev (fun k => varint_form.f k b (v : Int)) (b ++ enc v) := by
  intro v
  unfold varint_form.f
  induction v using Nat.strongRecOn with
  | _ v ih =>
    intro b hb
    have hp := enc_pos v
    by_cases h : v < 128
    · rw [enc_lo h] at hb ⊢
      simp only [List.length_cons, List.length_nil] at hb
      refine Ev.step (f := fun _ => some (b ++ [(v : Int)])) (fun k => ?_) (Ev.now _)
      rw [varint_form.l0, if_neg (by omega), if_pos (by omega)]
      congr 3
      omega
    · rw [enc_hi h] at hb ⊢
      simp only [List.length_cons] at hb
      refine Ev.step (f := fun k => varint_form.l0 k (b ++ [((v % 128 + 128 : Nat) : Int)]) ((v / 128 : Nat) : Int)) (fun k => ?_) ?_
      · rw [varint_form.l0, if_pos (by omega), if_pos (by omega), or128]
        rfl
      · have := ih (v / 128) (by omega) (b ++ [((v % 128 + 128 : Nat) : Int)]) (by simp; omega)
        rw [List.append_assoc] at this
        exact this

theorem zig_some {v : Int} (h0 : -9223372036854775808 ≤ v) (h1 : v ≤ 9223372036854775807) : varint_Zigzag.f v = some (zig v : Int) := by
  unfold varint_Zigzag.f; rw [xor_zig v h0 h1]

theorem unzig_some {u : Nat} (h : u < 18446744073709551616) : varint_Unzigzag.f (u : Int) = some (unzig u) := by
  unfold varint_Unzigzag.f; rw [xor_unzig u h]

theorem take_loop (s : ByteArray) : ∀ (d i : Nat) (v : Int), i + d = 10 → 0 ≤ v → v < 128 ^ i → i ≤ s.size → Ev (fun k => varint_take.l0 k s v (i : Int)) (rdv d i v ((bytesOf s).drop i)) := by
  intro d
  induction d with
  | zero =>
    intro i v hi _ _ _
    refine Ev.step (f := fun _ => some (0, 0, 23)) (fun k => ?_) (Ev.now _)
    rw [varint_take.l0, if_neg (by omega)]
  | succ d ih =>
    intro i v hi hv0 hv hs
    by_cases he : i = s.size
    · have e : (bytesOf s).drop i = [] := List.drop_eq_nil_of_le (by rw [bytesOf_length]; omega)
      rw [e]
      refine Ev.step (f := fun _ => some (0, 0, 20)) (fun k => ?_) (Ev.now _)
      rw [varint_take.l0, if_pos (by omega), if_pos (by omega)]
    · have hlt : i < s.size := by omega
      have hl : i < (bytesOf s).length := by rw [bytesOf_length]; exact hlt
      rw [List.drop_eq_getElem_cons hl]
      have hbt := bt_nat hlt
      obtain ⟨hc0, hc1⟩ := bytes_ok s _ (List.getElem_mem hl)
      generalize (bytesOf s)[i] = c at hbt hc0 hc1
      have key : ∀ b : Bool, (b = true ↔ ((i = 9 ∧ 1 < c) ∨ (0 < i ∧ c = 0))) → Ev (fun k => varint_take.j1 k s v (i : Int) c (i : Int) b) (rdv (d + 1) i v (c :: (bytesOf s).drop (i + 1))) := by
        intro b hb
        simp only [rdv]
        by_cases hbad : (i = 9 ∧ 1 < c) ∨ (0 < i ∧ c = 0)
        · have hbt := hb.2 hbad
          subst hbt
          rw [if_pos hbad]
          refine Ev.step (f := fun _ => some (0, 0, 23)) (fun k => ?_) (Ev.now _)
          rw [varint_take.j1, if_pos rfl]
        · have hbf : b = false := by cases b; rfl; exact absurd (hb.1 rfl) hbad
          subst hbf
          rw [if_neg hbad]
          have hor := or_step (v := v) (c := c) (i := i) (by omega) hv0 hv hc0 hc1 (fun h9 => by subst h9; omega)
          by_cases h2 : c < 128
          · rw [if_pos h2]
            refine Ev.step (f := fun _ => some (v + c % 128 * 128 ^ i, (i : Int) + 1, 0)) (fun k => ?_) (Ev.now _)
            rw [varint_take.j1, if_neg (by simp), if_pos (wrap7_nn (by omega)), if_pos h2, hor, wrap_succ (by omega)]
            rfl
          · rw [if_neg h2]
            refine Ev.step (f := fun k => varint_take.l0 k s (v + c % 128 * 128 ^ i) ((i + 1 : Nat) : Int)) (fun k => ?_) ?_
            · rw [varint_take.j1, if_neg (by simp), if_pos (wrap7_nn (by omega)), if_neg h2, hor, wrap_succ (by omega)]
            · refine ih (i + 1) _ (by omega) ?_ ?_ (by omega)
              · exact Int.add_nonneg hv0 (Int.mul_nonneg (by omega) (Int.le_of_lt (pow_nn i)))
              · rw [pow_succ']
                have h127 : c % 128 ≤ 127 := by omega
                have := Int.mul_le_mul_of_nonneg_right h127 (Int.le_of_lt (pow_nn i))
                omega
      refine Ev.step (f := fun k => varint_take.j1 k s v (i : Int) c (i : Int) (decide ((i = 9 ∧ 1 < c) ∨ (0 < i ∧ c = 0)))) (fun k => ?_) (key _ decide_eq_true_iff)
      rw [varint_take.l0, if_pos (by omega), if_neg (by omega), if_pos (by omega), if_pos (by omega), hbt]
      by_cases h9 : i = 9
      · subst h9
        rw [if_pos (by rfl)]
        by_cases h1 : c > 1
        · rw [if_pos h1]; congr 1; symm; rw [decide_eq_true_iff]; omega
        · rw [if_neg h1, if_pos (by omega)]; congr 1; rw [Bool.eq_iff_iff, decide_eq_true_iff, beq_iff_eq]; omega
      · rw [if_neg (by omega)]
        by_cases h0 : 0 < i
        · rw [if_pos (by omega)]; congr 1; rw [Bool.eq_iff_iff, decide_eq_true_iff, beq_iff_eq]; omega
        · rw [if_neg (by omega)]; congr 1; symm; rw [decide_eq_false_iff_not]; omega
theorem take_ev (s : ByteArray) : Ev (fun k => varint_take.f k s) (rd64 (bytesOf s)) := by
  have := take_loop s 10 0 0 rfl (by omega) (by decide) (by omega)
  exact this

theorem varint_Read_uint64_ev (s : ByteArray) : Ev (fun k => varint_Read_uint64.f k s) (rd64 (bytesOf s)) := by
  unfold varint_Read_uint64.f
  refine Ev.bind (take_ev s) ?_
  rcases rd64_tells (bytesOf s) (bytes_ok s) with ⟨e, he, h⟩ | ⟨u, hu, _, _, h⟩
  · rw [h]; dsimp only; rw [if_neg (by omega)]; exact Ev.now _
  · rw [h]; dsimp only; simp only [eq_self, if_true]; exact Ev.now _

theorem varint_ReadSigned_int64_ev (s : ByteArray) : Ev (fun k => varint_ReadSigned_int64.f k s) (rdSigned (-9223372036854775808) 9223372036854775807 (rd64 (bytesOf s))) := by
  unfold varint_ReadSigned_int64.f
  refine Ev.bind (take_ev s) ?_
  rcases rd64_tells (bytesOf s) (bytes_ok s) with ⟨e, he, h⟩ | ⟨u, hu, _, _, h⟩
  · rw [h]; dsimp only [rdSigned]; rw [if_neg (by omega), if_neg (by omega)]; exact Ev.now _
  · rw [h]; dsimp only [rdSigned]; simp only [eq_self, if_true]; rw [unzig_some hu]
    simp only [Option.bind_some, eq_self, if_true]
    have := unzig_lo hu
    rw [Int.toNat_natCast, if_pos this]; exact Ev.now _

theorem varint_Put_uint64_loop (xs : List Int) (hxs : ∀ x ∈ xs, 0 ≤ x ∧ x ≤ 18446744073709551615) (hn : xs.length < 140737488355328) : ∀ (d i : Nat) (b : List Int), i + d = xs.length → b.length + 10 * d ≤ 140737488355328 →
    Ev (fun k => varint_Put_uint64.l0 k b xs (xs.length : Int) (i : Int)) (strOfNums (b ++ (xs.drop i).flatMap (fun x => enc x.toNat))) := by
  intro d
  induction d with
  | zero =>
    intro i b hi hb
    rw [List.drop_eq_nil_of_le (by omega)]
    refine Ev.step (f := fun _ => some (strOfNums b)) (fun k => ?_) ?_
    · rw [varint_Put_uint64.l0, if_neg (by omega)]
    · simp only [List.flatMap_nil, List.append_nil]; exact Ev.now _
  | succ d ih =>
    intro i b hi hb
    have hlt : i < xs.length := by omega
    obtain ⟨h0, h1⟩ := hxs _ (List.getElem_mem hlt)
    have he := enc_len64 (v := (xs[i]).toNat) (by omega)
    rw [List.drop_eq_getElem_cons hlt, List.flatMap_cons, ← List.append_assoc]
    have hc : ((xs[i]).toNat : Int) = xs[i] := by omega
    refine Ev.step (f := fun k => (varint_form.f k b ((xs[i]).toNat : Int)).bind fun t => varint_Put_uint64.l0 k t xs (xs.length : Int) ((i + 1 : Nat) : Int)) (fun k => ?_) ?_
    · rw [varint_Put_uint64.l0, if_pos (by omega), if_pos (by omega), if_pos (by omega), rd_nat hlt, wrap_succ (by omega), hc]
    · exact Ev.bind (form_ev _ b (by omega)) (ih (i + 1) _ (by omega) (by rw [List.length_append]; omega))
theorem varint_Put_uint64_ev (xs : List Int) (hxs : ∀ x ∈ xs, 0 ≤ x ∧ x ≤ 18446744073709551615) (hn : 10 * xs.length ≤ 140737488355328) : Ev (fun k => varint_Put_uint64.f k xs) (strOfNums (xs.flatMap (fun x => enc x.toNat))) := by
  have := varint_Put_uint64_loop xs hxs (by omega) xs.length 0 [] (by omega) (by simpa using hn)
  unfold varint_Put_uint64.f
  simpa using this

theorem varint_PutSigned_int64_loop (xs : List Int) (hxs : ∀ x ∈ xs, -9223372036854775808 ≤ x ∧ x ≤ 9223372036854775807) (hn : xs.length < 140737488355328) : ∀ (d i : Nat) (b : List Int), i + d = xs.length → b.length + 10 * d ≤ 140737488355328 →
    Ev (fun k => varint_PutSigned_int64.l0 k b xs (xs.length : Int) (i : Int)) (strOfNums (b ++ (xs.drop i).flatMap (fun x => enc (zig x)))) := by
  intro d
  induction d with
  | zero =>
    intro i b hi hb
    rw [List.drop_eq_nil_of_le (by omega)]
    refine Ev.step (f := fun _ => some (strOfNums b)) (fun k => ?_) ?_
    · rw [varint_PutSigned_int64.l0, if_neg (by omega)]
    · simp only [List.flatMap_nil, List.append_nil]; exact Ev.now _
  | succ d ih =>
    intro i b hi hb
    have hlt : i < xs.length := by omega
    obtain ⟨h0, h1⟩ := hxs _ (List.getElem_mem hlt)
    have he := enc_len64 (v := zig xs[i]) (zig_lt h0 h1)
    rw [List.drop_eq_getElem_cons hlt, List.flatMap_cons, ← List.append_assoc]
    refine Ev.step (f := fun k => (varint_form.f k b ((zig xs[i] : Nat) : Int)).bind fun t => varint_PutSigned_int64.l0 k t xs (xs.length : Int) ((i + 1 : Nat) : Int)) (fun k => ?_) ?_
    · rw [varint_PutSigned_int64.l0, if_pos (by omega), if_pos (by omega), if_pos (by omega), rd_nat hlt, wrap_succ (by omega)]
      rw [zig_some h0 h1]; rfl
    · exact Ev.bind (form_ev _ b (by omega)) (ih (i + 1) _ (by omega) (by rw [List.length_append]; omega))
theorem varint_PutSigned_int64_ev (xs : List Int) (hxs : ∀ x ∈ xs, -9223372036854775808 ≤ x ∧ x ≤ 9223372036854775807) (hn : 10 * xs.length ≤ 140737488355328) : Ev (fun k => varint_PutSigned_int64.f k xs) (strOfNums (xs.flatMap (fun x => enc (zig x)))) := by
  have := varint_PutSigned_int64_loop xs hxs (by omega) xs.length 0 [] (by omega) (by simpa using hn)
  unfold varint_PutSigned_int64.f
  simpa using this

theorem one_ev {v : Nat} (hv : v < 18446744073709551616) : Ev (fun k => gantryref01_one.f k (v : Int)) (enc v) := by
  have key : ∀ (v : Nat), v < 18446744073709551616 → ∀ b : List Int, b.length + (enc v).length ≤ 140737488355328 → Ev (fun k => gantryref01_one.l0 k (v : Int) b) (b ++ enc v) := by
    intro v
    induction v using Nat.strongRecOn with
    | _ v ih =>
      intro hv b hb
      have hp := enc_pos v
      by_cases h : v < 128
      · rw [enc_lo h] at hb ⊢
        simp only [List.length_cons, List.length_nil] at hb
        refine Ev.step (f := fun _ => some (b ++ [(v : Int)])) (fun k => ?_) (Ev.now _)
        rw [gantryref01_one.l0, if_neg (by omega), if_pos (by omega)]
        congr 3
        omega
      · rw [enc_hi h] at hb ⊢
        simp only [List.length_cons] at hb
        refine Ev.step (f := fun k => gantryref01_one.l0 k ((v / 128 : Nat) : Int) (b ++ [((v % 128 + 128 : Nat) : Int)])) (fun k => ?_) ?_
        · rw [gantryref01_one.l0, if_pos (by omega), if_pos (by omega)]
          have e1 : IntKind.u64.wrap (Int.tdiv (v : Int) 128) = ((v / 128 : Nat) : Int) := by rw [IntKind.wrap_u64, Int.tdiv_eq_ediv_of_nonneg (by omega)]; omega
          have e2 : ((Int.tmod (v : Int) 128) + 128) % 256 = ((v % 128 + 128 : Nat) : Int) := by rw [Int.tmod_eq_emod_of_nonneg (by omega)]; omega
          rw [e1, e2]
        · have := ih (v / 128) (by omega) (by omega) (b ++ [((v % 128 + 128 : Nat) : Int)]) (by simp; omega)
          rw [List.append_assoc] at this
          exact this
  have h1 := enc_len64 hv
  exact key v hv [] (by simp; omega)

theorem refPut_ev (xs : List Int) (hxs : ∀ x ∈ xs, 0 ≤ x ∧ x ≤ 18446744073709551615) (hn : 10 * xs.length < 140737488355328) : Ev (fun k => gantryref01_Put.f k xs) (strOfNums (xs.flatMap (fun x => enc x.toNat))) := by
  have key : ∀ (d i : Nat) (b : List Int), i + d = xs.length → b.length + 10 * d < 140737488355328 → Ev (fun k => gantryref01_Put.l0 k xs b (i : Int)) (strOfNums (b ++ (xs.drop i).flatMap (fun x => enc x.toNat))) := by
    intro d
    induction d with
    | zero =>
      intro i b hi hb
      rw [List.drop_eq_nil_of_le (by omega)]
      refine Ev.step (f := fun _ => some (strOfNums b)) (fun k => ?_) ?_
      · rw [gantryref01_Put.l0, if_neg (by omega)]
      · simp only [List.flatMap_nil, List.append_nil]; exact Ev.now _
    | succ d ih =>
      intro i b hi hb
      have hlt : i < xs.length := by omega
      obtain ⟨h0, h1⟩ := hxs _ (List.getElem_mem hlt)
      have he := enc_len64 (v := (xs[i]).toNat) (by omega)
      rw [List.drop_eq_getElem_cons hlt, List.flatMap_cons, ← List.append_assoc]
      have hc : ((xs[i]).toNat : Int) = xs[i] := by omega
      refine Ev.step (f := fun k => (gantryref01_one.f k ((xs[i]).toNat : Int)).bind fun t => if b.length + t.length < 140737488355328 then gantryref01_Put.l0 k xs (b ++ t) ((i + 1 : Nat) : Int) else none) (fun k => ?_) ?_
      · rw [gantryref01_Put.l0, if_pos (by omega), if_pos (by omega), rd_nat hlt, wrap_succ (by omega), hc]
      · refine Ev.bind (one_ev (by omega)) ?_
        have hr : b.length + (enc (xs[i]).toNat).length < 140737488355328 := by omega
        simp only [hr, if_true]
        exact ih (i + 1) _ (by omega) (by rw [List.length_append]; omega)
  have := key xs.length 0 [] (by omega) (by simpa using hn)
  unfold gantryref01_Put.f
  simpa using this

theorem refZig_some {v : Int} (h0 : -9223372036854775808 ≤ v) (h1 : v ≤ 9223372036854775807) : gantryref01_Zigzag.f v = some (zig v : Int) := by
  unfold gantryref01_Zigzag.f zig
  by_cases h : 0 ≤ v
  · rw [if_pos h, if_pos h, IntKind.wrap_u64, IntKind.wrap_u64]; congr 1; omega
  · rw [if_neg h, if_neg h]; simp only [IntKind.wrap_u64]; congr 1; unfold wrap64; omega

theorem refPutSigned_ev (xs : List Int) (hxs : ∀ x ∈ xs, -9223372036854775808 ≤ x ∧ x ≤ 9223372036854775807) (hn : 10 * xs.length < 140737488355328) : Ev (fun k => gantryref01_PutSigned.f k xs) (strOfNums (xs.flatMap (fun x => enc (zig x)))) := by
  have key : ∀ (d i : Nat), i + d = xs.length → Ev (fun k => gantryref01_PutSigned.l0 k xs ((xs.take i).map fun x => (zig x : Int)) (i : Int)) (strOfNums (xs.flatMap (fun x => enc (zig x)))) := by
    intro d
    induction d with
    | zero =>
      intro i hi
      rw [List.take_of_length_le (by omega)]
      refine Ev.step (f := fun k => (gantryref01_Put.f k (xs.map fun x => (zig x : Int))).bind fun t => some t) (fun k => ?_) ?_
      · rw [gantryref01_PutSigned.l0, if_neg (by omega)]
      · have h := refPut_ev (xs.map fun x => (zig x : Int)) (by
          intro y hy
          obtain ⟨x, hx, rfl⟩ := List.mem_map.1 hy
          have := zig_lt (hxs x hx).1 (hxs x hx).2
          omega) (by rw [List.length_map]; exact hn)
        have e : (xs.map fun x => (zig x : Int)).flatMap (fun x => enc x.toNat) = xs.flatMap (fun x => enc (zig x)) := by
          rw [List.flatMap_map]; rfl
        rw [e] at h
        exact Ev.bind h (Ev.now _)
    | succ d ih =>
      intro i hi
      have hlt : i < xs.length := by omega
      obtain ⟨h0, h1⟩ := hxs _ (List.getElem_mem hlt)
      refine Ev.step (f := fun k => gantryref01_PutSigned.l0 k xs ((xs.take (i + 1)).map fun x => (zig x : Int)) ((i + 1 : Nat) : Int)) (fun k => ?_) (ih (i + 1) (by omega))
      rw [gantryref01_PutSigned.l0, if_pos (by omega), if_pos (by omega), rd_nat hlt, wrap_succ (by omega), refZig_some h0 h1]
      simp only [Option.bind_some]
      rw [if_pos (by simp; omega), List.take_succ_eq_append_getElem hlt, List.map_append]
      rfl
  have := key xs.length 0 (by omega)
  exact this

theorem refRead_loop (s : ByteArray) : ∀ (d i : Nat) (v : Int), i + d = 10 → 0 ≤ v → v < 128 ^ i → i ≤ s.size → Ev (fun k => gantryref01_Read.l0 k s v (if i < 10 then 128 ^ i else 0) (i : Int)) (rdv d i v ((bytesOf s).drop i)) := by
  intro d
  induction d with
  | zero =>
    intro i v hi _ _ _
    refine Ev.step (f := fun _ => some (0, 0, 23)) (fun k => ?_) (Ev.now _)
    rw [gantryref01_Read.l0, if_neg (by omega)]
  | succ d ih =>
    intro i v hi hv0 hv hs
    rw [if_pos (by omega)]
    by_cases he : i = s.size
    · have e : (bytesOf s).drop i = [] := List.drop_eq_nil_of_le (by rw [bytesOf_length]; omega)
      rw [e]
      refine Ev.step (f := fun _ => some (0, 0, 20)) (fun k => ?_) (Ev.now _)
      rw [gantryref01_Read.l0, if_pos (by omega), if_pos (by omega)]
    · have hlt : i < s.size := by omega
      have hl : i < (bytesOf s).length := by rw [bytesOf_length]; exact hlt
      rw [List.drop_eq_getElem_cons hl]
      have hbt := bt_nat hlt
      obtain ⟨hc0, hc1⟩ := bytes_ok s _ (List.getElem_mem hl)
      generalize (bytesOf s)[i] = c at hbt hc0 hc1
      have ewc : IntKind.u64.wrap c = c := by rw [IntKind.wrap_u64]; omega
      have key : ∀ b : Bool, (b = true ↔ ((i = 9 ∧ 1 < c) ∨ (0 < i ∧ c = 0))) → Ev (fun k => gantryref01_Read.j1 k s v (128 ^ i) (i : Int) c b) (rdv (d + 1) i v (c :: (bytesOf s).drop (i + 1))) := by
        intro b hb
        simp only [rdv]
        by_cases hbad : (i = 9 ∧ 1 < c) ∨ (0 < i ∧ c = 0)
        · have hbt := hb.2 hbad
          subst hbt
          rw [if_pos hbad]
          refine Ev.step (f := fun _ => some (0, 0, 23)) (fun k => ?_) (Ev.now _)
          rw [gantryref01_Read.j1, if_pos rfl]
        · have hbf : b = false := by cases b; rfl; exact absurd (hb.1 rfl) hbad
          subst hbf
          rw [if_neg hbad]
          obtain ⟨e1, e2⟩ := sum_step (v := v) (c := c) (i := i) (by omega) hv0 hv hc0 hc1 (fun h9 => by subst h9; omega)
          by_cases h2 : c < 128
          · rw [if_pos h2]
            refine Ev.step (f := fun _ => some (v + c % 128 * 128 ^ i, (i : Int) + 1, 0)) (fun k => ?_) (Ev.now _)
            rw [gantryref01_Read.j1, if_neg (by simp), if_pos h2, e1, wrap_succ (by omega)]
            rfl
          · rw [if_neg h2]
            refine Ev.step (f := fun k => gantryref01_Read.l0 k s (v + c % 128 * 128 ^ i) (if i + 1 < 10 then 128 ^ (i + 1) else 0) ((i + 1 : Nat) : Int)) (fun k => ?_) ?_
            · rw [gantryref01_Read.j1, if_neg (by simp), if_neg h2, e1, e2, wrap_succ (by omega)]
            · refine ih (i + 1) _ (by omega) ?_ ?_ (by omega)
              · exact Int.add_nonneg hv0 (Int.mul_nonneg (by omega) (Int.le_of_lt (pow_nn i)))
              · rw [pow_succ']
                have h127 : c % 128 ≤ 127 := by omega
                have := Int.mul_le_mul_of_nonneg_right h127 (Int.le_of_lt (pow_nn i))
                omega
      refine Ev.step (f := fun k => gantryref01_Read.j1 k s v (128 ^ i) (i : Int) c (decide ((i = 9 ∧ 1 < c) ∨ (0 < i ∧ c = 0)))) (fun k => ?_) (key _ decide_eq_true_iff)
      rw [gantryref01_Read.l0, if_pos (by omega), if_neg (by omega), if_pos (by omega), if_pos (by omega), hbt, ewc]
      by_cases h9 : i = 9
      · subst h9
        rw [if_pos (by rfl)]
        by_cases h1 : c > 1
        · rw [if_pos h1]; congr 1; symm; rw [decide_eq_true_iff]; omega
        · rw [if_neg h1, if_pos (by omega)]; congr 1; rw [Bool.eq_iff_iff, decide_eq_true_iff, beq_iff_eq]; omega
      · rw [if_neg (by omega)]
        by_cases h0 : 0 < i
        · rw [if_pos (by omega)]; congr 1; rw [Bool.eq_iff_iff, decide_eq_true_iff, beq_iff_eq]; omega
        · rw [if_neg (by omega)]; congr 1; symm; rw [decide_eq_false_iff_not]; omega
theorem refRead_ev (s : ByteArray) : Ev (fun k => gantryref01_Read.f k s) (rd64 (bytesOf s)) := by
  have := refRead_loop s 10 0 0 rfl (by omega) (by decide) (by omega)
  exact this

theorem refUnzig_some {u : Nat} (h : u < 18446744073709551616) : gantryref01_Unzigzag.f (u : Int) = some (unzig u) := by
  unfold gantryref01_Unzigzag.f unzig
  rw [Int.tmod_eq_emod_of_nonneg (by omega), Int.tdiv_eq_ediv_of_nonneg (by omega)]
  by_cases hb : u % 2 = 0
  · rw [if_pos (by omega), if_pos hb, IntKind.wrap_u64]; congr 1; unfold wrap64; omega
  · rw [if_neg (by omega), if_neg hb, IntKind.wrap_u64]; congr 1; unfold wrap64; omega

end Go.Proofs.Ytclnpedmoelipaa.VlW
