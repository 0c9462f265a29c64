/- The best match of layer 4: the program's and the reference's; the fixed answers. -/
import Derived.Test.YtgnoaokpahklaaaLzt
import Derived.Test.YtgnoaokpahklaaaQBf12
namespace Go.Proofs.Ytgnoaokpahklaaa.Lzb
open Go Go.RowKit Go.Lib Go.Proofs.Ytgnoaokpahklaaa.Lzm Go.Proofs.Ytgnoaokpahklaaa.Lzw Go.Proofs.YtgnoaokpahklaaaW.PrintWords Go.Proofs.Ytgnoaokpahklaaa.QB Go.Proofs.YtgnoaokpahklaaaW.PrintLast Go.Proofs.YtgnoaokpahklaaaW.PrintMore Go.Proofs.Ytgnoaokpahklaaa.Vm Go.Proofs.Ytgnoaokpahklaaa.Lzt
open Go.Proofs.Ytgnoaokpahklaaa.Lzp (litB litB_nil litB_cons litB_len matB packB packF size_toList toList_nil_iff)
set_option linter.unusedVariables false
set_option linter.unusedSimpArgs false

def bestI (S : ByteArray) (a : Int) : Int × Int := if a < 0 ∨ (S.size : Int) ≤ a then (0, 0) else (((bestAt (gb S) S.size a.toNat).1 : Int), ((bestAt (gb S) S.size a.toNat).2 : Int))
theorem alike_same : ∀ (k : Nat) (S : ByteArray) (a b n m : Int), lz_alike.l0 k S a b n m = QA.lz_alike.l0 k S a b n m
  | 0, _, _, _, _, _ => rfl
  | k + 1, S, a, b, n, m => by rw [lz_alike.l0, QA.lz_alike.l0, alike_same k]
theorem alike_ev' (S : ByteArray) (hS : S.size ≤ 140737488355328) (q p : Nat) (hq : q < p) (hp : p ≤ S.size) : Ev (fun k => lz_alike.f k S (q : Int) (p : Int)) ((aln (gb S) S.size q p : Nat) : Int) := by
  refine Ev.congr (fun k => ?_) (Lzw.alike_ev S hS q p hq hp)
  exact alike_same k _ _ _ _ _
theorem lzBest_l0 (S : ByteArray) (hS : S.size ≤ 140737488355328) (p : Nat) (hp : p < S.size) : ∀ (r m : Nat), m + r = min p 8192 → ∀ n d : Nat, best (gb S) S.size p 4 m = (n, d) →
    Ev (fun k => lz_Best.l0 k S (p : Int) (n : Int) (d : Int) ((m + 1 : Nat) : Int)) (((bestAt (gb S) S.size p).1 : Int), ((bestAt (gb S) S.size p).2 : Int)) := by
  intro r
  induction r with
  | zero =>
    intro m hm n d hb
    have e : bestAt (gb S) S.size p = (n, d) := by unfold bestAt; rw [← hm, Nat.add_zero]; exact hb
    rw [e]
    refine Ev.step (f := fun k => lz_Best.j2 k S (p : Int) (n : Int) (d : Int) ((m + 1 : Nat) : Int) false) (fun k => ?_) (Ev.step (f := fun _ => some ((n : Int), (d : Int))) (fun k => ?_) (Ev.now _))
    · rw [lz_Best.l0, if_neg (by unfold mn; omega)]
    · rw [lz_Best.j2, if_neg (by simp)]
  | succ r ih =>
    intro m hm n d hb
    by_cases h131 : n = 131
    · have e : bestAt (gb S) S.size p = (n, d) := by
        unfold bestAt
        rw [best_full' (gb S) S.size p 4 m (min p 8192) (by rw [hb]; exact h131) (by omega), hb]
      rw [e]
      refine Ev.step (f := fun k => lz_Best.j2 k S (p : Int) (n : Int) (d : Int) ((m + 1 : Nat) : Int) false) (fun k => ?_) (Ev.step (f := fun _ => some ((n : Int), (d : Int))) (fun k => ?_) (Ev.now _))
      · rw [lz_Best.l0, if_pos (by unfold mn; omega)]
        rw [show decide ((n : Int) < 131) = false from by rw [decide_eq_false_iff_not]; omega]
      · rw [lz_Best.j2, if_neg (by simp)]
    · have hle := best_le (gb S) S.size p 4 m
      rw [hb] at hle
      have hn : n ≤ 131 := hle.1
      refine Ev.step (f := fun k => lz_Best.j2 k S (p : Int) (n : Int) (d : Int) ((m + 1 : Nat) : Int) true) (fun k => ?_) ?_
      · rw [lz_Best.l0, if_pos (by unfold mn; omega)]
        rw [show decide ((n : Int) < 131) = true from by rw [decide_eq_true_iff]; omega]
      · have hal := alike_ev' S hS (p - (m + 1)) p (by omega) (by omega)
        have hnx : best (gb S) S.size p 4 (m + 1) = Lzm.step 4 (aln (gb S) S.size (p - (m + 1)) p) (m + 1) (n, d) := by
          show Lzm.step 4 _ _ (best (gb S) S.size p 4 m) = _; rw [hb]
        refine Ev.step (f := fun k => (lz_alike.f k S (((p - (m + 1) : Nat) : Int)) (p : Int)).bind fun t => (if t ≥ 4 then (if t > (n : Int) then (lz_Best.l0 k S (p : Int) t ((m + 1 : Nat) : Int) ((m + 1 + 1 : Nat) : Int)) else (lz_Best.l0 k S (p : Int) (n : Int) (d : Int) ((m + 1 + 1 : Nat) : Int))) else (lz_Best.l0 k S (p : Int) (n : Int) (d : Int) ((m + 1 + 1 : Nat) : Int)))) (fun k => ?_) (Ev.bind hal ?_)
        · rw [lz_Best.j2, if_pos rfl, wrap_id (by omega) (by omega), wrap_id (by omega) (by omega)]
          rw [show (p : Int) - ((m + 1 : Nat) : Int) = ((p - (m + 1) : Nat) : Int) from by omega]
          rfl
        · generalize aln (gb S) S.size (p - (m + 1)) p = t at *
          by_cases h4 : 4 ≤ t
          · by_cases hnt : n < t
            · have := ih (m + 1) (by omega) t (m + 1) (by rw [hnx, Lzm.step_take h4 hnt])
              refine Ev.congr (fun k => ?_) this
              rw [if_pos (by omega), if_pos (by omega)]
            · have := ih (m + 1) (by omega) n d (by rw [hnx, Lzm.step_skip (.inr (by show t ≤ n; omega))])
              refine Ev.congr (fun k => ?_) this
              rw [if_pos (by omega), if_neg (by omega)]
          · have := ih (m + 1) (by omega) n d (by rw [hnx, Lzm.step_skip (.inl (by omega))])
            refine Ev.congr (fun k => ?_) this
            rw [if_neg (by omega)]
theorem lzBest_ev (S : ByteArray) (hS : S.size ≤ 140737488355328) (a : Int) : Ev (fun k => lz_Best.f k S a) (bestI S a) := by
  have hz : ∀ b : Bool, b = true → Ev (fun k => lz_Best.j0 k S a 0 0 b) (0, 0) := by
    intro b hb
    exact Ev.step (f := fun _ => some ((0 : Int), (0 : Int))) (fun k => by rw [lz_Best.j0, if_pos hb]) (Ev.now _)
  unfold lz_Best.f bestI
  by_cases h0 : a < 0
  · simp only [h0, if_true, true_or]; exact hz true rfl
  · by_cases h1 : (S.size : Int) ≤ a
    · simp only [h0, if_false, h1, false_or, if_true]; exact hz _ (by simp)
    · simp only [h0, if_false, h1, false_or]
      obtain ⟨p, rfl⟩ := Int.eq_ofNat_of_zero_le (Int.not_lt.1 h0)
      rw [Int.toNat_natCast]
      refine Ev.step (f := fun k => lz_Best.l0 k S (p : Int) ((0 : Nat) : Int) ((0 : Nat) : Int) ((0 + 1 : Nat) : Int)) (fun k => ?_) (lzBest_l0 S hS p (by omega) (min p 8192) 0 (by omega) 0 0 rfl)
      rw [lz_Best.j0, if_neg (by simp)]
      rfl
/-! The fixed answers. -/
theorem fixed_ev : Ev (fun k => gantrylaw04_fixed.f k) true := by
  unfold gantrylaw04_fixed.f
  have u1 := lzUnpack_ev (⟨#[2, 97, 98, 99, 130, 0, 3, 0, 100]⟩ : ByteArray) 10 10 (by omega) (by omega) (by show 131 * 9 < _; omega)
  rw [show unpack (bytesOf (⟨#[2, 97, 98, 99, 130, 0, 3, 0, 100]⟩ : ByteArray)) 10 10 = ([97, 98, 99, 97, 98, 99, 97, 98, 99, 100], 0) from by decide +kernel] at u1
  have u2 := lzUnpack_ev (⟨#[128, 0, 1]⟩ : ByteArray) 4 9 (by omega) (by omega) (by show 131 * 3 < _; omega)
  rw [show unpack (bytesOf (⟨#[128, 0, 1]⟩ : ByteArray)) 4 9 = ([], 25) from by decide +kernel] at u2
  have u3 := lzBest_ev (⟨#[97, 98, 99, 97, 98, 99, 97, 98, 99, 100]⟩ : ByteArray) (by show 10 ≤ _; omega) 3
  rw [show bestI (⟨#[97, 98, 99, 97, 98, 99, 97, 98, 99, 100]⟩ : ByteArray) 3 = (6, 3) from by decide +kernel] at u3
  have hp : ∀ k, lz_Pack.f k (⟨#[97, 98, 99, 97, 98, 99, 97, 98, 99, 100]⟩ : ByteArray) = some (⟨#[2, 97, 98, 99, 130, 0, 3, 0, 100]⟩ : ByteArray) := by
    intro k
    have : packB (⟨#[97, 98, 99, 97, 98, 99, 97, 98, 99, 100]⟩ : ByteArray) = [2, 97, 98, 99, 130, 0, 3, 0, 100] := by decide +kernel
    unfold lz_Pack.f
    rw [if_pos (by show 10 ≤ _; omega), this]; rfl
  refine Ev.bind u1 (Ev.bind u2 (Ev.bind u3 (Ev.bind (Ev.congr hp (Ev.now _)) ?_)))
  have hb : lz_Bound.f 129 = some 131 := by decide +kernel
  refine Ev.congr (fun k => ?_) (Ev.now true)
  rw [hb]
  simp only [Lib.toList_data]
  decide +kernel
end Go.Proofs.Ytgnoaokpahklaaa.Lzb
