/- The best match of layer 4: the program's and the reference's; the fixed answers. -/
import Derived.Test.YtgnoaokpahklaaaLzt
import Derived.Test.YtgnoaokpahklaaaQBx4
namespace Go.Proofs.Ytgnoaokpahklaaa.Lzb
open Go Go.RowKit Go.Lib Go.Proofs.Ytgnoaokpahklaaa.Lzm Go.Proofs.Ytgnoaokpahklaaa.Lzw Go.Proofs.YtgnoaokpahklaaaW.PrintWords Go.Proofs.Ytgnoaokpahklaaa.QB Go.Proofs.YtgnoaokpahklaaaW.PrintLast Go.Proofs.YtgnoaokpahklaaaW.PrintMore Go.Proofs.Ytgnoaokpahklaaa.Vm Go.Proofs.Ytgnoaokpahklaaa.Lzt
open Go.Proofs.Ytgnoaokpahklaaa.Lzp (litB litB_nil litB_cons litB_len matB packB packF size_toList toList_nil_iff)
set_option linter.unusedVariables false
set_option linter.unusedSimpArgs false

def bestI (S : ByteArray) (a : Int) : Int × Int := if a < 0 ∨ (S.size : Int) ≤ a then (0, 0) else (((bestAt (gb S) S.size a.toNat).1 : Int), ((bestAt (gb S) S.size a.toNat).2 : Int))
theorem alike_same : ∀ (k : Nat) (S : ByteArray) (a b n m : Int), lz_alike.l0 k S a b n m = QA.lz_alike.l0 k S a b n m
  | 0, _, _, _, _, _ => rfl
  | k + 1, S, a, b, n, m => by rw [lz_alike.l0, QA.lz_alike.l0, alike_same k]
theorem alike_ev' (S : ByteArray) (hS : S.size ≤ 140737488355328) (q p : Nat) (hq : q < p) (hp : p ≤ S.size) : Ev (fun k => lz_alike.f k S (q : Int) (p : Int)) ((aln (gb S) S.size q p : Nat) : Int) := by
  refine Ev.congr (fun k => ?_) (Lzw.alike_ev S hS q p hq hp)
  exact alike_same k _ _ _ _ _
theorem lzBest_l0 (S : ByteArray) (hS : S.size ≤ 140737488355328) (p : Nat) (hp : p < S.size) : ∀ (r m : Nat), m + r = min p 8192 → ∀ n d : Nat, best (gb S) S.size p 4 m = (n, d) →
    Ev (fun k => lz_Best.l0 k S (p : Int) (n : Int) (d : Int) ((m + 1 : Nat) : Int)) (((bestAt (gb S) S.size p).1 : Int), ((bestAt (gb S) S.size p).2 : Int)) := by
  intro r
  induction r with
  | zero =>
    intro m hm n d hb
    have e : bestAt (gb S) S.size p = (n, d) := by unfold bestAt; rw [← hm, Nat.add_zero]; exact hb
    rw [e]
    refine Ev.step (f := fun k => lz_Best.j2 k S (p : Int) (n : Int) (d : Int) ((m + 1 : Nat) : Int) false) (fun k => ?_) (Ev.step (f := fun _ => some ((n : Int), (d : Int))) (fun k => ?_) (Ev.now _))
    · rw [lz_Best.l0, if_neg (by unfold mn; omega)]
    · rw [lz_Best.j2, if_neg (by simp)]
  | succ r ih =>
    intro m hm n d hb
    by_cases h131 : n = 131
    · have e : bestAt (gb S) S.size p = (n, d) := by
        unfold bestAt
        rw [best_full' (gb S) S.size p 4 m (min p 8192) (by rw [hb]; exact h131) (by omega), hb]
      rw [e]
      refine Ev.step (f := fun k => lz_Best.j2 k S (p : Int) (n : Int) (d : Int) ((m + 1 : Nat) : Int) false) (fun k => ?_) (Ev.step (f := fun _ => some ((n : Int), (d : Int))) (fun k => ?_) (Ev.now _))
      · rw [lz_Best.l0, if_pos (by unfold mn; omega)]
        rw [show decide ((n : Int) < 131) = false from by rw [decide_eq_false_iff_not]; omega]
      · rw [lz_Best.j2, if_neg (by simp)]
    · have hle := best_le (gb S) S.size p 4 m
      rw [hb] at hle
      have hn : n ≤ 131 := hle.1
      refine Ev.step (f := fun k => lz_Best.j2 k S (p : Int) (n : Int) (d : Int) ((m + 1 : Nat) : Int) true) (fun k => ?_) ?_
      · rw [lz_Best.l0, if_pos (by unfold mn; omega)]
        rw [show decide ((n : Int) < 131) = true from by rw [decide_eq_true_iff]; omega]
      · have hal := alike_ev' S hS (p - (m + 1)) p (by omega) (by omega)
        have hnx : best (gb S) S.size p 4 (m + 1) = Lzm.step 4 (aln (gb S) S.size (p - (m + 1)) p) (m + 1) (n, d) := by
          show Lzm.step 4 _ _ (best (gb S) S.size p 4 m) = _; rw [hb]
        refine Ev.step (f := fun k => (lz_alike.f k S (((p - (m + 1) : Nat) : Int)) (p : Int)).bind fun t => (if t ≥ 4 then (if t > (n : Int) then (lz_Best.l0 k S (p : Int) t ((m + 1 : Nat) : Int) ((m + 1 + 1 : Nat) : Int)) else (lz_Best.l0 k S (p : Int) (n : Int) (d : Int) ((m + 1 + 1 : Nat) : Int))) else (lz_Best.l0 k S (p : Int) (n : Int) (d : Int) ((m + 1 + 1 : Nat) : Int)))) (fun k => ?_) (Ev.bind hal ?_)
        · rw [lz_Best.j2, if_pos rfl, wrap_id (by omega) (by omega), wrap_id (by omega) (by omega)]
          rw [show (p : Int) - ((m + 1 : Nat) : Int) = ((p - (m + 1) : Nat) : Int) from by omega]
          rfl
        · generalize aln (gb S) S.size (p - (m + 1)) p = t at *
          by_cases h4 : 4 ≤ t
          · by_cases hnt : n < t
            · have := ih (m + 1) (by omega) t (m + 1) (by rw [hnx, Lzm.step_take h4 hnt])
              refine Ev.congr (fun k => ?_) this
              rw [if_pos (by omega), if_pos (by omega)]
            · have := ih (m + 1) (by omega) n d (by rw [hnx, Lzm.step_skip (.inr (by show t ≤ n; omega))])
              refine Ev.congr (fun k => ?_) this
              rw [if_pos (by omega), if_neg (by omega)]
          · have := ih (m + 1) (by omega) n d (by rw [hnx, Lzm.step_skip (.inl (by omega))])
            refine Ev.congr (fun k => ?_) this
            rw [if_neg (by omega)]
theorem lzBest_ev (S : ByteArray) (hS : S.size ≤ 140737488355328) (a : Int) : Ev (fun k => lz_Best.f k S a) (bestI S a) := by
  have hz : ∀ b : Bool, b = true → Ev (fun k => lz_Best.j0 k S a 0 0 b) (0, 0) := by
    intro b hb
    exact Ev.step (f := fun _ => some ((0 : Int), (0 : Int))) (fun k => by rw [lz_Best.j0, if_pos hb]) (Ev.now _)
  unfold lz_Best.f bestI
  by_cases h0 : a < 0
  · simp only [h0, if_true, true_or]; exact hz true rfl
  · by_cases h1 : (S.size : Int) ≤ a
    · simp only [h0, if_false, h1, false_or, if_true]; exact hz _ (by simp)
    · simp only [h0, if_false, h1, false_or]
      obtain ⟨p, rfl⟩ := Int.eq_ofNat_of_zero_le (Int.not_lt.1 h0)
      rw [Int.toNat_natCast]
      refine Ev.step (f := fun k => lz_Best.l0 k S (p : Int) ((0 : Nat) : Int) ((0 : Nat) : Int) ((0 + 1 : Nat) : Int)) (fun k => ?_) (lzBest_l0 S hS p (by omega) (min p 8192) 0 (by omega) 0 0 rfl)
      rw [lz_Best.j0, if_neg (by simp)]
      rfl
/-! The reference's. -/
def outR (n d : Nat) : Int × Int := if n < 4 then (0, 0) else ((n : Int), (d : Int))
theorem refBest_l0 (S : ByteArray) (hS : S.size ≤ 140737488355328) (p : Nat) (hp : p < S.size) : ∀ (r m : Nat), m + r = min p 8192 → ∀ n d : Nat, best (gb S) S.size p 1 m = (n, d) →
    Ev (fun k => gantryref04_Best.l0 k S (p : Int) (n : Int) (d : Int) ((m + 1 : Nat) : Int)) (outR (best (gb S) S.size p 1 (min p 8192)).1 (best (gb S) S.size p 1 (min p 8192)).2) := by
  have hend : ∀ n d x8 : Nat, Ev (fun k => gantryref04_Best.j2 k S (p : Int) (n : Int) (d : Int) (x8 : Int) false) (outR n d) := by
    intro n d x8
    refine Ev.step (f := fun _ => some (outR n d)) (fun k => ?_) (Ev.now _)
    rw [gantryref04_Best.j2, if_neg (by simp)]
    unfold outR
    by_cases h : n < 4
    · rw [if_pos (by omega), if_pos h]
    · rw [if_neg (by omega), if_neg h]
  intro r
  induction r with
  | zero =>
    intro m hm n d hb
    have e : best (gb S) S.size p 1 (min p 8192) = (n, d) := by rw [← hm, Nat.add_zero]; exact hb
    rw [e]
    refine Ev.step (f := fun k => gantryref04_Best.j2 k S (p : Int) (n : Int) (d : Int) ((m + 1 : Nat) : Int) false) (fun k => ?_) (hend n d (m + 1))
    rw [gantryref04_Best.l0]
    by_cases h1 : ((m + 1 : Nat) : Int) ≤ (p : Int)
    · rw [if_pos h1, if_neg (by omega)]
    · rw [if_neg h1]
  | succ r ih =>
    intro m hm n d hb
    by_cases h131 : n = 131
    · have e : best (gb S) S.size p 1 (min p 8192) = (n, d) := by rw [best_full' (gb S) S.size p 1 m (min p 8192) (by rw [hb]; exact h131) (by omega), hb]
      rw [e]
      refine Ev.step (f := fun k => gantryref04_Best.j2 k S (p : Int) (n : Int) (d : Int) ((m + 1 : Nat) : Int) false) (fun k => ?_) (hend n d (m + 1))
      rw [gantryref04_Best.l0, if_pos (by omega), if_pos (by omega), show decide ((n : Int) < 131) = false from by rw [decide_eq_false_iff_not]; omega]
    · have hle := best_le (gb S) S.size p 1 m
      rw [hb] at hle
      have hn : n ≤ 131 := hle.1
      refine Ev.step (f := fun k => gantryref04_Best.j2 k S (p : Int) (n : Int) (d : Int) ((m + 1 : Nat) : Int) true) (fun k => ?_) ?_
      · rw [gantryref04_Best.l0, if_pos (by omega), if_pos (by omega), show decide ((n : Int) < 131) = true from by rw [decide_eq_true_iff]; omega]
      by_cases hendb : S.size ≤ p + n
      · have e : best (gb S) S.size p 1 (min p 8192) = (n, d) := by rw [best_end' (gb S) S.size p 1 m (min p 8192) (by rw [hb]; exact hendb) (by omega), hb]
        rw [e]
        refine Ev.step (f := fun _ => some (outR n d)) (fun k => ?_) (Ev.now _)
        rw [gantryref04_Best.j2, if_pos rfl, wrap_id (x := (p : Int) + n) (by omega) (by omega), if_pos (by omega)]
        unfold outR
        by_cases h : n < 4
        · rw [if_pos (by omega), if_pos h]
        · rw [if_neg (by omega), if_neg h]
      · have hnx : best (gb S) S.size p 1 (m + 1) = Lzm.step 1 (aln (gb S) S.size (p - (m + 1)) p) (m + 1) (n, d) := by
          show Lzm.step 1 _ _ (best (gb S) S.size p 1 m) = _; rw [hb]
        obtain ⟨q, hq⟩ : ∃ q, q = p - (m + 1) := ⟨_, rfl⟩
        have hqi : (p : Int) - ((m + 1 : Nat) : Int) = (q : Int) := by omega
        rw [← hq] at hnx
        have hgq : ∀ i : Nat, bt S ((q : Int) + (i : Int)) = gb S (q + i) := fun i => by unfold gb; rw [Int.natCast_add]
        have hgp : ∀ i : Nat, bt S ((p : Int) + (i : Int)) = gb S (p + i) := fun i => by unfold gb; rw [Int.natCast_add]
        -- what j3 comes to
        have j3t : aln (gb S) S.size q p ≤ n ∨ aln (gb S) S.size q p < 1 → Ev (fun k => gantryref04_Best.j3 k S (p : Int) (n : Int) (d : Int) ((m + 1 : Nat) : Int) true) (outR (best (gb S) S.size p 1 (min p 8192)).1 (best (gb S) S.size p 1 (min p 8192)).2) := by
          intro h
          refine Ev.step (f := fun k => gantryref04_Best.l0 k S (p : Int) (n : Int) (d : Int) ((m + 1 + 1 : Nat) : Int)) (fun k => ?_) (ih (m + 1) (by omega) n d (by rw [hnx, Lzm.step_skip (h.symm.imp id id)]))
          rw [gantryref04_Best.j3, if_pos rfl, wrap_id (by omega) (by omega)]; rfl
        have l1e : ∀ (c i : Nat), i + c = aln (gb S) S.size q p → Ev (fun k => gantryref04_Best.l1 k S (p : Int) (n : Int) (d : Int) ((m + 1 : Nat) : Int) (i : Int)) (outR (best (gb S) S.size p 1 (min p 8192)).1 (best (gb S) S.size p 1 (min p 8192)).2) := by
          intro c
          induction c with
          | zero =>
            intro i hi
            have hal := aln_le (gb S) S.size q p
            have hfin : Ev (fun k => if (i : Int) > (n : Int) then (gantryref04_Best.l0 k S (p : Int) (i : Int) ((m + 1 : Nat) : Int) (wrap64 (((m + 1 : Nat) : Int) + 1))) else (gantryref04_Best.l0 k S (p : Int) (n : Int) (d : Int) (wrap64 (((m + 1 : Nat) : Int) + 1)))) (outR (best (gb S) S.size p 1 (min p 8192)).1 (best (gb S) S.size p 1 (min p 8192)).2) := by
              rw [wrap_id (by omega) (by omega)]
              by_cases hin : n < i
              · have := ih (m + 1) (by omega) i (m + 1) (by rw [hnx, ← hi, Nat.add_zero, Lzm.step_take (by omega) hin])
                refine Ev.congr (fun k => ?_) this
                rw [if_pos (by omega)]; rfl
              · have := ih (m + 1) (by omega) n d (by rw [hnx, ← hi, Nat.add_zero, Lzm.step_skip (.inr (by show i ≤ n; omega))])
                refine Ev.congr (fun k => ?_) this
                rw [if_neg (by omega)]; rfl
            refine Ev.step (fun k => ?_) hfin
            rw [gantryref04_Best.l1, hqi, wrap_id (x := (p : Int) + i) (by omega) (by omega), wrap_id (x := (q : Int)) (by omega) (by omega), wrap_id (x := (q : Int) + i) (by omega) (by omega)]
            by_cases h1 : (p : Int) + i < S.size
            · rw [if_pos h1]
              by_cases h2 : (i : Int) < 131
              · rw [if_pos h2, if_pos (by omega), if_pos (by omega), if_pos (by omega), hgq, hgp]
                have hst := al_stop (gb S) (min (S.size - p) 131) q p (by unfold aln at hi; omega)
                have e : al (gb S) (min (S.size - p) 131) q p = i := by unfold aln at hi; omega
                rw [e] at hst
                rw [if_neg hst]
              · rw [if_neg h2]
            · rw [if_neg h1]
          | succ c ihc =>
            intro i hi
            have hal := aln_le (gb S) S.size q p
            refine Ev.step (f := fun k => gantryref04_Best.l1 k S (p : Int) (n : Int) (d : Int) ((m + 1 : Nat) : Int) ((i + 1 : Nat) : Int)) (fun k => ?_) (ihc (i + 1) (by omega))
            rw [gantryref04_Best.l1, hqi, wrap_id (x := (p : Int) + i) (by omega) (by omega), wrap_id (x := (q : Int)) (by omega) (by omega), wrap_id (x := (q : Int) + i) (by omega) (by omega), if_pos (by omega), if_pos (by omega), if_pos (by omega), if_pos (by omega), if_pos (by omega), hgq, hgp]
            have hg := al_get (gb S) (min (S.size - p) 131) q p i (by unfold aln at hi; omega)
            rw [if_pos hg, wrap_id (by omega) (by omega)]; rfl
        have j3f : Ev (fun k => gantryref04_Best.j3 k S (p : Int) (n : Int) (d : Int) ((m + 1 : Nat) : Int) false) (outR (best (gb S) S.size p 1 (min p 8192)).1 (best (gb S) S.size p 1 (min p 8192)).2) := by
          refine Ev.step (f := fun k => gantryref04_Best.l1 k S (p : Int) (n : Int) (d : Int) ((m + 1 : Nat) : Int) ((0 : Nat) : Int)) (fun k => ?_) (l1e _ 0 (Nat.zero_add _))
          rw [gantryref04_Best.j3, if_neg (by simp)]; rfl
        have hg0q : bt S (q : Int) = gb S q := rfl
        have hg0p : bt S (p : Int) = gb S p := rfl
        by_cases hb0 : gb S q = gb S p
        · have hj : ∀ k, gantryref04_Best.j2 (k + 1) S (p : Int) (n : Int) (d : Int) ((m + 1 : Nat) : Int) true = gantryref04_Best.j3 k S (p : Int) (n : Int) (d : Int) ((m + 1 : Nat) : Int) (gb S (q + n) != gb S (p + n)) := by
            intro k
            rw [gantryref04_Best.j2, if_pos rfl, hqi, wrap_id (x := (p : Int) + n) (by omega) (by omega), wrap_id (x := (q : Int)) (by omega) (by omega), wrap_id (x := (q : Int) + n) (by omega) (by omega), if_neg (by omega), if_pos (by omega), if_pos (by omega), if_pos (by omega), if_pos (by omega), hg0q, hg0p, if_pos hb0, if_pos (by omega), if_pos (by omega), if_pos (by omega), if_pos (by omega), hgq, hgp]
          by_cases hbn : gb S (q + n) = gb S (p + n)
          · refine Ev.step (f := fun k => gantryref04_Best.j3 k S (p : Int) (n : Int) (d : Int) ((m + 1 : Nat) : Int) false) (fun k => ?_) j3f
            rw [hj, hbn]; simp
          · refine Ev.step (f := fun k => gantryref04_Best.j3 k S (p : Int) (n : Int) (d : Int) ((m + 1 : Nat) : Int) true) (fun k => ?_) (j3t ?_)
            · rw [hj, show (gb S (q + n) != gb S (p + n)) = true from bne_iff_ne.2 hbn]
            · left
              rcases Nat.lt_or_ge n (aln (gb S) S.size q p) with h | h
              · exact absurd (al_get (gb S) (min (S.size - p) 131) q p n h) hbn
              · exact h
        · refine Ev.step (f := fun k => gantryref04_Best.j3 k S (p : Int) (n : Int) (d : Int) ((m + 1 : Nat) : Int) true) (fun k => ?_) (j3t ?_)
          · rw [gantryref04_Best.j2, if_pos rfl, hqi, wrap_id (x := (p : Int) + n) (by omega) (by omega), wrap_id (x := (q : Int)) (by omega) (by omega), if_neg (by omega), if_pos (by omega), if_pos (by omega), if_pos (by omega), if_pos (by omega), hg0q, hg0p, if_neg hb0]
          · right
            rcases Nat.lt_or_ge 0 (aln (gb S) S.size q p) with h | h
            · exact absurd (al_get (gb S) (min (S.size - p) 131) q p 0 h) hb0
            · omega
theorem refBest_ev (S : ByteArray) (hS : S.size ≤ 140737488355328) (a : Int) : Ev (fun k => gantryref04_Best.f k S a) (bestI S a) := by
  have hz : ∀ b : Bool, b = true → Ev (fun k => gantryref04_Best.j0 k S a b) (0, 0) := by
    intro b hb
    exact Ev.step (f := fun _ => some ((0 : Int), (0 : Int))) (fun k => by rw [gantryref04_Best.j0, if_pos hb]) (Ev.now _)
  unfold gantryref04_Best.f bestI
  by_cases h0 : a < 0
  · simp only [h0, if_true, true_or]; exact hz true rfl
  · by_cases h1 : (S.size : Int) ≤ a
    · simp only [h0, if_false, h1, false_or, if_true]; exact hz _ (by simp)
    · simp only [h0, if_false, h1, false_or]
      obtain ⟨p, rfl⟩ := Int.eq_ofNat_of_zero_le (Int.not_lt.1 h0)
      rw [Int.toNat_natCast]
      have hr := refBest_l0 S hS p (by omega) (min p 8192) 0 (by omega) 0 0 rfl
      have e : outR (best (gb S) S.size p 1 (min p 8192)).1 (best (gb S) S.size p 1 (min p 8192)).2 = (((bestAt (gb S) S.size p).1 : Int), ((bestAt (gb S) S.size p).2 : Int)) := by
        unfold bestAt outR
        rw [best_thr (gb S) S.size p 4]
        by_cases h : (best (gb S) S.size p 1 (min p 8192)).1 < 4
        · rw [if_pos h, if_neg (by omega)]; rfl
        · rw [if_neg h, if_pos (by omega)]
      rw [e] at hr
      refine Ev.step (f := fun k => gantryref04_Best.l0 k S (p : Int) ((0 : Nat) : Int) ((0 : Nat) : Int) ((0 + 1 : Nat) : Int)) (fun k => ?_) hr
      rw [gantryref04_Best.j0, if_neg (by simp)]
      rfl
/-! The fixed answers. -/
theorem fixed_ev : Ev (fun k => gantrylaw04_fixed.f k) true := by
  unfold gantrylaw04_fixed.f
  have u1 := lzUnpack_ev (⟨#[2, 97, 98, 99, 130, 0, 3, 0, 100]⟩ : ByteArray) 10 10 (by omega) (by omega) (by show 131 * 9 < _; omega)
  rw [show unpack (bytesOf (⟨#[2, 97, 98, 99, 130, 0, 3, 0, 100]⟩ : ByteArray)) 10 10 = ([97, 98, 99, 97, 98, 99, 97, 98, 99, 100], 0) from by decide +kernel] at u1
  have u2 := lzUnpack_ev (⟨#[128, 0, 1]⟩ : ByteArray) 4 9 (by omega) (by omega) (by show 131 * 3 < _; omega)
  rw [show unpack (bytesOf (⟨#[128, 0, 1]⟩ : ByteArray)) 4 9 = ([], 25) from by decide +kernel] at u2
  have u3 := lzBest_ev (⟨#[97, 98, 99, 97, 98, 99, 97, 98, 99, 100]⟩ : ByteArray) (by show 10 ≤ _; omega) 3
  rw [show bestI (⟨#[97, 98, 99, 97, 98, 99, 97, 98, 99, 100]⟩ : ByteArray) 3 = (6, 3) from by decide +kernel] at u3
  have hp : ∀ k, lz_Pack.f k (⟨#[97, 98, 99, 97, 98, 99, 97, 98, 99, 100]⟩ : ByteArray) = some (⟨#[2, 97, 98, 99, 130, 0, 3, 0, 100]⟩ : ByteArray) := by
    intro k
    have : packB (⟨#[97, 98, 99, 97, 98, 99, 97, 98, 99, 100]⟩ : ByteArray) = [2, 97, 98, 99, 130, 0, 3, 0, 100] := by decide +kernel
    unfold lz_Pack.f
    rw [if_pos (by show 10 ≤ _; omega), this]; rfl
  refine Ev.bind u1 (Ev.bind u2 (Ev.bind u3 (Ev.bind (Ev.congr hp (Ev.now _)) ?_)))
  have hb : lz_Bound.f 129 = some 131 := by decide +kernel
  refine Ev.congr (fun k => ?_) (Ev.now true)
  rw [hb]
  simp only [Lib.toList_data]
  decide +kernel
end Go.Proofs.Ytgnoaokpahklaaa.Lzb
