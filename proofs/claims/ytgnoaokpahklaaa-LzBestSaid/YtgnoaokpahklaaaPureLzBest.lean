/- LzBest: what Best answers at any place is a match, can't be made longer, and no other distance has a longer one, no lesser one as long a one; where it answers none, four bytes match at no distance. No condition but what a row asks. -/
import Derived.Test.YtgnoaokpahklaaaLzb
import Derived.Test.YtgnoaokpahklaaaQBx12
namespace Go.Proofs.Ytgnoaokpahklaaa.Pure
open Go Go.RowKit Go.Proofs.Ytgnoaokpahklaaa.QB Go.Proofs.YtgnoaokpahklaaaW.PrintWords Go.Proofs.YtgnoaokpahklaaaW.PrintLast Go.Proofs.YtgnoaokpahklaaaW.PrintMore Go.Proofs.Ytgnoaokpahklaaa.Lzw Go.Proofs.Ytgnoaokpahklaaa.Lzb Go.Proofs.Ytgnoaokpahklaaa.Lzm
set_option linter.unusedVariables false
set_option linter.unusedSimpArgs false
/-- No distance has a longer match than the best. -/
theorem best_max (g : Nat → Int) (L p t : Nat) : ∀ m d, 1 ≤ d → d ≤ m → t ≤ aln g L (p - d) p → aln g L (p - d) p ≤ (best g L p t m).1
  | 0, d, h1, h2, _ => by omega
  | m + 1, d, h1, h2, h3 => by
    show _ ≤ (Lzm.step t (aln g L (p - (m + 1)) p) (m + 1) (best g L p t m)).1
    by_cases hd : d = m + 1
    · subst hd
      unfold Lzm.step
      split
      · exact Nat.le_refl _
      · rename_i h; omega
    · have ih := best_max g L p t m d h1 (by omega) h3
      unfold Lzm.step
      split
      · rename_i h; exact Nat.le_trans ih (Nat.le_of_lt h.2)
      · exact ih
/-- No lesser distance has as long a match. -/
theorem best_near (g : Nat → Int) (L p t : Nat) : ∀ m d, 1 ≤ d → d < (best g L p t m).2 → t ≤ aln g L (p - d) p → aln g L (p - d) p < (best g L p t m).1
  | 0, d, h1, h2, _ => by simp [best] at h2
  | m + 1, d, h1, h2, h3 => by
    have e : best g L p t (m + 1) = Lzm.step t (aln g L (p - (m + 1)) p) (m + 1) (best g L p t m) := rfl
    rw [e] at h2 ⊢
    unfold Lzm.step at h2 ⊢
    split at h2
    · rename_i h
      rw [if_pos h]
      exact Nat.lt_of_le_of_lt (best_max g L p t m d h1 (by dsimp only at h2; omega) h3) h.2
    · rename_i h
      rw [if_neg h]
      exact best_near g L p t m d h1 h2 h3
def matchB (S : ByteArray) (p n : Nat) (d : Int) : Bool := decide (1 ≤ d ∧ d ≤ p ∧ d ≤ 8192 ∧ n ≤ aln (gb S) S.size (p - d.toNat) p)
theorem matches_ev (S : ByteArray) (hS : S.size ≤ 140737488355328) (p n : Nat) (d : Int) (hp : p < S.size) (hn : n ≤ 131) (h0 : -9223372036854775808 ≤ d) (h1 : d ≤ 9223372036854775807) : Ev (fun k => gantrylaw04_matches.f k S (p : Int) (n : Int) d) (matchB S p n d) := by
  have hf : ∀ R : Bool, R = false → Ev (fun k => gantrylaw04_matches.j0 k S (p : Int) (n : Int) d true) R := by
    intro R hR
    subst hR
    exact Ev.step (f := fun _ => some false) (fun k => by rw [gantrylaw04_matches.j0, if_pos rfl]) (Ev.now _)
  unfold gantrylaw04_matches.f
  by_cases hd1 : d < 1
  · simp only [hd1, if_true]
    exact hf _ (by unfold matchB; rw [decide_eq_false_iff_not]; omega)
  · by_cases hdp : d > p
    · simp only [hd1, hdp, if_true, if_false]
      exact hf _ (by unfold matchB; rw [decide_eq_false_iff_not]; omega)
    · by_cases hd8 : d > 8192
      · simp only [hd1, hdp, hd8, if_true, if_false]
        exact hf _ (by unfold matchB; rw [decide_eq_false_iff_not]; omega)
      · simp only [hd1, hdp, hd8, if_false]
        have hal := aln_le (gb S) S.size (p - d.toNat) p
        rw [wrap_id (x := (S.size : Int) - p) (by omega) (by omega)]
        by_cases hlen : (n : Int) > (S.size : Int) - p
        · rw [show decide ((n : Int) > (S.size : Int) - p) = true from decide_eq_true hlen]
          exact hf _ (by unfold matchB; rw [decide_eq_false_iff_not]; omega)
        · rw [show decide ((n : Int) > (S.size : Int) - p) = false from decide_eq_false hlen]
          refine Ev.step (f := fun k => gantrylaw04_matches.l0 k S (p : Int) (n : Int) d ((0 : Nat) : Int)) (fun k => by rw [gantrylaw04_matches.j0, if_neg (by simp)]; rfl) ?_
          obtain ⟨q, hq⟩ : ∃ q, q = p - d.toNat := ⟨_, rfl⟩
          have hqi : (p : Int) - d = (q : Int) := by omega
          rw [← hq] at hal
          have hM : matchB S p n d = decide (n ≤ aln (gb S) S.size q p) := by
            unfold matchB; rw [← hq, decide_eq_decide]; omega
          rw [hM]
          have key : ∀ (c i : Nat), i + c = n → (∀ j, j < i → gb S (q + j) = gb S (p + j)) → Ev (fun k => gantrylaw04_matches.l0 k S (p : Int) (n : Int) d (i : Int)) (decide (n ≤ aln (gb S) S.size q p)) := by
            intro c
            induction c with
            | zero =>
              intro i hi hall
              rw [show decide (n ≤ aln (gb S) S.size q p) = true from by rw [decide_eq_true_iff]; exact al_ge (gb S) _ q p n (by omega) (fun j hj => hall j (by omega))]
              exact Ev.step (f := fun _ => some true) (fun k => by rw [gantrylaw04_matches.l0, if_neg (by omega)]) (Ev.now _)
            | succ c ih =>
              intro i hi hall
              have hgq : bt S ((q : Int) + (i : Int)) = gb S (q + i) := by unfold gb; rw [Int.natCast_add]
              have hgp : bt S ((p : Int) + (i : Int)) = gb S (p + i) := by unfold gb; rw [Int.natCast_add]
              have hl : ∀ k, gantrylaw04_matches.l0 (k + 1) S (p : Int) (n : Int) d (i : Int) = if gb S (p + i) = gb S (q + i) then gantrylaw04_matches.l0 k S (p : Int) (n : Int) d ((i + 1 : Nat) : Int) else some false := by
                intro k
                rw [gantrylaw04_matches.l0, if_pos (by omega), hqi, wrap_id (x := (p : Int) + i) (by omega) (by omega), wrap_id (x := (q : Int)) (by omega) (by omega), wrap_id (x := (q : Int) + i) (by omega) (by omega), if_pos (by omega), if_pos (by omega), if_pos (by omega), if_pos (by omega), hgq, hgp, wrap_id (x := (i : Int) + 1) (by omega) (by omega)]
                rfl
              by_cases he : gb S (p + i) = gb S (q + i)
              · refine Ev.step (fun k => by rw [hl, if_pos he]) (ih (i + 1) (by omega) (fun j hj => ?_))
                by_cases hj2 : j = i
                · rw [hj2]; exact he.symm
                · exact hall j (by omega)
              · rw [show decide (n ≤ aln (gb S) S.size q p) = false from by
                  rw [decide_eq_false_iff_not]
                  intro h
                  exact he (al_get (gb S) (min (S.size - p) 131) q p i (by unfold aln at h; omega)).symm]
                exact Ev.step (f := fun _ => some false) (fun k => by rw [hl, if_neg he]) (Ev.now _)
          exact key n 0 (by omega) (fun j hj => by omega)
theorem LzBest : gantrylaw04_LzBest.Pure := by
  intro S a d hs hwa hwd
  have ha := bounds_i64 hwa
  have hd := bounds_i64 hwd
  have hb := lzBest_ev S (by omega) a
  refine Ev.rounds (Ev.bind fixed_ev ?_)
  simp only [if_true]
  refine Ev.bind hb ?_
  unfold bestI
  by_cases ho : a < 0 ∨ (S.size : Int) ≤ a
  · rw [if_pos ho]
    simp only [if_true]
    by_cases h0 : a < 0
    · simp only [h0, if_true]; exact Ev.now _
    · have h1 : a ≥ (S.size : Int) := by omega
      simp only [h0, h1, if_true, if_false]; exact Ev.now _
  · rw [if_neg ho]
    obtain ⟨p, rfl⟩ := Int.eq_ofNat_of_zero_le (show 0 ≤ a by omega)
    have hp : p < S.size := by omega
    have n0 : ¬ (p : Int) < 0 := by omega
    have n1 : ¬ (p : Int) ≥ (S.size : Int) := by omega
    rw [Int.toNat_natCast]
    simp only [n0, n1, if_false]
    have hz := best_zero (gb S) S.size p 4 (by omega) (min p 8192)
    have hmax := best_max (gb S) S.size p 4 (min p 8192)
    have hnear := best_near (gb S) S.size p 4 (min p 8192)
    have hle := best_le (gb S) S.size p 4 (min p 8192)
    have hme := fun n dd (hn : n ≤ 131) h0 h1 => matches_ev S (by omega) p n dd hp hn h0 h1
    have hbe : bestAt (gb S) S.size p = best (gb S) S.size p 4 (min p 8192) := rfl
    rw [hbe]
    generalize best (gb S) S.size p 4 (min p 8192) = nk at *
    obtain ⟨n, k⟩ := nk
    dsimp only at hz hmax hnear hle ⊢
    have hall : ∀ m : Nat, 4 ≤ m → n < m → matchB S p m d = false := by
      intro m hm hnm
      unfold matchB
      rw [decide_eq_false_iff_not]
      rintro ⟨h1, h2, h3, h4⟩
      have := hmax d.toNat (by omega) (by omega) (by omega)
      omega
    rcases hz with ⟨rfl, rfl⟩ | ⟨h4, h1, hal⟩
    · simp only [Int.natCast_zero, if_true, n0, n1, if_false]
      have := hme 4 d (by omega) hd.1 hd.2
      rw [hall 4 (by omega) (by omega)] at this
      exact Ev.bind this (Ev.now _)
    · have hn131 : n ≤ 131 := hle.1
      have hk8 : k ≤ 8192 := by omega
      have hkp : k ≤ p := by omega
      have z1 : ¬ (n : Int) = 0 := by omega
      have z2 : ¬ (n : Int) < 4 := by omega
      have z3 : ¬ (n : Int) > 131 := by omega
      simp only [z1, z2, z3, n0, n1, if_false]
      have hm1 := hme n (k : Int) hn131 (by omega) (by omega)
      rw [show matchB S p n (k : Int) = true from by
        unfold matchB; rw [decide_eq_true_iff, Int.toNat_natCast, hal]; omega] at hm1
      refine Ev.bind hm1 ?_
      simp only [if_true]
      have tail_ : Ev (fun r => if (d : Int) < (k : Int) then ((gantrylaw04_matches.f r S (p : Int) (n : Int) d).bind fun t => some (!t)) else some (!false)) true := by
        by_cases hdk : d < (k : Int)
        · simp only [hdk, if_true]
          have := hme n d hn131 hd.1 hd.2
          rw [show matchB S p n d = false from by
            unfold matchB
            rw [decide_eq_false_iff_not]
            rintro ⟨e1, e2, e3, e4⟩
            have := hnear d.toNat (by omega) (by omega) (by omega)
            omega] at this
          exact Ev.bind this (Ev.now _)
        · simp only [hdk, if_false]; exact Ev.now _
      have j0 : Ev (fun r => gantrylaw04_LzBest.j0 r S (p : Int) d (n : Int) (k : Int) false) true := by
        by_cases h131 : n < 131
        · have h131' : (n : Int) < 131 := by omega
          have hm := hme (n + 1) d (by omega) hd.1 hd.2
          rw [hall (n + 1) (by omega) (by omega)] at hm
          refine Ev.step (f := fun r => (gantrylaw04_matches.f r S (p : Int) ((n + 1 : Nat) : Int) d).bind fun t => if t = true then some false else (if (d : Int) < (k : Int) then ((gantrylaw04_matches.f r S (p : Int) (n : Int) d).bind fun t => some (!t)) else some (!false))) (fun r => ?_) (Ev.bind hm ?_)
          · rw [gantrylaw04_LzBest.j0, if_neg (by simp), if_pos h131', wrap_id (by omega) (by omega)]; rfl
          · exact Ev.congr (fun r => by rw [if_neg (by simp)]) tail_
        · have h131' : ¬ (n : Int) < 131 := by omega
          exact Ev.step (fun r => by rw [gantrylaw04_LzBest.j0, if_neg (by simp), if_neg h131']) tail_
      by_cases h131 : n < 131
      · have h131' : (n : Int) < 131 := by omega
        simp only [h131', if_true]
        rw [wrap_id (x := (n : Int) + 1) (by omega) (by omega)]
        have hm := hme (n + 1) (k : Int) (by omega) (by omega) (by omega)
        rw [show matchB S p (n + 1) (k : Int) = false from by
          unfold matchB; rw [decide_eq_false_iff_not, Int.toNat_natCast, hal]; omega] at hm
        exact Ev.bind hm j0
      · have h131' : ¬ (n : Int) < 131 := by omega
        simp only [h131', if_false]
        exact j0
end Go.Proofs.Ytgnoaokpahklaaa.Pure
