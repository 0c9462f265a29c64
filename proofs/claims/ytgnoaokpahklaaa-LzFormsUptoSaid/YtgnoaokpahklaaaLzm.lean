/- The plain law of layer 4: how far two places are alike, the best match, and the chains that find it. -/
import Derived.Test.YtgnoaokpahklaaaWWords
namespace Go.Proofs.Ytgnoaokpahklaaa.Lzm
set_option linter.unusedVariables false

/-- How many bytes from q on are those from p on, at most f. -/
def al (g : Nat → Int) : Nat → Nat → Nat → Nat
  | 0, _, _ => 0
  | f + 1, q, p => if g q = g p then al g f (q + 1) (p + 1) + 1 else 0
theorem al_le (g : Nat → Int) : ∀ f q p, al g f q p ≤ f
  | 0, _, _ => Nat.le_refl _
  | f + 1, q, p => by
    unfold al; split
    · have := al_le g f (q + 1) (p + 1); omega
    · omega
theorem al_get (g : Nat → Int) : ∀ f q p k, k < al g f q p → g (q + k) = g (p + k)
  | 0, _, _, _, h => by simp [al] at h
  | f + 1, q, p, k, h => by
    unfold al at h
    split at h
    · rename_i h0
      cases k with
      | zero => exact h0
      | succ k =>
        have := al_get g f (q + 1) (p + 1) k (by omega)
        rw [show q + (k + 1) = q + 1 + k from by omega, show p + (k + 1) = p + 1 + k from by omega]; exact this
    · omega
theorem al_stop (g : Nat → Int) : ∀ f q p, al g f q p < f → g (q + al g f q p) ≠ g (p + al g f q p)
  | 0, _, _, h => by omega
  | f + 1, q, p, h => by
    unfold al at h ⊢
    split at h
    · rename_i h0
      rw [if_pos h0]
      have := al_stop g f (q + 1) (p + 1) (by omega)
      rw [show q + (al g f (q + 1) (p + 1) + 1) = q + 1 + al g f (q + 1) (p + 1) from by omega, show p + (al g f (q + 1) (p + 1) + 1) = p + 1 + al g f (q + 1) (p + 1) from by omega]; exact this
    · rename_i h0
      rw [if_neg h0]; exact h0
theorem al_ge (g : Nat → Int) (f q p n : Nat) (hn : n ≤ f) (h : ∀ k, k < n → g (q + k) = g (p + k)) : n ≤ al g f q p := by
  rcases Nat.lt_or_ge (al g f q p) n with hlt | hge
  · exact absurd (h _ hlt) (al_stop g f q p (by omega))
  · exact hge
theorem al_eq (g : Nat → Int) (f q p n : Nat) (hn : n ≤ f) (h : ∀ k, k < n → g (q + k) = g (p + k)) (hs : n < f → g (q + n) ≠ g (p + n)) : al g f q p = n := by
  have h1 := al_ge g f q p n hn h
  rcases Nat.lt_or_ge n (al g f q p) with hlt | hge
  · have := al_get g f q p n hlt
    have h2 := al_le g f q p
    exact absurd this (hs (by omega))
  · omega

/-- alike: at most 131, and within the bytes. -/
def aln (g : Nat → Int) (L q p : Nat) : Nat := al g (min (L - p) 131) q p
theorem aln_le (g : Nat → Int) (L q p : Nat) : aln g L q p ≤ 131 ∧ aln g L q p ≤ L - p := by
  have := al_le g (min (L - p) 131) q p
  unfold aln; omega
def step (t n d : Nat) (s : Nat × Nat) : Nat × Nat := if t ≤ n ∧ s.1 < n then (n, d) else s
theorem step_skip {t n d : Nat} {s : Nat × Nat} (h : n < t ∨ n ≤ s.1) : step t n d s = s := by
  unfold step; rw [if_neg (by omega)]
theorem step_take {t n d : Nat} {s : Nat × Nat} (h1 : t ≤ n) (h2 : s.1 < n) : step t n d s = (n, d) := by
  unfold step; rw [if_pos ⟨h1, h2⟩]
/-- The best of the distances 1 to m, of matches of t bytes at least. -/
def best (g : Nat → Int) (L p t : Nat) : Nat → Nat × Nat
  | 0 => (0, 0)
  | m + 1 => step t (aln g L (p - (m + 1)) p) (m + 1) (best g L p t m)
theorem best_le (g : Nat → Int) (L p t : Nat) : ∀ m, (best g L p t m).1 ≤ 131 ∧ (best g L p t m).1 ≤ L - p ∧ (best g L p t m).2 ≤ m
  | 0 => by simp [best]
  | m + 1 => by
    have h := best_le g L p t m
    have h2 := aln_le g L (p - (m + 1)) p
    unfold best step
    split
    · exact ⟨h2.1, h2.2, Nat.le_refl _⟩
    · exact ⟨h.1, h.2.1, Nat.le_succ_of_le h.2.2⟩
theorem best_full (g : Nat → Int) (L p t m : Nat) (h : (best g L p t m).1 = 131) : ∀ k, best g L p t (m + k) = best g L p t m
  | 0 => rfl
  | k + 1 => by
    have ih := best_full g L p t m h k
    have h2 := aln_le g L (p - (m + k + 1)) p
    show step t (aln g L (p - (m + k + 1)) p) (m + k + 1) (best g L p t (m + k)) = _
    rw [ih, step_skip]
    right; omega
theorem best_full' (g : Nat → Int) (L p t m M : Nat) (h : (best g L p t m).1 = 131) (hM : m ≤ M) : best g L p t M = best g L p t m := by
  obtain ⟨k, rfl⟩ := Nat.exists_eq_add_of_le hM
  exact best_full g L p t m h k
/-- The end of the bytes: no more can be had. -/
theorem best_end (g : Nat → Int) (L p t m : Nat) (h : L ≤ p + (best g L p t m).1) : ∀ k, best g L p t (m + k) = best g L p t m
  | 0 => rfl
  | k + 1 => by
    have ih := best_end g L p t m h k
    have h2 := aln_le g L (p - (m + k + 1)) p
    show step t (aln g L (p - (m + k + 1)) p) (m + k + 1) (best g L p t (m + k)) = _
    rw [ih, step_skip]
    right; omega
theorem best_end' (g : Nat → Int) (L p t m M : Nat) (h : L ≤ p + (best g L p t m).1) (hM : m ≤ M) : best g L p t M = best g L p t m := by
  obtain ⟨k, rfl⟩ := Nat.exists_eq_add_of_le hM
  exact best_end g L p t m h k
/-- Both zero or a match. -/
theorem best_zero (g : Nat → Int) (L p t : Nat) (ht : 0 < t) : ∀ m, ((best g L p t m).1 = 0 ∧ (best g L p t m).2 = 0) ∨ (t ≤ (best g L p t m).1 ∧ 1 ≤ (best g L p t m).2 ∧ aln g L (p - (best g L p t m).2) p = (best g L p t m).1)
  | 0 => by simp [best]
  | m + 1 => by
    have h := best_zero g L p t ht m
    unfold best step
    split
    · rename_i h1
      exact .inr ⟨h1.1, by simp, rfl⟩
    · exact h
/-- The threshold may be asked at the end. -/
theorem best_thr (g : Nat → Int) (L p t : Nat) : ∀ m, best g L p t m = if t ≤ (best g L p 1 m).1 then best g L p 1 m else (0, 0)
  | 0 => by simp [best]
  | m + 1 => by
    have ih := best_thr g L p t m
    show step t _ _ (best g L p t m) = if t ≤ (step 1 _ _ (best g L p 1 m)).1 then step 1 _ _ (best g L p 1 m) else (0, 0)
    generalize aln g L (p - (m + 1)) p = n at *
    generalize best g L p 1 m = b1 at *
    rw [ih]
    unfold step
    by_cases h1 : 1 ≤ n ∧ b1.1 < n
    · rw [if_pos h1]
      by_cases h2 : t ≤ n
      · simp only [h2, if_true, true_and]
        by_cases h3 : t ≤ b1.1
        · rw [if_pos h3, if_pos h1.2]
        · rw [if_neg h3, if_pos (by show 0 < n; omega)]
      · simp only [h2, if_false, false_and]
        rw [if_neg (by omega)]
    · rw [if_neg h1]
      by_cases h3 : t ≤ b1.1
      · rw [if_pos h3, if_neg (by omega)]
      · rw [if_neg h3]
        by_cases h4 : t ≤ n ∧ (0, 0).1 < n
        · exfalso
          have : (0 : Nat) < n := h4.2
          omega
        · rw [if_neg h4]
/-- The best match at p. -/
def bestAt (g : Nat → Int) (L p : Nat) : Nat × Nat := best g L p 4 (min p 8192)

/-- The last place ahead of P at which four bytes of the sum hh begin, and one more; 0: none. -/
def lastB (h : Nat → Nat) (L hh : Nat) : Nat → Nat
  | 0 => 0
  | P + 1 => if P + 4 ≤ L ∧ h P = hh then P + 1 else lastB h L hh P
theorem lastB_le (h : Nat → Nat) (L hh : Nat) : ∀ P, lastB h L hh P ≤ P
  | 0 => Nat.le_refl _
  | P + 1 => by
    unfold lastB; split
    · exact Nat.le_refl _
    · exact Nat.le_succ_of_le (lastB_le h L hh P)
theorem lastB_is (h : Nat → Nat) (L hh : Nat) : ∀ P q, lastB h L hh P = q + 1 → q + 4 ≤ L ∧ h q = hh
  | 0, q, e => by simp [lastB] at e
  | P + 1, q, e => by
    unfold lastB at e
    split at e
    · rename_i h1
      obtain rfl : P = q := by omega
      exact h1
    · exact lastB_is h L hh P q e
def Sums (g : Nat → Int) (h : Nat → Nat) (L : Nat) : Prop := ∀ q p, q + 4 ≤ L → p + 4 ≤ L → (∀ k, k < 4 → g (q + k) = g (p + k)) → h q = h p
/-- Between two places of the chain nothing is missed. -/
theorem chain_skip (g : Nat → Int) (h : Nat → Nat) (L at_ : Nat) (hs : Sums g h L) (ha : at_ + 4 ≤ L) : ∀ P, P ≤ at_ →
    best g L at_ 4 (min (at_ - lastB h L (h at_) P) 8192) = best g L at_ 4 (min (at_ - P) 8192)
  | 0, _ => rfl
  | P + 1, hP => by
    unfold lastB
    split
    · rfl
    · rename_i hn
      rw [chain_skip g h L at_ hs ha P (by omega)]
      by_cases h8 : at_ - P ≤ 8192
      · obtain ⟨m, hm⟩ : ∃ m, at_ - P = m + 1 := ⟨at_ - P - 1, by omega⟩
        rw [show min (at_ - P) 8192 = m + 1 from by omega, show min (at_ - (P + 1)) 8192 = m from by omega]
        show step 4 _ _ (best g L at_ 4 m) = _
        rw [step_skip]
        left
        rcases Nat.lt_or_ge (aln g L (at_ - (m + 1)) at_) 4 with h4 | h4
        · exact h4
        · exfalso
          apply hn
          have e : at_ - (m + 1) = P := by omega
          rw [e] at h4
          exact ⟨by omega, hs P at_ (by omega) ha (fun k hk => al_get g (min (L - at_) 131) _ _ k (by unfold aln at h4; omega))⟩
      · rw [show min (at_ - P) 8192 = 8192 from by omega, show min (at_ - (P + 1)) 8192 = 8192 from by omega]
theorem chain_start (g : Nat → Int) (h : Nat → Nat) (L at_ : Nat) (hs : Sums g h L) (ha : at_ + 4 ≤ L) : best g L at_ 4 (min (at_ - lastB h L (h at_) at_) 8192) = (0, 0) := by
  rw [chain_skip g h L at_ hs ha at_ (Nat.le_refl _), Nat.sub_self]; rfl
theorem chain_next (g : Nat → Int) (h : Nat → Nat) (L at_ q : Nat) (hs : Sums g h L) (ha : at_ + 4 ≤ L) (hq : q < at_) (hh : h q = h at_) (h8 : at_ - q ≤ 8192) :
    best g L at_ 4 (min (at_ - lastB h L (h q) q) 8192) = step 4 (aln g L q at_) (at_ - q) (best g L at_ 4 (min (at_ - (q + 1)) 8192)) := by
  rw [hh, chain_skip g h L at_ hs ha q (by omega)]
  obtain ⟨m, hm⟩ : ∃ m, at_ - q = m + 1 := ⟨at_ - q - 1, by omega⟩
  rw [show min (at_ - q) 8192 = m + 1 from by omega, show min (at_ - (q + 1)) 8192 = m from by omega]
  show step 4 (aln g L (at_ - (m + 1)) at_) (m + 1) _ = _
  rw [show at_ - (m + 1) = q from by omega, hm]
theorem bestAt_short (g : Nat → Int) (L p : Nat) (h : L < p + 4) : bestAt g L p = (0, 0) := by
  unfold bestAt
  generalize min p 8192 = m
  induction m with
  | zero => rfl
  | succ m ih =>
    have h2 := aln_le g L (p - (m + 1)) p
    unfold best
    rw [ih, step_skip]
    left; omega
end Go.Proofs.Ytgnoaokpahklaaa.Lzm
