/- Merged: YtgnoaokpahklaaaLzm, YtgnoaokpahklaaaLzw, YtgnoaokpahklaaaLzp, YtgnoaokpahklaaaLzq. -/
import Derived.Test.YtgnoaokpahklaaaWWords
import Derived.Test.YtgnoaokpahklaaaQAf33
import Derived.WalkKit
import Derived.Below
import Derived.Lib.Hide
import Derived.Laws.Rows
import Derived.Laws.Tables
import Derived.WalkLawsBesides
import Derived.WalkSpells
import Derived.RegionTactic
import Derived.ChangeAlike
import Derived.Outline
import Derived.OneCell
import Derived.Deep.QuietTactic
import Derived.BigQuiet
import Derived.StillTailTactics
import Derived.IntWalk
import Derived.Test.YtgnoaokpahklaaaQAf31
import Derived.Test.YtgnoaokpahklaaaQAf30
import Derived.OwnWalk
import Derived.Laws.MakeOwn
import Derived.Laws.BytesArg
import Derived.Lib.ConvBytes
import Derived.Lib.Strings
/- The plain law of layer 4: how far two places are alike, the best match, and the chains that find it. -/
namespace Go.Proofs.Ytgnoaokpahklaaa.Lzm
set_option linter.unusedVariables false

/-- How many bytes from q on are those from p on, at most f. -/
def al (g : Nat → Int) : Nat → Nat → Nat → Nat
  | 0, _, _ => 0
  | f + 1, q, p => if g q = g p then al g f (q + 1) (p + 1) + 1 else 0
theorem al_le (g : Nat → Int) : ∀ f q p, al g f q p ≤ f
  | 0, _, _ => Nat.le_refl _
  | f + 1, q, p => by
    unfold al; split
    · have := al_le g f (q + 1) (p + 1); omega
    · omega
theorem al_get (g : Nat → Int) : ∀ f q p k, k < al g f q p → g (q + k) = g (p + k)
  | 0, _, _, _, h => by simp [al] at h
  | f + 1, q, p, k, h => by
    unfold al at h
    split at h
    · rename_i h0
      cases k with
      | zero => exact h0
      | succ k =>
        have := al_get g f (q + 1) (p + 1) k (by omega)
        rw [show q + (k + 1) = q + 1 + k from by omega, show p + (k + 1) = p + 1 + k from by omega]; exact this
    · omega
theorem al_stop (g : Nat → Int) : ∀ f q p, al g f q p < f → g (q + al g f q p) ≠ g (p + al g f q p)
  | 0, _, _, h => by omega
  | f + 1, q, p, h => by
    unfold al at h ⊢
    split at h
    · rename_i h0
      rw [if_pos h0]
      have := al_stop g f (q + 1) (p + 1) (by omega)
      rw [show q + (al g f (q + 1) (p + 1) + 1) = q + 1 + al g f (q + 1) (p + 1) from by omega, show p + (al g f (q + 1) (p + 1) + 1) = p + 1 + al g f (q + 1) (p + 1) from by omega]; exact this
    · rename_i h0
      rw [if_neg h0]; exact h0
theorem al_ge (g : Nat → Int) (f q p n : Nat) (hn : n ≤ f) (h : ∀ k, k < n → g (q + k) = g (p + k)) : n ≤ al g f q p := by
  rcases Nat.lt_or_ge (al g f q p) n with hlt | hge
  · exact absurd (h _ hlt) (al_stop g f q p (by omega))
  · exact hge
theorem al_eq (g : Nat → Int) (f q p n : Nat) (hn : n ≤ f) (h : ∀ k, k < n → g (q + k) = g (p + k)) (hs : n < f → g (q + n) ≠ g (p + n)) : al g f q p = n := by
  have h1 := al_ge g f q p n hn h
  rcases Nat.lt_or_ge n (al g f q p) with hlt | hge
  · have := al_get g f q p n hlt
    have h2 := al_le g f q p
    exact absurd this (hs (by omega))
  · omega

/-- alike: at most 131, and within the bytes. -/
def aln (g : Nat → Int) (L q p : Nat) : Nat := al g (min (L - p) 131) q p
theorem aln_le (g : Nat → Int) (L q p : Nat) : aln g L q p ≤ 131 ∧ aln g L q p ≤ L - p := by
  have := al_le g (min (L - p) 131) q p
  unfold aln; omega
def step (t n d : Nat) (s : Nat × Nat) : Nat × Nat := if t ≤ n ∧ s.1 < n then (n, d) else s
theorem step_skip {t n d : Nat} {s : Nat × Nat} (h : n < t ∨ n ≤ s.1) : step t n d s = s := by
  unfold step; rw [if_neg (by omega)]
theorem step_take {t n d : Nat} {s : Nat × Nat} (h1 : t ≤ n) (h2 : s.1 < n) : step t n d s = (n, d) := by
  unfold step; rw [if_pos ⟨h1, h2⟩]
/-- The best of the distances 1 to m, of matches of t bytes at least. -/
def best (g : Nat → Int) (L p t : Nat) : Nat → Nat × Nat
  | 0 => (0, 0)
  | m + 1 => step t (aln g L (p - (m + 1)) p) (m + 1) (best g L p t m)
theorem best_le (g : Nat → Int) (L p t : Nat) : ∀ m, (best g L p t m).1 ≤ 131 ∧ (best g L p t m).1 ≤ L - p ∧ (best g L p t m).2 ≤ m
  | 0 => by simp [best]
  | m + 1 => by
    have h := best_le g L p t m
    have h2 := aln_le g L (p - (m + 1)) p
    unfold best step
    split
    · exact ⟨h2.1, h2.2, Nat.le_refl _⟩
    · exact ⟨h.1, h.2.1, Nat.le_succ_of_le h.2.2⟩
theorem best_full (g : Nat → Int) (L p t m : Nat) (h : (best g L p t m).1 = 131) : ∀ k, best g L p t (m + k) = best g L p t m
  | 0 => rfl
  | k + 1 => by
    have ih := best_full g L p t m h k
    have h2 := aln_le g L (p - (m + k + 1)) p
    show step t (aln g L (p - (m + k + 1)) p) (m + k + 1) (best g L p t (m + k)) = _
    rw [ih, step_skip]
    right; omega
theorem best_full' (g : Nat → Int) (L p t m M : Nat) (h : (best g L p t m).1 = 131) (hM : m ≤ M) : best g L p t M = best g L p t m := by
  obtain ⟨k, rfl⟩ := Nat.exists_eq_add_of_le hM
  exact best_full g L p t m h k
/-- The end of the bytes: no more can be had. -/
theorem best_end (g : Nat → Int) (L p t m : Nat) (h : L ≤ p + (best g L p t m).1) : ∀ k, best g L p t (m + k) = best g L p t m
  | 0 => rfl
  | k + 1 => by
    have ih := best_end g L p t m h k
    have h2 := aln_le g L (p - (m + k + 1)) p
    show step t (aln g L (p - (m + k + 1)) p) (m + k + 1) (best g L p t (m + k)) = _
    rw [ih, step_skip]
    right; omega
theorem best_end' (g : Nat → Int) (L p t m M : Nat) (h : L ≤ p + (best g L p t m).1) (hM : m ≤ M) : best g L p t M = best g L p t m := by
  obtain ⟨k, rfl⟩ := Nat.exists_eq_add_of_le hM
  exact best_end g L p t m h k
/-- Both zero or a match. -/
theorem best_zero (g : Nat → Int) (L p t : Nat) (ht : 0 < t) : ∀ m, ((best g L p t m).1 = 0 ∧ (best g L p t m).2 = 0) ∨ (t ≤ (best g L p t m).1 ∧ 1 ≤ (best g L p t m).2 ∧ aln g L (p - (best g L p t m).2) p = (best g L p t m).1)
  | 0 => by simp [best]
  | m + 1 => by
    have h := best_zero g L p t ht m
    unfold best step
    split
    · rename_i h1
      exact .inr ⟨h1.1, by simp, rfl⟩
    · exact h
/-- The threshold may be asked at the end. -/
theorem best_thr (g : Nat → Int) (L p t : Nat) : ∀ m, best g L p t m = if t ≤ (best g L p 1 m).1 then best g L p 1 m else (0, 0)
  | 0 => by simp [best]
  | m + 1 => by
    have ih := best_thr g L p t m
    show step t _ _ (best g L p t m) = if t ≤ (step 1 _ _ (best g L p 1 m)).1 then step 1 _ _ (best g L p 1 m) else (0, 0)
    generalize aln g L (p - (m + 1)) p = n at *
    generalize best g L p 1 m = b1 at *
    rw [ih]
    unfold step
    by_cases h1 : 1 ≤ n ∧ b1.1 < n
    · rw [if_pos h1]
      by_cases h2 : t ≤ n
      · simp only [h2, if_true, true_and]
        by_cases h3 : t ≤ b1.1
        · rw [if_pos h3, if_pos h1.2]
        · rw [if_neg h3, if_pos (by show 0 < n; omega)]
      · simp only [h2, if_false, false_and]
        rw [if_neg (by omega)]
    · rw [if_neg h1]
      by_cases h3 : t ≤ b1.1
      · rw [if_pos h3, if_neg (by omega)]
      · rw [if_neg h3]
        by_cases h4 : t ≤ n ∧ (0, 0).1 < n
        · exfalso
          have : (0 : Nat) < n := h4.2
          omega
        · rw [if_neg h4]
/-- The best match at p. -/
def bestAt (g : Nat → Int) (L p : Nat) : Nat × Nat := best g L p 4 (min p 8192)

/-- The last place ahead of P at which four bytes of the sum hh begin, and one more; 0: none. -/
def lastB (h : Nat → Nat) (L hh : Nat) : Nat → Nat
  | 0 => 0
  | P + 1 => if P + 4 ≤ L ∧ h P = hh then P + 1 else lastB h L hh P
theorem lastB_le (h : Nat → Nat) (L hh : Nat) : ∀ P, lastB h L hh P ≤ P
  | 0 => Nat.le_refl _
  | P + 1 => by
    unfold lastB; split
    · exact Nat.le_refl _
    · exact Nat.le_succ_of_le (lastB_le h L hh P)
theorem lastB_is (h : Nat → Nat) (L hh : Nat) : ∀ P q, lastB h L hh P = q + 1 → q + 4 ≤ L ∧ h q = hh
  | 0, q, e => by simp [lastB] at e
  | P + 1, q, e => by
    unfold lastB at e
    split at e
    · rename_i h1
      obtain rfl : P = q := by omega
      exact h1
    · exact lastB_is h L hh P q e
def Sums (g : Nat → Int) (h : Nat → Nat) (L : Nat) : Prop := ∀ q p, q + 4 ≤ L → p + 4 ≤ L → (∀ k, k < 4 → g (q + k) = g (p + k)) → h q = h p
/-- Between two places of the chain nothing is missed. -/
theorem chain_skip (g : Nat → Int) (h : Nat → Nat) (L at_ : Nat) (hs : Sums g h L) (ha : at_ + 4 ≤ L) : ∀ P, P ≤ at_ →
    best g L at_ 4 (min (at_ - lastB h L (h at_) P) 8192) = best g L at_ 4 (min (at_ - P) 8192)
  | 0, _ => rfl
  | P + 1, hP => by
    unfold lastB
    split
    · rfl
    · rename_i hn
      rw [chain_skip g h L at_ hs ha P (by omega)]
      by_cases h8 : at_ - P ≤ 8192
      · obtain ⟨m, hm⟩ : ∃ m, at_ - P = m + 1 := ⟨at_ - P - 1, by omega⟩
        rw [show min (at_ - P) 8192 = m + 1 from by omega, show min (at_ - (P + 1)) 8192 = m from by omega]
        show step 4 _ _ (best g L at_ 4 m) = _
        rw [step_skip]
        left
        rcases Nat.lt_or_ge (aln g L (at_ - (m + 1)) at_) 4 with h4 | h4
        · exact h4
        · exfalso
          apply hn
          have e : at_ - (m + 1) = P := by omega
          rw [e] at h4
          exact ⟨by omega, hs P at_ (by omega) ha (fun k hk => al_get g (min (L - at_) 131) _ _ k (by unfold aln at h4; omega))⟩
      · rw [show min (at_ - P) 8192 = 8192 from by omega, show min (at_ - (P + 1)) 8192 = 8192 from by omega]
theorem chain_start (g : Nat → Int) (h : Nat → Nat) (L at_ : Nat) (hs : Sums g h L) (ha : at_ + 4 ≤ L) : best g L at_ 4 (min (at_ - lastB h L (h at_) at_) 8192) = (0, 0) := by
  rw [chain_skip g h L at_ hs ha at_ (Nat.le_refl _), Nat.sub_self]; rfl
theorem chain_next (g : Nat → Int) (h : Nat → Nat) (L at_ q : Nat) (hs : Sums g h L) (ha : at_ + 4 ≤ L) (hq : q < at_) (hh : h q = h at_) (h8 : at_ - q ≤ 8192) :
    best g L at_ 4 (min (at_ - lastB h L (h q) q) 8192) = step 4 (aln g L q at_) (at_ - q) (best g L at_ 4 (min (at_ - (q + 1)) 8192)) := by
  rw [hh, chain_skip g h L at_ hs ha q (by omega)]
  obtain ⟨m, hm⟩ : ∃ m, at_ - q = m + 1 := ⟨at_ - q - 1, by omega⟩
  rw [show min (at_ - q) 8192 = m + 1 from by omega, show min (at_ - (q + 1)) 8192 = m from by omega]
  show step 4 (aln g L (at_ - (m + 1)) at_) (m + 1) _ = _
  rw [show at_ - (m + 1) = q from by omega, hm]
theorem bestAt_short (g : Nat → Int) (L p : Nat) (h : L < p + 4) : bestAt g L p = (0, 0) := by
  unfold bestAt
  generalize min p 8192 = m
  induction m with
  | zero => rfl
  | succ m ih =>
    have h2 := aln_le g L (p - (m + 1)) p
    unfold best
    rw [ih, step_skip]
    left; omega
end Go.Proofs.Ytgnoaokpahklaaa.Lzm
/- The chains of layer 4: what they are in memory, and what each of their calls makes of them. -/
namespace Go.Proofs.Ytgnoaokpahklaaa.Lzw
open Go Go.RowKit Go.Lib Go.Proofs.Ytgnoaokpahklaaa.Lzm Go.Proofs.YtgnoaokpahklaaaW.PrintWords Go.Proofs.Ytgnoaokpahklaaa.QA Go.Proofs.YtgnoaokpahklaaaW.PrintLast Go.Proofs.YtgnoaokpahklaaaW.PrintMore
set_option linter.unusedVariables false
set_option linter.unusedSimpArgs false

/-- The bytes of a text, as numbers. -/
def gb (S : ByteArray) (i : Nat) : Int := bt S (i : Int)
theorem gb_at (S : ByteArray) (i : Nat) (h : i < S.size) : ((S[i]'h).toNat : Int) = gb S i := bt_at S (i : Int) h
/-- The sum of four bytes, as the program makes it. -/
def sumI (c0 c1 c2 c3 : Int) : Int :=
  bits .or .u32 (bits .or .u32 (bits .or .u32 (c0 % 4294967296) (c1 % 4294967296 * 256 % 4294967296)) (c2 % 4294967296 * 65536 % 4294967296)) (c3 % 4294967296 * 16777216 % 4294967296) * 2654435761 % 4294967296 / 131072
def hN (S : ByteArray) (i : Nat) : Nat := (sumI (gb S i) (gb S (i + 1)) (gb S (i + 2)) (gb S (i + 3))).toNat
theorem sumI_range (a b c d : Int) : 0 ≤ sumI a b c d ∧ sumI a b c d < 32768 := by
  unfold sumI
  omega
theorem hN_lt (S : ByteArray) (i : Nat) : hN S i < 32768 := by
  have := sumI_range (gb S i) (gb S (i + 1)) (gb S (i + 2)) (gb S (i + 3))
  unfold hN; omega
theorem hN_int (S : ByteArray) (i : Nat) : ((hN S i : Nat) : Int) = sumI (gb S i) (gb S (i + 1)) (gb S (i + 2)) (gb S (i + 3)) := by
  have := sumI_range (gb S i) (gb S (i + 1)) (gb S (i + 2)) (gb S (i + 3))
  unfold hN; omega
theorem sums (S : ByteArray) : Sums (gb S) (hN S) S.size := by
  intro q p _ _ h
  unfold hN
  have h0 := h 0 (by omega); have h1 := h 1 (by omega); have h2 := h 2 (by omega); have h3 := h 3 (by omega)
  rw [Nat.add_zero, Nat.add_zero] at h0
  rw [h0, h1, h2, h3]
theorem ret_u32 {a b : Int} (h : a = b) : Ending.returned (.int .u32 a) = .returned (.int .u32 b) := by rw [h]

set_option maxRecDepth 100000 in
theorem sum_calls (b : Nat) (S : ByteArray) (at_ : Nat) (w : World) (c0 : w.cell? ⟨b, 0, none⟩ = some (.string S)) (ha : at_ + 4 ≤ S.size) (hS : S.size ≤ 140737488355328) :
    Calls Try.prog 36 #[.pointer (some ⟨b, 0, none⟩), .int .i64 (at_ : Int)] w fun e w' => e = .returned (.int .u32 ((hN S at_ : Nat) : Int)) ∧ ∃ n, w' = w.drewN n := by
  have ha0 : at_ < S.size := by omega
  have ha1 : at_ + 1 < S.size := by omega
  have ha2 : at_ + 2 < S.size := by omega
  have ha3 : at_ + 3 < S.size := by omega
  go_enter Try.func36, Try.ntmps36
  go_wp2
  have e1 : IntKind.i64.wrap ((at_ : Int) + 1) = at_ + 1 := IntWalk.i64_in _ (by omega)
  have e2 : IntKind.i64.wrap ((at_ : Int) + 2) = at_ + 2 := IntWalk.i64_in _ (by omega)
  have e3 : IntKind.i64.wrap ((at_ : Int) + 3) = at_ + 3 := IntWalk.i64_in _ (by omega)
  have n1 : 0 ≤ (at_ : Int) + 1 := by omega
  have n2 : 0 ≤ (at_ : Int) + 2 := by omega
  have n3 : 0 ≤ (at_ : Int) + 3 := by omega
  have t1 : ((at_ : Int) + 1).toNat = at_ + 1 := by omega
  have t2 : ((at_ : Int) + 2).toNat = at_ + 2 := by omega
  have t3 : ((at_ : Int) + 3).toNat = at_ + 3 := by omega
  have m1 : (at_ : Int) + 1 < (S.size : Int) := by omega
  have m2 : (at_ : Int) + 2 < (S.size : Int) := by omega
  have m3 : (at_ : Int) + 3 < (S.size : Int) := by omega
  go_quiet (fail)
  go_wp2
  go_ret
  refine ⟨ret_u32 ?_, _, rfl⟩
  rw [hN_int, ← gb_at S at_ ha0, ← gb_at S (at_ + 1) ha1, ← gb_at S (at_ + 2) ha2, ← gb_at S (at_ + 3) ha3]
  rfl
theorem wrap_id {x : Int} (h0 : -9223372036854775808 ≤ x) (h1 : x ≤ 9223372036854775807) : wrap64 x = x := by unfold wrap64; omega
theorem alike_ev (S : ByteArray) (hS : S.size ≤ 140737488355328) (q p : Nat) (hq : q < p) (hp : p ≤ S.size) : Ev (fun k => lz_alike.f k S (q : Int) (p : Int)) ((aln (gb S) S.size q p : Nat) : Int) := by
  have key : ∀ (d n : Nat), n + d = aln (gb S) S.size q p → Ev (fun k => lz_alike.l0 k S (q : Int) (p : Int) (n : Int) ((min (S.size - p) 131 : Nat) : Int)) ((aln (gb S) S.size q p : Nat) : Int) := by
    intro d
    induction d with
    | zero =>
      intro n hn
      have hle := aln_le (gb S) S.size q p
      refine Ev.step (f := fun _ => some (n : Int)) (fun k => ?_) (by rw [← hn, Nat.add_zero]; exact Ev.now _)
      rw [lz_alike.l0]
      by_cases hM : n < min (S.size - p) 131
      · rw [if_pos (by omega), wrap_id (by omega) (by omega), wrap_id (by omega) (by omega), if_pos (by omega), if_pos (by omega), if_pos (by omega), if_pos (by omega)]
        have hst := al_stop (gb S) (min (S.size - p) 131) q p (by unfold aln at hn; omega)
        have e : al (gb S) (min (S.size - p) 131) q p = n := by unfold aln at hn; omega
        rw [e] at hst
        rw [if_neg (by rw [← Int.natCast_add, ← Int.natCast_add]; exact hst)]
      · rw [if_neg (by omega)]
    | succ d ih =>
      intro n hn
      have hle := aln_le (gb S) S.size q p
      refine Ev.step (f := fun k => lz_alike.l0 k S (q : Int) (p : Int) ((n + 1 : Nat) : Int) ((min (S.size - p) 131 : Nat) : Int)) (fun k => ?_) (ih (n + 1) (by omega))
      rw [lz_alike.l0, if_pos (by omega), wrap_id (by omega) (by omega), wrap_id (by omega) (by omega), wrap_id (by omega) (by omega), if_pos (by omega), if_pos (by omega), if_pos (by omega), if_pos (by omega)]
      have hg := al_get (gb S) (min (S.size - p) 131) q p n (by unfold aln at hn; omega)
      rw [if_pos (by rw [← Int.natCast_add, ← Int.natCast_add]; exact hg)]
      rfl
  have h := key _ 0 (Nat.zero_add _)
  refine Ev.congr (fun k => ?_) h
  unfold lz_alike.f
  rw [wrap_id (by omega) (by omega)]
  congr 1
  unfold mn; omega
/-- A number that fits into an int32. -/
theorem i32_in {x : Int} (h0 : 0 ≤ x) (h1 : x ≤ 2147483647) : IntKind.i32.wrap x = x := by rw [IntKind.wrap_i32]; omega

/-- The chains in block b: the text, the last place of each sum, the slice of the places ahead. -/
structure ChAt (w : World) (b g : Nat) (S : ByteArray) (last prev : Nat → Nat) : Prop where
  ex : ∃ cs ps, w.heap[b]? = some (.cells cs 62 (0, 0)) ∧ w.heap[g]? = some (.cells ps 21 (0, 0)) ∧ cs.size = 32770 ∧ ps.size = S.size ∧ cs[0]? = some (.string S) ∧ cs[32769]? = some (.slice (some ⟨g, 0, none⟩) S.size S.size) ∧
    (∀ h, h < 32768 → cs[1 + h]? = some (.int .i32 (last h : Int))) ∧ (∀ i, i < S.size → ps[i]? = some (.int .i32 (prev i : Int)))
theorem ChAt.keep {w w' : World} {b g : Nat} {S : ByteArray} {last prev : Nat → Nat} (h : ChAt w b g S last prev) (hb : w'.heap[b]? = w.heap[b]?) (hg : w'.heap[g]? = w.heap[g]?) : ChAt w' b g S last prev := by
  obtain ⟨cs, ps, h1, h2, h3⟩ := h.ex
  exact ⟨⟨cs, ps, hb.trans h1, hg.trans h2, h3⟩⟩
theorem lt_heap {w : World} {b : Nat} {o : Obj} (h : w.heap[b]? = some o) : b < w.heap.size := (Array.getElem?_eq_some_iff.1 h).1
theorem ChAt.lts {w : World} {b g : Nat} {S : ByteArray} {last prev : Nat → Nat} (h : ChAt w b g S last prev) : b < w.heap.size ∧ g < w.heap.size ∧ b ≠ g := by
  obtain ⟨cs, ps, h1, h2, _⟩ := h.ex
  refine ⟨lt_heap h1, lt_heap h2, ?_⟩
  rintro rfl
  rw [h1] at h2
  injection h2 with h2
  injection h2 with _ h2
  exact absurd h2 (by decide)
theorem ChAt.c0 {w : World} {b g : Nat} {S : ByteArray} {last prev : Nat → Nat} (h : ChAt w b g S last prev) : w.cell? ⟨b, 0, none⟩ = some (.string S) := by
  obtain ⟨cs, ps, h1, h2, _, _, h3, _⟩ := h.ex
  rw [cell_of_row w b 0 cs _ _ h1]; exact h3
theorem ChAt.cs {w : World} {b g : Nat} {S : ByteArray} {last prev : Nat → Nat} (h : ChAt w b g S last prev) : w.cell? ⟨b, 32769, none⟩ = some (.slice (some ⟨g, 0, none⟩) S.size S.size) := by
  obtain ⟨cs, ps, h1, h2, _, _, _, h3, _⟩ := h.ex
  rw [cell_of_row w b 32769 cs _ _ h1]; exact h3
theorem ChAt.cl {w : World} {b g : Nat} {S : ByteArray} {last prev : Nat → Nat} (h : ChAt w b g S last prev) (i : Nat) (hi : i < 32768) : w.cell? ⟨b, 1 + i, none⟩ = some (.int .i32 (last i : Int)) := by
  obtain ⟨cs, ps, h1, h2, _, _, _, _, h3, _⟩ := h.ex
  rw [cell_of_row w b (1 + i) cs _ _ h1]; exact h3 i hi
theorem ChAt.cp {w : World} {b g : Nat} {S : ByteArray} {last prev : Nat → Nat} (h : ChAt w b g S last prev) (i : Nat) (hi : i < S.size) : w.cell? ⟨g, i, none⟩ = some (.int .i32 (prev i : Int)) := by
  obtain ⟨cs, ps, h1, h2, _, _, _, _, _, h3⟩ := h.ex
  rw [cell_of_row w g i ps _ _ h2]; exact h3 i hi
theorem ChAt.fr {w : World} {b g : Nat} {S : ByteArray} {last prev : Nat → Nat} (h : ChAt w b g S last prev) (i : Nat) : w.frozen? ⟨b, i, none⟩ = false ∧ w.frozen? ⟨g, i, none⟩ = false := by
  obtain ⟨cs, ps, h1, h2, _⟩ := h.ex
  exact ⟨by simp [World.frozen?, h1], by simp [World.frozen?, h2]⟩
theorem ChAt.below {w w' : World} {b g : Nat} {S : ByteArray} {last prev : Nat → Nat} (h : ChAt w b g S last prev) (hb : Below w.heap.size w w') : ChAt w' b g S last prev :=
  h.keep (hb.block b h.lts.1) (hb.block g h.lts.2.1)
/-- The chains behind the first P places. -/
def ChainsAt (w : World) (b g : Nat) (S : ByteArray) (P : Nat) : Prop := ∃ last prev, ChAt w b g S last prev ∧ (∀ h, h < 32768 → last h = lastB (hN S) S.size h P) ∧ (∀ q, q < P → q + 4 ≤ S.size → prev q = lastB (hN S) S.size (hN S q) q)
theorem info60 : (Try.prog.info? 60).map (fun i => i.size) = some 32768 := by kernel_rfl
theorem size60 : ∃ i, Try.prog.info? 60 = some i ∧ i.size = 32768 := by
  obtain ⟨i, hi, hs⟩ := Option.map_eq_some_iff.1 info60
  exact ⟨i, hi, hs⟩
theorem fa1 (b : Nat) (w : World) : (Instr.fieldAt 62 (.pointer (some ⟨b, 0, none⟩)) 1).run Try.prog w = Result.ok (.pointer (some ⟨b, 1, none⟩)) w := by
  obtain ⟨i60, hi60, hs60⟩ := size60
  simp [Instr.fieldAt, run_underlying Try.underlying62, Instr.sureAddr, fieldPlace, sizeOf, typeInfo, hi60, hs60, Addr.add]
theorem below_drewN {B : Nat} {a b : World} (h : Below B a b) (n : Nat) : Below B a (b.drewN n) := pw_below_drewN h n
theorem ret_tup {a b c d : Int} (h : a = c) (h' : b = d) : Ending.returned (.tuple #[.int .i64 a, .int .i64 b]) = .returned (.tuple #[.int .i64 c, .int .i64 d]) := by rw [h, h']

set_option maxRecDepth 100000 in
theorem best_short (b g : Nat) (S : ByteArray) (at_ : Nat) (last prev : Nat → Nat) (w : World) (h : ChAt w b g S last prev) (ha : at_ ≤ S.size) (h4 : S.size < at_ + 4) (hS : S.size ≤ 1073741824) :
    Calls Try.prog 28 #[.pointer (some ⟨b, 0, none⟩), .int .i64 (at_ : Int)] w fun e w' => e = .returned (.tuple #[.int .i64 0, .int .i64 0]) ∧ Below w.heap.size w w' := by
  have c0 := h.c0
  go_enter Try.func28, Try.ntmps28
  go_wp2
  go_ret2
  exact ⟨rfl, Below.refl _ _⟩
set_option maxRecDepth 100000 in
set_option maxHeartbeats 1000000 in
theorem best_calls (b g : Nat) (S : ByteArray) (at_ : Nat) (w : World) (h : ChainsAt w b g S at_) (h4 : at_ + 4 ≤ S.size) (hS : S.size ≤ 1073741824) :
    Calls Try.prog 28 #[.pointer (some ⟨b, 0, none⟩), .int .i64 (at_ : Int)] w fun e w' => e = .returned (.tuple #[.int .i64 ((bestAt (gb S) S.size at_).1 : Int), .int .i64 ((bestAt (gb S) S.size at_).2 : Int)]) ∧ Below w.heap.size w w' := by
  obtain ⟨last, prev, hc, hl, hp⟩ := h
  have c0 := hc.c0
  go_enter Try.func28, Try.ntmps28
  go_wp2
  have HL := Lib.hid hl
  have HP := Lib.hid hp
  clear hl hp
  obtain ⟨H, hH⟩ : ∃ H, H = hN S at_ := ⟨_, rfl⟩
  have hlt : H < 32768 := by rw [hH]; exact hN_lt S at_
  have cl : w.cell? ⟨b, 1 + H, none⟩ = some (.int .i32 ((last H : Nat) : Int)) := hc.cl H hlt
  have hlt' : ((H : Nat) : Int) < 32768 := by omega
  have hbd : last H ≤ at_ := by rw [HL.out _ hlt]; exact lastB_le _ _ _ _
  have ew : IntKind.i64.wrap (((last H : Nat) : Int) - 1) = ((last H : Nat) : Int) - 1 := IntWalk.i64_in _ (by omega)
  have HH := Lib.hid hH
  clear hH
  go_quiet ((go_at_call 36; exact Calls.quiet_of (v := .int .u32 ((H : Nat) : Int)) (by rw [HH.out]; exact sum_calls b S at_ _ c0 h4 (by omega))))
  have hq1 : last H = lastB (hN S) S.size (hN S at_) at_ := by rw [HL.out _ hlt, HH.out]
  have hst := chain_start (gb S) (hN S) S.size at_ (sums S) h4
  rw [← hq1] at hst
  have HQ := Lib.hid hq1
  have HST := Lib.hid hst
  clear hq1 hst cl ew HL
  generalize last H = q0 at *
  go_wp2
  go_loopw [4, 5, 6] (fun x4 x5 x6 wr => ∃ (q1 n d : Nat), q1 ≤ at_ ∧ x6 = .int .i64 ((q1 : Int) - 1) ∧ x4 = .int .i64 (n : Int) ∧ x5 = .int .i64 (d : Int) ∧ Hid (best (gb S) S.size at_ 4 (min (at_ - q1) 8192) = (n, d)) ∧ Hid (q1 = 0 ∨ ∃ q, q1 = q + 1 ∧ q + 4 ≤ S.size ∧ hN S q = hN S at_) ∧ Below w.heap.size w wr) (fun _ _ x6 _ => (intOf x6 + 1).toNat)
  case atStart => exact ⟨q0, 0, 0, hbd, rfl, rfl, rfl, Lib.hid HST.out, Lib.hid (by
    cases hq : q0 with
    | zero => exact .inl rfl
    | succ q =>
      right
      exact ⟨q, rfl, lastB_is (hN S) S.size _ at_ q (by rw [← HQ.out, hq])⟩), below_drewN (Below.refl _ _) _⟩
  case round =>
    obtain ⟨q1, n, d, hq1, rfl, rfl, rfl, hb, hc4, hB⟩ := hrel
    have hB' := Lib.hid hB
    have hcr : ChAt wr b g S last prev := hc.keep (hB.block b hc.lts.1) (hB.block g hc.lts.2.1)
    clear hB
    by_cases h0 : q1 = 0
    · subst h0
      have t1 : (((0 : Nat) : Int) - 1 ≥ 0) = False := by simp
      go_wp2
      go_ret2
      refine ⟨?_, hB'.out⟩
      have := hb.out
      rw [Nat.sub_zero] at this
      unfold bestAt; rw [this]; rfl
    · obtain ⟨q, rfl⟩ : ∃ q, q1 = q + 1 := ⟨q1 - 1, by omega⟩
      obtain ⟨hq4, hqh⟩ : q + 4 ≤ S.size ∧ hN S q = hN S at_ := by
        rcases hc4.out with h | ⟨q', e, h1, h2⟩
        · omega
        · obtain rfl : q = q' := by omega
          exact ⟨h1, h2⟩
      have HQH := Lib.hid hqh
      clear hqh hc4 h0
      have eq1 : (((q + 1 : Nat) : Int) - 1) = (q : Int) := by omega
      rw [eq1]
      by_cases h8 : 8192 < at_ - q
      · have t2 : decide ((at_ : Int) - q ≤ 8192) = false := by simp; omega
        go_wp2
        go_ret2
        refine ⟨?_, hB'.out⟩
        have := hb.out
        rw [show min (at_ - (q + 1)) 8192 = min at_ 8192 from by omega] at this
        unfold bestAt; rw [this]; rfl
      · have t2 : decide ((at_ : Int) - q ≤ 8192) = true := by simp; omega
        by_cases h131 : 131 ≤ n
        · have t3 : decide ((n : Int) < 131) = false := by simp; omega
          go_wp2
          go_ret2
          refine ⟨?_, hB'.out⟩
          have hbb := hb.out
          have hle := best_le (gb S) S.size at_ 4 (min (at_ - (q + 1)) 8192)
          have := best_full' (gb S) S.size at_ 4 (min (at_ - (q + 1)) 8192) (min at_ 8192) (by rw [hbb] at hle ⊢; show n = 131; have : n ≤ 131 := hle.1; omega) (by omega)
          unfold bestAt; rw [this, hbb]; rfl
        · have t3 : decide ((n : Int) < 131) = true := by simp; omega
          obtain ⟨kr, hkr⟩ := Ev.rounds (alike_ev S (by omega) q at_ (by omega) (by omega))
          have hpq : prev q ≤ q := by rw [HP.out q (by omega) hq4]; exact lastB_le _ _ _ _
          have hnx := chain_next (gb S) (hN S) S.size at_ q (sums S) h4 (by omega) HQH.out (by omega)
          rw [← HP.out q (by omega) hq4, hb.out] at hnx
          have hlb : prev q = 0 ∨ ∃ q', prev q = q' + 1 ∧ q' + 4 ≤ S.size ∧ hN S q' = hN S at_ := by
            cases hq : prev q with
            | zero => exact .inl rfl
            | succ q' =>
              right
              have := lastB_is (hN S) S.size (hN S q) q q' (by rw [← HP.out q (by omega) hq4, hq])
              exact ⟨q', rfl, this.1, this.2.trans HQH.out⟩
          have cp : wr.cell? ⟨g, q, none⟩ = some (.int .i32 ((prev q : Nat) : Int)) := hcr.cp q (by omega)
          have HLB := Lib.hid hlb
          have HNX := Lib.hid hnx
          clear hlb hnx
          generalize hr : aln (gb S) S.size q at_ = r at *
          have HR := Lib.hid hr
          clear hr
          have hqs : q < S.size := by omega
          have hqs' : (q : Int) < (S.size : Int) := by omega
          have c0r := hcr.c0
          have csr := hcr.cs
          generalize hpv : prev q = pq at *
          have HPV := Lib.hid hpv
          clear hpv
          by_cases hr4 : 4 ≤ r
          · by_cases hrn : n < r
            · have u1 : decide (4 ≤ (r : Int)) = true := by simp; omega
              have u2 : decide (n < r) = true := by simp; omega
              go_wp2_with ((go_at_call 33; refine (lz_alike.calls kr S q at_ r _ hkr).mono ?_; rintro e w1 ⟨rfl, hb1⟩; have hc1 := hcr.below hb1; have cp1 := hc1.cp q hqs; rw [HPV.out] at cp1; have cs1 := hc1.cs; have hB1 := Lib.hid (below_then hB'.out hB'.out.size hb1)))
              exact ⟨⟨pq, r, at_ - q, by omega, rfl, rfl, congrArg (Value.int .i64) (by omega), Lib.hid (by rw [HNX.out, Lzm.step_take hr4 hrn]), Lib.hid HLB.out, hB1.out⟩, by simp [intOf]; omega⟩
            · have u1 : decide (4 ≤ (r : Int)) = true := by simp; omega
              have u2 : decide (n < r) = false := by simp; omega
              go_wp2_with ((go_at_call 33; refine (lz_alike.calls kr S q at_ r _ hkr).mono ?_; rintro e w1 ⟨rfl, hb1⟩; have hc1 := hcr.below hb1; have cp1 := hc1.cp q hqs; rw [HPV.out] at cp1; have cs1 := hc1.cs; have hB1 := Lib.hid (below_then hB'.out hB'.out.size hb1)))
              exact ⟨⟨pq, n, d, by omega, rfl, rfl, rfl, Lib.hid (by rw [HNX.out, Lzm.step_skip (by omega)]), Lib.hid HLB.out, hB1.out⟩, by simp [intOf]; omega⟩
          · have u1 : decide (4 ≤ (r : Int)) = false := by simp; omega
            go_wp2_with ((go_at_call 33; refine (lz_alike.calls kr S q at_ r _ hkr).mono ?_; rintro e w1 ⟨rfl, hb1⟩; have hc1 := hcr.below hb1; have cp1 := hc1.cp q hqs; rw [HPV.out] at cp1; have cs1 := hc1.cs; have hB1 := Lib.hid (below_then hB'.out hB'.out.size hb1)))
            exact ⟨⟨pq, n, d, by omega, rfl, rfl, rfl, Lib.hid (by rw [HNX.out, Lzm.step_skip (by omega)]), Lib.hid HLB.out, hB1.out⟩, by simp [intOf]; omega⟩

/-- What add leaves. -/
def AddOut (w w' : World) (b g : Nat) (S : ByteArray) (P : Nat) : Prop :=
  ChainsAt w' b g S P ∧ (∀ B a, Below B a w → B ≤ b → B ≤ g → Below B a w') ∧ w'.heap.size = w.heap.size ∧ (∀ i, i ≠ b → i ≠ g → w'.heap[i]? = w.heap[i]?)
theorem add_skip_law (b g : Nat) (S : ByteArray) (P : Nat) (w : World) (h : ChainsAt w b g S P) (h4 : S.size < P + 4) : ChainsAt w b g S (P + 1) := by
  obtain ⟨last, prev, hc, hl, hp⟩ := h
  refine ⟨last, prev, hc, fun h hh => ?_, fun q hq hq4 => hp q (by omega) hq4⟩
  rw [hl h hh]
  show _ = if P + 4 ≤ S.size ∧ hN S P = h then P + 1 else lastB (hN S) S.size h P
  rw [if_neg (by omega)]
set_option maxRecDepth 100000 in
theorem add_short (b g : Nat) (S : ByteArray) (P : Nat) (w : World) (h : ChainsAt w b g S P) (hP : P < S.size) (h4 : S.size < P + 4) (hS : S.size ≤ 1073741824) :
    Calls Try.prog 29 #[.pointer (some ⟨b, 0, none⟩), .int .i64 (P : Int)] w fun e w' => e = .returned (.tuple #[]) ∧ AddOut w w' b g S (P + 1) := by
  have hn := add_skip_law b g S P w h h4
  obtain ⟨last, prev, hc, hl, hp⟩ := h
  have c0 := hc.c0
  have HN := Lib.hid hn
  clear hn hl hp
  go_enter Try.func29, Try.ntmps29
  go_wp2
  go_end0
  exact ⟨rfl, HN.out, fun _ _ h _ _ => h, rfl, fun _ _ _ => rfl⟩
theorem row_set {w : World} {b : Nat} {cs : Array Value} {t : TypeId} (h : w.heap[b]? = some (.cells cs t (0, 0))) (i : Nat) (u : Value) : (w.setCell ⟨b, i, none⟩ u).heap[b]? = some (.cells (cs.setIfInBounds i u) t (0, 0)) := by
  simp [World.setCell, Array.getElem?_modify, h]
theorem ChAt.set_prev {w : World} {b g : Nat} {S : ByteArray} {last prev : Nat → Nat} (h : ChAt w b g S last prev) (P : Nat) (hP : P < S.size) (x : Nat) : ChAt (w.setCell ⟨g, P, none⟩ (.int .i32 (x : Int))) b g S last (fun i => if i = P then x else prev i) := by
  have hbg := h.lts.2.2
  obtain ⟨cs, ps, h1, h2, h3, h4, h5, h6, h7, h8⟩ := h.ex
  refine ⟨⟨cs, _, (Below.heap_setCell w ⟨g, P, none⟩ _ b hbg).trans h1, row_set h2 P _, h3, by rw [Array.size_setIfInBounds]; exact h4, h5, h6, h7, fun i hi => ?_⟩⟩
  rw [Array.getElem?_setIfInBounds]
  by_cases hiP : P = i
  · subst hiP; rw [if_pos rfl, if_pos (by omega)]; simp
  · rw [if_neg hiP, h8 i hi, if_neg (fun e => hiP e.symm)]
theorem ChAt.set_last {w : World} {b g : Nat} {S : ByteArray} {last prev : Nat → Nat} (h : ChAt w b g S last prev) (H : Nat) (hH : H < 32768) (x : Nat) : ChAt (w.setCell ⟨b, 1 + H, none⟩ (.int .i32 (x : Int))) b g S (fun i => if i = H then x else last i) prev := by
  have hbg := h.lts.2.2
  obtain ⟨cs, ps, h1, h2, h3, h4, h5, h6, h7, h8⟩ := h.ex
  refine ⟨⟨_, ps, row_set h1 (1 + H) _, (Below.heap_setCell w ⟨b, 1 + H, none⟩ _ g (fun e => hbg e.symm)).trans h2, by rw [Array.size_setIfInBounds]; exact h3, h4, ?_, ?_, fun i hi => ?_, h8⟩⟩
  · rw [Array.getElem?_setIfInBounds, if_neg (by omega)]; exact h5
  · rw [Array.getElem?_setIfInBounds, if_neg (by omega)]; exact h6
  · rw [Array.getElem?_setIfInBounds]
    by_cases hiH : 1 + H = 1 + i
    · obtain rfl : H = i := by omega
      rw [if_pos rfl, if_pos (by omega)]; simp
    · rw [if_neg hiH, h7 i hi, if_neg (by omega)]
theorem add_law (b g : Nat) (S : ByteArray) (P H : Nat) (w : World) (hH : H = hN S P) (hP : P + 4 ≤ S.size) (last prev : Nat → Nat) (hc : ChAt w b g S last prev) (hl : ∀ h, h < 32768 → last h = lastB (hN S) S.size h P)
    (hp : ∀ q, q < P → q + 4 ≤ S.size → prev q = lastB (hN S) S.size (hN S q) q) :
    AddOut w ((w.setCell ⟨g, P, none⟩ (.int .i32 (last H : Int))).setCell ⟨b, 1 + H, none⟩ (.int .i32 ((P + 1 : Nat) : Int))) b g S (P + 1) := by
  have hlt : H < 32768 := by rw [hH]; exact hN_lt S P
  refine ⟨⟨_, _, (hc.set_prev P (by omega) (last H)).set_last H hlt (P + 1), fun h hh => ?_, fun q hq hq4 => ?_⟩, fun B a hb h1 h2 => (hb.setCell h2 _).setCell h1 _, by rw [World.size_setCell, World.size_setCell], fun i h1 h2 => (Below.heap_setCell _ _ _ _ h1).trans (Below.heap_setCell _ _ _ _ h2)⟩
  · show (if h = H then P + 1 else last h) = if P + 4 ≤ S.size ∧ hN S P = h then P + 1 else lastB (hN S) S.size h P
    by_cases he : h = H
    · rw [if_pos he, if_pos ⟨hP, by rw [he, hH]⟩]
    · rw [if_neg he, if_neg (fun e => he (by rw [← e.2, hH])), hl h hh]
  · show (if q = P then last H else prev q) = _
    by_cases he : q = P
    · rw [if_pos he, hl H hlt, he, hH]
    · rw [if_neg he, hp q (by omega) hq4]
theorem AddOut.same {w w1 w2 : World} {b g : Nat} {S : ByteArray} {P : Nat} (h : AddOut w w1 b g S P) (h1 : w2.heap = w1.heap) (h2 : w2.os = w1.os) (h3 : w2.tape = w1.tape) (h4 : w2.output = w1.output) : AddOut w w2 b g S P := by
  obtain ⟨⟨last, prev, hc, hl, hp⟩, hb, hz, hk⟩ := h
  refine ⟨⟨last, prev, hc.keep (by rw [h1]) (by rw [h1]), hl, hp⟩, fun B a x y z => ?_, by rw [h1]; exact hz, fun i hi hj => by rw [h1]; exact hk i hi hj⟩
  have := hb B a x y z
  exact ⟨h2.trans this.os, h3.trans this.tape, h4.trans this.output, by rw [h1]; exact this.size, fun k hk => by rw [h1]; exact this.block k hk⟩
theorem AddOut.drewN {w w' : World} {b g : Nat} {S : ByteArray} {P n : Nat} (h : AddOut (w.drewN n) w' b g S P) : AddOut w w' b g S P :=
  ⟨h.1, fun B a hb h1 h2 => h.2.1 B a (below_drewN hb n) h1 h2, h.2.2.1, h.2.2.2⟩
set_option maxRecDepth 100000 in
set_option maxHeartbeats 400000 in
theorem add_calls (b g : Nat) (S : ByteArray) (P : Nat) (w : World) (h : ChainsAt w b g S P) (h4 : P + 4 ≤ S.size) (hS : S.size ≤ 1073741824) :
    Calls Try.prog 29 #[.pointer (some ⟨b, 0, none⟩), .int .i64 (P : Int)] w fun e w' => e = .returned (.tuple #[]) ∧ AddOut w w' b g S (P + 1) := by
  obtain ⟨last, prev, hc, hl, hp⟩ := h
  have c0 := hc.c0
  obtain ⟨H, hH⟩ : ∃ H, H = hN S P := ⟨_, rfl⟩
  have hlt : H < 32768 := by rw [hH]; exact hN_lt S P
  have hlt' : ((H : Nat) : Int) < 32768 := by omega
  have HL := Lib.hid hl
  have HP := Lib.hid hp
  have HH := Lib.hid hH
  clear hl hp hH
  go_enter Try.func29, Try.ntmps29
  have HC : Calls Try.prog 36 #[.pointer (some ⟨b, 0, none⟩), .int .i64 (P : Int)] w fun e w' => e = .returned (.int .u32 ((H : Nat) : Int)) ∧ ∃ n, w' = w.drewN n := by
    rw [HH.out]; exact sum_calls b S P _ c0 h4 (by omega)
  have HCC := Lib.hid HC
  clear HC hlt'
  have HLT := Lib.hid hlt
  clear hlt
  go_wp2_with fail
  refine HCC.out.mono ?_
  rintro e w1 ⟨rfl, n1, hw1⟩
  have HW1 := Lib.hid hw1
  clear hw1
  have hc1 : ChAt w1 b g S last prev := by rw [HW1.out]; exact hc.keep rfl rfl
  go_wp2_with fail
  have hlt := HLT.out
  have hlt' : ((H : Nat) : Int) < 32768 := by omega
  have cl : w1.cell? ⟨b, 1 + H, none⟩ = some (.int .i32 ((last H : Nat) : Int)) := hc1.cl H hlt
  have cs := hc1.cs
  have cp : w1.cell? ⟨g, P, none⟩ = some (.int .i32 ((prev P : Nat) : Int)) := hc1.cp P (by omega)
  have fg := (hc1.fr P).2
  have hPs : P < S.size := by omega
  clear c0
  go_region
  have hout := add_law b g S P H w1 HH.out h4 last prev hc1 HL.out HP.out
  have hc2 : ChAt ((w1.setCell ⟨g, P, none⟩ (.int .i32 ((last H : Nat) : Int))).drew) b g S last (fun i => if i = P then last H else prev i) := (hc1.set_prev P hPs (last H)).keep rfl rfl
  have hout2 : AddOut w (((w1.setCell ⟨g, P, none⟩ (.int .i32 ((last H : Nat) : Int))).drew).setCell ⟨b, 1 + H, none⟩ (.int .i32 ((P + 1 : Nat) : Int))) b g S (P + 1) := by
    rw [HW1.out] at hout ⊢
    exact hout.drewN.same rfl rfl rfl rfl
  clear hout cl cs cp fg
  generalize (w1.setCell ⟨g, P, none⟩ (.int .i32 ((last H : Nat) : Int))).drew = W2 at *
  have HO := Lib.hid hout2
  clear hout2
  have cl : W2.cell? ⟨b, 1 + H, none⟩ = some (.int .i32 ((last H : Nat) : Int)) := hc2.cl H hlt
  have fl : W2.frozen? ⟨b, 1 + H, none⟩ = false := (hc2.fr (1 + H)).1
  go_wp2
  go_end0
  exact ⟨rfl, HO.out⟩
end Go.Proofs.Ytgnoaokpahklaaa.Lzw
/- Pack of layer 4: what it answers. -/
namespace Go.Proofs.Ytgnoaokpahklaaa.Lzp
open Go Go.RowKit Go.Lib Go.Proofs.Ytgnoaokpahklaaa.Lzm Go.Proofs.Ytgnoaokpahklaaa.Lzw Go.Proofs.YtgnoaokpahklaaaW.PrintWords Go.Proofs.Ytgnoaokpahklaaa.QA Go.Proofs.YtgnoaokpahklaaaW.PrintLast Go.Proofs.YtgnoaokpahklaaaW.PrintMore
set_option linter.unusedVariables false
set_option linter.unusedSimpArgs false

/-- Literals in tokens: 128 to a token. -/
def litF : Nat → List Int → List Int
  | 0, _ => []
  | f + 1, l => if l = [] then [] else (((min l.length 128 : Nat) : Int) - 1) :: (l.take 128 ++ litF f (l.drop 128))
theorem litF_any : ∀ (n : Nat) (l : List Int), l.length ≤ n → ∀ f f', l.length ≤ f → l.length ≤ f' → litF f l = litF f' l
  | 0, l, h, f, f', _, _ => by
    have : l = [] := List.eq_nil_of_length_eq_zero (by omega)
    subst this
    cases f <;> cases f' <;> simp [litF]
  | n + 1, l, h, f, f', h1, h2 => by
    by_cases h0 : l = []
    · subst h0
      cases f <;> cases f' <;> simp [litF]
    · have hp : 0 < l.length := List.length_pos_iff.2 h0
      obtain ⟨g, rfl⟩ : ∃ g, f = g + 1 := ⟨f - 1, by omega⟩
      obtain ⟨g', rfl⟩ : ∃ g, f' = g + 1 := ⟨f' - 1, by omega⟩
      simp only [litF, if_neg h0]
      rw [litF_any n (l.drop 128) (by rw [List.length_drop]; omega) g g' (by rw [List.length_drop]; omega) (by rw [List.length_drop]; omega)]
def litB (l : List Int) : List Int := litF l.length l
theorem litB_nil : litB [] = [] := rfl
theorem litB_cons {l : List Int} (h : l ≠ []) : litB l = (((min l.length 128 : Nat) : Int) - 1) :: (l.take 128 ++ litB (l.drop 128)) := by
  have hp : 0 < l.length := List.length_pos_iff.2 h
  have e : litB l = litF (l.length + 1) l := litF_any l.length l (Nat.le_refl _) _ _ (Nat.le_refl _) (Nat.le_succ _)
  rw [e]
  show (if l = [] then [] else _) = _
  rw [if_neg h]
  congr 2
  exact litF_any l.length (l.drop 128) (by rw [List.length_drop]; omega) _ _ (by rw [List.length_drop]; omega) (Nat.le_refl _)
theorem litB_len : ∀ (n : Nat) (l : List Int), l.length ≤ n → (litB l).length ≤ 2 * l.length
  | 0, l, h => by
    have : l = [] := List.eq_nil_of_length_eq_zero (by omega)
    subst this; rw [litB_nil]; simp
  | n + 1, l, h => by
    by_cases h0 : l = []
    · subst h0; rw [litB_nil]; simp
    · have hp : 0 < l.length := List.length_pos_iff.2 h0
      rw [litB_cons h0]
      have := litB_len n (l.drop 128) (by rw [List.length_drop]; omega)
      simp only [List.length_cons, List.length_append, List.length_take, List.length_drop] at this ⊢
      omega
def matB (n d : Nat) : List Int := [(n : Int) + 124, (d : Int) / 256, (d : Int) % 256]
/-- The bytes of what is packed, from a place on. -/
def packF (S : ByteArray) : Nat → Nat → Nat → List Int → List Int
  | 0, at_, from_, acc => acc ++ litB (bytesOf (S.extract from_ S.size))
  | f + 1, at_, from_, acc =>
    if at_ < S.size then
      if (bestAt (gb S) S.size at_).1 = 0 then packF S f (at_ + 1) from_ acc
      else packF S f (at_ + (bestAt (gb S) S.size at_).1) (at_ + (bestAt (gb S) S.size at_).1) (acc ++ litB (bytesOf (S.extract from_ at_)) ++ matB (bestAt (gb S) S.size at_).1 (bestAt (gb S) S.size at_).2)
    else acc ++ litB (bytesOf (S.extract from_ S.size))
def packB (S : ByteArray) : List Int := packF S S.size 0 0 []
theorem bytesOf_extract (s : ByteArray) (a b : Nat) : bytesOf (s.extract a b) = ((bytesOf s).drop a).take (b - a) := by
  unfold bytesOf; rw [Go.Lib.extract_data, List.map_take, List.map_drop]
theorem bytesOf_empty {S : ByteArray} (h : S.toList = ([] : List UInt8)) : bytesOf S = [] := by
  have : S.data.toList = [] := by rw [← Lib.toList_data]; exact h
  unfold bytesOf; rw [this]; rfl
theorem size_toList (S : ByteArray) : S.toList.length = S.size := by
  rw [Lib.toList_data, Array.length_toList]; rfl
theorem toList_nil_iff (S : ByteArray) : S.toList = ([] : List UInt8) ↔ S.size = 0 := by
  constructor
  · intro h; have := size_toList S; rw [h] at this; simpa using this.symm
  · intro h; exact List.eq_nil_of_length_eq_zero (by rw [size_toList]; exact h)
theorem literals_ev (S : ByteArray) (acc : List Int) (h : acc.length + 2 * S.size < 140737488355328) : Ev (fun k => lz_literals.f k acc S) (acc ++ litB (bytesOf S)) := by
  have key : ∀ (n : Nat) (S : ByteArray) (acc : List Int), S.size ≤ n → acc.length + 2 * S.size < 140737488355328 → Ev (fun k => lz_literals.l0 k acc S) (acc ++ litB (bytesOf S)) := by
    intro n
    induction n with
    | zero =>
      intro S acc hn h
      refine Ev.step (f := fun _ => some acc) (fun k => ?_) ?_
      · rw [lz_literals.l0, if_pos ((toList_nil_iff S).2 (by omega))]
      · rw [bytesOf_empty ((toList_nil_iff S).2 (by omega)), litB_nil, List.append_nil]; exact Ev.now _
    | succ n ih =>
      intro S acc hn h
      by_cases h0 : S.size = 0
      · exact (Ev.step (f := fun _ => some acc) (fun k => by rw [lz_literals.l0, if_pos ((toList_nil_iff S).2 h0)]) (by rw [bytesOf_empty ((toList_nil_iff S).2 h0), litB_nil, List.append_nil]; exact Ev.now _))
      · have hne : ¬ S.toList = ([] : List UInt8) := fun e => h0 ((toList_nil_iff S).1 e)
        have hmn : mn (S.size : Int) 128 = ((min S.size 128 : Nat) : Int) := by unfold mn; omega
        have hsz1 : (S.extract 0 (min S.size 128)).size = min S.size 128 := by rw [ByteArray.size_extract]; omega
        have hsz2 : (S.extract (min S.size 128) S.size).size = S.size - min S.size 128 := by rw [ByteArray.size_extract]; omega
        have hb1 : bytesOf (S.extract 0 (min S.size 128)) = (bytesOf S).take 128 := by
          rw [bytesOf_extract, List.drop_zero, Nat.sub_zero]
          by_cases h8 : 128 ≤ S.size
          · rw [show min S.size 128 = 128 from by omega]
          · rw [List.take_of_length_le (by rw [bytesOf_length]; omega), List.take_of_length_le (by rw [bytesOf_length]; omega)]
        have hb2 : bytesOf (S.extract (min S.size 128) S.size) = (bytesOf S).drop 128 := by
          rw [bytesOf_extract, List.take_of_length_le (by rw [List.length_drop, bytesOf_length]; omega)]
          by_cases h8 : 128 ≤ S.size
          · rw [show min S.size 128 = 128 from by omega]
          · rw [List.drop_eq_nil_of_le (by rw [bytesOf_length]; omega), List.drop_eq_nil_of_le (by rw [bytesOf_length]; omega)]
        have hne2 : bytesOf S ≠ [] := by
          intro e; have := bytesOf_length S; rw [e] at this; exact h0 (by simpa using this.symm)
        have e1 : acc ++ litB (bytesOf S) = (acc ++ [(((min S.size 128 : Nat) : Int) - 1)] ++ bytesOf (S.extract 0 (min S.size 128))) ++ litB (bytesOf (S.extract (min S.size 128) S.size)) := by
          rw [litB_cons hne2, hb1, hb2, bytesOf_length]; simp
        rw [e1]
        refine Ev.step (f := fun k => lz_literals.l0 k (acc ++ [(((min S.size 128 : Nat) : Int) - 1)] ++ bytesOf (S.extract 0 (min S.size 128))) (S.extract (min S.size 128) S.size)) (fun k => ?_) (ih _ _ (by rw [hsz2]; omega) (by rw [hsz2, List.length_append, List.length_append, bytesOf_length, hsz1, List.length_singleton]; omega))
        rw [lz_literals.l0, if_neg hne, if_pos (by omega), hmn]
        simp only [Option.bind_some, Int.toNat_natCast]
        rw [if_pos (by omega), if_pos (by omega), if_pos (by rw [hsz1, List.length_append, List.length_singleton]; omega), show (((min S.size 128 : Nat) : Int) - 1) % 256 = ((min S.size 128 : Nat) : Int) - 1 from by omega]
  exact key S.size S acc (Nat.le_refl _) h
theorem match_some (acc : List Int) (n d : Nat) (hn : 4 ≤ n) (hn2 : n ≤ 131) (hd : d ≤ 8192) (h : acc.length + 3 < 140737488355328) : lz_match.f acc (n : Int) (d : Int) = some (acc ++ matB n d) := by
  unfold lz_match.f matB
  rw [Option.bind_some, if_pos (by simpa using h)]
  congr 3
  · rw [wrap_id (x := (n : Int) - 4) (by omega) (by omega), wrap_id (by omega) (by omega)]; omega
  · congr 1; omega

/-! The struct that Pack makes. -/
/-- Are they n zeros of an int32 and a nil slice? -/
def chk : Nat → List Value → Bool
  | 0, [.slice none 0 0] => true
  | n + 1, .int .i32 0 :: r => chk n r
  | _, _ => false
def chkS : Option Value → Bool
  | some (.agg c) => match c.toList with
    | .string _ :: r => chk 32768 r
    | _ => false
  | _ => false
theorem chk_said : ∀ n l, chk n l = true → l.length = n + 1 ∧ ∀ i, i < n → l[i]? = some (.int .i32 0)
  | 0, l, h => by
    unfold chk at h
    split at h
    · rename_i h1 _; simp
    · rename_i h1 _; omega
    · cases h
  | n + 1, l, h => by
    unfold chk at h
    split at h
    · rename_i h1 _; omega
    · rename_i m r h1 
      obtain rfl : n = m := by omega
      have := chk_said n _ h
      refine ⟨by simp [this.1], fun i hi => ?_⟩
      cases i with
      | zero => rfl
      | succ i => simpa using this.2 i (by omega)
    · cases h
theorem zero_chains : chkS ((Try.prog.info? 62).bind (fun i => i.zero)) = true := by kernel_rfl
theorem chkS_said (v : Option Value) (h : chkS v = true) : ∃ c, v = some (.agg c) ∧ c.size = 32770 ∧ ∀ i, i < 32768 → c[1 + i]? = some (.int .i32 0) := by
  unfold chkS at h
  split at h
  · rename_i c
    split at h
    · rename_i s r hc
      have hr := chk_said 32768 r h
      refine ⟨c, rfl, ?_, fun i hi => ?_⟩
      · rw [← Array.length_toList, hc, List.length_cons, hr.1]
      · rw [← Array.getElem?_toList, hc, Nat.add_comm, List.getElem?_cons_succ]; exact hr.2 i hi
    · cases h
  · cases h
theorem places : (match Try.prog.underlying 62 with | some (.struct fields) => fields.toList.mapM (fun f => (Try.prog.info? f.type).map fun i => (f.offset, i.size)) | _ => none) = some [(0, 1), (1, 32768), (32769, 1)] := by kernel_rfl
theorem built_chains (S : ByteArray) (A : Option Addr) (n m : Nat) : ∃ cs, Try.prog.built 62 [(0, .string S), (2, .slice A n m)] = some cs ∧ cs.size = 32770 ∧ cs[0]? = some (.string S) ∧ cs[32769]? = some (.slice A n m) ∧ ∀ i, i < 32768 → cs[1 + i]? = some (.int .i32 0) := by
  obtain ⟨c, hc, hs, hz⟩ := chkS_said _ zero_chains
  obtain ⟨i0, hi, hi2⟩ := Option.bind_eq_some_iff.1 hc
  have hp := places
  rw [Try.underlying62] at hp
  refine ⟨(c.setIfInBounds 0 (.string S)).setIfInBounds 32769 (.slice A n m), ?_, by simp [hs], ?_, ?_, fun i hi => ?_⟩
  · unfold Program.built
    rw [hi, Try.underlying62]
    simp only [hi2]
    dsimp only at hp
    rw [hp]
    simp [Instr.fill, Value.cells, hs]
  · rw [Array.getElem?_setIfInBounds, if_neg (by omega), Array.getElem?_setIfInBounds, if_pos rfl, if_pos (by omega)]
  · rw [Array.getElem?_setIfInBounds, if_pos rfl, if_pos (by rw [Array.size_setIfInBounds]; omega)]
  · rw [Array.getElem?_setIfInBounds, if_neg (by omega), Array.getElem?_setIfInBounds, if_neg (by omega)]; exact hz i hi
theorem step_build {P : Program} {ops : Array Oper} {rest : List Oper} {o : Oper} {a : Act} {Q : Exit → Act → World → Prop} {w : World} (hgd : o.guard = none) (t : TypeId) (i j : Nat) (x y : Operand) (ho : o.op = .build t #[(i, x), (j, y)])
    (vx vy : Value) (hx : a.eval x = vx) (hy : a.eval y = vy) (cells : Array Value) (h : P.built t [(i, vx), (j, vy)] = some cells) (k : wpList P ops Q rest (a.put o.dst (.agg cells)) w) : wpList P ops Q (o :: rest) a w := by
  refine wpList_plain hgd fun K hK => ?_
  have hr := run_build (P := P) w t #[(i, vx), (j, vy)] cells h
  unfold Oper.wp execOp
  simp only [ho, Sem.run_bind, List.map_toArray, List.map_cons, List.map_nil, hx, hy, hr, Result.andThen_ok]
  exact hK _ _ k
theorem run_box_agg {P : Program} (t : TypeId) (cells : Array Value) (w : World) : (Instr.box t (.agg cells)).run P w = Result.ok (.pointer (some ⟨w.heap.size, 0, none⟩)) (w.alloc (.cells cells t (0, 0))) := rfl
theorem step_box {P : Program} {ops : Array Oper} {rest : List Oper} {o : Oper} {a : Act} {Q : Exit → Act → World → Prop} {w : World} (hgd : o.guard = none) (t : TypeId) (x : Operand) (ho : o.op = .box t x)
    (cells : Array Value) (hx : a.eval x = .agg cells) (k : wpList P ops Q rest (a.put o.dst (.pointer (some ⟨w.heap.size, 0, none⟩))) (w.alloc (.cells cells t (0, 0)))) : wpList P ops Q (o :: rest) a w := by
  refine wpList_plain hgd fun K hK => ?_
  have hr := run_box_agg (P := P) t cells w
  unfold Oper.wp execOp
  simp only [ho, Sem.run_bind, hx, hr, Result.andThen_ok]
  exact hK _ _ k
end Go.Proofs.Ytgnoaokpahklaaa.Lzp
/- Pack of layer 4: the walk. -/
namespace Go.Proofs.Ytgnoaokpahklaaa.Lzp
open Go Go.RowKit Go.Lib Go.Proofs.Ytgnoaokpahklaaa.Lzm Go.Proofs.Ytgnoaokpahklaaa.Lzw Go.Proofs.YtgnoaokpahklaaaW.PrintWords Go.Proofs.Ytgnoaokpahklaaa.QA Go.Proofs.YtgnoaokpahklaaaW.PrintLast Go.Proofs.YtgnoaokpahklaaaW.PrintMore
set_option linter.unusedVariables false
set_option linter.unusedSimpArgs false
theorem info_i32 : (Try.prog.info? 21).map (fun i => (i.zero, i.size, i.bytes)) = some (some (.int .i32 0), 1, 4) := by kernel_rfl
theorem chains_new (S : ByteArray) (w w1 : World) (n : Nat) (hn : n = S.size) (cs : Array Value) (hcs : cs.size = 32770) (h0 : cs[0]? = some (.string S)) (hs : cs[32769]? = some (.slice (some ⟨w.heap.size, 0, none⟩) n n)) (hz : ∀ i, i < 32768 → cs[1 + i]? = some (.int .i32 0))
    (hown : w1.ownsRow w.heap.size 21 1 (.slice (some ⟨w.heap.size, 0, none⟩) n n) n (madeCells (Value.int .i32 0).cells (n * 1)).toList) (hg : w.grownBy w1 none) :
    ChainsAt (w1.alloc (.cells cs 62 (0, 0))) w1.heap.size w.heap.size S 0 ∧ w.heap.size < w1.heap.size := by
  subst hn
  rcases hown.2 with ⟨he, _⟩ | ⟨g, cap, cur, he, hbase, hheap, hnc, hcm, hcur, htake⟩
  · cases he
  · injection he with h1 h2 h3
    injection h1 with h1
    injection h1 with h1 _ _
    subst h3
    subst h1
    have hlt : w.heap.size < w1.heap.size := lt_heap hheap
    refine ⟨⟨fun _ => 0, fun _ => 0, ⟨⟨cs, cur, heap_alloc_new w1 _, (Below.heap_alloc w1 _ _ hlt).trans hheap, hcs, by rw [hcur, Nat.mul_one], h0, hs, hz, fun i hi => ?_⟩⟩, fun _ _ => rfl, fun q hq _ => by omega⟩, hlt⟩
    have h4 : (cur.toList.take (S.size * 1))[i]? = (madeCells (Value.int .i32 0).cells (S.size * 1)).toList[i]? := by rw [htake]
    rw [List.getElem?_take, if_pos (by omega), Array.getElem?_toList] at h4
    rw [h4]
    simp [madeCells, Value.cells, hi, Nat.mod_one]
theorem best_any (b g : Nat) (S : ByteArray) (at_ : Nat) (w : World) (h : ChainsAt w b g S at_) (ha : at_ ≤ S.size) (hS : S.size ≤ 1073741824) :
    Calls Try.prog 28 #[.pointer (some ⟨b, 0, none⟩), .int .i64 (at_ : Int)] w fun e w' => e = .returned (.tuple #[.int .i64 ((bestAt (gb S) S.size at_).1 : Int), .int .i64 ((bestAt (gb S) S.size at_).2 : Int)]) ∧ Below w.heap.size w w' := by
  by_cases h4 : at_ + 4 ≤ S.size
  · exact best_calls b g S at_ w h h4 hS
  · rw [bestAt_short _ _ _ (by omega)]
    obtain ⟨last, prev, hc, _, _⟩ := h
    exact best_short b g S at_ last prev w hc ha (by omega) hS
theorem add_any (b g : Nat) (S : ByteArray) (P : Nat) (w : World) (h : ChainsAt w b g S P) (hP : P < S.size) (hS : S.size ≤ 1073741824) :
    Calls Try.prog 29 #[.pointer (some ⟨b, 0, none⟩), .int .i64 (P : Int)] w fun e w' => e = .returned (.tuple #[]) ∧ AddOut w w' b g S (P + 1) := by
  by_cases h4 : P + 4 ≤ S.size
  · exact add_calls b g S P w h h4 hS
  · exact add_short b g S P w h hP (by omega) hS
theorem AddOut.kept {w w' : World} {b g : Nat} {S : ByteArray} {P : Nat} (h : AddOut w w' b g S P) : Kept w w' (fun k => k = b ∨ k = g) :=
  ⟨by rw [h.2.2.1]; exact Nat.le_refl _, fun i _ hn => h.2.2.2 i (fun e => hn (.inl e)) (fun e => hn (.inr e))⟩
theorem chains_below {w w' : World} {b g : Nat} {S : ByteArray} {P : Nat} (h : ChainsAt w b g S P) (hb : Below w.heap.size w w') : ChainsAt w' b g S P := by
  obtain ⟨last, prev, hc, hl, hp⟩ := h
  exact ⟨last, prev, hc.below hb, hl, hp⟩
theorem chains_kept {w w' : World} {b g : Nat} {S : ByteArray} {P : Nat} {F : Nat → Prop} (h : ChainsAt w b g S P) (hb : Kept w w' F) (h1 : ¬ F b) (h2 : ¬ F g) : ChainsAt w' b g S P := by
  obtain ⟨last, prev, hc, hl, hp⟩ := h
  exact ⟨last, prev, hc.keep (hb.2 b hc.lts.1 h1) (hb.2 g hc.lts.2.1 h2), hl, hp⟩
theorem step_none (S : ByteArray) (f at_ from_ : Nat) (xs : List Int) (h : bestAt (gb S) S.size at_ = (0, 0)) (hlt : at_ < S.size) (hF : S.size ≤ at_ + f ∧ packF S f at_ from_ xs = packB S ∧ xs.length ≤ 2 * from_) :
    ∃ f', S.size ≤ at_ + 1 + f' ∧ packF S f' (at_ + 1) from_ xs = packB S ∧ xs.length ≤ 2 * from_ := by
  obtain ⟨h1, h2, h3⟩ := hF
  obtain ⟨f', rfl⟩ : ∃ f', f = f' + 1 := ⟨f - 1, by omega⟩
  refine ⟨f', by omega, ?_, h3⟩
  rw [← h2]
  show _ = if at_ < S.size then _ else _
  rw [if_pos hlt, h]
  rfl
theorem step_match (S : ByteArray) (f at_ from_ n d : Nat) (xs : List Int) (h : bestAt (gb S) S.size at_ = (n, d)) (hn : n ≠ 0) (hlt : at_ < S.size) (hfa : from_ ≤ at_) (hn4 : 4 ≤ n) (hF : S.size ≤ at_ + f ∧ packF S f at_ from_ xs = packB S ∧ xs.length ≤ 2 * from_) :
    ∃ f', S.size ≤ at_ + n + f' ∧ packF S f' (at_ + n) (at_ + n) (xs ++ litB (bytesOf (S.extract from_ at_)) ++ matB n d) = packB S ∧ (xs ++ litB (bytesOf (S.extract from_ at_)) ++ matB n d).length ≤ 2 * (at_ + n) := by
  obtain ⟨h1, h2, h3⟩ := hF
  obtain ⟨f', rfl⟩ : ∃ f', f = f' + 1 := ⟨f - 1, by omega⟩
  refine ⟨f', by omega, ?_, ?_⟩
  · rw [← h2]
    show _ = if at_ < S.size then _ else _
    rw [if_pos hlt, h]
    show _ = if n = 0 then _ else _
    rw [if_neg hn]
  · have := litB_len _ (bytesOf (S.extract from_ at_)) (Nat.le_refl _)
    rw [bytesOf_length, ByteArray.size_extract] at this
    rw [List.length_append, List.length_append]
    have h5 : (matB n d).length = 3 := rfl
    omega
theorem pack_end (S : ByteArray) (f at_ from_ : Nat) (xs : List Int) (hlt : ¬ at_ < S.size) (hF : S.size ≤ at_ + f ∧ packF S f at_ from_ xs = packB S ∧ xs.length ≤ 2 * from_) : xs ++ litB (bytesOf (S.extract from_ S.size)) = packB S := by
  rw [← hF.2.1]
  cases f with
  | zero => rfl
  | succ f =>
    show _ = if at_ < S.size then _ else _
    rw [if_neg hlt]
set_option maxRecDepth 100000 in
set_option maxHeartbeats 2000000 in
theorem pack_calls (S : ByteArray) (w : World) (hS : S.size ≤ 1073741824) :
    Calls Try.prog 13 #[.string S] w fun e w' => e = .returned (.string (strOfNums (packB S))) ∧ Below w.heap.size w w' := by
  obtain ⟨i0, hi, hz0, hz1, hz2⟩ := info_parts info_i32
  obtain ⟨cs, hb1, hb2, hb3, hb4, hb5⟩ := built_chains S (some ⟨w.heap.size, 0, none⟩) S.size S.size
  have HB1 := Lib.hid hb1
  have HB2 := Lib.hid hb2
  have HB3 := Lib.hid hb3
  have HB4 := Lib.hid hb4
  have HB5 := Lib.hid hb5
  clear hb1 hb2 hb3 hb4 hb5
  go_enter Try.func13, Try.ntmps13
  go_wp2_with (at_make; refine wpList_make_full _ rfl _ _ 59 rfl w.heap.size 21 i0 (.int .i32 0) 1 Try.underlying59 hi hz0 hz1 .i64 .i64 _ _ S.size rfl rfl rfl rfl (by rw [hz2]; omega) (by unfold maxLen; omega) (Nat.le_refl _) ?_; intro w1 hown1 hg1; refine step_build rfl 62 0 2 (.tmp 11) (.tmp 14) rfl (.string S) (.slice (some ⟨w.heap.size, 0, none⟩) S.size S.size) rfl rfl cs HB1.out ?_; refine step_box rfl 62 (.tmp 15) rfl cs rfl ?_; obtain ⟨hch, hlt1⟩ := chains_new S w w1 S.size rfl cs HB2.out HB3.out HB4.out HB5.out hown1 hg1; have hbe : Below w.heap.size w (w1.alloc (.cells cs 62 (0, 0))) := ((Below.refl _ w).grown hg1 (Nat.le_refl _) (fun k hk => by cases hk)).alloc (Nat.le_of_lt hlt1) _; clear hown1 hz0 hz1 hz2 hi hg1; obtain ⟨W2, hW2⟩ : ∃ W2, w1.alloc (.cells cs 62 (0, 0)) = W2 := ⟨_, rfl⟩; rw [hW2] at hch hbe ⊢; clear hW2 HB1 HB2 HB3 HB4 HB5; generalize w1.heap.size = cb at *)
  have hgc : cb ≠ w.heap.size := by
    obtain ⟨_, _, hc, _⟩ := hch
    exact hc.lts.2.2
  go_loopw [4, 5, 6] (fun x4 x5 x6 wr => ∃ (at_ from_ f : Nat) (xs : List Int), from_ ≤ at_ ∧ at_ ≤ S.size ∧ x5 = .int .i64 (from_ : Int) ∧ x6 = .int .i64 (at_ : Int) ∧ Hid (S.size ≤ at_ + f ∧ packF S f at_ from_ xs = packB S ∧ xs.length ≤ 2 * from_) ∧ Hid (ChainsAt wr cb w.heap.size S at_) ∧ Hid (Kd.R (Kd.int .u8) 5 wr w.heap.size (fun k => k ≠ cb ∧ k ≠ w.heap.size) x4 xs) ∧ Hid (Below w.heap.size w wr)) (fun _ _ x6 _ => S.size - (intOf x6).toNat)
  case atStart => exact ⟨0, 0, S.size, [], Nat.le_refl _, Nat.zero_le _, rfl, rfl, Lib.hid ⟨by omega, rfl, by simp⟩, Lib.hid hch, Lib.hid (Kd.R_nil _ _ _ _ _), Lib.hid hbe⟩
  case round =>
    clear hbe hch
    obtain ⟨at_, from_, f, xs, hfa, has, rfl, rfl, hF, hC, hR, hB⟩ := hrel
    by_cases hlt : at_ < S.size
    · obtain ⟨nd, hnd⟩ : ∃ nd, bestAt (gb S) S.size at_ = nd := ⟨_, rfl⟩
      obtain ⟨n, d⟩ := nd
      have hbc := best_any cb w.heap.size S at_ wr hC.out has hS
      rw [hnd] at hbc
      have hbc2 : Calls Try.prog 28 #[.pointer (some ⟨cb, 0, none⟩), .int .i64 (at_ : Int)] wr fun e w' => e = .returned (.tuple #[.int .i64 (n : Int), .int .i64 (d : Int)]) ∧ Below wr.heap.size wr w' := hbc
      have HC := Lib.hid hbc2
      have HND := Lib.hid hnd
      clear hbc hbc2 hnd
      have hN := best_zero (gb S) S.size at_ 4 (by omega) (min at_ 8192)
      have hM := best_le (gb S) S.size at_ 4 (min at_ 8192)
      have hnd2 : best (gb S) S.size at_ 4 (min at_ 8192) = (n, d) := HND.out
      rw [hnd2] at hN hM
      have hn1 : n ≤ 131 := hM.1
      have hn2 : n ≤ S.size - at_ := hM.2.1
      have hd1 : d ≤ min at_ 8192 := hM.2.2
      have hN' : (n = 0 ∧ d = 0) ∨ (4 ≤ n ∧ 1 ≤ d) := by
        rcases hN with h | h
        · exact .inl h
        · exact .inr ⟨h.1, h.2.1⟩
      clear hN hM hnd2
      rcases hN' with ⟨rfl, rfl⟩ | ⟨h4, h1⟩
      · go_wp2_with fail
        refine HC.out.mono ?_
        rintro e w3 ⟨rfl, hb3⟩
        go_wp2_with fail
        have hC3 := Lib.hid (chains_below hC.out hb3)
        have hR3 := Lib.hid (Kd.R_kept hR.out (Kept.of_below hb3 (fun k => k = cb ∨ k = w.heap.size)) (fun k hk e => Or.elim e hk.1 hk.2))
        have hB3 := Lib.hid (below_then hB.out hB.out.size hb3)
        clear hb3
        go_loopw [30] (fun x30 wr2 => ∃ k : Nat, k ≤ 1 ∧ x30 = .int .i64 (k : Int) ∧ Hid (ChainsAt wr2 cb w.heap.size S (at_ + k)) ∧ Hid (Kd.R (Kd.int .u8) 5 wr2 w.heap.size (fun k => k ≠ cb ∧ k ≠ w.heap.size) u4 xs) ∧ Hid (Below w.heap.size w wr2)) (fun x30 _ => 1 - (intOf x30).toNat)
        case atStart => exact ⟨0, Nat.zero_le _, rfl, hC3, hR3, hB3⟩
        case round =>
          obtain ⟨k, hk, rfl, hC4, hR4, hB4⟩ := hrel
          clear hC3 hR3 hB3
          by_cases hkn : k < 1
          · have hadd := add_any cb w.heap.size S (at_ + k) wr hC4.out (by omega) hS
            rw [Int.natCast_add] at hadd
            have HA := Lib.hid hadd
            clear hadd
            go_wp2_with fail
            refine HA.out.mono ?_
            rintro e w5 ⟨rfl, ho⟩
            have hC5 := Lib.hid ho.1
            have hR5 := Lib.hid (Kd.R_kept hR4.out (AddOut.kept (show AddOut wr w5 cb w.heap.size S (at_ + k + 1) from ho)) (fun k hk e => Or.elim e hk.1 hk.2))
            have hB5 := Lib.hid (ho.2.1 _ _ hB4.out (Nat.le_of_lt hlt1) (Nat.le_refl _))
            clear ho
            go_wp2
            exact ⟨⟨k + 1, by omega, by go_num, hC5, hR5, hB5⟩, by simp [intOf]; omega⟩
          · have hkn' : k = 1 := by omega
            subst hkn'
            obtain ⟨f', hF'⟩ := step_none S f at_ from_ xs HND.out hlt hF.out
            go_wp2
            exact ⟨⟨at_ + 1, from_, f', xs, by omega, by omega, rfl, by go_num, Lib.hid hF', hC4, hR4, hB4⟩, by simp [intOf]; omega⟩
      · have hmx : decide ((n : Int) < 1) = false := by simp; omega
        go_wp2_with fail
        refine HC.out.mono ?_
        rintro e w3 ⟨rfl, hb3⟩
        go_wp2_with fail
        have hC3 := Lib.hid (chains_below hC.out hb3)
        have hR3 := Lib.hid (Kd.R_kept hR.out (Kept.of_below hb3 (fun k => k = cb ∨ k = w.heap.size)) (fun k hk e => Or.elim e hk.1 hk.2))
        have hB3 := Lib.hid (below_then hB.out hB.out.size hb3)
        clear hb3
        go_loopw [30] (fun x30 wr2 => ∃ k : Nat, k ≤ n ∧ x30 = .int .i64 (k : Int) ∧ Hid (ChainsAt wr2 cb w.heap.size S (at_ + k)) ∧ Hid (Kd.R (Kd.int .u8) 5 wr2 w.heap.size (fun k => k ≠ cb ∧ k ≠ w.heap.size) u4 xs) ∧ Hid (Below w.heap.size w wr2)) (fun x30 _ => n - (intOf x30).toNat)
        case atStart => exact ⟨0, Nat.zero_le _, rfl, hC3, hR3, hB3⟩
        case round =>
          obtain ⟨k, hk, rfl, hC4, hR4, hB4⟩ := hrel
          clear hC3 hR3 hB3
          by_cases hkn : k < n
          · have hadd := add_any cb w.heap.size S (at_ + k) wr hC4.out (by omega) hS
            rw [Int.natCast_add] at hadd
            have HA := Lib.hid hadd
            clear hadd
            go_wp2_with fail
            refine HA.out.mono ?_
            rintro e w5 ⟨rfl, ho⟩
            have hC5 := Lib.hid ho.1
            have hR5 := Lib.hid (Kd.R_kept hR4.out (AddOut.kept (show AddOut wr w5 cb w.heap.size S (at_ + k + 1) from ho)) (fun k hk e => Or.elim e hk.1 hk.2))
            have hB5 := Lib.hid (ho.2.1 _ _ hB4.out (Nat.le_of_lt hlt1) (Nat.le_refl _))
            clear ho
            go_wp2
            exact ⟨⟨k + 1, by omega, by go_num, hC5, hR5, hB5⟩, by simp [intOf]; omega⟩
          · have hkn' : k = n := by omega
            subst hkn'
            obtain ⟨f', hF'⟩ := step_match S f at_ from_ k d xs HND.out (by omega) hlt hfa h4 hF.out
            have hl1 : cb < wr.heap.size ∧ w.heap.size < wr.heap.size := by
              obtain ⟨_, _, hc, _⟩ := hC4.out
              exact ⟨hc.lts.1, hc.lts.2.1⟩
            have hxs := hF.out.2.2
            have hll := litB_len _ (bytesOf (S.extract from_ at_)) (Nat.le_refl _)
            rw [bytesOf_length, ByteArray.size_extract] at hll
            obtain ⟨kl, hkl⟩ := Ev.rounds (literals_ev (S.extract from_ at_) xs (by rw [ByteArray.size_extract]; omega))
            have hm := match_some (xs ++ litB (bytesOf (S.extract from_ at_))) k d h4 hn1 (by omega) (by rw [List.length_append]; omega)
            have HF' := Lib.hid hF'
            clear hF' hxs hll
            generalize litB (bytesOf (S.extract from_ at_)) = lit at *
            have HM := Lib.hid hm
            have HKL := Lib.hid hkl
            clear hm hkl
            go_wp2_with fail
            refine (lz_literals.calls kl (fun k => k ≠ cb ∧ k ≠ w.heap.size) u4 xs (S.extract from_ at_) (xs ++ lit) w wr hB4.out hR4.out HKL.out).mono ?_
            rintro e w6 ⟨v6, rfl, hR6, hB6, hK6⟩
            have hC6 := chains_kept hC4.out hK6 (fun h => h.1 rfl) (fun h => h.2 rfl)
            have hR6' : Kd.R (Kd.int .u8) 5 w6 w.heap.size (fun k => k ≠ cb ∧ k ≠ w.heap.size) v6 (xs ++ lit) := Kd.R_mono hR6 (fun k hk => hk.elim id (fun h => ⟨by omega, by omega⟩))
            have hz6 := hK6.1
            have HC6 := Lib.hid hC6
            have HR6 := Lib.hid hR6'
            have HB6 := Lib.hid hB6
            clear hC6 hR6 hR6' hB6 hK6
            go_wp2_with fail
            refine (lz_match.calls (fun k => k ≠ cb ∧ k ≠ w.heap.size) v6 (xs ++ lit) k d _ w w6 HB6.out HR6.out HM.out).mono ?_
            rintro e w7 ⟨v7, rfl, hR7, hB7, hK7⟩
            have hC7 := Lib.hid (chains_kept HC6.out hK7 (fun h => h.1 rfl) (fun h => h.2 rfl))
            have hR7' : Kd.R (Kd.int .u8) 5 w7 w.heap.size (fun k => k ≠ cb ∧ k ≠ w.heap.size) v7 (xs ++ lit ++ matB k d) := Kd.R_mono hR7 (fun k hk => hk.elim id (fun h => ⟨by omega, by omega⟩))
            have HR7 := Lib.hid hR7'
            have HB7 := Lib.hid hB7
            clear hR7 hR7' hB7 hK7
            go_wp2
            exact ⟨⟨at_ + k, at_ + k, f', xs ++ lit ++ matB k d, Nat.le_refl _, by omega, by go_num, by go_num, HF', hC7, HR7, HB7⟩, by simp [intOf]; omega⟩
    · have hend := pack_end S f at_ from_ xs hlt hF.out
      have hats : at_ = S.size := by omega
      have hxs := hF.out.2.2
      obtain ⟨kl, hkl⟩ := Ev.rounds (literals_ev (S.extract from_ S.size) xs (by rw [ByteArray.size_extract]; omega))
      rw [hend] at hkl
      have HKL := Lib.hid hkl
      have HAT := Lib.hid hats
      clear hkl hend hxs hats
      go_wp2_with fail
      refine (lz_literals.calls kl (fun k => k ≠ cb ∧ k ≠ w.heap.size) u4 xs (S.extract from_ S.size) (packB S) w wr hB.out hR.out HKL.out).mono ?_
      rintro e w6 ⟨v6, rfl, hR6, hB6, hK6⟩
      have hown := Kd.own_of_R hR6
      have hconv : (convert 55 9 v6).run Try.prog w6 = .ok (.string (strOfNums (packB S))) w6 := own_string Try.underlying55 Try.underlying5 Try.underlying9 hown
      have HB6 := Lib.hid hB6
      clear hR6 hB6 hK6 hown
      go_wp2
      go_ret
      exact ⟨rfl, HB6.out⟩
end Go.Proofs.Ytgnoaokpahklaaa.Lzp
