/- Tokens of layer 4, read again; what tokens stand for; and that what is packed unpacks to what it was. -/
import Derived.Test.YtgnoaokpahklaaaLzf
namespace Go.Proofs.Ytgnoaokpahklaaa.Lzg
open Go Go.RowKit Go.Lib Go.Proofs.Ytgnoaokpahklaaa.Lzm Go.Proofs.Ytgnoaokpahklaaa.Lzw Go.Proofs.YtgnoaokpahklaaaW.PrintWords Go.Proofs.Ytgnoaokpahklaaa.QB Go.Proofs.YtgnoaokpahklaaaW.PrintLast Go.Proofs.YtgnoaokpahklaaaW.PrintMore Go.Proofs.Ytgnoaokpahklaaa.Vm Go.Proofs.Ytgnoaokpahklaaa.Lzt Go.Proofs.Ytgnoaokpahklaaa.Lzb Go.Proofs.Ytgnoaokpahklaaa.Lzf
open Go.Proofs.Ytgnoaokpahklaaa.Lzp (litB litB_nil litB_cons litB_len matB packB packF size_toList toList_nil_iff)
set_option linter.unusedVariables false
set_option linter.unusedSimpArgs false

theorem tb_ne {f0 : ByteArray} {f1 f2 : Int} : tb f0 f1 f2 ≠ [] := by unfold tb; split <;> simp
/-- The first token of a token's bytes, and more. -/
theorem tok_tb {f0 : ByteArray} {f1 f2 : Int} (h : vt f0 f1 f2 = true) (rest : List Int) : tokL (tb f0 f1 f2 ++ rest) = (bytesOf f0, f1, f2, ((tb f0 f1 f2).length : Int)) := by
  unfold vt isLit isMat at h
  rw [decide_eq_true_iff] at h
  rcases h with ⟨h1, h2, h3, h4⟩ | ⟨h1, h2, h3, h4, h5⟩
  · subst h3; subst h4
    have e : tb f0 0 0 = ((f0.size : Int) - 1) :: bytesOf f0 := by unfold tb; rw [if_pos h1]
    rw [e]
    have hl := bytesOf_length f0
    unfold tokL
    have g0 : (((f0.size : Int) - 1) :: bytesOf f0 ++ rest).getD 0 0 = (f0.size : Int) - 1 := rfl
    rw [g0, if_pos (by omega), if_neg (by simp only [List.cons_append, List.length_cons, List.length_append]; omega)]
    have d1 : (((f0.size : Int) - 1) :: bytesOf f0 ++ rest).drop 1 = bytesOf f0 ++ rest := rfl
    have e2 : ((f0.size : Int) - 1 + 1).toNat = (bytesOf f0).length := by omega
    rw [d1, e2, List.take_left, List.length_cons, hl]
    have : (f0.size : Int) - 1 + 2 = ((f0.size + 1 : Nat) : Int) := by omega
    rw [this]
  · have e : tb f0 f1 f2 = [f1 + 124, f2 / 256, f2 % 256] := by unfold tb; rw [if_neg (by omega)]
    have hb : bytesOf f0 = [] := List.eq_nil_of_length_eq_zero (by rw [bytesOf_length]; exact h1)
    rw [e, hb]
    unfold tokL
    have g0 : ([f1 + 124, f2 / 256, f2 % 256] ++ rest).getD 0 0 = f1 + 124 := rfl
    have g1 : ([f1 + 124, f2 / 256, f2 % 256] ++ rest).getD 1 0 = f2 / 256 := rfl
    have g2 : ([f1 + 124, f2 / 256, f2 % 256] ++ rest).getD 2 0 = f2 % 256 := rfl
    rw [g0, g1, g2, if_neg (by omega), if_neg (by simp only [List.length_append, List.length_cons, List.length_nil]; omega)]
    have a1 : f1 + 124 - 124 = f1 := by omega
    have a2 : f2 / 256 * 256 + f2 % 256 = f2 := by omega
    rw [a1, a2]
    rfl
/-- What tokens stand for, behind what is there. -/
def exp (t : S49) (out : List Int) : List Int := copyN t.f1.toNat t.f2.toNat (out ++ bytesOf t.f0)
def expAll : List S49 → List Int → Option (List Int)
  | [], out => some out
  | t :: ts, out => if (out.length : Int) < t.f2 then none else expAll ts (exp t out)
theorem exp_len {t : S49} (h : vL t = true) (out : List Int) : ((exp t out).length : Int) = out.length + t.f0.size + t.f1 := by
  unfold vL vt isLit isMat at h
  rw [decide_eq_true_iff] at h
  unfold exp
  rw [copyN_len, List.length_append, bytesOf_length]
  omega
theorem expAll_append : ∀ (a b : List S49) (out : List Int), expAll (a ++ b) out = (expAll a out).bind (expAll b)
  | [], b, out => rfl
  | t :: a, b, out => by
    show (if _ then none else expAll (a ++ b) (exp t out)) = (if _ then none else expAll a (exp t out)).bind (expAll b)
    split
    · rfl
    · exact expAll_append a b _
theorem expAll_len : ∀ (ts : List S49) (out R : List Int), ts.all vL = true → expAll ts out = some R → out.length ≤ R.length
  | [], out, R, _, h => by injection h with h; rw [h]; exact Nat.le_refl _
  | t :: ts, out, R, hv, h => by
    rw [List.all_cons, Bool.and_eq_true] at hv
    have h' : (if (out.length : Int) < t.f2 then none else expAll ts (exp t out)) = some R := h
    split at h'
    · cases h'
    · have h1 := expAll_len ts _ R hv.2 h'
      have h2 := exp_len hv.1 out
      have h3 : 0 ≤ t.f1 := by
        have := hv.1
        unfold vL vt isLit isMat at this
        rw [decide_eq_true_iff] at this
        omega
      omega
theorem unp_step (f : Nat) (t : S49) (h : vL t = true) (rest out : List Int) (len : Int) :
    unpackL (f + 1) (tL t ++ rest) len out = if (out.length : Int) < t.f2 then ([], 25) else if len - out.length < (t.f0.size : Int) + t.f1 then ([], 22) else unpackL f rest len (exp t out) := by
  have ht := tok_tb h rest
  have hne : tL t ++ rest ≠ [] := fun e => tb_ne (List.append_eq_nil_iff.1 e).1
  have hl : (tb t.f0 t.f1 t.f2).length ≠ 0 := fun e => tb_ne (List.eq_nil_of_length_eq_zero e)
  conv => lhs; unfold unpackL
  rw [if_neg hne, ht]
  dsimp only
  rw [if_neg (by omega), bytesOf_length, Int.toNat_natCast, List.drop_left]
  unfold vL vt isLit isMat at h
  rw [decide_eq_true_iff] at h
  by_cases h1 : (out.length : Int) < t.f2
  · rw [if_pos h1, if_pos (by omega)]
  · rw [if_neg h1, if_neg (by omega)]
    rfl
/-- What the bytes of tokens unpack to. -/
theorem unp_some : ∀ (ts : List S49) (f : Nat) (out R : List Int) (len : Int), ts.all vL = true → expAll ts out = some R → ts.length ≤ f → out.length ≤ len →
    unpackL f (ts.flatMap tL) len out = if len < R.length then ([], 22) else if (R.length : Int) < len then ([], 20) else (R, 0)
  | [], f, out, R, len, _, h, _, ho => by
    injection h with h
    subst h
    have : unpackL f ([].flatMap tL) len out = fin len out := by cases f <;> rfl
    rw [this, if_neg (by omega)]
    rfl
  | t :: ts, 0, out, R, len, _, _, hf, _ => by simp at hf
  | t :: ts, f + 1, out, R, len, hv, h, hf, ho => by
    rw [List.all_cons, Bool.and_eq_true] at hv
    have h' : (if (out.length : Int) < t.f2 then none else expAll ts (exp t out)) = some R := h
    rw [List.flatMap_cons, unp_step f t hv.1]
    split at h'
    · cases h'
    · rename_i h1
      rw [if_neg h1]
      have h2 := exp_len hv.1 out
      have h3 := expAll_len ts _ R hv.2 h'
      by_cases h4 : len - out.length < (t.f0.size : Int) + t.f1
      · rw [if_pos h4, if_pos (by omega)]
      · rw [if_neg h4]
        exact unp_some ts f _ R len hv.2 h' (by simpa using hf) (by omega)
theorem unp_none : ∀ (ts : List S49) (f : Nat) (out : List Int) (len : Int), ts.all vL = true → expAll ts out = none → ts.length ≤ f → (out.length : Int) + 259 * ts.length ≤ len →
    unpackL f (ts.flatMap tL) len out = ([], 25)
  | [], f, out, len, _, h, _, ho => by cases h
  | t :: ts, 0, out, len, _, _, hf, _ => by simp at hf
  | t :: ts, f + 1, out, len, hv, h, hf, ho => by
    rw [List.all_cons, Bool.and_eq_true] at hv
    have h' : (if (out.length : Int) < t.f2 then none else expAll ts (exp t out)) = none := h
    rw [List.flatMap_cons, unp_step f t hv.1]
    rw [List.length_cons] at ho
    by_cases h1 : (out.length : Int) < t.f2
    · rw [if_pos h1]
    · rw [if_neg h1] at h' ⊢
      have h2 := exp_len hv.1 out
      have h3 : (t.f0.size : Int) + t.f1 ≤ 259 := by
        have := hv.1
        unfold vL vt isLit isMat at this
        rw [decide_eq_true_iff] at this
        omega
      rw [if_neg (by omega)]
      exact unp_none ts f _ len hv.2 h' (by simpa using hf) (by omega)
theorem flat_len : ∀ ts : List S49, ts.length ≤ (ts.flatMap tL).length
  | [] => Nat.le_refl _
  | t :: ts => by
    have := flat_len ts
    have hl : (tb t.f0 t.f1 t.f2).length ≠ 0 := fun e => tb_ne (List.eq_nil_of_length_eq_zero e)
    rw [List.flatMap_cons, List.length_append, List.length_cons]
    have : (tL t).length = (tb t.f0 t.f1 t.f2).length := rfl
    omega
theorem flat_bytes : ∀ ts : List S49, ts.all vL = true → ∀ x ∈ ts.flatMap tL, 0 ≤ x ∧ x < 256
  | [], _, x, hx => by simp at hx
  | t :: ts, hv, x, hx => by
    rw [List.all_cons, Bool.and_eq_true] at hv
    rw [List.flatMap_cons] at hx
    rcases List.mem_append.1 hx with h | h
    · exact tb_bytes hv.1 x h
    · exact flat_bytes ts hv.2 x h
theorem unpack_some (ts : List S49) (R : List Int) (len most : Int) (hv : ts.all vL = true) (h : expAll ts [] = some R) (h0 : 0 ≤ len) (hm : len ≤ most) :
    unpack (ts.flatMap tL) len most = if len < R.length then ([], 22) else if (R.length : Int) < len then ([], 20) else (R, 0) := by
  unfold unpack
  rw [if_neg (by omega)]
  exact unp_some ts _ [] R len hv h (flat_len ts) h0
theorem unpack_none (ts : List S49) (len most : Int) (hv : ts.all vL = true) (h : expAll ts [] = none) (hl : 259 * (ts.length : Int) ≤ len) (hm : len ≤ most) : unpack (ts.flatMap tL) len most = ([], 25) := by
  unfold unpack
  rw [if_neg (by omega)]
  exact unp_none ts _ [] len hv h (flat_len ts) (by simp; omega)

/-! The tokens of packing tell the text. -/
def c48 (t : S48) : S49 := ⟨t.f0, t.f1, t.f2⟩
theorem gb_get (S : ByteArray) (i : Nat) : (bytesOf S).getD i 0 = gb S i := (bt_getD S i).symm
theorem copyN_said (S : ByteArray) (d : Nat) : ∀ (n p : Nat), 1 ≤ d → d ≤ p → p + n ≤ S.size → (∀ k, k < n → gb S (p - d + k) = gb S (p + k)) → copyN n d ((bytesOf S).take p) = (bytesOf S).take (p + n)
  | 0, p, _, _, _, _ => rfl
  | n + 1, p, h1, h2, h3, h4 => by
    have hl : ((bytesOf S).take p).length = p := by rw [List.length_take, bytesOf_length]; omega
    show copyN n d ((bytesOf S).take p ++ [((bytesOf S).take p).getD (((bytesOf S).take p).length - d) 0]) = _
    rw [hl]
    have e1 : ((bytesOf S).take p).getD (p - d) 0 = gb S (p - d) := by
      rw [← gb_get, List.getD_eq_getElem?_getD, List.getD_eq_getElem?_getD, List.getElem?_take, if_pos (by omega)]
    have e2 : gb S (p - d) = gb S p := by have := h4 0 (by omega); simpa using this
    have e3 : (bytesOf S).take p ++ [gb S p] = (bytesOf S).take (p + 1) := by
      rw [List.take_succ_eq_append_getElem (by rw [bytesOf_length]; omega)]
      congr 2
      rw [← gb_get, List.getD_eq_getElem?_getD, List.getElem?_eq_getElem (by rw [bytesOf_length]; omega), Option.getD_some]
    rw [e1, e2, e3, copyN_said S d n (p + 1) h1 (by omega) (by omega) (fun k hk => by
      have := h4 (k + 1) (by omega)
      rw [show p + 1 - d + k = p - d + (k + 1) from by omega, show p + 1 + k = p + (k + 1) from by omega]; exact this)]
    rw [show p + 1 + n = p + (n + 1) from by omega]
theorem exp_lit (X : ByteArray) (out : List Int) : exp ⟨X, 0, 0⟩ out = out ++ bytesOf X := rfl
theorem runs_exp : ∀ (n : Nat) (X : ByteArray) (out : List Int), X.size ≤ n → expAll ((runsF n X).map c48) out = some (out ++ bytesOf X) := by
  have hend : ∀ (X : ByteArray) (out : List Int), expAll ((if 0 < X.size then [(⟨X, 0, 0⟩ : S48)] else []).map c48) out = some (out ++ bytesOf X) := by
    intro X out
    by_cases h0 : 0 < X.size
    · rw [if_pos h0]
      show (if (out.length : Int) < 0 then none else some (exp ⟨X, 0, 0⟩ out)) = _
      rw [if_neg (by omega), exp_lit]
    · rw [if_neg h0]
      have : bytesOf X = [] := List.eq_nil_of_length_eq_zero (by rw [bytesOf_length]; omega)
      rw [this, List.append_nil]; rfl
  intro n
  induction n with
  | zero => intro X out h; exact hend X out
  | succ n ih =>
    intro X out h
    unfold runsF
    by_cases h8 : 128 < X.size
    · rw [if_pos h8]
      show (if (out.length : Int) < 0 then none else expAll ((runsF n (X.extract 128 X.size)).map c48) (exp ⟨X.extract 0 128, 0, 0⟩ out)) = _
      rw [if_neg (by omega), exp_lit, ih _ _ (by rw [ByteArray.size_extract]; omega), List.append_assoc]
      congr 2
      have hb1 : bytesOf (X.extract 0 128) = (bytesOf X).take 128 := by rw [bytesOf_extract, List.drop_zero]
      have hb2 : bytesOf (X.extract 128 X.size) = (bytesOf X).drop 128 := by rw [bytesOf_extract, List.take_of_length_le (by rw [List.length_drop, bytesOf_length]; omega)]
      rw [hb1, hb2, List.take_append_drop]
    · rw [if_neg h8]; exact hend X out
theorem take_extract (S : ByteArray) (a b : Nat) (h : a ≤ b) : (bytesOf S).take a ++ bytesOf (S.extract a b) = (bytesOf S).take b := by
  rw [bytesOf_extract]
  have : (bytesOf S).take b = (bytesOf S).take (a + (b - a)) := by rw [show a + (b - a) = b from by omega]
  rw [this, List.take_add]
theorem packT_exp (S : ByteArray) : ∀ (f at_ from_ : Nat) (acc : List S48), from_ ≤ at_ → at_ ≤ S.size → expAll (acc.map c48) [] = some ((bytesOf S).take from_) → expAll ((packT S f at_ from_ acc).map c48) [] = some (bytesOf S) := by
  have hend : ∀ (from_ : Nat) (acc : List S48), from_ ≤ S.size → expAll (acc.map c48) [] = some ((bytesOf S).take from_) → expAll ((acc ++ runsF S.size (S.extract from_ S.size)).map c48) [] = some (bytesOf S) := by
    intro from_ acc hf h
    rw [List.map_append, expAll_append, h, Option.bind_some, runs_exp _ _ _ (by rw [ByteArray.size_extract]; omega), take_extract _ _ _ hf, List.take_of_length_le (by rw [bytesOf_length]; exact Nat.le_refl _)]
  intro f
  induction f with
  | zero => intro at_ from_ acc h1 h2 h3; exact hend from_ acc (by omega) h3
  | succ f ih =>
    intro at_ from_ acc h1 h2 h3
    unfold packT
    by_cases hlt : at_ < S.size
    · rw [if_pos hlt]
      rcases best_cases S at_ with h | ⟨g1, g2, g3, g4, g5, g6⟩
      · rw [h]; exact ih (at_ + 1) from_ acc (by omega) (by omega) h3
      · have hal : aln (gb S) S.size (at_ - (bestAt (gb S) S.size at_).2) at_ = (bestAt (gb S) S.size at_).1 := by
          have hz := best_zero (gb S) S.size at_ 4 (by omega) (min at_ 8192)
          have hbe : bestAt (gb S) S.size at_ = best (gb S) S.size at_ 4 (min at_ 8192) := rfl
          rw [hbe] at g1 ⊢
          rcases hz with h | h
          · omega
          · exact h.2.2
        generalize bestAt (gb S) S.size at_ = nd at *
        obtain ⟨n, d⟩ := nd
        dsimp only at g1 g2 g3 g4 g5 g6 hal ⊢
        rw [if_neg (by omega)]
        refine ih (at_ + n) (at_ + n) _ (Nat.le_refl _) (by omega) ?_
        rw [List.map_append, List.map_append, expAll_append, expAll_append, h3, Option.bind_some, runs_exp _ _ _ (by rw [ByteArray.size_extract]; omega), take_extract _ _ _ h1, Option.bind_some]
        show (if ((((bytesOf S).take at_).length : Nat) : Int) < (d : Int) then none else some (exp ⟨⟨#[]⟩, (n : Int), (d : Int)⟩ ((bytesOf S).take at_))) = _
        rw [if_neg (by rw [List.length_take, bytesOf_length]; omega)]
        congr 1
        show copyN (n : Int).toNat (d : Int).toNat ((bytesOf S).take at_ ++ []) = _
        rw [List.append_nil, Int.toNat_natCast, Int.toNat_natCast]
        exact copyN_said S d n at_ g3 g5 (by omega) (fun k hk => al_get (gb S) (min (S.size - at_) 131) _ _ k (by unfold aln at hal; omega))
    · rw [if_neg hlt]; exact hend from_ acc (by omega) h3
/-- The tokens of packing. -/
def toks (S : ByteArray) : List S49 := (packT S S.size 0 0 []).map c48
theorem toks_said (S : ByteArray) : (toks S).flatMap tL = packB S ∧ (toks S).all vL = true ∧ (toks S).length ≤ S.size ∧ expAll (toks S) [] = some (bytesOf S) := by
  obtain ⟨h1, h2, h3⟩ := packT_said S S.size 0 0 [] (Nat.le_refl _) (Nat.zero_le _) (by simp) (by simp)
  refine ⟨?_, ?_, by unfold toks; rw [List.length_map]; exact h3, packT_exp S S.size 0 0 [] (Nat.le_refl _) (Nat.zero_le _) rfl⟩
  · unfold toks; rw [List.flatMap_map]; exact h1
  · unfold toks; rw [List.all_map]; exact h2
theorem pack_bytes (S : ByteArray) : bytesOf (strOfNums (packB S)) = packB S := by
  obtain ⟨h1, h2, _⟩ := toks_said S
  rw [← h1]
  exact bytesOf_nums (flat_bytes _ h2)
theorem litB_exact : ∀ (n : Nat) (l : List Int), l.length ≤ n → (litB l).length = l.length + (l.length + 127) / 128
  | 0, l, h => by
    have : l = [] := List.eq_nil_of_length_eq_zero (by omega)
    subst this; rfl
  | n + 1, l, h => by
    by_cases h0 : l = []
    · subst h0; rfl
    · have hp : 0 < l.length := List.length_pos_iff.2 h0
      rw [litB_cons h0]
      have := litB_exact n (l.drop 128) (by rw [List.length_drop]; omega)
      rw [List.length_drop] at this
      simp only [List.length_cons, List.length_append, List.length_take]
      omega
theorem packF_len (S : ByteArray) : ∀ (f at_ from_ : Nat) (acc : List Int), from_ ≤ at_ → at_ ≤ S.size → acc.length ≤ from_ + from_ / 128 → (packF S f at_ from_ acc).length ≤ S.size + (S.size + 127) / 128 := by
  have hend : ∀ (from_ : Nat) (acc : List Int), from_ ≤ S.size → acc.length ≤ from_ + from_ / 128 → (acc ++ litB (bytesOf (S.extract from_ S.size))).length ≤ S.size + (S.size + 127) / 128 := by
    intro from_ acc h1 h2
    rw [List.length_append, litB_exact _ _ (Nat.le_refl _), bytesOf_length, ByteArray.size_extract]
    omega
  intro f
  induction f with
  | zero => intro at_ from_ acc h1 h2 h3; exact hend from_ acc (by omega) h3
  | succ f ih =>
    intro at_ from_ acc h1 h2 h3
    unfold packF
    by_cases hlt : at_ < S.size
    · rw [if_pos hlt]
      rcases best_cases S at_ with h | ⟨g1, g2, g3, g4, g5, g6⟩
      · rw [h]; exact ih (at_ + 1) from_ acc (by omega) (by omega) h3
      · rw [if_neg (by omega)]
        refine ih _ _ _ (Nat.le_refl _) (by omega) ?_
        have hm : ∀ a b, (matB a b).length = 3 := fun _ _ => rfl
        rw [List.length_append, List.length_append, litB_exact _ _ (Nat.le_refl _), bytesOf_length, ByteArray.size_extract, hm]
        omega
    · rw [if_neg hlt]; exact hend from_ acc (by omega) h3
theorem pack_len (S : ByteArray) : (packB S).length ≤ S.size + (S.size + 127) / 128 := packF_len S S.size 0 0 [] (Nat.le_refl _) (Nat.zero_le _) (by simp)
theorem pack_ne (S : ByteArray) (h : 0 < S.size) : packB S ≠ [] := by
  obtain ⟨h1, h2, h3, h4⟩ := toks_said S
  intro e
  have hl := flat_len (toks S)
  rw [h1, e] at hl
  have : toks S = [] := List.eq_nil_of_length_eq_zero (by simpa using hl)
  rw [this] at h4
  injection h4 with h4
  have := congrArg List.length h4
  rw [bytesOf_length] at this
  simp at this
  omega
theorem unpack_pack (S : ByteArray) (len most : Int) (h0 : 0 ≤ len) (hm : len ≤ most) : unpack (packB S) len most = if len < S.size then ([], 22) else if (S.size : Int) < len then ([], 20) else (bytesOf S, 0) := by
  obtain ⟨h1, h2, h3, h4⟩ := toks_said S
  rw [← h1, unpack_some (toks S) (bytesOf S) len most h2 h4 h0 hm, bytesOf_length]
end Go.Proofs.Ytgnoaokpahklaaa.Lzg
