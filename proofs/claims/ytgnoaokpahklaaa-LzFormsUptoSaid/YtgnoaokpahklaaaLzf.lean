/- Forms of tokens in layer 4, and the reference's Pack. -/
import Derived.Test.YtgnoaokpahklaaaLzb
import Derived.Test.YtgnoaokpahklaaaQBf13
namespace Go.Proofs.Ytgnoaokpahklaaa.Lzf
open Go Go.RowKit Go.Lib Go.Proofs.Ytgnoaokpahklaaa.Lzm Go.Proofs.Ytgnoaokpahklaaa.Lzw Go.Proofs.YtgnoaokpahklaaaW.PrintWords Go.Proofs.Ytgnoaokpahklaaa.QB Go.Proofs.YtgnoaokpahklaaaW.PrintLast Go.Proofs.YtgnoaokpahklaaaW.PrintMore Go.Proofs.Ytgnoaokpahklaaa.Vm Go.Proofs.Ytgnoaokpahklaaa.Lzt Go.Proofs.Ytgnoaokpahklaaa.Lzb
open Go.Proofs.Ytgnoaokpahklaaa.Lzp (litB litB_nil litB_cons litB_len matB packB packF size_toList toList_nil_iff)
set_option linter.unusedVariables false
set_option linter.unusedSimpArgs false

/-- A token's bytes; is it one? -/
def tb (f0 : ByteArray) (f1 f2 : Int) : List Int := if 1 ≤ f0.size then ((f0.size : Int) - 1) :: bytesOf f0 else [f1 + 124, f2 / 256, f2 % 256]
def isLit (f0 : ByteArray) (f1 f2 : Int) : Prop := 1 ≤ f0.size ∧ f0.size ≤ 128 ∧ f1 = 0 ∧ f2 = 0
def isMat (f0 : ByteArray) (f1 f2 : Int) : Prop := f0.size = 0 ∧ 4 ≤ f1 ∧ f1 ≤ 131 ∧ 1 ≤ f2 ∧ f2 ≤ 8192
instance (f0 : ByteArray) (f1 f2 : Int) : Decidable (isLit f0 f1 f2) := by unfold isLit; infer_instance
instance (f0 : ByteArray) (f1 f2 : Int) : Decidable (isMat f0 f1 f2) := by unfold isMat; infer_instance
def vt (f0 : ByteArray) (f1 f2 : Int) : Bool := decide (isLit f0 f1 f2 ∨ isMat f0 f1 f2)
theorem tb_len {f0 : ByteArray} {f1 f2 : Int} (h : vt f0 f1 f2 = true) : (tb f0 f1 f2).length ≤ 129 := by
  unfold vt isLit isMat at h
  rw [decide_eq_true_iff] at h
  unfold tb
  split
  · rw [List.length_cons, bytesOf_length]; omega
  · simp
theorem tb_bytes {f0 : ByteArray} {f1 f2 : Int} (h : vt f0 f1 f2 = true) : ∀ x ∈ tb f0 f1 f2, 0 ≤ x ∧ x < 256 := by
  unfold vt isLit isMat at h
  rw [decide_eq_true_iff] at h
  unfold tb
  intro x hx
  split at hx
  · rcases List.mem_cons.1 hx with rfl | hx
    · omega
    · exact bytes_ok f0 x hx
  · simp only [List.mem_cons, List.not_mem_nil, or_false] at hx
    omega
abbrev tR (t : S48) : List Int := tb t.f0 t.f1 t.f2
abbrev vR (t : S48) : Bool := vt t.f0 t.f1 t.f2
abbrev tL (t : S49) : List Int := tb t.f0 t.f1 t.f2
abbrev vL (t : S49) : Bool := vt t.f0 t.f1 t.f2
theorem rd_drop {α : Type} (l : List α) (d : α) (i : Nat) (h : i < l.length) : l.drop i = l.getD i d :: l.drop (i + 1) := by
  rw [List.getD_eq_getElem?_getD, List.getElem?_eq_getElem h, Option.getD_some]
  exact List.drop_eq_getElem_cons h
theorem toList_size (x : ByteArray) : x.toList = ([] : List UInt8) ↔ x.size = 0 := toList_nil_iff x
def formSaid (ok : Bool) (bs : List Int) : ByteArray × Int := if ok = true then (strOfNums bs, 0) else ((⟨#[]⟩ : ByteArray), 1)

/-! The reference's tokens of packing. -/
def runsF : Nat → ByteArray → List S48
  | 0, S => if 0 < S.size then [⟨S, 0, 0⟩] else []
  | f + 1, S => if 128 < S.size then ⟨S.extract 0 128, 0, 0⟩ :: runsF f (S.extract 128 S.size) else if 0 < S.size then [⟨S, 0, 0⟩] else []
theorem runsF_said : ∀ (n : Nat) (S : ByteArray), S.size ≤ n → (runsF n S).flatMap tR = litB (bytesOf S) ∧ (runsF n S).all vR = true ∧ (runsF n S).length ≤ S.size := by
  have hend : ∀ (S : ByteArray), S.size ≤ 128 → (if 0 < S.size then [(⟨S, 0, 0⟩ : S48)] else []).flatMap tR = litB (bytesOf S) ∧ (if 0 < S.size then [(⟨S, 0, 0⟩ : S48)] else []).all vR = true ∧ (if 0 < S.size then [(⟨S, 0, 0⟩ : S48)] else []).length ≤ S.size := by
    intro S h
    by_cases h0 : 0 < S.size
    · rw [if_pos h0]
      have hne : bytesOf S ≠ [] := by intro e; have := bytesOf_length S; rw [e] at this; simp at this; omega
      refine ⟨?_, ?_, h0⟩
      · rw [litB_cons hne, bytesOf_length, List.take_of_length_le (by rw [bytesOf_length]; exact h), List.drop_eq_nil_of_le (by rw [bytesOf_length]; exact h), litB_nil, show min S.size 128 = S.size from by omega]
        show tb S 0 0 ++ [] = _
        unfold tb
        rw [if_pos (show 1 ≤ S.size from h0)]
        simp
      · have : vt S 0 0 = true := by unfold vt; rw [decide_eq_true]; exact .inl ⟨h0, h, rfl, rfl⟩
        simp [this]
    · rw [if_neg h0]
      have : bytesOf S = [] := List.eq_nil_of_length_eq_zero (by rw [bytesOf_length]; omega)
      rw [this, litB_nil]; simp
  intro n
  induction n with
  | zero => intro S hn; exact hend S (by omega)
  | succ n ih =>
    intro S hn
    unfold runsF
    by_cases h8 : 128 < S.size
    · rw [if_pos h8]
      have hsz : (S.extract 128 S.size).size = S.size - 128 := by rw [ByteArray.size_extract]; omega
      have hsz0 : (S.extract 0 128).size = 128 := by rw [ByteArray.size_extract]; omega
      obtain ⟨h1, h2, h3⟩ := ih (S.extract 128 S.size) (by omega)
      have hne : bytesOf S ≠ [] := by intro e; have := bytesOf_length S; rw [e] at this; simp at this; omega
      have hb1 : bytesOf (S.extract 0 128) = (bytesOf S).take 128 := by rw [bytesOf_extract, List.drop_zero]
      have hb2 : bytesOf (S.extract 128 S.size) = (bytesOf S).drop 128 := by rw [bytesOf_extract, List.take_of_length_le (by rw [List.length_drop, bytesOf_length]; omega)]
      refine ⟨?_, ?_, ?_⟩
      · rw [List.flatMap_cons, h1, litB_cons hne, hb2, bytesOf_length, show min S.size 128 = 128 from by omega]
        show tb (S.extract 0 128) 0 0 ++ _ = _
        unfold tb
        rw [if_pos (by omega), hsz0, hb1]; rfl
      · have : vt (S.extract 0 128) 0 0 = true := by unfold vt; rw [decide_eq_true]; exact .inl ⟨by omega, by omega, rfl, rfl⟩
        rw [List.all_cons, h2, Bool.and_true]; exact this
      · rw [List.length_cons]; omega
    · rw [if_neg h8]; exact hend S (by omega)
def packT (S : ByteArray) : Nat → Nat → Nat → List S48 → List S48
  | 0, at_, from_, acc => acc ++ runsF S.size (S.extract from_ S.size)
  | f + 1, at_, from_, acc =>
    if at_ < S.size then
      if (bestAt (gb S) S.size at_).1 = 0 then packT S f (at_ + 1) from_ acc
      else packT S f (at_ + (bestAt (gb S) S.size at_).1) (at_ + (bestAt (gb S) S.size at_).1) (acc ++ runsF S.size (S.extract from_ at_) ++ [⟨⟨#[]⟩, ((bestAt (gb S) S.size at_).1 : Int), ((bestAt (gb S) S.size at_).2 : Int)⟩])
    else acc ++ runsF S.size (S.extract from_ S.size)
theorem best_cases (S : ByteArray) (p : Nat) : bestAt (gb S) S.size p = (0, 0) ∨ (4 ≤ (bestAt (gb S) S.size p).1 ∧ (bestAt (gb S) S.size p).1 ≤ 131 ∧ 1 ≤ (bestAt (gb S) S.size p).2 ∧ (bestAt (gb S) S.size p).2 ≤ 8192 ∧ (bestAt (gb S) S.size p).2 ≤ p ∧ (bestAt (gb S) S.size p).1 ≤ S.size - p) := by
  have hz := best_zero (gb S) S.size p 4 (by omega) (min p 8192)
  have hle := best_le (gb S) S.size p 4 (min p 8192)
  have hbe : bestAt (gb S) S.size p = best (gb S) S.size p 4 (min p 8192) := rfl
  rw [hbe]
  rcases hz with h | h
  · exact .inl (Prod.ext h.1 h.2)
  · exact .inr ⟨h.1, hle.1, h.2.1, by omega, by omega, hle.2.1⟩
theorem packT_said (S : ByteArray) : ∀ (f at_ from_ : Nat) (acc : List S48), from_ ≤ at_ → at_ ≤ S.size → acc.all vR = true → acc.length ≤ from_ →
    (packT S f at_ from_ acc).flatMap tR = packF S f at_ from_ (acc.flatMap tR) ∧ (packT S f at_ from_ acc).all vR = true ∧ (packT S f at_ from_ acc).length ≤ S.size := by
  have hend : ∀ (from_ : Nat) (acc : List S48), from_ ≤ S.size → acc.all vR = true → acc.length ≤ from_ → (acc ++ runsF S.size (S.extract from_ S.size)).flatMap tR = acc.flatMap tR ++ litB (bytesOf (S.extract from_ S.size)) ∧ (acc ++ runsF S.size (S.extract from_ S.size)).all vR = true ∧ (acc ++ runsF S.size (S.extract from_ S.size)).length ≤ S.size := by
    intro from_ acc h1 h2 h3
    have hsz : (S.extract from_ S.size).size = S.size - from_ := by rw [ByteArray.size_extract]; omega
    obtain ⟨a, b, c⟩ := runsF_said S.size (S.extract from_ S.size) (by omega)
    exact ⟨by rw [List.flatMap_append, a], by rw [List.all_append, h2, b]; rfl, by rw [List.length_append]; omega⟩
  intro f
  induction f with
  | zero => intro at_ from_ acc hf ha hv hl; exact hend from_ acc (by omega) hv hl
  | succ f ih =>
    intro at_ from_ acc hf ha hv hl
    unfold packT packF
    by_cases hlt : at_ < S.size
    · rw [if_pos hlt, if_pos hlt]
      rcases best_cases S at_ with h | ⟨h1, h2, h3, h4, h5, h6⟩
      · rw [h]; exact ih (at_ + 1) from_ acc (by omega) (by omega) hv hl
      · generalize bestAt (gb S) S.size at_ = nd at *
        obtain ⟨n, d⟩ := nd
        dsimp only at h1 h2 h3 h4 h5 h6 ⊢
        have hn : ¬ n = 0 := by omega
        rw [if_neg hn, if_neg hn]
        have hsz : (S.extract from_ at_).size = at_ - from_ := by rw [ByteArray.size_extract]; omega
        obtain ⟨a, b, c⟩ := runsF_said S.size (S.extract from_ at_) (by omega)
        have hvm : vt (⟨#[]⟩ : ByteArray) (n : Int) (d : Int) = true := by
          unfold vt; rw [decide_eq_true]; exact .inr ⟨rfl, by omega, by omega, by omega, by omega⟩
        have htm : tb (⟨#[]⟩ : ByteArray) (n : Int) (d : Int) = matB n d := rfl
        have := ih (at_ + n) (at_ + n) (acc ++ runsF S.size (S.extract from_ at_) ++ [⟨⟨#[]⟩, (n : Int), (d : Int)⟩]) (Nat.le_refl _) (by omega)
          (by rw [List.all_append, List.all_append, hv, b]; simp [hvm]) (by rw [List.length_append, List.length_append, List.length_singleton]; omega)
        rw [List.flatMap_append, List.flatMap_append, a] at this
        simp only [List.flatMap_cons, List.flatMap_nil, List.append_nil, htm] at this
        exact this
    · rw [if_neg hlt, if_neg hlt]; exact hend from_ acc (by omega) hv hl
theorem lzPack_ev (S : ByteArray) (hS : S.size ≤ 1073741824) : Ev (fun k => lz_Pack.f k S) (strOfNums (packB S)) :=
  Ev.congr (fun k => by unfold lz_Pack.f; rw [if_pos hS]) (Ev.now _)
end Go.Proofs.Ytgnoaokpahklaaa.Lzf
