/- Forms of tokens in layer 4, and the reference's Pack. -/
import Derived.Test.YtgnoaokpahklaaaLzb
import Derived.Test.YtgnoaokpahklaaaQBx5
namespace Go.Proofs.Ytgnoaokpahklaaa.Lzf
open Go Go.RowKit Go.Lib Go.Proofs.Ytgnoaokpahklaaa.Lzm Go.Proofs.Ytgnoaokpahklaaa.Lzw Go.Proofs.YtgnoaokpahklaaaW.PrintWords Go.Proofs.Ytgnoaokpahklaaa.QB Go.Proofs.YtgnoaokpahklaaaW.PrintLast Go.Proofs.YtgnoaokpahklaaaW.PrintMore Go.Proofs.Ytgnoaokpahklaaa.Vm Go.Proofs.Ytgnoaokpahklaaa.Lzt Go.Proofs.Ytgnoaokpahklaaa.Lzb
open Go.Proofs.Ytgnoaokpahklaaa.Lzp (litB litB_nil litB_cons litB_len matB packB packF size_toList toList_nil_iff)
set_option linter.unusedVariables false
set_option linter.unusedSimpArgs false

/-- A token's bytes; is it one? -/
def tb (f0 : ByteArray) (f1 f2 : Int) : List Int := if 1 ≤ f0.size then ((f0.size : Int) - 1) :: bytesOf f0 else [f1 + 124, f2 / 256, f2 % 256]
def isLit (f0 : ByteArray) (f1 f2 : Int) : Prop := 1 ≤ f0.size ∧ f0.size ≤ 128 ∧ f1 = 0 ∧ f2 = 0
def isMat (f0 : ByteArray) (f1 f2 : Int) : Prop := f0.size = 0 ∧ 4 ≤ f1 ∧ f1 ≤ 131 ∧ 1 ≤ f2 ∧ f2 ≤ 8192
instance (f0 : ByteArray) (f1 f2 : Int) : Decidable (isLit f0 f1 f2) := by unfold isLit; infer_instance
instance (f0 : ByteArray) (f1 f2 : Int) : Decidable (isMat f0 f1 f2) := by unfold isMat; infer_instance
def vt (f0 : ByteArray) (f1 f2 : Int) : Bool := decide (isLit f0 f1 f2 ∨ isMat f0 f1 f2)
theorem tb_len {f0 : ByteArray} {f1 f2 : Int} (h : vt f0 f1 f2 = true) : (tb f0 f1 f2).length ≤ 129 := by
  unfold vt isLit isMat at h
  rw [decide_eq_true_iff] at h
  unfold tb
  split
  · rw [List.length_cons, bytesOf_length]; omega
  · simp
theorem tb_bytes {f0 : ByteArray} {f1 f2 : Int} (h : vt f0 f1 f2 = true) : ∀ x ∈ tb f0 f1 f2, 0 ≤ x ∧ x < 256 := by
  unfold vt isLit isMat at h
  rw [decide_eq_true_iff] at h
  unfold tb
  intro x hx
  split at hx
  · rcases List.mem_cons.1 hx with rfl | hx
    · omega
    · exact bytes_ok f0 x hx
  · simp only [List.mem_cons, List.not_mem_nil, or_false] at hx
    omega
abbrev tR (t : S48) : List Int := tb t.f0 t.f1 t.f2
abbrev vR (t : S48) : Bool := vt t.f0 t.f1 t.f2
abbrev tL (t : S49) : List Int := tb t.f0 t.f1 t.f2
abbrev vL (t : S49) : Bool := vt t.f0 t.f1 t.f2
theorem rd_drop {α : Type} (l : List α) (d : α) (i : Nat) (h : i < l.length) : l.drop i = l.getD i d :: l.drop (i + 1) := by
  rw [List.getD_eq_getElem?_getD, List.getElem?_eq_getElem h, Option.getD_some]
  exact List.drop_eq_getElem_cons h
theorem toList_size (x : ByteArray) : x.toList = ([] : List UInt8) ↔ x.size = 0 := toList_nil_iff x
def formSaid (ok : Bool) (bs : List Int) : ByteArray × Int := if ok = true then (strOfNums bs, 0) else ((⟨#[]⟩ : ByteArray), 1)
theorem refForm_l0 (l : List S48) (hl : l.length ≤ 1073741824) : ∀ (d i : Nat) (acc : List Int), i + d = l.length → acc.length + 129 * d < 140737488355328 →
    Ev (fun k => gantryref04_Form.l0 k l acc (i : Int)) (formSaid ((l.drop i).all vR) (acc ++ (l.drop i).flatMap tR)) := by
  intro d
  induction d with
  | zero =>
    intro i acc hi hb
    refine Ev.step (f := fun _ => some (strOfNums acc, (0 : Int))) (fun k => ?_) ?_
    · rw [gantryref04_Form.l0, if_neg (by omega)]
    · rw [List.drop_eq_nil_of_le (by omega)]
      unfold formSaid
      simp only [List.all_nil, if_true, List.flatMap_nil, List.append_nil]
      exact Ev.now _
  | succ d ih =>
    intro i acc hi hb
    have hd := rd_drop l z48 i (by omega)
    have hrd : rd_T48 l (i : Int) = l.getD i z48 := by unfold rd_T48; rw [Int.toNat_natCast]
    rw [hd]
    generalize hT : l.getD i z48 = t at *
    obtain ⟨f0, f1, f2⟩ := t
    simp only [List.all_cons, List.flatMap_cons]
    have hj : ∀ (b : Bool) (R : ByteArray × Int), b = decide (isLit f0 f1 f2) → Ev (fun k => gantryref04_Form.j1 k l acc (i : Int) (f0.size : Int) b f0 f1 f2) R → Ev (fun k => gantryref04_Form.l0 k l acc (i : Int)) R := by
      intro b R hbe hR
      refine Ev.step (f := fun k => gantryref04_Form.j1 k l acc (i : Int) (f0.size : Int) b f0 f1 f2) (fun k => ?_) hR
      rw [gantryref04_Form.l0, if_pos (by omega), if_pos (by omega), hrd]
      dsimp only
      by_cases h1 : (f0.size : Int) ≥ 1
      · rw [if_pos h1]
        by_cases h2 : (f0.size : Int) ≤ 128
        · rw [if_pos h2]
          by_cases h3 : f1 = 0
          · rw [if_pos h3]
            have : (f2 == 0) = b := by
              rw [hbe]
              by_cases h4 : f2 = 0
              · rw [decide_eq_true (by unfold isLit; omega), beq_iff_eq.2 h4]
              · rw [decide_eq_false (by unfold isLit; omega)]; exact beq_eq_false_iff_ne.2 h4
            rw [this]
          · rw [if_neg h3, hbe, decide_eq_false (by unfold isLit; omega)]
        · rw [if_neg h2, hbe, decide_eq_false (by unfold isLit; omega)]
      · rw [if_neg h1, hbe, decide_eq_false (by unfold isLit; omega)]
    by_cases hlit : isLit f0 f1 f2
    · have hv : vt f0 f1 f2 = true := by unfold vt; rw [decide_eq_true (.inl hlit)]
      have hn : 1 ≤ f0.size := hlit.1
      have hn2 : f0.size ≤ 128 := hlit.2.1
      have htb : tb f0 f1 f2 = ((f0.size : Int) - 1) :: bytesOf f0 := by unfold tb; rw [if_pos hn]
      refine hj true _ (decide_eq_true hlit).symm ?_
      have hrec := ih (i + 1) (acc ++ tb f0 f1 f2) (by omega) (by rw [List.length_append]; have := tb_len hv; omega)
      rw [show vR ⟨f0, f1, f2⟩ = true from hv, Bool.true_and, ← List.append_assoc]
      refine Ev.step (fun k => ?_) hrec
      rw [gantryref04_Form.j1, if_pos rfl, if_pos (by omega), Option.bind_some, if_pos (by rw [List.length_append, List.length_singleton]; omega), wrap_id (x := (f0.size : Int) - 1) (by omega) (by omega), show ((f0.size : Int) - 1) % 256 = (f0.size : Int) - 1 from by omega, wrap_id (x := (i : Int) + 1) (by omega) (by omega), htb]
      simp
    · refine hj false _ (decide_eq_false hlit).symm ?_
      have hbad : ∀ R : ByteArray × Int, vt f0 f1 f2 = false → R = formSaid (vt f0 f1 f2 && (l.drop (i + 1)).all vR) (acc ++ (tb f0 f1 f2 ++ (l.drop (i + 1)).flatMap tR)) → R = ((⟨#[]⟩ : ByteArray), 1) := by
        intro R h e
        rw [e, h]; rfl
      by_cases hmat : isMat f0 f1 f2
      · have hv : vt f0 f1 f2 = true := by unfold vt; rw [decide_eq_true (.inr hmat)]
        have hm : f0.size = 0 ∧ 4 ≤ f1 ∧ f1 ≤ 131 ∧ 1 ≤ f2 ∧ f2 ≤ 8192 := hmat
        have htb : tb f0 f1 f2 = [f1 + 124, f2 / 256, f2 % 256] := by unfold tb; rw [if_neg (by omega)]
        have hrec := ih (i + 1) (acc ++ tb f0 f1 f2) (by omega) (by rw [List.length_append]; have := tb_len hv; omega)
        rw [show vR ⟨f0, f1, f2⟩ = true from hv, Bool.true_and, ← List.append_assoc]
        refine Ev.step (fun k => ?_) hrec
        rw [gantryref04_Form.j1, if_neg (by simp), if_pos (by omega), if_pos (by omega), if_pos (by omega), if_pos (by omega), if_pos (by omega), Option.bind_some, if_pos (by simp; omega), Int.tdiv_eq_ediv_of_nonneg (by omega), Int.tmod_eq_emod_of_nonneg (by omega), wrap_id (x := f1 + 124) (by omega) (by omega), wrap_id (x := f2 / 256) (by omega) (by omega), wrap_id (x := (i : Int) + 1) (by omega) (by omega), htb, show (f1 + 124) % 256 = f1 + 124 from by omega, show f2 / 256 % 256 = f2 / 256 from by omega, show f2 % 256 % 256 = f2 % 256 from by omega]
        rfl
      · have hv : vt f0 f1 f2 = false := by
          unfold vt
          rw [decide_eq_false_iff_not]
          rintro (h | h)
          · exact hlit h
          · exact hmat h
        rw [hbad _ hv rfl]
        refine Ev.step (f := fun _ => some ((⟨#[]⟩ : ByteArray), (1 : Int))) (fun k => ?_) (Ev.now _)
        rw [gantryref04_Form.j1, if_neg (by simp)]
        unfold isMat at hmat
        by_cases h1 : (f0.size : Int) = 0
        · rw [if_pos h1]
          by_cases h2 : f1 ≥ 4
          · rw [if_pos h2]
            by_cases h3 : f1 ≤ 131
            · rw [if_pos h3]
              by_cases h4 : f2 ≥ 1
              · rw [if_pos h4, if_neg (by omega)]
              · rw [if_neg h4]
            · rw [if_neg h3]
          · rw [if_neg h2]
        · rw [if_neg h1]
theorem refForm_ev (l : List S48) (hl : l.length ≤ 1073741824) : Ev (fun k => gantryref04_Form.f k l) (formSaid (l.all vR) (l.flatMap tR)) := by
  have h := refForm_l0 l hl l.length 0 [] (by omega) (by simp; omega)
  rw [List.drop_zero, List.nil_append] at h
  exact h

/-! The reference's tokens of packing. -/
def runsF : Nat → ByteArray → List S48
  | 0, S => if 0 < S.size then [⟨S, 0, 0⟩] else []
  | f + 1, S => if 128 < S.size then ⟨S.extract 0 128, 0, 0⟩ :: runsF f (S.extract 128 S.size) else if 0 < S.size then [⟨S, 0, 0⟩] else []
theorem runs_ev : ∀ (n : Nat) (S : ByteArray) (acc : List S48), S.size ≤ n → acc.length + S.size < 4398046511104 → Ev (fun k => gantryref04_runs.l0 k S acc) (acc ++ runsF n S) := by
  have hend : ∀ (S : ByteArray) (acc : List S48), S.size ≤ 128 → acc.length + S.size < 4398046511104 → Ev (fun k => gantryref04_runs.l0 k S acc) (acc ++ if 0 < S.size then [⟨S, 0, 0⟩] else []) := by
    intro S acc h hb
    by_cases h0 : 0 < S.size
    · rw [if_pos h0]
      refine Ev.step (f := fun _ => some (acc ++ [(⟨S, 0, 0⟩ : S48)])) (fun k => ?_) (Ev.now _)
      rw [gantryref04_runs.l0, if_neg (by omega), if_pos (by omega), if_pos (by omega)]
    · rw [if_neg h0, List.append_nil]
      refine Ev.step (f := fun _ => some acc) (fun k => ?_) (Ev.now _)
      rw [gantryref04_runs.l0, if_neg (by omega), if_neg (by omega)]
  intro n
  induction n with
  | zero => intro S acc hn hb; exact hend S acc (by omega) hb
  | succ n ih =>
    intro S acc hn hb
    unfold runsF
    by_cases h8 : 128 < S.size
    · rw [if_pos h8]
      have hsz : (S.extract 128 S.size).size = S.size - 128 := by rw [ByteArray.size_extract]; omega
      have := ih (S.extract 128 S.size) (acc ++ [⟨S.extract 0 128, 0, 0⟩]) (by omega) (by simp; omega)
      rw [List.append_assoc] at this
      refine Ev.step (fun k => ?_) this
      rw [gantryref04_runs.l0, if_pos (by omega), if_pos (by omega), if_pos (by omega), if_pos (by omega)]
    · rw [if_neg h8]; exact hend S acc (by omega) hb
theorem runsF_said : ∀ (n : Nat) (S : ByteArray), S.size ≤ n → (runsF n S).flatMap tR = litB (bytesOf S) ∧ (runsF n S).all vR = true ∧ (runsF n S).length ≤ S.size := by
  have hend : ∀ (S : ByteArray), S.size ≤ 128 → (if 0 < S.size then [(⟨S, 0, 0⟩ : S48)] else []).flatMap tR = litB (bytesOf S) ∧ (if 0 < S.size then [(⟨S, 0, 0⟩ : S48)] else []).all vR = true ∧ (if 0 < S.size then [(⟨S, 0, 0⟩ : S48)] else []).length ≤ S.size := by
    intro S h
    by_cases h0 : 0 < S.size
    · rw [if_pos h0]
      have hne : bytesOf S ≠ [] := by intro e; have := bytesOf_length S; rw [e] at this; simp at this; omega
      refine ⟨?_, ?_, h0⟩
      · rw [litB_cons hne, bytesOf_length, List.take_of_length_le (by rw [bytesOf_length]; exact h), List.drop_eq_nil_of_le (by rw [bytesOf_length]; exact h), litB_nil, show min S.size 128 = S.size from by omega]
        show tb S 0 0 ++ [] = _
        unfold tb
        rw [if_pos (show 1 ≤ S.size from h0)]
        simp
      · have : vt S 0 0 = true := by unfold vt; rw [decide_eq_true]; exact .inl ⟨h0, h, rfl, rfl⟩
        simp [this]
    · rw [if_neg h0]
      have : bytesOf S = [] := List.eq_nil_of_length_eq_zero (by rw [bytesOf_length]; omega)
      rw [this, litB_nil]; simp
  intro n
  induction n with
  | zero => intro S hn; exact hend S (by omega)
  | succ n ih =>
    intro S hn
    unfold runsF
    by_cases h8 : 128 < S.size
    · rw [if_pos h8]
      have hsz : (S.extract 128 S.size).size = S.size - 128 := by rw [ByteArray.size_extract]; omega
      have hsz0 : (S.extract 0 128).size = 128 := by rw [ByteArray.size_extract]; omega
      obtain ⟨h1, h2, h3⟩ := ih (S.extract 128 S.size) (by omega)
      have hne : bytesOf S ≠ [] := by intro e; have := bytesOf_length S; rw [e] at this; simp at this; omega
      have hb1 : bytesOf (S.extract 0 128) = (bytesOf S).take 128 := by rw [bytesOf_extract, List.drop_zero]
      have hb2 : bytesOf (S.extract 128 S.size) = (bytesOf S).drop 128 := by rw [bytesOf_extract, List.take_of_length_le (by rw [List.length_drop, bytesOf_length]; omega)]
      refine ⟨?_, ?_, ?_⟩
      · rw [List.flatMap_cons, h1, litB_cons hne, hb2, bytesOf_length, show min S.size 128 = 128 from by omega]
        show tb (S.extract 0 128) 0 0 ++ _ = _
        unfold tb
        rw [if_pos (by omega), hsz0, hb1]; rfl
      · have : vt (S.extract 0 128) 0 0 = true := by unfold vt; rw [decide_eq_true]; exact .inl ⟨by omega, by omega, rfl, rfl⟩
        rw [List.all_cons, h2, Bool.and_true]; exact this
      · rw [List.length_cons]; omega
    · rw [if_neg h8]; exact hend S (by omega)
def packT (S : ByteArray) : Nat → Nat → Nat → List S48 → List S48
  | 0, at_, from_, acc => acc ++ runsF S.size (S.extract from_ S.size)
  | f + 1, at_, from_, acc =>
    if at_ < S.size then
      if (bestAt (gb S) S.size at_).1 = 0 then packT S f (at_ + 1) from_ acc
      else packT S f (at_ + (bestAt (gb S) S.size at_).1) (at_ + (bestAt (gb S) S.size at_).1) (acc ++ runsF S.size (S.extract from_ at_) ++ [⟨⟨#[]⟩, ((bestAt (gb S) S.size at_).1 : Int), ((bestAt (gb S) S.size at_).2 : Int)⟩])
    else acc ++ runsF S.size (S.extract from_ S.size)
theorem best_cases (S : ByteArray) (p : Nat) : bestAt (gb S) S.size p = (0, 0) ∨ (4 ≤ (bestAt (gb S) S.size p).1 ∧ (bestAt (gb S) S.size p).1 ≤ 131 ∧ 1 ≤ (bestAt (gb S) S.size p).2 ∧ (bestAt (gb S) S.size p).2 ≤ 8192 ∧ (bestAt (gb S) S.size p).2 ≤ p ∧ (bestAt (gb S) S.size p).1 ≤ S.size - p) := by
  have hz := best_zero (gb S) S.size p 4 (by omega) (min p 8192)
  have hle := best_le (gb S) S.size p 4 (min p 8192)
  have hbe : bestAt (gb S) S.size p = best (gb S) S.size p 4 (min p 8192) := rfl
  rw [hbe]
  rcases hz with h | h
  · exact .inl (Prod.ext h.1 h.2)
  · exact .inr ⟨h.1, hle.1, h.2.1, by omega, by omega, hle.2.1⟩
theorem packT_said (S : ByteArray) : ∀ (f at_ from_ : Nat) (acc : List S48), from_ ≤ at_ → at_ ≤ S.size → acc.all vR = true → acc.length ≤ from_ →
    (packT S f at_ from_ acc).flatMap tR = packF S f at_ from_ (acc.flatMap tR) ∧ (packT S f at_ from_ acc).all vR = true ∧ (packT S f at_ from_ acc).length ≤ S.size := by
  have hend : ∀ (from_ : Nat) (acc : List S48), from_ ≤ S.size → acc.all vR = true → acc.length ≤ from_ → (acc ++ runsF S.size (S.extract from_ S.size)).flatMap tR = acc.flatMap tR ++ litB (bytesOf (S.extract from_ S.size)) ∧ (acc ++ runsF S.size (S.extract from_ S.size)).all vR = true ∧ (acc ++ runsF S.size (S.extract from_ S.size)).length ≤ S.size := by
    intro from_ acc h1 h2 h3
    have hsz : (S.extract from_ S.size).size = S.size - from_ := by rw [ByteArray.size_extract]; omega
    obtain ⟨a, b, c⟩ := runsF_said S.size (S.extract from_ S.size) (by omega)
    exact ⟨by rw [List.flatMap_append, a], by rw [List.all_append, h2, b]; rfl, by rw [List.length_append]; omega⟩
  intro f
  induction f with
  | zero => intro at_ from_ acc hf ha hv hl; exact hend from_ acc (by omega) hv hl
  | succ f ih =>
    intro at_ from_ acc hf ha hv hl
    unfold packT packF
    by_cases hlt : at_ < S.size
    · rw [if_pos hlt, if_pos hlt]
      rcases best_cases S at_ with h | ⟨h1, h2, h3, h4, h5, h6⟩
      · rw [h]; exact ih (at_ + 1) from_ acc (by omega) (by omega) hv hl
      · generalize bestAt (gb S) S.size at_ = nd at *
        obtain ⟨n, d⟩ := nd
        dsimp only at h1 h2 h3 h4 h5 h6 ⊢
        have hn : ¬ n = 0 := by omega
        rw [if_neg hn, if_neg hn]
        have hsz : (S.extract from_ at_).size = at_ - from_ := by rw [ByteArray.size_extract]; omega
        obtain ⟨a, b, c⟩ := runsF_said S.size (S.extract from_ at_) (by omega)
        have hvm : vt (⟨#[]⟩ : ByteArray) (n : Int) (d : Int) = true := by
          unfold vt; rw [decide_eq_true]; exact .inr ⟨rfl, by omega, by omega, by omega, by omega⟩
        have htm : tb (⟨#[]⟩ : ByteArray) (n : Int) (d : Int) = matB n d := rfl
        have := ih (at_ + n) (at_ + n) (acc ++ runsF S.size (S.extract from_ at_) ++ [⟨⟨#[]⟩, (n : Int), (d : Int)⟩]) (Nat.le_refl _) (by omega)
          (by rw [List.all_append, List.all_append, hv, b]; simp [hvm]) (by rw [List.length_append, List.length_append, List.length_singleton]; omega)
        rw [List.flatMap_append, List.flatMap_append, a] at this
        simp only [List.flatMap_cons, List.flatMap_nil, List.append_nil, htm] at this
        exact this
    · rw [if_neg hlt, if_neg hlt]; exact hend from_ acc (by omega) hv hl
theorem refPacked_l0 (S : ByteArray) (hS : S.size ≤ 1073741824) : ∀ (f at_ from_ : Nat) (acc : List S48), S.size ≤ at_ + f → from_ ≤ at_ → at_ ≤ S.size → acc.length ≤ from_ →
    Ev (fun k => gantryref04_Packed.l0 k S acc (from_ : Int) (at_ : Int)) (packT S f at_ from_ acc) := by
  have hend : ∀ (at_ from_ : Nat) (acc : List S48), at_ = S.size → from_ ≤ S.size → acc.length ≤ from_ → Ev (fun k => gantryref04_Packed.l0 k S acc (from_ : Int) (at_ : Int)) (acc ++ runsF S.size (S.extract from_ S.size)) := by
    intro at_ from_ acc ha hf hl
    have hsz : (S.extract from_ S.size).size = S.size - from_ := by rw [ByteArray.size_extract]; omega
    have hr := runs_ev S.size (S.extract from_ S.size) [] (by omega) (by simp; omega)
    rw [List.nil_append] at hr
    have hlen := (runsF_said S.size (S.extract from_ S.size) (by omega)).2.2
    refine Ev.step (f := fun k => (gantryref04_runs.f k (S.extract from_ S.size)).bind fun t => (if acc.length + t.length < 4398046511104 then (some (acc ++ t)) else (none))) (fun k => ?_) (Ev.bind hr ?_)
    · rw [gantryref04_Packed.l0, if_neg (by omega), if_pos (by omega), if_pos (by omega), Int.toNat_natCast]
    · rw [if_pos (by omega)]; exact Ev.now _
  intro f
  induction f with
  | zero => intro at_ from_ acc h1 h2 h3 h4; exact hend at_ from_ acc (by omega) (by omega) h4
  | succ f ih =>
    intro at_ from_ acc h1 h2 h3 h4
    unfold packT
    by_cases hlt : at_ < S.size
    · rw [if_pos hlt]
      have hb := refBest_ev S (by omega) (at_ : Int)
      rw [show bestI S (at_ : Int) = (((bestAt (gb S) S.size at_).1 : Int), ((bestAt (gb S) S.size at_).2 : Int)) from by unfold bestI; rw [if_neg (by omega), Int.toNat_natCast]] at hb
      refine Ev.step (fun k => by rw [gantryref04_Packed.l0, if_pos (show (at_ : Int) < (S.size : Int) by omega)]) (Ev.bind hb ?_)
      rcases best_cases S at_ with h | ⟨g1, g2, g3, g4, g5, g6⟩
      · rw [h]
        simp only [Int.natCast_zero, if_true]
        rw [wrap_id (x := (at_ : Int) + 1) (by omega) (by omega)]
        exact ih (at_ + 1) from_ acc (by omega) (by omega) (by omega) h4
      · generalize bestAt (gb S) S.size at_ = nd at *
        obtain ⟨n, d⟩ := nd
        dsimp only at g1 g2 g3 g4 g5 g6 ⊢
        have hn : ¬ n = 0 := by omega
        have hn' : ¬ (n : Int) = 0 := by omega
        rw [if_neg hn]
        have k1 : 0 ≤ (from_ : Int) := by omega
        have k2 : (from_ : Int) ≤ (at_ : Int) := by omega
        have k3 : (at_ : Int) ≤ (S.size : Int) := by omega
        simp only [hn', if_false, k1, k2, k3, if_true, Int.toNat_natCast]
        have hsz : (S.extract from_ at_).size = at_ - from_ := by rw [ByteArray.size_extract]; omega
        have hr := runs_ev S.size (S.extract from_ at_) [] (by omega) (by simp; omega)
        rw [List.nil_append] at hr
        have hlen := (runsF_said S.size (S.extract from_ at_) (by omega)).2.2
        refine Ev.bind hr ?_
        have k4 : acc.length + (runsF S.size (S.extract from_ at_)).length < 4398046511104 := by omega
        simp only [k4, if_true, Option.bind_some]
        have k5 : (acc ++ runsF S.size (S.extract from_ at_)).length < 4398046511104 := by rw [List.length_append]; omega
        simp only [k5, if_true]
        rw [wrap_id (x := (at_ : Int) + n) (by omega) (by omega)]
        have := ih (at_ + n) (at_ + n) (acc ++ runsF S.size (S.extract from_ at_) ++ [⟨⟨#[]⟩, (n : Int), (d : Int)⟩]) (by omega) (Nat.le_refl _) (by omega) (by rw [List.length_append, List.length_append, List.length_singleton]; omega)
        exact this
    · rw [if_neg hlt]; exact hend at_ from_ acc (by omega) (by omega) h4
theorem refPack_ev (S : ByteArray) (hS : S.size ≤ 1073741824) : Ev (fun k => gantryref04_Pack.f k S) (strOfNums (packB S)) := by
  have h1 := refPacked_l0 S hS S.size 0 0 [] (by omega) (Nat.le_refl _) (Nat.zero_le _) (by simp)
  obtain ⟨h2, h3, h4⟩ := packT_said S S.size 0 0 [] (Nat.le_refl _) (Nat.zero_le _) (by simp) (by simp)
  have h5 := refForm_ev (packT S S.size 0 0 []) (by omega)
  rw [h3, h2] at h5
  exact Ev.bind h1 (Ev.bind h5 (Ev.now _))
theorem lzPack_ev (S : ByteArray) (hS : S.size ≤ 1073741824) : Ev (fun k => lz_Pack.f k S) (strOfNums (packB S)) :=
  Ev.congr (fun k => by unfold lz_Pack.f; rw [if_pos hS]) (Ev.now _)
end Go.Proofs.Ytgnoaokpahklaaa.Lzf
