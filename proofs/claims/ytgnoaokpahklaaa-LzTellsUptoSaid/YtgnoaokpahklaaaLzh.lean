/- Layer 4's Tokens, Form and the statement's comparison, as plain functions. -/
import Derived.Test.YtgnoaokpahklaaaLzg
import Derived.Test.YtgnoaokpahklaaaQBf22
import Derived.Test.YtgnoaokpahklaaaQBf25
import Derived.Test.YtgnoaokpahklaaaQBf27
namespace Go.Proofs.Ytgnoaokpahklaaa.Lzh
open Go Go.RowKit Go.Lib Go.Proofs.Ytgnoaokpahklaaa.Lzm Go.Proofs.Ytgnoaokpahklaaa.Lzw Go.Proofs.YtgnoaokpahklaaaW.PrintWords Go.Proofs.Ytgnoaokpahklaaa.QB Go.Proofs.YtgnoaokpahklaaaW.PrintLast Go.Proofs.YtgnoaokpahklaaaW.PrintMore Go.Proofs.Ytgnoaokpahklaaa.Vm Go.Proofs.Ytgnoaokpahklaaa.Lzt Go.Proofs.Ytgnoaokpahklaaa.Lzb Go.Proofs.Ytgnoaokpahklaaa.Lzf Go.Proofs.Ytgnoaokpahklaaa.Lzg
open Go.Proofs.Ytgnoaokpahklaaa.Lzp (litB litB_nil litB_cons litB_len matB packB packF size_toList toList_nil_iff literals_ev match_some)
set_option linter.unusedVariables false
set_option linter.unusedSimpArgs false

/-- What bytes are as tokens. -/
def toksL : Nat → List Int → Int → List S49 → List S49 × Int × Int
  | 0, _, at_, acc => (acc, at_, 0)
  | f + 1, l, at_, acc =>
    if l = [] then (acc, at_, 0)
    else if tokE (tokL l) ≠ 0 then ([], at_, tokE (tokL l))
    else toksL f (l.drop (tokL l).2.2.2.toNat) (at_ + (tokL l).2.2.2) (acc ++ [⟨strOfNums (tokL l).1, (tokL l).2.1, (tokL l).2.2.1⟩])
theorem tok_facts (S : ByteArray) (at_ : Nat) (h : at_ < S.size) (hs : S.size ≤ 1073741824) :
    bytesOf (S.extract at_ S.size) = (bytesOf S).drop at_ ∧ (S.extract at_ S.size).size = S.size - at_ ∧ (bytesOf S).drop at_ ≠ [] := by
  refine ⟨by rw [bytesOf_extract, List.take_of_length_le (by rw [List.length_drop, bytesOf_length]; omega)], by rw [ByteArray.size_extract]; omega, ?_⟩
  intro e; have := congrArg List.length e; rw [List.length_drop, bytesOf_length] at this; simp at this; omega
theorem lzTokens_l0 (S : ByteArray) (hS : S.size ≤ 1073741824) : ∀ (n at_ : Nat) (acc : List S49), at_ ≤ S.size → S.size - at_ ≤ n → acc.length ≤ at_ →
    Ev (fun k => lz_Tokens.l0 k S acc (at_ : Int)) (toksL n ((bytesOf S).drop at_) (at_ : Int) acc) := by
  have hend : ∀ (acc : List S49) (at_ : Nat), at_ = S.size → Ev (fun k => lz_Tokens.l0 k S acc (at_ : Int)) (acc, (at_ : Int), 0) := by
    intro acc at_ h
    refine Ev.step (f := fun _ => some (acc, (S.size : Int), (0 : Int))) (fun k => ?_) (by rw [h]; exact Ev.now _)
    rw [lz_Tokens.l0, if_neg (by omega)]
  intro n
  induction n with
  | zero => intro at_ acc h1 h2 h3; exact hend acc at_ (by omega)
  | succ n ih =>
    intro at_ acc h1 h2 h3
    unfold toksL
    by_cases h0 : at_ = S.size
    · rw [if_pos (List.drop_eq_nil_of_le (by rw [bytesOf_length]; omega))]; exact hend acc at_ h0
    · obtain ⟨e1, e2, e3⟩ := tok_facts S at_ (by omega) hS
      rw [if_neg e3]
      have htz := tokL_zero (bytesOf (S.extract at_ S.size)) (byte_range _)
      have hts := token_some (S.extract at_ S.size) (by omega) (by omega)
      rw [bytesOf_length, e2] at htz
      rw [e1] at htz hts
      have hdrop : ∀ m : Nat, ((bytesOf S).drop at_).drop m = (bytesOf S).drop (at_ + m) := fun m => by rw [List.drop_drop]
      generalize tokL ((bytesOf S).drop at_) = t at *
      obtain ⟨lits, tl, td, tn⟩ := t
      dsimp only at htz hts ⊢
      have hE : tokE (lits, tl, td, tn) = if tn = 0 then 20 else if 0 < tl ∧ (td < 1 ∨ 8192 < td) then 25 else 0 := rfl
      refine Ev.step (fun k => by rw [lz_Tokens.l0, if_pos (show (at_ : Int) < (S.size : Int) by omega), if_pos (show 0 ≤ (at_ : Int) by omega), if_pos (show (at_ : Int) ≤ (S.size : Int) by omega), Int.toNat_natCast, hts, Option.bind_some]) ?_
      dsimp only
      by_cases hn0 : tn = 0
      · rw [hE, if_pos hn0, if_pos (by omega)]
        simp only [hn0, if_true]; exact Ev.now _
      · have htn : 2 ≤ tn ∧ tn ≤ ((S.size - at_ : Nat) : Int) := by rcases htz with h | h; exact absurd h.1 hn0; exact ⟨h.1, h.2.1⟩
        simp only [hn0, if_false]
        have hrec := ih (at_ + tn.toNat) (acc ++ [⟨strOfNums lits, tl, td⟩]) (by omega) (by omega) (by rw [List.length_append, List.length_singleton]; omega)
        rw [← hdrop] at hrec
        have hw : wrap64 ((at_ + tn.toNat : Nat) : Int) = ((at_ + tn.toNat : Nat) : Int) := wrap_id (by omega) (by omega)
        have hw' : (at_ : Int) + tn = ((at_ + tn.toNat : Nat) : Int) := by omega
        have hlim : acc.length < 4398046511104 := by omega
        by_cases hbad : 0 < tl ∧ (td < 1 ∨ 8192 < td)
        · rw [hE, if_neg hn0, if_pos hbad, if_pos (by omega)]
          have g1 : tl > 0 := hbad.1
          simp only [g1, if_true]
          by_cases g2 : td < 1
          · simp only [g2, if_true]; exact Ev.now _
          · have g3 : td > 8192 := by omega
            simp only [g2, if_false, g3, if_true]; exact Ev.now _
        · rw [hE, if_neg hn0, if_neg hbad, if_neg (by omega), hw']
          by_cases g1 : tl > 0
          · have g2 : ¬ td < 1 := by omega
            have g3 : ¬ td > 8192 := by omega
            simp only [g1, if_true, g2, if_false, g3, hlim, hw]; exact hrec
          · simp only [g1, if_false, hlim, if_true, hw]; exact hrec
theorem lzTokens_ev (S : ByteArray) (hS : S.size ≤ 1073741824) : Ev (fun k => lz_Tokens.f k S) (toksL S.size (bytesOf S) 0 []) :=
  lzTokens_l0 S hS S.size 0 [] (Nat.zero_le _) (by omega) (by simp)
/-- The tokens of tokens' bytes. -/
theorem toks_flat : ∀ (ts : List S49) (f : Nat) (at_ : Int) (acc : List S49), ts.all vL = true → ts.length ≤ f → toksL f (ts.flatMap tL) at_ acc = (acc ++ ts, at_ + (ts.flatMap tL).length, 0)
  | [], f, at_, acc, _, _ => by cases f <;> simp [toksL]
  | t :: ts, 0, at_, acc, _, h => by simp at h
  | t :: ts, f + 1, at_, acc, hv, h => by
    rw [List.all_cons, Bool.and_eq_true] at hv
    have ht := tok_tb hv.1 (ts.flatMap tL)
    have hne : tL t ++ ts.flatMap tL ≠ [] := fun e => tb_ne (List.append_eq_nil_iff.1 e).1
    have hl : (tb t.f0 t.f1 t.f2).length ≠ 0 := fun e => tb_ne (List.eq_nil_of_length_eq_zero e)
    rw [List.flatMap_cons]
    conv => lhs; unfold toksL
    rw [if_neg hne, ht]
    have hE : tokE (bytesOf t.f0, t.f1, t.f2, ((tb t.f0 t.f1 t.f2).length : Int)) = 0 := by
      show (if ((tb t.f0 t.f1 t.f2).length : Int) = 0 then (20 : Int) else if 0 < t.f1 ∧ (t.f2 < 1 ∨ 8192 < t.f2) then 25 else 0) = 0
      have := hv.1
      unfold vL vt isLit isMat at this
      rw [decide_eq_true_iff] at this
      rw [if_neg (by omega), if_neg (by omega)]
    rw [hE]
    dsimp only
    rw [if_neg (by omega), Int.toNat_natCast, List.drop_left, nums_bytes, toks_flat ts f _ _ hv.2 (by simpa using h)]
    refine Prod.ext (by simp) (Prod.ext ?_ rfl)
    show at_ + ((tb t.f0 t.f1 t.f2).length : Int) + _ = at_ + _
    rw [List.length_append]
    have : (tL t).length = (tb t.f0 t.f1 t.f2).length := rfl
    omega
theorem literals_same : ∀ (k : Nat) (l : List Int) (S : ByteArray), lz_literals.l0 k l S = QA.lz_literals.l0 k l S
  | 0, _, _ => rfl
  | k + 1, l, S => by rw [lz_literals.l0, QA.lz_literals.l0]; simp only [literals_same k]
theorem literals_ev' (S : ByteArray) (acc : List Int) (h : acc.length + 2 * S.size < 140737488355328) : Ev (fun k => lz_literals.f k acc S) (acc ++ litB (bytesOf S)) :=
  Ev.congr (fun k => literals_same k acc S) (literals_ev S acc h)
theorem lzForm_l0 (l : List S49) (hl : l.length ≤ 1073741824) : ∀ (d i : Nat) (acc : List Int), i + d = l.length → acc.length + 259 * d < 140737488355328 →
    Ev (fun k => lz_Form.l0 k acc l (l.length : Int) (i : Int)) (formSaid ((l.drop i).all vL) (acc ++ (l.drop i).flatMap tL)) := by
  intro d
  induction d with
  | zero =>
    intro i acc hi hb
    refine Ev.step (f := fun _ => some (strOfNums acc, (0 : Int))) (fun k => ?_) ?_
    · rw [lz_Form.l0, if_neg (by omega)]
    · rw [List.drop_eq_nil_of_le (by omega)]
      unfold formSaid
      simp only [List.all_nil, if_true, List.flatMap_nil, List.append_nil]
      exact Ev.now _
  | succ d ih =>
    intro i acc hi hb
    have hd := rd_drop l z49 i (by omega)
    have hrd : rd_T49 l (i : Int) = l.getD i z49 := by unfold rd_T49; rw [Int.toNat_natCast]
    rw [hd]
    generalize hT : l.getD i z49 = t at *
    obtain ⟨f0, f1, f2⟩ := t
    simp only [List.all_cons, List.flatMap_cons]
    have hj : ∀ (b : Bool) (R : ByteArray × Int), b = decide (isLit f0 f1 f2) → Ev (fun k => lz_Form.j1 k acc l (l.length : Int) (i : Int) b f0 f1 f2) R → Ev (fun k => lz_Form.l0 k acc l (l.length : Int) (i : Int)) R := by
      intro b R hbe hR
      refine Ev.step (f := fun k => lz_Form.j1 k acc l (l.length : Int) (i : Int) b f0 f1 f2) (fun k => ?_) hR
      rw [lz_Form.l0, if_pos (by omega), if_pos (by omega), if_pos (by omega), hrd]
      dsimp only
      by_cases h1 : f1 = 0
      · rw [if_pos h1]
        by_cases h2 : f2 = 0
        · rw [if_pos h2]
          by_cases h3 : (f0.size : Int) ≥ 1
          · rw [if_pos h3]
            have : decide ((f0.size : Int) ≤ 128) = b := by rw [hbe, decide_eq_decide]; unfold isLit; omega
            rw [this]
          · rw [if_neg h3, hbe, decide_eq_false (by unfold isLit; omega)]
        · rw [if_neg h2, hbe, decide_eq_false (by unfold isLit; omega)]
      · rw [if_neg h1, hbe, decide_eq_false (by unfold isLit; omega)]
    by_cases hlit : isLit f0 f1 f2
    · have hv : vt f0 f1 f2 = true := by unfold vt; rw [decide_eq_true (.inl hlit)]
      have hn : 1 ≤ f0.size := hlit.1
      have hn2 : f0.size ≤ 128 := hlit.2.1
      have htb : tb f0 f1 f2 = ((f0.size : Int) - 1) :: bytesOf f0 := by unfold tb; rw [if_pos hn]
      have hlb : litB (bytesOf f0) = tb f0 f1 f2 := by
        have hne : bytesOf f0 ≠ [] := by intro e; have := bytesOf_length f0; rw [e] at this; simp at this; omega
        rw [litB_cons hne, htb, bytesOf_length, List.take_of_length_le (by rw [bytesOf_length]; exact hn2), List.drop_eq_nil_of_le (by rw [bytesOf_length]; exact hn2), litB_nil, List.append_nil, show min f0.size 128 = f0.size from by omega]
      refine hj true _ (decide_eq_true hlit).symm ?_
      have hrec := ih (i + 1) (acc ++ tb f0 f1 f2) (by omega) (by rw [List.length_append]; have := tb_len hv; omega)
      rw [show vL ⟨f0, f1, f2⟩ = true from hv, Bool.true_and, ← List.append_assoc]
      refine Ev.step (fun k => by rw [lz_Form.j1, if_pos rfl]) (Ev.bind (literals_ev' f0 acc (by omega)) ?_)
      rw [hlb, wrap_id (x := (i : Int) + 1) (by omega) (by omega)]
      exact hrec
    · refine hj false _ (decide_eq_false hlit).symm ?_
      have hbad : ∀ R : ByteArray × Int, vt f0 f1 f2 = false → R = formSaid (vt f0 f1 f2 && (l.drop (i + 1)).all vL) (acc ++ (tb f0 f1 f2 ++ (l.drop (i + 1)).flatMap tL)) → R = ((⟨#[]⟩ : ByteArray), 1) := by
        intro R h e
        rw [e, h]; rfl
      by_cases hmat : isMat f0 f1 f2
      · have hv : vt f0 f1 f2 = true := by unfold vt; rw [decide_eq_true (.inr hmat)]
        have hm : f0.size = 0 ∧ 4 ≤ f1 ∧ f1 ≤ 131 ∧ 1 ≤ f2 ∧ f2 ≤ 8192 := hmat
        have htb : tb f0 f1 f2 = [f1 + 124, f2 / 256, f2 % 256] := by unfold tb; rw [if_neg (by omega)]
        have hrec := ih (i + 1) (acc ++ tb f0 f1 f2) (by omega) (by rw [List.length_append]; have := tb_len hv; omega)
        rw [show vL ⟨f0, f1, f2⟩ = true from hv, Bool.true_and, ← List.append_assoc]
        refine Ev.step (fun k => ?_) hrec
        have hms : lz_match.f acc f1 f2 = some (acc ++ tb f0 f1 f2) := by
          have := match_some acc f1.toNat f2.toNat (by omega) (by omega) (by omega) (by omega)
          rw [Int.toNat_of_nonneg (by omega), Int.toNat_of_nonneg (by omega)] at this
          have e : matB f1.toNat f2.toNat = tb f0 f1 f2 := by
            rw [htb]; unfold Lzp.matB; rw [Int.toNat_of_nonneg (by omega), Int.toNat_of_nonneg (by omega)]
          rw [← e]; exact this
        rw [lz_Form.j1, if_neg (by simp), if_pos ((toList_nil_iff f0).2 hm.1), if_pos (by omega), if_pos (by omega), if_pos (by omega), if_pos (by omega), hms, Option.bind_some, wrap_id (x := (i : Int) + 1) (by omega) (by omega)]
        rfl
      · have hv : vt f0 f1 f2 = false := by
          unfold vt
          rw [decide_eq_false_iff_not]
          rintro (h | h)
          · exact hlit h
          · exact hmat h
        rw [hbad _ hv rfl]
        refine Ev.step (f := fun _ => some ((⟨#[]⟩ : ByteArray), (1 : Int))) (fun k => ?_) (Ev.now _)
        rw [lz_Form.j1, if_neg (by simp)]
        unfold isMat at hmat
        by_cases h1 : f0.toList = ([] : List UInt8)
        · have h1' := (toList_nil_iff f0).1 h1
          rw [if_pos h1]
          by_cases h2 : f1 ≥ 4
          · rw [if_pos h2]
            by_cases h3 : f1 ≤ 131
            · rw [if_pos h3]
              by_cases h4 : f2 ≥ 1
              · rw [if_pos h4, if_neg (by omega)]
              · rw [if_neg h4]
            · rw [if_neg h3]
          · rw [if_neg h2]
        · rw [if_neg h1]
theorem lzForm_ev (l : List S49) (hl : l.length ≤ 1073741824) : Ev (fun k => lz_Form.f k l) (formSaid (l.all vL) (l.flatMap tL)) := by
  have h := lzForm_l0 l hl l.length 0 [] (by omega) (by simp; omega)
  rw [List.drop_zero, List.nil_append] at h
  exact h
theorem same_ev (l : List S49) (hl : l.length ≤ 1073741824) : Ev (fun k => gantrylaw04_same.f k l l) true := by
  have key : ∀ (d i : Nat), i + d = l.length → Ev (fun k => gantrylaw04_same.l0 k l l (i : Int)) true := by
    intro d
    induction d with
    | zero => intro i hi; exact Ev.step (f := fun _ => some true) (fun k => by rw [gantrylaw04_same.l0, if_neg (by omega)]) (Ev.now _)
    | succ d ih =>
      intro i hi
      refine Ev.step (f := fun k => gantrylaw04_same.l0 k l l ((i + 1 : Nat) : Int)) (fun k => ?_) (ih (i + 1) (by omega))
      rw [gantrylaw04_same.l0, if_pos (by omega), if_pos (by omega), if_pos (by omega), if_neg (by simp), wrap_id (by omega) (by omega)]
      rfl
  unfold gantrylaw04_same.f
  simp only [if_true]
  exact key l.length 0 (by omega)
/-- The tokens of what is packed. -/
theorem tokens_pack (S : ByteArray) (hS : S.size ≤ 268435456) : Ev (fun k => lz_Tokens.f k (strOfNums (packB S))) (toks S, ((packB S).length : Int), 0) := by
  obtain ⟨h1, h2, h3, h4⟩ := toks_said S
  have hpl := pack_len S
  have hsz : (strOfNums (packB S)).size = (packB S).length := Go.strOfNums_size _
  have h := lzTokens_ev (strOfNums (packB S)) (by omega)
  rw [pack_bytes, hsz, ← h1, toks_flat (toks S) _ 0 [] h2 (flat_len _), List.nil_append, Int.zero_add, h1] at h
  exact h
theorem form_pack (S : ByteArray) (hS : S.size ≤ 268435456) : Ev (fun k => lz_Form.f k (toks S)) (strOfNums (packB S), 0) := by
  obtain ⟨h1, h2, h3, h4⟩ := toks_said S
  have h := lzForm_ev (toks S) (by omega)
  rw [h1, h2] at h
  exact h
end Go.Proofs.Ytgnoaokpahklaaa.Lzh
