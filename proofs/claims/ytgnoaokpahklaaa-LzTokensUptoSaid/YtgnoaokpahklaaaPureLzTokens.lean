/- LzTokens: every Tokens of any bytes and every Form of any tokens are the document's, and what is handed in is left. Condition: bytes and tokens together hold at most 1048576 letters and numbers. -/
import Derived.Test.YtgnoaokpahklaaaLzK
import Derived.Test.YtgnoaokpahklaaaQBf8
import Derived.Test.YtgnoaokpahklaaaQBf23
namespace Go.Proofs.Ytgnoaokpahklaaa.Pure
set_option linter.unusedVariables false
set_option linter.unusedSimpArgs false
open Go Go.RowKit Go.Proofs.Ytgnoaokpahklaaa.QB Go.Proofs.YtgnoaokpahklaaaW.PrintWords Go.Proofs.YtgnoaokpahklaaaW.PrintLast Go.Proofs.YtgnoaokpahklaaaW.PrintMore Go.Proofs.Ytgnoaokpahklaaa.Lzw Go.Proofs.Ytgnoaokpahklaaa.Lzb Go.Proofs.Ytgnoaokpahklaaa.Lzf Go.Proofs.Ytgnoaokpahklaaa.Lzg Go.Proofs.Ytgnoaokpahklaaa.Lzh Go.Proofs.Ytgnoaokpahklaaa.Lzt Go.Proofs.Ytgnoaokpahklaaa.Vm Go.Proofs.Ytgnoaokpahklaaa.Lzv Go.Proofs.Ytgnoaokpahklaaa.Lzx
open Go.Proofs.Ytgnoaokpahklaaa.Lzp (packB toList_nil_iff)
def r48 (t : S49) : S48 := ⟨t.f0, t.f1, t.f2⟩
theorem refTokens_l0 (S : ByteArray) (hS : S.size ≤ 1073741824) : ∀ (n at_ : Nat) (acc : List S49), at_ ≤ S.size → S.size - at_ ≤ n → acc.length ≤ at_ →
    Ev (fun k => gantryref04_Tokens.l0 k S (acc.map r48) (at_ : Int)) (((toksL n ((bytesOf S).drop at_) (at_ : Int) acc).1.map r48), (toksL n ((bytesOf S).drop at_) (at_ : Int) acc).2.1, (toksL n ((bytesOf S).drop at_) (at_ : Int) acc).2.2) := by
  have hend : ∀ (acc : List S49) (at_ : Nat), at_ = S.size → Ev (fun k => gantryref04_Tokens.l0 k S (acc.map r48) (at_ : Int)) (acc.map r48, (at_ : Int), 0) := by
    intro acc at_ h
    refine Ev.step (f := fun _ => some (acc.map r48, (at_ : Int), (0 : Int))) (fun k => ?_) (Ev.now _)
    rw [gantryref04_Tokens.l0, if_neg (by omega)]
  intro n
  induction n with
  | zero => intro at_ acc h1 h2 h3; exact hend acc at_ (by omega)
  | succ n ih =>
    intro at_ acc h1 h2 h3
    unfold toksL
    by_cases h0 : at_ = S.size
    · rw [if_pos (List.drop_eq_nil_of_le (by rw [bytesOf_length]; omega))]; exact hend acc at_ h0
    · obtain ⟨e1, e2, e3⟩ := tok_facts S at_ (by omega) hS
      rw [if_neg e3]
      have htz := tokL_zero (bytesOf (S.extract at_ S.size)) (byte_range _)
      have hts := first_some (S.extract at_ S.size) (by omega) (by omega)
      rw [bytesOf_length, e2] at htz
      rw [e1] at htz hts
      have hdrop : ∀ m : Nat, ((bytesOf S).drop at_).drop m = (bytesOf S).drop (at_ + m) := fun m => by rw [List.drop_drop]
      generalize tokL ((bytesOf S).drop at_) = t at *
      obtain ⟨lits, tl, td, tn⟩ := t
      dsimp only at htz hts ⊢
      have hE : tokE (lits, tl, td, tn) = if tn = 0 then 20 else if 0 < tl ∧ (td < 1 ∨ 8192 < td) then 25 else 0 := rfl
      refine Ev.step (fun k => by rw [gantryref04_Tokens.l0, if_pos (show (at_ : Int) < (S.size : Int) by omega), if_pos (show 0 ≤ (at_ : Int) by omega), if_pos (show (at_ : Int) ≤ (S.size : Int) by omega), Int.toNat_natCast, hts, Option.bind_some]) ?_
      by_cases he : tokE (lits, tl, td, tn) = 0
      · have hn0 : tn ≠ 0 := by
          intro e; rw [hE, if_pos e] at he; omega
        have htn : 2 ≤ tn ∧ tn ≤ ((S.size - at_ : Nat) : Int) := by rcases htz with h | h; exact absurd h.1 hn0; exact ⟨h.1, h.2.1⟩
        have hrec := ih (at_ + tn.toNat) (acc ++ [⟨strOfNums lits, tl, td⟩]) (by omega) (by omega) (by rw [List.length_append, List.length_singleton]; omega)
        rw [← hdrop] at hrec
        have hw : wrap64 ((at_ : Int) + tn) = ((at_ + tn.toNat : Nat) : Int) := by rw [wrap_id (by omega) (by omega)]; omega
        have hw' : (at_ : Int) + tn = ((at_ + tn.toNat : Nat) : Int) := by omega
        have hlim : (acc.map r48).length < 4398046511104 := by rw [List.length_map]; omega
        rw [if_neg (fun h : tokE (lits, tl, td, tn) ≠ 0 => h he)]
        rw [if_pos he, hw']
        rw [List.map_append] at hrec
        refine Ev.congr (fun k => ?_) hrec
        rw [hw'] at hw
        simp only [if_true, hlim, hw]
        rfl
      · rw [if_pos he]
        simp only [he, if_false]
        exact Ev.now _
theorem refTokens_ev (S : ByteArray) (hS : S.size ≤ 1073741824) : Ev (fun k => gantryref04_Tokens.f k S) ((toksL S.size (bytesOf S) 0 []).1.map r48, (toksL S.size (bytesOf S) 0 []).2.1, (toksL S.size (bytesOf S) 0 []).2.2) :=
  refTokens_l0 S hS S.size 0 [] (Nat.zero_le _) (by omega) (by simp)
theorem refs_ev (l : List S49) (hl : l.length ≤ 1073741824) : Ev (fun k => gantrylaw04_refs.f k l) (l.map r48) := by
  have key : ∀ (d i : Nat), i + d = l.length → Ev (fun k => gantrylaw04_refs.l0 k l ((l.take i).map r48) (i : Int)) (l.map r48) := by
    intro d
    induction d with
    | zero =>
      intro i hi
      rw [List.take_of_length_le (by omega)]
      exact Ev.step (f := fun _ => some (l.map r48)) (fun k => by rw [gantrylaw04_refs.l0, if_neg (by omega)]) (Ev.now _)
    | succ d ih =>
      intro i hi
      have hrd : rd_T49 l (i : Int) = l.getD i z49 := by unfold rd_T49; rw [Int.toNat_natCast]
      have e : l.take (i + 1) = l.take i ++ [l.getD i z49] := by
        rw [List.take_succ_eq_append_getElem (by omega), List.getD_eq_getElem?_getD, List.getElem?_eq_getElem (by omega), Option.getD_some]
      have hrec := ih (i + 1) (by omega)
      rw [e, List.map_append] at hrec
      refine Ev.step (fun k => ?_) hrec
      rw [gantrylaw04_refs.l0, if_pos (by omega), if_pos (by omega), if_pos (by rw [List.length_map, List.length_take]; omega), hrd, wrap_id (by omega) (by omega)]
      rfl
  exact key l.length 0 (by omega)
theorem toksL_len (S : ByteArray) : ∀ (n : Nat) (l : List Int) (at_ : Int) (acc : List S49), (toksL n l at_ acc).1.length ≤ acc.length + n
  | 0, l, at_, acc => Nat.le_add_right _ _
  | n + 1, l, at_, acc => by
    unfold toksL
    split
    · exact Nat.le_add_right _ _
    · split
      · simp
      · have := toksL_len S n (l.drop (tokL l).2.2.2.toNat) (at_ + (tokL l).2.2.2) (acc ++ [⟨strOfNums (tokL l).1, (tokL l).2.1, (tokL l).2.2.1⟩])
        rw [List.length_append, List.length_singleton] at this
        omega
theorem vr_map (l : List S49) : (l.map r48).all vR = l.all vL := by rw [List.all_map]; rfl
theorem tr_map (l : List S49) : (l.map r48).flatMap tR = l.flatMap tL := by rw [List.flatMap_map]; rfl
theorem tokens_ev (S : ByteArray) (l : List S49) (hS : S.size ≤ 1048576) (hl : l.length ≤ 1048576) : Ev (fun k => gantrylaw04_LzTokens.f k S l) true := by
  refine Ev.bind fixed_ev ?_
  simp only [if_true]
  refine Ev.bind (lzTokens_ev S (by omega)) (Ev.bind (refTokens_ev S (by omega)) ?_)
  have hlen := toksL_len S S.size (bytesOf S) 0 []
  generalize toksL S.size (bytesOf S) 0 [] = R at *
  obtain ⟨L, n, e⟩ := R
  simp only [List.length_nil] at hlen
  refine Ev.bind (refs_ev L (by omega)) ?_
  simp only [if_true, bne_self_eq_false]
  refine Ev.step (f := fun k => gantrylaw04_LzTokens.l0 k l (L.map r48) (L.map r48) ((0 : Nat) : Int)) (fun k => by rw [gantrylaw04_LzTokens.j0, if_neg (by simp)]; rfl) ?_
  have hLm : (L.map r48).length = L.length := List.length_map _
  have key : ∀ (d i : Nat), i + d = L.length → Ev (fun k => gantrylaw04_LzTokens.l0 k l (L.map r48) (L.map r48) (i : Int)) true := by
    intro d
    induction d with
    | zero =>
      intro i hi
      refine Ev.step (fun k => by rw [gantrylaw04_LzTokens.l0, if_neg (show ¬ (i : Int) < ((L.map r48).length : Int) by omega)]) ?_
      have k1 : l.length < 4398046511104 := by omega
      have k2 : (l ++ [(⟨⟨#[]⟩, -9, 0⟩ : S49)]).length = l.length + 1 := by simp
      have k3 : (l ++ [(⟨⟨#[]⟩, -9, 0⟩ : S49)]).take l.length = l := List.take_left' rfl
      have k4 : rd_T49 (l ++ [(⟨⟨#[]⟩, -9, 0⟩ : S49)]) (l.length : Int) = ⟨⟨#[]⟩, -9, 0⟩ := by
        unfold rd_T49
        rw [Int.toNat_natCast, List.getD_eq_getElem?_getD, List.getElem?_append_right (by omega), Nat.sub_self]; rfl
      have k5 : 0 ≤ (l.length : Int) := by omega
      have k6 : (l.length : Int) ≤ ((l.length + 1 : Nat) : Int) := by omega
      have k7 : (l.length : Int) < ((l.length + 1 : Nat) : Int) := by omega
      simp only [Option.bind_some, List.length_nil, Nat.zero_add, List.nil_append, k1, if_true, k2, k5, k6, k7, Int.toNat_natCast, k3, k4]
      refine Ev.bind (lzForm_ev l (by omega)) (Ev.bind (refs_ev l (by omega)) ?_)
      have hrf := refForm_ev (l.map r48) (by rw [List.length_map]; omega)
      rw [vr_map, tr_map] at hrf
      refine Ev.bind hrf ?_
      simp only [if_true]
      refine Ev.bind (same_ev l (by omega)) ?_
      simp only [if_true, beq_self_eq_true]
      exact Ev.now _
    | succ d ih =>
      intro i hi
      refine Ev.step (fun k => ?_) (ih (i + 1) (by omega))
      rw [gantrylaw04_LzTokens.l0, if_pos (by omega), if_pos (by omega), if_pos (by omega), if_neg (by simp), wrap_id (by omega) (by omega)]
      rfl
  exact key L.length 0 (by omega)
theorem sum_len {α : Type} (f : α → Nat) (h1 : ∀ x, 1 ≤ f x) : ∀ l : List α, l.length ≤ (l.map f).sum
  | [] => Nat.le_refl _
  | a :: l => by
    rw [List.map_cons, List.sum_cons, List.length_cons]
    have := sum_len f h1 l; have := h1 a; omega
theorem coreLzTokens (a0 : ByteArray) (w0 : a0.size ≤ maxLen) (A1 : Option Addr) (c1 : Nat) (l1 : List S49) (L1 : l1.length ≤ c1) {w : World} (C1 : k49.C w A1 l1.length l1)
    (ok1 : (∀ x ∈ l1, (x.f0.size ≤ maxLen ∧ ((Lit.int .i64 x.f1).wf = true ∧ (Lit.int .i64 x.f2).wf = true))) ∧ l1.length ≤ maxLen) (W : World) (hW : w = W) (hb : (a0.size + 1) + ((l1.map (fun x => ((x.f0.size + 1) + (1 + 1)) + 1)).sum + 1) ≤ 1048576) :
    Calls Try.prog 8 #[.string a0, .slice A1 l1.length c1] W fun e w' => e = .returned (.bool true) ∧ Below W.heap.size W w' := by
  subst hW
  have hl := sum_len (fun x : S49 => ((x.f0.size + 1) + (1 + 1)) + 1) (fun x => by omega) l1
  obtain ⟨k, h⟩ := Ev.rounds (tokens_ev a0 l1 (by omega) (by omega))
  exact gantrylaw04_LzTokens.calls k a0 A1 c1 l1 true w C1 L1 h
end Go.Proofs.Ytgnoaokpahklaaa.Pure
