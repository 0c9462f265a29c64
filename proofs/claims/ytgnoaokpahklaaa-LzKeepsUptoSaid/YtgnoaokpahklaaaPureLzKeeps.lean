/- LzKeeps: lists of tokens that were answered may be written over and grown; other answers stay. Condition: the texts together hold at most 1048576 letters. -/
import Derived.Test.YtgnoaokpahklaaaLzh
import Derived.Test.YtgnoaokpahklaaaQBf11
namespace Go.Proofs.Ytgnoaokpahklaaa.Pure
set_option linter.unusedVariables false
open Go Go.RowKit Go.Proofs.Ytgnoaokpahklaaa.QB Go.Proofs.YtgnoaokpahklaaaW.PrintWords Go.Proofs.YtgnoaokpahklaaaW.PrintLast Go.Proofs.YtgnoaokpahklaaaW.PrintMore Go.Proofs.Ytgnoaokpahklaaa.Lzw Go.Proofs.Ytgnoaokpahklaaa.Lzb Go.Proofs.Ytgnoaokpahklaaa.Lzf Go.Proofs.Ytgnoaokpahklaaa.Lzg Go.Proofs.Ytgnoaokpahklaaa.Lzh
open Go.Proofs.Ytgnoaokpahklaaa.Lzp (packB)
theorem keeps_ev (S T : ByteArray) (hS : S.size ≤ 1048576) (hT : T.size ≤ 1048576) : Ev (fun k => gantrylaw04_LzKeeps.f k S T) true := by
  obtain ⟨_, _, hlT, _⟩ := toks_said T
  obtain ⟨_, _, hlS, _⟩ := toks_said S
  have fin_ : Ev (fun k => (lz_Form.f k (toks S)).bind fun bt => ((gantrylaw04_same.f k (toks T) (toks T)).bind fun t => (if t = true then ((lz_Pack.f k S).bind fun t2 => (if bt.1.toList = t2.toList then (some (bt.2 == 0)) else (some false))) else (some false)))) true := by
    refine Ev.bind (form_pack S (by omega)) (Ev.bind (same_ev (toks T) (by omega)) ?_)
    simp only [if_true]
    refine Ev.bind (lzPack_ev S (by omega)) ?_
    simp only [if_true]
    exact Ev.now _
  have l1 : ∀ (d i : Nat) (g : List S49), i + d = 16 → g.length ≤ 1048576 + i → Ev (fun k => gantrylaw04_LzKeeps.l1 k S (toks S) (toks T) (toks T) g (i : Int)) true := by
    intro d
    induction d with
    | zero =>
      intro i g hi hg
      exact Ev.step (fun k => by rw [gantrylaw04_LzKeeps.l1, if_neg (show ¬ (i : Int) < 16 by omega)]) fin_
    | succ d ih =>
      intro i g hi hg
      refine Ev.step (fun k => ?_) (ih (i + 1) (g ++ [⟨⟨#[]⟩, -2, 0⟩]) (by omega) (by rw [List.length_append, List.length_singleton]; omega))
      rw [gantrylaw04_LzKeeps.l1, if_pos (by omega), if_pos (by omega), wrap_id (by omega) (by omega)]
      rfl
  have l0 : ∀ (d i : Nat) (g : List S49), i + d = g.length → g.length ≤ 1048576 → Ev (fun k => gantrylaw04_LzKeeps.l0 k S g (toks S) (toks T) (toks T) (i : Int)) true := by
    intro d
    induction d with
    | zero =>
      intro i g hi hg
      exact Ev.step (fun k => by rw [gantrylaw04_LzKeeps.l0, if_neg (show ¬ (i : Int) < (g.length : Int) by omega)]; rfl) (l1 16 0 g rfl (by omega))
    | succ d ih =>
      intro i g hi hg
      refine Ev.step (fun k => ?_) (ih (i + 1) (g.set i ⟨⟨#[]⟩, -1, 0⟩) (by rw [List.length_set]; omega) (by rw [List.length_set]; omega))
      rw [gantrylaw04_LzKeeps.l0, if_pos (by omega), if_pos (by omega), wrap_id (by omega) (by omega), Int.toNat_natCast]
      rfl
  refine Ev.bind fixed_ev ?_
  simp only [if_true]
  refine Ev.bind (lzPack_ev S (by omega)) (Ev.bind (tokens_pack S (by omega)) (Ev.bind (lzPack_ev S (by omega)) (Ev.bind (tokens_pack S (by omega)) ?_)))
  refine Ev.bind (lzPack_ev T (by omega)) (Ev.bind (tokens_pack T (by omega)) (Ev.bind (lzPack_ev T (by omega)) (Ev.bind (tokens_pack T (by omega)) ?_)))
  exact l0 (toks S).length 0 (toks S) (by omega) (by omega)
theorem coreLzKeeps (a0 : ByteArray) (w0 : a0.size ≤ maxLen) (a1 : ByteArray) (w1 : a1.size ≤ maxLen) {w : World} (W : World) (hW : w = W) (hb : (a0.size + 1) + (a1.size + 1) ≤ 1048576) :
    Calls Try.prog 11 #[.string a0, .string a1] W fun e w' => e = .returned (.bool true) ∧ Below W.heap.size W w' := by
  subst hW
  obtain ⟨k, h⟩ := Ev.rounds (keeps_ev a0 a1 (by omega) (by omega))
  exact gantrylaw04_LzKeeps.calls k a0 a1 true w h
end Go.Proofs.Ytgnoaokpahklaaa.Pure
