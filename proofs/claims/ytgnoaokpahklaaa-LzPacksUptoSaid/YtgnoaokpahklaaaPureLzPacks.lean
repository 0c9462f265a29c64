/- LzPacks: every Pack of every text is the document's. Condition: the texts together hold at most 1048576 letters. -/
import Derived.Test.YtgnoaokpahklaaaLzf
import Derived.Test.YtgnoaokpahklaaaQBx8
namespace Go.Proofs.Ytgnoaokpahklaaa.Pure
set_option linter.unusedVariables false
open Go Go.RowKit Go.Proofs.Ytgnoaokpahklaaa.QB Go.Proofs.YtgnoaokpahklaaaW.PrintWords Go.Proofs.YtgnoaokpahklaaaW.PrintLast Go.Proofs.YtgnoaokpahklaaaW.PrintMore Go.Proofs.Ytgnoaokpahklaaa.Lzw Go.Proofs.Ytgnoaokpahklaaa.Lzb Go.Proofs.Ytgnoaokpahklaaa.Lzf
theorem packs_ev (l : List ByteArray) (h : ∀ x ∈ l, x.size ≤ 1048576) (hl : l.length ≤ 1048576) : Ev (fun k => gantrylaw04_LzPacks.f k l) true := by
  have key : ∀ (d i : Nat), i + d = l.length → Ev (fun k => gantrylaw04_LzPacks.l0 k l (i : Int)) true := by
    intro d
    induction d with
    | zero =>
      intro i hi
      exact Ev.step (f := fun _ => some true) (fun k => by rw [gantrylaw04_LzPacks.l0, if_neg (by omega)]) (Ev.now _)
    | succ d ih =>
      intro i hi
      have hmem : rdOf ByteArray.empty l (i : Int) ∈ l := by
        unfold rdOf
        rw [Int.toNat_natCast, List.getD_eq_getElem?_getD, List.getElem?_eq_getElem (show i < l.length by omega)]
        exact List.getElem_mem _
      have hb := h _ hmem
      refine Ev.step (fun k => by rw [gantrylaw04_LzPacks.l0, if_pos (show (i : Int) < (l.length : Int) by omega), if_pos (show 0 ≤ (i : Int) by omega)]) ?_
      refine Ev.bind (lzPack_ev _ (by omega)) (Ev.bind (refPack_ev _ (by omega)) ?_)
      simp only [if_true]
      rw [wrap_id (show -9223372036854775808 ≤ (i : Int) + 1 by omega) (by omega)]
      exact ih (i + 1) (by omega)
  refine Ev.bind fixed_ev ?_
  simp only [if_true]
  exact key l.length 0 (by omega)
theorem sum_mem {α : Type} (f : α → Nat) : ∀ (l : List α) (x : α), x ∈ l → f x ≤ (l.map f).sum
  | a :: l, x, h => by
    rw [List.map_cons, List.sum_cons]
    rcases List.mem_cons.1 h with rfl | h
    · omega
    · have := sum_mem f l x h; omega
theorem sum_len {α : Type} (f : α → Nat) (h1 : ∀ x, 1 ≤ f x) : ∀ l : List α, l.length ≤ (l.map f).sum
  | [] => Nat.le_refl _
  | a :: l => by
    rw [List.map_cons, List.sum_cons, List.length_cons]
    have := sum_len f h1 l; have := h1 a; omega
theorem coreLzPacks (A0 : Option Addr) (c0 : Nat) (l0 : List ByteArray) (L0 : l0.length ≤ c0) {w : World} (C0 : Kd.string.C w A0 l0.length l0)
    (ok0 : (∀ x ∈ l0, x.size ≤ maxLen) ∧ l0.length ≤ maxLen) (W : World) (hW : w = W) (hb : (l0.map (fun s => s.size + 1)).sum + 1 ≤ 1048576) :
    Calls Try.prog 3 #[.slice A0 l0.length c0] W fun e w' => e = .returned (.bool true) ∧ Below W.heap.size W w' := by
  subst hW
  have hl := sum_len (fun s : ByteArray => s.size + 1) (fun x => by omega) l0
  obtain ⟨k, h⟩ := Ev.rounds (packs_ev l0 (fun x hx => by have := sum_mem (fun s : ByteArray => s.size + 1) l0 x hx; omega) (by omega))
  exact gantrylaw04_LzPacks.calls k A0 c0 l0 true w C0 L0 h
end Go.Proofs.Ytgnoaokpahklaaa.Pure
