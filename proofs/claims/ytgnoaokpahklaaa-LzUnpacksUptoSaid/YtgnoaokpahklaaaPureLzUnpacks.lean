/- LzUnpacks: every Unpack of any bytes, to any length, under any cap, is the document's. Condition: all that is asked holds at most 1048576 letters and numbers. -/
import Derived.Test.YtgnoaokpahklaaaLzb
import Derived.Test.YtgnoaokpahklaaaQBx10
namespace Go.Proofs.Ytgnoaokpahklaaa.Pure
open Go Go.RowKit Go.Proofs.Ytgnoaokpahklaaa.QB Go.Proofs.YtgnoaokpahklaaaW.PrintWords Go.Proofs.YtgnoaokpahklaaaW.PrintLast Go.Proofs.YtgnoaokpahklaaaW.PrintMore Go.Proofs.Ytgnoaokpahklaaa.Lzw Go.Proofs.Ytgnoaokpahklaaa.Lzb Go.Proofs.Ytgnoaokpahklaaa.Lzt
theorem unpacks_ev (l : List S33) (h : ∀ x ∈ l, x.f0.size ≤ 1048576 ∧ (-9223372036854775808 ≤ x.f1 ∧ x.f1 ≤ 9223372036854775807)) (hl : l.length ≤ 1048576) : Ev (fun k => gantrylaw04_LzUnpacks.f k l) true := by
  have key : ∀ (d i : Nat), i + d = l.length → Ev (fun k => gantrylaw04_LzUnpacks.l0 k l (i : Int)) true := by
    intro d
    induction d with
    | zero =>
      intro i hi
      exact Ev.step (f := fun _ => some true) (fun k => by rw [gantrylaw04_LzUnpacks.l0, if_neg (by omega)]) (Ev.now _)
    | succ d ih =>
      intro i hi
      have hmem : rd_T33 l (i : Int) ∈ l := by
        unfold rd_T33
        rw [Int.toNat_natCast, List.getD_eq_getElem?_getD, List.getElem?_eq_getElem (show i < l.length by omega)]
        exact List.getElem_mem _
      have hb := h _ hmem
      have h1 := lzUnpack_ev (rd_T33 l (i : Int)).f0 (rd_T33 l (i : Int)).f1 (rd_T33 l (i : Int)).f2 hb.2.1 hb.2.2 (by omega)
      have h2 := refUnpack_ev (rd_T33 l (i : Int)).f0 (rd_T33 l (i : Int)).f1 (rd_T33 l (i : Int)).f2 hb.2.1 hb.2.2 (by omega)
      refine Ev.step (fun k => by rw [gantrylaw04_LzUnpacks.l0, if_pos (show (i : Int) < (l.length : Int) by omega), if_pos (show 0 ≤ (i : Int) by omega)]) ?_
      refine Ev.bind h1 (Ev.bind h2 ?_)
      simp only [if_true]
      rw [wrap_id (show -9223372036854775808 ≤ (i : Int) + 1 by omega) (by omega)]
      exact ih (i + 1) (by omega)
  refine Ev.bind fixed_ev ?_
  simp only [if_true]
  exact key l.length 0 (by omega)
theorem sum_mem {α : Type} (f : α → Nat) : ∀ (l : List α) (x : α), x ∈ l → f x ≤ (l.map f).sum
  | a :: l, x, h => by
    rw [List.map_cons, List.sum_cons]
    rcases List.mem_cons.1 h with rfl | h
    · omega
    · have := sum_mem f l x h; omega
theorem sum_len {α : Type} (f : α → Nat) (h1 : ∀ x, 1 ≤ f x) : ∀ l : List α, l.length ≤ (l.map f).sum
  | [] => Nat.le_refl _
  | a :: l => by
    rw [List.map_cons, List.sum_cons, List.length_cons]
    have := sum_len f h1 l; have := h1 a; omega
theorem coreLzUnpacks (A0 : Option Addr) (c0 : Nat) (l0 : List S33) (L0 : l0.length ≤ c0) {w : World} (C0 : k33.C w A0 l0.length l0)
    (ok0 : (∀ x ∈ l0, (x.f0.size ≤ maxLen ∧ ((Lit.int .i64 x.f1).wf = true ∧ (Lit.int .i64 x.f2).wf = true))) ∧ l0.length ≤ maxLen) (W : World) (hW : w = W) (hb : (l0.map (fun x => ((x.f0.size + 1) + (1 + 1)) + 1)).sum + 1 ≤ 1048576) :
    Calls Try.prog 5 #[.slice A0 l0.length c0] W fun e w' => e = .returned (.bool true) ∧ Below W.heap.size W w' := by
  subst hW
  have hl := sum_len (fun x : S33 => ((x.f0.size + 1) + (1 + 1)) + 1) (fun x => by omega) l0
  obtain ⟨k, h⟩ := Ev.rounds (unpacks_ev l0 (fun x hx => ⟨by have := sum_mem (fun x : S33 => ((x.f0.size + 1) + (1 + 1)) + 1) l0 x hx; omega, bounds_i64 (ok0.1 x hx).2.1⟩) (by omega))
  exact (gantrylaw04_LzUnpacks.calls k A0 c0 l0 true w C0 L0 h)
end Go.Proofs.Ytgnoaokpahklaaa.Pure
