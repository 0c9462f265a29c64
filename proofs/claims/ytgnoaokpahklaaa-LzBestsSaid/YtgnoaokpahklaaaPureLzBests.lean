/- LzBests: at any places of any text the program's best match is the document's, and its bound of any number is the document's bound. No condition but what a row asks. -/
import Derived.Test.YtgnoaokpahklaaaLzb
import Derived.Test.YtgnoaokpahklaaaQBx9
namespace Go.Proofs.Ytgnoaokpahklaaa.Pure
open Go Go.RowKit Go.Proofs.Ytgnoaokpahklaaa.QB Go.Proofs.YtgnoaokpahklaaaW.PrintWords Go.Proofs.YtgnoaokpahklaaaW.PrintLast Go.Proofs.YtgnoaokpahklaaaW.PrintMore Go.Proofs.Ytgnoaokpahklaaa.Lzw Go.Proofs.Ytgnoaokpahklaaa.Lzb

theorem bound_eq (a : Int) (h0 : -9223372036854775808 ≤ a) (h1 : a ≤ 9223372036854775807) : gantryref04_Bound.f a = lz_Bound.f a := by
  unfold gantryref04_Bound.f lz_Bound.f mn mx
  by_cases ha : a < 0
  · rw [if_pos ha, if_pos ha, if_neg (by omega)]; rfl
  · rw [if_neg ha, if_neg ha]
    by_cases hb : a > 1073741824
    · rw [if_pos hb, if_pos (by omega)]
      congr 1
    · rw [if_neg hb, if_neg (by omega), wrap_id (x := a + 127) (by omega) (by omega), Int.tdiv_eq_ediv_of_nonneg (by omega), wrap_id (x := (a + 127) / 128) (by omega) (by omega), wrap_id (by omega) (by omega)]
      congr 1; omega
theorem LzBests : gantrylaw04_LzBests.Pure := by
  intro a0 l1 hs _ hl hx
  have key : ∀ (d i : Nat), i + d = l1.length → Ev (fun k => gantrylaw04_LzBests.l0 k a0 l1 (i : Int)) true := by
    intro d
    induction d with
    | zero =>
      intro i hi
      refine Ev.step (f := fun _ => some true) (fun k => ?_) (Ev.now _)
      rw [gantrylaw04_LzBests.l0, if_neg (by omega)]
    | succ d ih =>
      intro i hi
      have hmem : rd l1 (i : Int) ∈ l1 := by
        unfold rd
        rw [Int.toNat_natCast, List.getD_eq_getElem?_getD, List.getElem?_eq_getElem (show i < l1.length by omega)]
        exact List.getElem_mem _
      have hb := bounds_i64 (hx _ hmem)
      have h1 := lzBest_ev a0 (by omega) (rd l1 (i : Int))
      have h2 := refBest_ev a0 (by omega) (rd l1 (i : Int))
      have h3 := bound_eq (rd l1 (i : Int)) hb.1 hb.2
      refine Ev.step (fun k => by rw [gantrylaw04_LzBests.l0, if_pos (show (i : Int) < (l1.length : Int) by omega), if_pos (show 0 ≤ (i : Int) by omega)]) ?_
      refine Ev.bind h1 (Ev.bind h2 ?_)
      simp only [if_true, h3]
      refine Ev.bind (Ev.congr (fun _ => rfl) (Ev.now _)) (Ev.bind (Ev.congr (fun _ => rfl) (Ev.now _)) ?_)
      simp only [if_true]
      rw [wrap_id (show -9223372036854775808 ≤ (i : Int) + 1 by omega) (by omega)]
      exact ih (i + 1) (by omega)
  obtain ⟨k, h⟩ := Ev.rounds (Ev.bind fixed_ev (f := fun k t => if t = true then gantrylaw04_LzBests.l0 k a0 l1 0 else some false) (key l1.length 0 (by omega)))
  exact ⟨k, h⟩
end Go.Proofs.Ytgnoaokpahklaaa.Pure
