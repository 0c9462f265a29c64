/- LzBacks: what is packed is unpacked, is no longer than the bound, and a length or cap that isn't right is refused. Condition: the text holds at most 1048576 letters. -/
import Derived.Test.YtgnoaokpahklaaaLzg
import Derived.Test.YtgnoaokpahklaaaQBx11
namespace Go.Proofs.Ytgnoaokpahklaaa.Pure
set_option linter.unusedVariables false
open Go Go.RowKit Go.Proofs.Ytgnoaokpahklaaa.QB Go.Proofs.YtgnoaokpahklaaaW.PrintWords Go.Proofs.YtgnoaokpahklaaaW.PrintLast Go.Proofs.YtgnoaokpahklaaaW.PrintMore Go.Proofs.Ytgnoaokpahklaaa.Lzw Go.Proofs.Ytgnoaokpahklaaa.Lzb Go.Proofs.Ytgnoaokpahklaaa.Lzf Go.Proofs.Ytgnoaokpahklaaa.Lzg Go.Proofs.Ytgnoaokpahklaaa.Lzt
open Go.Proofs.Ytgnoaokpahklaaa.Lzp (packB toList_nil_iff)
set_option linter.unusedSimpArgs false
theorem backs_ev (S : ByteArray) (most other : Int) (hS : S.size ≤ 1048576) (h1 : -9223372036854775808 ≤ other) (h2 : other ≤ 9223372036854775807) : Ev (fun k => gantrylaw04_LzBacks.f k S most other) true := by
  have hpl := pack_len S
  have hps : (strOfNums (packB S)).size = (packB S).length := Go.strOfNums_size _
  have hun : ∀ len m : Int, -9223372036854775808 ≤ len → len ≤ 9223372036854775807 → Ev (fun k => lz_Unpack.f k (strOfNums (packB S)) len m) (said (unpack (packB S) len m)) := by
    intro len m a b
    have := lzUnpack_ev (strOfNums (packB S)) len m a b (by omega)
    rwa [pack_bytes] at this
  have mxl : ∀ a b : Int, a ≤ mx a b ∧ b ≤ mx a b := by intro a b; unfold mx; split <;> omega
  have emp : (said (([] : List Int), 22)).1.toList = ([] : List UInt8) := by rw [toList_nil_iff]; rfl
  have j1 : Ev (fun k => gantrylaw04_LzBacks.j1 k S other (strOfNums (packB S)) false) true := by
    refine Ev.step (fun k => by rw [gantrylaw04_LzBacks.j1, if_neg (by simp)]) ?_
    by_cases he : other = (S.size : Int)
    · simp only [he, if_true]; exact Ev.now _
    · simp only [he, if_false]
      refine Ev.bind (hun other _ h1 h2) ?_
      by_cases h0 : other < 0
      · have e : unpack (packB S) other (mx other (S.size : Int)) = ([], 66) := by unfold unpack; rw [if_pos (.inl h0)]
        rw [e]
        simp only [h0, if_true]
        have : (said (([] : List Int), 66)).1.toList = ([] : List UInt8) := emp
        simp only [this, if_true]; exact Ev.now _
      · have e := unpack_pack S other (mx other (S.size : Int)) (by omega) (mxl _ _).1
        rw [e]
        simp only [h0, if_false]
        by_cases h3 : other < (S.size : Int)
        · simp only [h3, if_true]
          have : (said (([] : List Int), 22)).1.toList = ([] : List UInt8) := emp
          simp only [this, if_true]; exact Ev.now _
        · have h4 : (S.size : Int) < other := by omega
          simp only [h3, if_false, h4, if_true]
          have : (said (([] : List Int), 20)).1.toList = ([] : List UInt8) := emp
          simp only [this, if_true]; exact Ev.now _
  have j0 : Ev (fun k => gantrylaw04_LzBacks.j0 k S most other (strOfNums (packB S)) false) true := by
    refine Ev.step (fun k => by rw [gantrylaw04_LzBacks.j0, if_neg (by simp)]) ?_
    refine Ev.bind (hun (S.size : Int) _ (by omega) (by omega)) ?_
    rw [unpack_pack S (S.size : Int) _ (by omega) (mxl _ _).2, if_neg (by omega), if_neg (by omega)]
    have : said (bytesOf S, 0) = (S, 0) := by unfold said; rw [nums_bytes]
    rw [this]
    simp only [if_true, bne_self_eq_false]
    exact j1
  refine Ev.bind fixed_ev ?_
  simp only [if_true]
  refine Ev.bind (lzPack_ev S (by omega)) ?_
  have hb : lz_Bound.f (S.size : Int) = some ((S.size : Int) + ((S.size : Int) + 127) / 128) := by
    unfold lz_Bound.f mn mx
    congr 1
    rw [if_neg (show ¬ ((S.size : Int) < 0) by omega), if_neg (by omega)]
    omega
  have c1 : (S.size : Int) ≤ 1073741824 := by omega
  simp only [c1, if_true, hb]
  refine Ev.congr (fun k => by rw [Option.bind_some]) ?_
  have c2 : ¬ ((strOfNums (packB S)).size : Int) > (S.size : Int) + ((S.size : Int) + 127) / 128 := by omega
  simp only [c2, if_false]
  by_cases h0 : (S.size : Int) > 0
  · simp only [h0, if_true]
    have : ((strOfNums (packB S)).toList == ([] : List UInt8)) = false := by
      rw [beq_eq_false_iff_ne]
      intro e
      rw [toList_nil_iff, hps] at e
      exact pack_ne S (by omega) (List.eq_nil_of_length_eq_zero e)
    rw [this]; exact j0
  · simp only [h0, if_false]; exact j0
theorem coreLzBacks (a0 : ByteArray) (w0 : a0.size ≤ maxLen) (a1 : Int) (w1 : (Lit.int .i64 a1).wf = true) (a2 : Int) (w2 : (Lit.int .i64 a2).wf = true) {w : World} (W : World) (hW : w = W) (hb : (a0.size + 1) + 1 + 1 ≤ 1048576) :
    Calls Try.prog 6 #[.string a0, .int .i64 a1, .int .i64 a2] W fun e w' => e = .returned (.bool true) ∧ Below W.heap.size W w' := by
  subst hW
  have h2 := bounds_i64 w2
  obtain ⟨k, h⟩ := Ev.rounds (backs_ev a0 a1 a2 (by omega) h2.1 h2.2)
  exact gantrylaw04_LzBacks.calls k a0 a1 a2 true w h
end Go.Proofs.Ytgnoaokpahklaaa.Pure
