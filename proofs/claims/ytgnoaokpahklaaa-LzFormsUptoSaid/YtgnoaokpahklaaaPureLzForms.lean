/- LzForms: tokens that Form takes are told again by Tokens; what they stand for is unpacked from their form, as far as each finds what it copies. Condition: the list holds at most 1048576 letters and numbers. -/
import Derived.Test.YtgnoaokpahklaaaLzh
import Derived.Test.YtgnoaokpahklaaaQBf10
namespace Go.Proofs.Ytgnoaokpahklaaa.Pure
set_option linter.unusedVariables false
set_option linter.unusedSimpArgs false
open Go Go.RowKit Go.Proofs.Ytgnoaokpahklaaa.QB Go.Proofs.YtgnoaokpahklaaaW.PrintWords Go.Proofs.YtgnoaokpahklaaaW.PrintLast Go.Proofs.YtgnoaokpahklaaaW.PrintMore Go.Proofs.Ytgnoaokpahklaaa.Lzw Go.Proofs.Ytgnoaokpahklaaa.Lzb Go.Proofs.Ytgnoaokpahklaaa.Lzf Go.Proofs.Ytgnoaokpahklaaa.Lzg Go.Proofs.Ytgnoaokpahklaaa.Lzh Go.Proofs.Ytgnoaokpahklaaa.Lzt Go.Proofs.Ytgnoaokpahklaaa.Vm
open Go.Proofs.Ytgnoaokpahklaaa.Lzp (packB toList_nil_iff)
theorem forms_l1 (l : List S49) (F : ByteArray) (t : S49) (hv : vL t = true) (i : Nat) (hi : i < 1073741824) (R : Bool) : ∀ (m j : Nat) (xs : List Int), (j : Int) + m = t.f1 → t.f2 ≤ xs.length → xs.length + m < 140737488355328 →
    Ev (fun k => gantrylaw04_LzForms.l0 k l F (copyN m t.f2.toNat xs) ((i + 1 : Nat) : Int)) R → Ev (fun k => gantrylaw04_LzForms.l1 k l F xs (i : Int) (j : Int) t.f0 t.f1 t.f2) R := by
  unfold vL vt isLit isMat at hv
  rw [decide_eq_true_iff] at hv
  intro m
  induction m with
  | zero =>
    intro j xs hj hx hb h
    refine Ev.step (fun k => ?_) h
    rw [gantrylaw04_LzForms.l1, if_neg (by omega), wrap_id (by omega) (by omega)]; rfl
  | succ m ih =>
    intro j xs hj hx hb h
    refine Ev.step (fun k => ?_) (ih (j + 1) (xs ++ [xs.getD (xs.length - t.f2.toNat) 0]) (by omega) (by simp; omega) (by simp; omega) h)
    rw [gantrylaw04_LzForms.l1, if_pos (by omega), wrap_id (by omega) (by omega), if_pos (by omega), if_pos (by omega), if_pos (by omega), rd_last xs t.f2 (by omega) hx, wrap_id (by omega) (by omega)]
    rfl
theorem forms_ev (l : List S49) (hl : l.length ≤ 1048576) : Ev (fun k => gantrylaw04_LzForms.f k l) true := by
  refine Ev.bind fixed_ev ?_
  simp only [if_true, Option.bind_some, List.length_nil, Nat.zero_add, List.nil_append]
  have hlim : l.length < 4398046511104 := by omega
  simp only [hlim, if_true]
  have hfm := lzForm_ev l (by omega)
  refine Ev.bind hfm ?_
  by_cases hv : l.all vL = true
  · rw [hv]
    show Ev (fun k => if (0 : Int) = 0 then _ else _) true
    simp only [if_true]
    have hfl : ∀ ts : List S49, ts.all vL = true → (ts.flatMap tL).length ≤ 129 * ts.length := by
      intro ts
      induction ts with
      | nil => intro _; simp
      | cons t ts ih =>
        intro h
        rw [List.all_cons, Bool.and_eq_true] at h
        have h1 := tb_len h.1
        have h2 := ih h.2
        rw [List.flatMap_cons, List.length_append, List.length_cons]
        have : (tL t).length = (tb t.f0 t.f1 t.f2).length := rfl
        omega
    have hbl := hfl l hv
    have hsz : (strOfNums (l.flatMap tL)).size = (l.flatMap tL).length := Go.strOfNums_size _
    have hby : bytesOf (strOfNums (l.flatMap tL)) = l.flatMap tL := bytesOf_nums (flat_bytes l hv)
    have htk := lzTokens_ev (strOfNums (l.flatMap tL)) (by omega)
    rw [hby, hsz, toks_flat l _ 0 [] hv (flat_len l), List.nil_append, Int.zero_add] at htk
    refine Ev.bind htk (Ev.bind (same_ev l (by omega)) ?_)
    simp only [if_true]
    have e1 : (formSaid true (l.flatMap tL)).1 = strOfNums (l.flatMap tL) := rfl
    simp only [e1, hsz, if_true, bne_self_eq_false]
    refine Ev.step (f := fun k => gantrylaw04_LzForms.l0 k l (strOfNums (l.flatMap tL)) [] ((0 : Nat) : Int)) (fun k => by rw [gantrylaw04_LzForms.j0, if_neg (by simp)]; rfl) ?_
    have hun : ∀ len m : Int, -9223372036854775808 ≤ len → len ≤ 9223372036854775807 → Ev (fun k => lz_Unpack.f k (strOfNums (l.flatMap tL)) len m) (said (unpack (l.flatMap tL) len m)) := by
      intro len m a b
      have := lzUnpack_ev (strOfNums (l.flatMap tL)) len m a b (by omega)
      rwa [hby] at this
    have key : ∀ (d i : Nat) (out : List Int), i + d = l.length → expAll (l.take i) [] = some out → out.length ≤ 259 * i → Ev (fun k => gantrylaw04_LzForms.l0 k l (strOfNums (l.flatMap tL)) out (i : Int)) true := by
      intro d
      induction d with
      | zero =>
        intro i out hi ho hb
        rw [List.take_of_length_le (by omega)] at ho
        refine Ev.step (fun k => by rw [gantrylaw04_LzForms.l0, if_neg (show ¬ (i : Int) < (l.length : Int) by omega)]) ?_
        refine Ev.bind (hun (out.length : Int) (out.length : Int) (by omega) (by omega)) ?_
        have hu := unpack_some l out (out.length : Int) (out.length : Int) hv ho (by omega) (by omega)
        rw [if_neg (by omega), if_neg (by omega)] at hu
        rw [hu]
        have : (said (out, 0)).1 = strOfNums out := rfl
        simp only [this, if_true]
        exact Ev.now _
      | succ d ih =>
        intro i out hi ho hb
        have hd := rd_drop l z49 i (by omega)
        have hrd : rd_T49 l (i : Int) = l.getD i z49 := by unfold rd_T49; rw [Int.toNat_natCast]
        have hsplit : l = l.take i ++ (l.getD i z49 :: l.drop (i + 1)) := by rw [← hd, List.take_append_drop]
        have hvt : vL (l.getD i z49) = true := by
          have h := hv
          rw [hsplit, List.all_append, List.all_cons, Bool.and_eq_true, Bool.and_eq_true] at h
          exact h.2.1
        have hexp : expAll l [] = if (out.length : Int) < (l.getD i z49).f2 then none else expAll (l.drop (i + 1)) (exp (l.getD i z49) out) := by
          have : expAll (l.take i ++ (l.getD i z49 :: l.drop (i + 1))) [] = (some out).bind (expAll (l.getD i z49 :: l.drop (i + 1))) := by rw [expAll_append, ho]
          rwa [← hsplit] at this
        have htk : expAll (l.take (i + 1)) [] = if (out.length : Int) < (l.getD i z49).f2 then none else some (exp (l.getD i z49) out) := by
          have e : l.take (i + 1) = l.take i ++ [l.getD i z49] := by
            rw [List.take_succ_eq_append_getElem (by omega), List.getD_eq_getElem?_getD, List.getElem?_eq_getElem (by omega), Option.getD_some]
          rw [e, expAll_append, ho]; rfl
        generalize l.getD i z49 = t at *
        refine Ev.step (fun k => by rw [gantrylaw04_LzForms.l0, if_pos (show (i : Int) < (l.length : Int) by omega), if_pos (show 0 ≤ (i : Int) by omega), hrd]) ?_
        by_cases hf2 : (out.length : Int) < t.f2
        · have g : t.f2 > (out.length : Int) := hf2
          simp only [g, if_true]
          rw [if_pos hf2] at hexp
          refine Ev.bind (hun 1099511627776 1099511627776 (by omega) (by omega)) ?_
          rw [unpack_none l 1099511627776 1099511627776 hv hexp (by omega) (by omega)]
          have : (said (([] : List Int), 25)).1.toList = ([] : List UInt8) := by rw [toList_nil_iff]; rfl
          simp only [this, if_true]
          exact Ev.now _
        · have g : ¬ t.f2 > (out.length : Int) := hf2
          rw [if_neg hf2] at htk
          have hfacts : (t.f0.size : Int) + t.f1 ≤ 259 ∧ 0 ≤ t.f1 ∧ t.f0.size ≤ 128 := by
            have := hvt
            unfold vL vt isLit isMat at this
            rw [decide_eq_true_iff] at this
            omega
          have hlim2 : out.length + t.f0.size < 140737488355328 := by omega
          simp only [g, if_false, hlim2, if_true]
          have hel := exp_len hvt out
          have hrec := ih (i + 1) (exp t out) (by omega) htk (by omega)
          refine forms_l1 l (strOfNums (l.flatMap tL)) t hvt i (by omega) true t.f1.toNat 0 (out ++ bytesOf t.f0) (by omega) (by rw [List.length_append]; omega) (by rw [List.length_append, bytesOf_length]; omega) ?_
          exact hrec
    exact key l.length 0 [] (by omega) rfl (by simp)
  · have hv' : l.all vL = false := by simpa using hv
    rw [hv']
    have hne : ¬ (1 : Int) = 0 := by omega
    have e1 : formSaid false (l.flatMap tL) = ((⟨#[]⟩ : ByteArray), 1) := rfl
    rw [e1]
    have hemp : (⟨#[]⟩ : ByteArray).toList = ([] : List UInt8) := by rw [toList_nil_iff]; rfl
    simp only [hne, if_false, hemp, if_true]
    have : 0 < l.length := by
      rcases Nat.eq_zero_or_pos l.length with h | h
      · have : l = [] := List.eq_nil_of_length_eq_zero h
        subst this; simp at hv
      · exact h
    have h2 : (l.length : Int) > 0 := by omega
    simp only [h2, decide_true]
    exact Ev.now _
theorem sum_len {α : Type} (f : α → Nat) (h1 : ∀ x, 1 ≤ f x) : ∀ l : List α, l.length ≤ (l.map f).sum
  | [] => Nat.le_refl _
  | a :: l => by
    rw [List.map_cons, List.sum_cons, List.length_cons]
    have := sum_len f h1 l; have := h1 a; omega
theorem coreLzForms (A0 : Option Addr) (c0 : Nat) (l0 : List S49) (L0 : l0.length ≤ c0) {w : World} (C0 : k49.C w A0 l0.length l0)
    (ok0 : (∀ x ∈ l0, (x.f0.size ≤ maxLen ∧ ((Lit.int .i64 x.f1).wf = true ∧ (Lit.int .i64 x.f2).wf = true))) ∧ l0.length ≤ maxLen) (W : World) (hW : w = W) (hb : (l0.map (fun x => ((x.f0.size + 1) + (1 + 1)) + 1)).sum + 1 ≤ 1048576) :
    Calls Try.prog 10 #[.slice A0 l0.length c0] W fun e w' => e = .returned (.bool true) ∧ Below W.heap.size W w' := by
  subst hW
  have hl := sum_len (fun x : S49 => ((x.f0.size + 1) + (1 + 1)) + 1) (fun x => by omega) l0
  obtain ⟨k, h⟩ := Ev.rounds (forms_ev l0 (by omega))
  exact gantrylaw04_LzForms.calls k A0 c0 l0 true w C0 L0 h
end Go.Proofs.Ytgnoaokpahklaaa.Pure
