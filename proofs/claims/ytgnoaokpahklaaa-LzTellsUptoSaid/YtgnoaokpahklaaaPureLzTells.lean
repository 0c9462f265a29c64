/- LzTells: the tokens of Pack tell the text: literals stand where there is no best match, in runs that are full but for the last; each match is the best at its place; and their form is what was packed. Condition: the text holds at most 1048576 letters. -/
import Derived.Test.YtgnoaokpahklaaaLzh
import Derived.Lib.Hide
import Derived.Test.YtgnoaokpahklaaaQBf9
namespace Go.Proofs.Ytgnoaokpahklaaa.Pure
set_option linter.unusedVariables false
set_option linter.unusedSimpArgs false
open Go Go.RowKit Go.Proofs.Ytgnoaokpahklaaa.QB Go.Proofs.YtgnoaokpahklaaaW.PrintWords Go.Proofs.YtgnoaokpahklaaaW.PrintLast Go.Proofs.YtgnoaokpahklaaaW.PrintMore Go.Proofs.Ytgnoaokpahklaaa.Lzw Go.Proofs.Ytgnoaokpahklaaa.Lzb Go.Proofs.Ytgnoaokpahklaaa.Lzf Go.Proofs.Ytgnoaokpahklaaa.Lzg Go.Proofs.Ytgnoaokpahklaaa.Lzh Go.Proofs.Ytgnoaokpahklaaa.Lzt Go.Proofs.Ytgnoaokpahklaaa.Vm Go.Proofs.Ytgnoaokpahklaaa.Lzm
open Go.Proofs.Ytgnoaokpahklaaa.Lzp (packB toList_nil_iff)
/-- The tokens tell the text from a place on. -/
def Tells (S : ByteArray) : List S49 → Nat → Prop
  | [], at_ => at_ = S.size
  | t :: ts, at_ => (0 < t.f1 ∧ (((bestAt (gb S) S.size at_).1 : Int), ((bestAt (gb S) S.size at_).2 : Int)) = (t.f1, t.f2) ∧ t.f0.size = 0 ∧ at_ < S.size ∧ at_ + t.f1.toNat ≤ S.size ∧ Tells S ts (at_ + t.f1.toNat)) ∨
    (t.f1 = 0 ∧ at_ + t.f0.size ≤ S.size ∧ S.extract at_ (at_ + t.f0.size) = t.f0 ∧ (128 ≤ t.f0.size ∨ ts = [] ∨ ∃ u us, ts = u :: us ∧ u.f1 ≠ 0) ∧ (∀ k, k < t.f0.size → bestAt (gb S) S.size (at_ + k) = (0, 0)) ∧ Tells S ts (at_ + t.f0.size))
theorem tells_cons (S : ByteArray) (t : S49) (ts : List S49) (at_ : Nat) (h : Tells S (t :: ts) at_) :
    (0 < t.f1 ∧ (((bestAt (gb S) S.size at_).1 : Int), ((bestAt (gb S) S.size at_).2 : Int)) = (t.f1, t.f2) ∧ t.f0.size = 0 ∧ at_ < S.size ∧ at_ + t.f1.toNat ≤ S.size ∧ Tells S ts (at_ + t.f1.toNat)) ∨
    (t.f1 = 0 ∧ at_ + t.f0.size ≤ S.size ∧ S.extract at_ (at_ + t.f0.size) = t.f0 ∧ (128 ≤ t.f0.size ∨ ts = [] ∨ ∃ u us, ts = u :: us ∧ u.f1 ≠ 0) ∧ (∀ k, k < t.f0.size → bestAt (gb S) S.size (at_ + k) = (0, 0)) ∧ Tells S ts (at_ + t.f0.size)) := h
theorem ext_ext (S : ByteArray) (a b c d : Nat) (h : a + d ≤ b) (hb : b ≤ S.size) : (S.extract a b).extract c d = S.extract (a + c) (a + d) := by
  apply bytesOf_inj
  rw [bytesOf_extract, bytesOf_extract, bytesOf_extract, List.drop_take, List.take_take, List.drop_drop]
  congr 1
  omega
theorem runs_tells (S : ByteArray) (rest : List S49) (b : Nat) (hb : b ≤ S.size) (hr : Tells S rest b) (hh : rest = [] ∨ ∃ u us, rest = u :: us ∧ u.f1 ≠ 0) : ∀ (n a : Nat), a ≤ b → b - a ≤ n → (∀ k, a ≤ k → k < b → bestAt (gb S) S.size k = (0, 0)) →
    Tells S ((runsF n (S.extract a b)).map c48 ++ rest) a := by
  have hend : ∀ a, a ≤ b → (∀ k, a ≤ k → k < b → bestAt (gb S) S.size k = (0, 0)) → Tells S ((if 0 < (S.extract a b).size then [(⟨S.extract a b, 0, 0⟩ : S48)] else []).map c48 ++ rest) a := by
    intro a ha hz
    have hsz : (S.extract a b).size = b - a := by rw [ByteArray.size_extract]; omega
    by_cases h0 : 0 < (S.extract a b).size
    · rw [if_pos h0]
      show Tells S (⟨S.extract a b, 0, 0⟩ :: rest) a
      refine .inr ⟨rfl, ?_, ?_, .inr hh, ?_, ?_⟩
      · show a + (S.extract a b).size ≤ _; omega
      · show S.extract a (a + (S.extract a b).size) = S.extract a b
        rw [hsz, show a + (b - a) = b from by omega]
      · intro k hk
        have hk' : k < (S.extract a b).size := hk
        exact hz (a + k) (by omega) (by omega)
      · show Tells S rest (a + (S.extract a b).size)
        rw [hsz, show a + (b - a) = b from by omega]; exact hr
    · rw [if_neg h0]
      have : a = b := by omega
      rw [this]; exact hr
  intro n
  induction n with
  | zero =>
    intro a ha hn hz; exact hend a ha hz
  | succ n ih =>
    intro a ha hn hz
    have hsz : (S.extract a b).size = b - a := by rw [ByteArray.size_extract]; omega
    unfold runsF
    by_cases h8 : 128 < (S.extract a b).size
    · rw [if_pos h8, hsz, ext_ext S a b 0 128 (by omega) hb, ext_ext S a b 128 (b - a) (by omega) hb, Nat.add_zero, show a + (b - a) = b from by omega]
      have hs2 : (S.extract a (a + 128)).size = 128 := by rw [ByteArray.size_extract]; omega
      show Tells S (⟨S.extract a (a + 128), 0, 0⟩ :: ((runsF n (S.extract (a + 128) b)).map c48 ++ rest)) a
      refine .inr ⟨rfl, ?_, ?_, .inl ?_, ?_, ?_⟩
      · show a + (S.extract a (a + 128)).size ≤ _; omega
      · show S.extract a (a + (S.extract a (a + 128)).size) = _; rw [hs2]
      · show 128 ≤ (S.extract a (a + 128)).size; omega
      · intro k hk
        have hk' : k < (S.extract a (a + 128)).size := hk
        exact hz (a + k) (by omega) (by omega)
      · show Tells S _ (a + (S.extract a (a + 128)).size)
        rw [hs2]
        exact ih (a + 128) (by omega) (by omega) (fun k h1 h2 => hz k (by omega) h2)
    · rw [if_neg h8]; exact hend a ha hz
/-- The tokens of packing from a place on. -/
def packR (S : ByteArray) : Nat → Nat → Nat → List S48
  | 0, at_, from_ => runsF S.size (S.extract from_ S.size)
  | f + 1, at_, from_ =>
    if at_ < S.size then
      if (bestAt (gb S) S.size at_).1 = 0 then packR S f (at_ + 1) from_
      else runsF S.size (S.extract from_ at_) ++ ⟨⟨#[]⟩, ((bestAt (gb S) S.size at_).1 : Int), ((bestAt (gb S) S.size at_).2 : Int)⟩ :: packR S f (at_ + (bestAt (gb S) S.size at_).1) (at_ + (bestAt (gb S) S.size at_).1)
    else runsF S.size (S.extract from_ S.size)
theorem packT_R (S : ByteArray) : ∀ (f at_ from_ : Nat) (acc : List S48), packT S f at_ from_ acc = acc ++ packR S f at_ from_
  | 0, _, _, _ => rfl
  | f + 1, at_, from_, acc => by
    unfold packT packR
    split
    · split
      · exact packT_R S f _ _ acc
      · rw [packT_R S f]; simp
    · rfl
theorem packR_tells (S : ByteArray) : ∀ (f at_ from_ : Nat), S.size ≤ at_ + f → from_ ≤ at_ → at_ ≤ S.size → (∀ k, from_ ≤ k → k < at_ → bestAt (gb S) S.size k = (0, 0)) → Tells S ((packR S f at_ from_).map c48) from_ := by
  have hend : ∀ from_, from_ ≤ S.size → (∀ k, from_ ≤ k → k < S.size → bestAt (gb S) S.size k = (0, 0)) → Tells S ((runsF S.size (S.extract from_ S.size)).map c48) from_ := by
    intro from_ h1 h2
    have := runs_tells S [] S.size (Nat.le_refl _) rfl (.inl rfl) S.size from_ h1 (by omega) h2
    rwa [List.append_nil] at this
  intro f
  induction f with
  | zero =>
    intro at_ from_ h1 h2 h3 h4
    exact hend from_ (by omega) (fun k a b => h4 k a (by omega))
  | succ f ih =>
    intro at_ from_ h1 h2 h3 h4
    unfold packR
    by_cases hlt : at_ < S.size
    · rw [if_pos hlt]
      rcases best_cases S at_ with h | ⟨g1, g2, g3, g4, g5, g6⟩
      · rw [h]
        refine ih (at_ + 1) from_ (by omega) (by omega) (by omega) (fun k a b => ?_)
        by_cases hk : k = at_
        · rw [hk]; exact h
        · exact h4 k a (by omega)
      · rw [if_neg (by omega), List.map_append, List.map_cons]
        have hrec := ih (at_ + (bestAt (gb S) S.size at_).1) (at_ + (bestAt (gb S) S.size at_).1) (by omega) (Nat.le_refl _) (by omega) (fun k a b => by omega)
        have hrest : Tells S (c48 ⟨⟨#[]⟩, ((bestAt (gb S) S.size at_).1 : Int), ((bestAt (gb S) S.size at_).2 : Int)⟩ :: (packR S f (at_ + (bestAt (gb S) S.size at_).1) (at_ + (bestAt (gb S) S.size at_).1)).map c48) at_ := by
          refine .inl ⟨?_, rfl, rfl, hlt, ?_, ?_⟩
          · show 0 < ((bestAt (gb S) S.size at_).1 : Int); omega
          · show at_ + ((bestAt (gb S) S.size at_).1 : Int).toNat ≤ S.size; omega
          · show Tells S _ (at_ + ((bestAt (gb S) S.size at_).1 : Int).toNat)
            rw [Int.toNat_natCast]; exact hrec
        exact runs_tells S _ at_ h3 hrest (.inr ⟨_, _, rfl, by show ((bestAt (gb S) S.size at_).1 : Int) ≠ 0; omega⟩) S.size from_ h2 (by omega) h4
    · rw [if_neg hlt]
      exact hend from_ (by omega) (fun k a b => h4 k a (by omega))
theorem toks_tell (S : ByteArray) : Tells S (toks S) 0 := by
  unfold toks
  rw [packT_R, List.nil_append]
  exact packR_tells S S.size 0 0 (by omega) (Nat.le_refl _) (Nat.zero_le _) (fun k a b => by omega)
theorem bestI_at (S : ByteArray) (p : Nat) (h : p < S.size) : bestI S (p : Int) = (((bestAt (gb S) S.size p).1 : Int), ((bestAt (gb S) S.size p).2 : Int)) := by
  unfold bestI; rw [if_neg (by omega), Int.toNat_natCast]
theorem tells_ev (S : ByteArray) (hS : S.size ≤ 1048576) : Ev (fun k => gantrylaw04_LzTells.f k S) true := by
  obtain ⟨_, hv, hln, _⟩ := toks_said S
  have htell := toks_tell S
  refine Ev.bind fixed_ev ?_
  simp only [if_true]
  refine Ev.bind (lzPack_ev S (by omega)) (Ev.bind (tokens_pack S (by omega)) ?_)
  have hsz : (strOfNums (packB S)).size = (packB S).length := Go.strOfNums_size _
  simp only [if_true, hsz, bne_self_eq_false]
  refine Ev.step (fun k => by rw [gantrylaw04_LzTells.j0, if_neg (by simp)]) (Ev.bind (form_pack S (by omega)) ?_)
  simp only [if_true, bne_self_eq_false]
  refine Ev.step (f := fun k => gantrylaw04_LzTells.l0 k S (toks S) ((0 : Nat) : Int) ((0 : Nat) : Int)) (fun k => by rw [gantrylaw04_LzTells.j1, if_neg (by simp)]; rfl) ?_
  generalize toks S = l at *
  have hS0 : S.size ≤ 140737488355328 := by omega
  have key : ∀ (d i at_ : Nat), i + d = l.length → Tells S (l.drop i) at_ → Ev (fun k => gantrylaw04_LzTells.l0 k S l (at_ : Int) (i : Int)) true := by
    intro d
    induction d with
    | zero =>
      intro i at_ hi ht
      rw [List.drop_eq_nil_of_le (by omega)] at ht
      have ht' : at_ = S.size := ht
      refine Ev.step (f := fun _ => some true) (fun k => ?_) (Ev.now _)
      rw [gantrylaw04_LzTells.l0, if_neg (by omega), ht', beq_self_eq_true]
    | succ d ih =>
      intro i at_ hi ht
      have hd := rd_drop l z49 i (by omega)
      have hrd : rd_T49 l (i : Int) = l.getD i z49 := by unfold rd_T49; rw [Int.toNat_natCast]
      rw [hd] at ht
      generalize l.getD i z49 = t at *
      refine Ev.step (fun k => by rw [gantrylaw04_LzTells.l0, if_pos (show (i : Int) < (l.length : Int) by omega), if_pos (show 0 ≤ (i : Int) by omega), hrd]) ?_
      have HWI := Lib.hid (show wrap64 ((i : Int) + 1) = ((i + 1 : Nat) : Int) from wrap_id (by omega) (by omega))
      rcases tells_cons S _ _ _ ht with ⟨h1, h2, h3, h4, h5, h6⟩ | ⟨h1, h2, h3, h4, h5, h6⟩
      · have g1 : t.f1 > 0 := h1
        simp only [g1, if_true]
        have hb := lzBest_ev S hS0 (at_ : Int)
        rw [bestI_at S at_ h4, h2] at hb
        refine Ev.bind hb ?_
        have g2 := (toList_nil_iff t.f0).2 h3
        simp only [if_true, g2, HWI.out]
        have hw : wrap64 ((at_ : Int) + t.f1) = ((at_ + t.f1.toNat : Nat) : Int) := by rw [wrap_id (by omega) (by omega)]; omega
        simp only [hw]
        exact ih (i + 1) (at_ + t.f1.toNat) (by omega) h6
      · have g1 : ¬ t.f1 > 0 := by omega
        have g3 : ¬ (t.f0.size : Int) > (S.size : Int) - at_ := by omega
        have g5 : 0 ≤ (at_ : Int) := by omega
        have g6 : (at_ : Int) ≤ ((at_ + t.f0.size : Nat) : Int) := by omega
        have g7 : ((at_ + t.f0.size : Nat) : Int) ≤ (S.size : Int) := by omega
        have G2 := Lib.hid (show wrap64 ((S.size : Int) - at_) = (S.size : Int) - at_ from wrap_id (by omega) (by omega))
        have G4 := Lib.hid (show wrap64 ((at_ : Int) + (t.f0.size : Int)) = ((at_ + t.f0.size : Nat) : Int) from wrap_id (by omega) (by omega))
        simp only [g1, if_false, G2.out, g3, G4.out, g5, g6, g7, if_true, Int.toNat_natCast, h3, HWI.out]
        have hl1 : ∀ (c j : Nat), j + c = t.f0.size → Ev (fun k => gantrylaw04_LzTells.l1 k S l (at_ : Int) (i : Int) (j : Int) t.f0 t.f1 t.f2) true := by
          intro c
          induction c with
          | zero =>
            intro j hj
            refine Ev.step (fun k => ?_) (ih (i + 1) (at_ + t.f0.size) (by omega) h6)
            rw [gantrylaw04_LzTells.l1, if_neg (by omega), G4.out, HWI.out]
          | succ c ihc =>
            intro j hj
            refine Ev.step (fun k => by rw [gantrylaw04_LzTells.l1, if_pos (show (j : Int) < (t.f0.size : Int) by omega), wrap_id (x := (at_ : Int) + j) (by omega) (by omega), show (at_ : Int) + j = ((at_ + j : Nat) : Int) from by omega]) ?_
            have hb := lzBest_ev S hS0 ((at_ + j : Nat) : Int)
            rw [bestI_at S (at_ + j) (by omega), h5 j (by omega)] at hb
            refine Ev.bind hb ?_
            simp only [Int.natCast_zero, if_true]
            rw [wrap_id (x := (j : Int) + 1) (by omega) (by omega)]
            exact ihc (j + 1) (by omega)
        have hj3 : Ev (fun k => gantrylaw04_LzTells.j3 k S l (at_ : Int) (i : Int) false t.f0 t.f1 t.f2) true :=
          Ev.step (fun k => by rw [gantrylaw04_LzTells.j3, if_neg (by simp)]; rfl) (hl1 t.f0.size 0 (by omega))
        by_cases k1 : (t.f0.size : Int) < 128
        · simp only [k1, if_true]
          by_cases k2 : ((i + 1 : Nat) : Int) < (l.length : Int)
          · have k3 : 0 ≤ ((i + 1 : Nat) : Int) := by omega
            simp only [k2, k3, if_true]
            have hd2 := rd_drop l z49 (i + 1) (by omega)
            have hrd2 : rd_T49 l ((i + 1 : Nat) : Int) = l.getD (i + 1) z49 := by unfold rd_T49; rw [Int.toNat_natCast]
            rw [hrd2]
            have : ((l.getD (i + 1) z49).f1 == 0) = false := by
              rw [beq_eq_false_iff_ne]
              rcases h4 with h | h | ⟨u, us, h, hu⟩
              · omega
              · rw [hd2] at h; cases h
              · rw [hd2] at h; injection h with h _; rw [h]; exact hu
            rw [this]; exact hj3
          · simp only [k2, if_false]; exact hj3
        · simp only [k1, if_false]; exact hj3
  exact key l.length 0 0 (by omega) htell
theorem coreLzTells (a0 : ByteArray) (w0 : a0.size ≤ maxLen) {w : World} (W : World) (hW : w = W) (hb : (a0.size + 1) ≤ 1048576) :
    Calls Try.prog 9 #[.string a0] W fun e w' => e = .returned (.bool true) ∧ Below W.heap.size W w' := by
  subst hW
  obtain ⟨k, h⟩ := Ev.rounds (tells_ev a0 (by omega))
  exact gantrylaw04_LzTells.calls k a0 true w h
end Go.Proofs.Ytgnoaokpahklaaa.Pure
