/- VarintAll: every text is read as the document's reference reads it, number by number, to its end; what is put is read again; the list that is answered is new memory. Condition: the text and the list together hold at most 1048576 letters and numbers. -/
import Derived.Test.YtipdfajadehkmaaVlVarintAll
namespace Go.Proofs.Ytipdfajadehkmaa.Pure
open Go.RowKit Go.Proofs.Ytipdfajadehkmaa.QVarintAll Go.Proofs.YtipdfajadehkmaaW.PrintWords Go.Proofs.YtipdfajadehkmaaW.PrintLast Go.Proofs.YtipdfajadehkmaaW.PrintMore Go.Proofs.Ytipdfajadehkmaa.Vm Go.Proofs.Ytipdfajadehkmaa.VlVarintAll

set_option linter.unusedVariables false
/-- All numbers of some bytes: the numbers, how far, what is wrong. -/
def rdAll (acc l : List Int) (p : Int) : List Int × Int × Int :=
  if h0 : l = [] then (acc, p, 0)
  else if (rd64 l).2.2 = 0 then (if h : (rd64 l).2.1.toNat = 0 then (acc, p, 0) else rdAll (acc ++ [(rd64 l).1]) (l.drop (rd64 l).2.1.toNat) (p + (rd64 l).2.1))
  else ([], p, (rd64 l).2.2)
termination_by l.length
decreasing_by
  rw [List.length_drop]
  have : 0 < l.length := List.length_pos_iff.2 h0
  omega
theorem rdAll_nil (acc : List Int) (p : Int) : rdAll acc [] p = (acc, p, 0) := by rw [rdAll]; simp
theorem rdAll_bad {l : List Int} {e : Int} (acc : List Int) (p : Int) (hl : l ≠ []) (h : rd64 l = (0, 0, e)) (he : e ≠ 0) : rdAll acc l p = ([], p, e) := by rw [rdAll]; simp [hl, h, he]
theorem rdAll_next {l : List Int} {u : Nat} (acc : List Int) (p : Int) (hl : l ≠ []) (h : rd64 l = ((u : Int), ((enc u).length : Int), 0)) :
    rdAll acc l p = rdAll (acc ++ [(u : Int)]) (l.drop (enc u).length) (p + (enc u).length) := by
  have hp := enc_pos u
  have hn : ¬ (enc u).length = 0 := by omega
  rw [rdAll]; simp [hl, h, hn]
theorem rdAll_ends (n : Nat) : ∀ (acc l : List Int) (p : Int), l.length ≤ n → (∀ x ∈ l, 0 ≤ x ∧ x < 256) → (rdAll acc l p).2.2 = 0 → (rdAll acc l p).2.1 = p + l.length := by
  induction n with
  | zero =>
    intro acc l p hl _ _
    have : l = [] := List.eq_nil_of_length_eq_zero (by omega)
    subst this; rw [rdAll_nil]; simp
  | succ n ih =>
    intro acc l p hl hb
    by_cases h0 : l = []
    · subst h0; rw [rdAll_nil]; simp
    · rcases rd64_tells l hb with ⟨e, he, h⟩ | ⟨u, hu, htk, hle, h⟩
      · rw [rdAll_bad acc p h0 h (by omega)]; intro h2; dsimp only at h2; omega
      · rw [rdAll_next acc p h0 h]
        have hp := enc_pos u
        intro h2
        have := ih (acc ++ [(u : Int)]) (l.drop (enc u).length) (p + (enc u).length) (by rw [List.length_drop]; omega) (fun x hx => hb x (List.mem_of_mem_drop hx)) h2
        rw [this, List.length_drop]; omega
theorem rdAll_put : ∀ (xs : List Int) (acc : List Int) (p : Int), (∀ x ∈ xs, 0 ≤ x ∧ x ≤ 18446744073709551615) → rdAll acc (xs.flatMap fun x => enc x.toNat) p = (acc ++ xs, p + (xs.flatMap fun x => enc x.toNat).length, 0) := by
  intro xs
  induction xs with
  | nil => intro acc p _; rw [List.flatMap_nil, rdAll_nil]; simp
  | cons x xs ih =>
    intro acc p h
    obtain ⟨h0, h1⟩ := h x (by simp)
    rw [List.flatMap_cons]
    have hne : enc x.toNat ++ (xs.flatMap fun x => enc x.toNat) ≠ [] := by
      intro h; exact enc_ne _ (List.append_eq_nil_iff.1 h).1
    have e1 : ((x.toNat : Nat) : Int) = x := by omega
    rw [rdAll_next acc p hne (rd64_enc (by omega) _), List.drop_left, ih _ _ (fun y hy => h y (by simp [hy])), e1]
    refine Prod.ext (by simp) (Prod.ext ?_ rfl)
    show p + _ + _ = p + _
    rw [List.length_append]; omega
theorem ext_bytes {s : ByteArray} {i : Nat} : bytesOf (s.extract i s.size) = (bytesOf s).drop i := by
  rw [bytesOf_extract, List.take_of_length_le (by rw [List.length_drop, bytesOf_length]; omega)]
theorem readAll_ev (s : ByteArray) (hs : s.size ≤ 17592186044415) : Ev (fun k => varint_ReadAll.f k s) (rdAll [] (bytesOf s) 0) := by
  have key : ∀ (d i : Nat) (acc : List Int), i + d = s.size → acc.length ≤ i → Ev (fun k => varint_ReadAll.l0 k s acc (i : Int)) (rdAll acc ((bytesOf s).drop i) (i : Int)) := by
    intro d
    induction d using Nat.strongRecOn with
    | _ d ih =>
      intro i acc hi ha
      by_cases hd : d = 0
      · have : (bytesOf s).drop i = [] := List.drop_eq_nil_of_le (by rw [bytesOf_length]; omega)
        rw [this, rdAll_nil]
        refine Ev.step (f := fun _ => some (acc, (i : Int), 0)) (fun k => ?_) (Ev.now _)
        rw [varint_ReadAll.l0, if_neg (by omega)]
        congr 3
        omega
      · have hlen : ((bytesOf s).drop i).length = d := by rw [List.length_drop, bytesOf_length]; omega
        have hne : (bytesOf s).drop i ≠ [] := by intro h; rw [h] at hlen; simp at hlen; omega
        have hok : ∀ x ∈ (bytesOf s).drop i, 0 ≤ x ∧ x < 256 := fun x hx => bytes_ok s x (List.mem_of_mem_drop hx)
        have ht := take_ev (s.extract i s.size)
        rw [ext_bytes] at ht
        refine Ev.step (f := fun k => (varint_take.f k (s.extract i s.size)).bind fun bt135 => (if bt135.2.2 = 0 then (if acc.length < 17592186044416 then (varint_ReadAll.l0 k s (acc ++ [bt135.1]) (wrap64 ((i : Int) + bt135.2.1))) else (none)) else (some (([] : List Int), (i : Int), bt135.2.2)))) (fun k => ?_) ?_
        · rw [varint_ReadAll.l0, if_pos (by omega), if_pos (by omega), if_pos (by omega), Int.toNat_natCast]
        · refine Ev.bind ht ?_
          rcases rd64_tells _ hok with ⟨e, he, h⟩ | ⟨u, hu, htk, hle, h⟩
          · rw [rdAll_bad acc _ hne h (by omega), h]
            have he0 : ¬ e = 0 := by omega
            simp only [he0, if_false]
            exact Ev.now _
          · rw [rdAll_next acc _ hne h, h]
            have hp := enc_pos u
            rw [hlen] at hle
            have hr : acc.length < 17592186044416 := by omega
            have hw : wrap64 ((i : Int) + ((enc u).length : Nat)) = ((i + (enc u).length : Nat) : Int) := by unfold wrap64; omega
            simp only [eq_self, if_true, hr, hw]
            have := ih (d - (enc u).length) (by omega) (i + (enc u).length) (acc ++ [(u : Int)]) (by omega) (by simp; omega)
            rw [List.drop_drop, ← Int.natCast_add]
            exact this
  exact key s.size 0 [] (by omega) (by simp)
theorem refReadAll_ev (s : ByteArray) (hs : s.size ≤ 17592186044415) : Ev (fun k => gantryref01_ReadAll.f k s) (rdAll [] (bytesOf s) 0) := by
  have key : ∀ (d i : Nat) (acc : List Int), i + d = s.size → acc.length ≤ i → Ev (fun k => gantryref01_ReadAll.l0 k s acc (i : Int)) (rdAll acc ((bytesOf s).drop i) (i : Int)) := by
    intro d
    induction d using Nat.strongRecOn with
    | _ d ih =>
      intro i acc hi ha
      by_cases hd : d = 0
      · have : (bytesOf s).drop i = [] := List.drop_eq_nil_of_le (by rw [bytesOf_length]; omega)
        rw [this, rdAll_nil]
        refine Ev.step (f := fun _ => some (acc, (i : Int), 0)) (fun k => ?_) (Ev.now _)
        rw [gantryref01_ReadAll.l0, if_neg (by omega)]
      · have hlen : ((bytesOf s).drop i).length = d := by rw [List.length_drop, bytesOf_length]; omega
        have hne : (bytesOf s).drop i ≠ [] := by intro h; rw [h] at hlen; simp at hlen; omega
        have hok : ∀ x ∈ (bytesOf s).drop i, 0 ≤ x ∧ x < 256 := fun x hx => bytes_ok s x (List.mem_of_mem_drop hx)
        have ht := refRead_ev (s.extract i s.size)
        rw [ext_bytes] at ht
        refine Ev.step (f := fun k => (gantryref01_Read.f k (s.extract i s.size)).bind fun bt135 => (if bt135.2.2 = 0 then (if acc.length < 17592186044416 then (gantryref01_ReadAll.l0 k s (acc ++ [bt135.1]) (wrap64 ((i : Int) + bt135.2.1))) else (none)) else (some (([] : List Int), (i : Int), bt135.2.2)))) (fun k => ?_) ?_
        · rw [gantryref01_ReadAll.l0, if_pos (by omega), if_pos (by omega), if_pos (by omega), Int.toNat_natCast]
        · refine Ev.bind ht ?_
          rcases rd64_tells _ hok with ⟨e, he, h⟩ | ⟨u, hu, htk, hle, h⟩
          · rw [rdAll_bad acc _ hne h (by omega), h]
            have he0 : ¬ e = 0 := by omega
            simp only [he0, if_false]
            exact Ev.now _
          · rw [rdAll_next acc _ hne h, h]
            have hp := enc_pos u
            rw [hlen] at hle
            have hr : acc.length < 17592186044416 := by omega
            have hw : wrap64 ((i : Int) + ((enc u).length : Nat)) = ((i + (enc u).length : Nat) : Int) := by unfold wrap64; omega
            simp only [eq_self, if_true, hr, hw]
            have := ih (d - (enc u).length) (by omega) (i + (enc u).length) (acc ++ [(u : Int)]) (by omega) (by simp; omega)
            rw [List.drop_drop, ← Int.natCast_add]
            exact this
  exact key s.size 0 [] (by omega) (by simp)
theorem same_ev (l : List Int) (hl : l.length ≤ 9223372036854775806) : Ev (fun k => gantrylaw01_same.f k l l) true := by
  have key : ∀ (d i : Nat), i + d = l.length → Ev (fun k => gantrylaw01_same.l0 k l l (i : Int)) true := by
    intro d
    induction d with
    | zero =>
      intro i hi
      refine Ev.step (f := fun _ => some true) (fun k => ?_) (Ev.now _)
      rw [gantrylaw01_same.l0, if_neg (by omega)]
    | succ d ih =>
      intro i hi
      refine Ev.step (f := fun k => gantrylaw01_same.l0 k l l ((i + 1 : Nat) : Int)) (fun k => ?_) (ih (i + 1) (by omega))
      rw [gantrylaw01_same.l0, if_pos (by omega), if_pos (by omega), if_pos (by omega), if_pos rfl, wrap_succ (by omega)]
  unfold gantrylaw01_same.f
  simp only [if_true]
  exact key l.length 0 (by omega)
theorem all_l1 (xs k : List Int) (hk : k.length ≤ 1048576) : ∀ (d i : Nat) (g : List Int), i + d = 16 → g.length ≤ 1048576 + i → xs = k → Ev (fun r => gantrylaw01_VarintAll.l1 r xs k g (i : Int)) true := by
  intro d
  induction d with
  | zero =>
    intro i g hi hg hx
    subst hx
    refine Ev.step (f := fun r => (gantrylaw01_same.f r xs xs).bind fun t190 => (some t190)) (fun r => ?_) ?_
    · rw [gantrylaw01_VarintAll.l1, if_neg (by omega)]
    · exact Ev.bind (same_ev xs (by omega)) (Ev.now _)
  | succ d ih =>
    intro i g hi hg hx
    refine Ev.step (f := fun r => gantrylaw01_VarintAll.l1 r xs k (g ++ [5]) ((i + 1 : Nat) : Int)) (fun r => ?_) (ih (i + 1) _ (by omega) (by simp; omega) hx)
    rw [gantrylaw01_VarintAll.l1, if_pos (by omega), if_pos (by omega), wrap_succ (by omega)]
theorem all_l0 (xs : List Int) (hk : xs.length ≤ 1048576) : ∀ (d i : Nat) (g : List Int), i + d = g.length → g.length = xs.length → Ev (fun r => gantrylaw01_VarintAll.l0 r xs g xs (i : Int)) true := by
  intro d
  induction d with
  | zero =>
    intro i g hi hg
    refine Ev.step (f := fun r => gantrylaw01_VarintAll.l1 r xs xs g 0) (fun r => ?_) (all_l1 xs xs hk 16 0 g rfl (by omega) rfl)
    rw [gantrylaw01_VarintAll.l0, if_neg (by omega)]
  | succ d ih =>
    intro i g hi hg
    refine Ev.step (f := fun r => gantrylaw01_VarintAll.l0 r xs (g.set i 7777) xs ((i + 1 : Nat) : Int)) (fun r => ?_) (ih (i + 1) _ (by rw [List.length_set]; omega) (by rw [List.length_set]; omega))
    rw [gantrylaw01_VarintAll.l0, if_pos (by omega), if_pos (by omega), wrap_succ (by omega), Int.toNat_natCast]
theorem all_ev (s : ByteArray) (xs : List Int) (hs : s.size ≤ 1048576) (hn : xs.length ≤ 1048576) (hxs : ∀ x ∈ xs, 0 ≤ x ∧ x ≤ 18446744073709551615) : Ev (fun k => gantrylaw01_VarintAll.f k s xs) true := by
  unfold gantrylaw01_VarintAll.f
  refine Ev.bind fixed_ev ?_
  simp only [if_true]
  refine Ev.bind (readAll_ev s (by omega)) ?_
  refine Ev.bind (refReadAll_ev s (by omega)) ?_
  have hl : (rdAll [] (bytesOf s) 0).1.length ≤ 1048576 := by
    have key : ∀ (n : Nat) (acc l : List Int) (p : Int), l.length ≤ n → (∀ x ∈ l, 0 ≤ x ∧ x < 256) → (rdAll acc l p).1.length ≤ acc.length + l.length := by
      intro n
      induction n with
      | zero =>
        intro acc l p hl _
        have : l = [] := List.eq_nil_of_length_eq_zero (by omega)
        subst this; rw [rdAll_nil]; simp
      | succ n ih =>
        intro acc l p hl hb
        by_cases h0 : l = []
        · subst h0; rw [rdAll_nil]; simp
        · rcases rd64_tells l hb with ⟨e, he, h⟩ | ⟨u, hu, htk, hle, h⟩
          · rw [rdAll_bad acc p h0 h (by omega)]; simp
          · rw [rdAll_next acc p h0 h]
            have hp := enc_pos u
            have := ih (acc ++ [(u : Int)]) (l.drop (enc u).length) (p + (enc u).length) (by rw [List.length_drop]; omega) (fun x hx => hb x (List.mem_of_mem_drop hx))
            rw [List.length_drop, List.length_append] at this
            simp only [List.length_cons, List.length_nil] at this
            omega
    have := key _ [] (bytesOf s) 0 (Nat.le_refl _) (bytes_ok s)
    rw [bytesOf_length] at this
    simpa using Nat.le_trans this (by simpa using hs)
  refine Ev.bind (same_ev _ (by omega)) ?_
  simp only [if_true, bne_self_eq_false]
  refine Ev.step (f := fun k => _) (fun k => by rw [gantrylaw01_VarintAll.j0, if_neg (by simp)]) ?_
  refine Ev.bind (refPut_ev xs hxs (by omega)) ?_
  have hb : bytesOf (strOfNums (xs.flatMap fun x => enc x.toNat)) = xs.flatMap fun x => enc x.toNat := bytesOf_nums (by
    intro x hx
    obtain ⟨y, hy, hxy⟩ := List.mem_flatMap.1 hx
    exact enc_bytes _ x hxy)
  have hlen : ∀ l : List Int, (∀ x ∈ l, 0 ≤ x ∧ x ≤ 18446744073709551615) → (l.flatMap fun x => enc x.toNat).length ≤ 10 * l.length := by
    intro l
    induction l with
    | nil => simp
    | cons a l ih =>
      intro h
      have := ih (fun x hx => h x (by simp [hx]))
      obtain ⟨h0, h1⟩ := h a (by simp)
      have := enc_len64 (v := a.toNat) (by omega)
      rw [List.flatMap_cons, List.length_append, List.length_cons]; omega
  have hsz : (strOfNums (xs.flatMap fun x => enc x.toNat)).size = (xs.flatMap fun x => enc x.toNat).length := Go.strOfNums_size _
  have h10 := hlen xs hxs
  have hr := readAll_ev (strOfNums (xs.flatMap fun x => enc x.toNat)) (by omega)
  rw [hb, rdAll_put xs [] 0 hxs] at hr
  refine Ev.bind hr ?_
  refine Ev.bind hr ?_
  simp only [List.nil_append]
  refine Ev.bind (same_ev xs (by omega)) ?_
  have e2 : (0 : Int) + ((xs.flatMap fun x => enc x.toNat).length : Nat) = ((strOfNums (xs.flatMap fun x => enc x.toNat)).size : Int) := by omega
  simp only [if_true, e2, bne_self_eq_false]
  refine Ev.step (f := fun k => _) (fun k => by rw [gantrylaw01_VarintAll.j1, if_neg (by simp)]) ?_
  exact all_l0 xs hn xs.length 0 xs (by omega) rfl
theorem core (a0 : ByteArray) (w0 : a0.size ≤ maxLen) (A1 : Option Addr) (c1 : Nat) (l1 : List Int) (L1 : l1.length ≤ c1) {w : World} (C1 : (Kd.int .u64).C w A1 l1.length l1)
    (ok1 : (∀ x ∈ l1, (Lit.int .u64 x).wf = true) ∧ l1.length ≤ maxLen) (W : World) (hW : w = W) (hb : (a0.size + 1) + ((l1.map (fun _ => 1)).sum + 1) ≤ 1048576) :
    Calls Try.prog 8 #[.string a0, .slice A1 l1.length c1] W fun e w' => e = .returned (.bool true) ∧ Below W.heap.size W w' := by
  subst hW
  have hs : ∀ l : List Int, (l.map (fun _ => 1)).sum = l.length := by intro l; induction l with
    | nil => rfl
    | cons a l ih => simp [ih]; omega
  rw [hs] at hb
  obtain ⟨k, h⟩ := Ev.rounds (all_ev a0 l1 (by omega) (by omega) (fun x hx => bounds_u64 (ok1.1 x hx)))
  exact gantrylaw01_VarintAll.calls k a0 A1 c1 l1 true w C1 L1 h
end Go.Proofs.Ytipdfajadehkmaa.Pure
