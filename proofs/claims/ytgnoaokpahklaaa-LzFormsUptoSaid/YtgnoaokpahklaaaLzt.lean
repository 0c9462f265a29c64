/- The plain law of layer 4's tokens: what bytes are as tokens, and what they unpack to; and that the program and the reference do just that. -/
import Derived.Test.YtgnoaokpahklaaaLzq
import Derived.Test.YtgnoaokpahklaaaVm
import Derived.Test.YtgnoaokpahklaaaQBf19
import Derived.Laws.BitsLemmas
namespace Go.Proofs.Ytgnoaokpahklaaa.Lzt
open Go Go.RowKit Go.Lib Go.Proofs.Ytgnoaokpahklaaa.Lzm Go.Proofs.Ytgnoaokpahklaaa.Lzw Go.Proofs.YtgnoaokpahklaaaW.PrintWords Go.Proofs.Ytgnoaokpahklaaa.QB Go.Proofs.YtgnoaokpahklaaaW.PrintLast Go.Proofs.YtgnoaokpahklaaaW.PrintMore Go.Proofs.Ytgnoaokpahklaaa.Vm
open Go.Proofs.Ytgnoaokpahklaaa.Lzp (litB litB_nil litB_cons litB_len matB packB packF size_toList toList_nil_iff)
set_option linter.unusedVariables false
set_option linter.unusedSimpArgs false

/-- The first token of bytes: its literals, its match's length and distance, how many bytes it has; 0: they end within it. -/
def tokL (l : List Int) : List Int × Int × Int × Int :=
  if l.getD 0 0 < 128 then (if (l.length : Int) < l.getD 0 0 + 2 then ([], 0, 0, 0) else ((l.drop 1).take (l.getD 0 0 + 1).toNat, 0, 0, l.getD 0 0 + 2))
  else if l.length < 3 then ([], 0, 0, 0) else ([], l.getD 0 0 - 124, l.getD 1 0 * 256 + l.getD 2 0, 3)
theorem bt_getD (s : ByteArray) (i : Nat) : bt s (i : Int) = (bytesOf s).getD i 0 := by
  rw [← rd_bytesOf]; unfold rd; rw [Int.toNat_natCast]
theorem byte_range (s : ByteArray) (i : Nat) : 0 ≤ (bytesOf s).getD i 0 ∧ (bytesOf s).getD i 0 ≤ 255 := by
  rw [← bt_getD]; exact bt_range s i
theorem or_i64 (v c : Int) (h0 : 0 ≤ v) (h1 : v < 256) (c0 : 0 ≤ c) (c1 : c < 256) : bits .or .i64 (v * 256) c = v * 256 + c := by
  have h := bits_join .i64 63 (by decide) (fun n a b => IntWalk.i64_in n (by omega)) 8 (v * 256) c (by omega) (by omega) (by omega) c0 (by omega) (by omega)
  rw [h]
theorem nums_bytes (s : ByteArray) : strOfNums (bytesOf s) = s := bytesOf_inj (bytesOf_nums (bytes_ok s))
theorem token_some (x : ByteArray) (h : 0 < x.size) (hs : x.size ≤ 140737488355328) : lz_token.f x = some (strOfNums (tokL (bytesOf x)).1, (tokL (bytesOf x)).2.1, (tokL (bytesOf x)).2.2.1, (tokL (bytesOf x)).2.2.2) := by
  have b0 := byte_range x 0
  have b1 := byte_range x 1
  have b2 := byte_range x 2
  have e0 : bt x 0 = (bytesOf x).getD 0 0 := bt_getD x 0
  have e1 : bt x 1 = (bytesOf x).getD 1 0 := bt_getD x 1
  have e2 : bt x 2 = (bytesOf x).getD 2 0 := bt_getD x 2
  have hl := bytesOf_length x
  have hx : ∀ c : Int, 0 ≤ c → x.extract 1 (c + 2).toNat = strOfNums (((bytesOf x).drop 1).take (c + 1).toNat) := by
    intro c hc
    rw [← nums_bytes (x.extract 1 _), bytesOf_extract]
    congr 2
    omega
  unfold lz_token.f tokL
  rw [if_pos (by omega), e0, e1, e2, hl]
  generalize (bytesOf x).getD 0 0 = c0 at *
  generalize (bytesOf x).getD 1 0 = c1 at *
  generalize (bytesOf x).getD 2 0 = c2 at *
  rw [wrap_id (x := c0) (by omega) (by omega), wrap_id (x := c1) (by omega) (by omega), wrap_id (x := c2) (by omega) (by omega), wrap_id (x := c0 + 2) (by omega) (by omega), wrap_id (x := c0 - 128) (by omega) (by omega), wrap_id (x := c0 - 128 + 4) (by omega) (by omega), wrap_id (x := c1 * 256) (by omega) (by omega), or_i64 _ _ (by omega) (by omega) (by omega) (by omega), show c0 - 128 + 4 = c0 - 124 from by omega]
  by_cases h1 : c0 < 128
  · rw [if_pos h1, if_pos h1]
    by_cases h2 : (x.size : Int) < c0 + 2
    · rw [if_pos h2, if_pos h2]; rfl
    · rw [if_neg h2, if_neg h2, if_pos (by omega), if_pos (by omega), hx c0 (by omega)]
  · rw [if_neg h1, if_neg h1]
    by_cases h2 : x.size < 3
    · rw [if_pos (by omega), if_pos h2]; rfl
    · rw [if_neg (by omega), if_neg h2, if_pos (by omega), if_pos (by omega)]; rfl
/-- What is wrong with a token by itself. -/
def tokE (t : List Int × Int × Int × Int) : Int := if t.2.2.2 = 0 then 20 else if 0 < t.2.1 ∧ (t.2.2.1 < 1 ∨ 8192 < t.2.2.1) then 25 else 0
theorem tokL_zero (l : List Int) (hb : ∀ i, 0 ≤ l.getD i 0 ∧ l.getD i 0 ≤ 255) : ((tokL l).2.2.2 = 0 ∧ tokL l = ([], 0, 0, 0)) ∨ (2 ≤ (tokL l).2.2.2 ∧ (tokL l).2.2.2 ≤ l.length ∧ (tokL l).2.2.2 ≤ 130 ∧ (((tokL l).2.1 = 0 ∧ (tokL l).2.2.1 = 0 ∧ ((tokL l).1.length : Int) + 1 = (tokL l).2.2.2) ∨ (4 ≤ (tokL l).2.1 ∧ (tokL l).2.1 ≤ 131 ∧ 0 ≤ (tokL l).2.2.1 ∧ (tokL l).2.2.1 ≤ 65535 ∧ (tokL l).1 = [] ∧ (tokL l).2.2.2 = 3))) := by
  have b0 := hb 0
  have b1 := hb 1
  have b2 := hb 2
  unfold tokL
  by_cases h1 : l.getD 0 0 < 128
  · rw [if_pos h1]
    by_cases h2 : (l.length : Int) < l.getD 0 0 + 2
    · rw [if_pos h2]; exact .inl ⟨rfl, rfl⟩
    · rw [if_neg h2]
      refine .inr ⟨?_, ?_, ?_, .inl ⟨rfl, rfl, ?_⟩⟩
      · show 2 ≤ l.getD 0 0 + 2; omega
      · show l.getD 0 0 + 2 ≤ (l.length : Int); omega
      · show l.getD 0 0 + 2 ≤ 130; omega
      · show (((l.drop 1).take (l.getD 0 0 + 1).toNat).length : Int) + 1 = l.getD 0 0 + 2
        rw [List.length_take, List.length_drop]; omega
  · rw [if_neg h1]
    by_cases h2 : l.length < 3
    · rw [if_pos h2]; exact .inl ⟨rfl, rfl⟩
    · rw [if_neg h2]
      refine .inr ⟨?_, ?_, ?_, .inr ⟨?_, ?_, ?_, ?_, rfl, rfl⟩⟩
      · show (2 : Int) ≤ 3; omega
      · show (3 : Int) ≤ l.length; omega
      · show (3 : Int) ≤ 130; omega
      · show 4 ≤ l.getD 0 0 - 124; omega
      · show l.getD 0 0 - 124 ≤ 131; omega
      · show 0 ≤ l.getD 1 0 * 256 + l.getD 2 0; omega
      · show l.getD 1 0 * 256 + l.getD 2 0 ≤ 65535; omega

/-! Unpacking. -/
def copyN : Nat → Nat → List Int → List Int
  | 0, _, xs => xs
  | m + 1, d, xs => copyN m d (xs ++ [xs.getD (xs.length - d) 0])
theorem copyN_len : ∀ m d xs, (copyN m d xs).length = xs.length + m
  | 0, _, _ => rfl
  | m + 1, d, xs => by unfold copyN; rw [copyN_len m]; simp; omega
def fin (len : Int) (out : List Int) : List Int × Int := if (out.length : Int) < len then ([], 20) else (out, 0)
/-- What bytes unpack to. -/
def unpackL : Nat → List Int → Int → List Int → List Int × Int
  | 0, _, len, out => fin len out
  | f + 1, l, len, out =>
    if l = [] then fin len out
    else if (tokL l).2.2.2 = 0 then ([], 20)
    else if 0 < (tokL l).2.1 ∧ ((tokL l).2.2.1 < 1 ∨ 8192 < (tokL l).2.2.1 ∨ (out.length : Int) < (tokL l).2.2.1) then ([], 25)
    else if len - out.length < ((tokL l).1.length : Int) + (tokL l).2.1 then ([], 22)
    else unpackL f (l.drop (tokL l).2.2.2.toNat) len (copyN (tokL l).2.1.toNat (tokL l).2.2.1.toNat (out ++ (tokL l).1))
def unpack (l : List Int) (len most : Int) : List Int × Int := if len < 0 ∨ most < len then ([], 66) else unpackL l.length l len []
def said (r : List Int × Int) : ByteArray × Int := (strOfNums r.1, r.2)
theorem lits_bytes (l : List Int) (hb : ∀ x ∈ l, 0 ≤ x ∧ x < 256) : ∀ x ∈ (tokL l).1, 0 ≤ x ∧ x < 256 := by
  intro x hx
  unfold tokL at hx
  split at hx
  · split at hx
    · simp at hx
    · exact hb x (List.mem_of_mem_drop (List.mem_of_mem_take hx))
  · split at hx <;> simp at hx
theorem getD_range {l : List Int} (hb : ∀ x ∈ l, 0 ≤ x ∧ x < 256) (i : Nat) : 0 ≤ l.getD i 0 ∧ l.getD i 0 ≤ 255 := by
  rw [List.getD_eq_getElem?_getD]
  by_cases h : i < l.length
  · rw [List.getElem?_eq_getElem h]
    have := hb _ (List.getElem_mem h)
    simp only [Option.getD_some]; omega
  · rw [List.getElem?_eq_none (by omega)]; simp
theorem rd_last (xs : List Int) (d : Int) (h1 : 1 ≤ d) (h2 : d ≤ xs.length) : rd xs ((xs.length : Int) - d) = xs.getD (xs.length - d.toNat) 0 := by
  unfold rd; congr 1; omega
theorem unp_l1 (x0 : ByteArray) (len tl d : Int) (l0 : ByteArray) (tl0 : Int) (R : ByteArray × Int) (hd : 1 ≤ d) (ht : tl ≤ 140737488355328) : ∀ (m i : Nat) (xs : List Int), (i : Int) + m = tl → d ≤ xs.length → xs.length + m < 140737488355328 →
    Ev (fun k => lz_Unpack.l0 k x0 len (copyN m d.toNat xs)) R → Ev (fun k => lz_Unpack.l1 k x0 len xs tl (i : Int) l0 tl0 d) R := by
  intro m
  induction m with
  | zero =>
    intro i xs hi hx hb h
    refine Ev.step (f := fun k => lz_Unpack.l0 k x0 len xs) (fun k => ?_) h
    rw [lz_Unpack.l1, if_neg (by omega)]
  | succ m ih =>
    intro i xs hi hx hb h
    refine Ev.step (f := fun k => lz_Unpack.l1 k x0 len (xs ++ [xs.getD (xs.length - d.toNat) 0]) tl ((i + 1 : Nat) : Int) l0 tl0 d) (fun k => ?_) (ih (i + 1) _ (by omega) (by simp; omega) (by simp; omega) h)
    rw [lz_Unpack.l1, if_pos (by omega), wrap_id (by omega) (by omega), if_pos (by omega), if_pos (by omega), if_pos (by omega), rd_last xs d hd hx, wrap_id (by omega) (by omega)]
    rfl
theorem toList_nil (x : ByteArray) : x.toList = ([] : List UInt8) ↔ bytesOf x = [] := by
  rw [toList_nil_iff]
  constructor
  · intro h; exact List.eq_nil_of_length_eq_zero (by rw [bytesOf_length]; exact h)
  · intro h; have := bytesOf_length x; rw [h] at this; simpa using this.symm
theorem empty_nums : strOfNums [] = (⟨#[]⟩ : ByteArray) := rfl
theorem unp_l0 (len : Int) (hl0 : 0 ≤ len) (hl1 : len ≤ 9223372036854775807) : ∀ (n : Nat) (x0 : ByteArray) (out : List Int), x0.size ≤ n → out.length + 131 * x0.size < 140737488355328 → Ev (fun k => lz_Unpack.l0 k x0 len out) (said (unpackL n (bytesOf x0) len out)) := by
  have hfin : ∀ (x0 : ByteArray) (out : List Int), bytesOf x0 = [] → Ev (fun k => lz_Unpack.l0 k x0 len out) (said (fin len out)) := by
    intro x0 out h
    refine Ev.step (f := fun _ => some (said (fin len out))) (fun k => ?_) (Ev.now _)
    rw [lz_Unpack.l0, if_pos ((toList_nil x0).2 h)]
    unfold fin
    split <;> rfl
  intro n
  induction n with
  | zero =>
    intro x0 out hn hb
    exact hfin x0 out (List.eq_nil_of_length_eq_zero (by rw [bytesOf_length]; omega))
  | succ n ih =>
    intro x0 out hn hb
    unfold unpackL
    by_cases h0 : bytesOf x0 = []
    · rw [if_pos h0]; exact hfin x0 out h0
    · rw [if_neg h0]
      have hne : ¬ x0.toList = ([] : List UInt8) := fun e => h0 ((toList_nil x0).1 e)
      have hsz : 0 < x0.size := by
        rw [← bytesOf_length]; exact List.length_pos_iff.2 h0
      have hk := fun k => lz_Unpack.l0 (k + 1) x0 len out
      have htz := tokL_zero (bytesOf x0) (byte_range x0)
      have hlb := lits_bytes (bytesOf x0) (bytes_ok x0)
      have hts := token_some x0 hsz (by omega)
      rw [bytesOf_length] at htz
      have hdrop : ∀ m : Nat, bytesOf (x0.extract m x0.size) = (bytesOf x0).drop m := fun m => by rw [bytesOf_extract, List.take_of_length_le (by rw [List.length_drop, bytesOf_length]; omega)]
      generalize tokL (bytesOf x0) = t at *
      obtain ⟨lits, tl, td, tn⟩ := t
      dsimp only at htz hlb hts ⊢
      have hlsz : (strOfNums lits).size = lits.length := Go.strOfNums_size _
      by_cases hn0 : tn = 0
      · rw [if_pos hn0]
        refine Ev.step (f := fun _ => some (said ([], 20))) (fun k => ?_) (Ev.now _)
        rw [lz_Unpack.l0, if_neg hne, hts, Option.bind_some]
        simp only [hn0, if_true]; rfl
      · rw [if_neg hn0]
        have htn : 2 ≤ tn ∧ tn ≤ x0.size ∧ tn ≤ 130 := by rcases htz with h | h; exact absurd h.1 hn0; exact ⟨h.1, h.2.1, h.2.2.1⟩
        have hcase : (tl = 0 ∧ td = 0 ∧ (lits.length : Int) + 1 = tn) ∨ (4 ≤ tl ∧ tl ≤ 131 ∧ 0 ≤ td ∧ td ≤ 65535 ∧ lits = [] ∧ tn = 3) := by rcases htz with h | h; exact absurd h.1 hn0; exact h.2.2.2
        have hll : (lits.length : Int) ≤ tn := by rcases hcase with h | h; omega; rw [h.2.2.2.2.1]; simp; omega
        have hsuf : (x0.extract tn.toNat x0.size).size = x0.size - tn.toNat := by rw [ByteArray.size_extract]; omega
        have j2 : ∀ (b : Bool) (R : ByteArray × Int), Ev (fun k => lz_Unpack.j2 k (x0.extract tn.toNat x0.size) len out b (strOfNums lits) tl td) R →
            (b = decide (0 < tl ∧ (td < 1 ∨ 8192 < td ∨ (out.length : Int) < td))) → Ev (fun k => lz_Unpack.l0 k x0 len out) R := by
          intro b R hR hb
          refine Ev.step (f := fun k => lz_Unpack.j2 k (x0.extract tn.toNat x0.size) len out b (strOfNums lits) tl td) (fun k => ?_) hR
          rw [lz_Unpack.l0, if_neg hne, hts, Option.bind_some]
          simp only [if_neg hn0]
          rw [if_pos (by omega), if_pos (by omega)]
          by_cases h1 : tl > 0
          · rw [if_pos h1]
            by_cases h2 : td < 1
            · rw [if_pos h2]; rw [show b = true from by rw [hb, decide_eq_true_iff]; omega]
            · rw [if_neg h2]
              by_cases h3 : td > 8192
              · rw [if_pos h3]; rw [show b = true from by rw [hb, decide_eq_true_iff]; omega]
              · rw [if_neg h3]
                have : b = decide (td > (out.length : Int)) := by rw [hb, decide_eq_decide]; omega
                rw [this]
          · rw [if_neg h1]; rw [show b = false from by rw [hb, decide_eq_false_iff_not]; omega]
        by_cases hbad : 0 < tl ∧ (td < 1 ∨ 8192 < td ∨ (out.length : Int) < td)
        · rw [if_pos hbad]
          refine j2 true _ (Ev.step (f := fun _ => some (said ([], 25))) (fun k => ?_) (Ev.now _)) (by rw [decide_eq_true hbad])
          rw [lz_Unpack.j2, if_pos rfl]; rfl
        · rw [if_neg hbad]
          have hw1 : wrap64 (((strOfNums lits).size : Int) + tl) = (lits.length : Int) + tl := by rw [hlsz]; exact wrap_id (by omega) (by omega)
          have hw2 : wrap64 (len - (out.length : Int)) = len - out.length := wrap_id (by omega) (by omega)
          by_cases hleft : len - out.length < (lits.length : Int) + tl
          · rw [if_pos hleft]
            refine j2 false _ (Ev.step (f := fun _ => some (said ([], 22))) (fun k => ?_) (Ev.now _)) (by rw [decide_eq_false hbad])
            rw [lz_Unpack.j2, if_neg (by simp), hw1, hw2, if_pos hleft]; rfl
          · rw [if_neg hleft]
            refine j2 false _ (Ev.step (f := fun k => lz_Unpack.l1 k (x0.extract tn.toNat x0.size) len (out ++ lits) tl 0 (strOfNums lits) tl td) (fun k => ?_) ?_) (by rw [decide_eq_false hbad])
            · rw [lz_Unpack.j2, if_neg (by simp), hw1, hw2, if_neg hleft, hlsz, if_pos (by omega), bytesOf_nums hlb]
            · have hrec := ih (x0.extract tn.toNat x0.size) (copyN tl.toNat td.toNat (out ++ lits)) (by rw [hsuf]; omega) (by rw [copyN_len, hsuf, List.length_append]; omega)
              rw [hdrop] at hrec
              rcases hcase with ⟨rfl, rfl, hc⟩ | ⟨h4, h131, h0d, _, rfl, rfl⟩
              · refine Ev.step (f := fun k => lz_Unpack.l0 k (x0.extract tn.toNat x0.size) len (out ++ lits)) (fun k => ?_) hrec
                rw [lz_Unpack.l1, if_neg (by omega)]
              · exact unp_l1 _ len tl td _ tl _ (by omega) (by omega) tl.toNat 0 (out ++ []) (by omega) (by rw [List.append_nil]; omega) (by rw [List.append_nil]; omega) hrec
theorem lzUnpack_ev (S : ByteArray) (len most : Int) (h1 : -9223372036854775808 ≤ len) (h2 : len ≤ 9223372036854775807) (hS : 131 * S.size < 140737488355328) : Ev (fun k => lz_Unpack.f k S len most) (said (unpack (bytesOf S) len most)) := by
  have j0 : ∀ (b : Bool) (R : ByteArray × Int), (b = true → R = said ([], 66)) → (b = false → 0 ≤ len ∧ R = said (unpackL S.size (bytesOf S) len [])) → Ev (fun k => lz_Unpack.j0 k S len b) R := by
    intro b R ht hf
    cases b with
    | true =>
      rw [ht rfl]
      exact Ev.step (f := fun _ => some (said ([], 66))) (fun k => by rw [lz_Unpack.j0, if_pos rfl]; rfl) (Ev.now _)
    | false =>
      obtain ⟨h0, rfl⟩ := hf rfl
      refine Ev.step (f := fun k => lz_Unpack.l0 k S len []) (fun k => ?_) (unp_l0 len h0 h2 S.size S [] (Nat.le_refl _) (by simpa using hS))
      have hm : 0 ≤ mn len 4096 ∧ mn len 4096 ≤ 4096 := by unfold mn; omega
      rw [lz_Unpack.j0, if_neg (by simp), if_pos hm.1, if_pos (by omega)]
      rfl
  unfold lz_Unpack.f unpack
  by_cases hl : len < 0
  · simp only [hl, true_or, if_true]
    exact j0 true _ (fun _ => rfl) (fun h => by cases h)
  · simp only [hl, false_or, if_false]
    by_cases hm : most < len
    · simp only [hm, if_true, gt_iff_lt, decide_true]
      exact j0 true _ (fun _ => rfl) (fun h => by cases h)
    · simp only [hm, if_false, gt_iff_lt, decide_false]
      exact j0 false _ (fun h => by cases h) (fun _ => ⟨by omega, by rw [bytesOf_length]⟩)
end Go.Proofs.Ytgnoaokpahklaaa.Lzt
