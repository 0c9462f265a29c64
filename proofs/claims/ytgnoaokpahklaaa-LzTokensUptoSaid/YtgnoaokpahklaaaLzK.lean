/- Merged: YtgnoaokpahklaaaLzt, YtgnoaokpahklaaaLzv, YtgnoaokpahklaaaLzb, YtgnoaokpahklaaaLzf, YtgnoaokpahklaaaLzx, YtgnoaokpahklaaaLzg, YtgnoaokpahklaaaLzh. -/
import Derived.Test.YtgnoaokpahklaaaLzM
import Derived.Test.YtgnoaokpahklaaaVm
import Derived.Test.YtgnoaokpahklaaaQBf19
import Derived.Laws.BitsLemmas
import Derived.Test.YtgnoaokpahklaaaQBf35
import Derived.Test.YtgnoaokpahklaaaQBf12
import Derived.Test.YtgnoaokpahklaaaQBf13
import Derived.Test.YtgnoaokpahklaaaQBf26
import Derived.Test.YtgnoaokpahklaaaQBf22
import Derived.Test.YtgnoaokpahklaaaQBf25
import Derived.Test.YtgnoaokpahklaaaQBf27
/- The plain law of layer 4's tokens: what bytes are as tokens, and what they unpack to; and that the program and the reference do just that. -/
namespace Go.Proofs.Ytgnoaokpahklaaa.Lzt
open Go Go.RowKit Go.Lib Go.Proofs.Ytgnoaokpahklaaa.Lzm Go.Proofs.Ytgnoaokpahklaaa.Lzw Go.Proofs.YtgnoaokpahklaaaW.PrintWords Go.Proofs.Ytgnoaokpahklaaa.QB Go.Proofs.YtgnoaokpahklaaaW.PrintLast Go.Proofs.YtgnoaokpahklaaaW.PrintMore Go.Proofs.Ytgnoaokpahklaaa.Vm
open Go.Proofs.Ytgnoaokpahklaaa.Lzp (litB litB_nil litB_cons litB_len matB packB packF size_toList toList_nil_iff)
set_option linter.unusedVariables false
set_option linter.unusedSimpArgs false

/-- The first token of bytes: its literals, its match's length and distance, how many bytes it has; 0: they end within it. -/
def tokL (l : List Int) : List Int × Int × Int × Int :=
  if l.getD 0 0 < 128 then (if (l.length : Int) < l.getD 0 0 + 2 then ([], 0, 0, 0) else ((l.drop 1).take (l.getD 0 0 + 1).toNat, 0, 0, l.getD 0 0 + 2))
  else if l.length < 3 then ([], 0, 0, 0) else ([], l.getD 0 0 - 124, l.getD 1 0 * 256 + l.getD 2 0, 3)
theorem bt_getD (s : ByteArray) (i : Nat) : bt s (i : Int) = (bytesOf s).getD i 0 := by
  rw [← rd_bytesOf]; unfold rd; rw [Int.toNat_natCast]
theorem byte_range (s : ByteArray) (i : Nat) : 0 ≤ (bytesOf s).getD i 0 ∧ (bytesOf s).getD i 0 ≤ 255 := by
  rw [← bt_getD]; exact bt_range s i
theorem or_i64 (v c : Int) (h0 : 0 ≤ v) (h1 : v < 256) (c0 : 0 ≤ c) (c1 : c < 256) : bits .or .i64 (v * 256) c = v * 256 + c := by
  have h := bits_join .i64 63 (by decide) (fun n a b => IntWalk.i64_in n (by omega)) 8 (v * 256) c (by omega) (by omega) (by omega) c0 (by omega) (by omega)
  rw [h]
theorem nums_bytes (s : ByteArray) : strOfNums (bytesOf s) = s := bytesOf_inj (bytesOf_nums (bytes_ok s))
theorem token_some (x : ByteArray) (h : 0 < x.size) (hs : x.size ≤ 140737488355328) : lz_token.f x = some (strOfNums (tokL (bytesOf x)).1, (tokL (bytesOf x)).2.1, (tokL (bytesOf x)).2.2.1, (tokL (bytesOf x)).2.2.2) := by
  have b0 := byte_range x 0
  have b1 := byte_range x 1
  have b2 := byte_range x 2
  have e0 : bt x 0 = (bytesOf x).getD 0 0 := bt_getD x 0
  have e1 : bt x 1 = (bytesOf x).getD 1 0 := bt_getD x 1
  have e2 : bt x 2 = (bytesOf x).getD 2 0 := bt_getD x 2
  have hl := bytesOf_length x
  have hx : ∀ c : Int, 0 ≤ c → x.extract 1 (c + 2).toNat = strOfNums (((bytesOf x).drop 1).take (c + 1).toNat) := by
    intro c hc
    rw [← nums_bytes (x.extract 1 _), bytesOf_extract]
    congr 2
    omega
  unfold lz_token.f tokL
  rw [if_pos (by omega), e0, e1, e2, hl]
  generalize (bytesOf x).getD 0 0 = c0 at *
  generalize (bytesOf x).getD 1 0 = c1 at *
  generalize (bytesOf x).getD 2 0 = c2 at *
  rw [wrap_id (x := c0) (by omega) (by omega), wrap_id (x := c1) (by omega) (by omega), wrap_id (x := c2) (by omega) (by omega), wrap_id (x := c0 + 2) (by omega) (by omega), wrap_id (x := c0 - 128) (by omega) (by omega), wrap_id (x := c0 - 128 + 4) (by omega) (by omega), wrap_id (x := c1 * 256) (by omega) (by omega), or_i64 _ _ (by omega) (by omega) (by omega) (by omega), show c0 - 128 + 4 = c0 - 124 from by omega]
  by_cases h1 : c0 < 128
  · rw [if_pos h1, if_pos h1]
    by_cases h2 : (x.size : Int) < c0 + 2
    · rw [if_pos h2, if_pos h2]; rfl
    · rw [if_neg h2, if_neg h2, if_pos (by omega), if_pos (by omega), hx c0 (by omega)]
  · rw [if_neg h1, if_neg h1]
    by_cases h2 : x.size < 3
    · rw [if_pos (by omega), if_pos h2]; rfl
    · rw [if_neg (by omega), if_neg h2, if_pos (by omega), if_pos (by omega)]; rfl
/-- What is wrong with a token by itself. -/
def tokE (t : List Int × Int × Int × Int) : Int := if t.2.2.2 = 0 then 20 else if 0 < t.2.1 ∧ (t.2.2.1 < 1 ∨ 8192 < t.2.2.1) then 25 else 0
theorem tokL_zero (l : List Int) (hb : ∀ i, 0 ≤ l.getD i 0 ∧ l.getD i 0 ≤ 255) : ((tokL l).2.2.2 = 0 ∧ tokL l = ([], 0, 0, 0)) ∨ (2 ≤ (tokL l).2.2.2 ∧ (tokL l).2.2.2 ≤ l.length ∧ (tokL l).2.2.2 ≤ 130 ∧ (((tokL l).2.1 = 0 ∧ (tokL l).2.2.1 = 0 ∧ ((tokL l).1.length : Int) + 1 = (tokL l).2.2.2) ∨ (4 ≤ (tokL l).2.1 ∧ (tokL l).2.1 ≤ 131 ∧ 0 ≤ (tokL l).2.2.1 ∧ (tokL l).2.2.1 ≤ 65535 ∧ (tokL l).1 = [] ∧ (tokL l).2.2.2 = 3))) := by
  have b0 := hb 0
  have b1 := hb 1
  have b2 := hb 2
  unfold tokL
  by_cases h1 : l.getD 0 0 < 128
  · rw [if_pos h1]
    by_cases h2 : (l.length : Int) < l.getD 0 0 + 2
    · rw [if_pos h2]; exact .inl ⟨rfl, rfl⟩
    · rw [if_neg h2]
      refine .inr ⟨?_, ?_, ?_, .inl ⟨rfl, rfl, ?_⟩⟩
      · show 2 ≤ l.getD 0 0 + 2; omega
      · show l.getD 0 0 + 2 ≤ (l.length : Int); omega
      · show l.getD 0 0 + 2 ≤ 130; omega
      · show (((l.drop 1).take (l.getD 0 0 + 1).toNat).length : Int) + 1 = l.getD 0 0 + 2
        rw [List.length_take, List.length_drop]; omega
  · rw [if_neg h1]
    by_cases h2 : l.length < 3
    · rw [if_pos h2]; exact .inl ⟨rfl, rfl⟩
    · rw [if_neg h2]
      refine .inr ⟨?_, ?_, ?_, .inr ⟨?_, ?_, ?_, ?_, rfl, rfl⟩⟩
      · show (2 : Int) ≤ 3; omega
      · show (3 : Int) ≤ l.length; omega
      · show (3 : Int) ≤ 130; omega
      · show 4 ≤ l.getD 0 0 - 124; omega
      · show l.getD 0 0 - 124 ≤ 131; omega
      · show 0 ≤ l.getD 1 0 * 256 + l.getD 2 0; omega
      · show l.getD 1 0 * 256 + l.getD 2 0 ≤ 65535; omega

/-! Unpacking. -/
def copyN : Nat → Nat → List Int → List Int
  | 0, _, xs => xs
  | m + 1, d, xs => copyN m d (xs ++ [xs.getD (xs.length - d) 0])
theorem copyN_len : ∀ m d xs, (copyN m d xs).length = xs.length + m
  | 0, _, _ => rfl
  | m + 1, d, xs => by unfold copyN; rw [copyN_len m]; simp; omega
def fin (len : Int) (out : List Int) : List Int × Int := if (out.length : Int) < len then ([], 20) else (out, 0)
/-- What bytes unpack to. -/
def unpackL : Nat → List Int → Int → List Int → List Int × Int
  | 0, _, len, out => fin len out
  | f + 1, l, len, out =>
    if l = [] then fin len out
    else if (tokL l).2.2.2 = 0 then ([], 20)
    else if 0 < (tokL l).2.1 ∧ ((tokL l).2.2.1 < 1 ∨ 8192 < (tokL l).2.2.1 ∨ (out.length : Int) < (tokL l).2.2.1) then ([], 25)
    else if len - out.length < ((tokL l).1.length : Int) + (tokL l).2.1 then ([], 22)
    else unpackL f (l.drop (tokL l).2.2.2.toNat) len (copyN (tokL l).2.1.toNat (tokL l).2.2.1.toNat (out ++ (tokL l).1))
def unpack (l : List Int) (len most : Int) : List Int × Int := if len < 0 ∨ most < len then ([], 66) else unpackL l.length l len []
def said (r : List Int × Int) : ByteArray × Int := (strOfNums r.1, r.2)
theorem lits_bytes (l : List Int) (hb : ∀ x ∈ l, 0 ≤ x ∧ x < 256) : ∀ x ∈ (tokL l).1, 0 ≤ x ∧ x < 256 := by
  intro x hx
  unfold tokL at hx
  split at hx
  · split at hx
    · simp at hx
    · exact hb x (List.mem_of_mem_drop (List.mem_of_mem_take hx))
  · split at hx <;> simp at hx
theorem getD_range {l : List Int} (hb : ∀ x ∈ l, 0 ≤ x ∧ x < 256) (i : Nat) : 0 ≤ l.getD i 0 ∧ l.getD i 0 ≤ 255 := by
  rw [List.getD_eq_getElem?_getD]
  by_cases h : i < l.length
  · rw [List.getElem?_eq_getElem h]
    have := hb _ (List.getElem_mem h)
    simp only [Option.getD_some]; omega
  · rw [List.getElem?_eq_none (by omega)]; simp
theorem rd_last (xs : List Int) (d : Int) (h1 : 1 ≤ d) (h2 : d ≤ xs.length) : rd xs ((xs.length : Int) - d) = xs.getD (xs.length - d.toNat) 0 := by
  unfold rd; congr 1; omega
theorem unp_l1 (x0 : ByteArray) (len tl d : Int) (l0 : ByteArray) (tl0 : Int) (R : ByteArray × Int) (hd : 1 ≤ d) (ht : tl ≤ 140737488355328) : ∀ (m i : Nat) (xs : List Int), (i : Int) + m = tl → d ≤ xs.length → xs.length + m < 140737488355328 →
    Ev (fun k => lz_Unpack.l0 k x0 len (copyN m d.toNat xs)) R → Ev (fun k => lz_Unpack.l1 k x0 len xs tl (i : Int) l0 tl0 d) R := by
  intro m
  induction m with
  | zero =>
    intro i xs hi hx hb h
    refine Ev.step (f := fun k => lz_Unpack.l0 k x0 len xs) (fun k => ?_) h
    rw [lz_Unpack.l1, if_neg (by omega)]
  | succ m ih =>
    intro i xs hi hx hb h
    refine Ev.step (f := fun k => lz_Unpack.l1 k x0 len (xs ++ [xs.getD (xs.length - d.toNat) 0]) tl ((i + 1 : Nat) : Int) l0 tl0 d) (fun k => ?_) (ih (i + 1) _ (by omega) (by simp; omega) (by simp; omega) h)
    rw [lz_Unpack.l1, if_pos (by omega), wrap_id (by omega) (by omega), if_pos (by omega), if_pos (by omega), if_pos (by omega), rd_last xs d hd hx, wrap_id (by omega) (by omega)]
    rfl
theorem toList_nil (x : ByteArray) : x.toList = ([] : List UInt8) ↔ bytesOf x = [] := by
  rw [toList_nil_iff]
  constructor
  · intro h; exact List.eq_nil_of_length_eq_zero (by rw [bytesOf_length]; exact h)
  · intro h; have := bytesOf_length x; rw [h] at this; simpa using this.symm
theorem empty_nums : strOfNums [] = (⟨#[]⟩ : ByteArray) := rfl
theorem unp_l0 (len : Int) (hl0 : 0 ≤ len) (hl1 : len ≤ 9223372036854775807) : ∀ (n : Nat) (x0 : ByteArray) (out : List Int), x0.size ≤ n → out.length + 131 * x0.size < 140737488355328 → Ev (fun k => lz_Unpack.l0 k x0 len out) (said (unpackL n (bytesOf x0) len out)) := by
  have hfin : ∀ (x0 : ByteArray) (out : List Int), bytesOf x0 = [] → Ev (fun k => lz_Unpack.l0 k x0 len out) (said (fin len out)) := by
    intro x0 out h
    refine Ev.step (f := fun _ => some (said (fin len out))) (fun k => ?_) (Ev.now _)
    rw [lz_Unpack.l0, if_pos ((toList_nil x0).2 h)]
    unfold fin
    split <;> rfl
  intro n
  induction n with
  | zero =>
    intro x0 out hn hb
    exact hfin x0 out (List.eq_nil_of_length_eq_zero (by rw [bytesOf_length]; omega))
  | succ n ih =>
    intro x0 out hn hb
    unfold unpackL
    by_cases h0 : bytesOf x0 = []
    · rw [if_pos h0]; exact hfin x0 out h0
    · rw [if_neg h0]
      have hne : ¬ x0.toList = ([] : List UInt8) := fun e => h0 ((toList_nil x0).1 e)
      have hsz : 0 < x0.size := by
        rw [← bytesOf_length]; exact List.length_pos_iff.2 h0
      have hk := fun k => lz_Unpack.l0 (k + 1) x0 len out
      have htz := tokL_zero (bytesOf x0) (byte_range x0)
      have hlb := lits_bytes (bytesOf x0) (bytes_ok x0)
      have hts := token_some x0 hsz (by omega)
      rw [bytesOf_length] at htz
      have hdrop : ∀ m : Nat, bytesOf (x0.extract m x0.size) = (bytesOf x0).drop m := fun m => by rw [bytesOf_extract, List.take_of_length_le (by rw [List.length_drop, bytesOf_length]; omega)]
      generalize tokL (bytesOf x0) = t at *
      obtain ⟨lits, tl, td, tn⟩ := t
      dsimp only at htz hlb hts ⊢
      have hlsz : (strOfNums lits).size = lits.length := Go.strOfNums_size _
      by_cases hn0 : tn = 0
      · rw [if_pos hn0]
        refine Ev.step (f := fun _ => some (said ([], 20))) (fun k => ?_) (Ev.now _)
        rw [lz_Unpack.l0, if_neg hne, hts, Option.bind_some]
        simp only [hn0, if_true]; rfl
      · rw [if_neg hn0]
        have htn : 2 ≤ tn ∧ tn ≤ x0.size ∧ tn ≤ 130 := by rcases htz with h | h; exact absurd h.1 hn0; exact ⟨h.1, h.2.1, h.2.2.1⟩
        have hcase : (tl = 0 ∧ td = 0 ∧ (lits.length : Int) + 1 = tn) ∨ (4 ≤ tl ∧ tl ≤ 131 ∧ 0 ≤ td ∧ td ≤ 65535 ∧ lits = [] ∧ tn = 3) := by rcases htz with h | h; exact absurd h.1 hn0; exact h.2.2.2
        have hll : (lits.length : Int) ≤ tn := by rcases hcase with h | h; omega; rw [h.2.2.2.2.1]; simp; omega
        have hsuf : (x0.extract tn.toNat x0.size).size = x0.size - tn.toNat := by rw [ByteArray.size_extract]; omega
        have j2 : ∀ (b : Bool) (R : ByteArray × Int), Ev (fun k => lz_Unpack.j2 k (x0.extract tn.toNat x0.size) len out b (strOfNums lits) tl td) R →
            (b = decide (0 < tl ∧ (td < 1 ∨ 8192 < td ∨ (out.length : Int) < td))) → Ev (fun k => lz_Unpack.l0 k x0 len out) R := by
          intro b R hR hb
          refine Ev.step (f := fun k => lz_Unpack.j2 k (x0.extract tn.toNat x0.size) len out b (strOfNums lits) tl td) (fun k => ?_) hR
          rw [lz_Unpack.l0, if_neg hne, hts, Option.bind_some]
          simp only [if_neg hn0]
          rw [if_pos (by omega), if_pos (by omega)]
          by_cases h1 : tl > 0
          · rw [if_pos h1]
            by_cases h2 : td < 1
            · rw [if_pos h2]; rw [show b = true from by rw [hb, decide_eq_true_iff]; omega]
            · rw [if_neg h2]
              by_cases h3 : td > 8192
              · rw [if_pos h3]; rw [show b = true from by rw [hb, decide_eq_true_iff]; omega]
              · rw [if_neg h3]
                have : b = decide (td > (out.length : Int)) := by rw [hb, decide_eq_decide]; omega
                rw [this]
          · rw [if_neg h1]; rw [show b = false from by rw [hb, decide_eq_false_iff_not]; omega]
        by_cases hbad : 0 < tl ∧ (td < 1 ∨ 8192 < td ∨ (out.length : Int) < td)
        · rw [if_pos hbad]
          refine j2 true _ (Ev.step (f := fun _ => some (said ([], 25))) (fun k => ?_) (Ev.now _)) (by rw [decide_eq_true hbad])
          rw [lz_Unpack.j2, if_pos rfl]; rfl
        · rw [if_neg hbad]
          have hw1 : wrap64 (((strOfNums lits).size : Int) + tl) = (lits.length : Int) + tl := by rw [hlsz]; exact wrap_id (by omega) (by omega)
          have hw2 : wrap64 (len - (out.length : Int)) = len - out.length := wrap_id (by omega) (by omega)
          by_cases hleft : len - out.length < (lits.length : Int) + tl
          · rw [if_pos hleft]
            refine j2 false _ (Ev.step (f := fun _ => some (said ([], 22))) (fun k => ?_) (Ev.now _)) (by rw [decide_eq_false hbad])
            rw [lz_Unpack.j2, if_neg (by simp), hw1, hw2, if_pos hleft]; rfl
          · rw [if_neg hleft]
            refine j2 false _ (Ev.step (f := fun k => lz_Unpack.l1 k (x0.extract tn.toNat x0.size) len (out ++ lits) tl 0 (strOfNums lits) tl td) (fun k => ?_) ?_) (by rw [decide_eq_false hbad])
            · rw [lz_Unpack.j2, if_neg (by simp), hw1, hw2, if_neg hleft, hlsz, if_pos (by omega), bytesOf_nums hlb]
            · have hrec := ih (x0.extract tn.toNat x0.size) (copyN tl.toNat td.toNat (out ++ lits)) (by rw [hsuf]; omega) (by rw [copyN_len, hsuf, List.length_append]; omega)
              rw [hdrop] at hrec
              rcases hcase with ⟨rfl, rfl, hc⟩ | ⟨h4, h131, h0d, _, rfl, rfl⟩
              · refine Ev.step (f := fun k => lz_Unpack.l0 k (x0.extract tn.toNat x0.size) len (out ++ lits)) (fun k => ?_) hrec
                rw [lz_Unpack.l1, if_neg (by omega)]
              · exact unp_l1 _ len tl td _ tl _ (by omega) (by omega) tl.toNat 0 (out ++ []) (by omega) (by rw [List.append_nil]; omega) (by rw [List.append_nil]; omega) hrec
theorem lzUnpack_ev (S : ByteArray) (len most : Int) (h1 : -9223372036854775808 ≤ len) (h2 : len ≤ 9223372036854775807) (hS : 131 * S.size < 140737488355328) : Ev (fun k => lz_Unpack.f k S len most) (said (unpack (bytesOf S) len most)) := by
  have j0 : ∀ (b : Bool) (R : ByteArray × Int), (b = true → R = said ([], 66)) → (b = false → 0 ≤ len ∧ R = said (unpackL S.size (bytesOf S) len [])) → Ev (fun k => lz_Unpack.j0 k S len b) R := by
    intro b R ht hf
    cases b with
    | true =>
      rw [ht rfl]
      exact Ev.step (f := fun _ => some (said ([], 66))) (fun k => by rw [lz_Unpack.j0, if_pos rfl]; rfl) (Ev.now _)
    | false =>
      obtain ⟨h0, rfl⟩ := hf rfl
      refine Ev.step (f := fun k => lz_Unpack.l0 k S len []) (fun k => ?_) (unp_l0 len h0 h2 S.size S [] (Nat.le_refl _) (by simpa using hS))
      have hm : 0 ≤ mn len 4096 ∧ mn len 4096 ≤ 4096 := by unfold mn; omega
      rw [lz_Unpack.j0, if_neg (by simp), if_pos hm.1, if_pos (by omega)]
      rfl
  unfold lz_Unpack.f unpack
  by_cases hl : len < 0
  · simp only [hl, true_or, if_true]
    exact j0 true _ (fun _ => rfl) (fun h => by cases h)
  · simp only [hl, false_or, if_false]
    by_cases hm : most < len
    · simp only [hm, if_true, gt_iff_lt, decide_true]
      exact j0 true _ (fun _ => rfl) (fun h => by cases h)
    · simp only [hm, if_false, gt_iff_lt, decide_false]
      exact j0 false _ (fun h => by cases h) (fun _ => ⟨by omega, by rw [bytesOf_length]⟩)
end Go.Proofs.Ytgnoaokpahklaaa.Lzt
/- The reference's tokens in layer 4. -/
namespace Go.Proofs.Ytgnoaokpahklaaa.Lzv
open Go Go.RowKit Go.Lib Go.Proofs.Ytgnoaokpahklaaa.Lzm Go.Proofs.Ytgnoaokpahklaaa.Lzw Go.Proofs.YtgnoaokpahklaaaW.PrintWords Go.Proofs.Ytgnoaokpahklaaa.QB Go.Proofs.YtgnoaokpahklaaaW.PrintLast Go.Proofs.YtgnoaokpahklaaaW.PrintMore Go.Proofs.Ytgnoaokpahklaaa.Vm Go.Proofs.Ytgnoaokpahklaaa.Lzt
open Go.Proofs.Ytgnoaokpahklaaa.Lzp (litB litB_nil litB_cons litB_len matB packB packF size_toList toList_nil_iff)
set_option linter.unusedVariables false
set_option linter.unusedSimpArgs false

theorem first_some (x : ByteArray) (h : 0 < x.size) (hs : x.size ≤ 140737488355328) : gantryref04_first.f x = some (if tokE (tokL (bytesOf x)) = 0 then (strOfNums (tokL (bytesOf x)).1, (tokL (bytesOf x)).2.1, (tokL (bytesOf x)).2.2.1, (tokL (bytesOf x)).2.2.2, 0) else ((⟨#[]⟩ : ByteArray), 0, 0, 0, tokE (tokL (bytesOf x)))) := by
  have b0 := byte_range x 0
  have b1 := byte_range x 1
  have b2 := byte_range x 2
  have e0 : bt x 0 = (bytesOf x).getD 0 0 := bt_getD x 0
  have e1 : bt x 1 = (bytesOf x).getD 1 0 := bt_getD x 1
  have e2 : bt x 2 = (bytesOf x).getD 2 0 := bt_getD x 2
  have hl := bytesOf_length x
  have hx : ∀ c : Int, 0 ≤ c → x.extract 1 (c + 2).toNat = strOfNums (((bytesOf x).drop 1).take (c + 1).toNat) := by
    intro c hc
    rw [← nums_bytes (x.extract 1 _), bytesOf_extract]
    congr 2
    omega
  unfold gantryref04_first.f tokL
  rw [if_pos (by omega), e0, e1, e2, hl]
  generalize (bytesOf x).getD 0 0 = c0 at *
  generalize (bytesOf x).getD 1 0 = c1 at *
  generalize (bytesOf x).getD 2 0 = c2 at *
  rw [wrap_id (x := c0) (by omega) (by omega), wrap_id (x := c1) (by omega) (by omega), wrap_id (x := c2) (by omega) (by omega), wrap_id (x := c0 + 2) (by omega) (by omega), wrap_id (x := c0 - 124) (by omega) (by omega), wrap_id (x := c1 * 256) (by omega) (by omega), wrap_id (x := c1 * 256 + c2) (by omega) (by omega)]
  generalize hd : c1 * 256 + c2 = d at *
  by_cases h1 : c0 < 128
  · rw [if_pos h1, if_pos h1]
    by_cases h2 : (x.size : Int) < c0 + 2
    · rw [if_pos h2, if_pos h2]; simp [tokE]
    · rw [if_neg h2, if_neg h2, if_pos (by omega), if_pos (by omega), hx c0 (by omega)]
      have h3 : ¬ c0 + 2 = 0 := by omega
      simp [tokE, h3]
  · rw [if_neg h1, if_neg h1]
    by_cases h2 : x.size < 3
    · rw [if_pos (by omega), if_pos h2]; simp [tokE]
    · rw [if_neg (by omega), if_neg h2, if_pos (by omega), if_pos (by omega)]
      have h4 : 0 < c0 - 124 := by omega
      by_cases hd0 : d = 0
      · subst hd0
        have ht : tokE (([] : List Int), c0 - 124, (0 : Int), (3 : Int)) = 25 := by
          show (if (3 : Int) = 0 then (20 : Int) else if 0 < c0 - 124 ∧ ((0 : Int) < 1 ∨ (8192 : Int) < 0) then 25 else 0) = 25
          rw [if_neg (by omega), if_pos ⟨h4, .inl (by omega)⟩]
        rw [ht, if_pos rfl, if_neg (by omega)]
      · rw [if_neg hd0]
        by_cases hd8 : d > 8192
        · have h5 : d < 1 ∨ 8192 < d := .inr hd8
          have ht : tokE (([] : List Int), c0 - 124, d, (3 : Int)) = 25 := by
            show (if (3 : Int) = 0 then (20 : Int) else if 0 < c0 - 124 ∧ (d < 1 ∨ 8192 < d) then 25 else 0) = 25
            rw [if_neg (by omega), if_pos ⟨h4, h5⟩]
          rw [if_pos hd8, ht, if_neg (by omega)]
        · have h5 : ¬ (d < 1 ∨ 8192 < d) := by omega
          have ht : tokE (([] : List Int), c0 - 124, d, (3 : Int)) = 0 := by
            show (if (3 : Int) = 0 then (20 : Int) else if 0 < c0 - 124 ∧ (d < 1 ∨ 8192 < d) then 25 else 0) = 0
            rw [if_neg (by omega), if_neg (fun e => h5 e.2)]
          rw [if_neg hd8, ht, if_pos rfl]; rfl
end Go.Proofs.Ytgnoaokpahklaaa.Lzv
/- The best match of layer 4: the program's and the reference's; the fixed answers. -/
namespace Go.Proofs.Ytgnoaokpahklaaa.Lzb
open Go Go.RowKit Go.Lib Go.Proofs.Ytgnoaokpahklaaa.Lzm Go.Proofs.Ytgnoaokpahklaaa.Lzw Go.Proofs.YtgnoaokpahklaaaW.PrintWords Go.Proofs.Ytgnoaokpahklaaa.QB Go.Proofs.YtgnoaokpahklaaaW.PrintLast Go.Proofs.YtgnoaokpahklaaaW.PrintMore Go.Proofs.Ytgnoaokpahklaaa.Vm Go.Proofs.Ytgnoaokpahklaaa.Lzt
open Go.Proofs.Ytgnoaokpahklaaa.Lzp (litB litB_nil litB_cons litB_len matB packB packF size_toList toList_nil_iff)
set_option linter.unusedVariables false
set_option linter.unusedSimpArgs false

def bestI (S : ByteArray) (a : Int) : Int × Int := if a < 0 ∨ (S.size : Int) ≤ a then (0, 0) else (((bestAt (gb S) S.size a.toNat).1 : Int), ((bestAt (gb S) S.size a.toNat).2 : Int))
theorem alike_same : ∀ (k : Nat) (S : ByteArray) (a b n m : Int), lz_alike.l0 k S a b n m = QA.lz_alike.l0 k S a b n m
  | 0, _, _, _, _, _ => rfl
  | k + 1, S, a, b, n, m => by rw [lz_alike.l0, QA.lz_alike.l0, alike_same k]
theorem alike_ev' (S : ByteArray) (hS : S.size ≤ 140737488355328) (q p : Nat) (hq : q < p) (hp : p ≤ S.size) : Ev (fun k => lz_alike.f k S (q : Int) (p : Int)) ((aln (gb S) S.size q p : Nat) : Int) := by
  refine Ev.congr (fun k => ?_) (Lzw.alike_ev S hS q p hq hp)
  exact alike_same k _ _ _ _ _
theorem lzBest_l0 (S : ByteArray) (hS : S.size ≤ 140737488355328) (p : Nat) (hp : p < S.size) : ∀ (r m : Nat), m + r = min p 8192 → ∀ n d : Nat, best (gb S) S.size p 4 m = (n, d) →
    Ev (fun k => lz_Best.l0 k S (p : Int) (n : Int) (d : Int) ((m + 1 : Nat) : Int)) (((bestAt (gb S) S.size p).1 : Int), ((bestAt (gb S) S.size p).2 : Int)) := by
  intro r
  induction r with
  | zero =>
    intro m hm n d hb
    have e : bestAt (gb S) S.size p = (n, d) := by unfold bestAt; rw [← hm, Nat.add_zero]; exact hb
    rw [e]
    refine Ev.step (f := fun k => lz_Best.j2 k S (p : Int) (n : Int) (d : Int) ((m + 1 : Nat) : Int) false) (fun k => ?_) (Ev.step (f := fun _ => some ((n : Int), (d : Int))) (fun k => ?_) (Ev.now _))
    · rw [lz_Best.l0, if_neg (by unfold mn; omega)]
    · rw [lz_Best.j2, if_neg (by simp)]
  | succ r ih =>
    intro m hm n d hb
    by_cases h131 : n = 131
    · have e : bestAt (gb S) S.size p = (n, d) := by
        unfold bestAt
        rw [best_full' (gb S) S.size p 4 m (min p 8192) (by rw [hb]; exact h131) (by omega), hb]
      rw [e]
      refine Ev.step (f := fun k => lz_Best.j2 k S (p : Int) (n : Int) (d : Int) ((m + 1 : Nat) : Int) false) (fun k => ?_) (Ev.step (f := fun _ => some ((n : Int), (d : Int))) (fun k => ?_) (Ev.now _))
      · rw [lz_Best.l0, if_pos (by unfold mn; omega)]
        rw [show decide ((n : Int) < 131) = false from by rw [decide_eq_false_iff_not]; omega]
      · rw [lz_Best.j2, if_neg (by simp)]
    · have hle := best_le (gb S) S.size p 4 m
      rw [hb] at hle
      have hn : n ≤ 131 := hle.1
      refine Ev.step (f := fun k => lz_Best.j2 k S (p : Int) (n : Int) (d : Int) ((m + 1 : Nat) : Int) true) (fun k => ?_) ?_
      · rw [lz_Best.l0, if_pos (by unfold mn; omega)]
        rw [show decide ((n : Int) < 131) = true from by rw [decide_eq_true_iff]; omega]
      · have hal := alike_ev' S hS (p - (m + 1)) p (by omega) (by omega)
        have hnx : best (gb S) S.size p 4 (m + 1) = Lzm.step 4 (aln (gb S) S.size (p - (m + 1)) p) (m + 1) (n, d) := by
          show Lzm.step 4 _ _ (best (gb S) S.size p 4 m) = _; rw [hb]
        refine Ev.step (f := fun k => (lz_alike.f k S (((p - (m + 1) : Nat) : Int)) (p : Int)).bind fun t => (if t ≥ 4 then (if t > (n : Int) then (lz_Best.l0 k S (p : Int) t ((m + 1 : Nat) : Int) ((m + 1 + 1 : Nat) : Int)) else (lz_Best.l0 k S (p : Int) (n : Int) (d : Int) ((m + 1 + 1 : Nat) : Int))) else (lz_Best.l0 k S (p : Int) (n : Int) (d : Int) ((m + 1 + 1 : Nat) : Int)))) (fun k => ?_) (Ev.bind hal ?_)
        · rw [lz_Best.j2, if_pos rfl, wrap_id (by omega) (by omega), wrap_id (by omega) (by omega)]
          rw [show (p : Int) - ((m + 1 : Nat) : Int) = ((p - (m + 1) : Nat) : Int) from by omega]
          rfl
        · generalize aln (gb S) S.size (p - (m + 1)) p = t at *
          by_cases h4 : 4 ≤ t
          · by_cases hnt : n < t
            · have := ih (m + 1) (by omega) t (m + 1) (by rw [hnx, Lzm.step_take h4 hnt])
              refine Ev.congr (fun k => ?_) this
              rw [if_pos (by omega), if_pos (by omega)]
            · have := ih (m + 1) (by omega) n d (by rw [hnx, Lzm.step_skip (.inr (by show t ≤ n; omega))])
              refine Ev.congr (fun k => ?_) this
              rw [if_pos (by omega), if_neg (by omega)]
          · have := ih (m + 1) (by omega) n d (by rw [hnx, Lzm.step_skip (.inl (by omega))])
            refine Ev.congr (fun k => ?_) this
            rw [if_neg (by omega)]
theorem lzBest_ev (S : ByteArray) (hS : S.size ≤ 140737488355328) (a : Int) : Ev (fun k => lz_Best.f k S a) (bestI S a) := by
  have hz : ∀ b : Bool, b = true → Ev (fun k => lz_Best.j0 k S a 0 0 b) (0, 0) := by
    intro b hb
    exact Ev.step (f := fun _ => some ((0 : Int), (0 : Int))) (fun k => by rw [lz_Best.j0, if_pos hb]) (Ev.now _)
  unfold lz_Best.f bestI
  by_cases h0 : a < 0
  · simp only [h0, if_true, true_or]; exact hz true rfl
  · by_cases h1 : (S.size : Int) ≤ a
    · simp only [h0, if_false, h1, false_or, if_true]; exact hz _ (by simp)
    · simp only [h0, if_false, h1, false_or]
      obtain ⟨p, rfl⟩ := Int.eq_ofNat_of_zero_le (Int.not_lt.1 h0)
      rw [Int.toNat_natCast]
      refine Ev.step (f := fun k => lz_Best.l0 k S (p : Int) ((0 : Nat) : Int) ((0 : Nat) : Int) ((0 + 1 : Nat) : Int)) (fun k => ?_) (lzBest_l0 S hS p (by omega) (min p 8192) 0 (by omega) 0 0 rfl)
      rw [lz_Best.j0, if_neg (by simp)]
      rfl
/-! The fixed answers. -/
theorem fixed_ev : Ev (fun k => gantrylaw04_fixed.f k) true := by
  unfold gantrylaw04_fixed.f
  have u1 := lzUnpack_ev (⟨#[2, 97, 98, 99, 130, 0, 3, 0, 100]⟩ : ByteArray) 10 10 (by omega) (by omega) (by show 131 * 9 < _; omega)
  rw [show unpack (bytesOf (⟨#[2, 97, 98, 99, 130, 0, 3, 0, 100]⟩ : ByteArray)) 10 10 = ([97, 98, 99, 97, 98, 99, 97, 98, 99, 100], 0) from by decide +kernel] at u1
  have u2 := lzUnpack_ev (⟨#[128, 0, 1]⟩ : ByteArray) 4 9 (by omega) (by omega) (by show 131 * 3 < _; omega)
  rw [show unpack (bytesOf (⟨#[128, 0, 1]⟩ : ByteArray)) 4 9 = ([], 25) from by decide +kernel] at u2
  have u3 := lzBest_ev (⟨#[97, 98, 99, 97, 98, 99, 97, 98, 99, 100]⟩ : ByteArray) (by show 10 ≤ _; omega) 3
  rw [show bestI (⟨#[97, 98, 99, 97, 98, 99, 97, 98, 99, 100]⟩ : ByteArray) 3 = (6, 3) from by decide +kernel] at u3
  have hp : ∀ k, lz_Pack.f k (⟨#[97, 98, 99, 97, 98, 99, 97, 98, 99, 100]⟩ : ByteArray) = some (⟨#[2, 97, 98, 99, 130, 0, 3, 0, 100]⟩ : ByteArray) := by
    intro k
    have : packB (⟨#[97, 98, 99, 97, 98, 99, 97, 98, 99, 100]⟩ : ByteArray) = [2, 97, 98, 99, 130, 0, 3, 0, 100] := by decide +kernel
    unfold lz_Pack.f
    rw [if_pos (by show 10 ≤ _; omega), this]; rfl
  refine Ev.bind u1 (Ev.bind u2 (Ev.bind u3 (Ev.bind (Ev.congr hp (Ev.now _)) ?_)))
  have hb : lz_Bound.f 129 = some 131 := by decide +kernel
  refine Ev.congr (fun k => ?_) (Ev.now true)
  rw [hb]
  simp only [Lib.toList_data]
  decide +kernel
end Go.Proofs.Ytgnoaokpahklaaa.Lzb
/- Forms of tokens in layer 4, and the reference's Pack. -/
namespace Go.Proofs.Ytgnoaokpahklaaa.Lzf
open Go Go.RowKit Go.Lib Go.Proofs.Ytgnoaokpahklaaa.Lzm Go.Proofs.Ytgnoaokpahklaaa.Lzw Go.Proofs.YtgnoaokpahklaaaW.PrintWords Go.Proofs.Ytgnoaokpahklaaa.QB Go.Proofs.YtgnoaokpahklaaaW.PrintLast Go.Proofs.YtgnoaokpahklaaaW.PrintMore Go.Proofs.Ytgnoaokpahklaaa.Vm Go.Proofs.Ytgnoaokpahklaaa.Lzt Go.Proofs.Ytgnoaokpahklaaa.Lzb
open Go.Proofs.Ytgnoaokpahklaaa.Lzp (litB litB_nil litB_cons litB_len matB packB packF size_toList toList_nil_iff)
set_option linter.unusedVariables false
set_option linter.unusedSimpArgs false

/-- A token's bytes; is it one? -/
def tb (f0 : ByteArray) (f1 f2 : Int) : List Int := if 1 ≤ f0.size then ((f0.size : Int) - 1) :: bytesOf f0 else [f1 + 124, f2 / 256, f2 % 256]
def isLit (f0 : ByteArray) (f1 f2 : Int) : Prop := 1 ≤ f0.size ∧ f0.size ≤ 128 ∧ f1 = 0 ∧ f2 = 0
def isMat (f0 : ByteArray) (f1 f2 : Int) : Prop := f0.size = 0 ∧ 4 ≤ f1 ∧ f1 ≤ 131 ∧ 1 ≤ f2 ∧ f2 ≤ 8192
instance (f0 : ByteArray) (f1 f2 : Int) : Decidable (isLit f0 f1 f2) := by unfold isLit; infer_instance
instance (f0 : ByteArray) (f1 f2 : Int) : Decidable (isMat f0 f1 f2) := by unfold isMat; infer_instance
def vt (f0 : ByteArray) (f1 f2 : Int) : Bool := decide (isLit f0 f1 f2 ∨ isMat f0 f1 f2)
theorem tb_len {f0 : ByteArray} {f1 f2 : Int} (h : vt f0 f1 f2 = true) : (tb f0 f1 f2).length ≤ 129 := by
  unfold vt isLit isMat at h
  rw [decide_eq_true_iff] at h
  unfold tb
  split
  · rw [List.length_cons, bytesOf_length]; omega
  · simp
theorem tb_bytes {f0 : ByteArray} {f1 f2 : Int} (h : vt f0 f1 f2 = true) : ∀ x ∈ tb f0 f1 f2, 0 ≤ x ∧ x < 256 := by
  unfold vt isLit isMat at h
  rw [decide_eq_true_iff] at h
  unfold tb
  intro x hx
  split at hx
  · rcases List.mem_cons.1 hx with rfl | hx
    · omega
    · exact bytes_ok f0 x hx
  · simp only [List.mem_cons, List.not_mem_nil, or_false] at hx
    omega
abbrev tR (t : S48) : List Int := tb t.f0 t.f1 t.f2
abbrev vR (t : S48) : Bool := vt t.f0 t.f1 t.f2
abbrev tL (t : S49) : List Int := tb t.f0 t.f1 t.f2
abbrev vL (t : S49) : Bool := vt t.f0 t.f1 t.f2
theorem rd_drop {α : Type} (l : List α) (d : α) (i : Nat) (h : i < l.length) : l.drop i = l.getD i d :: l.drop (i + 1) := by
  rw [List.getD_eq_getElem?_getD, List.getElem?_eq_getElem h, Option.getD_some]
  exact List.drop_eq_getElem_cons h
theorem toList_size (x : ByteArray) : x.toList = ([] : List UInt8) ↔ x.size = 0 := toList_nil_iff x
def formSaid (ok : Bool) (bs : List Int) : ByteArray × Int := if ok = true then (strOfNums bs, 0) else ((⟨#[]⟩ : ByteArray), 1)

/-! The reference's tokens of packing. -/
def runsF : Nat → ByteArray → List S48
  | 0, S => if 0 < S.size then [⟨S, 0, 0⟩] else []
  | f + 1, S => if 128 < S.size then ⟨S.extract 0 128, 0, 0⟩ :: runsF f (S.extract 128 S.size) else if 0 < S.size then [⟨S, 0, 0⟩] else []
theorem runsF_said : ∀ (n : Nat) (S : ByteArray), S.size ≤ n → (runsF n S).flatMap tR = litB (bytesOf S) ∧ (runsF n S).all vR = true ∧ (runsF n S).length ≤ S.size := by
  have hend : ∀ (S : ByteArray), S.size ≤ 128 → (if 0 < S.size then [(⟨S, 0, 0⟩ : S48)] else []).flatMap tR = litB (bytesOf S) ∧ (if 0 < S.size then [(⟨S, 0, 0⟩ : S48)] else []).all vR = true ∧ (if 0 < S.size then [(⟨S, 0, 0⟩ : S48)] else []).length ≤ S.size := by
    intro S h
    by_cases h0 : 0 < S.size
    · rw [if_pos h0]
      have hne : bytesOf S ≠ [] := by intro e; have := bytesOf_length S; rw [e] at this; simp at this; omega
      refine ⟨?_, ?_, h0⟩
      · rw [litB_cons hne, bytesOf_length, List.take_of_length_le (by rw [bytesOf_length]; exact h), List.drop_eq_nil_of_le (by rw [bytesOf_length]; exact h), litB_nil, show min S.size 128 = S.size from by omega]
        show tb S 0 0 ++ [] = _
        unfold tb
        rw [if_pos (show 1 ≤ S.size from h0)]
        simp
      · have : vt S 0 0 = true := by unfold vt; rw [decide_eq_true]; exact .inl ⟨h0, h, rfl, rfl⟩
        simp [this]
    · rw [if_neg h0]
      have : bytesOf S = [] := List.eq_nil_of_length_eq_zero (by rw [bytesOf_length]; omega)
      rw [this, litB_nil]; simp
  intro n
  induction n with
  | zero => intro S hn; exact hend S (by omega)
  | succ n ih =>
    intro S hn
    unfold runsF
    by_cases h8 : 128 < S.size
    · rw [if_pos h8]
      have hsz : (S.extract 128 S.size).size = S.size - 128 := by rw [ByteArray.size_extract]; omega
      have hsz0 : (S.extract 0 128).size = 128 := by rw [ByteArray.size_extract]; omega
      obtain ⟨h1, h2, h3⟩ := ih (S.extract 128 S.size) (by omega)
      have hne : bytesOf S ≠ [] := by intro e; have := bytesOf_length S; rw [e] at this; simp at this; omega
      have hb1 : bytesOf (S.extract 0 128) = (bytesOf S).take 128 := by rw [bytesOf_extract, List.drop_zero]
      have hb2 : bytesOf (S.extract 128 S.size) = (bytesOf S).drop 128 := by rw [bytesOf_extract, List.take_of_length_le (by rw [List.length_drop, bytesOf_length]; omega)]
      refine ⟨?_, ?_, ?_⟩
      · rw [List.flatMap_cons, h1, litB_cons hne, hb2, bytesOf_length, show min S.size 128 = 128 from by omega]
        show tb (S.extract 0 128) 0 0 ++ _ = _
        unfold tb
        rw [if_pos (by omega), hsz0, hb1]; rfl
      · have : vt (S.extract 0 128) 0 0 = true := by unfold vt; rw [decide_eq_true]; exact .inl ⟨by omega, by omega, rfl, rfl⟩
        rw [List.all_cons, h2, Bool.and_true]; exact this
      · rw [List.length_cons]; omega
    · rw [if_neg h8]; exact hend S (by omega)
def packT (S : ByteArray) : Nat → Nat → Nat → List S48 → List S48
  | 0, at_, from_, acc => acc ++ runsF S.size (S.extract from_ S.size)
  | f + 1, at_, from_, acc =>
    if at_ < S.size then
      if (bestAt (gb S) S.size at_).1 = 0 then packT S f (at_ + 1) from_ acc
      else packT S f (at_ + (bestAt (gb S) S.size at_).1) (at_ + (bestAt (gb S) S.size at_).1) (acc ++ runsF S.size (S.extract from_ at_) ++ [⟨⟨#[]⟩, ((bestAt (gb S) S.size at_).1 : Int), ((bestAt (gb S) S.size at_).2 : Int)⟩])
    else acc ++ runsF S.size (S.extract from_ S.size)
theorem best_cases (S : ByteArray) (p : Nat) : bestAt (gb S) S.size p = (0, 0) ∨ (4 ≤ (bestAt (gb S) S.size p).1 ∧ (bestAt (gb S) S.size p).1 ≤ 131 ∧ 1 ≤ (bestAt (gb S) S.size p).2 ∧ (bestAt (gb S) S.size p).2 ≤ 8192 ∧ (bestAt (gb S) S.size p).2 ≤ p ∧ (bestAt (gb S) S.size p).1 ≤ S.size - p) := by
  have hz := best_zero (gb S) S.size p 4 (by omega) (min p 8192)
  have hle := best_le (gb S) S.size p 4 (min p 8192)
  have hbe : bestAt (gb S) S.size p = best (gb S) S.size p 4 (min p 8192) := rfl
  rw [hbe]
  rcases hz with h | h
  · exact .inl (Prod.ext h.1 h.2)
  · exact .inr ⟨h.1, hle.1, h.2.1, by omega, by omega, hle.2.1⟩
theorem packT_said (S : ByteArray) : ∀ (f at_ from_ : Nat) (acc : List S48), from_ ≤ at_ → at_ ≤ S.size → acc.all vR = true → acc.length ≤ from_ →
    (packT S f at_ from_ acc).flatMap tR = packF S f at_ from_ (acc.flatMap tR) ∧ (packT S f at_ from_ acc).all vR = true ∧ (packT S f at_ from_ acc).length ≤ S.size := by
  have hend : ∀ (from_ : Nat) (acc : List S48), from_ ≤ S.size → acc.all vR = true → acc.length ≤ from_ → (acc ++ runsF S.size (S.extract from_ S.size)).flatMap tR = acc.flatMap tR ++ litB (bytesOf (S.extract from_ S.size)) ∧ (acc ++ runsF S.size (S.extract from_ S.size)).all vR = true ∧ (acc ++ runsF S.size (S.extract from_ S.size)).length ≤ S.size := by
    intro from_ acc h1 h2 h3
    have hsz : (S.extract from_ S.size).size = S.size - from_ := by rw [ByteArray.size_extract]; omega
    obtain ⟨a, b, c⟩ := runsF_said S.size (S.extract from_ S.size) (by omega)
    exact ⟨by rw [List.flatMap_append, a], by rw [List.all_append, h2, b]; rfl, by rw [List.length_append]; omega⟩
  intro f
  induction f with
  | zero => intro at_ from_ acc hf ha hv hl; exact hend from_ acc (by omega) hv hl
  | succ f ih =>
    intro at_ from_ acc hf ha hv hl
    unfold packT packF
    by_cases hlt : at_ < S.size
    · rw [if_pos hlt, if_pos hlt]
      rcases best_cases S at_ with h | ⟨h1, h2, h3, h4, h5, h6⟩
      · rw [h]; exact ih (at_ + 1) from_ acc (by omega) (by omega) hv hl
      · generalize bestAt (gb S) S.size at_ = nd at *
        obtain ⟨n, d⟩ := nd
        dsimp only at h1 h2 h3 h4 h5 h6 ⊢
        have hn : ¬ n = 0 := by omega
        rw [if_neg hn, if_neg hn]
        have hsz : (S.extract from_ at_).size = at_ - from_ := by rw [ByteArray.size_extract]; omega
        obtain ⟨a, b, c⟩ := runsF_said S.size (S.extract from_ at_) (by omega)
        have hvm : vt (⟨#[]⟩ : ByteArray) (n : Int) (d : Int) = true := by
          unfold vt; rw [decide_eq_true]; exact .inr ⟨rfl, by omega, by omega, by omega, by omega⟩
        have htm : tb (⟨#[]⟩ : ByteArray) (n : Int) (d : Int) = matB n d := rfl
        have := ih (at_ + n) (at_ + n) (acc ++ runsF S.size (S.extract from_ at_) ++ [⟨⟨#[]⟩, (n : Int), (d : Int)⟩]) (Nat.le_refl _) (by omega)
          (by rw [List.all_append, List.all_append, hv, b]; simp [hvm]) (by rw [List.length_append, List.length_append, List.length_singleton]; omega)
        rw [List.flatMap_append, List.flatMap_append, a] at this
        simp only [List.flatMap_cons, List.flatMap_nil, List.append_nil, htm] at this
        exact this
    · rw [if_neg hlt, if_neg hlt]; exact hend from_ acc (by omega) hv hl
theorem lzPack_ev (S : ByteArray) (hS : S.size ≤ 1073741824) : Ev (fun k => lz_Pack.f k S) (strOfNums (packB S)) :=
  Ev.congr (fun k => by unfold lz_Pack.f; rw [if_pos hS]) (Ev.now _)
end Go.Proofs.Ytgnoaokpahklaaa.Lzf
/- The reference's Form and Pack in layer 4. -/
namespace Go.Proofs.Ytgnoaokpahklaaa.Lzx
open Go Go.RowKit Go.Lib Go.Proofs.Ytgnoaokpahklaaa.Lzm Go.Proofs.Ytgnoaokpahklaaa.Lzw Go.Proofs.YtgnoaokpahklaaaW.PrintWords Go.Proofs.Ytgnoaokpahklaaa.QB Go.Proofs.YtgnoaokpahklaaaW.PrintLast Go.Proofs.YtgnoaokpahklaaaW.PrintMore Go.Proofs.Ytgnoaokpahklaaa.Vm Go.Proofs.Ytgnoaokpahklaaa.Lzt Go.Proofs.Ytgnoaokpahklaaa.Lzb Go.Proofs.Ytgnoaokpahklaaa.Lzf
open Go.Proofs.Ytgnoaokpahklaaa.Lzp (litB litB_nil litB_cons litB_len matB packB packF size_toList toList_nil_iff)
set_option linter.unusedVariables false
set_option linter.unusedSimpArgs false

theorem refForm_l0 (l : List S48) (hl : l.length ≤ 1073741824) : ∀ (d i : Nat) (acc : List Int), i + d = l.length → acc.length + 129 * d < 140737488355328 →
    Ev (fun k => gantryref04_Form.l0 k l acc (i : Int)) (formSaid ((l.drop i).all vR) (acc ++ (l.drop i).flatMap tR)) := by
  intro d
  induction d with
  | zero =>
    intro i acc hi hb
    refine Ev.step (f := fun _ => some (strOfNums acc, (0 : Int))) (fun k => ?_) ?_
    · rw [gantryref04_Form.l0, if_neg (by omega)]
    · rw [List.drop_eq_nil_of_le (by omega)]
      unfold formSaid
      simp only [List.all_nil, if_true, List.flatMap_nil, List.append_nil]
      exact Ev.now _
  | succ d ih =>
    intro i acc hi hb
    have hd := rd_drop l z48 i (by omega)
    have hrd : rd_T48 l (i : Int) = l.getD i z48 := by unfold rd_T48; rw [Int.toNat_natCast]
    rw [hd]
    generalize hT : l.getD i z48 = t at *
    obtain ⟨f0, f1, f2⟩ := t
    simp only [List.all_cons, List.flatMap_cons]
    have hj : ∀ (b : Bool) (R : ByteArray × Int), b = decide (isLit f0 f1 f2) → Ev (fun k => gantryref04_Form.j1 k l acc (i : Int) (f0.size : Int) b f0 f1 f2) R → Ev (fun k => gantryref04_Form.l0 k l acc (i : Int)) R := by
      intro b R hbe hR
      refine Ev.step (f := fun k => gantryref04_Form.j1 k l acc (i : Int) (f0.size : Int) b f0 f1 f2) (fun k => ?_) hR
      rw [gantryref04_Form.l0, if_pos (by omega), if_pos (by omega), hrd]
      dsimp only
      by_cases h1 : (f0.size : Int) ≥ 1
      · rw [if_pos h1]
        by_cases h2 : (f0.size : Int) ≤ 128
        · rw [if_pos h2]
          by_cases h3 : f1 = 0
          · rw [if_pos h3]
            have : (f2 == 0) = b := by
              rw [hbe]
              by_cases h4 : f2 = 0
              · rw [decide_eq_true (by unfold isLit; omega), beq_iff_eq.2 h4]
              · rw [decide_eq_false (by unfold isLit; omega)]; exact beq_eq_false_iff_ne.2 h4
            rw [this]
          · rw [if_neg h3, hbe, decide_eq_false (by unfold isLit; omega)]
        · rw [if_neg h2, hbe, decide_eq_false (by unfold isLit; omega)]
      · rw [if_neg h1, hbe, decide_eq_false (by unfold isLit; omega)]
    by_cases hlit : isLit f0 f1 f2
    · have hv : vt f0 f1 f2 = true := by unfold vt; rw [decide_eq_true (.inl hlit)]
      have hn : 1 ≤ f0.size := hlit.1
      have hn2 : f0.size ≤ 128 := hlit.2.1
      have htb : tb f0 f1 f2 = ((f0.size : Int) - 1) :: bytesOf f0 := by unfold tb; rw [if_pos hn]
      refine hj true _ (decide_eq_true hlit).symm ?_
      have hrec := ih (i + 1) (acc ++ tb f0 f1 f2) (by omega) (by rw [List.length_append]; have := tb_len hv; omega)
      rw [show vR ⟨f0, f1, f2⟩ = true from hv, Bool.true_and, ← List.append_assoc]
      refine Ev.step (fun k => ?_) hrec
      rw [gantryref04_Form.j1, if_pos rfl, if_pos (by omega), Option.bind_some, if_pos (by rw [List.length_append, List.length_singleton]; omega), wrap_id (x := (f0.size : Int) - 1) (by omega) (by omega), show ((f0.size : Int) - 1) % 256 = (f0.size : Int) - 1 from by omega, wrap_id (x := (i : Int) + 1) (by omega) (by omega), htb]
      simp
    · refine hj false _ (decide_eq_false hlit).symm ?_
      have hbad : ∀ R : ByteArray × Int, vt f0 f1 f2 = false → R = formSaid (vt f0 f1 f2 && (l.drop (i + 1)).all vR) (acc ++ (tb f0 f1 f2 ++ (l.drop (i + 1)).flatMap tR)) → R = ((⟨#[]⟩ : ByteArray), 1) := by
        intro R h e
        rw [e, h]; rfl
      by_cases hmat : isMat f0 f1 f2
      · have hv : vt f0 f1 f2 = true := by unfold vt; rw [decide_eq_true (.inr hmat)]
        have hm : f0.size = 0 ∧ 4 ≤ f1 ∧ f1 ≤ 131 ∧ 1 ≤ f2 ∧ f2 ≤ 8192 := hmat
        have htb : tb f0 f1 f2 = [f1 + 124, f2 / 256, f2 % 256] := by unfold tb; rw [if_neg (by omega)]
        have hrec := ih (i + 1) (acc ++ tb f0 f1 f2) (by omega) (by rw [List.length_append]; have := tb_len hv; omega)
        rw [show vR ⟨f0, f1, f2⟩ = true from hv, Bool.true_and, ← List.append_assoc]
        refine Ev.step (fun k => ?_) hrec
        rw [gantryref04_Form.j1, if_neg (by simp), if_pos (by omega), if_pos (by omega), if_pos (by omega), if_pos (by omega), if_pos (by omega), Option.bind_some, if_pos (by simp; omega), Int.tdiv_eq_ediv_of_nonneg (by omega), Int.tmod_eq_emod_of_nonneg (by omega), wrap_id (x := f1 + 124) (by omega) (by omega), wrap_id (x := f2 / 256) (by omega) (by omega), wrap_id (x := (i : Int) + 1) (by omega) (by omega), htb, show (f1 + 124) % 256 = f1 + 124 from by omega, show f2 / 256 % 256 = f2 / 256 from by omega, show f2 % 256 % 256 = f2 % 256 from by omega]
        rfl
      · have hv : vt f0 f1 f2 = false := by
          unfold vt
          rw [decide_eq_false_iff_not]
          rintro (h | h)
          · exact hlit h
          · exact hmat h
        rw [hbad _ hv rfl]
        refine Ev.step (f := fun _ => some ((⟨#[]⟩ : ByteArray), (1 : Int))) (fun k => ?_) (Ev.now _)
        rw [gantryref04_Form.j1, if_neg (by simp)]
        unfold isMat at hmat
        by_cases h1 : (f0.size : Int) = 0
        · rw [if_pos h1]
          by_cases h2 : f1 ≥ 4
          · rw [if_pos h2]
            by_cases h3 : f1 ≤ 131
            · rw [if_pos h3]
              by_cases h4 : f2 ≥ 1
              · rw [if_pos h4, if_neg (by omega)]
              · rw [if_neg h4]
            · rw [if_neg h3]
          · rw [if_neg h2]
        · rw [if_neg h1]
theorem refForm_ev (l : List S48) (hl : l.length ≤ 1073741824) : Ev (fun k => gantryref04_Form.f k l) (formSaid (l.all vR) (l.flatMap tR)) := by
  have h := refForm_l0 l hl l.length 0 [] (by omega) (by simp; omega)
  rw [List.drop_zero, List.nil_append] at h
  exact h
end Go.Proofs.Ytgnoaokpahklaaa.Lzx
/- Tokens of layer 4, read again; what tokens stand for; and that what is packed unpacks to what it was. -/
namespace Go.Proofs.Ytgnoaokpahklaaa.Lzg
open Go Go.RowKit Go.Lib Go.Proofs.Ytgnoaokpahklaaa.Lzm Go.Proofs.Ytgnoaokpahklaaa.Lzw Go.Proofs.YtgnoaokpahklaaaW.PrintWords Go.Proofs.Ytgnoaokpahklaaa.QB Go.Proofs.YtgnoaokpahklaaaW.PrintLast Go.Proofs.YtgnoaokpahklaaaW.PrintMore Go.Proofs.Ytgnoaokpahklaaa.Vm Go.Proofs.Ytgnoaokpahklaaa.Lzt Go.Proofs.Ytgnoaokpahklaaa.Lzb Go.Proofs.Ytgnoaokpahklaaa.Lzf
open Go.Proofs.Ytgnoaokpahklaaa.Lzp (litB litB_nil litB_cons litB_len matB packB packF size_toList toList_nil_iff)
set_option linter.unusedVariables false
set_option linter.unusedSimpArgs false

theorem tb_ne {f0 : ByteArray} {f1 f2 : Int} : tb f0 f1 f2 ≠ [] := by unfold tb; split <;> simp
/-- The first token of a token's bytes, and more. -/
theorem tok_tb {f0 : ByteArray} {f1 f2 : Int} (h : vt f0 f1 f2 = true) (rest : List Int) : tokL (tb f0 f1 f2 ++ rest) = (bytesOf f0, f1, f2, ((tb f0 f1 f2).length : Int)) := by
  unfold vt isLit isMat at h
  rw [decide_eq_true_iff] at h
  rcases h with ⟨h1, h2, h3, h4⟩ | ⟨h1, h2, h3, h4, h5⟩
  · subst h3; subst h4
    have e : tb f0 0 0 = ((f0.size : Int) - 1) :: bytesOf f0 := by unfold tb; rw [if_pos h1]
    rw [e]
    have hl := bytesOf_length f0
    unfold tokL
    have g0 : (((f0.size : Int) - 1) :: bytesOf f0 ++ rest).getD 0 0 = (f0.size : Int) - 1 := rfl
    rw [g0, if_pos (by omega), if_neg (by simp only [List.cons_append, List.length_cons, List.length_append]; omega)]
    have d1 : (((f0.size : Int) - 1) :: bytesOf f0 ++ rest).drop 1 = bytesOf f0 ++ rest := rfl
    have e2 : ((f0.size : Int) - 1 + 1).toNat = (bytesOf f0).length := by omega
    rw [d1, e2, List.take_left, List.length_cons, hl]
    have : (f0.size : Int) - 1 + 2 = ((f0.size + 1 : Nat) : Int) := by omega
    rw [this]
  · have e : tb f0 f1 f2 = [f1 + 124, f2 / 256, f2 % 256] := by unfold tb; rw [if_neg (by omega)]
    have hb : bytesOf f0 = [] := List.eq_nil_of_length_eq_zero (by rw [bytesOf_length]; exact h1)
    rw [e, hb]
    unfold tokL
    have g0 : ([f1 + 124, f2 / 256, f2 % 256] ++ rest).getD 0 0 = f1 + 124 := rfl
    have g1 : ([f1 + 124, f2 / 256, f2 % 256] ++ rest).getD 1 0 = f2 / 256 := rfl
    have g2 : ([f1 + 124, f2 / 256, f2 % 256] ++ rest).getD 2 0 = f2 % 256 := rfl
    rw [g0, g1, g2, if_neg (by omega), if_neg (by simp only [List.length_append, List.length_cons, List.length_nil]; omega)]
    have a1 : f1 + 124 - 124 = f1 := by omega
    have a2 : f2 / 256 * 256 + f2 % 256 = f2 := by omega
    rw [a1, a2]
    rfl
/-- What tokens stand for, behind what is there. -/
def exp (t : S49) (out : List Int) : List Int := copyN t.f1.toNat t.f2.toNat (out ++ bytesOf t.f0)
def expAll : List S49 → List Int → Option (List Int)
  | [], out => some out
  | t :: ts, out => if (out.length : Int) < t.f2 then none else expAll ts (exp t out)
theorem exp_len {t : S49} (h : vL t = true) (out : List Int) : ((exp t out).length : Int) = out.length + t.f0.size + t.f1 := by
  unfold vL vt isLit isMat at h
  rw [decide_eq_true_iff] at h
  unfold exp
  rw [copyN_len, List.length_append, bytesOf_length]
  omega
theorem expAll_append : ∀ (a b : List S49) (out : List Int), expAll (a ++ b) out = (expAll a out).bind (expAll b)
  | [], b, out => rfl
  | t :: a, b, out => by
    show (if _ then none else expAll (a ++ b) (exp t out)) = (if _ then none else expAll a (exp t out)).bind (expAll b)
    split
    · rfl
    · exact expAll_append a b _
theorem expAll_len : ∀ (ts : List S49) (out R : List Int), ts.all vL = true → expAll ts out = some R → out.length ≤ R.length
  | [], out, R, _, h => by injection h with h; rw [h]; exact Nat.le_refl _
  | t :: ts, out, R, hv, h => by
    rw [List.all_cons, Bool.and_eq_true] at hv
    have h' : (if (out.length : Int) < t.f2 then none else expAll ts (exp t out)) = some R := h
    split at h'
    · cases h'
    · have h1 := expAll_len ts _ R hv.2 h'
      have h2 := exp_len hv.1 out
      have h3 : 0 ≤ t.f1 := by
        have := hv.1
        unfold vL vt isLit isMat at this
        rw [decide_eq_true_iff] at this
        omega
      omega
theorem unp_step (f : Nat) (t : S49) (h : vL t = true) (rest out : List Int) (len : Int) :
    unpackL (f + 1) (tL t ++ rest) len out = if (out.length : Int) < t.f2 then ([], 25) else if len - out.length < (t.f0.size : Int) + t.f1 then ([], 22) else unpackL f rest len (exp t out) := by
  have ht := tok_tb h rest
  have hne : tL t ++ rest ≠ [] := fun e => tb_ne (List.append_eq_nil_iff.1 e).1
  have hl : (tb t.f0 t.f1 t.f2).length ≠ 0 := fun e => tb_ne (List.eq_nil_of_length_eq_zero e)
  conv => lhs; unfold unpackL
  rw [if_neg hne, ht]
  dsimp only
  rw [if_neg (by omega), bytesOf_length, Int.toNat_natCast, List.drop_left]
  unfold vL vt isLit isMat at h
  rw [decide_eq_true_iff] at h
  by_cases h1 : (out.length : Int) < t.f2
  · rw [if_pos h1, if_pos (by omega)]
  · rw [if_neg h1, if_neg (by omega)]
    rfl
/-- What the bytes of tokens unpack to. -/
theorem unp_some : ∀ (ts : List S49) (f : Nat) (out R : List Int) (len : Int), ts.all vL = true → expAll ts out = some R → ts.length ≤ f → out.length ≤ len →
    unpackL f (ts.flatMap tL) len out = if len < R.length then ([], 22) else if (R.length : Int) < len then ([], 20) else (R, 0)
  | [], f, out, R, len, _, h, _, ho => by
    injection h with h
    subst h
    have : unpackL f ([].flatMap tL) len out = fin len out := by cases f <;> rfl
    rw [this, if_neg (by omega)]
    rfl
  | t :: ts, 0, out, R, len, _, _, hf, _ => by simp at hf
  | t :: ts, f + 1, out, R, len, hv, h, hf, ho => by
    rw [List.all_cons, Bool.and_eq_true] at hv
    have h' : (if (out.length : Int) < t.f2 then none else expAll ts (exp t out)) = some R := h
    rw [List.flatMap_cons, unp_step f t hv.1]
    split at h'
    · cases h'
    · rename_i h1
      rw [if_neg h1]
      have h2 := exp_len hv.1 out
      have h3 := expAll_len ts _ R hv.2 h'
      by_cases h4 : len - out.length < (t.f0.size : Int) + t.f1
      · rw [if_pos h4, if_pos (by omega)]
      · rw [if_neg h4]
        exact unp_some ts f _ R len hv.2 h' (by simpa using hf) (by omega)
theorem unp_none : ∀ (ts : List S49) (f : Nat) (out : List Int) (len : Int), ts.all vL = true → expAll ts out = none → ts.length ≤ f → (out.length : Int) + 259 * ts.length ≤ len →
    unpackL f (ts.flatMap tL) len out = ([], 25)
  | [], f, out, len, _, h, _, ho => by cases h
  | t :: ts, 0, out, len, _, _, hf, _ => by simp at hf
  | t :: ts, f + 1, out, len, hv, h, hf, ho => by
    rw [List.all_cons, Bool.and_eq_true] at hv
    have h' : (if (out.length : Int) < t.f2 then none else expAll ts (exp t out)) = none := h
    rw [List.flatMap_cons, unp_step f t hv.1]
    rw [List.length_cons] at ho
    by_cases h1 : (out.length : Int) < t.f2
    · rw [if_pos h1]
    · rw [if_neg h1] at h' ⊢
      have h2 := exp_len hv.1 out
      have h3 : (t.f0.size : Int) + t.f1 ≤ 259 := by
        have := hv.1
        unfold vL vt isLit isMat at this
        rw [decide_eq_true_iff] at this
        omega
      rw [if_neg (by omega)]
      exact unp_none ts f _ len hv.2 h' (by simpa using hf) (by omega)
theorem flat_len : ∀ ts : List S49, ts.length ≤ (ts.flatMap tL).length
  | [] => Nat.le_refl _
  | t :: ts => by
    have := flat_len ts
    have hl : (tb t.f0 t.f1 t.f2).length ≠ 0 := fun e => tb_ne (List.eq_nil_of_length_eq_zero e)
    rw [List.flatMap_cons, List.length_append, List.length_cons]
    have : (tL t).length = (tb t.f0 t.f1 t.f2).length := rfl
    omega
theorem flat_bytes : ∀ ts : List S49, ts.all vL = true → ∀ x ∈ ts.flatMap tL, 0 ≤ x ∧ x < 256
  | [], _, x, hx => by simp at hx
  | t :: ts, hv, x, hx => by
    rw [List.all_cons, Bool.and_eq_true] at hv
    rw [List.flatMap_cons] at hx
    rcases List.mem_append.1 hx with h | h
    · exact tb_bytes hv.1 x h
    · exact flat_bytes ts hv.2 x h
theorem unpack_some (ts : List S49) (R : List Int) (len most : Int) (hv : ts.all vL = true) (h : expAll ts [] = some R) (h0 : 0 ≤ len) (hm : len ≤ most) :
    unpack (ts.flatMap tL) len most = if len < R.length then ([], 22) else if (R.length : Int) < len then ([], 20) else (R, 0) := by
  unfold unpack
  rw [if_neg (by omega)]
  exact unp_some ts _ [] R len hv h (flat_len ts) h0
theorem unpack_none (ts : List S49) (len most : Int) (hv : ts.all vL = true) (h : expAll ts [] = none) (hl : 259 * (ts.length : Int) ≤ len) (hm : len ≤ most) : unpack (ts.flatMap tL) len most = ([], 25) := by
  unfold unpack
  rw [if_neg (by omega)]
  exact unp_none ts _ [] len hv h (flat_len ts) (by simp; omega)

/-! The tokens of packing tell the text. -/
def c48 (t : S48) : S49 := ⟨t.f0, t.f1, t.f2⟩
theorem gb_get (S : ByteArray) (i : Nat) : (bytesOf S).getD i 0 = gb S i := (bt_getD S i).symm
theorem copyN_said (S : ByteArray) (d : Nat) : ∀ (n p : Nat), 1 ≤ d → d ≤ p → p + n ≤ S.size → (∀ k, k < n → gb S (p - d + k) = gb S (p + k)) → copyN n d ((bytesOf S).take p) = (bytesOf S).take (p + n)
  | 0, p, _, _, _, _ => rfl
  | n + 1, p, h1, h2, h3, h4 => by
    have hl : ((bytesOf S).take p).length = p := by rw [List.length_take, bytesOf_length]; omega
    show copyN n d ((bytesOf S).take p ++ [((bytesOf S).take p).getD (((bytesOf S).take p).length - d) 0]) = _
    rw [hl]
    have e1 : ((bytesOf S).take p).getD (p - d) 0 = gb S (p - d) := by
      rw [← gb_get, List.getD_eq_getElem?_getD, List.getD_eq_getElem?_getD, List.getElem?_take, if_pos (by omega)]
    have e2 : gb S (p - d) = gb S p := by have := h4 0 (by omega); simpa using this
    have e3 : (bytesOf S).take p ++ [gb S p] = (bytesOf S).take (p + 1) := by
      rw [List.take_succ_eq_append_getElem (by rw [bytesOf_length]; omega)]
      congr 2
      rw [← gb_get, List.getD_eq_getElem?_getD, List.getElem?_eq_getElem (by rw [bytesOf_length]; omega), Option.getD_some]
    rw [e1, e2, e3, copyN_said S d n (p + 1) h1 (by omega) (by omega) (fun k hk => by
      have := h4 (k + 1) (by omega)
      rw [show p + 1 - d + k = p - d + (k + 1) from by omega, show p + 1 + k = p + (k + 1) from by omega]; exact this)]
    rw [show p + 1 + n = p + (n + 1) from by omega]
theorem exp_lit (X : ByteArray) (out : List Int) : exp ⟨X, 0, 0⟩ out = out ++ bytesOf X := rfl
theorem runs_exp : ∀ (n : Nat) (X : ByteArray) (out : List Int), X.size ≤ n → expAll ((runsF n X).map c48) out = some (out ++ bytesOf X) := by
  have hend : ∀ (X : ByteArray) (out : List Int), expAll ((if 0 < X.size then [(⟨X, 0, 0⟩ : S48)] else []).map c48) out = some (out ++ bytesOf X) := by
    intro X out
    by_cases h0 : 0 < X.size
    · rw [if_pos h0]
      show (if (out.length : Int) < 0 then none else some (exp ⟨X, 0, 0⟩ out)) = _
      rw [if_neg (by omega), exp_lit]
    · rw [if_neg h0]
      have : bytesOf X = [] := List.eq_nil_of_length_eq_zero (by rw [bytesOf_length]; omega)
      rw [this, List.append_nil]; rfl
  intro n
  induction n with
  | zero => intro X out h; exact hend X out
  | succ n ih =>
    intro X out h
    unfold runsF
    by_cases h8 : 128 < X.size
    · rw [if_pos h8]
      show (if (out.length : Int) < 0 then none else expAll ((runsF n (X.extract 128 X.size)).map c48) (exp ⟨X.extract 0 128, 0, 0⟩ out)) = _
      rw [if_neg (by omega), exp_lit, ih _ _ (by rw [ByteArray.size_extract]; omega), List.append_assoc]
      congr 2
      have hb1 : bytesOf (X.extract 0 128) = (bytesOf X).take 128 := by rw [bytesOf_extract, List.drop_zero]
      have hb2 : bytesOf (X.extract 128 X.size) = (bytesOf X).drop 128 := by rw [bytesOf_extract, List.take_of_length_le (by rw [List.length_drop, bytesOf_length]; omega)]
      rw [hb1, hb2, List.take_append_drop]
    · rw [if_neg h8]; exact hend X out
theorem take_extract (S : ByteArray) (a b : Nat) (h : a ≤ b) : (bytesOf S).take a ++ bytesOf (S.extract a b) = (bytesOf S).take b := by
  rw [bytesOf_extract]
  have : (bytesOf S).take b = (bytesOf S).take (a + (b - a)) := by rw [show a + (b - a) = b from by omega]
  rw [this, List.take_add]
theorem packT_exp (S : ByteArray) : ∀ (f at_ from_ : Nat) (acc : List S48), from_ ≤ at_ → at_ ≤ S.size → expAll (acc.map c48) [] = some ((bytesOf S).take from_) → expAll ((packT S f at_ from_ acc).map c48) [] = some (bytesOf S) := by
  have hend : ∀ (from_ : Nat) (acc : List S48), from_ ≤ S.size → expAll (acc.map c48) [] = some ((bytesOf S).take from_) → expAll ((acc ++ runsF S.size (S.extract from_ S.size)).map c48) [] = some (bytesOf S) := by
    intro from_ acc hf h
    rw [List.map_append, expAll_append, h, Option.bind_some, runs_exp _ _ _ (by rw [ByteArray.size_extract]; omega), take_extract _ _ _ hf, List.take_of_length_le (by rw [bytesOf_length]; exact Nat.le_refl _)]
  intro f
  induction f with
  | zero => intro at_ from_ acc h1 h2 h3; exact hend from_ acc (by omega) h3
  | succ f ih =>
    intro at_ from_ acc h1 h2 h3
    unfold packT
    by_cases hlt : at_ < S.size
    · rw [if_pos hlt]
      rcases best_cases S at_ with h | ⟨g1, g2, g3, g4, g5, g6⟩
      · rw [h]; exact ih (at_ + 1) from_ acc (by omega) (by omega) h3
      · have hal : aln (gb S) S.size (at_ - (bestAt (gb S) S.size at_).2) at_ = (bestAt (gb S) S.size at_).1 := by
          have hz := best_zero (gb S) S.size at_ 4 (by omega) (min at_ 8192)
          have hbe : bestAt (gb S) S.size at_ = best (gb S) S.size at_ 4 (min at_ 8192) := rfl
          rw [hbe] at g1 ⊢
          rcases hz with h | h
          · omega
          · exact h.2.2
        generalize bestAt (gb S) S.size at_ = nd at *
        obtain ⟨n, d⟩ := nd
        dsimp only at g1 g2 g3 g4 g5 g6 hal ⊢
        rw [if_neg (by omega)]
        refine ih (at_ + n) (at_ + n) _ (Nat.le_refl _) (by omega) ?_
        rw [List.map_append, List.map_append, expAll_append, expAll_append, h3, Option.bind_some, runs_exp _ _ _ (by rw [ByteArray.size_extract]; omega), take_extract _ _ _ h1, Option.bind_some]
        show (if ((((bytesOf S).take at_).length : Nat) : Int) < (d : Int) then none else some (exp ⟨⟨#[]⟩, (n : Int), (d : Int)⟩ ((bytesOf S).take at_))) = _
        rw [if_neg (by rw [List.length_take, bytesOf_length]; omega)]
        congr 1
        show copyN (n : Int).toNat (d : Int).toNat ((bytesOf S).take at_ ++ []) = _
        rw [List.append_nil, Int.toNat_natCast, Int.toNat_natCast]
        exact copyN_said S d n at_ g3 g5 (by omega) (fun k hk => al_get (gb S) (min (S.size - at_) 131) _ _ k (by unfold aln at hal; omega))
    · rw [if_neg hlt]; exact hend from_ acc (by omega) h3
/-- The tokens of packing. -/
def toks (S : ByteArray) : List S49 := (packT S S.size 0 0 []).map c48
theorem toks_said (S : ByteArray) : (toks S).flatMap tL = packB S ∧ (toks S).all vL = true ∧ (toks S).length ≤ S.size ∧ expAll (toks S) [] = some (bytesOf S) := by
  obtain ⟨h1, h2, h3⟩ := packT_said S S.size 0 0 [] (Nat.le_refl _) (Nat.zero_le _) (by simp) (by simp)
  refine ⟨?_, ?_, by unfold toks; rw [List.length_map]; exact h3, packT_exp S S.size 0 0 [] (Nat.le_refl _) (Nat.zero_le _) rfl⟩
  · unfold toks; rw [List.flatMap_map]; exact h1
  · unfold toks; rw [List.all_map]; exact h2
theorem pack_bytes (S : ByteArray) : bytesOf (strOfNums (packB S)) = packB S := by
  obtain ⟨h1, h2, _⟩ := toks_said S
  rw [← h1]
  exact bytesOf_nums (flat_bytes _ h2)
theorem litB_exact : ∀ (n : Nat) (l : List Int), l.length ≤ n → (litB l).length = l.length + (l.length + 127) / 128
  | 0, l, h => by
    have : l = [] := List.eq_nil_of_length_eq_zero (by omega)
    subst this; rfl
  | n + 1, l, h => by
    by_cases h0 : l = []
    · subst h0; rfl
    · have hp : 0 < l.length := List.length_pos_iff.2 h0
      rw [litB_cons h0]
      have := litB_exact n (l.drop 128) (by rw [List.length_drop]; omega)
      rw [List.length_drop] at this
      simp only [List.length_cons, List.length_append, List.length_take]
      omega
theorem packF_len (S : ByteArray) : ∀ (f at_ from_ : Nat) (acc : List Int), from_ ≤ at_ → at_ ≤ S.size → acc.length ≤ from_ + from_ / 128 → (packF S f at_ from_ acc).length ≤ S.size + (S.size + 127) / 128 := by
  have hend : ∀ (from_ : Nat) (acc : List Int), from_ ≤ S.size → acc.length ≤ from_ + from_ / 128 → (acc ++ litB (bytesOf (S.extract from_ S.size))).length ≤ S.size + (S.size + 127) / 128 := by
    intro from_ acc h1 h2
    rw [List.length_append, litB_exact _ _ (Nat.le_refl _), bytesOf_length, ByteArray.size_extract]
    omega
  intro f
  induction f with
  | zero => intro at_ from_ acc h1 h2 h3; exact hend from_ acc (by omega) h3
  | succ f ih =>
    intro at_ from_ acc h1 h2 h3
    unfold packF
    by_cases hlt : at_ < S.size
    · rw [if_pos hlt]
      rcases best_cases S at_ with h | ⟨g1, g2, g3, g4, g5, g6⟩
      · rw [h]; exact ih (at_ + 1) from_ acc (by omega) (by omega) h3
      · rw [if_neg (by omega)]
        refine ih _ _ _ (Nat.le_refl _) (by omega) ?_
        have hm : ∀ a b, (matB a b).length = 3 := fun _ _ => rfl
        rw [List.length_append, List.length_append, litB_exact _ _ (Nat.le_refl _), bytesOf_length, ByteArray.size_extract, hm]
        omega
    · rw [if_neg hlt]; exact hend from_ acc (by omega) h3
theorem pack_len (S : ByteArray) : (packB S).length ≤ S.size + (S.size + 127) / 128 := packF_len S S.size 0 0 [] (Nat.le_refl _) (Nat.zero_le _) (by simp)
theorem pack_ne (S : ByteArray) (h : 0 < S.size) : packB S ≠ [] := by
  obtain ⟨h1, h2, h3, h4⟩ := toks_said S
  intro e
  have hl := flat_len (toks S)
  rw [h1, e] at hl
  have : toks S = [] := List.eq_nil_of_length_eq_zero (by simpa using hl)
  rw [this] at h4
  injection h4 with h4
  have := congrArg List.length h4
  rw [bytesOf_length] at this
  simp at this
  omega
theorem unpack_pack (S : ByteArray) (len most : Int) (h0 : 0 ≤ len) (hm : len ≤ most) : unpack (packB S) len most = if len < S.size then ([], 22) else if (S.size : Int) < len then ([], 20) else (bytesOf S, 0) := by
  obtain ⟨h1, h2, h3, h4⟩ := toks_said S
  rw [← h1, unpack_some (toks S) (bytesOf S) len most h2 h4 h0 hm, bytesOf_length]
end Go.Proofs.Ytgnoaokpahklaaa.Lzg
/- Layer 4's Tokens, Form and the statement's comparison, as plain functions. -/
namespace Go.Proofs.Ytgnoaokpahklaaa.Lzh
open Go Go.RowKit Go.Lib Go.Proofs.Ytgnoaokpahklaaa.Lzm Go.Proofs.Ytgnoaokpahklaaa.Lzw Go.Proofs.YtgnoaokpahklaaaW.PrintWords Go.Proofs.Ytgnoaokpahklaaa.QB Go.Proofs.YtgnoaokpahklaaaW.PrintLast Go.Proofs.YtgnoaokpahklaaaW.PrintMore Go.Proofs.Ytgnoaokpahklaaa.Vm Go.Proofs.Ytgnoaokpahklaaa.Lzt Go.Proofs.Ytgnoaokpahklaaa.Lzb Go.Proofs.Ytgnoaokpahklaaa.Lzf Go.Proofs.Ytgnoaokpahklaaa.Lzg
open Go.Proofs.Ytgnoaokpahklaaa.Lzp (litB litB_nil litB_cons litB_len matB packB packF size_toList toList_nil_iff literals_ev match_some)
set_option linter.unusedVariables false
set_option linter.unusedSimpArgs false

/-- What bytes are as tokens. -/
def toksL : Nat → List Int → Int → List S49 → List S49 × Int × Int
  | 0, _, at_, acc => (acc, at_, 0)
  | f + 1, l, at_, acc =>
    if l = [] then (acc, at_, 0)
    else if tokE (tokL l) ≠ 0 then ([], at_, tokE (tokL l))
    else toksL f (l.drop (tokL l).2.2.2.toNat) (at_ + (tokL l).2.2.2) (acc ++ [⟨strOfNums (tokL l).1, (tokL l).2.1, (tokL l).2.2.1⟩])
theorem tok_facts (S : ByteArray) (at_ : Nat) (h : at_ < S.size) (hs : S.size ≤ 1073741824) :
    bytesOf (S.extract at_ S.size) = (bytesOf S).drop at_ ∧ (S.extract at_ S.size).size = S.size - at_ ∧ (bytesOf S).drop at_ ≠ [] := by
  refine ⟨by rw [bytesOf_extract, List.take_of_length_le (by rw [List.length_drop, bytesOf_length]; omega)], by rw [ByteArray.size_extract]; omega, ?_⟩
  intro e; have := congrArg List.length e; rw [List.length_drop, bytesOf_length] at this; simp at this; omega
theorem lzTokens_l0 (S : ByteArray) (hS : S.size ≤ 1073741824) : ∀ (n at_ : Nat) (acc : List S49), at_ ≤ S.size → S.size - at_ ≤ n → acc.length ≤ at_ →
    Ev (fun k => lz_Tokens.l0 k S acc (at_ : Int)) (toksL n ((bytesOf S).drop at_) (at_ : Int) acc) := by
  have hend : ∀ (acc : List S49) (at_ : Nat), at_ = S.size → Ev (fun k => lz_Tokens.l0 k S acc (at_ : Int)) (acc, (at_ : Int), 0) := by
    intro acc at_ h
    refine Ev.step (f := fun _ => some (acc, (S.size : Int), (0 : Int))) (fun k => ?_) (by rw [h]; exact Ev.now _)
    rw [lz_Tokens.l0, if_neg (by omega)]
  intro n
  induction n with
  | zero => intro at_ acc h1 h2 h3; exact hend acc at_ (by omega)
  | succ n ih =>
    intro at_ acc h1 h2 h3
    unfold toksL
    by_cases h0 : at_ = S.size
    · rw [if_pos (List.drop_eq_nil_of_le (by rw [bytesOf_length]; omega))]; exact hend acc at_ h0
    · obtain ⟨e1, e2, e3⟩ := tok_facts S at_ (by omega) hS
      rw [if_neg e3]
      have htz := tokL_zero (bytesOf (S.extract at_ S.size)) (byte_range _)
      have hts := token_some (S.extract at_ S.size) (by omega) (by omega)
      rw [bytesOf_length, e2] at htz
      rw [e1] at htz hts
      have hdrop : ∀ m : Nat, ((bytesOf S).drop at_).drop m = (bytesOf S).drop (at_ + m) := fun m => by rw [List.drop_drop]
      generalize tokL ((bytesOf S).drop at_) = t at *
      obtain ⟨lits, tl, td, tn⟩ := t
      dsimp only at htz hts ⊢
      have hE : tokE (lits, tl, td, tn) = if tn = 0 then 20 else if 0 < tl ∧ (td < 1 ∨ 8192 < td) then 25 else 0 := rfl
      refine Ev.step (fun k => by rw [lz_Tokens.l0, if_pos (show (at_ : Int) < (S.size : Int) by omega), if_pos (show 0 ≤ (at_ : Int) by omega), if_pos (show (at_ : Int) ≤ (S.size : Int) by omega), Int.toNat_natCast, hts, Option.bind_some]) ?_
      dsimp only
      by_cases hn0 : tn = 0
      · rw [hE, if_pos hn0, if_pos (by omega)]
        simp only [hn0, if_true]; exact Ev.now _
      · have htn : 2 ≤ tn ∧ tn ≤ ((S.size - at_ : Nat) : Int) := by rcases htz with h | h; exact absurd h.1 hn0; exact ⟨h.1, h.2.1⟩
        simp only [hn0, if_false]
        have hrec := ih (at_ + tn.toNat) (acc ++ [⟨strOfNums lits, tl, td⟩]) (by omega) (by omega) (by rw [List.length_append, List.length_singleton]; omega)
        rw [← hdrop] at hrec
        have hw : wrap64 ((at_ + tn.toNat : Nat) : Int) = ((at_ + tn.toNat : Nat) : Int) := wrap_id (by omega) (by omega)
        have hw' : (at_ : Int) + tn = ((at_ + tn.toNat : Nat) : Int) := by omega
        have hlim : acc.length < 4398046511104 := by omega
        by_cases hbad : 0 < tl ∧ (td < 1 ∨ 8192 < td)
        · rw [hE, if_neg hn0, if_pos hbad, if_pos (by omega)]
          have g1 : tl > 0 := hbad.1
          simp only [g1, if_true]
          by_cases g2 : td < 1
          · simp only [g2, if_true]; exact Ev.now _
          · have g3 : td > 8192 := by omega
            simp only [g2, if_false, g3, if_true]; exact Ev.now _
        · rw [hE, if_neg hn0, if_neg hbad, if_neg (by omega), hw']
          by_cases g1 : tl > 0
          · have g2 : ¬ td < 1 := by omega
            have g3 : ¬ td > 8192 := by omega
            simp only [g1, if_true, g2, if_false, g3, hlim, hw]; exact hrec
          · simp only [g1, if_false, hlim, if_true, hw]; exact hrec
theorem lzTokens_ev (S : ByteArray) (hS : S.size ≤ 1073741824) : Ev (fun k => lz_Tokens.f k S) (toksL S.size (bytesOf S) 0 []) :=
  lzTokens_l0 S hS S.size 0 [] (Nat.zero_le _) (by omega) (by simp)
/-- The tokens of tokens' bytes. -/
theorem toks_flat : ∀ (ts : List S49) (f : Nat) (at_ : Int) (acc : List S49), ts.all vL = true → ts.length ≤ f → toksL f (ts.flatMap tL) at_ acc = (acc ++ ts, at_ + (ts.flatMap tL).length, 0)
  | [], f, at_, acc, _, _ => by cases f <;> simp [toksL]
  | t :: ts, 0, at_, acc, _, h => by simp at h
  | t :: ts, f + 1, at_, acc, hv, h => by
    rw [List.all_cons, Bool.and_eq_true] at hv
    have ht := tok_tb hv.1 (ts.flatMap tL)
    have hne : tL t ++ ts.flatMap tL ≠ [] := fun e => tb_ne (List.append_eq_nil_iff.1 e).1
    have hl : (tb t.f0 t.f1 t.f2).length ≠ 0 := fun e => tb_ne (List.eq_nil_of_length_eq_zero e)
    rw [List.flatMap_cons]
    conv => lhs; unfold toksL
    rw [if_neg hne, ht]
    have hE : tokE (bytesOf t.f0, t.f1, t.f2, ((tb t.f0 t.f1 t.f2).length : Int)) = 0 := by
      show (if ((tb t.f0 t.f1 t.f2).length : Int) = 0 then (20 : Int) else if 0 < t.f1 ∧ (t.f2 < 1 ∨ 8192 < t.f2) then 25 else 0) = 0
      have := hv.1
      unfold vL vt isLit isMat at this
      rw [decide_eq_true_iff] at this
      rw [if_neg (by omega), if_neg (by omega)]
    rw [hE]
    dsimp only
    rw [if_neg (by omega), Int.toNat_natCast, List.drop_left, nums_bytes, toks_flat ts f _ _ hv.2 (by simpa using h)]
    refine Prod.ext (by simp) (Prod.ext ?_ rfl)
    show at_ + ((tb t.f0 t.f1 t.f2).length : Int) + _ = at_ + _
    rw [List.length_append]
    have : (tL t).length = (tb t.f0 t.f1 t.f2).length := rfl
    omega
theorem literals_same : ∀ (k : Nat) (l : List Int) (S : ByteArray), lz_literals.l0 k l S = QA.lz_literals.l0 k l S
  | 0, _, _ => rfl
  | k + 1, l, S => by rw [lz_literals.l0, QA.lz_literals.l0]; simp only [literals_same k]
theorem literals_ev' (S : ByteArray) (acc : List Int) (h : acc.length + 2 * S.size < 140737488355328) : Ev (fun k => lz_literals.f k acc S) (acc ++ litB (bytesOf S)) :=
  Ev.congr (fun k => literals_same k acc S) (literals_ev S acc h)
theorem lzForm_l0 (l : List S49) (hl : l.length ≤ 1073741824) : ∀ (d i : Nat) (acc : List Int), i + d = l.length → acc.length + 259 * d < 140737488355328 →
    Ev (fun k => lz_Form.l0 k acc l (l.length : Int) (i : Int)) (formSaid ((l.drop i).all vL) (acc ++ (l.drop i).flatMap tL)) := by
  intro d
  induction d with
  | zero =>
    intro i acc hi hb
    refine Ev.step (f := fun _ => some (strOfNums acc, (0 : Int))) (fun k => ?_) ?_
    · rw [lz_Form.l0, if_neg (by omega)]
    · rw [List.drop_eq_nil_of_le (by omega)]
      unfold formSaid
      simp only [List.all_nil, if_true, List.flatMap_nil, List.append_nil]
      exact Ev.now _
  | succ d ih =>
    intro i acc hi hb
    have hd := rd_drop l z49 i (by omega)
    have hrd : rd_T49 l (i : Int) = l.getD i z49 := by unfold rd_T49; rw [Int.toNat_natCast]
    rw [hd]
    generalize hT : l.getD i z49 = t at *
    obtain ⟨f0, f1, f2⟩ := t
    simp only [List.all_cons, List.flatMap_cons]
    have hj : ∀ (b : Bool) (R : ByteArray × Int), b = decide (isLit f0 f1 f2) → Ev (fun k => lz_Form.j1 k acc l (l.length : Int) (i : Int) b f0 f1 f2) R → Ev (fun k => lz_Form.l0 k acc l (l.length : Int) (i : Int)) R := by
      intro b R hbe hR
      refine Ev.step (f := fun k => lz_Form.j1 k acc l (l.length : Int) (i : Int) b f0 f1 f2) (fun k => ?_) hR
      rw [lz_Form.l0, if_pos (by omega), if_pos (by omega), if_pos (by omega), hrd]
      dsimp only
      by_cases h1 : f1 = 0
      · rw [if_pos h1]
        by_cases h2 : f2 = 0
        · rw [if_pos h2]
          by_cases h3 : (f0.size : Int) ≥ 1
          · rw [if_pos h3]
            have : decide ((f0.size : Int) ≤ 128) = b := by rw [hbe, decide_eq_decide]; unfold isLit; omega
            rw [this]
          · rw [if_neg h3, hbe, decide_eq_false (by unfold isLit; omega)]
        · rw [if_neg h2, hbe, decide_eq_false (by unfold isLit; omega)]
      · rw [if_neg h1, hbe, decide_eq_false (by unfold isLit; omega)]
    by_cases hlit : isLit f0 f1 f2
    · have hv : vt f0 f1 f2 = true := by unfold vt; rw [decide_eq_true (.inl hlit)]
      have hn : 1 ≤ f0.size := hlit.1
      have hn2 : f0.size ≤ 128 := hlit.2.1
      have htb : tb f0 f1 f2 = ((f0.size : Int) - 1) :: bytesOf f0 := by unfold tb; rw [if_pos hn]
      have hlb : litB (bytesOf f0) = tb f0 f1 f2 := by
        have hne : bytesOf f0 ≠ [] := by intro e; have := bytesOf_length f0; rw [e] at this; simp at this; omega
        rw [litB_cons hne, htb, bytesOf_length, List.take_of_length_le (by rw [bytesOf_length]; exact hn2), List.drop_eq_nil_of_le (by rw [bytesOf_length]; exact hn2), litB_nil, List.append_nil, show min f0.size 128 = f0.size from by omega]
      refine hj true _ (decide_eq_true hlit).symm ?_
      have hrec := ih (i + 1) (acc ++ tb f0 f1 f2) (by omega) (by rw [List.length_append]; have := tb_len hv; omega)
      rw [show vL ⟨f0, f1, f2⟩ = true from hv, Bool.true_and, ← List.append_assoc]
      refine Ev.step (fun k => by rw [lz_Form.j1, if_pos rfl]) (Ev.bind (literals_ev' f0 acc (by omega)) ?_)
      rw [hlb, wrap_id (x := (i : Int) + 1) (by omega) (by omega)]
      exact hrec
    · refine hj false _ (decide_eq_false hlit).symm ?_
      have hbad : ∀ R : ByteArray × Int, vt f0 f1 f2 = false → R = formSaid (vt f0 f1 f2 && (l.drop (i + 1)).all vL) (acc ++ (tb f0 f1 f2 ++ (l.drop (i + 1)).flatMap tL)) → R = ((⟨#[]⟩ : ByteArray), 1) := by
        intro R h e
        rw [e, h]; rfl
      by_cases hmat : isMat f0 f1 f2
      · have hv : vt f0 f1 f2 = true := by unfold vt; rw [decide_eq_true (.inr hmat)]
        have hm : f0.size = 0 ∧ 4 ≤ f1 ∧ f1 ≤ 131 ∧ 1 ≤ f2 ∧ f2 ≤ 8192 := hmat
        have htb : tb f0 f1 f2 = [f1 + 124, f2 / 256, f2 % 256] := by unfold tb; rw [if_neg (by omega)]
        have hrec := ih (i + 1) (acc ++ tb f0 f1 f2) (by omega) (by rw [List.length_append]; have := tb_len hv; omega)
        rw [show vL ⟨f0, f1, f2⟩ = true from hv, Bool.true_and, ← List.append_assoc]
        refine Ev.step (fun k => ?_) hrec
        have hms : lz_match.f acc f1 f2 = some (acc ++ tb f0 f1 f2) := by
          have := match_some acc f1.toNat f2.toNat (by omega) (by omega) (by omega) (by omega)
          rw [Int.toNat_of_nonneg (by omega), Int.toNat_of_nonneg (by omega)] at this
          have e : matB f1.toNat f2.toNat = tb f0 f1 f2 := by
            rw [htb]; unfold Lzp.matB; rw [Int.toNat_of_nonneg (by omega), Int.toNat_of_nonneg (by omega)]
          rw [← e]; exact this
        rw [lz_Form.j1, if_neg (by simp), if_pos ((toList_nil_iff f0).2 hm.1), if_pos (by omega), if_pos (by omega), if_pos (by omega), if_pos (by omega), hms, Option.bind_some, wrap_id (x := (i : Int) + 1) (by omega) (by omega)]
        rfl
      · have hv : vt f0 f1 f2 = false := by
          unfold vt
          rw [decide_eq_false_iff_not]
          rintro (h | h)
          · exact hlit h
          · exact hmat h
        rw [hbad _ hv rfl]
        refine Ev.step (f := fun _ => some ((⟨#[]⟩ : ByteArray), (1 : Int))) (fun k => ?_) (Ev.now _)
        rw [lz_Form.j1, if_neg (by simp)]
        unfold isMat at hmat
        by_cases h1 : f0.toList = ([] : List UInt8)
        · have h1' := (toList_nil_iff f0).1 h1
          rw [if_pos h1]
          by_cases h2 : f1 ≥ 4
          · rw [if_pos h2]
            by_cases h3 : f1 ≤ 131
            · rw [if_pos h3]
              by_cases h4 : f2 ≥ 1
              · rw [if_pos h4, if_neg (by omega)]
              · rw [if_neg h4]
            · rw [if_neg h3]
          · rw [if_neg h2]
        · rw [if_neg h1]
theorem lzForm_ev (l : List S49) (hl : l.length ≤ 1073741824) : Ev (fun k => lz_Form.f k l) (formSaid (l.all vL) (l.flatMap tL)) := by
  have h := lzForm_l0 l hl l.length 0 [] (by omega) (by simp; omega)
  rw [List.drop_zero, List.nil_append] at h
  exact h
theorem same_ev (l : List S49) (hl : l.length ≤ 1073741824) : Ev (fun k => gantrylaw04_same.f k l l) true := by
  have key : ∀ (d i : Nat), i + d = l.length → Ev (fun k => gantrylaw04_same.l0 k l l (i : Int)) true := by
    intro d
    induction d with
    | zero => intro i hi; exact Ev.step (f := fun _ => some true) (fun k => by rw [gantrylaw04_same.l0, if_neg (by omega)]) (Ev.now _)
    | succ d ih =>
      intro i hi
      refine Ev.step (f := fun k => gantrylaw04_same.l0 k l l ((i + 1 : Nat) : Int)) (fun k => ?_) (ih (i + 1) (by omega))
      rw [gantrylaw04_same.l0, if_pos (by omega), if_pos (by omega), if_pos (by omega), if_neg (by simp), wrap_id (by omega) (by omega)]
      rfl
  unfold gantrylaw04_same.f
  simp only [if_true]
  exact key l.length 0 (by omega)
/-- The tokens of what is packed. -/
theorem tokens_pack (S : ByteArray) (hS : S.size ≤ 268435456) : Ev (fun k => lz_Tokens.f k (strOfNums (packB S))) (toks S, ((packB S).length : Int), 0) := by
  obtain ⟨h1, h2, h3, h4⟩ := toks_said S
  have hpl := pack_len S
  have hsz : (strOfNums (packB S)).size = (packB S).length := Go.strOfNums_size _
  have h := lzTokens_ev (strOfNums (packB S)) (by omega)
  rw [pack_bytes, hsz, ← h1, toks_flat (toks S) _ 0 [] h2 (flat_len _), List.nil_append, Int.zero_add, h1] at h
  exact h
theorem form_pack (S : ByteArray) (hS : S.size ≤ 268435456) : Ev (fun k => lz_Form.f k (toks S)) (strOfNums (packB S), 0) := by
  obtain ⟨h1, h2, h3, h4⟩ := toks_said S
  have h := lzForm_ev (toks S) (by omega)
  rw [h1, h2] at h
  exact h
end Go.Proofs.Ytgnoaokpahklaaa.Lzh
