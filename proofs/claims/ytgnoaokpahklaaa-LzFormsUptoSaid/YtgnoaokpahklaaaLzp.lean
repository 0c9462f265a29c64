/- Pack of layer 4: what it answers. -/
import Derived.Test.YtgnoaokpahklaaaLzw
import Derived.OwnWalk
import Derived.Laws.MakeOwn
import Derived.Laws.BytesArg
import Derived.Lib.ConvBytes
import Derived.Lib.Strings
namespace Go.Proofs.Ytgnoaokpahklaaa.Lzp
open Go Go.RowKit Go.Lib Go.Proofs.Ytgnoaokpahklaaa.Lzm Go.Proofs.Ytgnoaokpahklaaa.Lzw Go.Proofs.YtgnoaokpahklaaaW.PrintWords Go.Proofs.Ytgnoaokpahklaaa.QA Go.Proofs.YtgnoaokpahklaaaW.PrintLast Go.Proofs.YtgnoaokpahklaaaW.PrintMore
set_option linter.unusedVariables false
set_option linter.unusedSimpArgs false

/-- Literals in tokens: 128 to a token. -/
def litF : Nat → List Int → List Int
  | 0, _ => []
  | f + 1, l => if l = [] then [] else (((min l.length 128 : Nat) : Int) - 1) :: (l.take 128 ++ litF f (l.drop 128))
theorem litF_any : ∀ (n : Nat) (l : List Int), l.length ≤ n → ∀ f f', l.length ≤ f → l.length ≤ f' → litF f l = litF f' l
  | 0, l, h, f, f', _, _ => by
    have : l = [] := List.eq_nil_of_length_eq_zero (by omega)
    subst this
    cases f <;> cases f' <;> simp [litF]
  | n + 1, l, h, f, f', h1, h2 => by
    by_cases h0 : l = []
    · subst h0
      cases f <;> cases f' <;> simp [litF]
    · have hp : 0 < l.length := List.length_pos_iff.2 h0
      obtain ⟨g, rfl⟩ : ∃ g, f = g + 1 := ⟨f - 1, by omega⟩
      obtain ⟨g', rfl⟩ : ∃ g, f' = g + 1 := ⟨f' - 1, by omega⟩
      simp only [litF, if_neg h0]
      rw [litF_any n (l.drop 128) (by rw [List.length_drop]; omega) g g' (by rw [List.length_drop]; omega) (by rw [List.length_drop]; omega)]
def litB (l : List Int) : List Int := litF l.length l
theorem litB_nil : litB [] = [] := rfl
theorem litB_cons {l : List Int} (h : l ≠ []) : litB l = (((min l.length 128 : Nat) : Int) - 1) :: (l.take 128 ++ litB (l.drop 128)) := by
  have hp : 0 < l.length := List.length_pos_iff.2 h
  have e : litB l = litF (l.length + 1) l := litF_any l.length l (Nat.le_refl _) _ _ (Nat.le_refl _) (Nat.le_succ _)
  rw [e]
  show (if l = [] then [] else _) = _
  rw [if_neg h]
  congr 2
  exact litF_any l.length (l.drop 128) (by rw [List.length_drop]; omega) _ _ (by rw [List.length_drop]; omega) (Nat.le_refl _)
theorem litB_len : ∀ (n : Nat) (l : List Int), l.length ≤ n → (litB l).length ≤ 2 * l.length
  | 0, l, h => by
    have : l = [] := List.eq_nil_of_length_eq_zero (by omega)
    subst this; rw [litB_nil]; simp
  | n + 1, l, h => by
    by_cases h0 : l = []
    · subst h0; rw [litB_nil]; simp
    · have hp : 0 < l.length := List.length_pos_iff.2 h0
      rw [litB_cons h0]
      have := litB_len n (l.drop 128) (by rw [List.length_drop]; omega)
      simp only [List.length_cons, List.length_append, List.length_take, List.length_drop] at this ⊢
      omega
def matB (n d : Nat) : List Int := [(n : Int) + 124, (d : Int) / 256, (d : Int) % 256]
/-- The bytes of what is packed, from a place on. -/
def packF (S : ByteArray) : Nat → Nat → Nat → List Int → List Int
  | 0, at_, from_, acc => acc ++ litB (bytesOf (S.extract from_ S.size))
  | f + 1, at_, from_, acc =>
    if at_ < S.size then
      if (bestAt (gb S) S.size at_).1 = 0 then packF S f (at_ + 1) from_ acc
      else packF S f (at_ + (bestAt (gb S) S.size at_).1) (at_ + (bestAt (gb S) S.size at_).1) (acc ++ litB (bytesOf (S.extract from_ at_)) ++ matB (bestAt (gb S) S.size at_).1 (bestAt (gb S) S.size at_).2)
    else acc ++ litB (bytesOf (S.extract from_ S.size))
def packB (S : ByteArray) : List Int := packF S S.size 0 0 []
theorem bytesOf_extract (s : ByteArray) (a b : Nat) : bytesOf (s.extract a b) = ((bytesOf s).drop a).take (b - a) := by
  unfold bytesOf; rw [Go.Lib.extract_data, List.map_take, List.map_drop]
theorem bytesOf_empty {S : ByteArray} (h : S.toList = ([] : List UInt8)) : bytesOf S = [] := by
  have : S.data.toList = [] := by rw [← Lib.toList_data]; exact h
  unfold bytesOf; rw [this]; rfl
theorem size_toList (S : ByteArray) : S.toList.length = S.size := by
  rw [Lib.toList_data, Array.length_toList]; rfl
theorem toList_nil_iff (S : ByteArray) : S.toList = ([] : List UInt8) ↔ S.size = 0 := by
  constructor
  · intro h; have := size_toList S; rw [h] at this; simpa using this.symm
  · intro h; exact List.eq_nil_of_length_eq_zero (by rw [size_toList]; exact h)
theorem literals_ev (S : ByteArray) (acc : List Int) (h : acc.length + 2 * S.size < 140737488355328) : Ev (fun k => lz_literals.f k acc S) (acc ++ litB (bytesOf S)) := by
  have key : ∀ (n : Nat) (S : ByteArray) (acc : List Int), S.size ≤ n → acc.length + 2 * S.size < 140737488355328 → Ev (fun k => lz_literals.l0 k acc S) (acc ++ litB (bytesOf S)) := by
    intro n
    induction n with
    | zero =>
      intro S acc hn h
      refine Ev.step (f := fun _ => some acc) (fun k => ?_) ?_
      · rw [lz_literals.l0, if_pos ((toList_nil_iff S).2 (by omega))]
      · rw [bytesOf_empty ((toList_nil_iff S).2 (by omega)), litB_nil, List.append_nil]; exact Ev.now _
    | succ n ih =>
      intro S acc hn h
      by_cases h0 : S.size = 0
      · exact (Ev.step (f := fun _ => some acc) (fun k => by rw [lz_literals.l0, if_pos ((toList_nil_iff S).2 h0)]) (by rw [bytesOf_empty ((toList_nil_iff S).2 h0), litB_nil, List.append_nil]; exact Ev.now _))
      · have hne : ¬ S.toList = ([] : List UInt8) := fun e => h0 ((toList_nil_iff S).1 e)
        have hmn : mn (S.size : Int) 128 = ((min S.size 128 : Nat) : Int) := by unfold mn; omega
        have hsz1 : (S.extract 0 (min S.size 128)).size = min S.size 128 := by rw [ByteArray.size_extract]; omega
        have hsz2 : (S.extract (min S.size 128) S.size).size = S.size - min S.size 128 := by rw [ByteArray.size_extract]; omega
        have hb1 : bytesOf (S.extract 0 (min S.size 128)) = (bytesOf S).take 128 := by
          rw [bytesOf_extract, List.drop_zero, Nat.sub_zero]
          by_cases h8 : 128 ≤ S.size
          · rw [show min S.size 128 = 128 from by omega]
          · rw [List.take_of_length_le (by rw [bytesOf_length]; omega), List.take_of_length_le (by rw [bytesOf_length]; omega)]
        have hb2 : bytesOf (S.extract (min S.size 128) S.size) = (bytesOf S).drop 128 := by
          rw [bytesOf_extract, List.take_of_length_le (by rw [List.length_drop, bytesOf_length]; omega)]
          by_cases h8 : 128 ≤ S.size
          · rw [show min S.size 128 = 128 from by omega]
          · rw [List.drop_eq_nil_of_le (by rw [bytesOf_length]; omega), List.drop_eq_nil_of_le (by rw [bytesOf_length]; omega)]
        have hne2 : bytesOf S ≠ [] := by
          intro e; have := bytesOf_length S; rw [e] at this; exact h0 (by simpa using this.symm)
        have e1 : acc ++ litB (bytesOf S) = (acc ++ [(((min S.size 128 : Nat) : Int) - 1)] ++ bytesOf (S.extract 0 (min S.size 128))) ++ litB (bytesOf (S.extract (min S.size 128) S.size)) := by
          rw [litB_cons hne2, hb1, hb2, bytesOf_length]; simp
        rw [e1]
        refine Ev.step (f := fun k => lz_literals.l0 k (acc ++ [(((min S.size 128 : Nat) : Int) - 1)] ++ bytesOf (S.extract 0 (min S.size 128))) (S.extract (min S.size 128) S.size)) (fun k => ?_) (ih _ _ (by rw [hsz2]; omega) (by rw [hsz2, List.length_append, List.length_append, bytesOf_length, hsz1, List.length_singleton]; omega))
        rw [lz_literals.l0, if_neg hne, if_pos (by omega), hmn]
        simp only [Option.bind_some, Int.toNat_natCast]
        rw [if_pos (by omega), if_pos (by omega), if_pos (by rw [hsz1, List.length_append, List.length_singleton]; omega), show (((min S.size 128 : Nat) : Int) - 1) % 256 = ((min S.size 128 : Nat) : Int) - 1 from by omega]
  exact key S.size S acc (Nat.le_refl _) h
theorem match_some (acc : List Int) (n d : Nat) (hn : 4 ≤ n) (hn2 : n ≤ 131) (hd : d ≤ 8192) (h : acc.length + 3 < 140737488355328) : lz_match.f acc (n : Int) (d : Int) = some (acc ++ matB n d) := by
  unfold lz_match.f matB
  rw [Option.bind_some, if_pos (by simpa using h)]
  congr 3
  · rw [wrap_id (x := (n : Int) - 4) (by omega) (by omega), wrap_id (by omega) (by omega)]; omega
  · congr 1; omega

/-! The struct that Pack makes. -/
/-- Are they n zeros of an int32 and a nil slice? -/
def chk : Nat → List Value → Bool
  | 0, [.slice none 0 0] => true
  | n + 1, .int .i32 0 :: r => chk n r
  | _, _ => false
def chkS : Option Value → Bool
  | some (.agg c) => match c.toList with
    | .string _ :: r => chk 32768 r
    | _ => false
  | _ => false
theorem chk_said : ∀ n l, chk n l = true → l.length = n + 1 ∧ ∀ i, i < n → l[i]? = some (.int .i32 0)
  | 0, l, h => by
    unfold chk at h
    split at h
    · rename_i h1 _; simp
    · rename_i h1 _; omega
    · cases h
  | n + 1, l, h => by
    unfold chk at h
    split at h
    · rename_i h1 _; omega
    · rename_i m r h1 
      obtain rfl : n = m := by omega
      have := chk_said n _ h
      refine ⟨by simp [this.1], fun i hi => ?_⟩
      cases i with
      | zero => rfl
      | succ i => simpa using this.2 i (by omega)
    · cases h
theorem zero_chains : chkS ((Try.prog.info? 62).bind (fun i => i.zero)) = true := by kernel_rfl
theorem chkS_said (v : Option Value) (h : chkS v = true) : ∃ c, v = some (.agg c) ∧ c.size = 32770 ∧ ∀ i, i < 32768 → c[1 + i]? = some (.int .i32 0) := by
  unfold chkS at h
  split at h
  · rename_i c
    split at h
    · rename_i s r hc
      have hr := chk_said 32768 r h
      refine ⟨c, rfl, ?_, fun i hi => ?_⟩
      · rw [← Array.length_toList, hc, List.length_cons, hr.1]
      · rw [← Array.getElem?_toList, hc, Nat.add_comm, List.getElem?_cons_succ]; exact hr.2 i hi
    · cases h
  · cases h
theorem places : (match Try.prog.underlying 62 with | some (.struct fields) => fields.toList.mapM (fun f => (Try.prog.info? f.type).map fun i => (f.offset, i.size)) | _ => none) = some [(0, 1), (1, 32768), (32769, 1)] := by kernel_rfl
theorem built_chains (S : ByteArray) (A : Option Addr) (n m : Nat) : ∃ cs, Try.prog.built 62 [(0, .string S), (2, .slice A n m)] = some cs ∧ cs.size = 32770 ∧ cs[0]? = some (.string S) ∧ cs[32769]? = some (.slice A n m) ∧ ∀ i, i < 32768 → cs[1 + i]? = some (.int .i32 0) := by
  obtain ⟨c, hc, hs, hz⟩ := chkS_said _ zero_chains
  obtain ⟨i0, hi, hi2⟩ := Option.bind_eq_some_iff.1 hc
  have hp := places
  rw [Try.underlying62] at hp
  refine ⟨(c.setIfInBounds 0 (.string S)).setIfInBounds 32769 (.slice A n m), ?_, by simp [hs], ?_, ?_, fun i hi => ?_⟩
  · unfold Program.built
    rw [hi, Try.underlying62]
    simp only [hi2]
    dsimp only at hp
    rw [hp]
    simp [Instr.fill, Value.cells, hs]
  · rw [Array.getElem?_setIfInBounds, if_neg (by omega), Array.getElem?_setIfInBounds, if_pos rfl, if_pos (by omega)]
  · rw [Array.getElem?_setIfInBounds, if_pos rfl, if_pos (by rw [Array.size_setIfInBounds]; omega)]
  · rw [Array.getElem?_setIfInBounds, if_neg (by omega), Array.getElem?_setIfInBounds, if_neg (by omega)]; exact hz i hi
theorem step_build {P : Program} {ops : Array Oper} {rest : List Oper} {o : Oper} {a : Act} {Q : Exit → Act → World → Prop} {w : World} (hgd : o.guard = none) (t : TypeId) (i j : Nat) (x y : Operand) (ho : o.op = .build t #[(i, x), (j, y)])
    (vx vy : Value) (hx : a.eval x = vx) (hy : a.eval y = vy) (cells : Array Value) (h : P.built t [(i, vx), (j, vy)] = some cells) (k : wpList P ops Q rest (a.put o.dst (.agg cells)) w) : wpList P ops Q (o :: rest) a w := by
  refine wpList_plain hgd fun K hK => ?_
  have hr := run_build (P := P) w t #[(i, vx), (j, vy)] cells h
  unfold Oper.wp execOp
  simp only [ho, Sem.run_bind, List.map_toArray, List.map_cons, List.map_nil, hx, hy, hr, Result.andThen_ok]
  exact hK _ _ k
theorem run_box_agg {P : Program} (t : TypeId) (cells : Array Value) (w : World) : (Instr.box t (.agg cells)).run P w = Result.ok (.pointer (some ⟨w.heap.size, 0, none⟩)) (w.alloc (.cells cells t (0, 0))) := rfl
theorem step_box {P : Program} {ops : Array Oper} {rest : List Oper} {o : Oper} {a : Act} {Q : Exit → Act → World → Prop} {w : World} (hgd : o.guard = none) (t : TypeId) (x : Operand) (ho : o.op = .box t x)
    (cells : Array Value) (hx : a.eval x = .agg cells) (k : wpList P ops Q rest (a.put o.dst (.pointer (some ⟨w.heap.size, 0, none⟩))) (w.alloc (.cells cells t (0, 0)))) : wpList P ops Q (o :: rest) a w := by
  refine wpList_plain hgd fun K hK => ?_
  have hr := run_box_agg (P := P) t cells w
  unfold Oper.wp execOp
  simp only [ho, Sem.run_bind, hx, hr, Result.andThen_ok]
  exact hK _ _ k
end Go.Proofs.Ytgnoaokpahklaaa.Lzp
