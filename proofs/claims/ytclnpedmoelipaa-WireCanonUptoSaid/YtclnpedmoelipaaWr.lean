/- The writer of layer 2: what it is in memory, and what each of its calls makes of it. -/
import Derived.Test.YtclnpedmoelipaaProg
import Derived.WalkKit
import Derived.Below
import Derived.Lib.AppendStr
import Derived.Lib.Hide
import Derived.Laws.OwnMore
import Derived.Laws.Rows
import Derived.WalkLawsBesides
import Derived.WalkSpells
import Derived.RegionTactic
import Derived.ChangeAlike
import Derived.Laws.BytesArg
namespace Go.Proofs.Ytclnpedmoelipaa.Wr
open Go Go.RowKit Go.Lib
set_option linter.unusedVariables false
set_option linter.unusedSimpArgs false

/-- What a call may turn: the blocks of F, and new ones. -/
structure Chg (F : Nat → Prop) (W W' : World) : Prop where
  sz : W.heap.size ≤ W'.heap.size
  blk : ∀ i, i < W.heap.size → ¬ F i → W'.heap[i]? = W.heap[i]?
  env : W'.os = W.os ∧ W'.tape = W.tape ∧ W'.output = W.output
theorem env_trans {W W1 W2 : World} (h : W1.os = W.os ∧ W1.tape = W.tape ∧ W1.output = W.output) (h' : W2.os = W1.os ∧ W2.tape = W1.tape ∧ W2.output = W1.output) : W2.os = W.os ∧ W2.tape = W.tape ∧ W2.output = W.output :=
  ⟨h'.1.trans h.1, h'.2.1.trans h.2.1, h'.2.2.trans h.2.2⟩
theorem Chg.to_below {F : Nat → Prop} {W W' : World} {B : Nat} (h : Chg F W W') (hB : B ≤ W.heap.size) (hF : ∀ i, F i → B ≤ i) : Below B W W' :=
  ⟨h.env.1, h.env.2.1, h.env.2.2, h.sz, fun i hi => h.blk i (Nat.lt_of_lt_of_le hi hB) (fun hf => absurd (hF i hf) (by omega))⟩
theorem Chg.refl (F : Nat → Prop) (W : World) : Chg F W W := ⟨Nat.le_refl _, fun _ _ _ => rfl, rfl, rfl, rfl⟩
theorem Chg.trans {F : Nat → Prop} {W W1 W2 : World} (h : Chg F W W1) (h' : Chg F W1 W2) : Chg F W W2 :=
  ⟨Nat.le_trans h.1 h'.1, fun i hi hf => (h'.2 i (Nat.lt_of_lt_of_le hi h.1) hf).trans (h.2 i hi hf), env_trans h.3 h'.3⟩
theorem Chg.below {F : Nat → Prop} {W W' : World} {B : Nat} (h : Chg F W W') (hB : B ≤ W.heap.size) (hF : ∀ i, F i → B ≤ i) : ∀ i, i < B → W'.heap[i]? = W.heap[i]? :=
  fun i hi => h.2 i (Nat.lt_of_lt_of_le hi hB) (fun hf => absurd (hF i hf) (by omega))

/-- A block that is known whole. -/
def Blk (W : World) (g : Nat) (t : TypeId) (cs : Array Value) : Prop := W.heap[g]? = some (.cells cs t (0, 0))
theorem Blk.lt {W : World} {g : Nat} {t : TypeId} {cs : Array Value} (h : Blk W g t cs) : g < W.heap.size := by
  rcases Nat.lt_or_ge g W.heap.size with hlt | hge
  · exact hlt
  · unfold Blk at h; rw [Array.getElem?_eq_none hge] at h; cases h
theorem Blk.cell {W : World} {g : Nat} {t : TypeId} {cs : Array Value} (h : Blk W g t cs) (i : Nat) : W.cell? ⟨g, i, none⟩ = cs[i]? := cell_of_row W g i cs t (0, 0) h
theorem Blk.frozen {W : World} {g : Nat} {t : TypeId} {cs : Array Value} (h : Blk W g t cs) (i : Nat) : W.frozen? ⟨g, i, none⟩ = false := by
  unfold Blk at h
  simp [World.frozen?, h]

/-- The writer at p has written s: its struct, its place, its row of bytes; all in the blocks of F. -/
structure WrAt (W : World) (F : Nat → Prop) (p : Addr) (s : ByteArray) : Prop where
  ex : ∃ b pb v, p = ⟨b, 0, none⟩ ∧ Blk W b 74 #[.pointer (some ⟨pb, 0, none⟩), v] ∧ Blk W pb 71 #[.int .i64 s.size] ∧ F b ∧ F pb ∧
    W.ownsRow 0 5 1 v s.size (strCells s) ∧ (∀ k, v.ownBlock = some k → F k)

theorem heap_new (W : World) (o : Obj) : (W.alloc o).heap[W.heap.size]? = some o := heap_alloc_new W o
theorem heap_old (W : World) (o : Obj) {i : Nat} (h : i < W.heap.size) : (W.alloc o).heap[i]? = W.heap[i]? := Below.heap_alloc W o i h

theorem new_calls (w : World) : Calls Try.prog 9 #[] w fun e w' => ∃ p, e = .returned (.pointer (some p)) ∧ WrAt w' (fun k => w.heap.size ≤ k) p ByteArray.empty ∧ Chg (fun _ => False) w w' := by
  go_enter Try.func9, Try.ntmps9
  go_wp2
  go_ret
  have hs : (w.alloc (Obj.cells #[Value.int IntKind.i64 0] 71)).heap.size = w.heap.size + 1 := by simp
  refine ⟨_, rfl, ⟨⟨w.heap.size + 1, w.heap.size, .slice none 0 0, rfl, ?_, ?_, by omega, Nat.le_refl _, World.ownsRow_nil _ _ _ _, by simp [Value.ownBlock]⟩⟩, ⟨by simp; omega, fun i hi _ => ?_, rfl, rfl, rfl⟩⟩
  · unfold Blk; rw [← hs]; exact heap_new _ _
  · unfold Blk; rw [heap_old _ _ (by omega)]; exact heap_new _ _
  · rw [heap_old _ _ (by omega), heap_old _ _ hi]

/-- Where the row lies behind an append of a string: where it lay, or in a new block. -/
theorem append_str_at {P : Program} (w : World) (t u ty e : TypeId) (i : TypeInfo) (ht : P.underlying t = some (.slice e)) (hu : P.underlying u = some .string) (hi : P.info? e = some i) (hz : i.zero = some (.int .u8 0))
    (hsize : i.size = 1) (hby : i.bytes = 1) (v : Value) (n : Nat) (xs : List Value) (hown : w.ownsRow 0 e 1 v n xs) (s : ByteArray) (hb : n + s.size ≤ 140737488355328) :
    ∃ v' w', (Builtin.append_ #[t, u] ty #[v, .string s]).run P w = .ok v' w' ∧ w'.ownsRow 0 e 1 v' (n + s.size) (xs ++ strCells s) ∧ w.grownBy w' v.ownBlock ∧ (v'.ownBlock = v.ownBlock ∨ ∃ k, v'.ownBlock = some k ∧ w.heap.size ≤ k) := by
  obtain ⟨v', w', hr, ho, hg, hnil⟩ := run_append_own_string (P := P) w 0 t u ty e i ht hu hi hz hsize hby v n xs hown s (by unfold maxLen; omega) hb (Nat.zero_le _)
  refine ⟨v', w', hr, ho, hg, ?_⟩
  rcases hown.2 with ⟨rfl, rfl⟩ | ⟨g, cap, cur, rfl, _, hgb, hnc, hcm, hcs, htake⟩
  · by_cases hs0 : s.size = 0
    · left; rw [hnil.2 ⟨rfl, hs0⟩]
    · have hx : xs = [] := List.eq_nil_of_length_eq_zero (by simpa using hown.1)
      subst hx
      obtain ⟨v2, w2, hr2, ho2, _, _⟩ := run_append_own_string (P := P) w w.heap.size t u ty e i ht hu hi hz hsize hby (.slice none 0 0) 0 [] (World.ownsRow_nil w _ e 1) s (by unfold maxLen; omega) hb (Nat.le_refl _)
      rw [hr] at hr2
      injection hr2 with h1 h2
      subst h1
      rcases ho2.2 with ⟨_, h0⟩ | ⟨g, _, _, rfl, hg2, _⟩
      · omega
      · right; exact ⟨g, rfl, hg2⟩
  · by_cases hroom : n + s.size ≤ cap
    · have hr2 := run_append_room_string (P := P) w t u ty e i ht hu hi hsize g n cap cur hgb s hroom (by omega)
      rw [hr] at hr2
      injection hr2 with h1 h2
      left; rw [h1]; rfl
    · have holds : ∀ j u, xs[j]? = some u → w.cell? ((⟨g, 0, none⟩ : Addr).add j) = some u := hown.cells (g := g) rfl
      have hxl : xs.length = n := by simpa using hown.1
      have hr2 := run_append_grow_string (P := P) w t u ty e i (.int .u8 0) ht hu hi hz ⟨g, 0, none⟩ n cap xs (by rw [hsize]; omega) holds s (by omega) (by omega) (by rw [hby]; exact growslice_fits (by omega) (by omega))
      rw [hr] at hr2
      injection hr2 with h1 h2
      right; rw [h1]; exact ⟨_, rfl, Nat.le_refl _⟩
theorem step_append_str {P : Program} {ops : Array Oper} {rest : List Oper} {o : Oper} {a : Act} {Q : Exit → Act → World → Prop} {w : World} (hgd : o.guard = none) (sl x : Operand) (t u : TypeId)
    (ho : o.op = .call { callee := .builtin .append, args := #[sl, x], argTypes := #[t, u] })
    (e : TypeId) (i : TypeInfo) (ht : P.underlying t = some (.slice e)) (hu : P.underlying u = some .string) (hi : P.info? e = some i) (hz : i.zero = some (.int .u8 0)) (hsize : i.size = 1) (hby : i.bytes = 1)
    (v : Value) (n : Nat) (xs : List Value) (hs : a.eval sl = v) (hown : w.ownsRow 0 e 1 v n xs) (s : ByteArray) (hx : a.eval x = .string s) (hb : n + s.size ≤ 140737488355328)
    (h : ∀ v' w', w'.ownsRow 0 e 1 v' (n + s.size) (xs ++ strCells s) → w.grownBy w' v.ownBlock → (v'.ownBlock = v.ownBlock ∨ ∃ k, v'.ownBlock = some k ∧ w.heap.size ≤ k) → wpList P ops Q rest (a.put o.dst v') w') : wpList P ops Q (o :: rest) a w := by
  refine wpList_plain hgd fun K hK => ?_
  obtain ⟨v', w', hr, h2, h3, h4⟩ := append_str_at (P := P) w t u o.type e i ht hu hi hz hsize hby v n xs hown s hb
  unfold Oper.wp execOp
  simp only [ho, resolve, invoke, builtin, Sem.run_bind, Sem.run_pure, Result.andThen_ok, List.map_toArray, List.map_cons, List.map_nil, hs, hx, hr]
  exact hK _ _ (h v' w' h2 h3 h4)

theorem Blk.ne_ {w : World} {g g' : Nat} {t t' : TypeId} {cs cs' : Array Value} (h : Blk w g t cs) (h' : Blk w g' t' cs') (hne : t ≠ t') : g ≠ g' := by
  rintro rfl
  unfold Blk at h h'
  rw [h] at h'
  injection h' with h'
  injection h' with _ ht
  exact hne ht
theorem own_blk_ne {w : World} {base : Nat} {e : TypeId} {size n : Nat} {v : Value} {xs : List Value} {g : Nat} {t : TypeId} {cs : Array Value} (h : w.ownsRow base e size v n xs) (hg : Blk w g t cs) (hne : e ≠ t) : v.ownBlock ≠ some g := by
  rcases h.2 with ⟨rfl, _⟩ | ⟨g', cap, cur, rfl, _, hh, _⟩
  · simp [Value.ownBlock]
  · intro he
    have : g' = g := by simpa [Value.ownBlock] using he
    subst this
    exact Blk.ne_ (t := e) hh hg hne rfl
theorem Blk.grown {w w' : World} {g : Nat} {t : TypeId} {cs : Array Value} {row : Option Nat} (h : Blk w g t cs) (hb : w.grownBy w' row) (hg : row ≠ some g) : Blk w' g t cs := (hb.block g h.lt (fun e => hg e.symm)).trans h
theorem Blk.set_ {w : World} {g : Nat} {t : TypeId} {cs : Array Value} (h : Blk w g t cs) (i : Nat) (u : Value) : Blk (w.setCell ⟨g, i, none⟩ u) g t (cs.setIfInBounds i u) := by
  unfold Blk at h ⊢
  simp [World.setCell, Array.getElem?_modify, h]
theorem Blk.far {w : World} {g : Nat} {t : TypeId} {cs : Array Value} (h : Blk w g t cs) {p : Addr} (hp : g ≠ p.block) (u : Value) : Blk (w.setCell p u) g t cs := (Below.heap_setCell w p u g hp).trans h
theorem slice_of_own {w : World} {base : Nat} {e : TypeId} {size n : Nat} {v : Value} {xs : List Value} (h : w.ownsRow base e size v n xs) : ∃ A c, v = .slice A n c := by
  rcases h.2 with ⟨rfl, rfl⟩ | ⟨g, cap, cur, rfl, _⟩
  · exact ⟨none, 0, rfl⟩
  · exact ⟨_, cap, rfl⟩

theorem own_keep {w w' : World} {base : Nat} {e : TypeId} {size n : Nat} {v : Value} {xs : List Value} (h : w.ownsRow base e size v n xs) (hk : ∀ k, v.ownBlock = some k → w'.heap[k]? = w.heap[k]?) : w'.ownsRow base e size v n xs := by
  obtain ⟨h1, h2⟩ := h
  refine ⟨h1, ?_⟩
  rcases h2 with h2 | ⟨g, cap, cur, rfl, hg, hh, r⟩
  · exact .inl h2
  · exact .inr ⟨g, cap, cur, rfl, hg, (hk g rfl).trans hh, r⟩
theorem heap_set (w : World) (p : Addr) (u : Value) (i : Nat) (h : i ≠ p.block) : (w.setCell p u).heap[i]? = w.heap[i]? := Below.heap_setCell w p u i h
theorem WrAt.keep {W W' : World} {F : Nat → Prop} {p : Addr} {s : ByteArray} (h : WrAt W F p s) (hk : ∀ k, F k → k < W.heap.size → W'.heap[k]? = W.heap[k]?) : WrAt W' F p s := by
  obtain ⟨b, pb, v, rfl, hB, hP, hFb, hFp, hown, hFv⟩ := h.ex
  refine ⟨⟨b, pb, v, rfl, (hk b hFb hB.lt).trans hB, (hk pb hFp hP.lt).trans hP, hFb, hFp, own_keep hown (fun k hv => ?_), hFv⟩⟩
  rcases hown.2 with ⟨rfl, _⟩ | ⟨g, cap, cur, rfl, _, hh, _⟩
  · simp [Value.ownBlock] at hv
  · obtain rfl : g = k := by simpa [Value.ownBlock] using hv
    exact hk g (hFv g rfl) (Blk.lt (t := 5) hh)
theorem WrAt.mono {W : World} {F G : Nat → Prop} {p : Addr} {s : ByteArray} (h : WrAt W F p s) (hg : ∀ k, F k → G k) : WrAt W G p s := by
  obtain ⟨b, pb, v, rfl, hB, hP, hFb, hFp, hown, hFv⟩ := h.ex
  exact ⟨⟨b, pb, v, rfl, hB, hP, hg _ hFb, hg _ hFp, hown, fun k hk => hg _ (hFv k hk)⟩⟩
theorem WrAt.tight {W : World} {F : Nat → Prop} {p : Addr} {s : ByteArray} (h : WrAt W F p s) : WrAt W (fun k => F k ∧ k < W.heap.size) p s := by
  obtain ⟨b, pb, v, rfl, hB, hP, hFb, hFp, hown, hFv⟩ := h.ex
  refine ⟨⟨b, pb, v, rfl, hB, hP, ⟨hFb, hB.lt⟩, ⟨hFp, hP.lt⟩, hown, fun k hk => ⟨hFv k hk, ?_⟩⟩⟩
  rcases hown.2 with ⟨rfl, _⟩ | ⟨g, cap, cur, rfl, _, hh, _⟩
  · simp [Value.ownBlock] at hk
  · obtain rfl : g = k := by simpa [Value.ownBlock] using hk
    exact Blk.lt (t := 5) hh
theorem Chg.mono {F G : Nat → Prop} {W W' : World} (h : Chg F W W') (hg : ∀ k, F k → k < W.heap.size → G k) : Chg G W W' := ⟨h.1, fun i hi hf => h.2 i hi (fun hF => hf (hg i hF hi)), h.3⟩
theorem WrAt.chg {W W' : World} {F G : Nat → Prop} {p : Addr} {s : ByteArray} (h : WrAt W F p s) (hc : Chg G W W') (hd : ∀ k, F k → k < W.heap.size → ¬ G k) : WrAt W' F p s :=
  h.keep (fun k hk hl => hc.2 k hl (hd k hk hl))

theorem info_u8 : (Try.prog.info? 5).map (fun i => (i.zero, i.size, i.bytes)) = some (some (.int .u8 0), 1, 1) := by kernel_rfl
theorem strCells_append (a b : ByteArray) : strCells (a ++ b) = strCells a ++ strCells b := by
  unfold strCells; simp

set_option maxRecDepth 100000 in
set_option maxHeartbeats 400000 in
/-- Raw: the bytes, behind what was written. -/
theorem raw_calls (p : Addr) (F : Nat → Prop) (s t : ByteArray) (w : World) (h : WrAt w F p s) (hb : s.size + t.size ≤ 140737488355328) :
    Calls Try.prog 55 #[.pointer (some p), .string t] w fun e w' => e = .returned (.tuple #[]) ∧ WrAt w' (fun k => F k ∨ w.heap.size ≤ k) p (s ++ t) ∧ Chg F w w' := by
  obtain ⟨b, pb, v, rfl, hB, hP, hFb, hFp, hown, hFv⟩ := h.ex
  obtain ⟨i0, hi, hz0, hz1, hz2⟩ := info_parts info_u8
  have c0 : w.cell? ⟨b, 0, none⟩ = some (.pointer (some ⟨pb, 0, none⟩)) := hB.cell 0
  have c1 : w.cell? ⟨b, 1, none⟩ = some v := hB.cell 1
  have f0 : w.frozen? ⟨b, 0, none⟩ = false := hB.frozen 0
  have f1 : w.frozen? ⟨b, 1, none⟩ = false := hB.frozen 1
  go_enter Try.func55, Try.ntmps55
  go_wp2_with (at_builtin; refine step_append_str rfl _ _ 72 9 rfl 5 i0 Try.underlying72 Try.underlying9 hi hz0 hz1 hz2 v s.size (strCells s) rfl hown t rfl hb ?_; intro v' w1 hown1 hg1 hat1; have hB1 := hB.grown hg1 (own_blk_ne hown hB (by decide)); have hP1 := hP.grown hg1 (own_blk_ne hown hP (by decide)); obtain ⟨A', cap', rfl⟩ := slice_of_own hown1; have c10 : w1.cell? ⟨b, 0, none⟩ = some (.pointer (some ⟨pb, 0, none⟩)) := hB1.cell 0; have c11 : w1.cell? ⟨b, 1, none⟩ = some v := hB1.cell 1; have f11 : w1.frozen? ⟨b, 1, none⟩ = false := hB1.frozen 1; have d10 : w1.cell? ⟨pb, 0, none⟩ = some (.int .i64 s.size) := hP1.cell 0; have e10 : w1.frozen? ⟨pb, 0, none⟩ = false := hP1.frozen 0)
  have hbp : b ≠ pb := Blk.ne_ hB1 hP1 (by decide)
  have hB2 := hB1.set_ 1 (Value.slice A' (s.size + t.size) cap')
  have hP2 := hP1.far (p := ⟨b, 1, none⟩) (fun e => hbp e.symm) (Value.slice A' (s.size + t.size) cap')
  have hz2' : (w1.setCell ⟨b, 1, none⟩ (Value.slice A' (s.size + t.size) cap')).heap.size = w1.heap.size := by simp
  generalize hW2 : w1.setCell ⟨b, 1, none⟩ (Value.slice A' (s.size + t.size) cap') = W2 at *
  have HW2 := Lib.hid hW2
  clear hW2 c10 c11 f11 d10 e10
  have HZ := Lib.hid hz2'
  clear hz2'
  have c20 : W2.cell? ⟨b, 0, none⟩ = some (.pointer (some ⟨pb, 0, none⟩)) := hB2.cell 0
  have c21 : W2.cell? ⟨b, 1, none⟩ = some (Value.slice A' (s.size + t.size) cap') := hB2.cell 1
  have d20 : W2.cell? ⟨pb, 0, none⟩ = some (.int .i64 s.size) := hP2.cell 0
  have e20 : W2.frozen? ⟨pb, 0, none⟩ = false := hP2.frozen 0
  go_region
  go_end0
  have hsz : (s ++ t).size = s.size + t.size := ByteArray.size_append
  have hFn : ∀ k, (Value.slice A' (s.size + t.size) cap').ownBlock = some k → F k ∨ w.heap.size ≤ k := by
    intro k hk
    rcases hat1 with h1 | ⟨j, h1, h2⟩
    · exact .inl (hFv k (by rw [← h1]; exact hk))
    · rw [hk] at h1; injection h1 with h1; subst h1; exact .inr h2
  have hnb := own_blk_ne hown1 hB1 (by decide)
  have hnp := own_blk_ne hown1 hP1 (by decide)
  have hP3 := hP2.set_ 0 (Value.int .i64 ((s.size : Int) + (t.size : Int)))
  have hB3 := hB2.far (p := ⟨pb, 0, none⟩) hbp (Value.int .i64 ((s.size : Int) + (t.size : Int)))
  have hblk : ∀ i, i ≠ b → i ≠ pb → (W2.setCell ⟨pb, 0, none⟩ (Value.int .i64 ((s.size : Int) + (t.size : Int)))).heap[i]? = w1.heap[i]? := by
    intro i h1 h2
    rw [heap_set _ _ _ _ h2, ← HW2.out, heap_set _ _ _ _ h1]
  refine ⟨rfl, ⟨⟨b, pb, _, rfl, hB3, ?_, .inl hFb, .inl hFp, ?_, hFn⟩⟩, ⟨?_, ?_, ?_⟩⟩
  · have : Blk (W2.setCell ⟨pb, 0, none⟩ (Value.int .i64 ((s.size : Int) + (t.size : Int)))) pb 71 #[Value.int .i64 ((s ++ t).size : Int)] := by
      rw [hsz]; exact hP3
    exact this
  · rw [strCells_append, hsz]
    exact own_keep hown1 (fun k hk => hblk k (fun e => hnb (by rw [hk, e])) (fun e => hnp (by rw [hk, e])))
  · have h1 := hg1.size
    have h2 := HZ.out
    show w.heap.size ≤ (W2.setCell _ _).heap.size
    rw [World.size_setCell]; omega
  · intro i hi hf
    have h1 := hg1.block i hi (fun e => hf (hFv i e.symm))
    exact (hblk i (fun e => hf (e ▸ hFb)) (fun e => hf (e ▸ hFp))).trans h1
  · rw [← HW2.out]; exact ⟨hg1.os, hg1.tape, hg1.output⟩
end Go.Proofs.Ytclnpedmoelipaa.Wr
