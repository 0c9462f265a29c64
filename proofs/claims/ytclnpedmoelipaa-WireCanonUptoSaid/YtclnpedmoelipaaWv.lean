/- The writer of layer 2, its numbers of layer 1, its texts, and what it tells. -/
import Derived.Test.YtclnpedmoelipaaWf
import Derived.Test.YtclnpedmoelipaaVlW
namespace Go.Proofs.Ytclnpedmoelipaa.Wr
open Go Go.RowKit Go.Lib Go.Proofs.Ytclnpedmoelipaa.Vm Go.Proofs.Ytclnpedmoelipaa.VlW Go.Proofs.Ytclnpedmoelipaa.QW Go.Proofs.YtclnpedmoelipaaW.PrintWords
set_option linter.unusedVariables false
set_option linter.unusedSimpArgs false

def encB (v : Nat) : ByteArray := strOfNums (enc v)
theorem encB_size (v : Nat) : (encB v).size = (enc v).length := strOfNums_size _
theorem encB_le {v : Nat} (h : v < 18446744073709551616) : (encB v).size ≤ 10 := by rw [encB_size]; exact enc_len64 h
theorem Chg.of_below {W W' : World} (h : Below W.heap.size W W') : Chg (fun _ => False) W W' := ⟨h.size, fun i hi _ => h.block i hi, h.os, h.tape, h.output⟩
theorem Chg.alloc (F : Nat → Prop) (W : World) (o : Obj) : Chg F W (W.alloc o) := ⟨by simp, fun i hi _ => heap_old W o hi, rfl, rfl, rfl⟩
theorem Chg.none {F : Nat → Prop} {W W' : World} (h : Chg (fun _ => False) W W') : Chg F W W' := h.mono (fun _ h _ => h.elim)
theorem WrAt.new_ {W W' : World} {F : Nat → Prop} {p : Addr} {s : ByteArray} (h : WrAt W F p s) (hc : Chg (fun _ => False) W W') : WrAt W' (fun k => F k ∧ k < W.heap.size) p s := h.tight.chg hc (fun _ _ _ h => h)
/-- A writer's turn behind new memory alone, then its own. -/
theorem ends {W W1 W2 : World} {F : Nat → Prop} {p : Addr} {s : ByteArray} (hC : Chg (fun _ => False) W W1) (hW2 : WrAt W2 (fun k => (F k ∧ k < W.heap.size) ∨ W1.heap.size ≤ k) p s) (hC2 : Chg (fun k => F k ∧ k < W.heap.size) W1 W2) :
    WrAt W2 (fun k => F k ∨ W.heap.size ≤ k) p s ∧ Chg F W W2 :=
  ⟨hW2.mono (fun i hi => hi.elim (fun h => .inl h.1) (fun h => .inr (Nat.le_trans hC.1 h))), hC.none.trans (hC2.mono (fun _ hf _ => hf.1))⟩

theorem put1_calls (v : Nat) (V : Int) (hV : V = (v : Int)) (hv : v < 18446744073709551616) (w : World) (b : Nat) (t : TypeId) (hb : w.heap[b]? = some (.cells #[.int .u64 V] t (0, 0))) :
    Calls Try.prog 64 #[.slice (some ⟨b, 0, none⟩) 1 1] w fun e w' => e = .returned (.string (encB v)) ∧ Below w.heap.size w w' := by
  subst hV
  obtain ⟨k, hk⟩ := Ev.rounds (varint_Put_uint64_ev [(v : Int)] (by intro x hx; simp at hx; omega) (by simp))
  have e1 : ([(v : Int)].flatMap fun x => enc x.toNat) = enc v := by simp
  rw [e1] at hk
  refine varint_Put_uint64.calls k (some ⟨b, 0, none⟩) 1 [(v : Int)] _ w ?_ (by simp) hk
  exact Kd.C_of_reads (d := (0 : Int)) (h1 := fun _ => rfl) ⟨rfl, by simp, fun _ => ⟨_, rfl, fun j hj => by
    have : j = 0 := by simp at hj; omega
    subst this
    rw [show (⟨b, 0, none⟩ : Addr).add 0 = ⟨b, 0, none⟩ from rfl, cell_of_row w b 0 _ t (0, 0) hb]; rfl⟩⟩
theorem putS1_calls (v : Int) (h0 : -9223372036854775808 ≤ v) (h1 : v ≤ 9223372036854775807) (w : World) (b : Nat) (t : TypeId) (hb : w.heap[b]? = some (.cells #[.int .i64 v] t (0, 0))) :
    Calls Try.prog 67 #[.slice (some ⟨b, 0, none⟩) 1 1] w fun e w' => e = .returned (.string (encB (zig v))) ∧ Below w.heap.size w w' := by
  obtain ⟨k, hk⟩ := Ev.rounds (varint_PutSigned_int64_ev [v] (by intro x hx; simp at hx; omega) (by simp))
  have e1 : ([v].flatMap fun x => enc (zig x)) = enc (zig v) := by simp
  rw [e1] at hk
  refine varint_PutSigned_int64.calls k (some ⟨b, 0, none⟩) 1 [v] _ w ?_ (by simp) hk
  exact Kd.C_of_reads (d := (0 : Int)) (h1 := fun _ => rfl) ⟨rfl, by simp, fun _ => ⟨_, rfl, fun j hj => by
    have : j = 0 := by simp at hj; omega
    subst this
    rw [show (⟨b, 0, none⟩ : Addr).add 0 = ⟨b, 0, none⟩ from rfl, cell_of_row w b 0 _ t (0, 0) hb]; rfl⟩⟩

set_option maxRecDepth 100000 in
theorem uvarint_calls (p : Addr) (F : Nat → Prop) (s : ByteArray) (v : Nat) (V : Int) (hV : V = (v : Int)) (w : World) (h : WrAt w F p s) (hv : v < 18446744073709551616) (hb : s.size + 10 ≤ 140737488355328) :
    Calls Try.prog 19 #[.pointer (some p), .int .u64 V] w fun e w' => e = .returned (.tuple #[]) ∧ WrAt w' (fun k => F k ∨ w.heap.size ≤ k) p (s ++ encB v) ∧ Chg F w w' := by
  have he := encB_le hv
  have HV := Lib.hid hV
  clear hV
  go_enter Try.func19, Try.ntmps19
  go_wp2_with fail
  refine (put1_calls v V HV.out hv _ _ _ (heap_new _ _)).mono ?_
  rintro e w1 ⟨rfl, hb1⟩
  have hC1 := (Chg.alloc (fun _ => False) w _).trans (Chg.of_below hb1)
  have hW1 := h.new_ hC1
  clear hb1
  go_wp2_with (go_at_call 55; refine (raw_calls p _ s (encB v) w1 hW1 (by omega)).mono ?_; rintro e w2 ⟨rfl, hW2, hC2⟩)
  go_end0
  exact ⟨rfl, ends hC1 hW2 hC2⟩
set_option maxRecDepth 100000 in
theorem varint_calls (p : Addr) (F : Nat → Prop) (s : ByteArray) (v : Int) (w : World) (h : WrAt w F p s) (h0 : -9223372036854775808 ≤ v) (h1 : v ≤ 9223372036854775807) (hb : s.size + 10 ≤ 140737488355328) :
    Calls Try.prog 21 #[.pointer (some p), .int .i64 v] w fun e w' => e = .returned (.tuple #[]) ∧ WrAt w' (fun k => F k ∨ w.heap.size ≤ k) p (s ++ encB (zig v)) ∧ Chg F w w' := by
  have he := encB_le (zig_lt h0 h1)
  go_enter Try.func21, Try.ntmps21
  go_wp2_with fail
  refine (putS1_calls v h0 h1 _ _ _ (heap_new _ _)).mono ?_
  rintro e w1 ⟨rfl, hb1⟩
  have hC1 := (Chg.alloc (fun _ => False) w _).trans (Chg.of_below hb1)
  have hW1 := h.new_ hC1
  clear hb1
  go_wp2_with (go_at_call 55; refine (raw_calls p _ s (encB (zig v)) w1 hW1 (by omega)).mono ?_; rintro e w2 ⟨rfl, hW2, hC2⟩)
  go_end0
  exact ⟨rfl, ends hC1 hW2 hC2⟩

/-- The bytes of a text with its length. -/
def textB (t : ByteArray) : ByteArray := encB t.size ++ t
/-- The bytes of a text or null. -/
def optB (has : Bool) (t : ByteArray) : ByteArray := if has then encB (zig (t.size : Int)) ++ t else encB (zig (-1))
theorem ba_assoc (a b c : ByteArray) : a ++ b ++ c = a ++ (b ++ c) := ByteArray.append_assoc
theorem ends2 {W W1 W2 : World} {F : Nat → Prop} {p : Addr} {s : ByteArray} (hC : Chg F W W1) (hW2 : WrAt W2 (fun k => (F k ∨ W.heap.size ≤ k) ∨ W1.heap.size ≤ k) p s) (hC2 : Chg (fun k => F k ∨ W.heap.size ≤ k) W1 W2) :
    WrAt W2 (fun k => F k ∨ W.heap.size ≤ k) p s ∧ Chg F W W2 :=
  ⟨hW2.mono (fun i hi => hi.elim id (fun h => .inr (Nat.le_trans hC.1 h))), ⟨Nat.le_trans hC.1 hC2.1, fun i hi hf => (hC2.2 i (Nat.lt_of_lt_of_le hi hC.1) (fun h => h.elim hf (fun h => absurd h (by omega)))).trans (hC.2 i hi hf), env_trans hC.3 hC2.3⟩⟩

set_option maxRecDepth 100000 in
theorem text_calls (p : Addr) (F : Nat → Prop) (s t : ByteArray) (w : World) (h : WrAt w F p s) (hb : s.size + 10 + t.size ≤ 140737488355328) :
    Calls Try.prog 23 #[.pointer (some p), .string t] w fun e w' => e = .returned (.tuple #[]) ∧ WrAt w' (fun k => F k ∨ w.heap.size ≤ k) p (s ++ textB t) ∧ Chg F w w' := by
  have he := encB_le (v := t.size) (by omega)
  go_enter Try.func23, Try.ntmps23
  go_wp2_with (go_at_call 19; refine (uvarint_calls p F s t.size _ (by first | rfl | (rw [IntKind.wrap_u64]; omega)) w h (by omega) (by omega)).mono ?_; rintro e w1 ⟨rfl, hW1, hC1⟩)
  go_wp2_with (go_at_call 55; refine (raw_calls p _ _ t w1 hW1 (by rw [ByteArray.size_append]; omega)).mono ?_; rintro e w2 ⟨rfl, hW2, hC2⟩)
  go_end0
  rw [ba_assoc] at hW2
  exact ⟨rfl, ends2 hC1 hW2 hC2⟩

theorem opt_cell {w w1 : World} {F : Nat → Prop} {has : Bool} {t : ByteArray} (hc0 : (w.alloc (.cells #[.bool has, .string t] 49)).heap[w.heap.size]? = some (.cells #[.bool has, .string t] 49 (0, 0)))
    (hC1 : Chg (fun k => F k ∧ k < w.heap.size) (w.alloc (.cells #[.bool has, .string t] 49)) w1) : w1.cell? ⟨w.heap.size, 1, none⟩ = some (.string t) := by
  have h1 : Blk w1 w.heap.size 49 #[.bool has, .string t] := (hC1.2 _ (by simp) (fun h => absurd h.2 (Nat.lt_irrefl _))).trans hc0
  exact h1.cell 1
set_option maxRecDepth 100000 in
theorem opt_calls (p : Addr) (F : Nat → Prop) (s : ByteArray) (has : Bool) (t : ByteArray) (w : World) (h : WrAt w F p s) (hb : s.size + 10 + t.size ≤ 140737488355328) :
    Calls Try.prog 25 #[.pointer (some p), .agg #[.bool has, .string t]] w fun e w' => e = .returned (.tuple #[]) ∧ WrAt w' (fun k => F k ∨ w.heap.size ≤ k) p (s ++ optB has t) ∧ Chg F w w' := by
  have hC0 := Chg.alloc (fun _ => False) w (.cells #[.bool has, .string t] 49)
  have hW0 := h.new_ hC0
  have hc0 : (w.alloc (.cells #[.bool has, .string t] 49)).heap[w.heap.size]? = some (.cells #[.bool has, .string t] 49 (0, 0)) := heap_new _ _
  cases has with
  | false =>
    have he := encB_le (v := zig (-1)) (by decide)
    go_enter Try.func25, Try.ntmps25
    go_wp2_with (go_at_call 21; refine (varint_calls p _ s (-1) _ hW0 (by omega) (by omega) (by omega)).mono ?_; rintro e w1 ⟨rfl, hW1, hC1⟩)
    first | go_end0 | refine bodyPost_ret (results_none rfl _ _ _) rfl ?_
    exact ⟨rfl, ends hC0 hW1 hC1⟩
  | true =>
    have he := encB_le (zig_lt (v := (t.size : Int)) (by omega) (by omega))
    go_enter Try.func25, Try.ntmps25
    go_wp2_with (go_at_call 21; refine (varint_calls p _ s (t.size : Int) _ hW0 (by omega) (by omega) (by omega)).mono ?_; rintro e w1 ⟨rfl, hW1, hC1⟩; have hc1 := opt_cell hc0 hC1)
    have hE := ends hC0 hW1 hC1
    clear hW1 hC1 hC0 hW0 hc0
    go_wp2_with (go_at_call 55; refine (raw_calls p _ _ t w1 hE.1 (by rw [ByteArray.size_append]; omega)).mono ?_; rintro e w2 ⟨rfl, hW2, hC2⟩)
    go_end0
    rw [ba_assoc] at hW2
    exact ⟨rfl, ends2 hE.2 hW2 hC2⟩
theorem strCells_get {s : ByteArray} {i : Nat} (h : i < s.size) : (strCells s)[i]? = some (.int .u8 ((bytesOf s).getD i 0)) := by
  unfold strCells bytesOf
  have h' : i < s.data.toList.length := by rw [Array.length_toList]; exact h
  simp [List.getElem?_map, List.getElem?_eq_getElem h', List.getD_eq_getElem?_getD]
theorem nums_bytes (s : ByteArray) : strOfNums (bytesOf s) = s := bytesOf_inj (bytesOf_nums (bytes_ok s))
set_option maxRecDepth 100000 in
theorem conv_own {w : World} {A : Option Addr} {c : Nat} {s : ByteArray} (h : w.ownsRow 0 5 1 (.slice A s.size c) s.size (strCells s)) :
    (convert 72 9 (.slice A s.size c)).run Try.prog w = .ok (.string s) w := by
  rcases h.2 with ⟨hv, h0⟩ | ⟨g, cap, cur, hv, _, _⟩
  · injection hv with e1 e2 e3
    subst e1
    have hb : bytesOf s = [] := List.eq_nil_of_length_eq_zero (by rw [bytesOf_length]; exact h0)
    have hs : s = ByteArray.empty := bytesOf_inj (hb.trans rfl)
    have := run_convert_bytes_nil (P := Try.prog) w 72 5 Try.underlying72 Try.underlying5 s.size c 9 Try.underlying9
    rw [this, hs]
  · injection hv with e1 e2 e3
    subst e1
    have hcells := h.cells (g := g) rfl
    have := run_convert_bytes_arg (P := Try.prog) w 72 5 Try.underlying72 Try.underlying5 g 0 s.size c (bytesOf s) (bytesOf_length s) (fun i hi => by
      have := hcells i _ (strCells_get hi)
      rw [Nat.zero_add]
      have e : (⟨g, 0, none⟩ : Addr).add i = ⟨g, i, none⟩ := by unfold Addr.add; by_cases h0 : i = 0 <;> simp [h0]
      rw [e] at this
      exact this) 9 Try.underlying9
    rw [this, nums_bytes]
theorem bytes_calls (p : Addr) (F : Nat → Prop) (s : ByteArray) (w : World) (h : WrAt w F p s) :
    Calls Try.prog 12 #[.pointer (some p)] w fun e w' => e = .returned (.string s) ∧ w' = w := by
  obtain ⟨b, pb, v, rfl, hB, hP, hFb, hFp, hown, hFv⟩ := h.ex
  have c1 : w.cell? ⟨b, 1, none⟩ = some v := hB.cell 1
  obtain ⟨A', cap', rfl⟩ := slice_of_own hown
  have hconv : (convert 72 9 (.slice A' s.size cap')).run Try.prog w = .ok (.string s) w := by
    exact conv_own hown
  go_enter Try.func12, Try.ntmps12
  go_wp2
  go_ret
  exact ⟨rfl, rfl⟩
theorem at_calls (p : Addr) (F : Nat → Prop) (s : ByteArray) (w : World) (h : WrAt w F p s) :
    Calls Try.prog 14 #[.pointer (some p)] w fun e w' => e = .returned (.int .i64 s.size) ∧ w' = w := by
  obtain ⟨b, pb, v, rfl, hB, hP, hFb, hFp, hown, hFv⟩ := h.ex
  have c0 : w.cell? ⟨b, 0, none⟩ = some (.pointer (some ⟨pb, 0, none⟩)) := hB.cell 0
  have d0 : w.cell? ⟨pb, 0, none⟩ = some (.int .i64 s.size) := hP.cell 0
  go_enter Try.func14, Try.ntmps14
  go_wp2
  go_ret
  exact ⟨rfl, rfl⟩
end Go.Proofs.Ytclnpedmoelipaa.Wr
