/- The writer of layer 2, its fixed numbers. -/
import Derived.Test.YtclnpedmoelipaaWr
import Derived.Test.YtclnpedmoelipaaVm
namespace Go.Proofs.Ytclnpedmoelipaa.Wr
open Go Go.RowKit Go.Lib
set_option linter.unusedVariables false
set_option linter.unusedSimpArgs false

/-- n bytes of a number, great end first. -/
def beL (v n : Nat) : List Int := (List.range n).map fun i => ((v / 256 ^ (n - 1 - i) % 256 : Nat) : Int)
def be (v n : Nat) : ByteArray := strOfNums (beL v n)

def byteAt (v n i : Nat) : Int := ((v / 256 ^ (n - 1 - i) % 256 : Nat) : Int)
def arr8 (v n k : Nat) : Array Value := ((List.range 8).map fun i => Value.int .u8 (if i < k then byteAt v n i else 0)).toArray
theorem arr8_get (v n k i : Nat) (hi : i < 8) : (arr8 v n k)[i]? = some (.int .u8 (if i < k then byteAt v n i else 0)) := by
  unfold arr8; simp [hi]
theorem arr8_step (v n k : Nat) (hk : k < 8) {u : Int} (hu : u = byteAt v n k) : (arr8 v n k).setIfInBounds k (.int .u8 u) = arr8 v n (k + 1) := by
  subst hu
  apply Array.ext_getElem?
  intro i
  rw [Array.getElem?_setIfInBounds]
  have hs : (arr8 v n k).size = 8 := by simp [arr8]
  by_cases hi : i < 8
  · rw [arr8_get _ _ _ _ hi, arr8_get _ _ _ _ hi]
    by_cases he : k = i
    · subst he; simp [hs, hk]
    · rw [if_neg he]
      have : (i < k) = (i < k + 1) := by rw [eq_iff_iff]; omega
      simp only [this]
  · have h1 : (arr8 v n k)[i]? = none := by rw [Array.getElem?_eq_none]; omega
    have h2 : (arr8 v n (k + 1))[i]? = none := by rw [Array.getElem?_eq_none]; simp [arr8]; omega
    rw [h1, h2]; split
    · omega
    · rfl

theorem byte_at (v n k : Nat) : (v : Int) / 2 ^ (8 * (n - 1 - k)) % 256 = byteAt v n k := by
  unfold byteAt
  have e1 : (2 : Int) ^ (8 * (n - 1 - k)) = ((256 ^ (n - 1 - k) : Nat) : Int) := by
    rw [Int.pow_mul, Int.natCast_pow]; rfl
  rw [e1]; rfl
theorem beL_get (v n i : Nat) (hi : i < n) : (beL v n).getD i 0 = byteAt v n i := by
  unfold beL byteAt; simp [hi]
theorem be_size (v n : Nat) : (be v n).size = n := by unfold be; rw [strOfNums_size]; simp [beL]
theorem alen8 : Try.prog.arrayLen 129 = 8 := by kernel_rfl
theorem elem8 : Try.prog.elem 129 = 5 := by kernel_rfl
theorem slice_arr8 (w : World) (b k : Nat) (hk : k ≤ 8) : (Instr.sliceAt 129 (.pointer (some ⟨b, 0, none⟩)) none (some (.int .i64 (k : Int))) none).run Try.prog w = .ok (.slice (some ⟨b, 0, none⟩) k 8) w := by
  have hu : Try.prog.underlying 129 = some (.array (Try.prog.arrayLen 129) (Try.prog.elem 129)) := by kernel_rfl
  rw [run_sliceAt_array_h (P := Try.prog) w 129 ⟨b, 0, none⟩ hu .i64 (k : Int) (by omega) (by rw [alen8]; omega), elem8, alen8]
  obtain ⟨i0, hi, hz0, hz1, hz2⟩ := info_parts info_u8
  simp [sizeOf, typeInfo, hi, hz1, slicedAt, Addr.add]
set_option maxRecDepth 100000 in
set_option maxHeartbeats 400000 in
theorem fixed_calls (p : Addr) (F : Nat → Prop) (s : ByteArray) (v n : Nat) (w : World) (h : WrAt w F p s) (hv : v < 18446744073709551616) (hn : n ≤ 8) (hb : s.size + n ≤ 140737488355328) :
    Calls Try.prog 76 #[.pointer (some p), .int .u64 (v : Int), .int .i64 (n : Int)] w fun e w' => e = .returned (.tuple #[]) ∧ WrAt w' (fun k => F k ∨ w.heap.size ≤ k) p (s ++ be v n) ∧ Chg F w w' := by
  go_enter Try.func76, Try.ntmps76
  go_wp2_with fail
  have hz0 : Blk (w.alloc (Obj.cells #[Value.int IntKind.u8 0, Value.int IntKind.u8 0, Value.int IntKind.u8 0, Value.int IntKind.u8 0, Value.int IntKind.u8 0, Value.int IntKind.u8 0, Value.int IntKind.u8 0, Value.int IntKind.u8 0] 129)) w.heap.size 129 (arr8 v n 0) := heap_new _ _
  have hw0 : WrAt (w.alloc (Obj.cells #[Value.int IntKind.u8 0, Value.int IntKind.u8 0, Value.int IntKind.u8 0, Value.int IntKind.u8 0, Value.int IntKind.u8 0, Value.int IntKind.u8 0, Value.int IntKind.u8 0, Value.int IntKind.u8 0] 129)) (fun k => F k ∧ k < w.heap.size) p s := h.tight.keep (fun k _ hk => heap_old _ _ hk)
  have hc0 : Chg (fun _ => False) w (w.alloc (Obj.cells #[Value.int IntKind.u8 0, Value.int IntKind.u8 0, Value.int IntKind.u8 0, Value.int IntKind.u8 0, Value.int IntKind.u8 0, Value.int IntKind.u8 0, Value.int IntKind.u8 0, Value.int IntKind.u8 0] 129)) := ⟨by simp, fun i hi _ => heap_old _ _ hi, rfl, rfl, rfl⟩
  generalize w.alloc (Obj.cells #[Value.int IntKind.u8 0, Value.int IntKind.u8 0, Value.int IntKind.u8 0, Value.int IntKind.u8 0, Value.int IntKind.u8 0, Value.int IntKind.u8 0, Value.int IntKind.u8 0, Value.int IntKind.u8 0] 129) = w1 at *
  go_loopw [7, 9] (fun x7 x9 wr => ∃ k : Nat, k ≤ n ∧ x9 = .int .i64 k ∧ Blk wr w.heap.size 129 (arr8 v n k) ∧ WrAt wr (fun k => F k ∧ k < w.heap.size) p s ∧ Chg (fun _ => False) w wr) (fun _ x9 _ => n - (intOf x9).toNat)
  case atStart => exact ⟨0, Nat.zero_le _, rfl, hz0, hw0, hc0⟩
  case round =>
    obtain ⟨k, hk, rfl, hB, hW, hC⟩ := hrel
    by_cases hlt : k < n
    · have hck : wr.cell? ⟨w.heap.size, k, none⟩ = some (.int .u8 0) := by rw [hB.cell k, arr8_get _ _ _ _ (by omega)]; simp
      have hfk : wr.frozen? ⟨w.heap.size, k, none⟩ = false := hB.frozen k
      go_wp2
      go_roundw
      case rel => exact ⟨k + 1, by omega, by go_num, by rw [← arr8_step v n k (by omega) (byte_at v n k)]; exact hB.set_ k _, hW.keep (fun i hi _ => heap_set _ _ _ _ (Nat.ne_of_lt hi.2)), ⟨by rw [World.size_setCell]; exact hC.1, fun i hi hf => (heap_set _ _ _ _ (Nat.ne_of_lt hi)).trans (hC.2 i hi hf), hC.3⟩⟩
      case measure => simp [intOf]; omega
    · have hkn : k = n := by omega
      subst hkn
      have hsl := slice_arr8 wr w.heap.size k hn
      have hconv : (convert 72 9 (.slice (some ⟨w.heap.size, 0, none⟩) k 8)).run Try.prog wr = .ok (.string (be v k)) wr :=
        run_convert_bytes_arg (P := Try.prog) wr 72 5 Try.underlying72 Try.underlying5 w.heap.size 0 k 8 (beL v k) (by simp [beL]) (fun i hi => by
          rw [Nat.zero_add, hB.cell i, arr8_get _ _ _ _ (by omega), if_pos hi, beL_get v k i hi]) 9 Try.underlying9
      have hbs : (be v k).size = k := be_size v k
      go_wp2_with (go_at_call 55; refine (raw_calls p _ s (be v k) wr hW (by omega)).mono ?_; rintro e w2 ⟨rfl, hW2, hC2⟩)
      go_end0
      exact ⟨rfl, hW2.mono (fun i hi => hi.elim (fun h => .inl h.1) (fun h => .inr (Nat.le_trans hC.1 h))), (hC.mono (fun _ hf _ => hf.elim)).trans (hC2.mono (fun _ hf _ => hf.1))⟩
theorem fixed_any (p : Addr) (F : Nat → Prop) (s : ByteArray) (v n : Nat) (V M : Int) (hV : V = (v : Int)) (hM : M = (n : Int)) (w : World) (h : WrAt w F p s) (hv : v < 18446744073709551616) (hn : n ≤ 8) (hb : s.size + n ≤ 140737488355328) :
    Calls Try.prog 76 #[.pointer (some p), .int .u64 V, .int .i64 M] w fun e w' => e = .returned (.tuple #[]) ∧ WrAt w' (fun k => F k ∨ w.heap.size ≤ k) p (s ++ be v n) ∧ Chg F w w' := by
  subst hV; subst hM; exact fixed_calls p F s v n w h hv hn hb
set_option maxRecDepth 100000 in
theorem u8_calls (p : Addr) (F : Nat → Prop) (s : ByteArray) (v : Nat) (w : World) (h : WrAt w F p s) (hv : v < 256) (hb : s.size + 1 ≤ 140737488355328) :
    Calls Try.prog 44 #[.pointer (some p), .int .u8 (v : Int)] w fun e w' => e = .returned (.tuple #[]) ∧ WrAt w' (fun k => F k ∨ w.heap.size ≤ k) p (s ++ be v 1) ∧ Chg F w w' := by
  go_enter Try.func44, Try.ntmps44
  go_wp2_with (go_at_call 76; refine (fixed_any p F s v 1 _ _ (by first | rfl | (simp; done) | (simp [IntKind.wrap_u64, IntKind.wrap_u32]; omega)) (by rfl) w h (by omega) (by omega) hb).mono ?_; rintro e w2 ⟨rfl, hW2, hC2⟩)
  go_end0
  exact ⟨rfl, hW2, hC2⟩
set_option maxRecDepth 100000 in
theorem u16_calls (p : Addr) (F : Nat → Prop) (s : ByteArray) (v : Nat) (w : World) (h : WrAt w F p s) (hv : v < 65536) (hb : s.size + 2 ≤ 140737488355328) :
    Calls Try.prog 41 #[.pointer (some p), .int .u16 (v : Int)] w fun e w' => e = .returned (.tuple #[]) ∧ WrAt w' (fun k => F k ∨ w.heap.size ≤ k) p (s ++ be v 2) ∧ Chg F w w' := by
  go_enter Try.func41, Try.ntmps41
  go_wp2_with (go_at_call 76; refine (fixed_any p F s v 2 _ _ (by first | rfl | (simp; done) | (simp [IntKind.wrap_u64, IntKind.wrap_u32]; omega)) (by rfl) w h (by omega) (by omega) hb).mono ?_; rintro e w2 ⟨rfl, hW2, hC2⟩)
  go_end0
  exact ⟨rfl, hW2, hC2⟩
set_option maxRecDepth 100000 in
theorem u32_calls (p : Addr) (F : Nat → Prop) (s : ByteArray) (v : Nat) (w : World) (h : WrAt w F p s) (hv : v < 4294967296) (hb : s.size + 4 ≤ 140737488355328) :
    Calls Try.prog 47 #[.pointer (some p), .int .u32 (v : Int)] w fun e w' => e = .returned (.tuple #[]) ∧ WrAt w' (fun k => F k ∨ w.heap.size ≤ k) p (s ++ be v 4) ∧ Chg F w w' := by
  go_enter Try.func47, Try.ntmps47
  go_wp2_with (go_at_call 76; refine (fixed_any p F s v 4 _ _ (by first | rfl | (simp; done) | (simp [IntKind.wrap_u64, IntKind.wrap_u32]; omega)) (by rfl) w h (by omega) (by omega) hb).mono ?_; rintro e w2 ⟨rfl, hW2, hC2⟩)
  go_end0
  exact ⟨rfl, hW2, hC2⟩
set_option maxRecDepth 100000 in
theorem u64_calls (p : Addr) (F : Nat → Prop) (s : ByteArray) (v : Nat) (w : World) (h : WrAt w F p s) (hv : v < 18446744073709551616) (hb : s.size + 8 ≤ 140737488355328) :
    Calls Try.prog 49 #[.pointer (some p), .int .u64 (v : Int)] w fun e w' => e = .returned (.tuple #[]) ∧ WrAt w' (fun k => F k ∨ w.heap.size ≤ k) p (s ++ be v 8) ∧ Chg F w w' := by
  go_enter Try.func49, Try.ntmps49
  go_wp2_with (go_at_call 76; refine (fixed_any p F s v 8 _ _ (by first | rfl | (simp; done) | (simp [IntKind.wrap_u64, IntKind.wrap_u32]; omega)) (by rfl) w h (by omega) (by omega) hb).mono ?_; rintro e w2 ⟨rfl, hW2, hC2⟩)
  go_end0
  exact ⟨rfl, hW2, hC2⟩
set_option maxRecDepth 100000 in
theorem i32_calls (p : Addr) (F : Nat → Prop) (s : ByteArray) (v : Int) (w : World) (h : WrAt w F p s) (h0 : -2147483648 ≤ v) (h1 : v ≤ 2147483647) (hb : s.size + 4 ≤ 140737488355328) :
    Calls Try.prog 42 #[.pointer (some p), .int .i32 v] w fun e w' => e = .returned (.tuple #[]) ∧ WrAt w' (fun k => F k ∨ w.heap.size ≤ k) p (s ++ be (v % 4294967296).toNat 4) ∧ Chg F w w' := by
  go_enter Try.func42, Try.ntmps42
  go_wp2_with (go_at_call 76; refine (fixed_any p F s (v % 4294967296).toNat 4 _ _ (by first | rfl | (simp; done) | (simp [IntKind.wrap_u64, IntKind.wrap_u32]; omega)) (by rfl) w h (by omega) (by omega) hb).mono ?_; rintro e w2 ⟨rfl, hW2, hC2⟩)
  go_end0
  exact ⟨rfl, hW2, hC2⟩
set_option maxRecDepth 100000 in
theorem i64_calls (p : Addr) (F : Nat → Prop) (s : ByteArray) (v : Int) (w : World) (h : WrAt w F p s) (h0 : -9223372036854775808 ≤ v) (h1 : v ≤ 9223372036854775807) (hb : s.size + 8 ≤ 140737488355328) :
    Calls Try.prog 27 #[.pointer (some p), .int .i64 v] w fun e w' => e = .returned (.tuple #[]) ∧ WrAt w' (fun k => F k ∨ w.heap.size ≤ k) p (s ++ be (v % 18446744073709551616).toNat 8) ∧ Chg F w w' := by
  go_enter Try.func27, Try.ntmps27
  go_wp2_with (go_at_call 76; refine (fixed_any p F s (v % 18446744073709551616).toNat 8 _ _ (by first | rfl | (simp; done) | (simp [IntKind.wrap_u64, IntKind.wrap_u32]; omega)) (by rfl) w h (by omega) (by omega) hb).mono ?_; rintro e w2 ⟨rfl, hW2, hC2⟩)
  go_end0
  exact ⟨rfl, hW2, hC2⟩
end Go.Proofs.Ytclnpedmoelipaa.Wr
