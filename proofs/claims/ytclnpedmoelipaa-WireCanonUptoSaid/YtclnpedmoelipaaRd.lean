/- The reader of layer 2: what it is in memory; what a call that gives up leaves; need, take, number. -/
import Derived.Test.YtclnpedmoelipaaWv
import Derived.Recover
import Derived.Defers
import Derived.Deep.QuietTactic
import Derived.BigQuiet
import Derived.IntWalk
namespace Go.Proofs.Ytclnpedmoelipaa.Rd
open Go Go.RowKit Go.Lib Go.Proofs.Ytclnpedmoelipaa.Vm Go.Proofs.Ytclnpedmoelipaa.Wr Go.Proofs.YtclnpedmoelipaaW.PrintWords
set_option linter.unusedVariables false
set_option linter.unusedSimpArgs false

/-- The reader in block b: where it stands, its bytes, its fault. -/
def RdAt (W : World) (b : Nat) (S : ByteArray) (pos : Nat) (er : Int) : Prop := Blk W b 82 #[.int .i64 (pos : Int), .string S, .int .i64 er]
theorem RdAt.chg {W W' : World} {b : Nat} {S : ByteArray} {pos : Nat} {er : Int} {G : Nat → Prop} (h : RdAt W b S pos er) (hc : Chg G W W') (hd : ¬ G b) : RdAt W' b S pos er := (hc.2 b (Blk.lt h) hd).trans h
/-- What need's panic holds. -/
def fault (er : Int) : PanicEntry := { v := .iface 120 (.agg #[.int .i64 er]), recovered := false }

theorem need_ok (t : Bool) (ht : t = true) (e : Int) (w : World) : Calls Try.prog 70 #[.bool t, .int .i64 e] w fun r w' => r = .returned (.tuple #[]) ∧ w = w' := by
  subst ht
  go_enter Try.func70, Try.ntmps70
  go_wp2
  go_end0
  exact ⟨rfl, rfl⟩
theorem need_bad (t : Bool) (ht : t = false) (e : Int) (w : World) : Calls Try.prog 70 #[.bool t, .int .i64 e] w fun r w' => r = .panicked [fault e] ∧ w = w' := by
  subst ht
  go_enter Try.func70, Try.ntmps70
  go_wp2
  exact ⟨rfl, rfl, rfl⟩

set_option maxRecDepth 100000 in
theorem left_calls (b : Nat) (S : ByteArray) (pos : Nat) (er : Int) (w : World) (h : RdAt w b S pos er) (hp : pos ≤ S.size) (hS : S.size ≤ 140737488355328) :
    Calls Try.prog 32 #[.pointer (some ⟨b, 0, none⟩)] w fun e w' => e = .returned (.int .i64 ((S.size : Int) - pos)) ∧ ∃ n, w' = w.drewN n := by
  have c0 : w.cell? ⟨b, 0, none⟩ = some (.int .i64 (pos : Int)) := Blk.cell h 0
  have c1 : w.cell? ⟨b, 1, none⟩ = some (.string S) := Blk.cell h 1
  go_enter Try.func32, Try.ntmps32
  go_wp2
  go_quiet (fail)
  go_wp2
  go_ret
  exact ⟨rfl, _, rfl⟩
set_option maxRecDepth 100000 in
theorem at_calls (b : Nat) (S : ByteArray) (pos : Nat) (er : Int) (w : World) (h : RdAt w b S pos er) :
    Calls Try.prog 28 #[.pointer (some ⟨b, 0, none⟩)] w fun e w' => e = .returned (.int .i64 (pos : Int)) ∧ w = w' := by
  have c0 : w.cell? ⟨b, 0, none⟩ = some (.int .i64 (pos : Int)) := Blk.cell h 0
  go_enter Try.func28, Try.ntmps28
  go_wp2
  go_ret
  exact ⟨rfl, rfl⟩
theorem err_calls (b : Nat) (S : ByteArray) (pos : Nat) (er : Int) (w : World) (h : RdAt w b S pos er) :
    Calls Try.prog 34 #[.pointer (some ⟨b, 0, none⟩)] w fun e w' => e = .returned (.int .i64 er) ∧ w = w' := by
  have c2 : w.cell? ⟨b, 2, none⟩ = some (.int .i64 er) := Blk.cell h 2
  go_enter Try.func34, Try.ntmps34
  go_wp2
  go_ret
  exact ⟨rfl, rfl⟩

theorem RdAt.drewN {W : World} {b : Nat} {S : ByteArray} {pos : Nat} {er : Int} (h : RdAt W b S pos er) (n : Nat) : RdAt (W.drewN n) b S pos er := h
theorem Chg.drewN (F : Nat → Prop) (W : World) (n : Nat) : Chg F W (W.drewN n) := ⟨Nat.le_refl _, fun _ _ _ => rfl, rfl, rfl, rfl⟩
set_option maxRecDepth 100000 in
set_option maxHeartbeats 400000 in
theorem take_ok (b : Nat) (S : ByteArray) (pos n : Nat) (er : Int) (M : Int) (hM : M = (n : Int)) (w : World) (h : RdAt w b S pos er) (hn : pos + n ≤ S.size) (hS : S.size ≤ 140737488355328) :
    Calls Try.prog 71 #[.pointer (some ⟨b, 0, none⟩), .int .i64 M] w fun e w' => e = .returned (.string (S.extract pos (pos + n))) ∧ RdAt w' b S (pos + n) er ∧ Chg (fun k => k = b) w w' := by
  subst hM
  go_enter Try.func71, Try.ntmps71
  go_wp2_with fail
  refine (need_ok _ rfl _ _).mono ?_
  rintro e w1 ⟨rfl, rfl⟩
  go_wp2_with fail
  refine (left_calls b S pos er _ h (by omega) hS).mono ?_
  rintro e w1 ⟨rfl, m, rfl⟩
  go_wp2_with fail
  refine (need_ok _ (by simp; omega) _ _).mono ?_
  rintro e w1 ⟨rfl, rfl⟩
  have h1 := h.drewN m
  have c0 : (w.drewN m).cell? ⟨b, 0, none⟩ = some (.int .i64 (pos : Int)) := Blk.cell h1 0
  have c1 : (w.drewN m).cell? ⟨b, 1, none⟩ = some (.string S) := Blk.cell h1 1
  have f0 : (w.drewN m).frozen? ⟨b, 0, none⟩ = false := Blk.frozen h1 0
  have hC := Chg.drewN (fun k => k = b) w m
  generalize w.drewN m = W at *
  have ew : IntKind.i64.wrap ((pos : Int) + n) = pos + n := IntWalk.i64_in _ (by omega)
  have en : 0 ≤ (pos : Int) + n := by omega
  go_wp2_with fail
  go_quiet (fail)
  go_wp2
  go_ret
  have h2 := Blk.set_ (RdAt.drewN h1 nq) 0 (Value.int .i64 ((pos : Int) + n))
  exact ⟨rfl, h2, ⟨Nat.le_trans hC.1 (by rw [World.size_setCell]; exact Nat.le_refl _), fun i hi hf => (heap_set _ _ _ _ hf).trans (hC.2 i hi hf), hC.3⟩⟩
set_option maxRecDepth 100000 in
theorem take_neg (b : Nat) (n : Int) (w : World) (hn : n < 0) :
    Calls Try.prog 71 #[.pointer (some ⟨b, 0, none⟩), .int .i64 n] w fun e w' => e = .panicked [fault 1] ∧ w = w' := by
  go_enter Try.func71, Try.ntmps71
  go_wp2_with fail
  refine (need_bad _ (by first | rfl | (simp; omega)) _ _).mono ?_
  rintro e w1 ⟨rfl, rfl⟩
  exact ⟨rfl, rfl, rfl⟩
set_option maxRecDepth 100000 in
theorem take_short (b : Nat) (S : ByteArray) (pos : Nat) (n : Int) (er : Int) (w : World) (h : RdAt w b S pos er) (hp : pos ≤ S.size) (h0 : 0 ≤ n) (hn : S.size < pos + n) (hS : S.size ≤ 140737488355328) :
    Calls Try.prog 71 #[.pointer (some ⟨b, 0, none⟩), .int .i64 n] w fun e w' => e = .panicked [fault 20] ∧ ∃ m, w' = w.drewN m := by
  go_enter Try.func71, Try.ntmps71
  go_wp2_with fail
  refine (need_ok _ (by first | rfl | (simp; omega)) _ _).mono ?_
  rintro e w1 ⟨rfl, rfl⟩
  go_wp2_with fail
  refine (left_calls b S pos er _ h (by omega) hS).mono ?_
  rintro e w1 ⟨rfl, m, rfl⟩
  go_wp2_with fail
  refine (need_bad _ (by simp; omega) _ _).mono ?_
  rintro e w1 ⟨rfl, rfl⟩
  exact ⟨rfl, rfl, _, rfl⟩

theorem ret_int {k : IntKind} {a b : Int} (h : a = b) : Ending.returned (.int k a) = .returned (.int k b) := by rw [h]
/-- A number out of bytes, great end first. -/
def beV (l : List Int) : Int := l.foldl (fun v c => v * 256 + c) 0
theorem beV_snoc (l : List Int) (c : Int) : beV (l ++ [c]) = beV l * 256 + c := by unfold beV; rw [List.foldl_append]; rfl
theorem beV_bound : ∀ l : List Int, (∀ x ∈ l, 0 ≤ x ∧ x < 256) → 0 ≤ beV l ∧ beV l < 256 ^ l.length := by
  intro l
  have key : ∀ (l : List Int) (a : Int) (k : Nat), (∀ x ∈ l, 0 ≤ x ∧ x < 256) → 0 ≤ a → a < 256 ^ k → 0 ≤ l.foldl (fun v c => v * 256 + c) a ∧ l.foldl (fun v c => v * 256 + c) a < 256 ^ (k + l.length) := by
    intro l
    induction l with
    | nil => intro a k _ h0 h1; exact ⟨h0, h1⟩
    | cons c l ih =>
      intro a k h h0 h1
      obtain ⟨c0, c1⟩ := h c (by simp)
      have := ih (a * 256 + c) (k + 1) (fun x hx => h x (by simp [hx])) (by omega) (by rw [Int.pow_succ]; omega)
      rw [List.length_cons, show k + (l.length + 1) = k + 1 + l.length from by omega]
      exact this
  intro h
  have := key l 0 0 h (by omega) (by decide)
  rw [Nat.zero_add] at this
  exact this
theorem or_byte (v c : Int) (h0 : 0 ≤ v) (h1 : v < 72057594037927936) (c0 : 0 ≤ c) (c1 : c < 256) : bits .or .u64 (v * 256) c = v * 256 + c := by
  have hc : ∀ a b : Int, Go.bits .or .u64 a b = Go.bits .or .u64 b a := by
    intro a b
    show IntKind.u64.wrap ((BitVec.ofInt 64 a ||| BitVec.ofInt 64 b).toNat : Int) = IntKind.u64.wrap ((BitVec.ofInt 64 b ||| BitVec.ofInt 64 a).toNat : Int)
    rw [BitVec.or_comm]
  rw [hc, bits_join_low .u64 64 (by decide) wraps_u64 8 c (v * 256) c0 c1 (by omega) (by omega) (by omega) (by omega)]
  omega
theorem or_next (T : ByteArray) (k : Nat) (hlt : k < T.size) (hv0 : 0 ≤ beV ((bytesOf T).take k)) (hv1 : beV ((bytesOf T).take k) < 72057594037927936) :
    bits .or .u64 (beV ((bytesOf T).take k) * 256) (IntKind.u64.wrap ((T[k]).toNat : Int)) = beV ((bytesOf T).take (k + 1)) := by
  have hl : k < (bytesOf T).length := by rw [bytesOf_length]; exact hlt
  have hb : (T[k]).toNat < 256 := (T[k]).toNat_lt
  have e1 : IntKind.u64.wrap ((T[k]).toNat : Int) = ((T[k]).toNat : Int) := by rw [IntKind.wrap_u64]; omega
  have h3 : (bytesOf T)[k]? = some ((T[k]).toNat : Int) := by
    unfold bytesOf
    rw [List.getElem?_map, List.getElem?_eq_getElem (by rw [Array.length_toList]; exact hlt)]; rfl
  have e2 : (bytesOf T)[k] = ((T[k]).toNat : Int) := (List.getElem?_eq_some_iff.1 h3).2
  rw [e1, or_byte _ _ hv0 hv1 (by omega) (by omega), List.take_succ_eq_append_getElem hl, beV_snoc, e2]
set_option maxRecDepth 100000 in
set_option maxHeartbeats 400000 in
theorem number_ok (b : Nat) (S : ByteArray) (pos n : Nat) (er : Int) (M : Int) (hM : M = (n : Int)) (w : World) (h : RdAt w b S pos er) (hn8 : n ≤ 8) (hn : pos + n ≤ S.size) (hS : S.size ≤ 140737488355328) :
    Calls Try.prog 75 #[.pointer (some ⟨b, 0, none⟩), .int .i64 M] w fun e w' => e = .returned (.int .u64 (beV (bytesOf (S.extract pos (pos + n))))) ∧ RdAt w' b S (pos + n) er ∧ Chg (fun k => k = b) w w' := by
  have HM := Lib.hid hM
  clear hM
  go_enter Try.func75, Try.ntmps75
  go_wp2_with fail
  refine (take_ok b S pos n er _ HM.out w h hn hS).mono ?_
  rintro e w1 ⟨rfl, h1, hC⟩
  have hT : (S.extract pos (pos + n)).size = n := by rw [ByteArray.size_extract]; omega
  generalize hTe : S.extract pos (pos + n) = T at *
  have HTe := Lib.hid hTe
  clear hTe
  have HT := Lib.hid hT
  clear hT
  go_wp2_with fail
  have hbd := fun k => beV_bound ((bytesOf T).take k) (fun x hx => bytes_ok T x (List.mem_of_mem_take hx))
  have HB := Lib.hid hbd
  clear hbd
  go_loop [6, 7, 13] (fun x6 x7 x13 => ∃ k : Nat, k ≤ T.size ∧ x13 = .int .i64 k ∧ x6 = .int .u64 (beV ((bytesOf T).take k))) (fun _ _ x13 => T.size - (intOf x13).toNat)
  case atStart => exact ⟨0, Nat.zero_le _, rfl, rfl⟩
  case round =>
    obtain ⟨k, hk, rfl, rfl⟩ := hrel
    have hT8 : T.size ≤ 8 := by rw [HT.out]; exact hn8
    by_cases hlt : k < T.size
    · have hv0 : 0 ≤ beV ((bytesOf T).take k) := (HB.out k).1
      have hv1 : beV ((bytesOf T).take k) < 72057594037927936 := by
        have h1 := (HB.out k).2
        have h2 : ((bytesOf T).take k).length ≤ 7 := by rw [List.length_take]; omega
        have h3 : (256 : Int) ^ ((bytesOf T).take k).length ≤ 256 ^ 7 := by
          have := Nat.pow_le_pow_right (n := 256) (by omega) h2
          rw [show (256 : Int) = ((256 : Nat) : Int) from rfl, ← Int.natCast_pow, ← Int.natCast_pow]; omega
        exact Int.lt_of_lt_of_le h1 h3
      have hnx := or_next T k hlt hv0 hv1
      have HN := Lib.hid hnx
      clear hnx
      go_wp2
      go_round
      case rel => exact ⟨k + 1, by omega, by go_num, congrArg (Value.int .u64) HN.out⟩
      case measure => simp [intOf]; omega
    · have hks : k = T.size := by omega
      have HK := Lib.hid hks
      clear hks
      go_wp2
      go_ret
      exact ⟨ret_int (by rw [HK.out, List.take_of_length_le (by rw [bytesOf_length]; exact Nat.le_refl _), HTe.out]), h1, hC⟩
set_option maxRecDepth 100000 in
theorem number_short (b : Nat) (S : ByteArray) (pos : Nat) (n : Int) (er : Int) (w : World) (h : RdAt w b S pos er) (hp : pos ≤ S.size) (h0 : 0 ≤ n) (hn : S.size < pos + n) (hS : S.size ≤ 140737488355328) :
    Calls Try.prog 75 #[.pointer (some ⟨b, 0, none⟩), .int .i64 n] w fun e w' => e = .panicked [fault 20] ∧ ∃ m, w' = w.drewN m := by
  go_enter Try.func75, Try.ntmps75
  go_wp2_with fail
  refine (take_short b S pos n er w h hp h0 hn hS).mono ?_
  rintro e w1 ⟨rfl, m, rfl⟩
  exact ⟨rfl, rfl, _, rfl⟩
end Go.Proofs.Ytclnpedmoelipaa.Rd
