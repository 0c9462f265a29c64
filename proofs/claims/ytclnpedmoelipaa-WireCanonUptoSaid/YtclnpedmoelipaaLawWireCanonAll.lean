/- What is proved: a number, a text or an Opt that a reader has read, written again, is the bytes that it was read from; a reading that fails leaves the reader where it stood (WireCanon, in its bounded form: up to each size that a machine can have). -/
import Derived.Test.YtclnpedmoelipaaRfU8
import Derived.Test.YtclnpedmoelipaaRx
import Derived.Test.YtclnpedmoelipaaRt
import Derived.Test.YtclnpedmoelipaaRnU
import Derived.Test.YtclnpedmoelipaaRnS
import Derived.Test.YtclnpedmoelipaaRfI64
import Derived.Test.YtclnpedmoelipaaRo
import Derived.Test.YtclnpedmoelipaaRows
import Derived.Test.YtclnpedmoelipaaOp
import Derived.WalkKit
import Derived.ProofKit
import Derived.OpenShut
import Derived.ShutString
import Derived.ChangeOld
import Derived.Below
import Derived.SizedLaws
import Derived.JoinedCond
/- The document's examples of layer 2, as the laws try them ahead of all else: they hold. -/
namespace Go.Proofs.Ytclnpedmoelipaa.Sp
open Go Go.RowKit Go.Lib Go.Proofs.Ytclnpedmoelipaa.Vm Go.Proofs.Ytclnpedmoelipaa.Wr Go.Proofs.Ytclnpedmoelipaa.Rd Go.Proofs.YtclnpedmoelipaaW.PrintWords
set_option linter.unusedVariables false
set_option linter.unusedSimpArgs false

theorem newR_calls (S : ByteArray) (w : World) : Calls Try.prog 17 #[.string S] w fun e w' => e = .returned (.pointer (some ⟨w.heap.size, 0, none⟩)) ∧ RdAt w' w.heap.size S 0 0 ∧ Chg (fun _ => False) w w' := by
  go_enter Try.func17, Try.ntmps17
  go_wp2
  go_ret
  exact ⟨rfl, heap_new _ _, Chg.alloc _ _ _⟩
theorem wr_next {B : Nat} {W1 W2 : World} {p : Addr} {s t : ByteArray} (hB : B ≤ W1.heap.size) (hW : WrAt W2 (fun k => B ≤ k ∨ W1.heap.size ≤ k) p s) (hs : s = t) : WrAt W2 (fun k => B ≤ k) p t := by
  subst hs; exact hW.mono (fun k h => h.elim id (fun h => Nat.le_trans hB h))
theorem b0 : ByteArray.empty ++ be 258 2 = ⟨#[1, 2]⟩ := by decide +kernel
theorem b1 : (⟨#[1, 2]⟩ : ByteArray) ++ be (-2 % 4294967296 : Int).toNat 4 = ⟨#[1, 2, 255, 255, 255, 254]⟩ := by decide +kernel
theorem b2 : (⟨#[1, 2, 255, 255, 255, 254]⟩ : ByteArray) ++ encB 300 = ⟨#[1, 2, 255, 255, 255, 254, 172, 2]⟩ := by decide +kernel
theorem b3 : (⟨#[1, 2, 255, 255, 255, 254, 172, 2]⟩ : ByteArray) ++ encB (zig (-1)) = ⟨#[1, 2, 255, 255, 255, 254, 172, 2, 1]⟩ := by decide +kernel
def S5 : ByteArray := ⟨#[2, 97, 98, 5, 120]⟩
theorem r0 : rd64 (bytesOf (S5.extract 0 5)) = (((2 : Nat) : Int), ((1 : Nat) : Int), 0) := by decide +kernel
theorem r1 : rd64 (bytesOf (S5.extract 3 5)) = (((5 : Nat) : Int), ((1 : Nat) : Int), 0) := by decide +kernel
theorem t0 : S5.extract 1 3 = ⟨#[97, 98]⟩ := by decide +kernel
set_option maxRecDepth 100000 in
set_option maxHeartbeats 800000 in
theorem spells_calls (w : World) : Calls Try.prog 8 #[] w fun e w' => e = .returned (.bool true) ∧ Chg (fun k => w.heap.size ≤ k) w w' := by
  go_enter Try.func8, Try.ntmps8
  go_wp2_with fail
  refine (new_calls w).mono ?_
  rintro e w1 ⟨p, rfl, hW, hC⟩
  have hC := hC.none (F := fun k => w.heap.size ≤ k)
  go_wp2_with fail
  refine (u16_calls p _ _ 258 w1 hW (by omega) (by decide)).mono ?_
  rintro e w2 ⟨rfl, hW, hC2⟩
  replace hW := wr_next hC.1 hW b0
  replace hC := hC.trans hC2
  go_wp2_with fail
  refine (i32_calls p _ _ (-2) w2 hW (by omega) (by omega) (by decide)).mono ?_
  rintro e w3 ⟨rfl, hW, hC2⟩
  replace hW := wr_next hC.1 hW b1
  replace hC := hC.trans hC2
  go_wp2_with fail
  refine (uvarint_calls p _ _ 300 _ rfl w3 hW (by omega) (by decide)).mono ?_
  rintro e w4 ⟨rfl, hW, hC2⟩
  replace hW := wr_next hC.1 hW b2
  replace hC := hC.trans hC2
  go_wp2_with fail
  refine (varint_calls p _ _ (-1) w4 hW (by omega) (by omega) (by decide)).mono ?_
  rintro e w5 ⟨rfl, hW, hC2⟩
  replace hW := wr_next hC.1 hW b3
  replace hC := hC.trans hC2
  go_wp2_with fail
  refine (bytes_calls p _ _ w5 hW).mono ?_
  rintro e w6 ⟨rfl, rfl⟩
  go_wp2_with fail
  refine (Wr.at_calls p _ _ w6 hW).mono ?_
  rintro e w7 ⟨rfl, rfl⟩
  go_wp2_with fail
  have hW7 : w.heap.size ≤ w7.heap.size := hC.1
  refine (newR_calls S5 w7).mono ?_
  rintro e w8 ⟨rfl, hR, hC2⟩
  replace hC := hC.trans hC2.none
  generalize hb : w7.heap.size = b at *
  go_wp2_with fail
  refine (Text_ok b S5 0 w8 hR 9 (by omega) (by omega) (by decide) (by decide) 2 1 r0 (by decide) (by decide)).mono ?_
  rintro e w9 ⟨rfl, hR, hC2⟩
  rw [t0]
  replace hR : RdAt w9 b S5 3 0 := hR
  have hbB : w.heap.size ≤ b := hW7
  replace hC := hC.trans (hC2.mono (fun k hk _ => by subst hk; exact hbB))
  go_wp2_with fail
  refine (Text_long b S5 3 w9 hR 9 (by omega) (by omega) (by decide) (by decide) 5 1 (by omega) r1 (by decide) (.inr (by decide))).mono ?_
  rintro e w10 ⟨rfl, hR, hC2⟩
  replace hC := hC.trans (hC2.mono (fun k hk _ => by subst hk; exact hbB))
  go_wp2_with fail
  refine (u8_fault b S5 3 21 w10 hR rfl).mono ?_
  rintro e w11 ⟨rfl, hR, hC2⟩
  replace hC := hC.trans hC2.none
  go_wp2_with fail
  refine (Rd.at_calls b S5 3 21 w11 hR).mono ?_
  rintro e w12 ⟨rfl, rfl⟩
  go_wp2_with fail
  refine (Done_fault b S5 3 21 w11 hR rfl).mono ?_
  rintro e w12 ⟨rfl, rfl⟩
  go_wp2
  go_ret
  exact ⟨rfl, hC⟩
end Go.Proofs.Ytclnpedmoelipaa.Sp
/- What a reading at the first place tells, and that its form is the bytes ahead: plain law. -/
namespace Go.Proofs.Ytclnpedmoelipaa.Cn
open Go Go.RowKit Go.Lib Go.Proofs.Ytclnpedmoelipaa.Vm Go.Proofs.Ytclnpedmoelipaa.Wr Go.Proofs.Ytclnpedmoelipaa.Rd Go.Proofs.Ytclnpedmoelipaa.Sp Go.Proofs.YtclnpedmoelipaaW.PrintWords
set_option linter.unusedVariables false
set_option linter.unusedSimpArgs false

theorem ext_all (S : ByteArray) : S.extract 0 S.size = S := by
  apply bytesOf_inj
  rw [bytesOf_extract, List.drop_zero, Nat.sub_zero, List.take_of_length_le (by rw [bytesOf_length]; exact Nat.le_refl _)]
theorem ext_take {S : ByteArray} {n u : Nat} (ht : (bytesOf S).take n = enc u) : encB u = S.extract 0 n := by
  apply bytesOf_inj
  unfold encB
  rw [bytesOf_nums (enc_bytes u), bytesOf_extract, List.drop_zero, Nat.sub_zero, ht]
theorem ext_join (S : ByteArray) (n u : Nat) : S.extract 0 n ++ S.extract n (n + u) = S.extract 0 (n + u) := by
  apply bytesOf_inj
  rw [bytesOf_append, bytesOf_extract, bytesOf_extract, bytesOf_extract, List.drop_zero, Nat.sub_zero, Nat.sub_zero, Nat.add_sub_cancel_left, List.take_add]
theorem outU (S : ByteArray) : (∃ ec, ec ≠ 0 ∧ rd64 (bytesOf (S.extract 0 S.size)) = (0, 0, ec)) ∨
    (∃ u n : Nat, u < 18446744073709551616 ∧ n ≤ S.size ∧ encB u = S.extract 0 n ∧ rd64 (bytesOf (S.extract 0 S.size)) = ((u : Int), (n : Int), 0)) := by
  rw [ext_all]
  rcases rd64_tells (bytesOf S) (bytes_ok S) with ⟨e, he, hr⟩ | ⟨u, hu, ht, hn, hr⟩
  · exact .inl ⟨e, by omega, hr⟩
  · exact .inr ⟨u, _, hu, by rw [bytesOf_length] at hn; exact hn, ext_take ht, hr⟩
theorem outS (S : ByteArray) : (∃ v n ec, ec ≠ 0 ∧ rdSigned (-9223372036854775808) 9223372036854775807 (rd64 (bytesOf (S.extract 0 S.size))) = (v, n, ec)) ∨
    (∃ (v : Int) (n : Nat), -9223372036854775808 ≤ v ∧ v ≤ 9223372036854775807 ∧ n ≤ S.size ∧ encB (zig v) = S.extract 0 n ∧ rdSigned (-9223372036854775808) 9223372036854775807 (rd64 (bytesOf (S.extract 0 S.size))) = (v, (n : Int), 0)) := by
  rcases outU S with ⟨e, he, hr⟩ | ⟨u, n, hu, hn, ht, hr⟩
  · refine .inl ⟨0, 0, e, he, ?_⟩
    rw [hr]; unfold rdSigned; simp [he]
  · have hb := unzig_lo hu
    refine .inr ⟨unzig u, n, hb.1, hb.2, hn, by rw [zig_unzig]; exact ht, ?_⟩
    rw [hr]; unfold rdSigned; simp [hb.1, hb.2]
theorem be8 (a0 a1 a2 a3 a4 a5 a6 a7 : Int) (h0 : 0 ≤ a0 ∧ a0 < 256) (h1 : 0 ≤ a1 ∧ a1 < 256) (h2 : 0 ≤ a2 ∧ a2 < 256) (h3 : 0 ≤ a3 ∧ a3 < 256) (h4 : 0 ≤ a4 ∧ a4 < 256) (h5 : 0 ≤ a5 ∧ a5 < 256) (h6 : 0 ≤ a6 ∧ a6 < 256) (h7 : 0 ≤ a7 ∧ a7 < 256) :
    beL (wrap64 (beV [a0, a1, a2, a3, a4, a5, a6, a7]) % 18446744073709551616).toNat 8 = [a0, a1, a2, a3, a4, a5, a6, a7] := by
  have e : beV [a0, a1, a2, a3, a4, a5, a6, a7] = (((((((a0 * 256 + a1) * 256 + a2) * 256 + a3) * 256 + a4) * 256 + a5) * 256 + a6) * 256 + a7) := by
    unfold beV; simp [List.foldl]
  rw [e]
  have e2 : (wrap64 (((((((a0 * 256 + a1) * 256 + a2) * 256 + a3) * 256 + a4) * 256 + a5) * 256 + a6) * 256 + a7) % 18446744073709551616).toNat = ((((((((a0 * 256 + a1) * 256 + a2) * 256 + a3) * 256 + a4) * 256 + a5) * 256 + a6) * 256 + a7)).toNat := by
    unfold wrap64; omega
  rw [e2]
  show [((_ / 256 ^ 7 % 256 : Nat) : Int), ((_ / 256 ^ 6 % 256 : Nat) : Int), ((_ / 256 ^ 5 % 256 : Nat) : Int), ((_ / 256 ^ 4 % 256 : Nat) : Int), ((_ / 256 ^ 3 % 256 : Nat) : Int), ((_ / 256 ^ 2 % 256 : Nat) : Int), ((_ / 256 ^ 1 % 256 : Nat) : Int), ((_ / 256 ^ 0 % 256 : Nat) : Int)] = _
  clear e e2
  simp only [List.cons.injEq, and_true, Nat.reducePow]
  refine ⟨?_, ?_, ?_, ?_, ?_, ?_, ?_, ?_⟩ <;> omega
theorem eight (l : List Int) (h : l.length = 8) : ∃ a0 a1 a2 a3 a4 a5 a6 a7, l = [a0, a1, a2, a3, a4, a5, a6, a7] := by
  match l, h with
  | [a0, a1, a2, a3, a4, a5, a6, a7], _ => exact ⟨a0, a1, a2, a3, a4, a5, a6, a7, rfl⟩
theorem i64_back (S : ByteArray) (h : 8 ≤ S.size) : be (wrap64 (beV (bytesOf (S.extract 0 8))) % 18446744073709551616).toNat 8 = S.extract 0 8 := by
  apply bytesOf_inj
  obtain ⟨a0, a1, a2, a3, a4, a5, a6, a7, hl⟩ := eight (bytesOf (S.extract 0 8)) (by rw [bytesOf_length, ByteArray.size_extract]; omega)
  have hb := bytes_ok (S.extract 0 8)
  rw [hl] at hb ⊢
  have e := be8 a0 a1 a2 a3 a4 a5 a6 a7 (hb _ (by simp)) (hb _ (by simp)) (hb _ (by simp)) (hb _ (by simp)) (hb _ (by simp)) (hb _ (by simp)) (hb _ (by simp)) (hb _ (by simp))
  unfold be
  rw [e, bytesOf_nums hb]
end Go.Proofs.Ytclnpedmoelipaa.Cn
/- WireCanon of layer 2, walked by hand: what has been read, written again, is the bytes that it was read from. -/
namespace Go.Proofs.Ytclnpedmoelipaa.Cn
open Go Go.RowKit Go.Lib Go.Proofs.Ytclnpedmoelipaa.Vm Go.Proofs.Ytclnpedmoelipaa.Wr Go.Proofs.Ytclnpedmoelipaa.Rd Go.Proofs.Ytclnpedmoelipaa.Sp Go.Proofs.YtclnpedmoelipaaW.PrintWords
set_option linter.unusedVariables false
set_option linter.unusedSimpArgs false

theorem ext_room (S : ByteArray) (a b : Nat) (hS : S.size ≤ 140737488351232) : ByteArray.empty.size + 10 + (S.extract a b).size ≤ 140737488355328 := by
  have h0 : ByteArray.empty.size = 0 := ByteArray.size_empty
  rw [ByteArray.size_extract, h0]; omega
theorem text_form {S : ByteArray} {n u : Nat} (ht : encB u = S.extract 0 n) (h : n + u ≤ S.size) : textB (S.extract n (n + u)) = S.extract 0 (0 + n + u) := by
  have hs : (S.extract n (n + u)).size = u := by rw [ByteArray.size_extract]; omega
  unfold textB
  rw [hs, ht, Nat.zero_add, ext_join]
theorem opt_form {S : ByteArray} {n u : Nat} (ht : encB (zig (u : Int)) = S.extract 0 n) (h : n + u ≤ S.size) : optB true (S.extract n (n + u)) = S.extract 0 (0 + n + u) := by
  have hs : (S.extract n (n + u)).size = u := by rw [ByteArray.size_extract]; omega
  unfold optB
  rw [hs, if_pos rfl, ht, Nat.zero_add, ext_join]

theorem box3 {w1 : World} {b x : Nat} {S : ByteArray} {pos : Nat} {er : Int} {u0 u1 : Value} (h1 : RdAt w1 b S pos er) (hx1 : Blk w1 x 49 #[u0, u1]) (v0 v1 : Value) :
    RdAt ((w1.setCell ⟨x, 0, none⟩ v0).setCell ⟨x, 1, none⟩ v1) b S pos er ∧ Chg (fun k => k = x) w1 ((w1.setCell ⟨x, 0, none⟩ v0).setCell ⟨x, 1, none⟩ v1) ∧ Blk ((w1.setCell ⟨x, 0, none⟩ v0).setCell ⟨x, 1, none⟩ v1) x 49 #[v0, v1] := by
  have hne : b ≠ x := Blk.ne_ h1 hx1 (by decide)
  exact ⟨Blk.far (p := ⟨x, 1, none⟩) (Blk.far (p := ⟨x, 0, none⟩) h1 hne v0) hne v1, ⟨by simp, fun i hi hf => (heap_set _ _ _ _ hf).trans (heap_set _ _ _ _ hf), rfl, rfl, rfl⟩, Blk.set_ (Blk.set_ hx1 0 v0) 1 v1⟩

set_option maxRecDepth 100000 in
set_option maxHeartbeats 100000000 in
theorem core (S : ByteArray) (hS : S.size ≤ 140737488351232) {w : World} (W : World) (hW : w = W) :
    Calls Try.prog 4 #[.string S] W fun e w' => e = .returned (.bool true) ∧ Below W.heap.size W w' := by
  clear hW
  go_enter Try.func4, Try.ntmps4
  go_wp2_with fail
  refine (spells_calls W).mono ?_
  rintro e w1 ⟨rfl, hC⟩
  go_wp2_with fail
  go_loopw [14] (fun x14 wr => ∃ k : Nat, k ≤ 5 ∧ x14 = .int .i64 k ∧ Chg (fun i => W.heap.size ≤ i) W wr) (fun x14 _ => 5 - (intOf x14).toNat)
  case atStart => exact ⟨0, by omega, rfl, hC⟩
  case round =>
    obtain ⟨k, hk, rfl, hC⟩ := hrel
    by_cases hlt : k < 5
    · obtain rfl | rfl | rfl | rfl | rfl : k = 0 ∨ k = 1 ∨ k = 2 ∨ k = 3 ∨ k = 4 := by omega
      · go_wp2_with fail
        refine (newR_calls S wr).mono ?_
        rintro e w2 ⟨rfl, hR, hC2⟩
        have hB : W.heap.size ≤ wr.heap.size := hC.1
        replace hC := hC.trans hC2.none
        generalize hb : wr.heap.size = b at *
        have HB := Lib.hid hb
        clear hb
        go_wp2_with fail
        refine (new_calls w2).mono ?_
        rintro e w3 ⟨p, rfl, hW, hC2⟩
        have hbl : b < w2.heap.size := Blk.lt hR
        have hB2 : W.heap.size ≤ w2.heap.size := hC.1
        replace hR := hR.chg hC2 (fun h => h)
        replace hC := hC.trans hC2.none
        go_wp2_with fail
        rcases outU S with ⟨ec, hec, hr⟩ | ⟨u, n, hu, hn, ht, hr⟩
        · have hec1 : (ec == 0) = false := by rw [beq_eq_false_iff_ne]; exact hec
          have hec2 : (ec != 0) = true := by rw [bne_iff_ne]; exact hec
          refine (Uvarint_bad b S 0 w3 hR (by omega) (by omega) 0 0 ec hr hec).mono ?_
          rintro e w4 ⟨rfl, hR, hC2⟩
          replace hW := hW.chg hC2 (fun k hk _ e => by subst e; omega)
          replace hC := hC.trans (hC2.mono (fun k hk _ => by subst hk; exact hB))
          go_wp2_with fail
          refine (uvarint_calls p _ _ 0 _ rfl w4 hW (by omega) (by decide)).mono ?_
          rintro e w5 ⟨rfl, hW, hC2⟩
          replace hR := hR.chg hC2 (fun h => absurd hbl (by omega))
          replace hC := hC.trans (hC2.mono (fun k hk _ => Nat.le_trans hB2 hk))
          go_wp2_with fail
          refine (Rd.at_calls b S 0 ec _ hR).mono ?_
          rintro e w7 ⟨rfl, rfl⟩
          go_wp2
          go_roundw
          case rel => exact ⟨0 + 1, by omega, by go_num, hC⟩
          case measure => simp [intOf]
        · refine (Uvarint_ok b S 0 w3 hR (by omega) (by omega) u n hr (by omega) (by omega)).mono ?_
          rintro e w4 ⟨rfl, hR, hC2⟩
          replace hW := hW.chg hC2 (fun k hk _ e => by subst e; omega)
          replace hC := hC.trans (hC2.mono (fun k hk _ => by subst hk; exact hB))
          go_wp2_with fail
          refine (uvarint_calls p _ _ u _ rfl w4 hW hu (by decide)).mono ?_
          rintro e w5 ⟨rfl, hW, hC2⟩
          replace hR := hR.chg hC2 (fun h => absurd hbl (by omega))
          replace hC := hC.trans (hC2.mono (fun k hk _ => Nat.le_trans hB2 hk))
          have hs : (S.extract 0 (0 + n)).size = (0 + n) := by rw [ByteArray.size_extract]; omega
          have hW : WrAt w5 (fun k => w2.heap.size ≤ k ∨ w4.heap.size ≤ k) p (S.extract 0 (0 + n)) := by
            replace hW := hW; rw [show ByteArray.empty ++ encB u = S.extract 0 (0 + n) from by rw [ByteArray.empty_append]; exact (by rw [Nat.zero_add]; exact ht)] at hW; exact hW
          go_wp2_with fail
          refine (bytes_calls p _ _ w5 hW).mono ?_
          rintro e w6 ⟨rfl, rfl⟩
          go_wp2_with fail
          refine (Rd.at_calls b S (0 + n) 0 _ hR).mono ?_
          rintro e w7 ⟨rfl, rfl⟩
          go_wp2_with fail
          refine (Wr.at_calls p _ _ _ hW).mono ?_
          rintro e w7 ⟨rfl, rfl⟩
          go_wp2_with fail
          refine (Rd.at_calls b S (0 + n) 0 _ hR).mono ?_
          rintro e w7 ⟨rfl, rfl⟩
          go_wp2
          go_roundw
          case rel => exact ⟨0 + 1, by omega, by go_num, hC⟩
          case measure => simp [intOf]
      · go_wp2_with fail
        refine (newR_calls S wr).mono ?_
        rintro e w2 ⟨rfl, hR, hC2⟩
        have hB : W.heap.size ≤ wr.heap.size := hC.1
        replace hC := hC.trans hC2.none
        generalize hb : wr.heap.size = b at *
        have HB := Lib.hid hb
        clear hb
        go_wp2_with fail
        refine (new_calls w2).mono ?_
        rintro e w3 ⟨p, rfl, hW, hC2⟩
        have hbl : b < w2.heap.size := Blk.lt hR
        have hB2 : W.heap.size ≤ w2.heap.size := hC.1
        replace hR := hR.chg hC2 (fun h => h)
        replace hC := hC.trans hC2.none
        go_wp2_with fail
        rcases outS S with ⟨v, n, ec, hec, hr⟩ | ⟨v, n, h0, h1, hn, ht, hr⟩
        · have hec1 : (ec == 0) = false := by rw [beq_eq_false_iff_ne]; exact hec
          have hec2 : (ec != 0) = true := by rw [bne_iff_ne]; exact hec
          refine (Varint_bad b S 0 w3 hR (by omega) (by omega) v n ec hr hec).mono ?_
          rintro e w4 ⟨rfl, hR, hC2⟩
          replace hW := hW.chg hC2 (fun k hk _ e => by subst e; omega)
          replace hC := hC.trans (hC2.mono (fun k hk _ => by subst hk; exact hB))
          go_wp2_with fail
          refine (varint_calls p _ _ 0 w4 hW (by omega) (by omega) (by decide)).mono ?_
          rintro e w5 ⟨rfl, hW, hC2⟩
          replace hR := hR.chg hC2 (fun h => absurd hbl (by omega))
          replace hC := hC.trans (hC2.mono (fun k hk _ => Nat.le_trans hB2 hk))
          go_wp2_with fail
          refine (Rd.at_calls b S 0 ec _ hR).mono ?_
          rintro e w7 ⟨rfl, rfl⟩
          go_wp2
          go_roundw
          case rel => exact ⟨1 + 1, by omega, by go_num, hC⟩
          case measure => simp [intOf]
        · refine (Varint_ok b S 0 w3 hR (by omega) (by omega) v n hr (by omega) (by omega)).mono ?_
          rintro e w4 ⟨rfl, hR, hC2⟩
          replace hW := hW.chg hC2 (fun k hk _ e => by subst e; omega)
          replace hC := hC.trans (hC2.mono (fun k hk _ => by subst hk; exact hB))
          go_wp2_with fail
          refine (varint_calls p _ _ v w4 hW h0 h1 (by decide)).mono ?_
          rintro e w5 ⟨rfl, hW, hC2⟩
          replace hR := hR.chg hC2 (fun h => absurd hbl (by omega))
          replace hC := hC.trans (hC2.mono (fun k hk _ => Nat.le_trans hB2 hk))
          have hs : (S.extract 0 (0 + n)).size = (0 + n) := by rw [ByteArray.size_extract]; omega
          have hW : WrAt w5 (fun k => w2.heap.size ≤ k ∨ w4.heap.size ≤ k) p (S.extract 0 (0 + n)) := by
            replace hW := hW; rw [show ByteArray.empty ++ encB (zig v) = S.extract 0 (0 + n) from by rw [ByteArray.empty_append]; exact (by rw [Nat.zero_add]; exact ht)] at hW; exact hW
          go_wp2_with fail
          refine (bytes_calls p _ _ w5 hW).mono ?_
          rintro e w6 ⟨rfl, rfl⟩
          go_wp2_with fail
          refine (Rd.at_calls b S (0 + n) 0 _ hR).mono ?_
          rintro e w7 ⟨rfl, rfl⟩
          go_wp2_with fail
          refine (Wr.at_calls p _ _ _ hW).mono ?_
          rintro e w7 ⟨rfl, rfl⟩
          go_wp2_with fail
          refine (Rd.at_calls b S (0 + n) 0 _ hR).mono ?_
          rintro e w7 ⟨rfl, rfl⟩
          go_wp2
          go_roundw
          case rel => exact ⟨1 + 1, by omega, by go_num, hC⟩
          case measure => simp [intOf]
      · go_wp2_with fail
        refine (newR_calls S wr).mono ?_
        rintro e w2 ⟨rfl, hR, hC2⟩
        have hB : W.heap.size ≤ wr.heap.size := hC.1
        replace hC := hC.trans hC2.none
        generalize hb : wr.heap.size = b at *
        have HB := Lib.hid hb
        clear hb
        go_wp2_with fail
        refine (new_calls w2).mono ?_
        rintro e w3 ⟨p, rfl, hW, hC2⟩
        have hbl : b < w2.heap.size := Blk.lt hR
        have hB2 : W.heap.size ≤ w2.heap.size := hC.1
        replace hR := hR.chg hC2 (fun h => h)
        replace hC := hC.trans hC2.none
        go_wp2_with fail
        rcases outU S with ⟨ec, hec, hr⟩ | ⟨u, n, hu, hn, ht, hr⟩
        · have hec1 : (ec == 0) = false := by rw [beq_eq_false_iff_ne]; exact hec
          have hec2 : (ec != 0) = true := by rw [bne_iff_ne]; exact hec
          refine (Text_bad b S 0 w3 hR S.size (by omega) (by omega) 0 0 ec hr hec).mono ?_
          rintro e w4 ⟨rfl, hR, hC2⟩
          replace hW := hW.chg hC2 (fun k hk _ e => by subst e; omega)
          replace hC := hC.trans (hC2.mono (fun k hk _ => by subst hk; exact hB))
          go_wp2_with fail
          refine (text_calls p _ _ ⟨#[]⟩ w4 hW (by decide)).mono ?_
          rintro e w5 ⟨rfl, hW, hC2⟩
          replace hR := hR.chg hC2 (fun h => absurd hbl (by omega))
          replace hC := hC.trans (hC2.mono (fun k hk _ => Nat.le_trans hB2 hk))
          go_wp2_with fail
          refine (Rd.at_calls b S 0 ec _ hR).mono ?_
          rintro e w7 ⟨rfl, rfl⟩
          go_wp2
          go_roundw
          case rel => exact ⟨2 + 1, by omega, by go_num, hC⟩
          case measure => simp [intOf]
        · by_cases hl : n + u ≤ S.size
          · refine (Text_ok b S 0 w3 hR S.size (by omega) (by omega) (by omega) (by omega) u n hr (by omega) (by omega)).mono ?_
            rintro e w4 ⟨rfl, hR, hC2⟩
            replace hW := hW.chg hC2 (fun k hk _ e => by subst e; omega)
            replace hC := hC.trans (hC2.mono (fun k hk _ => by subst hk; exact hB))
            go_wp2_with fail
            refine (text_calls p _ _ (S.extract n (n + u)) w4 hW (by exact ext_room S _ _ hS)).mono ?_
            rintro e w5 ⟨rfl, hW, hC2⟩
            replace hR := hR.chg hC2 (fun h => absurd hbl (by omega))
            replace hC := hC.trans (hC2.mono (fun k hk _ => Nat.le_trans hB2 hk))
            have hs : (S.extract 0 (0 + n + u)).size = (0 + n + u) := by rw [ByteArray.size_extract]; omega
            have hW : WrAt w5 (fun k => w2.heap.size ≤ k ∨ w4.heap.size ≤ k) p (S.extract 0 (0 + n + u)) := by
              replace hW := hW; rw [show ByteArray.empty ++ textB (S.extract n (n + u)) = S.extract 0 (0 + n + u) from by rw [ByteArray.empty_append]; exact (text_form ht (by omega))] at hW; exact hW
            go_wp2_with fail
            refine (bytes_calls p _ _ w5 hW).mono ?_
            rintro e w6 ⟨rfl, rfl⟩
            go_wp2_with fail
            refine (Rd.at_calls b S (0 + n + u) 0 _ hR).mono ?_
            rintro e w7 ⟨rfl, rfl⟩
            go_wp2_with fail
            refine (Wr.at_calls p _ _ _ hW).mono ?_
            rintro e w7 ⟨rfl, rfl⟩
            go_wp2_with fail
            refine (Rd.at_calls b S (0 + n + u) 0 _ hR).mono ?_
            rintro e w7 ⟨rfl, rfl⟩
            go_wp2
            go_roundw
            case rel => exact ⟨2 + 1, by omega, by go_num, hC⟩
            case measure => simp [intOf]
          · refine (Text_long b S 0 w3 hR S.size (by omega) (by omega) (by omega) (by omega) u n hu hr (by omega) (.inr (by omega))).mono ?_
            rintro e w4 ⟨rfl, hR, hC2⟩
            replace hW := hW.chg hC2 (fun k hk _ e => by subst e; omega)
            replace hC := hC.trans (hC2.mono (fun k hk _ => by subst hk; exact hB))
            go_wp2_with fail
            refine (text_calls p _ _ ⟨#[]⟩ w4 hW (by decide)).mono ?_
            rintro e w5 ⟨rfl, hW, hC2⟩
            replace hR := hR.chg hC2 (fun h => absurd hbl (by omega))
            replace hC := hC.trans (hC2.mono (fun k hk _ => Nat.le_trans hB2 hk))
            go_wp2_with fail
            refine (Rd.at_calls b S 0 21 _ hR).mono ?_
            rintro e w7 ⟨rfl, rfl⟩
            go_wp2
            go_roundw
            case rel => exact ⟨2 + 1, by omega, by go_num, hC⟩
            case measure => simp [intOf]
      · go_wp2_with fail
        refine (newR_calls S wr).mono ?_
        rintro e w2 ⟨rfl, hR, hC2⟩
        have hB : W.heap.size ≤ wr.heap.size := hC.1
        replace hC := hC.trans hC2.none
        generalize hb : wr.heap.size = b at *
        have HB := Lib.hid hb
        clear hb
        go_wp2_with fail
        refine (new_calls w2).mono ?_
        rintro e w3 ⟨p, rfl, hW, hC2⟩
        have hbl : b < w2.heap.size := Blk.lt hR
        have hB2 : W.heap.size ≤ w2.heap.size := hC.1
        replace hR := hR.chg hC2 (fun h => h)
        replace hC := hC.trans hC2.none
        replace hW := hW.tight
        have hx23 : w2.heap.size ≤ w3.heap.size := hC2.1
        obtain ⟨W30, hW30⟩ : ∃ W30, w3.alloc (.cells #[.bool false, .string ⟨#[]⟩] 49) = W30 := ⟨_, rfl⟩
        have hCx := Chg.alloc (fun _ => False) w3 (.cells #[.bool false, .string ⟨#[]⟩] 49)
        have hx : Blk (w3.alloc (.cells #[.bool false, .string ⟨#[]⟩] 49)) w3.heap.size 49 #[.bool false, .string ⟨#[]⟩] := heap_new _ _
        rw [hW30] at hCx hx
        replace hW := hW.chg hCx (fun _ _ _ h => h)
        replace hR := hR.chg hCx (fun h => h)
        replace hC := hC.trans hCx.none
        have cx0 : W30.cell? ⟨w3.heap.size, 0, none⟩ = some (.bool false) := hx.cell 0
        have cx1 : W30.cell? ⟨w3.heap.size, 1, none⟩ = some (.string ⟨#[]⟩) := hx.cell 1
        have fx0 : W30.frozen? ⟨w3.heap.size, 0, none⟩ = false := hx.frozen 0
        have fx1 : W30.frozen? ⟨w3.heap.size, 1, none⟩ = false := hx.frozen 1
        have hbx := box3 hR hx (.bool false) (.string ⟨#[]⟩)
        obtain ⟨W3, hW3⟩ : ∃ W3, (W30.setCell ⟨w3.heap.size, 0, none⟩ (.bool false)).setCell ⟨w3.heap.size, 1, none⟩ (.string ⟨#[]⟩) = W3 := ⟨_, rfl⟩
        rw [hW3] at hbx
        clear hx
        obtain ⟨hR, hC5, hx⟩ := hbx
        replace hW := hW.chg hC5 (fun k hk _ e => by subst e; omega)
        have hWx : W.heap.size ≤ w3.heap.size := by omega
        replace hC := hC.trans (hC5.mono (fun k hk _ => by subst hk; exact hWx))
        go_wp2_with fail
        clear hW3 hW30 cx0 cx1 fx0 fx1 hC5
        rcases outS S with ⟨v, n, ec, hec, hr⟩ | ⟨v, n, h0, h1, hn, ht, hr⟩
        · have hec1 : (ec == 0) = false := by rw [beq_eq_false_iff_ne]; exact hec
          have hec2 : (ec != 0) = true := by rw [bne_iff_ne]; exact hec
          refine (Opt_stop b S 0 ec W3 hR S.size (fun W1 g h1 hg => one_opt_bad b S 0 0 W1 h1 g (by omega) (by omega) v n ec hr hec)).mono ?_
          rintro e w4 ⟨rfl, hR, hC2⟩
          replace hW := hW.chg hC2 (fun k hk _ e => by subst e; omega)
          replace hC := hC.trans (hC2.mono (fun k hk _ => by subst hk; exact hB))
          have hx4 : Blk w4 w3.heap.size 49 #[.bool false, .string ⟨#[]⟩] := (hC2.2 _ hx.lt (by show ¬ w3.heap.size = b; omega)).trans hx
          have cx0 : w4.cell? ⟨w3.heap.size, 0, none⟩ = some (.bool false) := hx4.cell 0
          have cx1 : w4.cell? ⟨w3.heap.size, 1, none⟩ = some (.string ⟨#[]⟩) := hx4.cell 1
          have fx0 : w4.frozen? ⟨w3.heap.size, 0, none⟩ = false := hx4.frozen 0
          have fx1 : w4.frozen? ⟨w3.heap.size, 1, none⟩ = false := hx4.frozen 1
          have hbx := box3 hR hx4 (.bool false) (.string ⟨#[]⟩)
          obtain ⟨W5, hW5⟩ : ∃ W5, (w4.setCell ⟨w3.heap.size, 0, none⟩ (.bool false)).setCell ⟨w3.heap.size, 1, none⟩ (.string ⟨#[]⟩) = W5 := ⟨_, rfl⟩
          rw [hW5] at hbx
          obtain ⟨hR, hC5, hx5⟩ := hbx
          replace hW := hW.chg hC5 (fun k hk _ e => by subst e; omega)
          replace hC := hC.trans (hC5.mono (fun k hk _ => by subst hk; show W.heap.size ≤ w3.heap.size; omega))
          have cy0 : W5.cell? ⟨w3.heap.size, 0, none⟩ = some (.bool false) := hx5.cell 0
          have cy1 : W5.cell? ⟨w3.heap.size, 1, none⟩ = some (.string ⟨#[]⟩) := hx5.cell 1
          go_wp2_with fail
          refine (opt_calls p _ _ false ⟨#[]⟩ W5 hW (by decide)).mono ?_
          rintro e w5 ⟨rfl, hW, hC2⟩
          replace hR := hR.chg hC2 (fun h => absurd hbl (by omega))
          replace hC := hC.trans (hC2.mono (fun k hk _ => Nat.le_trans hB2 hk.1))
          go_wp2_with fail
          refine (Rd.at_calls b S 0 ec _ hR).mono ?_
          rintro e w7 ⟨rfl, rfl⟩
          go_wp2
          go_roundw
          case rel => exact ⟨3 + 1, by omega, by go_num, hC⟩
          case measure => simp [intOf]
        · by_cases hm : v = -1
          · subst hm
            refine (Opt_from b S 0 (0 + n) false ⟨#[]⟩ W3 hR S.size (fun W1 g h1 hg => one_opt_null b S 0 0 W1 h1 g (by omega) (by omega) n hr (by omega))).mono ?_
            rintro e w4 ⟨rfl, hR, hC2⟩
            replace hW := hW.chg hC2 (fun k hk _ e => by subst e; omega)
            replace hC := hC.trans (hC2.mono (fun k hk _ => by subst hk; exact hB))
            have hx4 : Blk w4 w3.heap.size 49 #[.bool false, .string ⟨#[]⟩] := (hC2.2 _ hx.lt (by show ¬ w3.heap.size = b; omega)).trans hx
            have cx0 : w4.cell? ⟨w3.heap.size, 0, none⟩ = some (.bool false) := hx4.cell 0
            have cx1 : w4.cell? ⟨w3.heap.size, 1, none⟩ = some (.string ⟨#[]⟩) := hx4.cell 1
            have fx0 : w4.frozen? ⟨w3.heap.size, 0, none⟩ = false := hx4.frozen 0
            have fx1 : w4.frozen? ⟨w3.heap.size, 1, none⟩ = false := hx4.frozen 1
            have hbx := box3 hR hx4 (.bool false) (.string ⟨#[]⟩)
            obtain ⟨W5, hW5⟩ : ∃ W5, (w4.setCell ⟨w3.heap.size, 0, none⟩ (.bool false)).setCell ⟨w3.heap.size, 1, none⟩ (.string ⟨#[]⟩) = W5 := ⟨_, rfl⟩
            rw [hW5] at hbx
            obtain ⟨hR, hC5, hx5⟩ := hbx
            replace hW := hW.chg hC5 (fun k hk _ e => by subst e; omega)
            replace hC := hC.trans (hC5.mono (fun k hk _ => by subst hk; show W.heap.size ≤ w3.heap.size; omega))
            have cy0 : W5.cell? ⟨w3.heap.size, 0, none⟩ = some (.bool false) := hx5.cell 0
            have cy1 : W5.cell? ⟨w3.heap.size, 1, none⟩ = some (.string ⟨#[]⟩) := hx5.cell 1
            go_wp2_with fail
            refine (opt_calls p _ _ false ⟨#[]⟩ W5 hW (by decide)).mono ?_
            rintro e w5 ⟨rfl, hW, hC2⟩
            replace hR := hR.chg hC2 (fun h => absurd hbl (by omega))
            replace hC := hC.trans (hC2.mono (fun k hk _ => Nat.le_trans hB2 hk.1))
            have hs : (S.extract 0 (0 + n)).size = (0 + n) := by rw [ByteArray.size_extract]; omega
            have hW : WrAt w5 (fun k => (w2.heap.size ≤ k ∧ k < w3.heap.size) ∨ W5.heap.size ≤ k) p (S.extract 0 (0 + n)) := by
              replace hW := hW; rw [show ByteArray.empty ++ optB false ⟨#[]⟩ = S.extract 0 (0 + n) from by rw [ByteArray.empty_append]; exact (by rw [Nat.zero_add]; exact ht)] at hW; exact hW
            go_wp2_with fail
            refine (bytes_calls p _ _ w5 hW).mono ?_
            rintro e w6 ⟨rfl, rfl⟩
            go_wp2_with fail
            refine (Rd.at_calls b S (0 + n) 0 _ hR).mono ?_
            rintro e w7 ⟨rfl, rfl⟩
            go_wp2_with fail
            refine (Wr.at_calls p _ _ _ hW).mono ?_
            rintro e w7 ⟨rfl, rfl⟩
            go_wp2_with fail
            refine (Rd.at_calls b S (0 + n) 0 _ hR).mono ?_
            rintro e w7 ⟨rfl, rfl⟩
            go_wp2
            go_roundw
            case rel => exact ⟨3 + 1, by omega, by go_num, hC⟩
            case measure => simp [intOf]
          · by_cases hl : 0 ≤ v ∧ (n : Int) + v ≤ S.size
            · obtain ⟨u, rfl⟩ : ∃ u : Nat, v = (u : Int) := ⟨v.toNat, by omega⟩
              refine (Opt_from b S 0 (0 + n + u) true (S.extract (0 + n) (0 + n + u)) W3 hR S.size (fun W1 g h1 hg => one_opt_ok b S 0 0 W1 h1 S.size (by omega) (by omega) g hg (by omega) (by omega) u n hr (by omega) (by omega))).mono ?_
              rintro e w4 ⟨rfl, hR, hC2⟩
              replace hW := hW.chg hC2 (fun k hk _ e => by subst e; omega)
              replace hC := hC.trans (hC2.mono (fun k hk _ => by subst hk; exact hB))
              have hx4 : Blk w4 w3.heap.size 49 #[.bool false, .string ⟨#[]⟩] := (hC2.2 _ hx.lt (by show ¬ w3.heap.size = b; omega)).trans hx
              have cx0 : w4.cell? ⟨w3.heap.size, 0, none⟩ = some (.bool false) := hx4.cell 0
              have cx1 : w4.cell? ⟨w3.heap.size, 1, none⟩ = some (.string ⟨#[]⟩) := hx4.cell 1
              have fx0 : w4.frozen? ⟨w3.heap.size, 0, none⟩ = false := hx4.frozen 0
              have fx1 : w4.frozen? ⟨w3.heap.size, 1, none⟩ = false := hx4.frozen 1
              have hbx := box3 hR hx4 (.bool true) (.string (S.extract n (n + u)))
              obtain ⟨W5, hW5⟩ : ∃ W5, (w4.setCell ⟨w3.heap.size, 0, none⟩ (.bool true)).setCell ⟨w3.heap.size, 1, none⟩ (.string (S.extract n (n + u))) = W5 := ⟨_, rfl⟩
              rw [hW5] at hbx
              obtain ⟨hR, hC5, hx5⟩ := hbx
              replace hW := hW.chg hC5 (fun k hk _ e => by subst e; omega)
              replace hC := hC.trans (hC5.mono (fun k hk _ => by subst hk; show W.heap.size ≤ w3.heap.size; omega))
              have cy0 : W5.cell? ⟨w3.heap.size, 0, none⟩ = some (.bool true) := hx5.cell 0
              have cy1 : W5.cell? ⟨w3.heap.size, 1, none⟩ = some (.string (S.extract n (n + u))) := hx5.cell 1
              go_wp2_with fail
              refine (opt_calls p _ _ true (S.extract n (n + u)) W5 hW (by exact ext_room S _ _ hS)).mono ?_
              rintro e w5 ⟨rfl, hW, hC2⟩
              replace hR := hR.chg hC2 (fun h => absurd hbl (by omega))
              replace hC := hC.trans (hC2.mono (fun k hk _ => Nat.le_trans hB2 hk.1))
              have hs : (S.extract 0 (0 + n + u)).size = (0 + n + u) := by rw [ByteArray.size_extract]; omega
              have hW : WrAt w5 (fun k => (w2.heap.size ≤ k ∧ k < w3.heap.size) ∨ W5.heap.size ≤ k) p (S.extract 0 (0 + n + u)) := by
                replace hW := hW; rw [show ByteArray.empty ++ optB true (S.extract n (n + u)) = S.extract 0 (0 + n + u) from by rw [ByteArray.empty_append]; exact (opt_form ht (by omega))] at hW; exact hW
              go_wp2_with fail
              refine (bytes_calls p _ _ w5 hW).mono ?_
              rintro e w6 ⟨rfl, rfl⟩
              go_wp2_with fail
              refine (Rd.at_calls b S (0 + n + u) 0 _ hR).mono ?_
              rintro e w7 ⟨rfl, rfl⟩
              go_wp2_with fail
              refine (Wr.at_calls p _ _ _ hW).mono ?_
              rintro e w7 ⟨rfl, rfl⟩
              go_wp2_with fail
              refine (Rd.at_calls b S (0 + n + u) 0 _ hR).mono ?_
              rintro e w7 ⟨rfl, rfl⟩
              go_wp2
              go_roundw
              case rel => exact ⟨3 + 1, by omega, by go_num, hC⟩
              case measure => simp [intOf]
            · refine (Opt_stop b S 0 21 W3 hR S.size (fun W1 g hh hg => one_opt_long b S 0 0 W1 hh S.size (by omega) (by omega) g hg (by omega) (by omega) v n h0 h1 hr (by omega) (by omega))).mono ?_
              rintro e w4 ⟨rfl, hR, hC2⟩
              replace hW := hW.chg hC2 (fun k hk _ e => by subst e; omega)
              replace hC := hC.trans (hC2.mono (fun k hk _ => by subst hk; exact hB))
              have hx4 : Blk w4 w3.heap.size 49 #[.bool false, .string ⟨#[]⟩] := (hC2.2 _ hx.lt (by show ¬ w3.heap.size = b; omega)).trans hx
              have cx0 : w4.cell? ⟨w3.heap.size, 0, none⟩ = some (.bool false) := hx4.cell 0
              have cx1 : w4.cell? ⟨w3.heap.size, 1, none⟩ = some (.string ⟨#[]⟩) := hx4.cell 1
              have fx0 : w4.frozen? ⟨w3.heap.size, 0, none⟩ = false := hx4.frozen 0
              have fx1 : w4.frozen? ⟨w3.heap.size, 1, none⟩ = false := hx4.frozen 1
              have hbx := box3 hR hx4 (.bool false) (.string ⟨#[]⟩)
              obtain ⟨W5, hW5⟩ : ∃ W5, (w4.setCell ⟨w3.heap.size, 0, none⟩ (.bool false)).setCell ⟨w3.heap.size, 1, none⟩ (.string ⟨#[]⟩) = W5 := ⟨_, rfl⟩
              rw [hW5] at hbx
              obtain ⟨hR, hC5, hx5⟩ := hbx
              replace hW := hW.chg hC5 (fun k hk _ e => by subst e; omega)
              replace hC := hC.trans (hC5.mono (fun k hk _ => by subst hk; show W.heap.size ≤ w3.heap.size; omega))
              have cy0 : W5.cell? ⟨w3.heap.size, 0, none⟩ = some (.bool false) := hx5.cell 0
              have cy1 : W5.cell? ⟨w3.heap.size, 1, none⟩ = some (.string ⟨#[]⟩) := hx5.cell 1
              go_wp2_with fail
              refine (opt_calls p _ _ false ⟨#[]⟩ W5 hW (by decide)).mono ?_
              rintro e w5 ⟨rfl, hW, hC2⟩
              replace hR := hR.chg hC2 (fun h => absurd hbl (by omega))
              replace hC := hC.trans (hC2.mono (fun k hk _ => Nat.le_trans hB2 hk.1))
              go_wp2_with fail
              refine (Rd.at_calls b S 0 21 _ hR).mono ?_
              rintro e w7 ⟨rfl, rfl⟩
              go_wp2
              go_roundw
              case rel => exact ⟨3 + 1, by omega, by go_num, hC⟩
              case measure => simp [intOf]
      · go_wp2_with fail
        refine (newR_calls S wr).mono ?_
        rintro e w2 ⟨rfl, hR, hC2⟩
        have hB : W.heap.size ≤ wr.heap.size := hC.1
        replace hC := hC.trans hC2.none
        generalize hb : wr.heap.size = b at *
        have HB := Lib.hid hb
        clear hb
        go_wp2_with fail
        refine (new_calls w2).mono ?_
        rintro e w3 ⟨p, rfl, hW, hC2⟩
        have hbl : b < w2.heap.size := Blk.lt hR
        have hB2 : W.heap.size ≤ w2.heap.size := hC.1
        replace hR := hR.chg hC2 (fun h => h)
        replace hC := hC.trans hC2.none
        go_wp2_with fail
        by_cases hl : 8 ≤ S.size
        · have hbnd : -9223372036854775808 ≤ wrap64 (beV (bytesOf (S.extract 0 8))) ∧ wrap64 (beV (bytesOf (S.extract 0 8))) ≤ 9223372036854775807 := by unfold wrap64; omega
          refine (i64_ok b S 0 w3 hR (by omega) (by omega)).mono ?_
          rintro e w4 ⟨rfl, hR, hC2⟩
          replace hW := hW.chg hC2 (fun k hk _ e => by subst e; omega)
          replace hC := hC.trans (hC2.mono (fun k hk _ => by subst hk; exact hB))
          go_wp2_with fail
          refine (i64_calls p _ _ _ w4 hW hbnd.1 hbnd.2 (by decide)).mono ?_
          rintro e w5 ⟨rfl, hW, hC2⟩
          replace hR := hR.chg hC2 (fun h => absurd hbl (by omega))
          replace hC := hC.trans (hC2.mono (fun k hk _ => Nat.le_trans hB2 hk))
          have hs : (S.extract 0 (0 + 8)).size = (0 + 8) := by rw [ByteArray.size_extract]; omega
          have hW : WrAt w5 (fun k => w2.heap.size ≤ k ∨ w4.heap.size ≤ k) p (S.extract 0 (0 + 8)) := by
            replace hW := hW; rw [show ByteArray.empty ++ be (wrap64 (beV (bytesOf (S.extract 0 (0 + 8)))) % 18446744073709551616).toNat 8 = S.extract 0 (0 + 8) from by rw [ByteArray.empty_append]; exact (i64_back S hl)] at hW; exact hW
          go_wp2_with fail
          refine (bytes_calls p _ _ w5 hW).mono ?_
          rintro e w6 ⟨rfl, rfl⟩
          go_wp2_with fail
          refine (Rd.at_calls b S (0 + 8) 0 _ hR).mono ?_
          rintro e w7 ⟨rfl, rfl⟩
          go_wp2_with fail
          refine (Wr.at_calls p _ _ _ hW).mono ?_
          rintro e w7 ⟨rfl, rfl⟩
          go_wp2_with fail
          refine (Rd.at_calls b S (0 + 8) 0 _ hR).mono ?_
          rintro e w7 ⟨rfl, rfl⟩
          go_wp2
          go_roundw
          case rel => exact ⟨4 + 1, by omega, by go_num, hC⟩
          case measure => simp [intOf]
        · refine (i64_short b S 0 w3 hR (by omega) (by omega) (by omega)).mono ?_
          rintro e w4 ⟨rfl, hR, hC2⟩
          replace hW := hW.chg hC2 (fun k hk _ e => by subst e; omega)
          replace hC := hC.trans (hC2.mono (fun k hk _ => by subst hk; exact hB))
          go_wp2_with fail
          refine (i64_calls p _ _ 0 w4 hW (by omega) (by omega) (by decide)).mono ?_
          rintro e w5 ⟨rfl, hW, hC2⟩
          replace hR := hR.chg hC2 (fun h => absurd hbl (by omega))
          replace hC := hC.trans (hC2.mono (fun k hk _ => Nat.le_trans hB2 hk))
          go_wp2_with fail
          refine (Rd.at_calls b S 0 20 _ hR).mono ?_
          rintro e w7 ⟨rfl, rfl⟩
          go_wp2
          go_roundw
          case rel => exact ⟨4 + 1, by omega, by go_num, hC⟩
          case measure => simp [intOf]
    · go_wp2
      go_ret
      exact ⟨rfl, hC.to_below (Nat.le_refl _) (fun _ h => h)⟩
end Go.Proofs.Ytclnpedmoelipaa.Cn
/- WireCanon of layer 2: the walk, in the form that the row's frame takes. -/
namespace Go.Proofs.Ytclnpedmoelipaa.Cn
open Go Go.RowKit
set_option linter.unusedVariables false
theorem coreUpto (a0 : ByteArray) (w0 : a0.size ≤ maxLen) {w : World} (W : World) (hW : w = W) (hb : (a0.size + 1) ≤ 1048576) :
    Calls Try.prog 4 #[.string a0] W fun e w' => e = .returned (.bool true) ∧ Below W.heap.size W w' := core a0 (by omega) W hW
end Go.Proofs.Ytclnpedmoelipaa.Cn
/- What is proved: a number, a text or an Opt that a reader has read, written again, is the bytes that it was read from; a reading that fails leaves the reader where it stood (WireCanon, in its bounded form: up to each size that a machine can have). -/
namespace Go.Proofs.Ytclnpedmoelipaa.wireCanonUpto
open Go.ChangeShapes Go.WideShapes Go.ChangeAt Go.RowKit Go.Proofs.YtclnpedmoelipaaW.PrintWords Go.Proofs.Ytclnpedmoelipaa.Op
open Go.ChangeMaps (open_string shut_string)
set_option linter.unusedVariables false
set_option linter.unusedSimpArgs false
theorem op9 : Opens Try.prog Kd.string 9 (fun s => s.size ≤ maxLen) (fun s => s.size + 1) := opens_str Try.underlying9 (by kernel_rfl)
theorem own : ownKnob Try.prog.godebug = none := by kernel_rfl
theorem laidOut : laidOutB Try.prog = true := by kernel_rfl
set_option maxRecDepth 100000 in
theorem lifted (os : Os) (started : os.Started) (H : Type) (enc : TypeId × Value → H) (F : Stop.Interp) :
    ReturnsInHanded {} Try.checked os 4 .any ((Rows.OpenSpec.upto Rows.wireCanonSpec).pre6 enc Try.prog Try.f4 Rows.wireCanonUptoRow.domain false) (((Rows.OpenSpec.upto Rows.wireCanonSpec).at F).post enc Try.prog Try.f4 false true false false) := by
  refine returnsInHanded_of_cond (C := Try.checked) (s := Rows.OpenSpec.upto Rows.wireCanonSpec) (k := Rows.uptoSmall) rfl own started (by kernel_rfl) Try.func4
    (OpenSpec.witness (enc := enc) (C := Try.checked) (s := Rows.OpenSpec.upto Rows.wireCanonSpec) (k := Rows.uptoSmall) rfl false ⟨#[], #[.string ByteArray.empty], []⟩ 8 (by kernel_rfl) (by kernel_rfl) (by kernel_rfl)
      (x := ([.lit (.string [])], [], [])) (by kernel_rfl) rfl (by kernel_rfl)) ?_
  intro W base args ds gs before hval0 hW hcnd hk0 _
  have hval : ∀ (j : Nat) t v, Try.f4.params[j]? = some t → args[j]? = some v → Value.okWide Try.prog W .any base t v := hval0
  have hW' := hW
  obtain ⟨p, q, hA0, hV, rfl, hfz, hnd⟩ := hW
  have hA : DataW.TrodAll enc Try.prog W 0 (fun _ => true) true Try.f4.params.toList args.toList ds p := hA0
  rw [Try.params4] at hA hval
  obtain ⟨v0, vs0, d0, ds0, p0, q0, hargs, rfl, rfl, h0, r0⟩ := trodAll_cons hA
  obtain ⟨rfl, rfl, rfl⟩ := trodAll_nil r0
  obtain rfl : args = #[v0] := by cases args; simp_all
  obtain ⟨rfl, rfl⟩ := trodVars_none hV
  obtain ⟨a0, rfl, rfl, rfl, w0⟩ := open_string Try.underlying9 (hval 0 9 v0 rfl rfl) h0
  have b0 : a0.size + 1 ≤ Rows.uptoBulk (DataW.lit (H := H) (.string a0.data.toList)) := by simp only [Rows.uptoBulk]; have e : a0.data.toList.length = a0.size := by { rw [Array.length_toList]; rfl }; omega
  have hb0 := bound hk0
  simp only [Rows.uptoBulkAll, List.cons_append, List.nil_append, List.append_nil] at hb0
  have hb : (a0.size + 1) ≤ 1048576 := by  omega
  clear hA0 hval0 hk0
  refine (Cn.coreUpto a0 w0 W rfl hb).mono fun e W' ⟨he, bel⟩ => ?_
  subst he
  exact ⟨_, rfl, _, _, _, [], _, [], hW', trodAll_mk1 (shut_bool Try.underlying4 _), (trodAll_cons_mk (shut_string Try.underlying9 w0) trodAll_mk0), rfl, bel.frame _, fun h => by cases h⟩
theorem over : Rows.wireCanonUptoRow.holds Try.pinned (Rows.OpenSpec.upto Rows.wireCanonSpec) :=
  OpenClaim.holds_of_cond 4 Try.f4 rfl rfl rfl rfl rfl rfl rfl ⟨rfl, rfl, rfl, rfl, rfl⟩ rfl rfl rfl rfl rfl (by kernel_rfl) Try.func4 (by kernel_rfl)
    (of_decide_eq_true (by kernel_rfl)) (by unfold Func.isWrapper; first | (rw [if_pos (by decide +kernel)]; kernel_rfl) | (rw [if_neg (by decide +kernel)]; exact ⟨rfl, rfl⟩))
    (fun os started H enc _ F => lifted os started H enc F)
theorem proved : Rows.WireCanonUptoSaid := over
end Go.Proofs.Ytclnpedmoelipaa.wireCanonUpto
namespace Go.Proofs.Ytclnpedmoelipaa
/-- The row, under a short name, for the claim. -/
theorem wireCanonUpto_holds : Rows.WireCanonUptoSaid := wireCanonUpto.proved
end Go.Proofs.Ytclnpedmoelipaa
