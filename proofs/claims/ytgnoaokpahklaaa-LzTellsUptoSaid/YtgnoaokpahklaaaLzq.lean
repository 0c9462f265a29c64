/- Pack of layer 4: the walk. -/
import Derived.Test.YtgnoaokpahklaaaLzp
namespace Go.Proofs.Ytgnoaokpahklaaa.Lzp
open Go Go.RowKit Go.Lib Go.Proofs.Ytgnoaokpahklaaa.Lzm Go.Proofs.Ytgnoaokpahklaaa.Lzw Go.Proofs.YtgnoaokpahklaaaW.PrintWords Go.Proofs.Ytgnoaokpahklaaa.QA Go.Proofs.YtgnoaokpahklaaaW.PrintLast Go.Proofs.YtgnoaokpahklaaaW.PrintMore
set_option linter.unusedVariables false
set_option linter.unusedSimpArgs false
theorem info_i32 : (Try.prog.info? 21).map (fun i => (i.zero, i.size, i.bytes)) = some (some (.int .i32 0), 1, 4) := by kernel_rfl
theorem chains_new (S : ByteArray) (w w1 : World) (n : Nat) (hn : n = S.size) (cs : Array Value) (hcs : cs.size = 32770) (h0 : cs[0]? = some (.string S)) (hs : cs[32769]? = some (.slice (some ⟨w.heap.size, 0, none⟩) n n)) (hz : ∀ i, i < 32768 → cs[1 + i]? = some (.int .i32 0))
    (hown : w1.ownsRow w.heap.size 21 1 (.slice (some ⟨w.heap.size, 0, none⟩) n n) n (madeCells (Value.int .i32 0).cells (n * 1)).toList) (hg : w.grownBy w1 none) :
    ChainsAt (w1.alloc (.cells cs 62 (0, 0))) w1.heap.size w.heap.size S 0 ∧ w.heap.size < w1.heap.size := by
  subst hn
  rcases hown.2 with ⟨he, _⟩ | ⟨g, cap, cur, he, hbase, hheap, hnc, hcm, hcur, htake⟩
  · cases he
  · injection he with h1 h2 h3
    injection h1 with h1
    injection h1 with h1 _ _
    subst h3
    subst h1
    have hlt : w.heap.size < w1.heap.size := lt_heap hheap
    refine ⟨⟨fun _ => 0, fun _ => 0, ⟨⟨cs, cur, heap_alloc_new w1 _, (Below.heap_alloc w1 _ _ hlt).trans hheap, hcs, by rw [hcur, Nat.mul_one], h0, hs, hz, fun i hi => ?_⟩⟩, fun _ _ => rfl, fun q hq _ => by omega⟩, hlt⟩
    have h4 : (cur.toList.take (S.size * 1))[i]? = (madeCells (Value.int .i32 0).cells (S.size * 1)).toList[i]? := by rw [htake]
    rw [List.getElem?_take, if_pos (by omega), Array.getElem?_toList] at h4
    rw [h4]
    simp [madeCells, Value.cells, hi, Nat.mod_one]
theorem best_any (b g : Nat) (S : ByteArray) (at_ : Nat) (w : World) (h : ChainsAt w b g S at_) (ha : at_ ≤ S.size) (hS : S.size ≤ 1073741824) :
    Calls Try.prog 28 #[.pointer (some ⟨b, 0, none⟩), .int .i64 (at_ : Int)] w fun e w' => e = .returned (.tuple #[.int .i64 ((bestAt (gb S) S.size at_).1 : Int), .int .i64 ((bestAt (gb S) S.size at_).2 : Int)]) ∧ Below w.heap.size w w' := by
  by_cases h4 : at_ + 4 ≤ S.size
  · exact best_calls b g S at_ w h h4 hS
  · rw [bestAt_short _ _ _ (by omega)]
    obtain ⟨last, prev, hc, _, _⟩ := h
    exact best_short b g S at_ last prev w hc ha (by omega) hS
theorem add_any (b g : Nat) (S : ByteArray) (P : Nat) (w : World) (h : ChainsAt w b g S P) (hP : P < S.size) (hS : S.size ≤ 1073741824) :
    Calls Try.prog 29 #[.pointer (some ⟨b, 0, none⟩), .int .i64 (P : Int)] w fun e w' => e = .returned (.tuple #[]) ∧ AddOut w w' b g S (P + 1) := by
  by_cases h4 : P + 4 ≤ S.size
  · exact add_calls b g S P w h h4 hS
  · exact add_short b g S P w h hP (by omega) hS
theorem AddOut.kept {w w' : World} {b g : Nat} {S : ByteArray} {P : Nat} (h : AddOut w w' b g S P) : Kept w w' (fun k => k = b ∨ k = g) :=
  ⟨by rw [h.2.2.1]; exact Nat.le_refl _, fun i _ hn => h.2.2.2 i (fun e => hn (.inl e)) (fun e => hn (.inr e))⟩
theorem chains_below {w w' : World} {b g : Nat} {S : ByteArray} {P : Nat} (h : ChainsAt w b g S P) (hb : Below w.heap.size w w') : ChainsAt w' b g S P := by
  obtain ⟨last, prev, hc, hl, hp⟩ := h
  exact ⟨last, prev, hc.below hb, hl, hp⟩
theorem chains_kept {w w' : World} {b g : Nat} {S : ByteArray} {P : Nat} {F : Nat → Prop} (h : ChainsAt w b g S P) (hb : Kept w w' F) (h1 : ¬ F b) (h2 : ¬ F g) : ChainsAt w' b g S P := by
  obtain ⟨last, prev, hc, hl, hp⟩ := h
  exact ⟨last, prev, hc.keep (hb.2 b hc.lts.1 h1) (hb.2 g hc.lts.2.1 h2), hl, hp⟩
theorem step_none (S : ByteArray) (f at_ from_ : Nat) (xs : List Int) (h : bestAt (gb S) S.size at_ = (0, 0)) (hlt : at_ < S.size) (hF : S.size ≤ at_ + f ∧ packF S f at_ from_ xs = packB S ∧ xs.length ≤ 2 * from_) :
    ∃ f', S.size ≤ at_ + 1 + f' ∧ packF S f' (at_ + 1) from_ xs = packB S ∧ xs.length ≤ 2 * from_ := by
  obtain ⟨h1, h2, h3⟩ := hF
  obtain ⟨f', rfl⟩ : ∃ f', f = f' + 1 := ⟨f - 1, by omega⟩
  refine ⟨f', by omega, ?_, h3⟩
  rw [← h2]
  show _ = if at_ < S.size then _ else _
  rw [if_pos hlt, h]
  rfl
theorem step_match (S : ByteArray) (f at_ from_ n d : Nat) (xs : List Int) (h : bestAt (gb S) S.size at_ = (n, d)) (hn : n ≠ 0) (hlt : at_ < S.size) (hfa : from_ ≤ at_) (hn4 : 4 ≤ n) (hF : S.size ≤ at_ + f ∧ packF S f at_ from_ xs = packB S ∧ xs.length ≤ 2 * from_) :
    ∃ f', S.size ≤ at_ + n + f' ∧ packF S f' (at_ + n) (at_ + n) (xs ++ litB (bytesOf (S.extract from_ at_)) ++ matB n d) = packB S ∧ (xs ++ litB (bytesOf (S.extract from_ at_)) ++ matB n d).length ≤ 2 * (at_ + n) := by
  obtain ⟨h1, h2, h3⟩ := hF
  obtain ⟨f', rfl⟩ : ∃ f', f = f' + 1 := ⟨f - 1, by omega⟩
  refine ⟨f', by omega, ?_, ?_⟩
  · rw [← h2]
    show _ = if at_ < S.size then _ else _
    rw [if_pos hlt, h]
    show _ = if n = 0 then _ else _
    rw [if_neg hn]
  · have := litB_len _ (bytesOf (S.extract from_ at_)) (Nat.le_refl _)
    rw [bytesOf_length, ByteArray.size_extract] at this
    rw [List.length_append, List.length_append]
    have h5 : (matB n d).length = 3 := rfl
    omega
theorem pack_end (S : ByteArray) (f at_ from_ : Nat) (xs : List Int) (hlt : ¬ at_ < S.size) (hF : S.size ≤ at_ + f ∧ packF S f at_ from_ xs = packB S ∧ xs.length ≤ 2 * from_) : xs ++ litB (bytesOf (S.extract from_ S.size)) = packB S := by
  rw [← hF.2.1]
  cases f with
  | zero => rfl
  | succ f =>
    show _ = if at_ < S.size then _ else _
    rw [if_neg hlt]
set_option maxRecDepth 100000 in
set_option maxHeartbeats 2000000 in
theorem pack_calls (S : ByteArray) (w : World) (hS : S.size ≤ 1073741824) :
    Calls Try.prog 13 #[.string S] w fun e w' => e = .returned (.string (strOfNums (packB S))) ∧ Below w.heap.size w w' := by
  obtain ⟨i0, hi, hz0, hz1, hz2⟩ := info_parts info_i32
  obtain ⟨cs, hb1, hb2, hb3, hb4, hb5⟩ := built_chains S (some ⟨w.heap.size, 0, none⟩) S.size S.size
  have HB1 := Lib.hid hb1
  have HB2 := Lib.hid hb2
  have HB3 := Lib.hid hb3
  have HB4 := Lib.hid hb4
  have HB5 := Lib.hid hb5
  clear hb1 hb2 hb3 hb4 hb5
  go_enter Try.func13, Try.ntmps13
  go_wp2_with (at_make; refine wpList_make_full _ rfl _ _ 59 rfl w.heap.size 21 i0 (.int .i32 0) 1 Try.underlying59 hi hz0 hz1 .i64 .i64 _ _ S.size rfl rfl rfl rfl (by rw [hz2]; omega) (by unfold maxLen; omega) (Nat.le_refl _) ?_; intro w1 hown1 hg1; refine step_build rfl 62 0 2 (.tmp 11) (.tmp 14) rfl (.string S) (.slice (some ⟨w.heap.size, 0, none⟩) S.size S.size) rfl rfl cs HB1.out ?_; refine step_box rfl 62 (.tmp 15) rfl cs rfl ?_; obtain ⟨hch, hlt1⟩ := chains_new S w w1 S.size rfl cs HB2.out HB3.out HB4.out HB5.out hown1 hg1; have hbe : Below w.heap.size w (w1.alloc (.cells cs 62 (0, 0))) := ((Below.refl _ w).grown hg1 (Nat.le_refl _) (fun k hk => by cases hk)).alloc (Nat.le_of_lt hlt1) _; clear hown1 hz0 hz1 hz2 hi hg1; obtain ⟨W2, hW2⟩ : ∃ W2, w1.alloc (.cells cs 62 (0, 0)) = W2 := ⟨_, rfl⟩; rw [hW2] at hch hbe ⊢; clear hW2 HB1 HB2 HB3 HB4 HB5; generalize w1.heap.size = cb at *)
  have hgc : cb ≠ w.heap.size := by
    obtain ⟨_, _, hc, _⟩ := hch
    exact hc.lts.2.2
  go_loopw [4, 5, 6] (fun x4 x5 x6 wr => ∃ (at_ from_ f : Nat) (xs : List Int), from_ ≤ at_ ∧ at_ ≤ S.size ∧ x5 = .int .i64 (from_ : Int) ∧ x6 = .int .i64 (at_ : Int) ∧ Hid (S.size ≤ at_ + f ∧ packF S f at_ from_ xs = packB S ∧ xs.length ≤ 2 * from_) ∧ Hid (ChainsAt wr cb w.heap.size S at_) ∧ Hid (Kd.R (Kd.int .u8) 5 wr w.heap.size (fun k => k ≠ cb ∧ k ≠ w.heap.size) x4 xs) ∧ Hid (Below w.heap.size w wr)) (fun _ _ x6 _ => S.size - (intOf x6).toNat)
  case atStart => exact ⟨0, 0, S.size, [], Nat.le_refl _, Nat.zero_le _, rfl, rfl, Lib.hid ⟨by omega, rfl, by simp⟩, Lib.hid hch, Lib.hid (Kd.R_nil _ _ _ _ _), Lib.hid hbe⟩
  case round =>
    clear hbe hch
    obtain ⟨at_, from_, f, xs, hfa, has, rfl, rfl, hF, hC, hR, hB⟩ := hrel
    by_cases hlt : at_ < S.size
    · obtain ⟨nd, hnd⟩ : ∃ nd, bestAt (gb S) S.size at_ = nd := ⟨_, rfl⟩
      obtain ⟨n, d⟩ := nd
      have hbc := best_any cb w.heap.size S at_ wr hC.out has hS
      rw [hnd] at hbc
      have hbc2 : Calls Try.prog 28 #[.pointer (some ⟨cb, 0, none⟩), .int .i64 (at_ : Int)] wr fun e w' => e = .returned (.tuple #[.int .i64 (n : Int), .int .i64 (d : Int)]) ∧ Below wr.heap.size wr w' := hbc
      have HC := Lib.hid hbc2
      have HND := Lib.hid hnd
      clear hbc hbc2 hnd
      have hN := best_zero (gb S) S.size at_ 4 (by omega) (min at_ 8192)
      have hM := best_le (gb S) S.size at_ 4 (min at_ 8192)
      have hnd2 : best (gb S) S.size at_ 4 (min at_ 8192) = (n, d) := HND.out
      rw [hnd2] at hN hM
      have hn1 : n ≤ 131 := hM.1
      have hn2 : n ≤ S.size - at_ := hM.2.1
      have hd1 : d ≤ min at_ 8192 := hM.2.2
      have hN' : (n = 0 ∧ d = 0) ∨ (4 ≤ n ∧ 1 ≤ d) := by
        rcases hN with h | h
        · exact .inl h
        · exact .inr ⟨h.1, h.2.1⟩
      clear hN hM hnd2
      rcases hN' with ⟨rfl, rfl⟩ | ⟨h4, h1⟩
      · go_wp2_with fail
        refine HC.out.mono ?_
        rintro e w3 ⟨rfl, hb3⟩
        go_wp2_with fail
        have hC3 := Lib.hid (chains_below hC.out hb3)
        have hR3 := Lib.hid (Kd.R_kept hR.out (Kept.of_below hb3 (fun k => k = cb ∨ k = w.heap.size)) (fun k hk e => Or.elim e hk.1 hk.2))
        have hB3 := Lib.hid (below_then hB.out hB.out.size hb3)
        clear hb3
        go_loopw [30] (fun x30 wr2 => ∃ k : Nat, k ≤ 1 ∧ x30 = .int .i64 (k : Int) ∧ Hid (ChainsAt wr2 cb w.heap.size S (at_ + k)) ∧ Hid (Kd.R (Kd.int .u8) 5 wr2 w.heap.size (fun k => k ≠ cb ∧ k ≠ w.heap.size) u4 xs) ∧ Hid (Below w.heap.size w wr2)) (fun x30 _ => 1 - (intOf x30).toNat)
        case atStart => exact ⟨0, Nat.zero_le _, rfl, hC3, hR3, hB3⟩
        case round =>
          obtain ⟨k, hk, rfl, hC4, hR4, hB4⟩ := hrel
          clear hC3 hR3 hB3
          by_cases hkn : k < 1
          · have hadd := add_any cb w.heap.size S (at_ + k) wr hC4.out (by omega) hS
            rw [Int.natCast_add] at hadd
            have HA := Lib.hid hadd
            clear hadd
            go_wp2_with fail
            refine HA.out.mono ?_
            rintro e w5 ⟨rfl, ho⟩
            have hC5 := Lib.hid ho.1
            have hR5 := Lib.hid (Kd.R_kept hR4.out (AddOut.kept (show AddOut wr w5 cb w.heap.size S (at_ + k + 1) from ho)) (fun k hk e => Or.elim e hk.1 hk.2))
            have hB5 := Lib.hid (ho.2.1 _ _ hB4.out (Nat.le_of_lt hlt1) (Nat.le_refl _))
            clear ho
            go_wp2
            exact ⟨⟨k + 1, by omega, by go_num, hC5, hR5, hB5⟩, by simp [intOf]; omega⟩
          · have hkn' : k = 1 := by omega
            subst hkn'
            obtain ⟨f', hF'⟩ := step_none S f at_ from_ xs HND.out hlt hF.out
            go_wp2
            exact ⟨⟨at_ + 1, from_, f', xs, by omega, by omega, rfl, by go_num, Lib.hid hF', hC4, hR4, hB4⟩, by simp [intOf]; omega⟩
      · have hmx : decide ((n : Int) < 1) = false := by simp; omega
        go_wp2_with fail
        refine HC.out.mono ?_
        rintro e w3 ⟨rfl, hb3⟩
        go_wp2_with fail
        have hC3 := Lib.hid (chains_below hC.out hb3)
        have hR3 := Lib.hid (Kd.R_kept hR.out (Kept.of_below hb3 (fun k => k = cb ∨ k = w.heap.size)) (fun k hk e => Or.elim e hk.1 hk.2))
        have hB3 := Lib.hid (below_then hB.out hB.out.size hb3)
        clear hb3
        go_loopw [30] (fun x30 wr2 => ∃ k : Nat, k ≤ n ∧ x30 = .int .i64 (k : Int) ∧ Hid (ChainsAt wr2 cb w.heap.size S (at_ + k)) ∧ Hid (Kd.R (Kd.int .u8) 5 wr2 w.heap.size (fun k => k ≠ cb ∧ k ≠ w.heap.size) u4 xs) ∧ Hid (Below w.heap.size w wr2)) (fun x30 _ => n - (intOf x30).toNat)
        case atStart => exact ⟨0, Nat.zero_le _, rfl, hC3, hR3, hB3⟩
        case round =>
          obtain ⟨k, hk, rfl, hC4, hR4, hB4⟩ := hrel
          clear hC3 hR3 hB3
          by_cases hkn : k < n
          · have hadd := add_any cb w.heap.size S (at_ + k) wr hC4.out (by omega) hS
            rw [Int.natCast_add] at hadd
            have HA := Lib.hid hadd
            clear hadd
            go_wp2_with fail
            refine HA.out.mono ?_
            rintro e w5 ⟨rfl, ho⟩
            have hC5 := Lib.hid ho.1
            have hR5 := Lib.hid (Kd.R_kept hR4.out (AddOut.kept (show AddOut wr w5 cb w.heap.size S (at_ + k + 1) from ho)) (fun k hk e => Or.elim e hk.1 hk.2))
            have hB5 := Lib.hid (ho.2.1 _ _ hB4.out (Nat.le_of_lt hlt1) (Nat.le_refl _))
            clear ho
            go_wp2
            exact ⟨⟨k + 1, by omega, by go_num, hC5, hR5, hB5⟩, by simp [intOf]; omega⟩
          · have hkn' : k = n := by omega
            subst hkn'
            obtain ⟨f', hF'⟩ := step_match S f at_ from_ k d xs HND.out (by omega) hlt hfa h4 hF.out
            have hl1 : cb < wr.heap.size ∧ w.heap.size < wr.heap.size := by
              obtain ⟨_, _, hc, _⟩ := hC4.out
              exact ⟨hc.lts.1, hc.lts.2.1⟩
            have hxs := hF.out.2.2
            have hll := litB_len _ (bytesOf (S.extract from_ at_)) (Nat.le_refl _)
            rw [bytesOf_length, ByteArray.size_extract] at hll
            obtain ⟨kl, hkl⟩ := Ev.rounds (literals_ev (S.extract from_ at_) xs (by rw [ByteArray.size_extract]; omega))
            have hm := match_some (xs ++ litB (bytesOf (S.extract from_ at_))) k d h4 hn1 (by omega) (by rw [List.length_append]; omega)
            have HF' := Lib.hid hF'
            clear hF' hxs hll
            generalize litB (bytesOf (S.extract from_ at_)) = lit at *
            have HM := Lib.hid hm
            have HKL := Lib.hid hkl
            clear hm hkl
            go_wp2_with fail
            refine (lz_literals.calls kl (fun k => k ≠ cb ∧ k ≠ w.heap.size) u4 xs (S.extract from_ at_) (xs ++ lit) w wr hB4.out hR4.out HKL.out).mono ?_
            rintro e w6 ⟨v6, rfl, hR6, hB6, hK6⟩
            have hC6 := chains_kept hC4.out hK6 (fun h => h.1 rfl) (fun h => h.2 rfl)
            have hR6' : Kd.R (Kd.int .u8) 5 w6 w.heap.size (fun k => k ≠ cb ∧ k ≠ w.heap.size) v6 (xs ++ lit) := Kd.R_mono hR6 (fun k hk => hk.elim id (fun h => ⟨by omega, by omega⟩))
            have hz6 := hK6.1
            have HC6 := Lib.hid hC6
            have HR6 := Lib.hid hR6'
            have HB6 := Lib.hid hB6
            clear hC6 hR6 hR6' hB6 hK6
            go_wp2_with fail
            refine (lz_match.calls (fun k => k ≠ cb ∧ k ≠ w.heap.size) v6 (xs ++ lit) k d _ w w6 HB6.out HR6.out HM.out).mono ?_
            rintro e w7 ⟨v7, rfl, hR7, hB7, hK7⟩
            have hC7 := Lib.hid (chains_kept HC6.out hK7 (fun h => h.1 rfl) (fun h => h.2 rfl))
            have hR7' : Kd.R (Kd.int .u8) 5 w7 w.heap.size (fun k => k ≠ cb ∧ k ≠ w.heap.size) v7 (xs ++ lit ++ matB k d) := Kd.R_mono hR7 (fun k hk => hk.elim id (fun h => ⟨by omega, by omega⟩))
            have HR7 := Lib.hid hR7'
            have HB7 := Lib.hid hB7
            clear hR7 hR7' hB7 hK7
            go_wp2
            exact ⟨⟨at_ + k, at_ + k, f', xs ++ lit ++ matB k d, Nat.le_refl _, by omega, by go_num, by go_num, HF', hC7, HR7, HB7⟩, by simp [intOf]; omega⟩
    · have hend := pack_end S f at_ from_ xs hlt hF.out
      have hats : at_ = S.size := by omega
      have hxs := hF.out.2.2
      obtain ⟨kl, hkl⟩ := Ev.rounds (literals_ev (S.extract from_ S.size) xs (by rw [ByteArray.size_extract]; omega))
      rw [hend] at hkl
      have HKL := Lib.hid hkl
      have HAT := Lib.hid hats
      clear hkl hend hxs hats
      go_wp2_with fail
      refine (lz_literals.calls kl (fun k => k ≠ cb ∧ k ≠ w.heap.size) u4 xs (S.extract from_ S.size) (packB S) w wr hB.out hR.out HKL.out).mono ?_
      rintro e w6 ⟨v6, rfl, hR6, hB6, hK6⟩
      have hown := Kd.own_of_R hR6
      have hconv : (convert 55 9 v6).run Try.prog w6 = .ok (.string (strOfNums (packB S))) w6 := own_string Try.underlying55 Try.underlying5 Try.underlying9 hown
      have HB6 := Lib.hid hB6
      clear hR6 hB6 hK6 hown
      go_wp2
      go_ret
      exact ⟨rfl, HB6.out⟩
end Go.Proofs.Ytgnoaokpahklaaa.Lzp
