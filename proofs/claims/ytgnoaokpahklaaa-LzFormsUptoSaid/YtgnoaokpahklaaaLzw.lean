/- The chains of layer 4: what they are in memory, and what each of their calls makes of them. -/
import Derived.Test.YtgnoaokpahklaaaQAx1
import Derived.Test.YtgnoaokpahklaaaLzm
import Derived.WalkKit
import Derived.Below
import Derived.Lib.Hide
import Derived.Laws.Rows
import Derived.Laws.Tables
import Derived.WalkLawsBesides
import Derived.WalkSpells
import Derived.RegionTactic
import Derived.ChangeAlike
import Derived.Outline
import Derived.OneCell
import Derived.Deep.QuietTactic
import Derived.BigQuiet
import Derived.StillTailTactics
import Derived.IntWalk
namespace Go.Proofs.Ytgnoaokpahklaaa.Lzw
open Go Go.RowKit Go.Lib Go.Proofs.Ytgnoaokpahklaaa.Lzm Go.Proofs.YtgnoaokpahklaaaW.PrintWords Go.Proofs.Ytgnoaokpahklaaa.QA Go.Proofs.YtgnoaokpahklaaaW.PrintLast Go.Proofs.YtgnoaokpahklaaaW.PrintMore
set_option linter.unusedVariables false
set_option linter.unusedSimpArgs false

/-- The bytes of a text, as numbers. -/
def gb (S : ByteArray) (i : Nat) : Int := bt S (i : Int)
theorem gb_at (S : ByteArray) (i : Nat) (h : i < S.size) : ((S[i]'h).toNat : Int) = gb S i := bt_at S (i : Int) h
/-- The sum of four bytes, as the program makes it. -/
def sumI (c0 c1 c2 c3 : Int) : Int :=
  bits .or .u32 (bits .or .u32 (bits .or .u32 (c0 % 4294967296) (c1 % 4294967296 * 256 % 4294967296)) (c2 % 4294967296 * 65536 % 4294967296)) (c3 % 4294967296 * 16777216 % 4294967296) * 2654435761 % 4294967296 / 131072
def hN (S : ByteArray) (i : Nat) : Nat := (sumI (gb S i) (gb S (i + 1)) (gb S (i + 2)) (gb S (i + 3))).toNat
theorem sumI_range (a b c d : Int) : 0 ≤ sumI a b c d ∧ sumI a b c d < 32768 := by
  unfold sumI
  omega
theorem hN_lt (S : ByteArray) (i : Nat) : hN S i < 32768 := by
  have := sumI_range (gb S i) (gb S (i + 1)) (gb S (i + 2)) (gb S (i + 3))
  unfold hN; omega
theorem hN_int (S : ByteArray) (i : Nat) : ((hN S i : Nat) : Int) = sumI (gb S i) (gb S (i + 1)) (gb S (i + 2)) (gb S (i + 3)) := by
  have := sumI_range (gb S i) (gb S (i + 1)) (gb S (i + 2)) (gb S (i + 3))
  unfold hN; omega
theorem sums (S : ByteArray) : Sums (gb S) (hN S) S.size := by
  intro q p _ _ h
  unfold hN
  have h0 := h 0 (by omega); have h1 := h 1 (by omega); have h2 := h 2 (by omega); have h3 := h 3 (by omega)
  rw [Nat.add_zero, Nat.add_zero] at h0
  rw [h0, h1, h2, h3]
theorem ret_u32 {a b : Int} (h : a = b) : Ending.returned (.int .u32 a) = .returned (.int .u32 b) := by rw [h]

set_option maxRecDepth 100000 in
theorem sum_calls (b : Nat) (S : ByteArray) (at_ : Nat) (w : World) (c0 : w.cell? ⟨b, 0, none⟩ = some (.string S)) (ha : at_ + 4 ≤ S.size) (hS : S.size ≤ 140737488355328) :
    Calls Try.prog 36 #[.pointer (some ⟨b, 0, none⟩), .int .i64 (at_ : Int)] w fun e w' => e = .returned (.int .u32 ((hN S at_ : Nat) : Int)) ∧ ∃ n, w' = w.drewN n := by
  have ha0 : at_ < S.size := by omega
  have ha1 : at_ + 1 < S.size := by omega
  have ha2 : at_ + 2 < S.size := by omega
  have ha3 : at_ + 3 < S.size := by omega
  go_enter Try.func36, Try.ntmps36
  go_wp2
  have e1 : IntKind.i64.wrap ((at_ : Int) + 1) = at_ + 1 := IntWalk.i64_in _ (by omega)
  have e2 : IntKind.i64.wrap ((at_ : Int) + 2) = at_ + 2 := IntWalk.i64_in _ (by omega)
  have e3 : IntKind.i64.wrap ((at_ : Int) + 3) = at_ + 3 := IntWalk.i64_in _ (by omega)
  have n1 : 0 ≤ (at_ : Int) + 1 := by omega
  have n2 : 0 ≤ (at_ : Int) + 2 := by omega
  have n3 : 0 ≤ (at_ : Int) + 3 := by omega
  have t1 : ((at_ : Int) + 1).toNat = at_ + 1 := by omega
  have t2 : ((at_ : Int) + 2).toNat = at_ + 2 := by omega
  have t3 : ((at_ : Int) + 3).toNat = at_ + 3 := by omega
  have m1 : (at_ : Int) + 1 < (S.size : Int) := by omega
  have m2 : (at_ : Int) + 2 < (S.size : Int) := by omega
  have m3 : (at_ : Int) + 3 < (S.size : Int) := by omega
  go_quiet (fail)
  go_wp2
  go_ret
  refine ⟨ret_u32 ?_, _, rfl⟩
  rw [hN_int, ← gb_at S at_ ha0, ← gb_at S (at_ + 1) ha1, ← gb_at S (at_ + 2) ha2, ← gb_at S (at_ + 3) ha3]
  rfl
theorem wrap_id {x : Int} (h0 : -9223372036854775808 ≤ x) (h1 : x ≤ 9223372036854775807) : wrap64 x = x := by unfold wrap64; omega
theorem alike_ev (S : ByteArray) (hS : S.size ≤ 140737488355328) (q p : Nat) (hq : q < p) (hp : p ≤ S.size) : Ev (fun k => lz_alike.f k S (q : Int) (p : Int)) ((aln (gb S) S.size q p : Nat) : Int) := by
  have key : ∀ (d n : Nat), n + d = aln (gb S) S.size q p → Ev (fun k => lz_alike.l0 k S (q : Int) (p : Int) (n : Int) ((min (S.size - p) 131 : Nat) : Int)) ((aln (gb S) S.size q p : Nat) : Int) := by
    intro d
    induction d with
    | zero =>
      intro n hn
      have hle := aln_le (gb S) S.size q p
      refine Ev.step (f := fun _ => some (n : Int)) (fun k => ?_) (by rw [← hn, Nat.add_zero]; exact Ev.now _)
      rw [lz_alike.l0]
      by_cases hM : n < min (S.size - p) 131
      · rw [if_pos (by omega), wrap_id (by omega) (by omega), wrap_id (by omega) (by omega), if_pos (by omega), if_pos (by omega), if_pos (by omega), if_pos (by omega)]
        have hst := al_stop (gb S) (min (S.size - p) 131) q p (by unfold aln at hn; omega)
        have e : al (gb S) (min (S.size - p) 131) q p = n := by unfold aln at hn; omega
        rw [e] at hst
        rw [if_neg (by rw [← Int.natCast_add, ← Int.natCast_add]; exact hst)]
      · rw [if_neg (by omega)]
    | succ d ih =>
      intro n hn
      have hle := aln_le (gb S) S.size q p
      refine Ev.step (f := fun k => lz_alike.l0 k S (q : Int) (p : Int) ((n + 1 : Nat) : Int) ((min (S.size - p) 131 : Nat) : Int)) (fun k => ?_) (ih (n + 1) (by omega))
      rw [lz_alike.l0, if_pos (by omega), wrap_id (by omega) (by omega), wrap_id (by omega) (by omega), wrap_id (by omega) (by omega), if_pos (by omega), if_pos (by omega), if_pos (by omega), if_pos (by omega)]
      have hg := al_get (gb S) (min (S.size - p) 131) q p n (by unfold aln at hn; omega)
      rw [if_pos (by rw [← Int.natCast_add, ← Int.natCast_add]; exact hg)]
      rfl
  have h := key _ 0 (Nat.zero_add _)
  refine Ev.congr (fun k => ?_) h
  unfold lz_alike.f
  rw [wrap_id (by omega) (by omega)]
  congr 1
  unfold mn; omega
/-- A number that fits into an int32. -/
theorem i32_in {x : Int} (h0 : 0 ≤ x) (h1 : x ≤ 2147483647) : IntKind.i32.wrap x = x := by rw [IntKind.wrap_i32]; omega

/-- The chains in block b: the text, the last place of each sum, the slice of the places ahead. -/
structure ChAt (w : World) (b g : Nat) (S : ByteArray) (last prev : Nat → Nat) : Prop where
  ex : ∃ cs ps, w.heap[b]? = some (.cells cs 62 (0, 0)) ∧ w.heap[g]? = some (.cells ps 21 (0, 0)) ∧ cs.size = 32770 ∧ ps.size = S.size ∧ cs[0]? = some (.string S) ∧ cs[32769]? = some (.slice (some ⟨g, 0, none⟩) S.size S.size) ∧
    (∀ h, h < 32768 → cs[1 + h]? = some (.int .i32 (last h : Int))) ∧ (∀ i, i < S.size → ps[i]? = some (.int .i32 (prev i : Int)))
theorem ChAt.keep {w w' : World} {b g : Nat} {S : ByteArray} {last prev : Nat → Nat} (h : ChAt w b g S last prev) (hb : w'.heap[b]? = w.heap[b]?) (hg : w'.heap[g]? = w.heap[g]?) : ChAt w' b g S last prev := by
  obtain ⟨cs, ps, h1, h2, h3⟩ := h.ex
  exact ⟨⟨cs, ps, hb.trans h1, hg.trans h2, h3⟩⟩
theorem lt_heap {w : World} {b : Nat} {o : Obj} (h : w.heap[b]? = some o) : b < w.heap.size := (Array.getElem?_eq_some_iff.1 h).1
theorem ChAt.lts {w : World} {b g : Nat} {S : ByteArray} {last prev : Nat → Nat} (h : ChAt w b g S last prev) : b < w.heap.size ∧ g < w.heap.size ∧ b ≠ g := by
  obtain ⟨cs, ps, h1, h2, _⟩ := h.ex
  refine ⟨lt_heap h1, lt_heap h2, ?_⟩
  rintro rfl
  rw [h1] at h2
  injection h2 with h2
  injection h2 with _ h2
  exact absurd h2 (by decide)
theorem ChAt.c0 {w : World} {b g : Nat} {S : ByteArray} {last prev : Nat → Nat} (h : ChAt w b g S last prev) : w.cell? ⟨b, 0, none⟩ = some (.string S) := by
  obtain ⟨cs, ps, h1, h2, _, _, h3, _⟩ := h.ex
  rw [cell_of_row w b 0 cs _ _ h1]; exact h3
theorem ChAt.cs {w : World} {b g : Nat} {S : ByteArray} {last prev : Nat → Nat} (h : ChAt w b g S last prev) : w.cell? ⟨b, 32769, none⟩ = some (.slice (some ⟨g, 0, none⟩) S.size S.size) := by
  obtain ⟨cs, ps, h1, h2, _, _, _, h3, _⟩ := h.ex
  rw [cell_of_row w b 32769 cs _ _ h1]; exact h3
theorem ChAt.cl {w : World} {b g : Nat} {S : ByteArray} {last prev : Nat → Nat} (h : ChAt w b g S last prev) (i : Nat) (hi : i < 32768) : w.cell? ⟨b, 1 + i, none⟩ = some (.int .i32 (last i : Int)) := by
  obtain ⟨cs, ps, h1, h2, _, _, _, _, h3, _⟩ := h.ex
  rw [cell_of_row w b (1 + i) cs _ _ h1]; exact h3 i hi
theorem ChAt.cp {w : World} {b g : Nat} {S : ByteArray} {last prev : Nat → Nat} (h : ChAt w b g S last prev) (i : Nat) (hi : i < S.size) : w.cell? ⟨g, i, none⟩ = some (.int .i32 (prev i : Int)) := by
  obtain ⟨cs, ps, h1, h2, _, _, _, _, _, h3⟩ := h.ex
  rw [cell_of_row w g i ps _ _ h2]; exact h3 i hi
theorem ChAt.fr {w : World} {b g : Nat} {S : ByteArray} {last prev : Nat → Nat} (h : ChAt w b g S last prev) (i : Nat) : w.frozen? ⟨b, i, none⟩ = false ∧ w.frozen? ⟨g, i, none⟩ = false := by
  obtain ⟨cs, ps, h1, h2, _⟩ := h.ex
  exact ⟨by simp [World.frozen?, h1], by simp [World.frozen?, h2]⟩
theorem ChAt.below {w w' : World} {b g : Nat} {S : ByteArray} {last prev : Nat → Nat} (h : ChAt w b g S last prev) (hb : Below w.heap.size w w') : ChAt w' b g S last prev :=
  h.keep (hb.block b h.lts.1) (hb.block g h.lts.2.1)
/-- The chains behind the first P places. -/
def ChainsAt (w : World) (b g : Nat) (S : ByteArray) (P : Nat) : Prop := ∃ last prev, ChAt w b g S last prev ∧ (∀ h, h < 32768 → last h = lastB (hN S) S.size h P) ∧ (∀ q, q < P → q + 4 ≤ S.size → prev q = lastB (hN S) S.size (hN S q) q)
theorem info60 : (Try.prog.info? 60).map (fun i => i.size) = some 32768 := by kernel_rfl
theorem size60 : ∃ i, Try.prog.info? 60 = some i ∧ i.size = 32768 := by
  obtain ⟨i, hi, hs⟩ := Option.map_eq_some_iff.1 info60
  exact ⟨i, hi, hs⟩
theorem fa1 (b : Nat) (w : World) : (Instr.fieldAt 62 (.pointer (some ⟨b, 0, none⟩)) 1).run Try.prog w = Result.ok (.pointer (some ⟨b, 1, none⟩)) w := by
  obtain ⟨i60, hi60, hs60⟩ := size60
  simp [Instr.fieldAt, run_underlying Try.underlying62, Instr.sureAddr, fieldPlace, sizeOf, typeInfo, hi60, hs60, Addr.add]
theorem below_drewN {B : Nat} {a b : World} (h : Below B a b) (n : Nat) : Below B a (b.drewN n) := pw_below_drewN h n
theorem ret_tup {a b c d : Int} (h : a = c) (h' : b = d) : Ending.returned (.tuple #[.int .i64 a, .int .i64 b]) = .returned (.tuple #[.int .i64 c, .int .i64 d]) := by rw [h, h']

set_option maxRecDepth 100000 in
theorem best_short (b g : Nat) (S : ByteArray) (at_ : Nat) (last prev : Nat → Nat) (w : World) (h : ChAt w b g S last prev) (ha : at_ ≤ S.size) (h4 : S.size < at_ + 4) (hS : S.size ≤ 1073741824) :
    Calls Try.prog 28 #[.pointer (some ⟨b, 0, none⟩), .int .i64 (at_ : Int)] w fun e w' => e = .returned (.tuple #[.int .i64 0, .int .i64 0]) ∧ Below w.heap.size w w' := by
  have c0 := h.c0
  go_enter Try.func28, Try.ntmps28
  go_wp2
  go_ret2
  exact ⟨rfl, Below.refl _ _⟩
set_option maxRecDepth 100000 in
set_option maxHeartbeats 1000000 in
theorem best_calls (b g : Nat) (S : ByteArray) (at_ : Nat) (w : World) (h : ChainsAt w b g S at_) (h4 : at_ + 4 ≤ S.size) (hS : S.size ≤ 1073741824) :
    Calls Try.prog 28 #[.pointer (some ⟨b, 0, none⟩), .int .i64 (at_ : Int)] w fun e w' => e = .returned (.tuple #[.int .i64 ((bestAt (gb S) S.size at_).1 : Int), .int .i64 ((bestAt (gb S) S.size at_).2 : Int)]) ∧ Below w.heap.size w w' := by
  obtain ⟨last, prev, hc, hl, hp⟩ := h
  have c0 := hc.c0
  go_enter Try.func28, Try.ntmps28
  go_wp2
  have HL := Lib.hid hl
  have HP := Lib.hid hp
  clear hl hp
  obtain ⟨H, hH⟩ : ∃ H, H = hN S at_ := ⟨_, rfl⟩
  have hlt : H < 32768 := by rw [hH]; exact hN_lt S at_
  have cl : w.cell? ⟨b, 1 + H, none⟩ = some (.int .i32 ((last H : Nat) : Int)) := hc.cl H hlt
  have hlt' : ((H : Nat) : Int) < 32768 := by omega
  have hbd : last H ≤ at_ := by rw [HL.out _ hlt]; exact lastB_le _ _ _ _
  have ew : IntKind.i64.wrap (((last H : Nat) : Int) - 1) = ((last H : Nat) : Int) - 1 := IntWalk.i64_in _ (by omega)
  have HH := Lib.hid hH
  clear hH
  go_quiet ((go_at_call 36; exact Calls.quiet_of (v := .int .u32 ((H : Nat) : Int)) (by rw [HH.out]; exact sum_calls b S at_ _ c0 h4 (by omega))))
  have hq1 : last H = lastB (hN S) S.size (hN S at_) at_ := by rw [HL.out _ hlt, HH.out]
  have hst := chain_start (gb S) (hN S) S.size at_ (sums S) h4
  rw [← hq1] at hst
  have HQ := Lib.hid hq1
  have HST := Lib.hid hst
  clear hq1 hst cl ew HL
  generalize last H = q0 at *
  go_wp2
  go_loopw [4, 5, 6] (fun x4 x5 x6 wr => ∃ (q1 n d : Nat), q1 ≤ at_ ∧ x6 = .int .i64 ((q1 : Int) - 1) ∧ x4 = .int .i64 (n : Int) ∧ x5 = .int .i64 (d : Int) ∧ Hid (best (gb S) S.size at_ 4 (min (at_ - q1) 8192) = (n, d)) ∧ Hid (q1 = 0 ∨ ∃ q, q1 = q + 1 ∧ q + 4 ≤ S.size ∧ hN S q = hN S at_) ∧ Below w.heap.size w wr) (fun _ _ x6 _ => (intOf x6 + 1).toNat)
  case atStart => exact ⟨q0, 0, 0, hbd, rfl, rfl, rfl, Lib.hid HST.out, Lib.hid (by
    cases hq : q0 with
    | zero => exact .inl rfl
    | succ q =>
      right
      exact ⟨q, rfl, lastB_is (hN S) S.size _ at_ q (by rw [← HQ.out, hq])⟩), below_drewN (Below.refl _ _) _⟩
  case round =>
    obtain ⟨q1, n, d, hq1, rfl, rfl, rfl, hb, hc4, hB⟩ := hrel
    have hB' := Lib.hid hB
    have hcr : ChAt wr b g S last prev := hc.keep (hB.block b hc.lts.1) (hB.block g hc.lts.2.1)
    clear hB
    by_cases h0 : q1 = 0
    · subst h0
      have t1 : (((0 : Nat) : Int) - 1 ≥ 0) = False := by simp
      go_wp2
      go_ret2
      refine ⟨?_, hB'.out⟩
      have := hb.out
      rw [Nat.sub_zero] at this
      unfold bestAt; rw [this]; rfl
    · obtain ⟨q, rfl⟩ : ∃ q, q1 = q + 1 := ⟨q1 - 1, by omega⟩
      obtain ⟨hq4, hqh⟩ : q + 4 ≤ S.size ∧ hN S q = hN S at_ := by
        rcases hc4.out with h | ⟨q', e, h1, h2⟩
        · omega
        · obtain rfl : q = q' := by omega
          exact ⟨h1, h2⟩
      have HQH := Lib.hid hqh
      clear hqh hc4 h0
      have eq1 : (((q + 1 : Nat) : Int) - 1) = (q : Int) := by omega
      rw [eq1]
      by_cases h8 : 8192 < at_ - q
      · have t2 : decide ((at_ : Int) - q ≤ 8192) = false := by simp; omega
        go_wp2
        go_ret2
        refine ⟨?_, hB'.out⟩
        have := hb.out
        rw [show min (at_ - (q + 1)) 8192 = min at_ 8192 from by omega] at this
        unfold bestAt; rw [this]; rfl
      · have t2 : decide ((at_ : Int) - q ≤ 8192) = true := by simp; omega
        by_cases h131 : 131 ≤ n
        · have t3 : decide ((n : Int) < 131) = false := by simp; omega
          go_wp2
          go_ret2
          refine ⟨?_, hB'.out⟩
          have hbb := hb.out
          have hle := best_le (gb S) S.size at_ 4 (min (at_ - (q + 1)) 8192)
          have := best_full' (gb S) S.size at_ 4 (min (at_ - (q + 1)) 8192) (min at_ 8192) (by rw [hbb] at hle ⊢; show n = 131; have : n ≤ 131 := hle.1; omega) (by omega)
          unfold bestAt; rw [this, hbb]; rfl
        · have t3 : decide ((n : Int) < 131) = true := by simp; omega
          obtain ⟨kr, hkr⟩ := Ev.rounds (alike_ev S (by omega) q at_ (by omega) (by omega))
          have hpq : prev q ≤ q := by rw [HP.out q (by omega) hq4]; exact lastB_le _ _ _ _
          have hnx := chain_next (gb S) (hN S) S.size at_ q (sums S) h4 (by omega) HQH.out (by omega)
          rw [← HP.out q (by omega) hq4, hb.out] at hnx
          have hlb : prev q = 0 ∨ ∃ q', prev q = q' + 1 ∧ q' + 4 ≤ S.size ∧ hN S q' = hN S at_ := by
            cases hq : prev q with
            | zero => exact .inl rfl
            | succ q' =>
              right
              have := lastB_is (hN S) S.size (hN S q) q q' (by rw [← HP.out q (by omega) hq4, hq])
              exact ⟨q', rfl, this.1, this.2.trans HQH.out⟩
          have cp : wr.cell? ⟨g, q, none⟩ = some (.int .i32 ((prev q : Nat) : Int)) := hcr.cp q (by omega)
          have HLB := Lib.hid hlb
          have HNX := Lib.hid hnx
          clear hlb hnx
          generalize hr : aln (gb S) S.size q at_ = r at *
          have HR := Lib.hid hr
          clear hr
          have hqs : q < S.size := by omega
          have hqs' : (q : Int) < (S.size : Int) := by omega
          have c0r := hcr.c0
          have csr := hcr.cs
          generalize hpv : prev q = pq at *
          have HPV := Lib.hid hpv
          clear hpv
          by_cases hr4 : 4 ≤ r
          · by_cases hrn : n < r
            · have u1 : decide (4 ≤ (r : Int)) = true := by simp; omega
              have u2 : decide (n < r) = true := by simp; omega
              go_wp2_with ((go_at_call 33; refine (lz_alike.calls kr S q at_ r _ hkr).mono ?_; rintro e w1 ⟨rfl, hb1⟩; have hc1 := hcr.below hb1; have cp1 := hc1.cp q hqs; rw [HPV.out] at cp1; have cs1 := hc1.cs; have hB1 := Lib.hid (below_then hB'.out hB'.out.size hb1)))
              exact ⟨⟨pq, r, at_ - q, by omega, rfl, rfl, congrArg (Value.int .i64) (by omega), Lib.hid (by rw [HNX.out, Lzm.step_take hr4 hrn]), Lib.hid HLB.out, hB1.out⟩, by simp [intOf]; omega⟩
            · have u1 : decide (4 ≤ (r : Int)) = true := by simp; omega
              have u2 : decide (n < r) = false := by simp; omega
              go_wp2_with ((go_at_call 33; refine (lz_alike.calls kr S q at_ r _ hkr).mono ?_; rintro e w1 ⟨rfl, hb1⟩; have hc1 := hcr.below hb1; have cp1 := hc1.cp q hqs; rw [HPV.out] at cp1; have cs1 := hc1.cs; have hB1 := Lib.hid (below_then hB'.out hB'.out.size hb1)))
              exact ⟨⟨pq, n, d, by omega, rfl, rfl, rfl, Lib.hid (by rw [HNX.out, Lzm.step_skip (by omega)]), Lib.hid HLB.out, hB1.out⟩, by simp [intOf]; omega⟩
          · have u1 : decide (4 ≤ (r : Int)) = false := by simp; omega
            go_wp2_with ((go_at_call 33; refine (lz_alike.calls kr S q at_ r _ hkr).mono ?_; rintro e w1 ⟨rfl, hb1⟩; have hc1 := hcr.below hb1; have cp1 := hc1.cp q hqs; rw [HPV.out] at cp1; have cs1 := hc1.cs; have hB1 := Lib.hid (below_then hB'.out hB'.out.size hb1)))
            exact ⟨⟨pq, n, d, by omega, rfl, rfl, rfl, Lib.hid (by rw [HNX.out, Lzm.step_skip (by omega)]), Lib.hid HLB.out, hB1.out⟩, by simp [intOf]; omega⟩

/-- What add leaves. -/
def AddOut (w w' : World) (b g : Nat) (S : ByteArray) (P : Nat) : Prop :=
  ChainsAt w' b g S P ∧ (∀ B a, Below B a w → B ≤ b → B ≤ g → Below B a w') ∧ w'.heap.size = w.heap.size ∧ (∀ i, i ≠ b → i ≠ g → w'.heap[i]? = w.heap[i]?)
theorem add_skip_law (b g : Nat) (S : ByteArray) (P : Nat) (w : World) (h : ChainsAt w b g S P) (h4 : S.size < P + 4) : ChainsAt w b g S (P + 1) := by
  obtain ⟨last, prev, hc, hl, hp⟩ := h
  refine ⟨last, prev, hc, fun h hh => ?_, fun q hq hq4 => hp q (by omega) hq4⟩
  rw [hl h hh]
  show _ = if P + 4 ≤ S.size ∧ hN S P = h then P + 1 else lastB (hN S) S.size h P
  rw [if_neg (by omega)]
set_option maxRecDepth 100000 in
theorem add_short (b g : Nat) (S : ByteArray) (P : Nat) (w : World) (h : ChainsAt w b g S P) (hP : P < S.size) (h4 : S.size < P + 4) (hS : S.size ≤ 1073741824) :
    Calls Try.prog 29 #[.pointer (some ⟨b, 0, none⟩), .int .i64 (P : Int)] w fun e w' => e = .returned (.tuple #[]) ∧ AddOut w w' b g S (P + 1) := by
  have hn := add_skip_law b g S P w h h4
  obtain ⟨last, prev, hc, hl, hp⟩ := h
  have c0 := hc.c0
  have HN := Lib.hid hn
  clear hn hl hp
  go_enter Try.func29, Try.ntmps29
  go_wp2
  go_end0
  exact ⟨rfl, HN.out, fun _ _ h _ _ => h, rfl, fun _ _ _ => rfl⟩
theorem row_set {w : World} {b : Nat} {cs : Array Value} {t : TypeId} (h : w.heap[b]? = some (.cells cs t (0, 0))) (i : Nat) (u : Value) : (w.setCell ⟨b, i, none⟩ u).heap[b]? = some (.cells (cs.setIfInBounds i u) t (0, 0)) := by
  simp [World.setCell, Array.getElem?_modify, h]
theorem ChAt.set_prev {w : World} {b g : Nat} {S : ByteArray} {last prev : Nat → Nat} (h : ChAt w b g S last prev) (P : Nat) (hP : P < S.size) (x : Nat) : ChAt (w.setCell ⟨g, P, none⟩ (.int .i32 (x : Int))) b g S last (fun i => if i = P then x else prev i) := by
  have hbg := h.lts.2.2
  obtain ⟨cs, ps, h1, h2, h3, h4, h5, h6, h7, h8⟩ := h.ex
  refine ⟨⟨cs, _, (Below.heap_setCell w ⟨g, P, none⟩ _ b hbg).trans h1, row_set h2 P _, h3, by rw [Array.size_setIfInBounds]; exact h4, h5, h6, h7, fun i hi => ?_⟩⟩
  rw [Array.getElem?_setIfInBounds]
  by_cases hiP : P = i
  · subst hiP; rw [if_pos rfl, if_pos (by omega)]; simp
  · rw [if_neg hiP, h8 i hi, if_neg (fun e => hiP e.symm)]
theorem ChAt.set_last {w : World} {b g : Nat} {S : ByteArray} {last prev : Nat → Nat} (h : ChAt w b g S last prev) (H : Nat) (hH : H < 32768) (x : Nat) : ChAt (w.setCell ⟨b, 1 + H, none⟩ (.int .i32 (x : Int))) b g S (fun i => if i = H then x else last i) prev := by
  have hbg := h.lts.2.2
  obtain ⟨cs, ps, h1, h2, h3, h4, h5, h6, h7, h8⟩ := h.ex
  refine ⟨⟨_, ps, row_set h1 (1 + H) _, (Below.heap_setCell w ⟨b, 1 + H, none⟩ _ g (fun e => hbg e.symm)).trans h2, by rw [Array.size_setIfInBounds]; exact h3, h4, ?_, ?_, fun i hi => ?_, h8⟩⟩
  · rw [Array.getElem?_setIfInBounds, if_neg (by omega)]; exact h5
  · rw [Array.getElem?_setIfInBounds, if_neg (by omega)]; exact h6
  · rw [Array.getElem?_setIfInBounds]
    by_cases hiH : 1 + H = 1 + i
    · obtain rfl : H = i := by omega
      rw [if_pos rfl, if_pos (by omega)]; simp
    · rw [if_neg hiH, h7 i hi, if_neg (by omega)]
theorem add_law (b g : Nat) (S : ByteArray) (P H : Nat) (w : World) (hH : H = hN S P) (hP : P + 4 ≤ S.size) (last prev : Nat → Nat) (hc : ChAt w b g S last prev) (hl : ∀ h, h < 32768 → last h = lastB (hN S) S.size h P)
    (hp : ∀ q, q < P → q + 4 ≤ S.size → prev q = lastB (hN S) S.size (hN S q) q) :
    AddOut w ((w.setCell ⟨g, P, none⟩ (.int .i32 (last H : Int))).setCell ⟨b, 1 + H, none⟩ (.int .i32 ((P + 1 : Nat) : Int))) b g S (P + 1) := by
  have hlt : H < 32768 := by rw [hH]; exact hN_lt S P
  refine ⟨⟨_, _, (hc.set_prev P (by omega) (last H)).set_last H hlt (P + 1), fun h hh => ?_, fun q hq hq4 => ?_⟩, fun B a hb h1 h2 => (hb.setCell h2 _).setCell h1 _, by rw [World.size_setCell, World.size_setCell], fun i h1 h2 => (Below.heap_setCell _ _ _ _ h1).trans (Below.heap_setCell _ _ _ _ h2)⟩
  · show (if h = H then P + 1 else last h) = if P + 4 ≤ S.size ∧ hN S P = h then P + 1 else lastB (hN S) S.size h P
    by_cases he : h = H
    · rw [if_pos he, if_pos ⟨hP, by rw [he, hH]⟩]
    · rw [if_neg he, if_neg (fun e => he (by rw [← e.2, hH])), hl h hh]
  · show (if q = P then last H else prev q) = _
    by_cases he : q = P
    · rw [if_pos he, hl H hlt, he, hH]
    · rw [if_neg he, hp q (by omega) hq4]
theorem AddOut.same {w w1 w2 : World} {b g : Nat} {S : ByteArray} {P : Nat} (h : AddOut w w1 b g S P) (h1 : w2.heap = w1.heap) (h2 : w2.os = w1.os) (h3 : w2.tape = w1.tape) (h4 : w2.output = w1.output) : AddOut w w2 b g S P := by
  obtain ⟨⟨last, prev, hc, hl, hp⟩, hb, hz, hk⟩ := h
  refine ⟨⟨last, prev, hc.keep (by rw [h1]) (by rw [h1]), hl, hp⟩, fun B a x y z => ?_, by rw [h1]; exact hz, fun i hi hj => by rw [h1]; exact hk i hi hj⟩
  have := hb B a x y z
  exact ⟨h2.trans this.os, h3.trans this.tape, h4.trans this.output, by rw [h1]; exact this.size, fun k hk => by rw [h1]; exact this.block k hk⟩
theorem AddOut.drewN {w w' : World} {b g : Nat} {S : ByteArray} {P n : Nat} (h : AddOut (w.drewN n) w' b g S P) : AddOut w w' b g S P :=
  ⟨h.1, fun B a hb h1 h2 => h.2.1 B a (below_drewN hb n) h1 h2, h.2.2.1, h.2.2.2⟩
set_option maxRecDepth 100000 in
set_option maxHeartbeats 400000 in
theorem add_calls (b g : Nat) (S : ByteArray) (P : Nat) (w : World) (h : ChainsAt w b g S P) (h4 : P + 4 ≤ S.size) (hS : S.size ≤ 1073741824) :
    Calls Try.prog 29 #[.pointer (some ⟨b, 0, none⟩), .int .i64 (P : Int)] w fun e w' => e = .returned (.tuple #[]) ∧ AddOut w w' b g S (P + 1) := by
  obtain ⟨last, prev, hc, hl, hp⟩ := h
  have c0 := hc.c0
  obtain ⟨H, hH⟩ : ∃ H, H = hN S P := ⟨_, rfl⟩
  have hlt : H < 32768 := by rw [hH]; exact hN_lt S P
  have hlt' : ((H : Nat) : Int) < 32768 := by omega
  have HL := Lib.hid hl
  have HP := Lib.hid hp
  have HH := Lib.hid hH
  clear hl hp hH
  go_enter Try.func29, Try.ntmps29
  have HC : Calls Try.prog 36 #[.pointer (some ⟨b, 0, none⟩), .int .i64 (P : Int)] w fun e w' => e = .returned (.int .u32 ((H : Nat) : Int)) ∧ ∃ n, w' = w.drewN n := by
    rw [HH.out]; exact sum_calls b S P _ c0 h4 (by omega)
  have HCC := Lib.hid HC
  clear HC hlt'
  have HLT := Lib.hid hlt
  clear hlt
  go_wp2_with fail
  refine HCC.out.mono ?_
  rintro e w1 ⟨rfl, n1, hw1⟩
  have HW1 := Lib.hid hw1
  clear hw1
  have hc1 : ChAt w1 b g S last prev := by rw [HW1.out]; exact hc.keep rfl rfl
  go_wp2_with fail
  have hlt := HLT.out
  have hlt' : ((H : Nat) : Int) < 32768 := by omega
  have cl : w1.cell? ⟨b, 1 + H, none⟩ = some (.int .i32 ((last H : Nat) : Int)) := hc1.cl H hlt
  have cs := hc1.cs
  have cp : w1.cell? ⟨g, P, none⟩ = some (.int .i32 ((prev P : Nat) : Int)) := hc1.cp P (by omega)
  have fg := (hc1.fr P).2
  have hPs : P < S.size := by omega
  clear c0
  go_region
  have hout := add_law b g S P H w1 HH.out h4 last prev hc1 HL.out HP.out
  have hc2 : ChAt ((w1.setCell ⟨g, P, none⟩ (.int .i32 ((last H : Nat) : Int))).drew) b g S last (fun i => if i = P then last H else prev i) := (hc1.set_prev P hPs (last H)).keep rfl rfl
  have hout2 : AddOut w (((w1.setCell ⟨g, P, none⟩ (.int .i32 ((last H : Nat) : Int))).drew).setCell ⟨b, 1 + H, none⟩ (.int .i32 ((P + 1 : Nat) : Int))) b g S (P + 1) := by
    rw [HW1.out] at hout ⊢
    exact hout.drewN.same rfl rfl rfl rfl
  clear hout cl cs cp fg
  generalize (w1.setCell ⟨g, P, none⟩ (.int .i32 ((last H : Nat) : Int))).drew = W2 at *
  have HO := Lib.hid hout2
  clear hout2
  have cl : W2.cell? ⟨b, 1 + H, none⟩ = some (.int .i32 ((last H : Nat) : Int)) := hc2.cl H hlt
  have fl : W2.frozen? ⟨b, 1 + H, none⟩ = false := (hc2.fr (1 + H)).1
  go_wp2
  go_end0
  exact ⟨rfl, HO.out⟩
end Go.Proofs.Ytgnoaokpahklaaa.Lzw
