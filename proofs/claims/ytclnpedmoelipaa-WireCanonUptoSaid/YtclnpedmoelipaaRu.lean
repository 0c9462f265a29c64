/- The reader of layer 2: layer 1's numbers. -/
import Derived.Test.YtclnpedmoelipaaRd
namespace Go.Proofs.Ytclnpedmoelipaa.Rd
open Go Go.RowKit Go.Lib Go.Proofs.Ytclnpedmoelipaa.Vm Go.Proofs.Ytclnpedmoelipaa.Wr Go.Proofs.Ytclnpedmoelipaa.VlW Go.Proofs.Ytclnpedmoelipaa.QW Go.Proofs.YtclnpedmoelipaaW.PrintWords
set_option linter.unusedVariables false
set_option linter.unusedSimpArgs false

set_option maxRecDepth 100000 in
theorem unsigned_ok (b : Nat) (S : ByteArray) (pos : Nat) (er : Int) (w : World) (h : RdAt w b S pos er) (hp : pos ≤ S.size) (hS : S.size ≤ 140737488355328) (v n : Int) (hr : rd64 (bytesOf (S.extract pos S.size)) = (v, n, 0)) (hn0 : 0 ≤ n) (hn : (pos : Int) + n ≤ S.size) :
    Calls Try.prog 63 #[.pointer (some ⟨b, 0, none⟩)] w fun e w' => e = .returned (.int .u64 v) ∧ RdAt w' b S (pos + n.toNat) er ∧ Chg (fun k => k = b) w w' := by
  obtain ⟨k, hk⟩ := Ev.rounds (varint_Read_uint64_ev (S.extract pos S.size))
  rw [hr] at hk
  have c0 : w.cell? ⟨b, 0, none⟩ = some (.int .i64 (pos : Int)) := Blk.cell h 0
  have c1 : w.cell? ⟨b, 1, none⟩ = some (.string S) := Blk.cell h 1
  have f0 : w.frozen? ⟨b, 0, none⟩ = false := Blk.frozen h 0
  go_enter Try.func63, Try.ntmps63
  go_wp2_with fail
  go_quiet ((refine Calls.quiet_of (v := .tuple #[.int .u64 v, .int .i64 n, .int .i64 0]) ((varint_Read_uint64.calls k _ v n 0 _ hk).mono ?_); exact fun _ _ h => ⟨h.1, h.2.out⟩))
  have h1 := h.drewN nq
  have hC := Chg.drewN (fun k => k = b) w nq
  have c0 : (w.drewN nq).cell? ⟨b, 0, none⟩ = some (.int .i64 (pos : Int)) := Blk.cell h1 0
  have f0 : (w.drewN nq).frozen? ⟨b, 0, none⟩ = false := Blk.frozen h1 0
  generalize w.drewN nq = W at *
  have ew : IntKind.i64.wrap ((pos : Int) + n) = pos + n := IntWalk.i64_in _ (by omega)
  go_wp2_with fail
  refine (need_ok _ rfl _ _).mono ?_
  rintro e w1 ⟨rfl, rfl⟩
  go_wp2
  go_ret
  obtain ⟨m, rfl⟩ : ∃ m : Nat, n = (m : Int) := ⟨n.toNat, by omega⟩
  have h2 := Blk.set_ h1 0 (Value.int .i64 ((pos : Int) + m))
  exact ⟨rfl, h2, ⟨Nat.le_trans hC.1 (by rw [World.size_setCell]; exact Nat.le_refl _), fun i hi hf => (heap_set _ _ _ _ hf).trans (hC.2 i hi hf), hC.3⟩⟩
set_option maxRecDepth 100000 in
theorem unsigned_bad (b : Nat) (S : ByteArray) (pos : Nat) (er : Int) (w : World) (h : RdAt w b S pos er) (hp : pos ≤ S.size) (hS : S.size ≤ 140737488355328) (v n ec : Int) (hr : rd64 (bytesOf (S.extract pos S.size)) = (v, n, ec)) (hec : ec ≠ 0) :
    Calls Try.prog 63 #[.pointer (some ⟨b, 0, none⟩)] w fun e w' => e = .panicked [fault ec] ∧ RdAt w' b S pos er ∧ Chg (fun _ => False) w w' := by
  obtain ⟨k, hk⟩ := Ev.rounds (varint_Read_uint64_ev (S.extract pos S.size))
  rw [hr] at hk
  have c0 : w.cell? ⟨b, 0, none⟩ = some (.int .i64 (pos : Int)) := Blk.cell h 0
  have c1 : w.cell? ⟨b, 1, none⟩ = some (.string S) := Blk.cell h 1
  have f0 : w.frozen? ⟨b, 0, none⟩ = false := Blk.frozen h 0
  go_enter Try.func63, Try.ntmps63
  go_wp2_with fail
  go_quiet ((refine Calls.quiet_of (v := .tuple #[.int .u64 v, .int .i64 n, .int .i64 ec]) ((varint_Read_uint64.calls k _ v n ec _ hk).mono ?_); exact fun _ _ h => ⟨h.1, h.2.out⟩))
  have h1 := h.drewN nq
  have hC := Chg.drewN (fun _ => False) w nq
  have c0 : (w.drewN nq).cell? ⟨b, 0, none⟩ = some (.int .i64 (pos : Int)) := Blk.cell h1 0
  have f0 : (w.drewN nq).frozen? ⟨b, 0, none⟩ = false := Blk.frozen h1 0
  generalize w.drewN nq = W at *
  go_wp2_with fail
  refine (need_bad _ (by simp; omega) _ _).mono ?_
  rintro e w1 ⟨rfl, rfl⟩
  exact ⟨rfl, rfl, h1, hC⟩
set_option maxRecDepth 100000 in
theorem signed_ok (b : Nat) (S : ByteArray) (pos : Nat) (er : Int) (w : World) (h : RdAt w b S pos er) (hp : pos ≤ S.size) (hS : S.size ≤ 140737488355328) (v n : Int) (hr : rdSigned (-9223372036854775808) 9223372036854775807 (rd64 (bytesOf (S.extract pos S.size))) = (v, n, 0)) (hn0 : 0 ≤ n) (hn : (pos : Int) + n ≤ S.size) :
    Calls Try.prog 66 #[.pointer (some ⟨b, 0, none⟩)] w fun e w' => e = .returned (.int .i64 v) ∧ RdAt w' b S (pos + n.toNat) er ∧ Chg (fun k => k = b) w w' := by
  obtain ⟨k, hk⟩ := Ev.rounds (varint_ReadSigned_int64_ev (S.extract pos S.size))
  rw [hr] at hk
  have c0 : w.cell? ⟨b, 0, none⟩ = some (.int .i64 (pos : Int)) := Blk.cell h 0
  have c1 : w.cell? ⟨b, 1, none⟩ = some (.string S) := Blk.cell h 1
  have f0 : w.frozen? ⟨b, 0, none⟩ = false := Blk.frozen h 0
  go_enter Try.func66, Try.ntmps66
  go_wp2_with fail
  go_quiet ((refine Calls.quiet_of (v := .tuple #[.int .i64 v, .int .i64 n, .int .i64 0]) ((varint_ReadSigned_int64.calls k _ v n 0 _ hk).mono ?_); exact fun _ _ h => ⟨h.1, h.2.out⟩))
  have h1 := h.drewN nq
  have hC := Chg.drewN (fun k => k = b) w nq
  have c0 : (w.drewN nq).cell? ⟨b, 0, none⟩ = some (.int .i64 (pos : Int)) := Blk.cell h1 0
  have f0 : (w.drewN nq).frozen? ⟨b, 0, none⟩ = false := Blk.frozen h1 0
  generalize w.drewN nq = W at *
  have ew : IntKind.i64.wrap ((pos : Int) + n) = pos + n := IntWalk.i64_in _ (by omega)
  go_wp2_with fail
  refine (need_ok _ rfl _ _).mono ?_
  rintro e w1 ⟨rfl, rfl⟩
  go_wp2
  go_ret
  obtain ⟨m, rfl⟩ : ∃ m : Nat, n = (m : Int) := ⟨n.toNat, by omega⟩
  have h2 := Blk.set_ h1 0 (Value.int .i64 ((pos : Int) + m))
  exact ⟨rfl, h2, ⟨Nat.le_trans hC.1 (by rw [World.size_setCell]; exact Nat.le_refl _), fun i hi hf => (heap_set _ _ _ _ hf).trans (hC.2 i hi hf), hC.3⟩⟩
set_option maxRecDepth 100000 in
theorem signed_bad (b : Nat) (S : ByteArray) (pos : Nat) (er : Int) (w : World) (h : RdAt w b S pos er) (hp : pos ≤ S.size) (hS : S.size ≤ 140737488355328) (v n ec : Int) (hr : rdSigned (-9223372036854775808) 9223372036854775807 (rd64 (bytesOf (S.extract pos S.size))) = (v, n, ec)) (hec : ec ≠ 0) :
    Calls Try.prog 66 #[.pointer (some ⟨b, 0, none⟩)] w fun e w' => e = .panicked [fault ec] ∧ RdAt w' b S pos er ∧ Chg (fun _ => False) w w' := by
  obtain ⟨k, hk⟩ := Ev.rounds (varint_ReadSigned_int64_ev (S.extract pos S.size))
  rw [hr] at hk
  have c0 : w.cell? ⟨b, 0, none⟩ = some (.int .i64 (pos : Int)) := Blk.cell h 0
  have c1 : w.cell? ⟨b, 1, none⟩ = some (.string S) := Blk.cell h 1
  have f0 : w.frozen? ⟨b, 0, none⟩ = false := Blk.frozen h 0
  go_enter Try.func66, Try.ntmps66
  go_wp2_with fail
  go_quiet ((refine Calls.quiet_of (v := .tuple #[.int .i64 v, .int .i64 n, .int .i64 ec]) ((varint_ReadSigned_int64.calls k _ v n ec _ hk).mono ?_); exact fun _ _ h => ⟨h.1, h.2.out⟩))
  have h1 := h.drewN nq
  have hC := Chg.drewN (fun _ => False) w nq
  have c0 : (w.drewN nq).cell? ⟨b, 0, none⟩ = some (.int .i64 (pos : Int)) := Blk.cell h1 0
  have f0 : (w.drewN nq).frozen? ⟨b, 0, none⟩ = false := Blk.frozen h1 0
  generalize w.drewN nq = W at *
  go_wp2_with fail
  refine (need_bad _ (by simp; omega) _ _).mono ?_
  rintro e w1 ⟨rfl, rfl⟩
  exact ⟨rfl, rfl, h1, hC⟩
end Go.Proofs.Ytclnpedmoelipaa.Rd
