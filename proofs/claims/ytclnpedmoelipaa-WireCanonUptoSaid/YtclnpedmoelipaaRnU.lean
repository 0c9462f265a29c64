/- The reader of layer 2: layer 1's numbers, its methods. -/
import Derived.Test.YtclnpedmoelipaaRu
import Derived.Test.YtclnpedmoelipaaTryU64
namespace Go.Proofs.Ytclnpedmoelipaa.Rd
open Go Go.RowKit Go.Lib Go.Proofs.Ytclnpedmoelipaa.Vm Go.Proofs.Ytclnpedmoelipaa.Wr Go.Proofs.YtclnpedmoelipaaW.PrintWords
set_option linter.unusedVariables false
set_option linter.unusedSimpArgs false

set_option maxRecDepth 100000 in
theorem Uvarint_fault (b : Nat) (S : ByteArray) (pos : Nat) (er : Int) (w : World) (h : RdAt w b S pos er) (her : (er != 0) = true) :
    Calls Try.prog 18 #[.pointer (some ⟨b, 0, none⟩)] w fun e w' => e = .returned (.tuple #[.int .u64 0, .int .i64 er]) ∧ RdAt w' b S pos er ∧ Chg (fun _ => False) w w' := by
  go_enter Try.func18, Try.ntmps18
  go_wp2_with fail
  refine (tryFault_u64 b S pos er _ w h her).mono ?_
  rintro e w1 ⟨rfl, h1, hC⟩
  go_wp2
  refine ⟨rfl, .tuple #[.int .u64 0, .int .i64 er], ?_, rfl, h1, hC⟩
  simp [results, Try.results18, go_sem]
set_option maxRecDepth 100000 in
theorem Uvarint_ok (b : Nat) (S : ByteArray) (pos : Nat) (w : World) (h : RdAt w b S pos 0) (hp : pos ≤ S.size) (hS : S.size ≤ 140737488355328) (v n : Int) (hr : id (rd64 (bytesOf (S.extract pos S.size))) = (v, n, 0)) (hn0 : 0 ≤ n) (hn : (pos : Int) + n ≤ S.size) :
    Calls Try.prog 18 #[.pointer (some ⟨b, 0, none⟩)] w fun e w' => e = .returned (.tuple #[.int .u64 v, .int .i64 0]) ∧ RdAt w' b S (pos + n.toNat) 0 ∧ Chg (fun k => k = b) w w' := by
  go_enter Try.func18, Try.ntmps18
  go_wp2_with fail
  refine (tryOk_u64 b S pos (pos + n.toNat) 63 #[] v w h (fun _ _ => rfl) (fun W h1 _ => unsigned_ok b S pos 0 W h1 hp hS v n hr hn0 hn)).mono ?_
  rintro e w1 ⟨rfl, h1, hC⟩
  go_wp2
  refine ⟨rfl, .tuple #[.int .u64 v, .int .i64 0], ?_, rfl, h1, hC⟩
  simp [results, Try.results18, go_sem]
set_option maxRecDepth 100000 in
theorem Uvarint_bad (b : Nat) (S : ByteArray) (pos : Nat) (w : World) (h : RdAt w b S pos 0) (hp : pos ≤ S.size) (hS : S.size ≤ 140737488355328) (v n ec : Int) (hr : id (rd64 (bytesOf (S.extract pos S.size))) = (v, n, ec)) (hec : ec ≠ 0) :
    Calls Try.prog 18 #[.pointer (some ⟨b, 0, none⟩)] w fun e w' => e = .returned (.tuple #[.int .u64 0, .int .i64 ec]) ∧ RdAt w' b S pos ec ∧ Chg (fun k => k = b) w w' := by
  go_enter Try.func18, Try.ntmps18
  go_wp2_with fail
  refine (tryBad_u64 b S pos ec 63 #[] w h (fun _ _ => rfl) (fun W h1 _ => (unsigned_bad b S pos 0 W h1 hp hS v n ec hr hec).mono fun _ _ ⟨a, c, d⟩ => ⟨a, ⟨pos, c⟩, d.none⟩)).mono ?_
  rintro e w1 ⟨rfl, h1, hC⟩
  go_wp2
  refine ⟨rfl, .tuple #[.int .u64 0, .int .i64 ec], ?_, rfl, h1, hC⟩
  simp [results, Try.results18, go_sem]
end Go.Proofs.Ytclnpedmoelipaa.Rd
