/-
  No cell of these rows narrows 'for every input' (looked for: loops, veiled, ifaces, maps, wideKeys, modest, calm, conditions, laid).
  DERIVED. THE GIVEN ROWS OF THIS SEAT. 5 by the template 'for every input the law returns true; each argument reads behind the call as it read before'; 0 by the template 'total and deterministic' (their statements: YtclnpedmoelipaaTotals.lean).
  GIVEN WITH THE SEED: the statements are not yours to turn. If you find one false, say at which input.
  Laid BY PROGRAM, IN A SANDBOX (cutbox-rows.mjs): the forced cells as the released guide's own fill.sh prints them over the translation d6f20462cedd09d3… (all of the seat's roots in one cut). By AI agents, Wed Nov 11 2026. No macro, syntax, notation, axiom, sorry.
-/
import Derived.Test.YtclnpedmoelipaaChecked
import GoSem.Claim
import GoSem.ClaimJoined
import GoSem.ClaimMapViews
import Derived.JoinedTies
import Derived.KernelRfl
namespace Go.Proofs.Ytclnpedmoelipaa
/- THE CELL 'sum', in the pinned program and in every row, IS THE sha256 OF THE DUMP (.gsa) THAT YtclnpedmoelipaaProg.lean LOADS. Nothing in Lean hashes anything: it is a label: what it is worth is what the hold of that sum in a sandbox is worth. -/
noncomputable def Try.pinned : Pinned := { name := "ytclnpedmoelipaa", sum := "d6f20462cedd09d39bdcfed36e3ddd3a2352015dbf51059efdfe1f410e839751", checked := Try.checked }
namespace Rows
def none {H : Type} : Left H := { results := [], args := [] }

/-- 'gantrylaw02.WireWrites': WHATEVER THE INPUT: true; the input reads as it did. -/
def wireWritesSpec : ChangeSpec := { name := "wireWrites", fn := fun _ => fun
  | [d] => { results := [.lit (.bool true)], args := [d] }
  | _ => none }
def wireWritesRow : OpenClaim := { program := "ytclnpedmoelipaa", sum := "d6f20462cedd09d39bdcfed36e3ddd3a2352015dbf51059efdfe1f410e839751", func := "gantry/gantrylaw02.WireWrites", spec := "wireWrites", unfollowed := true, recurses := true, apart := false }
def WireWritesSaid : Prop := wireWritesRow.holds Try.pinned (OpenSpec.ofChange wireWritesSpec)

/-- ITS FALSE NEIGHBOUR: 'it returns false'. Refute it at one input. -/
def wireWritesWrong : ChangeSpec := { name := "wireWrites", fn := fun _ => fun
  | [d] => { results := [.lit (.bool false)], args := [d] }
  | _ => none }
def WireWritesWrongFalsely : Prop := wireWritesRow.holds Try.pinned (OpenSpec.ofChange wireWritesWrong)

/-- 'gantrylaw02.WireCanon': WHATEVER THE INPUT: true; the input reads as it did. -/
def wireCanonSpec : ChangeSpec := { name := "wireCanon", fn := fun _ => fun
  | [d] => { results := [.lit (.bool true)], args := [d] }
  | _ => none }
def wireCanonRow : OpenClaim := { program := "ytclnpedmoelipaa", sum := "d6f20462cedd09d39bdcfed36e3ddd3a2352015dbf51059efdfe1f410e839751", func := "gantry/gantrylaw02.WireCanon", spec := "wireCanon", unfollowed := true, recurses := true, apart := false }
def WireCanonSaid : Prop := wireCanonRow.holds Try.pinned (OpenSpec.ofChange wireCanonSpec)

/-- ITS FALSE NEIGHBOUR: 'it returns false'. Refute it at one input. -/
def wireCanonWrong : ChangeSpec := { name := "wireCanon", fn := fun _ => fun
  | [d] => { results := [.lit (.bool false)], args := [d] }
  | _ => none }
def WireCanonWrongFalsely : Prop := wireCanonRow.holds Try.pinned (OpenSpec.ofChange wireCanonWrong)

/-- 'gantrylaw02.WireReads': WHATEVER THE INPUT: true; the input reads as it did. -/
def wireReadsSpec : ChangeSpec := { name := "wireReads", fn := fun _ => fun
  | [d1, d2] => { results := [.lit (.bool true)], args := [d1, d2] }
  | _ => none }
def wireReadsRow : OpenClaim := { program := "ytclnpedmoelipaa", sum := "d6f20462cedd09d39bdcfed36e3ddd3a2352015dbf51059efdfe1f410e839751", func := "gantry/gantrylaw02.WireReads", spec := "wireReads", unfollowed := true, recurses := true, apart := false }
def WireReadsSaid : Prop := wireReadsRow.holds Try.pinned (OpenSpec.ofChange wireReadsSpec)

/-- ITS FALSE NEIGHBOUR: 'it returns false'. Refute it at one input. -/
def wireReadsWrong : ChangeSpec := { name := "wireReads", fn := fun _ => fun
  | [d1, d2] => { results := [.lit (.bool false)], args := [d1, d2] }
  | _ => none }
def WireReadsWrongFalsely : Prop := wireReadsRow.holds Try.pinned (OpenSpec.ofChange wireReadsWrong)

/-- 'gantrylaw02.WireCorners': WHATEVER THE INPUT: true; the input reads as it did. -/
def wireCornersSpec : ChangeSpec := { name := "wireCorners", fn := fun _ => fun
  | [d1, d2] => { results := [.lit (.bool true)], args := [d1, d2] }
  | _ => none }
def wireCornersRow : OpenClaim := { program := "ytclnpedmoelipaa", sum := "d6f20462cedd09d39bdcfed36e3ddd3a2352015dbf51059efdfe1f410e839751", func := "gantry/gantrylaw02.WireCorners", spec := "wireCorners", unfollowed := true, recurses := true, apart := false }
def WireCornersSaid : Prop := wireCornersRow.holds Try.pinned (OpenSpec.ofChange wireCornersSpec)

/-- ITS FALSE NEIGHBOUR: 'it returns false'. Refute it at one input. -/
def wireCornersWrong : ChangeSpec := { name := "wireCorners", fn := fun _ => fun
  | [d1, d2] => { results := [.lit (.bool false)], args := [d1, d2] }
  | _ => none }
def WireCornersWrongFalsely : Prop := wireCornersRow.holds Try.pinned (OpenSpec.ofChange wireCornersWrong)

/-- 'gantrylaw02.WireBack': WHATEVER THE INPUT: true; the input reads as it did. -/
def wireBackSpec : ChangeSpec := { name := "wireBack", fn := fun _ => fun
  | [d1, d2] => { results := [.lit (.bool true)], args := [d1, d2] }
  | _ => none }
def wireBackRow : OpenClaim := { program := "ytclnpedmoelipaa", sum := "d6f20462cedd09d39bdcfed36e3ddd3a2352015dbf51059efdfe1f410e839751", func := "gantry/gantrylaw02.WireBack", spec := "wireBack", unfollowed := true, recurses := true, apart := false }
def WireBackSaid : Prop := wireBackRow.holds Try.pinned (OpenSpec.ofChange wireBackSpec)

/-- ITS FALSE NEIGHBOUR: 'it returns false'. Refute it at one input. -/
def wireBackWrong : ChangeSpec := { name := "wireBack", fn := fun _ => fun
  | [d1, d2] => { results := [.lit (.bool false)], args := [d1, d2] }
  | _ => none }
def WireBackWrongFalsely : Prop := wireBackRow.holds Try.pinned (OpenSpec.ofChange wireBackWrong)

/- THE SECOND FORM. 'bulk': how many values and letters a reading holds, each counted each time it is reached (what is shared counts as often as it is met; a slice's spare places count too). A statement '..UptoSaid' is the law's where the arguments, and the package variables that the reading takes, are together of bulk at most 1048576: NARROWER than '..Said'. Prove '..Said' where nothing that the law and all that it calls make is longer than what came in: it says more and counts as full. Else prove '..UptoSaid'. A law counts once. -/
mutual
def uptoBulk {H : Type} : DataW H → Nat
  | .lit (.string bytes) => bytes.length + 1
  | .lit _ => 1
  | .nil => 1
  | .ptr d => uptoBulk d + 1
  | .slice elems spare => uptoBulkAll elems + uptoBulkAll spare + 1
  | .agg parts => uptoBulkAll parts + 1
  | .iface _ d => uptoBulk d + 1
  | .map entries => uptoBulkEntries entries + 1
  | .held _ => 1
def uptoBulkAll {H : Type} : List (DataW H) → Nat
  | [] => 0
  | d :: r => uptoBulk d + uptoBulkAll r
def uptoBulkEntries {H : Type} : List (Lit × DataW H) → Nat
  | [] => 0
  | x :: r => uptoBulkEntry x + uptoBulkEntries r
def uptoBulkEntry {H : Type} : Lit × DataW H → Nat
  | (.string bytes, d) => bytes.length + uptoBulk d + 1
  | (_, d) => uptoBulk d + 1
 end
def uptoSmall : (H : Type) → List (DataW H) → Bool := fun _ ds => decide (uptoBulkAll ds ≤ 1048576)
def OpenSpec.upto (s : _root_.Go.ChangeSpec) : _root_.Go.OpenSpec := { _root_.Go.OpenSpec.ofChange s with cond := some uptoSmall }

/-- 'gantrylaw02.WireWrites', WHERE WHAT IT READS IS OF BULK AT MOST 1048576: true; the input reads as it did. -/
def wireWritesUptoRow : OpenClaim := { program := "ytclnpedmoelipaa", sum := "d6f20462cedd09d39bdcfed36e3ddd3a2352015dbf51059efdfe1f410e839751", func := "gantry/gantrylaw02.WireWrites", spec := "wireWrites", unfollowed := true, recurses := true, apart := false, narrowed := true }
def WireWritesUptoSaid : Prop := wireWritesUptoRow.holds Try.pinned (OpenSpec.upto wireWritesSpec)

/-- 'gantrylaw02.WireCanon', WHERE WHAT IT READS IS OF BULK AT MOST 1048576: true; the input reads as it did. -/
def wireCanonUptoRow : OpenClaim := { program := "ytclnpedmoelipaa", sum := "d6f20462cedd09d39bdcfed36e3ddd3a2352015dbf51059efdfe1f410e839751", func := "gantry/gantrylaw02.WireCanon", spec := "wireCanon", unfollowed := true, recurses := true, apart := false, narrowed := true }
def WireCanonUptoSaid : Prop := wireCanonUptoRow.holds Try.pinned (OpenSpec.upto wireCanonSpec)

/-- 'gantrylaw02.WireReads', WHERE WHAT IT READS IS OF BULK AT MOST 1048576: true; the input reads as it did. -/
def wireReadsUptoRow : OpenClaim := { program := "ytclnpedmoelipaa", sum := "d6f20462cedd09d39bdcfed36e3ddd3a2352015dbf51059efdfe1f410e839751", func := "gantry/gantrylaw02.WireReads", spec := "wireReads", unfollowed := true, recurses := true, apart := false, narrowed := true }
def WireReadsUptoSaid : Prop := wireReadsUptoRow.holds Try.pinned (OpenSpec.upto wireReadsSpec)

/-- 'gantrylaw02.WireCorners', WHERE WHAT IT READS IS OF BULK AT MOST 1048576: true; the input reads as it did. -/
def wireCornersUptoRow : OpenClaim := { program := "ytclnpedmoelipaa", sum := "d6f20462cedd09d39bdcfed36e3ddd3a2352015dbf51059efdfe1f410e839751", func := "gantry/gantrylaw02.WireCorners", spec := "wireCorners", unfollowed := true, recurses := true, apart := false, narrowed := true }
def WireCornersUptoSaid : Prop := wireCornersUptoRow.holds Try.pinned (OpenSpec.upto wireCornersSpec)

/-- 'gantrylaw02.WireBack', WHERE WHAT IT READS IS OF BULK AT MOST 1048576: true; the input reads as it did. -/
def wireBackUptoRow : OpenClaim := { program := "ytclnpedmoelipaa", sum := "d6f20462cedd09d39bdcfed36e3ddd3a2352015dbf51059efdfe1f410e839751", func := "gantry/gantrylaw02.WireBack", spec := "wireBack", unfollowed := true, recurses := true, apart := false, narrowed := true }
def WireBackUptoSaid : Prop := wireBackUptoRow.holds Try.pinned (OpenSpec.upto wireBackSpec)

end Rows
end Go.Proofs.Ytclnpedmoelipaa
