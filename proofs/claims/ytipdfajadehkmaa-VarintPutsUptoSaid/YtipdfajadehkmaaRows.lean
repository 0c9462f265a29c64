/-
  No cell of these rows narrows 'for every input' (looked for: loops, veiled, ifaces, maps, wideKeys, modest, calm, conditions, laid).
  DERIVED. THE GIVEN ROWS OF THIS SEAT. 9 by the template 'for every input the law returns true; each argument reads behind the call as it read before'; 0 by the template 'total and deterministic' (their statements: YtipdfajadehkmaaTotals.lean).
  GIVEN WITH THE SEED: the statements are not yours to turn. If you find one false, say at which input.
  Laid BY PROGRAM, IN A SANDBOX (cutbox-rows.mjs): the forced cells as the released guide's own fill.sh prints them over the translation 697aa747e9fd7f1c… (all of the seat's roots in one cut). By AI agents, Wed Nov 11 2026. No macro, syntax, notation, axiom, sorry.
-/
import Derived.Test.YtipdfajadehkmaaChecked
import GoSem.Claim
import GoSem.ClaimJoined
import GoSem.ClaimMapViews
import Derived.JoinedTies
import Derived.KernelRfl
namespace Go.Proofs.Ytipdfajadehkmaa
/- THE CELL 'sum', in the pinned program and in every row, IS THE sha256 OF THE DUMP (.gsa) THAT YtipdfajadehkmaaProg.lean LOADS. Nothing in Lean hashes anything: it is a label: what it is worth is what the hold of that sum in a sandbox is worth. -/
noncomputable def Try.pinned : Pinned := { name := "ytipdfajadehkmaa", sum := "697aa747e9fd7f1cac3544a5a7f9ef1743c4c94eed37f011bd53a04d1793cbfe", checked := Try.checked }
namespace Rows
def none {H : Type} : Left H := { results := [], args := [] }

/-- 'gantrylaw01.VarintNames': WHATEVER THE INPUT: true; the input reads as it did. -/
def varintNamesSpec : ChangeSpec := { name := "varintNames", fn := fun _ => fun
  | [] => { results := [.lit (.bool true)], args := [] }
  | _ => none }
def varintNamesRow : OpenClaim := { program := "ytipdfajadehkmaa", sum := "697aa747e9fd7f1cac3544a5a7f9ef1743c4c94eed37f011bd53a04d1793cbfe", func := "gantry/gantrylaw01.VarintNames", spec := "varintNames", apart := false }
def VarintNamesSaid : Prop := varintNamesRow.holds Try.pinned (OpenSpec.ofChange varintNamesSpec)

/-- ITS FALSE NEIGHBOUR: 'it returns false'. Refute it at one input. -/
def varintNamesWrong : ChangeSpec := { name := "varintNames", fn := fun _ => fun
  | [] => { results := [.lit (.bool false)], args := [] }
  | _ => none }
def VarintNamesWrongFalsely : Prop := varintNamesRow.holds Try.pinned (OpenSpec.ofChange varintNamesWrong)

/-- 'gantrylaw19.GatherNames': WHATEVER THE INPUT: true; the input reads as it did. -/
def gatherNamesSpec : ChangeSpec := { name := "gatherNames", fn := fun _ => fun
  | [] => { results := [.lit (.bool true)], args := [] }
  | _ => none }
def gatherNamesRow : OpenClaim := { program := "ytipdfajadehkmaa", sum := "697aa747e9fd7f1cac3544a5a7f9ef1743c4c94eed37f011bd53a04d1793cbfe", func := "gantry/gantrylaw19.GatherNames", spec := "gatherNames", apart := false }
def GatherNamesSaid : Prop := gatherNamesRow.holds Try.pinned (OpenSpec.ofChange gatherNamesSpec)

/-- ITS FALSE NEIGHBOUR: 'it returns false'. Refute it at one input. -/
def gatherNamesWrong : ChangeSpec := { name := "gatherNames", fn := fun _ => fun
  | [] => { results := [.lit (.bool false)], args := [] }
  | _ => none }
def GatherNamesWrongFalsely : Prop := gatherNamesRow.holds Try.pinned (OpenSpec.ofChange gatherNamesWrong)

/-- 'gantrylaw04.LzNames': WHATEVER THE INPUT: true; the input reads as it did. -/
def lzNamesSpec : ChangeSpec := { name := "lzNames", fn := fun _ => fun
  | [] => { results := [.lit (.bool true)], args := [] }
  | _ => none }
def lzNamesRow : OpenClaim := { program := "ytipdfajadehkmaa", sum := "697aa747e9fd7f1cac3544a5a7f9ef1743c4c94eed37f011bd53a04d1793cbfe", func := "gantry/gantrylaw04.LzNames", spec := "lzNames", apart := false }
def LzNamesSaid : Prop := lzNamesRow.holds Try.pinned (OpenSpec.ofChange lzNamesSpec)

/-- ITS FALSE NEIGHBOUR: 'it returns false'. Refute it at one input. -/
def lzNamesWrong : ChangeSpec := { name := "lzNames", fn := fun _ => fun
  | [] => { results := [.lit (.bool false)], args := [] }
  | _ => none }
def LzNamesWrongFalsely : Prop := lzNamesRow.holds Try.pinned (OpenSpec.ofChange lzNamesWrong)

/-- 'gantrylaw01.VarintReads': WHATEVER THE INPUT: true; the input reads as it did. -/
def varintReadsSpec : ChangeSpec := { name := "varintReads", fn := fun _ => fun
  | [d] => { results := [.lit (.bool true)], args := [d] }
  | _ => none }
def varintReadsRow : OpenClaim := { program := "ytipdfajadehkmaa", sum := "697aa747e9fd7f1cac3544a5a7f9ef1743c4c94eed37f011bd53a04d1793cbfe", func := "gantry/gantrylaw01.VarintReads", spec := "varintReads", apart := false }
def VarintReadsSaid : Prop := varintReadsRow.holds Try.pinned (OpenSpec.ofChange varintReadsSpec)

/-- ITS FALSE NEIGHBOUR: 'it returns false'. Refute it at one input. -/
def varintReadsWrong : ChangeSpec := { name := "varintReads", fn := fun _ => fun
  | [d] => { results := [.lit (.bool false)], args := [d] }
  | _ => none }
def VarintReadsWrongFalsely : Prop := varintReadsRow.holds Try.pinned (OpenSpec.ofChange varintReadsWrong)

/-- 'gantrylaw01.VarintSizes': WHATEVER THE INPUT: true; the input reads as it did. -/
def varintSizesSpec : ChangeSpec := { name := "varintSizes", fn := fun _ => fun
  | [d1, d2, d3] => { results := [.lit (.bool true)], args := [d1, d2, d3] }
  | _ => none }
def varintSizesRow : OpenClaim := { program := "ytipdfajadehkmaa", sum := "697aa747e9fd7f1cac3544a5a7f9ef1743c4c94eed37f011bd53a04d1793cbfe", func := "gantry/gantrylaw01.VarintSizes", spec := "varintSizes", apart := false }
def VarintSizesSaid : Prop := varintSizesRow.holds Try.pinned (OpenSpec.ofChange varintSizesSpec)

/-- ITS FALSE NEIGHBOUR: 'it returns false'. Refute it at one input. -/
def varintSizesWrong : ChangeSpec := { name := "varintSizes", fn := fun _ => fun
  | [d1, d2, d3] => { results := [.lit (.bool false)], args := [d1, d2, d3] }
  | _ => none }
def VarintSizesWrongFalsely : Prop := varintSizesRow.holds Try.pinned (OpenSpec.ofChange varintSizesWrong)

/-- 'gantrylaw01.VarintAll': WHATEVER THE INPUT: true; the input reads as it did. -/
def varintAllSpec : ChangeSpec := { name := "varintAll", fn := fun _ => fun
  | [d1, d2] => { results := [.lit (.bool true)], args := [d1, d2] }
  | _ => none }
def varintAllRow : OpenClaim := { program := "ytipdfajadehkmaa", sum := "697aa747e9fd7f1cac3544a5a7f9ef1743c4c94eed37f011bd53a04d1793cbfe", func := "gantry/gantrylaw01.VarintAll", spec := "varintAll", apart := false }
def VarintAllSaid : Prop := varintAllRow.holds Try.pinned (OpenSpec.ofChange varintAllSpec)

/-- ITS FALSE NEIGHBOUR: 'it returns false'. Refute it at one input. -/
def varintAllWrong : ChangeSpec := { name := "varintAll", fn := fun _ => fun
  | [d1, d2] => { results := [.lit (.bool false)], args := [d1, d2] }
  | _ => none }
def VarintAllWrongFalsely : Prop := varintAllRow.holds Try.pinned (OpenSpec.ofChange varintAllWrong)

/-- 'gantrylaw01.VarintPuts': WHATEVER THE INPUT: true; the input reads as it did. -/
def varintPutsSpec : ChangeSpec := { name := "varintPuts", fn := fun _ => fun
  | [d1, d2] => { results := [.lit (.bool true)], args := [d1, d2] }
  | _ => none }
def varintPutsRow : OpenClaim := { program := "ytipdfajadehkmaa", sum := "697aa747e9fd7f1cac3544a5a7f9ef1743c4c94eed37f011bd53a04d1793cbfe", func := "gantry/gantrylaw01.VarintPuts", spec := "varintPuts", apart := false }
def VarintPutsSaid : Prop := varintPutsRow.holds Try.pinned (OpenSpec.ofChange varintPutsSpec)

/-- ITS FALSE NEIGHBOUR: 'it returns false'. Refute it at one input. -/
def varintPutsWrong : ChangeSpec := { name := "varintPuts", fn := fun _ => fun
  | [d1, d2] => { results := [.lit (.bool false)], args := [d1, d2] }
  | _ => none }
def VarintPutsWrongFalsely : Prop := varintPutsRow.holds Try.pinned (OpenSpec.ofChange varintPutsWrong)

/-- 'gantrylaw01.VarintKinds': WHATEVER THE INPUT: true; the input reads as it did. -/
def varintKindsSpec : ChangeSpec := { name := "varintKinds", fn := fun _ => fun
  | [d1, d2] => { results := [.lit (.bool true)], args := [d1, d2] }
  | _ => none }
def varintKindsRow : OpenClaim := { program := "ytipdfajadehkmaa", sum := "697aa747e9fd7f1cac3544a5a7f9ef1743c4c94eed37f011bd53a04d1793cbfe", func := "gantry/gantrylaw01.VarintKinds", spec := "varintKinds", apart := false }
def VarintKindsSaid : Prop := varintKindsRow.holds Try.pinned (OpenSpec.ofChange varintKindsSpec)

/-- ITS FALSE NEIGHBOUR: 'it returns false'. Refute it at one input. -/
def varintKindsWrong : ChangeSpec := { name := "varintKinds", fn := fun _ => fun
  | [d1, d2] => { results := [.lit (.bool false)], args := [d1, d2] }
  | _ => none }
def VarintKindsWrongFalsely : Prop := varintKindsRow.holds Try.pinned (OpenSpec.ofChange varintKindsWrong)

/-- 'gantrylaw01.VarintBacks': WHATEVER THE INPUT: true; the input reads as it did. -/
def varintBacksSpec : ChangeSpec := { name := "varintBacks", fn := fun _ => fun
  | [d1, d2, d3] => { results := [.lit (.bool true)], args := [d1, d2, d3] }
  | _ => none }
def varintBacksRow : OpenClaim := { program := "ytipdfajadehkmaa", sum := "697aa747e9fd7f1cac3544a5a7f9ef1743c4c94eed37f011bd53a04d1793cbfe", func := "gantry/gantrylaw01.VarintBacks", spec := "varintBacks", apart := false }
def VarintBacksSaid : Prop := varintBacksRow.holds Try.pinned (OpenSpec.ofChange varintBacksSpec)

/-- ITS FALSE NEIGHBOUR: 'it returns false'. Refute it at one input. -/
def varintBacksWrong : ChangeSpec := { name := "varintBacks", fn := fun _ => fun
  | [d1, d2, d3] => { results := [.lit (.bool false)], args := [d1, d2, d3] }
  | _ => none }
def VarintBacksWrongFalsely : Prop := varintBacksRow.holds Try.pinned (OpenSpec.ofChange varintBacksWrong)

/- THE SECOND FORM. 'bulk': how many values and letters a reading holds, each counted each time it is reached (what is shared counts as often as it is met; a slice's spare places count too). A statement '..UptoSaid' is the law's where the arguments, and the package variables that the reading takes, are together of bulk at most 1048576: NARROWER than '..Said'. Prove '..Said' where nothing that the law and all that it calls make is longer than what came in: it says more and counts as full. Else prove '..UptoSaid'. A law counts once. -/
mutual
def uptoBulk {H : Type} : DataW H → Nat
  | .lit (.string bytes) => bytes.length + 1
  | .lit _ => 1
  | .nil => 1
  | .ptr d => uptoBulk d + 1
  | .slice elems spare => uptoBulkAll elems + uptoBulkAll spare + 1
  | .agg parts => uptoBulkAll parts + 1
  | .iface _ d => uptoBulk d + 1
  | .map entries => uptoBulkEntries entries + 1
  | .held _ => 1
def uptoBulkAll {H : Type} : List (DataW H) → Nat
  | [] => 0
  | d :: r => uptoBulk d + uptoBulkAll r
def uptoBulkEntries {H : Type} : List (Lit × DataW H) → Nat
  | [] => 0
  | x :: r => uptoBulkEntry x + uptoBulkEntries r
def uptoBulkEntry {H : Type} : Lit × DataW H → Nat
  | (.string bytes, d) => bytes.length + uptoBulk d + 1
  | (_, d) => uptoBulk d + 1
 end
def uptoSmall : (H : Type) → List (DataW H) → Bool := fun _ ds => decide (uptoBulkAll ds ≤ 1048576)
def OpenSpec.upto (s : _root_.Go.ChangeSpec) : _root_.Go.OpenSpec := { _root_.Go.OpenSpec.ofChange s with cond := some uptoSmall }

/-- 'gantrylaw01.VarintNames', WHERE WHAT IT READS IS OF BULK AT MOST 1048576: true; the input reads as it did. -/
def varintNamesUptoRow : OpenClaim := { program := "ytipdfajadehkmaa", sum := "697aa747e9fd7f1cac3544a5a7f9ef1743c4c94eed37f011bd53a04d1793cbfe", func := "gantry/gantrylaw01.VarintNames", spec := "varintNames", apart := false, narrowed := true }
def VarintNamesUptoSaid : Prop := varintNamesUptoRow.holds Try.pinned (OpenSpec.upto varintNamesSpec)

/-- 'gantrylaw19.GatherNames', WHERE WHAT IT READS IS OF BULK AT MOST 1048576: true; the input reads as it did. -/
def gatherNamesUptoRow : OpenClaim := { program := "ytipdfajadehkmaa", sum := "697aa747e9fd7f1cac3544a5a7f9ef1743c4c94eed37f011bd53a04d1793cbfe", func := "gantry/gantrylaw19.GatherNames", spec := "gatherNames", apart := false, narrowed := true }
def GatherNamesUptoSaid : Prop := gatherNamesUptoRow.holds Try.pinned (OpenSpec.upto gatherNamesSpec)

/-- 'gantrylaw04.LzNames', WHERE WHAT IT READS IS OF BULK AT MOST 1048576: true; the input reads as it did. -/
def lzNamesUptoRow : OpenClaim := { program := "ytipdfajadehkmaa", sum := "697aa747e9fd7f1cac3544a5a7f9ef1743c4c94eed37f011bd53a04d1793cbfe", func := "gantry/gantrylaw04.LzNames", spec := "lzNames", apart := false, narrowed := true }
def LzNamesUptoSaid : Prop := lzNamesUptoRow.holds Try.pinned (OpenSpec.upto lzNamesSpec)

/-- 'gantrylaw01.VarintReads', WHERE WHAT IT READS IS OF BULK AT MOST 1048576: true; the input reads as it did. -/
def varintReadsUptoRow : OpenClaim := { program := "ytipdfajadehkmaa", sum := "697aa747e9fd7f1cac3544a5a7f9ef1743c4c94eed37f011bd53a04d1793cbfe", func := "gantry/gantrylaw01.VarintReads", spec := "varintReads", apart := false, narrowed := true }
def VarintReadsUptoSaid : Prop := varintReadsUptoRow.holds Try.pinned (OpenSpec.upto varintReadsSpec)

/-- 'gantrylaw01.VarintSizes', WHERE WHAT IT READS IS OF BULK AT MOST 1048576: true; the input reads as it did. -/
def varintSizesUptoRow : OpenClaim := { program := "ytipdfajadehkmaa", sum := "697aa747e9fd7f1cac3544a5a7f9ef1743c4c94eed37f011bd53a04d1793cbfe", func := "gantry/gantrylaw01.VarintSizes", spec := "varintSizes", apart := false, narrowed := true }
def VarintSizesUptoSaid : Prop := varintSizesUptoRow.holds Try.pinned (OpenSpec.upto varintSizesSpec)

/-- 'gantrylaw01.VarintAll', WHERE WHAT IT READS IS OF BULK AT MOST 1048576: true; the input reads as it did. -/
def varintAllUptoRow : OpenClaim := { program := "ytipdfajadehkmaa", sum := "697aa747e9fd7f1cac3544a5a7f9ef1743c4c94eed37f011bd53a04d1793cbfe", func := "gantry/gantrylaw01.VarintAll", spec := "varintAll", apart := false, narrowed := true }
def VarintAllUptoSaid : Prop := varintAllUptoRow.holds Try.pinned (OpenSpec.upto varintAllSpec)

/-- 'gantrylaw01.VarintPuts', WHERE WHAT IT READS IS OF BULK AT MOST 1048576: true; the input reads as it did. -/
def varintPutsUptoRow : OpenClaim := { program := "ytipdfajadehkmaa", sum := "697aa747e9fd7f1cac3544a5a7f9ef1743c4c94eed37f011bd53a04d1793cbfe", func := "gantry/gantrylaw01.VarintPuts", spec := "varintPuts", apart := false, narrowed := true }
def VarintPutsUptoSaid : Prop := varintPutsUptoRow.holds Try.pinned (OpenSpec.upto varintPutsSpec)

/-- 'gantrylaw01.VarintKinds', WHERE WHAT IT READS IS OF BULK AT MOST 1048576: true; the input reads as it did. -/
def varintKindsUptoRow : OpenClaim := { program := "ytipdfajadehkmaa", sum := "697aa747e9fd7f1cac3544a5a7f9ef1743c4c94eed37f011bd53a04d1793cbfe", func := "gantry/gantrylaw01.VarintKinds", spec := "varintKinds", apart := false, narrowed := true }
def VarintKindsUptoSaid : Prop := varintKindsUptoRow.holds Try.pinned (OpenSpec.upto varintKindsSpec)

/-- 'gantrylaw01.VarintBacks', WHERE WHAT IT READS IS OF BULK AT MOST 1048576: true; the input reads as it did. -/
def varintBacksUptoRow : OpenClaim := { program := "ytipdfajadehkmaa", sum := "697aa747e9fd7f1cac3544a5a7f9ef1743c4c94eed37f011bd53a04d1793cbfe", func := "gantry/gantrylaw01.VarintBacks", spec := "varintBacks", apart := false, narrowed := true }
def VarintBacksUptoSaid : Prop := varintBacksUptoRow.holds Try.pinned (OpenSpec.upto varintBacksSpec)

end Rows
end Go.Proofs.Ytipdfajadehkmaa
