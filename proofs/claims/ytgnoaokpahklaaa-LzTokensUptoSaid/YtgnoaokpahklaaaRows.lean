/-
  No cell of these rows narrows 'for every input' (looked for: loops, veiled, ifaces, maps, wideKeys, modest, calm, conditions, laid).
  DERIVED. THE GIVEN ROWS OF THIS SEAT. 9 by the template 'for every input the law returns true; each argument reads behind the call as it read before'; 0 by the template 'total and deterministic' (their statements: YtgnoaokpahklaaaTotals.lean).
  GIVEN WITH THE SEED: the statements are not yours to turn. If you find one false, say at which input.
  Laid BY PROGRAM, IN A SANDBOX (cutbox-rows.mjs): the forced cells as the released guide's own fill.sh prints them over the translation c74d38990da44a6c… (all of the seat's roots in one cut). By AI agents, Wed Nov 11 2026. No macro, syntax, notation, axiom, sorry.
-/
import Derived.Test.YtgnoaokpahklaaaChecked
import GoSem.Claim
import GoSem.ClaimJoined
import GoSem.ClaimMapViews
import Derived.JoinedTies
import Derived.KernelRfl
namespace Go.Proofs.Ytgnoaokpahklaaa
/- THE CELL 'sum', in the pinned program and in every row, IS THE sha256 OF THE DUMP (.gsa) THAT YtgnoaokpahklaaaProg.lean LOADS. Nothing in Lean hashes anything: it is a label: what it is worth is what the hold of that sum in a sandbox is worth. -/
noncomputable def Try.pinned : Pinned := { name := "ytgnoaokpahklaaa", sum := "c74d38990da44a6c17d7164ac5e161350ac812df6cc5863a8604de1434d9c62d", checked := Try.checked }
namespace Rows
def none {H : Type} : Left H := { results := [], args := [] }

/-- 'gantrylaw04.LzPacks': WHATEVER THE INPUT: true; the input reads as it did. -/
def lzPacksSpec : ChangeSpec := { name := "lzPacks", fn := fun _ => fun
  | [d] => { results := [.lit (.bool true)], args := [d] }
  | _ => none }
def lzPacksRow : OpenClaim := { program := "ytgnoaokpahklaaa", sum := "c74d38990da44a6c17d7164ac5e161350ac812df6cc5863a8604de1434d9c62d", func := "gantry/gantrylaw04.LzPacks", spec := "lzPacks", apart := false }
def LzPacksSaid : Prop := lzPacksRow.holds Try.pinned (OpenSpec.ofChange lzPacksSpec)

/-- ITS FALSE NEIGHBOUR: 'it returns false'. Refute it at one input. -/
def lzPacksWrong : ChangeSpec := { name := "lzPacks", fn := fun _ => fun
  | [d] => { results := [.lit (.bool false)], args := [d] }
  | _ => none }
def LzPacksWrongFalsely : Prop := lzPacksRow.holds Try.pinned (OpenSpec.ofChange lzPacksWrong)

/-- 'gantrylaw04.LzBests': WHATEVER THE INPUT: true; the input reads as it did. -/
def lzBestsSpec : ChangeSpec := { name := "lzBests", fn := fun _ => fun
  | [d1, d2] => { results := [.lit (.bool true)], args := [d1, d2] }
  | _ => none }
def lzBestsRow : OpenClaim := { program := "ytgnoaokpahklaaa", sum := "c74d38990da44a6c17d7164ac5e161350ac812df6cc5863a8604de1434d9c62d", func := "gantry/gantrylaw04.LzBests", spec := "lzBests", apart := false }
def LzBestsSaid : Prop := lzBestsRow.holds Try.pinned (OpenSpec.ofChange lzBestsSpec)

/-- ITS FALSE NEIGHBOUR: 'it returns false'. Refute it at one input. -/
def lzBestsWrong : ChangeSpec := { name := "lzBests", fn := fun _ => fun
  | [d1, d2] => { results := [.lit (.bool false)], args := [d1, d2] }
  | _ => none }
def LzBestsWrongFalsely : Prop := lzBestsRow.holds Try.pinned (OpenSpec.ofChange lzBestsWrong)

/-- 'gantrylaw04.LzUnpacks': WHATEVER THE INPUT: true; the input reads as it did. -/
def lzUnpacksSpec : ChangeSpec := { name := "lzUnpacks", fn := fun _ => fun
  | [d] => { results := [.lit (.bool true)], args := [d] }
  | _ => none }
def lzUnpacksRow : OpenClaim := { program := "ytgnoaokpahklaaa", sum := "c74d38990da44a6c17d7164ac5e161350ac812df6cc5863a8604de1434d9c62d", func := "gantry/gantrylaw04.LzUnpacks", spec := "lzUnpacks", apart := false }
def LzUnpacksSaid : Prop := lzUnpacksRow.holds Try.pinned (OpenSpec.ofChange lzUnpacksSpec)

/-- ITS FALSE NEIGHBOUR: 'it returns false'. Refute it at one input. -/
def lzUnpacksWrong : ChangeSpec := { name := "lzUnpacks", fn := fun _ => fun
  | [d] => { results := [.lit (.bool false)], args := [d] }
  | _ => none }
def LzUnpacksWrongFalsely : Prop := lzUnpacksRow.holds Try.pinned (OpenSpec.ofChange lzUnpacksWrong)

/-- 'gantrylaw04.LzBacks': WHATEVER THE INPUT: true; the input reads as it did. -/
def lzBacksSpec : ChangeSpec := { name := "lzBacks", fn := fun _ => fun
  | [d1, d2, d3] => { results := [.lit (.bool true)], args := [d1, d2, d3] }
  | _ => none }
def lzBacksRow : OpenClaim := { program := "ytgnoaokpahklaaa", sum := "c74d38990da44a6c17d7164ac5e161350ac812df6cc5863a8604de1434d9c62d", func := "gantry/gantrylaw04.LzBacks", spec := "lzBacks", apart := false }
def LzBacksSaid : Prop := lzBacksRow.holds Try.pinned (OpenSpec.ofChange lzBacksSpec)

/-- ITS FALSE NEIGHBOUR: 'it returns false'. Refute it at one input. -/
def lzBacksWrong : ChangeSpec := { name := "lzBacks", fn := fun _ => fun
  | [d1, d2, d3] => { results := [.lit (.bool false)], args := [d1, d2, d3] }
  | _ => none }
def LzBacksWrongFalsely : Prop := lzBacksRow.holds Try.pinned (OpenSpec.ofChange lzBacksWrong)

/-- 'gantrylaw04.LzBest': WHATEVER THE INPUT: true; the input reads as it did. -/
def lzBestSpec : ChangeSpec := { name := "lzBest", fn := fun _ => fun
  | [d1, d2, d3] => { results := [.lit (.bool true)], args := [d1, d2, d3] }
  | _ => none }
def lzBestRow : OpenClaim := { program := "ytgnoaokpahklaaa", sum := "c74d38990da44a6c17d7164ac5e161350ac812df6cc5863a8604de1434d9c62d", func := "gantry/gantrylaw04.LzBest", spec := "lzBest", apart := false }
def LzBestSaid : Prop := lzBestRow.holds Try.pinned (OpenSpec.ofChange lzBestSpec)

/-- ITS FALSE NEIGHBOUR: 'it returns false'. Refute it at one input. -/
def lzBestWrong : ChangeSpec := { name := "lzBest", fn := fun _ => fun
  | [d1, d2, d3] => { results := [.lit (.bool false)], args := [d1, d2, d3] }
  | _ => none }
def LzBestWrongFalsely : Prop := lzBestRow.holds Try.pinned (OpenSpec.ofChange lzBestWrong)

/-- 'gantrylaw04.LzTokens': WHATEVER THE INPUT: true; the input reads as it did. -/
def lzTokensSpec : ChangeSpec := { name := "lzTokens", fn := fun _ => fun
  | [d1, d2] => { results := [.lit (.bool true)], args := [d1, d2] }
  | _ => none }
def lzTokensRow : OpenClaim := { program := "ytgnoaokpahklaaa", sum := "c74d38990da44a6c17d7164ac5e161350ac812df6cc5863a8604de1434d9c62d", func := "gantry/gantrylaw04.LzTokens", spec := "lzTokens", apart := false }
def LzTokensSaid : Prop := lzTokensRow.holds Try.pinned (OpenSpec.ofChange lzTokensSpec)

/-- ITS FALSE NEIGHBOUR: 'it returns false'. Refute it at one input. -/
def lzTokensWrong : ChangeSpec := { name := "lzTokens", fn := fun _ => fun
  | [d1, d2] => { results := [.lit (.bool false)], args := [d1, d2] }
  | _ => none }
def LzTokensWrongFalsely : Prop := lzTokensRow.holds Try.pinned (OpenSpec.ofChange lzTokensWrong)

/-- 'gantrylaw04.LzTells': WHATEVER THE INPUT: true; the input reads as it did. -/
def lzTellsSpec : ChangeSpec := { name := "lzTells", fn := fun _ => fun
  | [d] => { results := [.lit (.bool true)], args := [d] }
  | _ => none }
def lzTellsRow : OpenClaim := { program := "ytgnoaokpahklaaa", sum := "c74d38990da44a6c17d7164ac5e161350ac812df6cc5863a8604de1434d9c62d", func := "gantry/gantrylaw04.LzTells", spec := "lzTells", apart := false }
def LzTellsSaid : Prop := lzTellsRow.holds Try.pinned (OpenSpec.ofChange lzTellsSpec)

/-- ITS FALSE NEIGHBOUR: 'it returns false'. Refute it at one input. -/
def lzTellsWrong : ChangeSpec := { name := "lzTells", fn := fun _ => fun
  | [d] => { results := [.lit (.bool false)], args := [d] }
  | _ => none }
def LzTellsWrongFalsely : Prop := lzTellsRow.holds Try.pinned (OpenSpec.ofChange lzTellsWrong)

/-- 'gantrylaw04.LzForms': WHATEVER THE INPUT: true; the input reads as it did. -/
def lzFormsSpec : ChangeSpec := { name := "lzForms", fn := fun _ => fun
  | [d] => { results := [.lit (.bool true)], args := [d] }
  | _ => none }
def lzFormsRow : OpenClaim := { program := "ytgnoaokpahklaaa", sum := "c74d38990da44a6c17d7164ac5e161350ac812df6cc5863a8604de1434d9c62d", func := "gantry/gantrylaw04.LzForms", spec := "lzForms", apart := false }
def LzFormsSaid : Prop := lzFormsRow.holds Try.pinned (OpenSpec.ofChange lzFormsSpec)

/-- ITS FALSE NEIGHBOUR: 'it returns false'. Refute it at one input. -/
def lzFormsWrong : ChangeSpec := { name := "lzForms", fn := fun _ => fun
  | [d] => { results := [.lit (.bool false)], args := [d] }
  | _ => none }
def LzFormsWrongFalsely : Prop := lzFormsRow.holds Try.pinned (OpenSpec.ofChange lzFormsWrong)

/-- 'gantrylaw04.LzKeeps': WHATEVER THE INPUT: true; the input reads as it did. -/
def lzKeepsSpec : ChangeSpec := { name := "lzKeeps", fn := fun _ => fun
  | [d1, d2] => { results := [.lit (.bool true)], args := [d1, d2] }
  | _ => none }
def lzKeepsRow : OpenClaim := { program := "ytgnoaokpahklaaa", sum := "c74d38990da44a6c17d7164ac5e161350ac812df6cc5863a8604de1434d9c62d", func := "gantry/gantrylaw04.LzKeeps", spec := "lzKeeps", apart := false }
def LzKeepsSaid : Prop := lzKeepsRow.holds Try.pinned (OpenSpec.ofChange lzKeepsSpec)

/-- ITS FALSE NEIGHBOUR: 'it returns false'. Refute it at one input. -/
def lzKeepsWrong : ChangeSpec := { name := "lzKeeps", fn := fun _ => fun
  | [d1, d2] => { results := [.lit (.bool false)], args := [d1, d2] }
  | _ => none }
def LzKeepsWrongFalsely : Prop := lzKeepsRow.holds Try.pinned (OpenSpec.ofChange lzKeepsWrong)

/- THE SECOND FORM. 'bulk': how many values and letters a reading holds, each counted each time it is reached (what is shared counts as often as it is met; a slice's spare places count too). A statement '..UptoSaid' is the law's where the arguments, and the package variables that the reading takes, are together of bulk at most 1048576: NARROWER than '..Said'. Prove '..Said' where nothing that the law and all that it calls make is longer than what came in: it says more and counts as full. Else prove '..UptoSaid'. A law counts once. -/
mutual
def uptoBulk {H : Type} : DataW H → Nat
  | .lit (.string bytes) => bytes.length + 1
  | .lit _ => 1
  | .nil => 1
  | .ptr d => uptoBulk d + 1
  | .slice elems spare => uptoBulkAll elems + uptoBulkAll spare + 1
  | .agg parts => uptoBulkAll parts + 1
  | .iface _ d => uptoBulk d + 1
  | .map entries => uptoBulkEntries entries + 1
  | .held _ => 1
def uptoBulkAll {H : Type} : List (DataW H) → Nat
  | [] => 0
  | d :: r => uptoBulk d + uptoBulkAll r
def uptoBulkEntries {H : Type} : List (Lit × DataW H) → Nat
  | [] => 0
  | x :: r => uptoBulkEntry x + uptoBulkEntries r
def uptoBulkEntry {H : Type} : Lit × DataW H → Nat
  | (.string bytes, d) => bytes.length + uptoBulk d + 1
  | (_, d) => uptoBulk d + 1
 end
def uptoSmall : (H : Type) → List (DataW H) → Bool := fun _ ds => decide (uptoBulkAll ds ≤ 1048576)
def OpenSpec.upto (s : _root_.Go.ChangeSpec) : _root_.Go.OpenSpec := { _root_.Go.OpenSpec.ofChange s with cond := some uptoSmall }

/-- 'gantrylaw04.LzPacks', WHERE WHAT IT READS IS OF BULK AT MOST 1048576: true; the input reads as it did. -/
def lzPacksUptoRow : OpenClaim := { program := "ytgnoaokpahklaaa", sum := "c74d38990da44a6c17d7164ac5e161350ac812df6cc5863a8604de1434d9c62d", func := "gantry/gantrylaw04.LzPacks", spec := "lzPacks", apart := false, narrowed := true }
def LzPacksUptoSaid : Prop := lzPacksUptoRow.holds Try.pinned (OpenSpec.upto lzPacksSpec)

/-- 'gantrylaw04.LzBests', WHERE WHAT IT READS IS OF BULK AT MOST 1048576: true; the input reads as it did. -/
def lzBestsUptoRow : OpenClaim := { program := "ytgnoaokpahklaaa", sum := "c74d38990da44a6c17d7164ac5e161350ac812df6cc5863a8604de1434d9c62d", func := "gantry/gantrylaw04.LzBests", spec := "lzBests", apart := false, narrowed := true }
def LzBestsUptoSaid : Prop := lzBestsUptoRow.holds Try.pinned (OpenSpec.upto lzBestsSpec)

/-- 'gantrylaw04.LzUnpacks', WHERE WHAT IT READS IS OF BULK AT MOST 1048576: true; the input reads as it did. -/
def lzUnpacksUptoRow : OpenClaim := { program := "ytgnoaokpahklaaa", sum := "c74d38990da44a6c17d7164ac5e161350ac812df6cc5863a8604de1434d9c62d", func := "gantry/gantrylaw04.LzUnpacks", spec := "lzUnpacks", apart := false, narrowed := true }
def LzUnpacksUptoSaid : Prop := lzUnpacksUptoRow.holds Try.pinned (OpenSpec.upto lzUnpacksSpec)

/-- 'gantrylaw04.LzBacks', WHERE WHAT IT READS IS OF BULK AT MOST 1048576: true; the input reads as it did. -/
def lzBacksUptoRow : OpenClaim := { program := "ytgnoaokpahklaaa", sum := "c74d38990da44a6c17d7164ac5e161350ac812df6cc5863a8604de1434d9c62d", func := "gantry/gantrylaw04.LzBacks", spec := "lzBacks", apart := false, narrowed := true }
def LzBacksUptoSaid : Prop := lzBacksUptoRow.holds Try.pinned (OpenSpec.upto lzBacksSpec)

/-- 'gantrylaw04.LzBest', WHERE WHAT IT READS IS OF BULK AT MOST 1048576: true; the input reads as it did. -/
def lzBestUptoRow : OpenClaim := { program := "ytgnoaokpahklaaa", sum := "c74d38990da44a6c17d7164ac5e161350ac812df6cc5863a8604de1434d9c62d", func := "gantry/gantrylaw04.LzBest", spec := "lzBest", apart := false, narrowed := true }
def LzBestUptoSaid : Prop := lzBestUptoRow.holds Try.pinned (OpenSpec.upto lzBestSpec)

/-- 'gantrylaw04.LzTokens', WHERE WHAT IT READS IS OF BULK AT MOST 1048576: true; the input reads as it did. -/
def lzTokensUptoRow : OpenClaim := { program := "ytgnoaokpahklaaa", sum := "c74d38990da44a6c17d7164ac5e161350ac812df6cc5863a8604de1434d9c62d", func := "gantry/gantrylaw04.LzTokens", spec := "lzTokens", apart := false, narrowed := true }
def LzTokensUptoSaid : Prop := lzTokensUptoRow.holds Try.pinned (OpenSpec.upto lzTokensSpec)

/-- 'gantrylaw04.LzTells', WHERE WHAT IT READS IS OF BULK AT MOST 1048576: true; the input reads as it did. -/
def lzTellsUptoRow : OpenClaim := { program := "ytgnoaokpahklaaa", sum := "c74d38990da44a6c17d7164ac5e161350ac812df6cc5863a8604de1434d9c62d", func := "gantry/gantrylaw04.LzTells", spec := "lzTells", apart := false, narrowed := true }
def LzTellsUptoSaid : Prop := lzTellsUptoRow.holds Try.pinned (OpenSpec.upto lzTellsSpec)

/-- 'gantrylaw04.LzForms', WHERE WHAT IT READS IS OF BULK AT MOST 1048576: true; the input reads as it did. -/
def lzFormsUptoRow : OpenClaim := { program := "ytgnoaokpahklaaa", sum := "c74d38990da44a6c17d7164ac5e161350ac812df6cc5863a8604de1434d9c62d", func := "gantry/gantrylaw04.LzForms", spec := "lzForms", apart := false, narrowed := true }
def LzFormsUptoSaid : Prop := lzFormsUptoRow.holds Try.pinned (OpenSpec.upto lzFormsSpec)

/-- 'gantrylaw04.LzKeeps', WHERE WHAT IT READS IS OF BULK AT MOST 1048576: true; the input reads as it did. -/
def lzKeepsUptoRow : OpenClaim := { program := "ytgnoaokpahklaaa", sum := "c74d38990da44a6c17d7164ac5e161350ac812df6cc5863a8604de1434d9c62d", func := "gantry/gantrylaw04.LzKeeps", spec := "lzKeeps", apart := false, narrowed := true }
def LzKeepsUptoSaid : Prop := lzKeepsUptoRow.holds Try.pinned (OpenSpec.upto lzKeepsSpec)

end Rows
end Go.Proofs.Ytgnoaokpahklaaa
