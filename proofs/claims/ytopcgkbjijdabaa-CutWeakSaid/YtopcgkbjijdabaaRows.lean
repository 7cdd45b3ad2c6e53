/-
  No cell of these rows narrows 'for every input' (looked for: loops, veiled, ifaces, maps, wideKeys, modest, calm, conditions, laid).
  DERIVED. THE GIVEN ROWS OF THIS SEAT. 12 by the template 'for every input the law returns true; each argument reads behind the call as it read before'; 0 by the template 'total and deterministic' (their statements: YtopcgkbjijdabaaTotals.lean).
  GIVEN WITH THE SEED: the statements are not yours to turn. If you find one false, say at which input.
  Laid BY PROGRAM, IN A SANDBOX (cutbox-rows.mjs): the forced cells as the released guide's own fill.sh prints them over the translation 6ab4a0eaf0140226… (all of the seat's roots in one cut). By AI agents, Wed Nov 11 2026. No macro, syntax, notation, axiom, sorry.
-/
import Derived.Test.YtopcgkbjijdabaaChecked
import GoSem.Claim
import GoSem.ClaimJoined
import GoSem.ClaimMapViews
import Derived.JoinedTies
import Derived.KernelRfl
namespace Go.Proofs.Ytopcgkbjijdabaa
/- THE CELL 'sum', in the pinned program and in every row, IS THE sha256 OF THE DUMP (.gsa) THAT YtopcgkbjijdabaaProg.lean LOADS. Nothing in Lean hashes anything: it is a label: what it is worth is what the hold of that sum in a sandbox is worth. -/
noncomputable def Try.pinned : Pinned := { name := "ytopcgkbjijdabaa", sum := "6ab4a0eaf01402265e470db7dc8fdacadf43d2d56735227489e934c1421ea5d1", checked := Try.checked }
namespace Rows
def none {H : Type} : Left H := { results := [], args := [] }

/-- 'racewaylaw1.NumBounds': WHATEVER THE INPUT: true; the input reads as it did. -/
def numBoundsSpec : ChangeSpec := { name := "numBounds", fn := fun _ => fun
  | [d1, d2] => { results := [.lit (.bool true)], args := [d1, d2] }
  | _ => none }
def numBoundsRow : OpenClaim := { program := "ytopcgkbjijdabaa", sum := "6ab4a0eaf01402265e470db7dc8fdacadf43d2d56735227489e934c1421ea5d1", func := "raceway/racewaylaw1.NumBounds", spec := "numBounds", apart := false }
def NumBoundsSaid : Prop := numBoundsRow.holds Try.pinned (OpenSpec.ofChange numBoundsSpec)

/-- ITS FALSE NEIGHBOUR: 'it returns false'. Refute it at one input. -/
def numBoundsWrong : ChangeSpec := { name := "numBounds", fn := fun _ => fun
  | [d1, d2] => { results := [.lit (.bool false)], args := [d1, d2] }
  | _ => none }
def NumBoundsWrongFalsely : Prop := numBoundsRow.holds Try.pinned (OpenSpec.ofChange numBoundsWrong)

/-- 'racewaylaw1.NumBack': WHATEVER THE INPUT: true; the input reads as it did. -/
def numBackSpec : ChangeSpec := { name := "numBack", fn := fun _ => fun
  | [d1, d2] => { results := [.lit (.bool true)], args := [d1, d2] }
  | _ => none }
def numBackRow : OpenClaim := { program := "ytopcgkbjijdabaa", sum := "6ab4a0eaf01402265e470db7dc8fdacadf43d2d56735227489e934c1421ea5d1", func := "raceway/racewaylaw1.NumBack", spec := "numBack", apart := false }
def NumBackSaid : Prop := numBackRow.holds Try.pinned (OpenSpec.ofChange numBackSpec)

/-- ITS FALSE NEIGHBOUR: 'it returns false'. Refute it at one input. -/
def numBackWrong : ChangeSpec := { name := "numBack", fn := fun _ => fun
  | [d1, d2] => { results := [.lit (.bool false)], args := [d1, d2] }
  | _ => none }
def NumBackWrongFalsely : Prop := numBackRow.holds Try.pinned (OpenSpec.ofChange numBackWrong)

/-- 'racewaylaw1.NumSigns': WHATEVER THE INPUT: true; the input reads as it did. -/
def numSignsSpec : ChangeSpec := { name := "numSigns", fn := fun _ => fun
  | [d1, d2] => { results := [.lit (.bool true)], args := [d1, d2] }
  | _ => none }
def numSignsRow : OpenClaim := { program := "ytopcgkbjijdabaa", sum := "6ab4a0eaf01402265e470db7dc8fdacadf43d2d56735227489e934c1421ea5d1", func := "raceway/racewaylaw1.NumSigns", spec := "numSigns", apart := false }
def NumSignsSaid : Prop := numSignsRow.holds Try.pinned (OpenSpec.ofChange numSignsSpec)

/-- ITS FALSE NEIGHBOUR: 'it returns false'. Refute it at one input. -/
def numSignsWrong : ChangeSpec := { name := "numSigns", fn := fun _ => fun
  | [d1, d2] => { results := [.lit (.bool false)], args := [d1, d2] }
  | _ => none }
def NumSignsWrongFalsely : Prop := numSignsRow.holds Try.pinned (OpenSpec.ofChange numSignsWrong)

/-- 'racewaylaw1.NumRows': WHATEVER THE INPUT: true; the input reads as it did. -/
def numRowsSpec : ChangeSpec := { name := "numRows", fn := fun _ => fun
  | [d1, d2] => { results := [.lit (.bool true)], args := [d1, d2] }
  | _ => none }
def numRowsRow : OpenClaim := { program := "ytopcgkbjijdabaa", sum := "6ab4a0eaf01402265e470db7dc8fdacadf43d2d56735227489e934c1421ea5d1", func := "raceway/racewaylaw1.NumRows", spec := "numRows", unfollowed := true, recurses := true, apart := false }
def NumRowsSaid : Prop := numRowsRow.holds Try.pinned (OpenSpec.ofChange numRowsSpec)

/-- ITS FALSE NEIGHBOUR: 'it returns false'. Refute it at one input. -/
def numRowsWrong : ChangeSpec := { name := "numRows", fn := fun _ => fun
  | [d1, d2] => { results := [.lit (.bool false)], args := [d1, d2] }
  | _ => none }
def NumRowsWrongFalsely : Prop := numRowsRow.holds Try.pinned (OpenSpec.ofChange numRowsWrong)

/-- 'racewaylaw1.NumSorts': WHATEVER THE INPUT: true; the input reads as it did. -/
def numSortsSpec : ChangeSpec := { name := "numSorts", fn := fun _ => fun
  | [d1, d2, d3] => { results := [.lit (.bool true)], args := [d1, d2, d3] }
  | _ => none }
def numSortsRow : OpenClaim := { program := "ytopcgkbjijdabaa", sum := "6ab4a0eaf01402265e470db7dc8fdacadf43d2d56735227489e934c1421ea5d1", func := "raceway/racewaylaw1.NumSorts", spec := "numSorts", unfollowed := true, recurses := true, apart := false }
def NumSortsSaid : Prop := numSortsRow.holds Try.pinned (OpenSpec.ofChange numSortsSpec)

/-- ITS FALSE NEIGHBOUR: 'it returns false'. Refute it at one input. -/
def numSortsWrong : ChangeSpec := { name := "numSorts", fn := fun _ => fun
  | [d1, d2, d3] => { results := [.lit (.bool false)], args := [d1, d2, d3] }
  | _ => none }
def NumSortsWrongFalsely : Prop := numSortsRow.holds Try.pinned (OpenSpec.ofChange numSortsWrong)

/-- 'racewaylaw1.NumPowers': WHATEVER THE INPUT: true; the input reads as it did. -/
def numPowersSpec : ChangeSpec := { name := "numPowers", fn := fun _ => fun
  | [d1, d2] => { results := [.lit (.bool true)], args := [d1, d2] }
  | _ => none }
def numPowersRow : OpenClaim := { program := "ytopcgkbjijdabaa", sum := "6ab4a0eaf01402265e470db7dc8fdacadf43d2d56735227489e934c1421ea5d1", func := "raceway/racewaylaw1.NumPowers", spec := "numPowers", apart := false }
def NumPowersSaid : Prop := numPowersRow.holds Try.pinned (OpenSpec.ofChange numPowersSpec)

/-- ITS FALSE NEIGHBOUR: 'it returns false'. Refute it at one input. -/
def numPowersWrong : ChangeSpec := { name := "numPowers", fn := fun _ => fun
  | [d1, d2] => { results := [.lit (.bool false)], args := [d1, d2] }
  | _ => none }
def NumPowersWrongFalsely : Prop := numPowersRow.holds Try.pinned (OpenSpec.ofChange numPowersWrong)

/-- 'racewaylaw1.NumSpread': WHATEVER THE INPUT: true; the input reads as it did. -/
def numSpreadSpec : ChangeSpec := { name := "numSpread", fn := fun _ => fun
  | [d1, d2, d3] => { results := [.lit (.bool true)], args := [d1, d2, d3] }
  | _ => none }
def numSpreadRow : OpenClaim := { program := "ytopcgkbjijdabaa", sum := "6ab4a0eaf01402265e470db7dc8fdacadf43d2d56735227489e934c1421ea5d1", func := "raceway/racewaylaw1.NumSpread", spec := "numSpread", apart := false }
def NumSpreadSaid : Prop := numSpreadRow.holds Try.pinned (OpenSpec.ofChange numSpreadSpec)

/-- ITS FALSE NEIGHBOUR: 'it returns false'. Refute it at one input. -/
def numSpreadWrong : ChangeSpec := { name := "numSpread", fn := fun _ => fun
  | [d1, d2, d3] => { results := [.lit (.bool false)], args := [d1, d2, d3] }
  | _ => none }
def NumSpreadWrongFalsely : Prop := numSpreadRow.holds Try.pinned (OpenSpec.ofChange numSpreadWrong)

/-- 'racewaylaw1.NumTells': WHATEVER THE INPUT: true; the input reads as it did. -/
def numTellsSpec : ChangeSpec := { name := "numTells", fn := fun _ => fun
  | [d1, d2, d3] => { results := [.lit (.bool true)], args := [d1, d2, d3] }
  | _ => none }
def numTellsRow : OpenClaim := { program := "ytopcgkbjijdabaa", sum := "6ab4a0eaf01402265e470db7dc8fdacadf43d2d56735227489e934c1421ea5d1", func := "raceway/racewaylaw1.NumTells", spec := "numTells", unfollowed := true, recurses := true, apart := false }
def NumTellsSaid : Prop := numTellsRow.holds Try.pinned (OpenSpec.ofChange numTellsSpec)

/-- ITS FALSE NEIGHBOUR: 'it returns false'. Refute it at one input. -/
def numTellsWrong : ChangeSpec := { name := "numTells", fn := fun _ => fun
  | [d1, d2, d3] => { results := [.lit (.bool false)], args := [d1, d2, d3] }
  | _ => none }
def NumTellsWrongFalsely : Prop := numTellsRow.holds Try.pinned (OpenSpec.ofChange numTellsWrong)

/-- 'racewaylaw18.BudgetGrows': WHATEVER THE INPUT: true; the input reads as it did. -/
def budgetGrowsSpec : ChangeSpec := { name := "budgetGrows", fn := fun _ => fun
  | [d1, d2, d3, d4] => { results := [.lit (.bool true)], args := [d1, d2, d3, d4] }
  | _ => none }
def budgetGrowsRow : OpenClaim := { program := "ytopcgkbjijdabaa", sum := "6ab4a0eaf01402265e470db7dc8fdacadf43d2d56735227489e934c1421ea5d1", func := "raceway/racewaylaw18.BudgetGrows", spec := "budgetGrows", unfollowed := true, recurses := true, apart := false }
def BudgetGrowsSaid : Prop := budgetGrowsRow.holds Try.pinned (OpenSpec.ofChange budgetGrowsSpec)

/-- ITS FALSE NEIGHBOUR: 'it returns false'. Refute it at one input. -/
def budgetGrowsWrong : ChangeSpec := { name := "budgetGrows", fn := fun _ => fun
  | [d1, d2, d3, d4] => { results := [.lit (.bool false)], args := [d1, d2, d3, d4] }
  | _ => none }
def BudgetGrowsWrongFalsely : Prop := budgetGrowsRow.holds Try.pinned (OpenSpec.ofChange budgetGrowsWrong)

/-- 'racewaylaw18.BudgetShares': WHATEVER THE INPUT: true; the input reads as it did. -/
def budgetSharesSpec : ChangeSpec := { name := "budgetShares", fn := fun _ => fun
  | [d1, d2, d3] => { results := [.lit (.bool true)], args := [d1, d2, d3] }
  | _ => none }
def budgetSharesRow : OpenClaim := { program := "ytopcgkbjijdabaa", sum := "6ab4a0eaf01402265e470db7dc8fdacadf43d2d56735227489e934c1421ea5d1", func := "raceway/racewaylaw18.BudgetShares", spec := "budgetShares", unfollowed := true, recurses := true, apart := false }
def BudgetSharesSaid : Prop := budgetSharesRow.holds Try.pinned (OpenSpec.ofChange budgetSharesSpec)

/-- ITS FALSE NEIGHBOUR: 'it returns false'. Refute it at one input. -/
def budgetSharesWrong : ChangeSpec := { name := "budgetShares", fn := fun _ => fun
  | [d1, d2, d3] => { results := [.lit (.bool false)], args := [d1, d2, d3] }
  | _ => none }
def BudgetSharesWrongFalsely : Prop := budgetSharesRow.holds Try.pinned (OpenSpec.ofChange budgetSharesWrong)

/-- 'racewaylaw14.CutMoves': WHATEVER THE INPUT: true; the input reads as it did. -/
def cutMovesSpec : ChangeSpec := { name := "cutMoves", fn := fun _ => fun
  | [d1, d2, d3, d4, d5] => { results := [.lit (.bool true)], args := [d1, d2, d3, d4, d5] }
  | _ => none }
def cutMovesRow : OpenClaim := { program := "ytopcgkbjijdabaa", sum := "6ab4a0eaf01402265e470db7dc8fdacadf43d2d56735227489e934c1421ea5d1", func := "raceway/racewaylaw14.CutMoves", spec := "cutMoves", unfollowed := true, recurses := true, apart := false }
def CutMovesSaid : Prop := cutMovesRow.holds Try.pinned (OpenSpec.ofChange cutMovesSpec)

/-- ITS FALSE NEIGHBOUR: 'it returns false'. Refute it at one input. -/
def cutMovesWrong : ChangeSpec := { name := "cutMoves", fn := fun _ => fun
  | [d1, d2, d3, d4, d5] => { results := [.lit (.bool false)], args := [d1, d2, d3, d4, d5] }
  | _ => none }
def CutMovesWrongFalsely : Prop := cutMovesRow.holds Try.pinned (OpenSpec.ofChange cutMovesWrong)

/-- 'racewaylaw14.CutWeak': WHATEVER THE INPUT: true; the input reads as it did. -/
def cutWeakSpec : ChangeSpec := { name := "cutWeak", fn := fun _ => fun
  | [d1, d2, d3, d4, d5] => { results := [.lit (.bool true)], args := [d1, d2, d3, d4, d5] }
  | _ => none }
def cutWeakRow : OpenClaim := { program := "ytopcgkbjijdabaa", sum := "6ab4a0eaf01402265e470db7dc8fdacadf43d2d56735227489e934c1421ea5d1", func := "raceway/racewaylaw14.CutWeak", spec := "cutWeak", unfollowed := true, recurses := true, apart := false }
def CutWeakSaid : Prop := cutWeakRow.holds Try.pinned (OpenSpec.ofChange cutWeakSpec)

/-- ITS FALSE NEIGHBOUR: 'it returns false'. Refute it at one input. -/
def cutWeakWrong : ChangeSpec := { name := "cutWeak", fn := fun _ => fun
  | [d1, d2, d3, d4, d5] => { results := [.lit (.bool false)], args := [d1, d2, d3, d4, d5] }
  | _ => none }
def CutWeakWrongFalsely : Prop := cutWeakRow.holds Try.pinned (OpenSpec.ofChange cutWeakWrong)

/- THE SECOND FORM. 'bulk': how many values and letters a reading holds, each counted each time it is reached (what is shared counts as often as it is met; a slice's spare places count too). A statement '..UptoSaid' is the law's where the arguments, and the package variables that the reading takes, are together of bulk at most 1048576: NARROWER than '..Said'. Prove '..Said' where nothing that the law and all that it calls make is longer than what came in: it says more and counts as full. Else prove '..UptoSaid'. A law counts once. -/
mutual
def uptoBulk {H : Type} : DataW H → Nat
  | .lit (.string bytes) => bytes.length + 1
  | .lit _ => 1
  | .nil => 1
  | .ptr d => uptoBulk d + 1
  | .slice elems spare => uptoBulkAll elems + uptoBulkAll spare + 1
  | .agg parts => uptoBulkAll parts + 1
  | .iface _ d => uptoBulk d + 1
  | .map entries => uptoBulkEntries entries + 1
  | .held _ => 1
def uptoBulkAll {H : Type} : List (DataW H) → Nat
  | [] => 0
  | d :: r => uptoBulk d + uptoBulkAll r
def uptoBulkEntries {H : Type} : List (Lit × DataW H) → Nat
  | [] => 0
  | x :: r => uptoBulkEntry x + uptoBulkEntries r
def uptoBulkEntry {H : Type} : Lit × DataW H → Nat
  | (.string bytes, d) => bytes.length + uptoBulk d + 1
  | (_, d) => uptoBulk d + 1
 end
def uptoSmall : (H : Type) → List (DataW H) → Bool := fun _ ds => decide (uptoBulkAll ds ≤ 1048576)
def OpenSpec.upto (s : _root_.Go.ChangeSpec) : _root_.Go.OpenSpec := { _root_.Go.OpenSpec.ofChange s with cond := some uptoSmall }

/-- 'racewaylaw1.NumBounds', WHERE WHAT IT READS IS OF BULK AT MOST 1048576: true; the input reads as it did. -/
def numBoundsUptoRow : OpenClaim := { program := "ytopcgkbjijdabaa", sum := "6ab4a0eaf01402265e470db7dc8fdacadf43d2d56735227489e934c1421ea5d1", func := "raceway/racewaylaw1.NumBounds", spec := "numBounds", apart := false, narrowed := true }
def NumBoundsUptoSaid : Prop := numBoundsUptoRow.holds Try.pinned (OpenSpec.upto numBoundsSpec)

/-- 'racewaylaw1.NumBack', WHERE WHAT IT READS IS OF BULK AT MOST 1048576: true; the input reads as it did. -/
def numBackUptoRow : OpenClaim := { program := "ytopcgkbjijdabaa", sum := "6ab4a0eaf01402265e470db7dc8fdacadf43d2d56735227489e934c1421ea5d1", func := "raceway/racewaylaw1.NumBack", spec := "numBack", apart := false, narrowed := true }
def NumBackUptoSaid : Prop := numBackUptoRow.holds Try.pinned (OpenSpec.upto numBackSpec)

/-- 'racewaylaw1.NumSigns', WHERE WHAT IT READS IS OF BULK AT MOST 1048576: true; the input reads as it did. -/
def numSignsUptoRow : OpenClaim := { program := "ytopcgkbjijdabaa", sum := "6ab4a0eaf01402265e470db7dc8fdacadf43d2d56735227489e934c1421ea5d1", func := "raceway/racewaylaw1.NumSigns", spec := "numSigns", apart := false, narrowed := true }
def NumSignsUptoSaid : Prop := numSignsUptoRow.holds Try.pinned (OpenSpec.upto numSignsSpec)

/-- 'racewaylaw1.NumRows', WHERE WHAT IT READS IS OF BULK AT MOST 1048576: true; the input reads as it did. -/
def numRowsUptoRow : OpenClaim := { program := "ytopcgkbjijdabaa", sum := "6ab4a0eaf01402265e470db7dc8fdacadf43d2d56735227489e934c1421ea5d1", func := "raceway/racewaylaw1.NumRows", spec := "numRows", unfollowed := true, recurses := true, apart := false, narrowed := true }
def NumRowsUptoSaid : Prop := numRowsUptoRow.holds Try.pinned (OpenSpec.upto numRowsSpec)

/-- 'racewaylaw1.NumSorts', WHERE WHAT IT READS IS OF BULK AT MOST 1048576: true; the input reads as it did. -/
def numSortsUptoRow : OpenClaim := { program := "ytopcgkbjijdabaa", sum := "6ab4a0eaf01402265e470db7dc8fdacadf43d2d56735227489e934c1421ea5d1", func := "raceway/racewaylaw1.NumSorts", spec := "numSorts", unfollowed := true, recurses := true, apart := false, narrowed := true }
def NumSortsUptoSaid : Prop := numSortsUptoRow.holds Try.pinned (OpenSpec.upto numSortsSpec)

/-- 'racewaylaw1.NumPowers', WHERE WHAT IT READS IS OF BULK AT MOST 1048576: true; the input reads as it did. -/
def numPowersUptoRow : OpenClaim := { program := "ytopcgkbjijdabaa", sum := "6ab4a0eaf01402265e470db7dc8fdacadf43d2d56735227489e934c1421ea5d1", func := "raceway/racewaylaw1.NumPowers", spec := "numPowers", apart := false, narrowed := true }
def NumPowersUptoSaid : Prop := numPowersUptoRow.holds Try.pinned (OpenSpec.upto numPowersSpec)

/-- 'racewaylaw1.NumSpread', WHERE WHAT IT READS IS OF BULK AT MOST 1048576: true; the input reads as it did. -/
def numSpreadUptoRow : OpenClaim := { program := "ytopcgkbjijdabaa", sum := "6ab4a0eaf01402265e470db7dc8fdacadf43d2d56735227489e934c1421ea5d1", func := "raceway/racewaylaw1.NumSpread", spec := "numSpread", apart := false, narrowed := true }
def NumSpreadUptoSaid : Prop := numSpreadUptoRow.holds Try.pinned (OpenSpec.upto numSpreadSpec)

/-- 'racewaylaw1.NumTells', WHERE WHAT IT READS IS OF BULK AT MOST 1048576: true; the input reads as it did. -/
def numTellsUptoRow : OpenClaim := { program := "ytopcgkbjijdabaa", sum := "6ab4a0eaf01402265e470db7dc8fdacadf43d2d56735227489e934c1421ea5d1", func := "raceway/racewaylaw1.NumTells", spec := "numTells", unfollowed := true, recurses := true, apart := false, narrowed := true }
def NumTellsUptoSaid : Prop := numTellsUptoRow.holds Try.pinned (OpenSpec.upto numTellsSpec)

/-- 'racewaylaw18.BudgetGrows', WHERE WHAT IT READS IS OF BULK AT MOST 1048576: true; the input reads as it did. -/
def budgetGrowsUptoRow : OpenClaim := { program := "ytopcgkbjijdabaa", sum := "6ab4a0eaf01402265e470db7dc8fdacadf43d2d56735227489e934c1421ea5d1", func := "raceway/racewaylaw18.BudgetGrows", spec := "budgetGrows", unfollowed := true, recurses := true, apart := false, narrowed := true }
def BudgetGrowsUptoSaid : Prop := budgetGrowsUptoRow.holds Try.pinned (OpenSpec.upto budgetGrowsSpec)

/-- 'racewaylaw18.BudgetShares', WHERE WHAT IT READS IS OF BULK AT MOST 1048576: true; the input reads as it did. -/
def budgetSharesUptoRow : OpenClaim := { program := "ytopcgkbjijdabaa", sum := "6ab4a0eaf01402265e470db7dc8fdacadf43d2d56735227489e934c1421ea5d1", func := "raceway/racewaylaw18.BudgetShares", spec := "budgetShares", unfollowed := true, recurses := true, apart := false, narrowed := true }
def BudgetSharesUptoSaid : Prop := budgetSharesUptoRow.holds Try.pinned (OpenSpec.upto budgetSharesSpec)

/-- 'racewaylaw14.CutMoves', WHERE WHAT IT READS IS OF BULK AT MOST 1048576: true; the input reads as it did. -/
def cutMovesUptoRow : OpenClaim := { program := "ytopcgkbjijdabaa", sum := "6ab4a0eaf01402265e470db7dc8fdacadf43d2d56735227489e934c1421ea5d1", func := "raceway/racewaylaw14.CutMoves", spec := "cutMoves", unfollowed := true, recurses := true, apart := false, narrowed := true }
def CutMovesUptoSaid : Prop := cutMovesUptoRow.holds Try.pinned (OpenSpec.upto cutMovesSpec)

/-- 'racewaylaw14.CutWeak', WHERE WHAT IT READS IS OF BULK AT MOST 1048576: true; the input reads as it did. -/
def cutWeakUptoRow : OpenClaim := { program := "ytopcgkbjijdabaa", sum := "6ab4a0eaf01402265e470db7dc8fdacadf43d2d56735227489e934c1421ea5d1", func := "raceway/racewaylaw14.CutWeak", spec := "cutWeak", unfollowed := true, recurses := true, apart := false, narrowed := true }
def CutWeakUptoSaid : Prop := cutWeakUptoRow.holds Try.pinned (OpenSpec.upto cutWeakSpec)

end Rows
end Go.Proofs.Ytopcgkbjijdabaa
