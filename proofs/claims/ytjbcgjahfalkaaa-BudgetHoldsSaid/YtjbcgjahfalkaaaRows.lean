/-
  No cell of these rows narrows 'for every input' (looked for: loops, veiled, ifaces, maps, wideKeys, modest, calm, conditions, laid).
  DERIVED. THE GIVEN ROWS OF THIS SEAT. 12 by the template 'for every input the law returns true; each argument reads behind the call as it read before'; 0 by the template 'total and deterministic' (their statements: YtjbcgjahfalkaaaTotals.lean).
  GIVEN WITH THE SEED: the statements are not yours to turn. If you find one false, say at which input.
  Laid BY PROGRAM, IN A SANDBOX (cutbox-rows.mjs): the forced cells as the released guide's own fill.sh prints them over the translation cb3dd458cbbabdd6… (all of the seat's roots in one cut). By AI agents, Wed Nov 11 2026. No macro, syntax, notation, axiom, sorry.
-/
import Derived.Test.YtjbcgjahfalkaaaChecked
import GoSem.Claim
import GoSem.ClaimJoined
import GoSem.ClaimMapViews
import Derived.JoinedTies
import Derived.KernelRfl
namespace Go.Proofs.Ytjbcgjahfalkaaa
/- THE CELL 'sum', in the pinned program and in every row, IS THE sha256 OF THE DUMP (.gsa) THAT YtjbcgjahfalkaaaProg.lean LOADS. Nothing in Lean hashes anything: it is a label: what it is worth is what the hold of that sum in a sandbox is worth. -/
noncomputable def Try.pinned : Pinned := { name := "ytjbcgjahfalkaaa", sum := "cb3dd458cbbabdd652032fa153a32a4d802394391001655ac455c03c570b5cf9", checked := Try.checked }
namespace Rows
def none {H : Type} : Left H := { results := [], args := [] }

/-- 'racewaylaw12.DinicMost': WHATEVER THE INPUT: true; the input reads as it did. -/
def dinicMostSpec : ChangeSpec := { name := "dinicMost", fn := fun _ => fun
  | [d1, d2, d3, d4, d5] => { results := [.lit (.bool true)], args := [d1, d2, d3, d4, d5] }
  | _ => none }
def dinicMostRow : OpenClaim := { program := "ytjbcgjahfalkaaa", sum := "cb3dd458cbbabdd652032fa153a32a4d802394391001655ac455c03c570b5cf9", func := "raceway/racewaylaw12.DinicMost", spec := "dinicMost", unfollowed := true, recurses := true, apart := false }
def DinicMostSaid : Prop := dinicMostRow.holds Try.pinned (OpenSpec.ofChange dinicMostSpec)

/-- ITS FALSE NEIGHBOUR: 'it returns false'. Refute it at one input. -/
def dinicMostWrong : ChangeSpec := { name := "dinicMost", fn := fun _ => fun
  | [d1, d2, d3, d4, d5] => { results := [.lit (.bool false)], args := [d1, d2, d3, d4, d5] }
  | _ => none }
def DinicMostWrongFalsely : Prop := dinicMostRow.holds Try.pinned (OpenSpec.ofChange dinicMostWrong)

/-- 'racewaylaw12.DinicTurned': WHATEVER THE INPUT: true; the input reads as it did. -/
def dinicTurnedSpec : ChangeSpec := { name := "dinicTurned", fn := fun _ => fun
  | [d1, d2, d3, d4, d5] => { results := [.lit (.bool true)], args := [d1, d2, d3, d4, d5] }
  | _ => none }
def dinicTurnedRow : OpenClaim := { program := "ytjbcgjahfalkaaa", sum := "cb3dd458cbbabdd652032fa153a32a4d802394391001655ac455c03c570b5cf9", func := "raceway/racewaylaw12.DinicTurned", spec := "dinicTurned", unfollowed := true, recurses := true, apart := false }
def DinicTurnedSaid : Prop := dinicTurnedRow.holds Try.pinned (OpenSpec.ofChange dinicTurnedSpec)

/-- ITS FALSE NEIGHBOUR: 'it returns false'. Refute it at one input. -/
def dinicTurnedWrong : ChangeSpec := { name := "dinicTurned", fn := fun _ => fun
  | [d1, d2, d3, d4, d5] => { results := [.lit (.bool false)], args := [d1, d2, d3, d4, d5] }
  | _ => none }
def DinicTurnedWrongFalsely : Prop := dinicTurnedRow.holds Try.pinned (OpenSpec.ofChange dinicTurnedWrong)

/-- 'racewaylaw14.CutFull': WHATEVER THE INPUT: true; the input reads as it did. -/
def cutFullSpec : ChangeSpec := { name := "cutFull", fn := fun _ => fun
  | [d1, d2, d3] => { results := [.lit (.bool true)], args := [d1, d2, d3] }
  | _ => none }
def cutFullRow : OpenClaim := { program := "ytjbcgjahfalkaaa", sum := "cb3dd458cbbabdd652032fa153a32a4d802394391001655ac455c03c570b5cf9", func := "raceway/racewaylaw14.CutFull", spec := "cutFull", unfollowed := true, recurses := true, apart := false }
def CutFullSaid : Prop := cutFullRow.holds Try.pinned (OpenSpec.ofChange cutFullSpec)

/-- ITS FALSE NEIGHBOUR: 'it returns false'. Refute it at one input. -/
def cutFullWrong : ChangeSpec := { name := "cutFull", fn := fun _ => fun
  | [d1, d2, d3] => { results := [.lit (.bool false)], args := [d1, d2, d3] }
  | _ => none }
def CutFullWrongFalsely : Prop := cutFullRow.holds Try.pinned (OpenSpec.ofChange cutFullWrong)

/-- 'racewaylaw13.ScaleLarge': WHATEVER THE INPUT: true; the input reads as it did. -/
def scaleLargeSpec : ChangeSpec := { name := "scaleLarge", fn := fun _ => fun
  | [d1, d2, d3, d4] => { results := [.lit (.bool true)], args := [d1, d2, d3, d4] }
  | _ => none }
def scaleLargeRow : OpenClaim := { program := "ytjbcgjahfalkaaa", sum := "cb3dd458cbbabdd652032fa153a32a4d802394391001655ac455c03c570b5cf9", func := "raceway/racewaylaw13.ScaleLarge", spec := "scaleLarge", unfollowed := true, recurses := true, apart := false }
def ScaleLargeSaid : Prop := scaleLargeRow.holds Try.pinned (OpenSpec.ofChange scaleLargeSpec)

/-- ITS FALSE NEIGHBOUR: 'it returns false'. Refute it at one input. -/
def scaleLargeWrong : ChangeSpec := { name := "scaleLarge", fn := fun _ => fun
  | [d1, d2, d3, d4] => { results := [.lit (.bool false)], args := [d1, d2, d3, d4] }
  | _ => none }
def ScaleLargeWrongFalsely : Prop := scaleLargeRow.holds Try.pinned (OpenSpec.ofChange scaleLargeWrong)

/-- 'racewaylaw13.ScaleSame': WHATEVER THE INPUT: true; the input reads as it did. -/
def scaleSameSpec : ChangeSpec := { name := "scaleSame", fn := fun _ => fun
  | [d1, d2, d3] => { results := [.lit (.bool true)], args := [d1, d2, d3] }
  | _ => none }
def scaleSameRow : OpenClaim := { program := "ytjbcgjahfalkaaa", sum := "cb3dd458cbbabdd652032fa153a32a4d802394391001655ac455c03c570b5cf9", func := "raceway/racewaylaw13.ScaleSame", spec := "scaleSame", unfollowed := true, recurses := true, apart := false }
def ScaleSameSaid : Prop := scaleSameRow.holds Try.pinned (OpenSpec.ofChange scaleSameSpec)

/-- ITS FALSE NEIGHBOUR: 'it returns false'. Refute it at one input. -/
def scaleSameWrong : ChangeSpec := { name := "scaleSame", fn := fun _ => fun
  | [d1, d2, d3] => { results := [.lit (.bool false)], args := [d1, d2, d3] }
  | _ => none }
def ScaleSameWrongFalsely : Prop := scaleSameRow.holds Try.pinned (OpenSpec.ofChange scaleSameWrong)

/-- 'racewaylaw13.ScaleRise': WHATEVER THE INPUT: true; the input reads as it did. -/
def scaleRiseSpec : ChangeSpec := { name := "scaleRise", fn := fun _ => fun
  | [d1, d2, d3, d4] => { results := [.lit (.bool true)], args := [d1, d2, d3, d4] }
  | _ => none }
def scaleRiseRow : OpenClaim := { program := "ytjbcgjahfalkaaa", sum := "cb3dd458cbbabdd652032fa153a32a4d802394391001655ac455c03c570b5cf9", func := "raceway/racewaylaw13.ScaleRise", spec := "scaleRise", unfollowed := true, recurses := true, apart := false }
def ScaleRiseSaid : Prop := scaleRiseRow.holds Try.pinned (OpenSpec.ofChange scaleRiseSpec)

/-- ITS FALSE NEIGHBOUR: 'it returns false'. Refute it at one input. -/
def scaleRiseWrong : ChangeSpec := { name := "scaleRise", fn := fun _ => fun
  | [d1, d2, d3, d4] => { results := [.lit (.bool false)], args := [d1, d2, d3, d4] }
  | _ => none }
def ScaleRiseWrongFalsely : Prop := scaleRiseRow.holds Try.pinned (OpenSpec.ofChange scaleRiseWrong)

/-- 'racewaylaw13.ScaleMost': WHATEVER THE INPUT: true; the input reads as it did. -/
def scaleMostSpec : ChangeSpec := { name := "scaleMost", fn := fun _ => fun
  | [d1, d2, d3, d4] => { results := [.lit (.bool true)], args := [d1, d2, d3, d4] }
  | _ => none }
def scaleMostRow : OpenClaim := { program := "ytjbcgjahfalkaaa", sum := "cb3dd458cbbabdd652032fa153a32a4d802394391001655ac455c03c570b5cf9", func := "raceway/racewaylaw13.ScaleMost", spec := "scaleMost", unfollowed := true, recurses := true, apart := false }
def ScaleMostSaid : Prop := scaleMostRow.holds Try.pinned (OpenSpec.ofChange scaleMostSpec)

/-- ITS FALSE NEIGHBOUR: 'it returns false'. Refute it at one input. -/
def scaleMostWrong : ChangeSpec := { name := "scaleMost", fn := fun _ => fun
  | [d1, d2, d3, d4] => { results := [.lit (.bool false)], args := [d1, d2, d3, d4] }
  | _ => none }
def ScaleMostWrongFalsely : Prop := scaleMostRow.holds Try.pinned (OpenSpec.ofChange scaleMostWrong)

/-- 'racewaylaw16.MatchMost': WHATEVER THE INPUT: true; the input reads as it did. -/
def matchMostSpec : ChangeSpec := { name := "matchMost", fn := fun _ => fun
  | [d1, d2, d3, d4] => { results := [.lit (.bool true)], args := [d1, d2, d3, d4] }
  | _ => none }
def matchMostRow : OpenClaim := { program := "ytjbcgjahfalkaaa", sum := "cb3dd458cbbabdd652032fa153a32a4d802394391001655ac455c03c570b5cf9", func := "raceway/racewaylaw16.MatchMost", spec := "matchMost", unfollowed := true, recurses := true, apart := false }
def MatchMostSaid : Prop := matchMostRow.holds Try.pinned (OpenSpec.ofChange matchMostSpec)

/-- ITS FALSE NEIGHBOUR: 'it returns false'. Refute it at one input. -/
def matchMostWrong : ChangeSpec := { name := "matchMost", fn := fun _ => fun
  | [d1, d2, d3, d4] => { results := [.lit (.bool false)], args := [d1, d2, d3, d4] }
  | _ => none }
def MatchMostWrongFalsely : Prop := matchMostRow.holds Try.pinned (OpenSpec.ofChange matchMostWrong)

/-- 'racewaylaw16.MatchNets': WHATEVER THE INPUT: true; the input reads as it did. -/
def matchNetsSpec : ChangeSpec := { name := "matchNets", fn := fun _ => fun
  | [d1, d2] => { results := [.lit (.bool true)], args := [d1, d2] }
  | _ => none }
def matchNetsRow : OpenClaim := { program := "ytjbcgjahfalkaaa", sum := "cb3dd458cbbabdd652032fa153a32a4d802394391001655ac455c03c570b5cf9", func := "raceway/racewaylaw16.MatchNets", spec := "matchNets", unfollowed := true, recurses := true, apart := false }
def MatchNetsSaid : Prop := matchNetsRow.holds Try.pinned (OpenSpec.ofChange matchNetsSpec)

/-- ITS FALSE NEIGHBOUR: 'it returns false'. Refute it at one input. -/
def matchNetsWrong : ChangeSpec := { name := "matchNets", fn := fun _ => fun
  | [d1, d2] => { results := [.lit (.bool false)], args := [d1, d2] }
  | _ => none }
def MatchNetsWrongFalsely : Prop := matchNetsRow.holds Try.pinned (OpenSpec.ofChange matchNetsWrong)

/-- 'racewaylaw16.MatchFull': WHATEVER THE INPUT: true; the input reads as it did. -/
def matchFullSpec : ChangeSpec := { name := "matchFull", fn := fun _ => fun
  | [d1, d2] => { results := [.lit (.bool true)], args := [d1, d2] }
  | _ => none }
def matchFullRow : OpenClaim := { program := "ytjbcgjahfalkaaa", sum := "cb3dd458cbbabdd652032fa153a32a4d802394391001655ac455c03c570b5cf9", func := "raceway/racewaylaw16.MatchFull", spec := "matchFull", unfollowed := true, recurses := true, apart := false }
def MatchFullSaid : Prop := matchFullRow.holds Try.pinned (OpenSpec.ofChange matchFullSpec)

/-- ITS FALSE NEIGHBOUR: 'it returns false'. Refute it at one input. -/
def matchFullWrong : ChangeSpec := { name := "matchFull", fn := fun _ => fun
  | [d1, d2] => { results := [.lit (.bool false)], args := [d1, d2] }
  | _ => none }
def MatchFullWrongFalsely : Prop := matchFullRow.holds Try.pinned (OpenSpec.ofChange matchFullWrong)

/-- 'racewaylaw16.MatchApart': WHATEVER THE INPUT: true; the input reads as it did. -/
def matchApartSpec : ChangeSpec := { name := "matchApart", fn := fun _ => fun
  | [d1, d2, d3, d4] => { results := [.lit (.bool true)], args := [d1, d2, d3, d4] }
  | _ => none }
def matchApartRow : OpenClaim := { program := "ytjbcgjahfalkaaa", sum := "cb3dd458cbbabdd652032fa153a32a4d802394391001655ac455c03c570b5cf9", func := "raceway/racewaylaw16.MatchApart", spec := "matchApart", unfollowed := true, recurses := true, apart := false }
def MatchApartSaid : Prop := matchApartRow.holds Try.pinned (OpenSpec.ofChange matchApartSpec)

/-- ITS FALSE NEIGHBOUR: 'it returns false'. Refute it at one input. -/
def matchApartWrong : ChangeSpec := { name := "matchApart", fn := fun _ => fun
  | [d1, d2, d3, d4] => { results := [.lit (.bool false)], args := [d1, d2, d3, d4] }
  | _ => none }
def MatchApartWrongFalsely : Prop := matchApartRow.holds Try.pinned (OpenSpec.ofChange matchApartWrong)

/-- 'racewaylaw18.BudgetHolds': WHATEVER THE INPUT: true; the input reads as it did. -/
def budgetHoldsSpec : ChangeSpec := { name := "budgetHolds", fn := fun _ => fun
  | [d1, d2, d3] => { results := [.lit (.bool true)], args := [d1, d2, d3] }
  | _ => none }
def budgetHoldsRow : OpenClaim := { program := "ytjbcgjahfalkaaa", sum := "cb3dd458cbbabdd652032fa153a32a4d802394391001655ac455c03c570b5cf9", func := "raceway/racewaylaw18.BudgetHolds", spec := "budgetHolds", unfollowed := true, recurses := true, apart := false }
def BudgetHoldsSaid : Prop := budgetHoldsRow.holds Try.pinned (OpenSpec.ofChange budgetHoldsSpec)

/-- ITS FALSE NEIGHBOUR: 'it returns false'. Refute it at one input. -/
def budgetHoldsWrong : ChangeSpec := { name := "budgetHolds", fn := fun _ => fun
  | [d1, d2, d3] => { results := [.lit (.bool false)], args := [d1, d2, d3] }
  | _ => none }
def BudgetHoldsWrongFalsely : Prop := budgetHoldsRow.holds Try.pinned (OpenSpec.ofChange budgetHoldsWrong)

/- THE SECOND FORM. 'bulk': how many values and letters a reading holds, each counted each time it is reached (what is shared counts as often as it is met; a slice's spare places count too). A statement '..UptoSaid' is the law's where the arguments, and the package variables that the reading takes, are together of bulk at most 1048576: NARROWER than '..Said'. Prove '..Said' where nothing that the law and all that it calls make is longer than what came in: it says more and counts as full. Else prove '..UptoSaid'. A law counts once. -/
mutual
def uptoBulk {H : Type} : DataW H → Nat
  | .lit (.string bytes) => bytes.length + 1
  | .lit _ => 1
  | .nil => 1
  | .ptr d => uptoBulk d + 1
  | .slice elems spare => uptoBulkAll elems + uptoBulkAll spare + 1
  | .agg parts => uptoBulkAll parts + 1
  | .iface _ d => uptoBulk d + 1
  | .map entries => uptoBulkEntries entries + 1
  | .held _ => 1
def uptoBulkAll {H : Type} : List (DataW H) → Nat
  | [] => 0
  | d :: r => uptoBulk d + uptoBulkAll r
def uptoBulkEntries {H : Type} : List (Lit × DataW H) → Nat
  | [] => 0
  | x :: r => uptoBulkEntry x + uptoBulkEntries r
def uptoBulkEntry {H : Type} : Lit × DataW H → Nat
  | (.string bytes, d) => bytes.length + uptoBulk d + 1
  | (_, d) => uptoBulk d + 1
 end
def uptoSmall : (H : Type) → List (DataW H) → Bool := fun _ ds => decide (uptoBulkAll ds ≤ 1048576)
def OpenSpec.upto (s : _root_.Go.ChangeSpec) : _root_.Go.OpenSpec := { _root_.Go.OpenSpec.ofChange s with cond := some uptoSmall }

/-- 'racewaylaw12.DinicMost', WHERE WHAT IT READS IS OF BULK AT MOST 1048576: true; the input reads as it did. -/
def dinicMostUptoRow : OpenClaim := { program := "ytjbcgjahfalkaaa", sum := "cb3dd458cbbabdd652032fa153a32a4d802394391001655ac455c03c570b5cf9", func := "raceway/racewaylaw12.DinicMost", spec := "dinicMost", unfollowed := true, recurses := true, apart := false, narrowed := true }
def DinicMostUptoSaid : Prop := dinicMostUptoRow.holds Try.pinned (OpenSpec.upto dinicMostSpec)

/-- 'racewaylaw12.DinicTurned', WHERE WHAT IT READS IS OF BULK AT MOST 1048576: true; the input reads as it did. -/
def dinicTurnedUptoRow : OpenClaim := { program := "ytjbcgjahfalkaaa", sum := "cb3dd458cbbabdd652032fa153a32a4d802394391001655ac455c03c570b5cf9", func := "raceway/racewaylaw12.DinicTurned", spec := "dinicTurned", unfollowed := true, recurses := true, apart := false, narrowed := true }
def DinicTurnedUptoSaid : Prop := dinicTurnedUptoRow.holds Try.pinned (OpenSpec.upto dinicTurnedSpec)

/-- 'racewaylaw14.CutFull', WHERE WHAT IT READS IS OF BULK AT MOST 1048576: true; the input reads as it did. -/
def cutFullUptoRow : OpenClaim := { program := "ytjbcgjahfalkaaa", sum := "cb3dd458cbbabdd652032fa153a32a4d802394391001655ac455c03c570b5cf9", func := "raceway/racewaylaw14.CutFull", spec := "cutFull", unfollowed := true, recurses := true, apart := false, narrowed := true }
def CutFullUptoSaid : Prop := cutFullUptoRow.holds Try.pinned (OpenSpec.upto cutFullSpec)

/-- 'racewaylaw13.ScaleLarge', WHERE WHAT IT READS IS OF BULK AT MOST 1048576: true; the input reads as it did. -/
def scaleLargeUptoRow : OpenClaim := { program := "ytjbcgjahfalkaaa", sum := "cb3dd458cbbabdd652032fa153a32a4d802394391001655ac455c03c570b5cf9", func := "raceway/racewaylaw13.ScaleLarge", spec := "scaleLarge", unfollowed := true, recurses := true, apart := false, narrowed := true }
def ScaleLargeUptoSaid : Prop := scaleLargeUptoRow.holds Try.pinned (OpenSpec.upto scaleLargeSpec)

/-- 'racewaylaw13.ScaleSame', WHERE WHAT IT READS IS OF BULK AT MOST 1048576: true; the input reads as it did. -/
def scaleSameUptoRow : OpenClaim := { program := "ytjbcgjahfalkaaa", sum := "cb3dd458cbbabdd652032fa153a32a4d802394391001655ac455c03c570b5cf9", func := "raceway/racewaylaw13.ScaleSame", spec := "scaleSame", unfollowed := true, recurses := true, apart := false, narrowed := true }
def ScaleSameUptoSaid : Prop := scaleSameUptoRow.holds Try.pinned (OpenSpec.upto scaleSameSpec)

/-- 'racewaylaw13.ScaleRise', WHERE WHAT IT READS IS OF BULK AT MOST 1048576: true; the input reads as it did. -/
def scaleRiseUptoRow : OpenClaim := { program := "ytjbcgjahfalkaaa", sum := "cb3dd458cbbabdd652032fa153a32a4d802394391001655ac455c03c570b5cf9", func := "raceway/racewaylaw13.ScaleRise", spec := "scaleRise", unfollowed := true, recurses := true, apart := false, narrowed := true }
def ScaleRiseUptoSaid : Prop := scaleRiseUptoRow.holds Try.pinned (OpenSpec.upto scaleRiseSpec)

/-- 'racewaylaw13.ScaleMost', WHERE WHAT IT READS IS OF BULK AT MOST 1048576: true; the input reads as it did. -/
def scaleMostUptoRow : OpenClaim := { program := "ytjbcgjahfalkaaa", sum := "cb3dd458cbbabdd652032fa153a32a4d802394391001655ac455c03c570b5cf9", func := "raceway/racewaylaw13.ScaleMost", spec := "scaleMost", unfollowed := true, recurses := true, apart := false, narrowed := true }
def ScaleMostUptoSaid : Prop := scaleMostUptoRow.holds Try.pinned (OpenSpec.upto scaleMostSpec)

/-- 'racewaylaw16.MatchMost', WHERE WHAT IT READS IS OF BULK AT MOST 1048576: true; the input reads as it did. -/
def matchMostUptoRow : OpenClaim := { program := "ytjbcgjahfalkaaa", sum := "cb3dd458cbbabdd652032fa153a32a4d802394391001655ac455c03c570b5cf9", func := "raceway/racewaylaw16.MatchMost", spec := "matchMost", unfollowed := true, recurses := true, apart := false, narrowed := true }
def MatchMostUptoSaid : Prop := matchMostUptoRow.holds Try.pinned (OpenSpec.upto matchMostSpec)

/-- 'racewaylaw16.MatchNets', WHERE WHAT IT READS IS OF BULK AT MOST 1048576: true; the input reads as it did. -/
def matchNetsUptoRow : OpenClaim := { program := "ytjbcgjahfalkaaa", sum := "cb3dd458cbbabdd652032fa153a32a4d802394391001655ac455c03c570b5cf9", func := "raceway/racewaylaw16.MatchNets", spec := "matchNets", unfollowed := true, recurses := true, apart := false, narrowed := true }
def MatchNetsUptoSaid : Prop := matchNetsUptoRow.holds Try.pinned (OpenSpec.upto matchNetsSpec)

/-- 'racewaylaw16.MatchFull', WHERE WHAT IT READS IS OF BULK AT MOST 1048576: true; the input reads as it did. -/
def matchFullUptoRow : OpenClaim := { program := "ytjbcgjahfalkaaa", sum := "cb3dd458cbbabdd652032fa153a32a4d802394391001655ac455c03c570b5cf9", func := "raceway/racewaylaw16.MatchFull", spec := "matchFull", unfollowed := true, recurses := true, apart := false, narrowed := true }
def MatchFullUptoSaid : Prop := matchFullUptoRow.holds Try.pinned (OpenSpec.upto matchFullSpec)

/-- 'racewaylaw16.MatchApart', WHERE WHAT IT READS IS OF BULK AT MOST 1048576: true; the input reads as it did. -/
def matchApartUptoRow : OpenClaim := { program := "ytjbcgjahfalkaaa", sum := "cb3dd458cbbabdd652032fa153a32a4d802394391001655ac455c03c570b5cf9", func := "raceway/racewaylaw16.MatchApart", spec := "matchApart", unfollowed := true, recurses := true, apart := false, narrowed := true }
def MatchApartUptoSaid : Prop := matchApartUptoRow.holds Try.pinned (OpenSpec.upto matchApartSpec)

/-- 'racewaylaw18.BudgetHolds', WHERE WHAT IT READS IS OF BULK AT MOST 1048576: true; the input reads as it did. -/
def budgetHoldsUptoRow : OpenClaim := { program := "ytjbcgjahfalkaaa", sum := "cb3dd458cbbabdd652032fa153a32a4d802394391001655ac455c03c570b5cf9", func := "raceway/racewaylaw18.BudgetHolds", spec := "budgetHolds", unfollowed := true, recurses := true, apart := false, narrowed := true }
def BudgetHoldsUptoSaid : Prop := budgetHoldsUptoRow.holds Try.pinned (OpenSpec.upto budgetHoldsSpec)

end Rows
end Go.Proofs.Ytjbcgjahfalkaaa
