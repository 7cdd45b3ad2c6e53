/-
  No cell of these rows narrows 'for every input' (looked for: loops, veiled, ifaces, maps, wideKeys, modest, calm, conditions, laid).
  DERIVED. THE GIVEN ROWS OF THIS SEAT. 4 by the template 'for every input the law returns true; each argument reads behind the call as it read before'; 0 by the template 'total and deterministic' (their statements: YtdhenmmmkdhonaaTotals.lean).
  GIVEN WITH THE SEED: the statements are not yours to turn. If you find one false, say at which input.
  Laid BY PROGRAM, IN A SANDBOX (cutbox-rows.mjs): the forced cells as the released guide's own fill.sh prints them over the translation d5d62e1709255fef… (all of the seat's roots in one cut). By AI agents, Wed Nov 11 2026. No macro, syntax, notation, axiom, sorry.
-/
import Derived.Test.YtdhenmmmkdhonaaChecked
import GoSem.Claim
import GoSem.ClaimJoined
import GoSem.ClaimMapViews
import Derived.JoinedTies
import Derived.KernelRfl
namespace Go.Proofs.Ytdhenmmmkdhonaa
/- THE CELL 'sum', in the pinned program and in every row, IS THE sha256 OF THE DUMP (.gsa) THAT YtdhenmmmkdhonaaProg.lean LOADS. Nothing in Lean hashes anything: it is a label: what it is worth is what the hold of that sum in a sandbox is worth. -/
noncomputable def Try.pinned : Pinned := { name := "ytdhenmmmkdhonaa", sum := "d5d62e1709255fef9c22cec6bb4017765d21279d791f7cd36dc5a0bbf0e07a9e", checked := Try.checked }
namespace Rows
def none {H : Type} : Left H := { results := [], args := [] }

/-- 'racewaylaw18.BudgetErrs': WHATEVER THE INPUT: true; the input reads as it did. -/
def budgetErrsSpec : ChangeSpec := { name := "budgetErrs", fn := fun _ => fun
  | [d] => { results := [.lit (.bool true)], args := [d] }
  | _ => none }
def budgetErrsRow : OpenClaim := { program := "ytdhenmmmkdhonaa", sum := "d5d62e1709255fef9c22cec6bb4017765d21279d791f7cd36dc5a0bbf0e07a9e", func := "raceway/racewaylaw18.BudgetErrs", spec := "budgetErrs", unfollowed := true, recurses := true, apart := false }
def BudgetErrsSaid : Prop := budgetErrsRow.holds Try.pinned (OpenSpec.ofChange budgetErrsSpec)

/-- ITS FALSE NEIGHBOUR: 'it returns false'. Refute it at one input. -/
def budgetErrsWrong : ChangeSpec := { name := "budgetErrs", fn := fun _ => fun
  | [d] => { results := [.lit (.bool false)], args := [d] }
  | _ => none }
def BudgetErrsWrongFalsely : Prop := budgetErrsRow.holds Try.pinned (OpenSpec.ofChange budgetErrsWrong)

/-- 'racewaylaw18.BudgetChain': WHATEVER THE INPUT: true; the input reads as it did. -/
def budgetChainSpec : ChangeSpec := { name := "budgetChain", fn := fun _ => fun
  | [d] => { results := [.lit (.bool true)], args := [d] }
  | _ => none }
def budgetChainRow : OpenClaim := { program := "ytdhenmmmkdhonaa", sum := "d5d62e1709255fef9c22cec6bb4017765d21279d791f7cd36dc5a0bbf0e07a9e", func := "raceway/racewaylaw18.BudgetChain", spec := "budgetChain", unfollowed := true, recurses := true, apart := false }
def BudgetChainSaid : Prop := budgetChainRow.holds Try.pinned (OpenSpec.ofChange budgetChainSpec)

/-- ITS FALSE NEIGHBOUR: 'it returns false'. Refute it at one input. -/
def budgetChainWrong : ChangeSpec := { name := "budgetChain", fn := fun _ => fun
  | [d] => { results := [.lit (.bool false)], args := [d] }
  | _ => none }
def BudgetChainWrongFalsely : Prop := budgetChainRow.holds Try.pinned (OpenSpec.ofChange budgetChainWrong)

/-- 'racewaylaw17.CoverPairs': WHATEVER THE INPUT: true; the input reads as it did. -/
def coverPairsSpec : ChangeSpec := { name := "coverPairs", fn := fun _ => fun
  | [d1, d2] => { results := [.lit (.bool true)], args := [d1, d2] }
  | _ => none }
def coverPairsRow : OpenClaim := { program := "ytdhenmmmkdhonaa", sum := "d5d62e1709255fef9c22cec6bb4017765d21279d791f7cd36dc5a0bbf0e07a9e", func := "raceway/racewaylaw17.CoverPairs", spec := "coverPairs", unfollowed := true, recurses := true, apart := false }
def CoverPairsSaid : Prop := coverPairsRow.holds Try.pinned (OpenSpec.ofChange coverPairsSpec)

/-- ITS FALSE NEIGHBOUR: 'it returns false'. Refute it at one input. -/
def coverPairsWrong : ChangeSpec := { name := "coverPairs", fn := fun _ => fun
  | [d1, d2] => { results := [.lit (.bool false)], args := [d1, d2] }
  | _ => none }
def CoverPairsWrongFalsely : Prop := coverPairsRow.holds Try.pinned (OpenSpec.ofChange coverPairsWrong)

/-- 'racewaylaw17.CoverPairsMeet': WHATEVER THE INPUT: true; the input reads as it did. -/
def coverPairsMeetSpec : ChangeSpec := { name := "coverPairsMeet", fn := fun _ => fun
  | [d1, d2] => { results := [.lit (.bool true)], args := [d1, d2] }
  | _ => none }
def coverPairsMeetRow : OpenClaim := { program := "ytdhenmmmkdhonaa", sum := "d5d62e1709255fef9c22cec6bb4017765d21279d791f7cd36dc5a0bbf0e07a9e", func := "raceway/racewaylaw17.CoverPairsMeet", spec := "coverPairsMeet", unfollowed := true, recurses := true, apart := false }
def CoverPairsMeetSaid : Prop := coverPairsMeetRow.holds Try.pinned (OpenSpec.ofChange coverPairsMeetSpec)

/-- ITS FALSE NEIGHBOUR: 'it returns false'. Refute it at one input. -/
def coverPairsMeetWrong : ChangeSpec := { name := "coverPairsMeet", fn := fun _ => fun
  | [d1, d2] => { results := [.lit (.bool false)], args := [d1, d2] }
  | _ => none }
def CoverPairsMeetWrongFalsely : Prop := coverPairsMeetRow.holds Try.pinned (OpenSpec.ofChange coverPairsMeetWrong)

/- THE SECOND FORM. 'bulk': how many values and letters a reading holds, each counted each time it is reached (what is shared counts as often as it is met; a slice's spare places count too). A statement '..UptoSaid' is the law's where the arguments, and the package variables that the reading takes, are together of bulk at most 1048576: NARROWER than '..Said'. Prove '..Said' where nothing that the law and all that it calls make is longer than what came in: it says more and counts as full. Else prove '..UptoSaid'. A law counts once. -/
mutual
def uptoBulk {H : Type} : DataW H → Nat
  | .lit (.string bytes) => bytes.length + 1
  | .lit _ => 1
  | .nil => 1
  | .ptr d => uptoBulk d + 1
  | .slice elems spare => uptoBulkAll elems + uptoBulkAll spare + 1
  | .agg parts => uptoBulkAll parts + 1
  | .iface _ d => uptoBulk d + 1
  | .map entries => uptoBulkEntries entries + 1
  | .held _ => 1
def uptoBulkAll {H : Type} : List (DataW H) → Nat
  | [] => 0
  | d :: r => uptoBulk d + uptoBulkAll r
def uptoBulkEntries {H : Type} : List (Lit × DataW H) → Nat
  | [] => 0
  | x :: r => uptoBulkEntry x + uptoBulkEntries r
def uptoBulkEntry {H : Type} : Lit × DataW H → Nat
  | (.string bytes, d) => bytes.length + uptoBulk d + 1
  | (_, d) => uptoBulk d + 1
 end
def uptoSmall : (H : Type) → List (DataW H) → Bool := fun _ ds => decide (uptoBulkAll ds ≤ 1048576)
def OpenSpec.upto (s : _root_.Go.ChangeSpec) : _root_.Go.OpenSpec := { _root_.Go.OpenSpec.ofChange s with cond := some uptoSmall }

/-- 'racewaylaw18.BudgetErrs', WHERE WHAT IT READS IS OF BULK AT MOST 1048576: true; the input reads as it did. -/
def budgetErrsUptoRow : OpenClaim := { program := "ytdhenmmmkdhonaa", sum := "d5d62e1709255fef9c22cec6bb4017765d21279d791f7cd36dc5a0bbf0e07a9e", func := "raceway/racewaylaw18.BudgetErrs", spec := "budgetErrs", unfollowed := true, recurses := true, apart := false, narrowed := true }
def BudgetErrsUptoSaid : Prop := budgetErrsUptoRow.holds Try.pinned (OpenSpec.upto budgetErrsSpec)

/-- 'racewaylaw18.BudgetChain', WHERE WHAT IT READS IS OF BULK AT MOST 1048576: true; the input reads as it did. -/
def budgetChainUptoRow : OpenClaim := { program := "ytdhenmmmkdhonaa", sum := "d5d62e1709255fef9c22cec6bb4017765d21279d791f7cd36dc5a0bbf0e07a9e", func := "raceway/racewaylaw18.BudgetChain", spec := "budgetChain", unfollowed := true, recurses := true, apart := false, narrowed := true }
def BudgetChainUptoSaid : Prop := budgetChainUptoRow.holds Try.pinned (OpenSpec.upto budgetChainSpec)

/-- 'racewaylaw17.CoverPairs', WHERE WHAT IT READS IS OF BULK AT MOST 1048576: true; the input reads as it did. -/
def coverPairsUptoRow : OpenClaim := { program := "ytdhenmmmkdhonaa", sum := "d5d62e1709255fef9c22cec6bb4017765d21279d791f7cd36dc5a0bbf0e07a9e", func := "raceway/racewaylaw17.CoverPairs", spec := "coverPairs", unfollowed := true, recurses := true, apart := false, narrowed := true }
def CoverPairsUptoSaid : Prop := coverPairsUptoRow.holds Try.pinned (OpenSpec.upto coverPairsSpec)

/-- 'racewaylaw17.CoverPairsMeet', WHERE WHAT IT READS IS OF BULK AT MOST 1048576: true; the input reads as it did. -/
def coverPairsMeetUptoRow : OpenClaim := { program := "ytdhenmmmkdhonaa", sum := "d5d62e1709255fef9c22cec6bb4017765d21279d791f7cd36dc5a0bbf0e07a9e", func := "raceway/racewaylaw17.CoverPairsMeet", spec := "coverPairsMeet", unfollowed := true, recurses := true, apart := false, narrowed := true }
def CoverPairsMeetUptoSaid : Prop := coverPairsMeetUptoRow.holds Try.pinned (OpenSpec.upto coverPairsMeetSpec)

end Rows
end Go.Proofs.Ytdhenmmmkdhonaa
