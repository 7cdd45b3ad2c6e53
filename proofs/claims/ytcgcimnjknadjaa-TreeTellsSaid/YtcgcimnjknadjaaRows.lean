/-
  No cell of these rows narrows 'for every input' (looked for: loops, veiled, ifaces, maps, wideKeys, modest, calm, conditions, laid).
  DERIVED. THE GIVEN ROWS OF THIS SEAT. 12 by the template 'for every input the law returns true; each argument reads behind the call as it read before'; 0 by the template 'total and deterministic' (their statements: YtcgcimnjknadjaaTotals.lean).
  GIVEN WITH THE SEED: the statements are not yours to turn. If you find one false, say at which input.
  Laid BY PROGRAM, IN A SANDBOX (cutbox-rows.mjs): the forced cells as the released guide's own fill.sh prints them over the translation 0ab9ecc3c7cae3ef… (all of the seat's roots in one cut). By AI agents, Wed Nov 11 2026. No macro, syntax, notation, axiom, sorry.
-/
import Derived.Test.YtcgcimnjknadjaaChecked
import GoSem.Claim
import GoSem.ClaimJoined
import GoSem.ClaimMapViews
import Derived.JoinedTies
import Derived.KernelRfl
namespace Go.Proofs.Ytcgcimnjknadjaa
/- THE CELL 'sum', in the pinned program and in every row, IS THE sha256 OF THE DUMP (.gsa) THAT YtcgcimnjknadjaaProg.lean LOADS. Nothing in Lean hashes anything: it is a label: what it is worth is what the hold of that sum in a sandbox is worth. -/
noncomputable def Try.pinned : Pinned := { name := "ytcgcimnjknadjaa", sum := "0ab9ecc3c7cae3ef9a50b8b720f7d81559cf95eb66bbaea378a67e6e11c850d4", checked := Try.checked }
namespace Rows
def none {H : Type} : Left H := { results := [], args := [] }

/-- 'racewaylaw11.TreeChain': WHATEVER THE INPUT: true; the input reads as it did. -/
def treeChainSpec : ChangeSpec := { name := "treeChain", fn := fun _ => fun
  | [d1, d2] => { results := [.lit (.bool true)], args := [d1, d2] }
  | _ => none }
def treeChainRow : OpenClaim := { program := "ytcgcimnjknadjaa", sum := "0ab9ecc3c7cae3ef9a50b8b720f7d81559cf95eb66bbaea378a67e6e11c850d4", func := "raceway/racewaylaw11.TreeChain", spec := "treeChain", unfollowed := true, recurses := true, apart := false }
def TreeChainSaid : Prop := treeChainRow.holds Try.pinned (OpenSpec.ofChange treeChainSpec)

/-- ITS FALSE NEIGHBOUR: 'it returns false'. Refute it at one input. -/
def treeChainWrong : ChangeSpec := { name := "treeChain", fn := fun _ => fun
  | [d1, d2] => { results := [.lit (.bool false)], args := [d1, d2] }
  | _ => none }
def TreeChainWrongFalsely : Prop := treeChainRow.holds Try.pinned (OpenSpec.ofChange treeChainWrong)

/-- 'racewaylaw11.TreeRooms': WHATEVER THE INPUT: true; the input reads as it did. -/
def treeRoomsSpec : ChangeSpec := { name := "treeRooms", fn := fun _ => fun
  | [d1, d2, d3, d4, d5, d6] => { results := [.lit (.bool true)], args := [d1, d2, d3, d4, d5, d6] }
  | _ => none }
def treeRoomsRow : OpenClaim := { program := "ytcgcimnjknadjaa", sum := "0ab9ecc3c7cae3ef9a50b8b720f7d81559cf95eb66bbaea378a67e6e11c850d4", func := "raceway/racewaylaw11.TreeRooms", spec := "treeRooms", unfollowed := true, recurses := true, apart := false }
def TreeRoomsSaid : Prop := treeRoomsRow.holds Try.pinned (OpenSpec.ofChange treeRoomsSpec)

/-- ITS FALSE NEIGHBOUR: 'it returns false'. Refute it at one input. -/
def treeRoomsWrong : ChangeSpec := { name := "treeRooms", fn := fun _ => fun
  | [d1, d2, d3, d4, d5, d6] => { results := [.lit (.bool false)], args := [d1, d2, d3, d4, d5, d6] }
  | _ => none }
def TreeRoomsWrongFalsely : Prop := treeRoomsRow.holds Try.pinned (OpenSpec.ofChange treeRoomsWrong)

/-- 'racewaylaw11.TreeBack': WHATEVER THE INPUT: true; the input reads as it did. -/
def treeBackSpec : ChangeSpec := { name := "treeBack", fn := fun _ => fun
  | [d1, d2, d3, d4] => { results := [.lit (.bool true)], args := [d1, d2, d3, d4] }
  | _ => none }
def treeBackRow : OpenClaim := { program := "ytcgcimnjknadjaa", sum := "0ab9ecc3c7cae3ef9a50b8b720f7d81559cf95eb66bbaea378a67e6e11c850d4", func := "raceway/racewaylaw11.TreeBack", spec := "treeBack", unfollowed := true, recurses := true, apart := false }
def TreeBackSaid : Prop := treeBackRow.holds Try.pinned (OpenSpec.ofChange treeBackSpec)

/-- ITS FALSE NEIGHBOUR: 'it returns false'. Refute it at one input. -/
def treeBackWrong : ChangeSpec := { name := "treeBack", fn := fun _ => fun
  | [d1, d2, d3, d4] => { results := [.lit (.bool false)], args := [d1, d2, d3, d4] }
  | _ => none }
def TreeBackWrongFalsely : Prop := treeBackRow.holds Try.pinned (OpenSpec.ofChange treeBackWrong)

/-- 'racewaylaw11.TreeTells': WHATEVER THE INPUT: true; the input reads as it did. -/
def treeTellsSpec : ChangeSpec := { name := "treeTells", fn := fun _ => fun
  | [d1, d2, d3] => { results := [.lit (.bool true)], args := [d1, d2, d3] }
  | _ => none }
def treeTellsRow : OpenClaim := { program := "ytcgcimnjknadjaa", sum := "0ab9ecc3c7cae3ef9a50b8b720f7d81559cf95eb66bbaea378a67e6e11c850d4", func := "raceway/racewaylaw11.TreeTells", spec := "treeTells", unfollowed := true, recurses := true, apart := false }
def TreeTellsSaid : Prop := treeTellsRow.holds Try.pinned (OpenSpec.ofChange treeTellsSpec)

/-- ITS FALSE NEIGHBOUR: 'it returns false'. Refute it at one input. -/
def treeTellsWrong : ChangeSpec := { name := "treeTells", fn := fun _ => fun
  | [d1, d2, d3] => { results := [.lit (.bool false)], args := [d1, d2, d3] }
  | _ => none }
def TreeTellsWrongFalsely : Prop := treeTellsRow.holds Try.pinned (OpenSpec.ofChange treeTellsWrong)

/-- 'racewaylaw11.TreeWide': WHATEVER THE INPUT: true; the input reads as it did. -/
def treeWideSpec : ChangeSpec := { name := "treeWide", fn := fun _ => fun
  | [d] => { results := [.lit (.bool true)], args := [d] }
  | _ => none }
def treeWideRow : OpenClaim := { program := "ytcgcimnjknadjaa", sum := "0ab9ecc3c7cae3ef9a50b8b720f7d81559cf95eb66bbaea378a67e6e11c850d4", func := "raceway/racewaylaw11.TreeWide", spec := "treeWide", unfollowed := true, recurses := true, apart := false }
def TreeWideSaid : Prop := treeWideRow.holds Try.pinned (OpenSpec.ofChange treeWideSpec)

/-- ITS FALSE NEIGHBOUR: 'it returns false'. Refute it at one input. -/
def treeWideWrong : ChangeSpec := { name := "treeWide", fn := fun _ => fun
  | [d] => { results := [.lit (.bool false)], args := [d] }
  | _ => none }
def TreeWideWrongFalsely : Prop := treeWideRow.holds Try.pinned (OpenSpec.ofChange treeWideWrong)

/-- 'racewaylaw11.TreeSame': WHATEVER THE INPUT: true; the input reads as it did. -/
def treeSameSpec : ChangeSpec := { name := "treeSame", fn := fun _ => fun
  | [d1, d2, d3, d4, d5] => { results := [.lit (.bool true)], args := [d1, d2, d3, d4, d5] }
  | _ => none }
def treeSameRow : OpenClaim := { program := "ytcgcimnjknadjaa", sum := "0ab9ecc3c7cae3ef9a50b8b720f7d81559cf95eb66bbaea378a67e6e11c850d4", func := "raceway/racewaylaw11.TreeSame", spec := "treeSame", unfollowed := true, recurses := true, apart := false }
def TreeSameSaid : Prop := treeSameRow.holds Try.pinned (OpenSpec.ofChange treeSameSpec)

/-- ITS FALSE NEIGHBOUR: 'it returns false'. Refute it at one input. -/
def treeSameWrong : ChangeSpec := { name := "treeSame", fn := fun _ => fun
  | [d1, d2, d3, d4, d5] => { results := [.lit (.bool false)], args := [d1, d2, d3, d4, d5] }
  | _ => none }
def TreeSameWrongFalsely : Prop := treeSameRow.holds Try.pinned (OpenSpec.ofChange treeSameWrong)

/-- 'racewaylaw12.DinicTells': WHATEVER THE INPUT: true; the input reads as it did. -/
def dinicTellsSpec : ChangeSpec := { name := "dinicTells", fn := fun _ => fun
  | [d1, d2, d3, d4] => { results := [.lit (.bool true)], args := [d1, d2, d3, d4] }
  | _ => none }
def dinicTellsRow : OpenClaim := { program := "ytcgcimnjknadjaa", sum := "0ab9ecc3c7cae3ef9a50b8b720f7d81559cf95eb66bbaea378a67e6e11c850d4", func := "raceway/racewaylaw12.DinicTells", spec := "dinicTells", unfollowed := true, recurses := true, apart := false }
def DinicTellsSaid : Prop := dinicTellsRow.holds Try.pinned (OpenSpec.ofChange dinicTellsSpec)

/-- ITS FALSE NEIGHBOUR: 'it returns false'. Refute it at one input. -/
def dinicTellsWrong : ChangeSpec := { name := "dinicTells", fn := fun _ => fun
  | [d1, d2, d3, d4] => { results := [.lit (.bool false)], args := [d1, d2, d3, d4] }
  | _ => none }
def DinicTellsWrongFalsely : Prop := dinicTellsRow.holds Try.pinned (OpenSpec.ofChange dinicTellsWrong)

/-- 'racewaylaw12.DinicApart': WHATEVER THE INPUT: true; the input reads as it did. -/
def dinicApartSpec : ChangeSpec := { name := "dinicApart", fn := fun _ => fun
  | [d1, d2, d3, d4] => { results := [.lit (.bool true)], args := [d1, d2, d3, d4] }
  | _ => none }
def dinicApartRow : OpenClaim := { program := "ytcgcimnjknadjaa", sum := "0ab9ecc3c7cae3ef9a50b8b720f7d81559cf95eb66bbaea378a67e6e11c850d4", func := "raceway/racewaylaw12.DinicApart", spec := "dinicApart", unfollowed := true, recurses := true, apart := false }
def DinicApartSaid : Prop := dinicApartRow.holds Try.pinned (OpenSpec.ofChange dinicApartSpec)

/-- ITS FALSE NEIGHBOUR: 'it returns false'. Refute it at one input. -/
def dinicApartWrong : ChangeSpec := { name := "dinicApart", fn := fun _ => fun
  | [d1, d2, d3, d4] => { results := [.lit (.bool false)], args := [d1, d2, d3, d4] }
  | _ => none }
def DinicApartWrongFalsely : Prop := dinicApartRow.holds Try.pinned (OpenSpec.ofChange dinicApartWrong)

/-- 'racewaylaw12.DinicGrid': WHATEVER THE INPUT: true; the input reads as it did. -/
def dinicGridSpec : ChangeSpec := { name := "dinicGrid", fn := fun _ => fun
  | [d1, d2] => { results := [.lit (.bool true)], args := [d1, d2] }
  | _ => none }
def dinicGridRow : OpenClaim := { program := "ytcgcimnjknadjaa", sum := "0ab9ecc3c7cae3ef9a50b8b720f7d81559cf95eb66bbaea378a67e6e11c850d4", func := "raceway/racewaylaw12.DinicGrid", spec := "dinicGrid", unfollowed := true, recurses := true, apart := false }
def DinicGridSaid : Prop := dinicGridRow.holds Try.pinned (OpenSpec.ofChange dinicGridSpec)

/-- ITS FALSE NEIGHBOUR: 'it returns false'. Refute it at one input. -/
def dinicGridWrong : ChangeSpec := { name := "dinicGrid", fn := fun _ => fun
  | [d1, d2] => { results := [.lit (.bool false)], args := [d1, d2] }
  | _ => none }
def DinicGridWrongFalsely : Prop := dinicGridRow.holds Try.pinned (OpenSpec.ofChange dinicGridWrong)

/-- 'racewaylaw12.DinicMore': WHATEVER THE INPUT: true; the input reads as it did. -/
def dinicMoreSpec : ChangeSpec := { name := "dinicMore", fn := fun _ => fun
  | [d1, d2, d3, d4, d5] => { results := [.lit (.bool true)], args := [d1, d2, d3, d4, d5] }
  | _ => none }
def dinicMoreRow : OpenClaim := { program := "ytcgcimnjknadjaa", sum := "0ab9ecc3c7cae3ef9a50b8b720f7d81559cf95eb66bbaea378a67e6e11c850d4", func := "raceway/racewaylaw12.DinicMore", spec := "dinicMore", unfollowed := true, recurses := true, apart := false }
def DinicMoreSaid : Prop := dinicMoreRow.holds Try.pinned (OpenSpec.ofChange dinicMoreSpec)

/-- ITS FALSE NEIGHBOUR: 'it returns false'. Refute it at one input. -/
def dinicMoreWrong : ChangeSpec := { name := "dinicMore", fn := fun _ => fun
  | [d1, d2, d3, d4, d5] => { results := [.lit (.bool false)], args := [d1, d2, d3, d4, d5] }
  | _ => none }
def DinicMoreWrongFalsely : Prop := dinicMoreRow.holds Try.pinned (OpenSpec.ofChange dinicMoreWrong)

/-- 'racewaylaw12.DinicEngines': WHATEVER THE INPUT: true; the input reads as it did. -/
def dinicEnginesSpec : ChangeSpec := { name := "dinicEngines", fn := fun _ => fun
  | [d1, d2, d3, d4] => { results := [.lit (.bool true)], args := [d1, d2, d3, d4] }
  | _ => none }
def dinicEnginesRow : OpenClaim := { program := "ytcgcimnjknadjaa", sum := "0ab9ecc3c7cae3ef9a50b8b720f7d81559cf95eb66bbaea378a67e6e11c850d4", func := "raceway/racewaylaw12.DinicEngines", spec := "dinicEngines", unfollowed := true, recurses := true, apart := false }
def DinicEnginesSaid : Prop := dinicEnginesRow.holds Try.pinned (OpenSpec.ofChange dinicEnginesSpec)

/-- ITS FALSE NEIGHBOUR: 'it returns false'. Refute it at one input. -/
def dinicEnginesWrong : ChangeSpec := { name := "dinicEngines", fn := fun _ => fun
  | [d1, d2, d3, d4] => { results := [.lit (.bool false)], args := [d1, d2, d3, d4] }
  | _ => none }
def DinicEnginesWrongFalsely : Prop := dinicEnginesRow.holds Try.pinned (OpenSpec.ofChange dinicEnginesWrong)

/-- 'racewaylaw16.MatchGrows': WHATEVER THE INPUT: true; the input reads as it did. -/
def matchGrowsSpec : ChangeSpec := { name := "matchGrows", fn := fun _ => fun
  | [d1, d2, d3, d4] => { results := [.lit (.bool true)], args := [d1, d2, d3, d4] }
  | _ => none }
def matchGrowsRow : OpenClaim := { program := "ytcgcimnjknadjaa", sum := "0ab9ecc3c7cae3ef9a50b8b720f7d81559cf95eb66bbaea378a67e6e11c850d4", func := "raceway/racewaylaw16.MatchGrows", spec := "matchGrows", unfollowed := true, recurses := true, apart := false }
def MatchGrowsSaid : Prop := matchGrowsRow.holds Try.pinned (OpenSpec.ofChange matchGrowsSpec)

/-- ITS FALSE NEIGHBOUR: 'it returns false'. Refute it at one input. -/
def matchGrowsWrong : ChangeSpec := { name := "matchGrows", fn := fun _ => fun
  | [d1, d2, d3, d4] => { results := [.lit (.bool false)], args := [d1, d2, d3, d4] }
  | _ => none }
def MatchGrowsWrongFalsely : Prop := matchGrowsRow.holds Try.pinned (OpenSpec.ofChange matchGrowsWrong)

/- THE SECOND FORM. 'bulk': how many values and letters a reading holds, each counted each time it is reached (what is shared counts as often as it is met; a slice's spare places count too). A statement '..UptoSaid' is the law's where the arguments, and the package variables that the reading takes, are together of bulk at most 1048576: NARROWER than '..Said'. Prove '..Said' where nothing that the law and all that it calls make is longer than what came in: it says more and counts as full. Else prove '..UptoSaid'. A law counts once. -/
mutual
def uptoBulk {H : Type} : DataW H → Nat
  | .lit (.string bytes) => bytes.length + 1
  | .lit _ => 1
  | .nil => 1
  | .ptr d => uptoBulk d + 1
  | .slice elems spare => uptoBulkAll elems + uptoBulkAll spare + 1
  | .agg parts => uptoBulkAll parts + 1
  | .iface _ d => uptoBulk d + 1
  | .map entries => uptoBulkEntries entries + 1
  | .held _ => 1
def uptoBulkAll {H : Type} : List (DataW H) → Nat
  | [] => 0
  | d :: r => uptoBulk d + uptoBulkAll r
def uptoBulkEntries {H : Type} : List (Lit × DataW H) → Nat
  | [] => 0
  | x :: r => uptoBulkEntry x + uptoBulkEntries r
def uptoBulkEntry {H : Type} : Lit × DataW H → Nat
  | (.string bytes, d) => bytes.length + uptoBulk d + 1
  | (_, d) => uptoBulk d + 1
 end
def uptoSmall : (H : Type) → List (DataW H) → Bool := fun _ ds => decide (uptoBulkAll ds ≤ 1048576)
def OpenSpec.upto (s : _root_.Go.ChangeSpec) : _root_.Go.OpenSpec := { _root_.Go.OpenSpec.ofChange s with cond := some uptoSmall }

/-- 'racewaylaw11.TreeChain', WHERE WHAT IT READS IS OF BULK AT MOST 1048576: true; the input reads as it did. -/
def treeChainUptoRow : OpenClaim := { program := "ytcgcimnjknadjaa", sum := "0ab9ecc3c7cae3ef9a50b8b720f7d81559cf95eb66bbaea378a67e6e11c850d4", func := "raceway/racewaylaw11.TreeChain", spec := "treeChain", unfollowed := true, recurses := true, apart := false, narrowed := true }
def TreeChainUptoSaid : Prop := treeChainUptoRow.holds Try.pinned (OpenSpec.upto treeChainSpec)

/-- 'racewaylaw11.TreeRooms', WHERE WHAT IT READS IS OF BULK AT MOST 1048576: true; the input reads as it did. -/
def treeRoomsUptoRow : OpenClaim := { program := "ytcgcimnjknadjaa", sum := "0ab9ecc3c7cae3ef9a50b8b720f7d81559cf95eb66bbaea378a67e6e11c850d4", func := "raceway/racewaylaw11.TreeRooms", spec := "treeRooms", unfollowed := true, recurses := true, apart := false, narrowed := true }
def TreeRoomsUptoSaid : Prop := treeRoomsUptoRow.holds Try.pinned (OpenSpec.upto treeRoomsSpec)

/-- 'racewaylaw11.TreeBack', WHERE WHAT IT READS IS OF BULK AT MOST 1048576: true; the input reads as it did. -/
def treeBackUptoRow : OpenClaim := { program := "ytcgcimnjknadjaa", sum := "0ab9ecc3c7cae3ef9a50b8b720f7d81559cf95eb66bbaea378a67e6e11c850d4", func := "raceway/racewaylaw11.TreeBack", spec := "treeBack", unfollowed := true, recurses := true, apart := false, narrowed := true }
def TreeBackUptoSaid : Prop := treeBackUptoRow.holds Try.pinned (OpenSpec.upto treeBackSpec)

/-- 'racewaylaw11.TreeTells', WHERE WHAT IT READS IS OF BULK AT MOST 1048576: true; the input reads as it did. -/
def treeTellsUptoRow : OpenClaim := { program := "ytcgcimnjknadjaa", sum := "0ab9ecc3c7cae3ef9a50b8b720f7d81559cf95eb66bbaea378a67e6e11c850d4", func := "raceway/racewaylaw11.TreeTells", spec := "treeTells", unfollowed := true, recurses := true, apart := false, narrowed := true }
def TreeTellsUptoSaid : Prop := treeTellsUptoRow.holds Try.pinned (OpenSpec.upto treeTellsSpec)

/-- 'racewaylaw11.TreeWide', WHERE WHAT IT READS IS OF BULK AT MOST 1048576: true; the input reads as it did. -/
def treeWideUptoRow : OpenClaim := { program := "ytcgcimnjknadjaa", sum := "0ab9ecc3c7cae3ef9a50b8b720f7d81559cf95eb66bbaea378a67e6e11c850d4", func := "raceway/racewaylaw11.TreeWide", spec := "treeWide", unfollowed := true, recurses := true, apart := false, narrowed := true }
def TreeWideUptoSaid : Prop := treeWideUptoRow.holds Try.pinned (OpenSpec.upto treeWideSpec)

/-- 'racewaylaw11.TreeSame', WHERE WHAT IT READS IS OF BULK AT MOST 1048576: true; the input reads as it did. -/
def treeSameUptoRow : OpenClaim := { program := "ytcgcimnjknadjaa", sum := "0ab9ecc3c7cae3ef9a50b8b720f7d81559cf95eb66bbaea378a67e6e11c850d4", func := "raceway/racewaylaw11.TreeSame", spec := "treeSame", unfollowed := true, recurses := true, apart := false, narrowed := true }
def TreeSameUptoSaid : Prop := treeSameUptoRow.holds Try.pinned (OpenSpec.upto treeSameSpec)

/-- 'racewaylaw12.DinicTells', WHERE WHAT IT READS IS OF BULK AT MOST 1048576: true; the input reads as it did. -/
def dinicTellsUptoRow : OpenClaim := { program := "ytcgcimnjknadjaa", sum := "0ab9ecc3c7cae3ef9a50b8b720f7d81559cf95eb66bbaea378a67e6e11c850d4", func := "raceway/racewaylaw12.DinicTells", spec := "dinicTells", unfollowed := true, recurses := true, apart := false, narrowed := true }
def DinicTellsUptoSaid : Prop := dinicTellsUptoRow.holds Try.pinned (OpenSpec.upto dinicTellsSpec)

/-- 'racewaylaw12.DinicApart', WHERE WHAT IT READS IS OF BULK AT MOST 1048576: true; the input reads as it did. -/
def dinicApartUptoRow : OpenClaim := { program := "ytcgcimnjknadjaa", sum := "0ab9ecc3c7cae3ef9a50b8b720f7d81559cf95eb66bbaea378a67e6e11c850d4", func := "raceway/racewaylaw12.DinicApart", spec := "dinicApart", unfollowed := true, recurses := true, apart := false, narrowed := true }
def DinicApartUptoSaid : Prop := dinicApartUptoRow.holds Try.pinned (OpenSpec.upto dinicApartSpec)

/-- 'racewaylaw12.DinicGrid', WHERE WHAT IT READS IS OF BULK AT MOST 1048576: true; the input reads as it did. -/
def dinicGridUptoRow : OpenClaim := { program := "ytcgcimnjknadjaa", sum := "0ab9ecc3c7cae3ef9a50b8b720f7d81559cf95eb66bbaea378a67e6e11c850d4", func := "raceway/racewaylaw12.DinicGrid", spec := "dinicGrid", unfollowed := true, recurses := true, apart := false, narrowed := true }
def DinicGridUptoSaid : Prop := dinicGridUptoRow.holds Try.pinned (OpenSpec.upto dinicGridSpec)

/-- 'racewaylaw12.DinicMore', WHERE WHAT IT READS IS OF BULK AT MOST 1048576: true; the input reads as it did. -/
def dinicMoreUptoRow : OpenClaim := { program := "ytcgcimnjknadjaa", sum := "0ab9ecc3c7cae3ef9a50b8b720f7d81559cf95eb66bbaea378a67e6e11c850d4", func := "raceway/racewaylaw12.DinicMore", spec := "dinicMore", unfollowed := true, recurses := true, apart := false, narrowed := true }
def DinicMoreUptoSaid : Prop := dinicMoreUptoRow.holds Try.pinned (OpenSpec.upto dinicMoreSpec)

/-- 'racewaylaw12.DinicEngines', WHERE WHAT IT READS IS OF BULK AT MOST 1048576: true; the input reads as it did. -/
def dinicEnginesUptoRow : OpenClaim := { program := "ytcgcimnjknadjaa", sum := "0ab9ecc3c7cae3ef9a50b8b720f7d81559cf95eb66bbaea378a67e6e11c850d4", func := "raceway/racewaylaw12.DinicEngines", spec := "dinicEngines", unfollowed := true, recurses := true, apart := false, narrowed := true }
def DinicEnginesUptoSaid : Prop := dinicEnginesUptoRow.holds Try.pinned (OpenSpec.upto dinicEnginesSpec)

/-- 'racewaylaw16.MatchGrows', WHERE WHAT IT READS IS OF BULK AT MOST 1048576: true; the input reads as it did. -/
def matchGrowsUptoRow : OpenClaim := { program := "ytcgcimnjknadjaa", sum := "0ab9ecc3c7cae3ef9a50b8b720f7d81559cf95eb66bbaea378a67e6e11c850d4", func := "raceway/racewaylaw16.MatchGrows", spec := "matchGrows", unfollowed := true, recurses := true, apart := false, narrowed := true }
def MatchGrowsUptoSaid : Prop := matchGrowsUptoRow.holds Try.pinned (OpenSpec.upto matchGrowsSpec)

end Rows
end Go.Proofs.Ytcgcimnjknadjaa
