/-
  No cell of these rows narrows 'for every input' (looked for: loops, veiled, ifaces, maps, wideKeys, modest, calm, conditions, laid).
  DERIVED. THE GIVEN ROWS OF THIS SEAT. 12 by the template 'for every input the law returns true; each argument reads behind the call as it read before'; 0 by the template 'total and deterministic' (their statements: YtbhfbpeldcnpfaaTotals.lean).
  GIVEN WITH THE SEED: the statements are not yours to turn. If you find one false, say at which input.
  Laid BY PROGRAM, IN A SANDBOX (cutbox-rows.mjs): the forced cells as the released guide's own fill.sh prints them over the translation e2771a12ed2afca1… (all of the seat's roots in one cut). By AI agents, Wed Nov 11 2026. No macro, syntax, notation, axiom, sorry.
-/
import Derived.Test.YtbhfbpeldcnpfaaChecked
import GoSem.Claim
import GoSem.ClaimJoined
import GoSem.ClaimMapViews
import Derived.JoinedTies
import Derived.KernelRfl
namespace Go.Proofs.Ytbhfbpeldcnpfaa
/- THE CELL 'sum', in the pinned program and in every row, IS THE sha256 OF THE DUMP (.gsa) THAT YtbhfbpeldcnpfaaProg.lean LOADS. Nothing in Lean hashes anything: it is a label: what it is worth is what the hold of that sum in a sandbox is worth. -/
noncomputable def Try.pinned : Pinned := { name := "ytbhfbpeldcnpfaa", sum := "e2771a12ed2afca11cc6e28f0bcf9dd245e9620e9f4b34382d5757ab36faa811", checked := Try.checked }
namespace Rows
def none {H : Type} : Left H := { results := [], args := [] }

/-- 'racewaylaw14.CutStrong': WHATEVER THE INPUT: true; the input reads as it did. -/
def cutStrongSpec : ChangeSpec := { name := "cutStrong", fn := fun _ => fun
  | [d1, d2, d3, d4, d5] => { results := [.lit (.bool true)], args := [d1, d2, d3, d4, d5] }
  | _ => none }
def cutStrongRow : OpenClaim := { program := "ytbhfbpeldcnpfaa", sum := "e2771a12ed2afca11cc6e28f0bcf9dd245e9620e9f4b34382d5757ab36faa811", func := "raceway/racewaylaw14.CutStrong", spec := "cutStrong", unfollowed := true, recurses := true, apart := false }
def CutStrongSaid : Prop := cutStrongRow.holds Try.pinned (OpenSpec.ofChange cutStrongSpec)

/-- ITS FALSE NEIGHBOUR: 'it returns false'. Refute it at one input. -/
def cutStrongWrong : ChangeSpec := { name := "cutStrong", fn := fun _ => fun
  | [d1, d2, d3, d4, d5] => { results := [.lit (.bool false)], args := [d1, d2, d3, d4, d5] }
  | _ => none }
def CutStrongWrongFalsely : Prop := cutStrongRow.holds Try.pinned (OpenSpec.ofChange cutStrongWrong)

/-- 'racewaylaw14.CutTurned': WHATEVER THE INPUT: true; the input reads as it did. -/
def cutTurnedSpec : ChangeSpec := { name := "cutTurned", fn := fun _ => fun
  | [d1, d2, d3, d4] => { results := [.lit (.bool true)], args := [d1, d2, d3, d4] }
  | _ => none }
def cutTurnedRow : OpenClaim := { program := "ytbhfbpeldcnpfaa", sum := "e2771a12ed2afca11cc6e28f0bcf9dd245e9620e9f4b34382d5757ab36faa811", func := "raceway/racewaylaw14.CutTurned", spec := "cutTurned", unfollowed := true, recurses := true, apart := false }
def CutTurnedSaid : Prop := cutTurnedRow.holds Try.pinned (OpenSpec.ofChange cutTurnedSpec)

/-- ITS FALSE NEIGHBOUR: 'it returns false'. Refute it at one input. -/
def cutTurnedWrong : ChangeSpec := { name := "cutTurned", fn := fun _ => fun
  | [d1, d2, d3, d4] => { results := [.lit (.bool false)], args := [d1, d2, d3, d4] }
  | _ => none }
def CutTurnedWrongFalsely : Prop := cutTurnedRow.holds Try.pinned (OpenSpec.ofChange cutTurnedWrong)

/-- 'racewaylaw14.CutFull': WHATEVER THE INPUT: true; the input reads as it did. -/
def cutFullSpec : ChangeSpec := { name := "cutFull", fn := fun _ => fun
  | [d1, d2, d3] => { results := [.lit (.bool true)], args := [d1, d2, d3] }
  | _ => none }
def cutFullRow : OpenClaim := { program := "ytbhfbpeldcnpfaa", sum := "e2771a12ed2afca11cc6e28f0bcf9dd245e9620e9f4b34382d5757ab36faa811", func := "raceway/racewaylaw14.CutFull", spec := "cutFull", unfollowed := true, recurses := true, apart := false }
def CutFullSaid : Prop := cutFullRow.holds Try.pinned (OpenSpec.ofChange cutFullSpec)

/-- ITS FALSE NEIGHBOUR: 'it returns false'. Refute it at one input. -/
def cutFullWrong : ChangeSpec := { name := "cutFull", fn := fun _ => fun
  | [d1, d2, d3] => { results := [.lit (.bool false)], args := [d1, d2, d3] }
  | _ => none }
def CutFullWrongFalsely : Prop := cutFullRow.holds Try.pinned (OpenSpec.ofChange cutFullWrong)

/-- 'racewaylaw13.ScaleLarge': WHATEVER THE INPUT: true; the input reads as it did. -/
def scaleLargeSpec : ChangeSpec := { name := "scaleLarge", fn := fun _ => fun
  | [d1, d2, d3, d4] => { results := [.lit (.bool true)], args := [d1, d2, d3, d4] }
  | _ => none }
def scaleLargeRow : OpenClaim := { program := "ytbhfbpeldcnpfaa", sum := "e2771a12ed2afca11cc6e28f0bcf9dd245e9620e9f4b34382d5757ab36faa811", func := "raceway/racewaylaw13.ScaleLarge", spec := "scaleLarge", unfollowed := true, recurses := true, apart := false }
def ScaleLargeSaid : Prop := scaleLargeRow.holds Try.pinned (OpenSpec.ofChange scaleLargeSpec)

/-- ITS FALSE NEIGHBOUR: 'it returns false'. Refute it at one input. -/
def scaleLargeWrong : ChangeSpec := { name := "scaleLarge", fn := fun _ => fun
  | [d1, d2, d3, d4] => { results := [.lit (.bool false)], args := [d1, d2, d3, d4] }
  | _ => none }
def ScaleLargeWrongFalsely : Prop := scaleLargeRow.holds Try.pinned (OpenSpec.ofChange scaleLargeWrong)

/-- 'racewaylaw16.MatchPath': WHATEVER THE INPUT: true; the input reads as it did. -/
def matchPathSpec : ChangeSpec := { name := "matchPath", fn := fun _ => fun
  | [d] => { results := [.lit (.bool true)], args := [d] }
  | _ => none }
def matchPathRow : OpenClaim := { program := "ytbhfbpeldcnpfaa", sum := "e2771a12ed2afca11cc6e28f0bcf9dd245e9620e9f4b34382d5757ab36faa811", func := "raceway/racewaylaw16.MatchPath", spec := "matchPath", unfollowed := true, recurses := true, apart := false }
def MatchPathSaid : Prop := matchPathRow.holds Try.pinned (OpenSpec.ofChange matchPathSpec)

/-- ITS FALSE NEIGHBOUR: 'it returns false'. Refute it at one input. -/
def matchPathWrong : ChangeSpec := { name := "matchPath", fn := fun _ => fun
  | [d] => { results := [.lit (.bool false)], args := [d] }
  | _ => none }
def MatchPathWrongFalsely : Prop := matchPathRow.holds Try.pinned (OpenSpec.ofChange matchPathWrong)

/-- 'racewaylaw16.MatchMost': WHATEVER THE INPUT: true; the input reads as it did. -/
def matchMostSpec : ChangeSpec := { name := "matchMost", fn := fun _ => fun
  | [d1, d2, d3, d4] => { results := [.lit (.bool true)], args := [d1, d2, d3, d4] }
  | _ => none }
def matchMostRow : OpenClaim := { program := "ytbhfbpeldcnpfaa", sum := "e2771a12ed2afca11cc6e28f0bcf9dd245e9620e9f4b34382d5757ab36faa811", func := "raceway/racewaylaw16.MatchMost", spec := "matchMost", unfollowed := true, recurses := true, apart := false }
def MatchMostSaid : Prop := matchMostRow.holds Try.pinned (OpenSpec.ofChange matchMostSpec)

/-- ITS FALSE NEIGHBOUR: 'it returns false'. Refute it at one input. -/
def matchMostWrong : ChangeSpec := { name := "matchMost", fn := fun _ => fun
  | [d1, d2, d3, d4] => { results := [.lit (.bool false)], args := [d1, d2, d3, d4] }
  | _ => none }
def MatchMostWrongFalsely : Prop := matchMostRow.holds Try.pinned (OpenSpec.ofChange matchMostWrong)

/-- 'racewaylaw17.CoverStar': WHATEVER THE INPUT: true; the input reads as it did. -/
def coverStarSpec : ChangeSpec := { name := "coverStar", fn := fun _ => fun
  | [d1, d2] => { results := [.lit (.bool true)], args := [d1, d2] }
  | _ => none }
def coverStarRow : OpenClaim := { program := "ytbhfbpeldcnpfaa", sum := "e2771a12ed2afca11cc6e28f0bcf9dd245e9620e9f4b34382d5757ab36faa811", func := "raceway/racewaylaw17.CoverStar", spec := "coverStar", unfollowed := true, recurses := true, apart := false }
def CoverStarSaid : Prop := coverStarRow.holds Try.pinned (OpenSpec.ofChange coverStarSpec)

/-- ITS FALSE NEIGHBOUR: 'it returns false'. Refute it at one input. -/
def coverStarWrong : ChangeSpec := { name := "coverStar", fn := fun _ => fun
  | [d1, d2] => { results := [.lit (.bool false)], args := [d1, d2] }
  | _ => none }
def CoverStarWrongFalsely : Prop := coverStarRow.holds Try.pinned (OpenSpec.ofChange coverStarWrong)

/-- 'racewaylaw17.CoverTurned': WHATEVER THE INPUT: true; the input reads as it did. -/
def coverTurnedSpec : ChangeSpec := { name := "coverTurned", fn := fun _ => fun
  | [d1, d2, d3, d4] => { results := [.lit (.bool true)], args := [d1, d2, d3, d4] }
  | _ => none }
def coverTurnedRow : OpenClaim := { program := "ytbhfbpeldcnpfaa", sum := "e2771a12ed2afca11cc6e28f0bcf9dd245e9620e9f4b34382d5757ab36faa811", func := "raceway/racewaylaw17.CoverTurned", spec := "coverTurned", unfollowed := true, recurses := true, apart := false }
def CoverTurnedSaid : Prop := coverTurnedRow.holds Try.pinned (OpenSpec.ofChange coverTurnedSpec)

/-- ITS FALSE NEIGHBOUR: 'it returns false'. Refute it at one input. -/
def coverTurnedWrong : ChangeSpec := { name := "coverTurned", fn := fun _ => fun
  | [d1, d2, d3, d4] => { results := [.lit (.bool false)], args := [d1, d2, d3, d4] }
  | _ => none }
def CoverTurnedWrongFalsely : Prop := coverTurnedRow.holds Try.pinned (OpenSpec.ofChange coverTurnedWrong)

/-- 'racewaylaw17.CoverWeak': WHATEVER THE INPUT: true; the input reads as it did. -/
def coverWeakSpec : ChangeSpec := { name := "coverWeak", fn := fun _ => fun
  | [d1, d2, d3, d4, d5] => { results := [.lit (.bool true)], args := [d1, d2, d3, d4, d5] }
  | _ => none }
def coverWeakRow : OpenClaim := { program := "ytbhfbpeldcnpfaa", sum := "e2771a12ed2afca11cc6e28f0bcf9dd245e9620e9f4b34382d5757ab36faa811", func := "raceway/racewaylaw17.CoverWeak", spec := "coverWeak", unfollowed := true, recurses := true, apart := false }
def CoverWeakSaid : Prop := coverWeakRow.holds Try.pinned (OpenSpec.ofChange coverWeakSpec)

/-- ITS FALSE NEIGHBOUR: 'it returns false'. Refute it at one input. -/
def coverWeakWrong : ChangeSpec := { name := "coverWeak", fn := fun _ => fun
  | [d1, d2, d3, d4, d5] => { results := [.lit (.bool false)], args := [d1, d2, d3, d4, d5] }
  | _ => none }
def CoverWeakWrongFalsely : Prop := coverWeakRow.holds Try.pinned (OpenSpec.ofChange coverWeakWrong)

/-- 'racewaylaw17.CoverGrows': WHATEVER THE INPUT: true; the input reads as it did. -/
def coverGrowsSpec : ChangeSpec := { name := "coverGrows", fn := fun _ => fun
  | [d1, d2, d3] => { results := [.lit (.bool true)], args := [d1, d2, d3] }
  | _ => none }
def coverGrowsRow : OpenClaim := { program := "ytbhfbpeldcnpfaa", sum := "e2771a12ed2afca11cc6e28f0bcf9dd245e9620e9f4b34382d5757ab36faa811", func := "raceway/racewaylaw17.CoverGrows", spec := "coverGrows", unfollowed := true, recurses := true, apart := false }
def CoverGrowsSaid : Prop := coverGrowsRow.holds Try.pinned (OpenSpec.ofChange coverGrowsSpec)

/-- ITS FALSE NEIGHBOUR: 'it returns false'. Refute it at one input. -/
def coverGrowsWrong : ChangeSpec := { name := "coverGrows", fn := fun _ => fun
  | [d1, d2, d3] => { results := [.lit (.bool false)], args := [d1, d2, d3] }
  | _ => none }
def CoverGrowsWrongFalsely : Prop := coverGrowsRow.holds Try.pinned (OpenSpec.ofChange coverGrowsWrong)

/-- 'racewaylaw12.DinicMost': WHATEVER THE INPUT: true; the input reads as it did. -/
def dinicMostSpec : ChangeSpec := { name := "dinicMost", fn := fun _ => fun
  | [d1, d2, d3, d4, d5] => { results := [.lit (.bool true)], args := [d1, d2, d3, d4, d5] }
  | _ => none }
def dinicMostRow : OpenClaim := { program := "ytbhfbpeldcnpfaa", sum := "e2771a12ed2afca11cc6e28f0bcf9dd245e9620e9f4b34382d5757ab36faa811", func := "raceway/racewaylaw12.DinicMost", spec := "dinicMost", unfollowed := true, recurses := true, apart := false }
def DinicMostSaid : Prop := dinicMostRow.holds Try.pinned (OpenSpec.ofChange dinicMostSpec)

/-- ITS FALSE NEIGHBOUR: 'it returns false'. Refute it at one input. -/
def dinicMostWrong : ChangeSpec := { name := "dinicMost", fn := fun _ => fun
  | [d1, d2, d3, d4, d5] => { results := [.lit (.bool false)], args := [d1, d2, d3, d4, d5] }
  | _ => none }
def DinicMostWrongFalsely : Prop := dinicMostRow.holds Try.pinned (OpenSpec.ofChange dinicMostWrong)

/-- 'racewaylaw12.DinicTurned': WHATEVER THE INPUT: true; the input reads as it did. -/
def dinicTurnedSpec : ChangeSpec := { name := "dinicTurned", fn := fun _ => fun
  | [d1, d2, d3, d4, d5] => { results := [.lit (.bool true)], args := [d1, d2, d3, d4, d5] }
  | _ => none }
def dinicTurnedRow : OpenClaim := { program := "ytbhfbpeldcnpfaa", sum := "e2771a12ed2afca11cc6e28f0bcf9dd245e9620e9f4b34382d5757ab36faa811", func := "raceway/racewaylaw12.DinicTurned", spec := "dinicTurned", unfollowed := true, recurses := true, apart := false }
def DinicTurnedSaid : Prop := dinicTurnedRow.holds Try.pinned (OpenSpec.ofChange dinicTurnedSpec)

/-- ITS FALSE NEIGHBOUR: 'it returns false'. Refute it at one input. -/
def dinicTurnedWrong : ChangeSpec := { name := "dinicTurned", fn := fun _ => fun
  | [d1, d2, d3, d4, d5] => { results := [.lit (.bool false)], args := [d1, d2, d3, d4, d5] }
  | _ => none }
def DinicTurnedWrongFalsely : Prop := dinicTurnedRow.holds Try.pinned (OpenSpec.ofChange dinicTurnedWrong)

/- THE SECOND FORM. 'bulk': how many values and letters a reading holds, each counted each time it is reached (what is shared counts as often as it is met; a slice's spare places count too). A statement '..UptoSaid' is the law's where the arguments, and the package variables that the reading takes, are together of bulk at most 1048576: NARROWER than '..Said'. Prove '..Said' where nothing that the law and all that it calls make is longer than what came in: it says more and counts as full. Else prove '..UptoSaid'. A law counts once. -/
mutual
def uptoBulk {H : Type} : DataW H → Nat
  | .lit (.string bytes) => bytes.length + 1
  | .lit _ => 1
  | .nil => 1
  | .ptr d => uptoBulk d + 1
  | .slice elems spare => uptoBulkAll elems + uptoBulkAll spare + 1
  | .agg parts => uptoBulkAll parts + 1
  | .iface _ d => uptoBulk d + 1
  | .map entries => uptoBulkEntries entries + 1
  | .held _ => 1
def uptoBulkAll {H : Type} : List (DataW H) → Nat
  | [] => 0
  | d :: r => uptoBulk d + uptoBulkAll r
def uptoBulkEntries {H : Type} : List (Lit × DataW H) → Nat
  | [] => 0
  | x :: r => uptoBulkEntry x + uptoBulkEntries r
def uptoBulkEntry {H : Type} : Lit × DataW H → Nat
  | (.string bytes, d) => bytes.length + uptoBulk d + 1
  | (_, d) => uptoBulk d + 1
 end
def uptoSmall : (H : Type) → List (DataW H) → Bool := fun _ ds => decide (uptoBulkAll ds ≤ 1048576)
def OpenSpec.upto (s : _root_.Go.ChangeSpec) : _root_.Go.OpenSpec := { _root_.Go.OpenSpec.ofChange s with cond := some uptoSmall }

/-- 'racewaylaw14.CutStrong', WHERE WHAT IT READS IS OF BULK AT MOST 1048576: true; the input reads as it did. -/
def cutStrongUptoRow : OpenClaim := { program := "ytbhfbpeldcnpfaa", sum := "e2771a12ed2afca11cc6e28f0bcf9dd245e9620e9f4b34382d5757ab36faa811", func := "raceway/racewaylaw14.CutStrong", spec := "cutStrong", unfollowed := true, recurses := true, apart := false, narrowed := true }
def CutStrongUptoSaid : Prop := cutStrongUptoRow.holds Try.pinned (OpenSpec.upto cutStrongSpec)

/-- 'racewaylaw14.CutTurned', WHERE WHAT IT READS IS OF BULK AT MOST 1048576: true; the input reads as it did. -/
def cutTurnedUptoRow : OpenClaim := { program := "ytbhfbpeldcnpfaa", sum := "e2771a12ed2afca11cc6e28f0bcf9dd245e9620e9f4b34382d5757ab36faa811", func := "raceway/racewaylaw14.CutTurned", spec := "cutTurned", unfollowed := true, recurses := true, apart := false, narrowed := true }
def CutTurnedUptoSaid : Prop := cutTurnedUptoRow.holds Try.pinned (OpenSpec.upto cutTurnedSpec)

/-- 'racewaylaw14.CutFull', WHERE WHAT IT READS IS OF BULK AT MOST 1048576: true; the input reads as it did. -/
def cutFullUptoRow : OpenClaim := { program := "ytbhfbpeldcnpfaa", sum := "e2771a12ed2afca11cc6e28f0bcf9dd245e9620e9f4b34382d5757ab36faa811", func := "raceway/racewaylaw14.CutFull", spec := "cutFull", unfollowed := true, recurses := true, apart := false, narrowed := true }
def CutFullUptoSaid : Prop := cutFullUptoRow.holds Try.pinned (OpenSpec.upto cutFullSpec)

/-- 'racewaylaw13.ScaleLarge', WHERE WHAT IT READS IS OF BULK AT MOST 1048576: true; the input reads as it did. -/
def scaleLargeUptoRow : OpenClaim := { program := "ytbhfbpeldcnpfaa", sum := "e2771a12ed2afca11cc6e28f0bcf9dd245e9620e9f4b34382d5757ab36faa811", func := "raceway/racewaylaw13.ScaleLarge", spec := "scaleLarge", unfollowed := true, recurses := true, apart := false, narrowed := true }
def ScaleLargeUptoSaid : Prop := scaleLargeUptoRow.holds Try.pinned (OpenSpec.upto scaleLargeSpec)

/-- 'racewaylaw16.MatchPath', WHERE WHAT IT READS IS OF BULK AT MOST 1048576: true; the input reads as it did. -/
def matchPathUptoRow : OpenClaim := { program := "ytbhfbpeldcnpfaa", sum := "e2771a12ed2afca11cc6e28f0bcf9dd245e9620e9f4b34382d5757ab36faa811", func := "raceway/racewaylaw16.MatchPath", spec := "matchPath", unfollowed := true, recurses := true, apart := false, narrowed := true }
def MatchPathUptoSaid : Prop := matchPathUptoRow.holds Try.pinned (OpenSpec.upto matchPathSpec)

/-- 'racewaylaw16.MatchMost', WHERE WHAT IT READS IS OF BULK AT MOST 1048576: true; the input reads as it did. -/
def matchMostUptoRow : OpenClaim := { program := "ytbhfbpeldcnpfaa", sum := "e2771a12ed2afca11cc6e28f0bcf9dd245e9620e9f4b34382d5757ab36faa811", func := "raceway/racewaylaw16.MatchMost", spec := "matchMost", unfollowed := true, recurses := true, apart := false, narrowed := true }
def MatchMostUptoSaid : Prop := matchMostUptoRow.holds Try.pinned (OpenSpec.upto matchMostSpec)

/-- 'racewaylaw17.CoverStar', WHERE WHAT IT READS IS OF BULK AT MOST 1048576: true; the input reads as it did. -/
def coverStarUptoRow : OpenClaim := { program := "ytbhfbpeldcnpfaa", sum := "e2771a12ed2afca11cc6e28f0bcf9dd245e9620e9f4b34382d5757ab36faa811", func := "raceway/racewaylaw17.CoverStar", spec := "coverStar", unfollowed := true, recurses := true, apart := false, narrowed := true }
def CoverStarUptoSaid : Prop := coverStarUptoRow.holds Try.pinned (OpenSpec.upto coverStarSpec)

/-- 'racewaylaw17.CoverTurned', WHERE WHAT IT READS IS OF BULK AT MOST 1048576: true; the input reads as it did. -/
def coverTurnedUptoRow : OpenClaim := { program := "ytbhfbpeldcnpfaa", sum := "e2771a12ed2afca11cc6e28f0bcf9dd245e9620e9f4b34382d5757ab36faa811", func := "raceway/racewaylaw17.CoverTurned", spec := "coverTurned", unfollowed := true, recurses := true, apart := false, narrowed := true }
def CoverTurnedUptoSaid : Prop := coverTurnedUptoRow.holds Try.pinned (OpenSpec.upto coverTurnedSpec)

/-- 'racewaylaw17.CoverWeak', WHERE WHAT IT READS IS OF BULK AT MOST 1048576: true; the input reads as it did. -/
def coverWeakUptoRow : OpenClaim := { program := "ytbhfbpeldcnpfaa", sum := "e2771a12ed2afca11cc6e28f0bcf9dd245e9620e9f4b34382d5757ab36faa811", func := "raceway/racewaylaw17.CoverWeak", spec := "coverWeak", unfollowed := true, recurses := true, apart := false, narrowed := true }
def CoverWeakUptoSaid : Prop := coverWeakUptoRow.holds Try.pinned (OpenSpec.upto coverWeakSpec)

/-- 'racewaylaw17.CoverGrows', WHERE WHAT IT READS IS OF BULK AT MOST 1048576: true; the input reads as it did. -/
def coverGrowsUptoRow : OpenClaim := { program := "ytbhfbpeldcnpfaa", sum := "e2771a12ed2afca11cc6e28f0bcf9dd245e9620e9f4b34382d5757ab36faa811", func := "raceway/racewaylaw17.CoverGrows", spec := "coverGrows", unfollowed := true, recurses := true, apart := false, narrowed := true }
def CoverGrowsUptoSaid : Prop := coverGrowsUptoRow.holds Try.pinned (OpenSpec.upto coverGrowsSpec)

/-- 'racewaylaw12.DinicMost', WHERE WHAT IT READS IS OF BULK AT MOST 1048576: true; the input reads as it did. -/
def dinicMostUptoRow : OpenClaim := { program := "ytbhfbpeldcnpfaa", sum := "e2771a12ed2afca11cc6e28f0bcf9dd245e9620e9f4b34382d5757ab36faa811", func := "raceway/racewaylaw12.DinicMost", spec := "dinicMost", unfollowed := true, recurses := true, apart := false, narrowed := true }
def DinicMostUptoSaid : Prop := dinicMostUptoRow.holds Try.pinned (OpenSpec.upto dinicMostSpec)

/-- 'racewaylaw12.DinicTurned', WHERE WHAT IT READS IS OF BULK AT MOST 1048576: true; the input reads as it did. -/
def dinicTurnedUptoRow : OpenClaim := { program := "ytbhfbpeldcnpfaa", sum := "e2771a12ed2afca11cc6e28f0bcf9dd245e9620e9f4b34382d5757ab36faa811", func := "raceway/racewaylaw12.DinicTurned", spec := "dinicTurned", unfollowed := true, recurses := true, apart := false, narrowed := true }
def DinicTurnedUptoSaid : Prop := dinicTurnedUptoRow.holds Try.pinned (OpenSpec.upto dinicTurnedSpec)

end Rows
end Go.Proofs.Ytbhfbpeldcnpfaa
