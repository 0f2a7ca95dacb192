/-
  No cell of these rows narrows 'for every input' (looked for: loops, veiled, ifaces, maps, wideKeys, modest, calm, conditions, laid).
  DERIVED. THE GIVEN ROWS OF THIS SEAT. 11 by the template 'for every input the law returns true; each argument reads behind the call as it read before'; 0 by the template 'total and deterministic' (their statements: YtaadamobapnfbaaTotals.lean).
  GIVEN WITH THE SEED: the statements are not yours to turn. If you find one false, say at which input.
  Laid BY PROGRAM, IN A SANDBOX (cutbox-rows.mjs): the forced cells as the released guide's own fill.sh prints them over the translation 217a7cc62eec37d8… (all of the seat's roots in one cut). By AI agents, Wed Nov 11 2026. No macro, syntax, notation, axiom, sorry.
-/
import Derived.Test.YtaadamobapnfbaaChecked
import GoSem.Claim
import GoSem.ClaimJoined
import GoSem.ClaimMapViews
import Derived.JoinedTies
import Derived.KernelRfl
namespace Go.Proofs.Ytaadamobapnfbaa
/- THE CELL 'sum', in the pinned program and in every row, IS THE sha256 OF THE DUMP (.gsa) THAT YtaadamobapnfbaaProg.lean LOADS. Nothing in Lean hashes anything: it is a label: what it is worth is what the hold of that sum in a sandbox is worth. -/
noncomputable def Try.pinned : Pinned := { name := "ytaadamobapnfbaa", sum := "217a7cc62eec37d83806b03b80b0c7d5eb7479ae3ff8018edf3527325a062a62", checked := Try.checked }
namespace Rows
def none {H : Type} : Left H := { results := [], args := [] }

/-- 'rewindlaw07.FlowGraphs': WHATEVER THE INPUT: true; the input reads as it did. -/
def flowGraphsSpec : ChangeSpec := { name := "flowGraphs", fn := fun _ => fun
  | [d] => { results := [.lit (.bool true)], args := [d] }
  | _ => none }
def flowGraphsRow : OpenClaim := { program := "ytaadamobapnfbaa", sum := "217a7cc62eec37d83806b03b80b0c7d5eb7479ae3ff8018edf3527325a062a62", func := "rewind/rewindlaw07.FlowGraphs", spec := "flowGraphs", recurses := true, apart := false }
def FlowGraphsSaid : Prop := flowGraphsRow.holds Try.pinned (OpenSpec.ofChange flowGraphsSpec)

/-- ITS FALSE NEIGHBOUR: 'it returns false'. Refute it at one input. -/
def flowGraphsWrong : ChangeSpec := { name := "flowGraphs", fn := fun _ => fun
  | [d] => { results := [.lit (.bool false)], args := [d] }
  | _ => none }
def FlowGraphsWrongFalsely : Prop := flowGraphsRow.holds Try.pinned (OpenSpec.ofChange flowGraphsWrong)

/-- 'rewindlaw07.FlowStays': WHATEVER THE INPUT: true; the input reads as it did. -/
def flowStaysSpec : ChangeSpec := { name := "flowStays", fn := fun _ => fun
  | [d] => { results := [.lit (.bool true)], args := [d] }
  | _ => none }
def flowStaysRow : OpenClaim := { program := "ytaadamobapnfbaa", sum := "217a7cc62eec37d83806b03b80b0c7d5eb7479ae3ff8018edf3527325a062a62", func := "rewind/rewindlaw07.FlowStays", spec := "flowStays", recurses := true, apart := false }
def FlowStaysSaid : Prop := flowStaysRow.holds Try.pinned (OpenSpec.ofChange flowStaysSpec)

/-- ITS FALSE NEIGHBOUR: 'it returns false'. Refute it at one input. -/
def flowStaysWrong : ChangeSpec := { name := "flowStays", fn := fun _ => fun
  | [d] => { results := [.lit (.bool false)], args := [d] }
  | _ => none }
def FlowStaysWrongFalsely : Prop := flowStaysRow.holds Try.pinned (OpenSpec.ofChange flowStaysWrong)

/-- 'rewindlaw07.FlowBacks': WHATEVER THE INPUT: true; the input reads as it did. -/
def flowBacksSpec : ChangeSpec := { name := "flowBacks", fn := fun _ => fun
  | [d] => { results := [.lit (.bool true)], args := [d] }
  | _ => none }
def flowBacksRow : OpenClaim := { program := "ytaadamobapnfbaa", sum := "217a7cc62eec37d83806b03b80b0c7d5eb7479ae3ff8018edf3527325a062a62", func := "rewind/rewindlaw07.FlowBacks", spec := "flowBacks", recurses := true, apart := false }
def FlowBacksSaid : Prop := flowBacksRow.holds Try.pinned (OpenSpec.ofChange flowBacksSpec)

/-- ITS FALSE NEIGHBOUR: 'it returns false'. Refute it at one input. -/
def flowBacksWrong : ChangeSpec := { name := "flowBacks", fn := fun _ => fun
  | [d] => { results := [.lit (.bool false)], args := [d] }
  | _ => none }
def FlowBacksWrongFalsely : Prop := flowBacksRow.holds Try.pinned (OpenSpec.ofChange flowBacksWrong)

/-- 'rewindlaw07.FlowTransits': WHATEVER THE INPUT: true; the input reads as it did. -/
def flowTransitsSpec : ChangeSpec := { name := "flowTransits", fn := fun _ => fun
  | [d1, d2] => { results := [.lit (.bool true)], args := [d1, d2] }
  | _ => none }
def flowTransitsRow : OpenClaim := { program := "ytaadamobapnfbaa", sum := "217a7cc62eec37d83806b03b80b0c7d5eb7479ae3ff8018edf3527325a062a62", func := "rewind/rewindlaw07.FlowTransits", spec := "flowTransits", recurses := true, apart := false }
def FlowTransitsSaid : Prop := flowTransitsRow.holds Try.pinned (OpenSpec.ofChange flowTransitsSpec)

/-- ITS FALSE NEIGHBOUR: 'it returns false'. Refute it at one input. -/
def flowTransitsWrong : ChangeSpec := { name := "flowTransits", fn := fun _ => fun
  | [d1, d2] => { results := [.lit (.bool false)], args := [d1, d2] }
  | _ => none }
def FlowTransitsWrongFalsely : Prop := flowTransitsRow.holds Try.pinned (OpenSpec.ofChange flowTransitsWrong)

/-- 'rewindlaw07.FlowTwos': WHATEVER THE INPUT: true; the input reads as it did. -/
def flowTwosSpec : ChangeSpec := { name := "flowTwos", fn := fun _ => fun
  | [d] => { results := [.lit (.bool true)], args := [d] }
  | _ => none }
def flowTwosRow : OpenClaim := { program := "ytaadamobapnfbaa", sum := "217a7cc62eec37d83806b03b80b0c7d5eb7479ae3ff8018edf3527325a062a62", func := "rewind/rewindlaw07.FlowTwos", spec := "flowTwos", recurses := true, apart := false }
def FlowTwosSaid : Prop := flowTwosRow.holds Try.pinned (OpenSpec.ofChange flowTwosSpec)

/-- ITS FALSE NEIGHBOUR: 'it returns false'. Refute it at one input. -/
def flowTwosWrong : ChangeSpec := { name := "flowTwos", fn := fun _ => fun
  | [d] => { results := [.lit (.bool false)], args := [d] }
  | _ => none }
def FlowTwosWrongFalsely : Prop := flowTwosRow.holds Try.pinned (OpenSpec.ofChange flowTwosWrong)

/-- 'rewindlaw06.CheckSlots': WHATEVER THE INPUT: true; the input reads as it did. -/
def checkSlotsSpec : ChangeSpec := { name := "checkSlots", fn := fun _ => fun
  | [d] => { results := [.lit (.bool true)], args := [d] }
  | _ => none }
def checkSlotsRow : OpenClaim := { program := "ytaadamobapnfbaa", sum := "217a7cc62eec37d83806b03b80b0c7d5eb7479ae3ff8018edf3527325a062a62", func := "rewind/rewindlaw06.CheckSlots", spec := "checkSlots", unfollowed := true, recurses := true, apart := false }
def CheckSlotsSaid : Prop := checkSlotsRow.holds Try.pinned (OpenSpec.ofChange checkSlotsSpec)

/-- ITS FALSE NEIGHBOUR: 'it returns false'. Refute it at one input. -/
def checkSlotsWrong : ChangeSpec := { name := "checkSlots", fn := fun _ => fun
  | [d] => { results := [.lit (.bool false)], args := [d] }
  | _ => none }
def CheckSlotsWrongFalsely : Prop := checkSlotsRow.holds Try.pinned (OpenSpec.ofChange checkSlotsWrong)

/-- 'rewindlaw06.CheckMany': WHATEVER THE INPUT: true; the input reads as it did. -/
def checkManySpec : ChangeSpec := { name := "checkMany", fn := fun _ => fun
  | [d1, d2] => { results := [.lit (.bool true)], args := [d1, d2] }
  | _ => none }
def checkManyRow : OpenClaim := { program := "ytaadamobapnfbaa", sum := "217a7cc62eec37d83806b03b80b0c7d5eb7479ae3ff8018edf3527325a062a62", func := "rewind/rewindlaw06.CheckMany", spec := "checkMany", unfollowed := true, recurses := true, apart := false }
def CheckManySaid : Prop := checkManyRow.holds Try.pinned (OpenSpec.ofChange checkManySpec)

/-- ITS FALSE NEIGHBOUR: 'it returns false'. Refute it at one input. -/
def checkManyWrong : ChangeSpec := { name := "checkMany", fn := fun _ => fun
  | [d1, d2] => { results := [.lit (.bool false)], args := [d1, d2] }
  | _ => none }
def CheckManyWrongFalsely : Prop := checkManyRow.holds Try.pinned (OpenSpec.ofChange checkManyWrong)

/-- 'rewindlaw06.CheckMore': WHATEVER THE INPUT: true; the input reads as it did. -/
def checkMoreSpec : ChangeSpec := { name := "checkMore", fn := fun _ => fun
  | [d] => { results := [.lit (.bool true)], args := [d] }
  | _ => none }
def checkMoreRow : OpenClaim := { program := "ytaadamobapnfbaa", sum := "217a7cc62eec37d83806b03b80b0c7d5eb7479ae3ff8018edf3527325a062a62", func := "rewind/rewindlaw06.CheckMore", spec := "checkMore", unfollowed := true, recurses := true, apart := false }
def CheckMoreSaid : Prop := checkMoreRow.holds Try.pinned (OpenSpec.ofChange checkMoreSpec)

/-- ITS FALSE NEIGHBOUR: 'it returns false'. Refute it at one input. -/
def checkMoreWrong : ChangeSpec := { name := "checkMore", fn := fun _ => fun
  | [d] => { results := [.lit (.bool false)], args := [d] }
  | _ => none }
def CheckMoreWrongFalsely : Prop := checkMoreRow.holds Try.pinned (OpenSpec.ofChange checkMoreWrong)

/-- 'rewindlaw06.CheckTypes': WHATEVER THE INPUT: true; the input reads as it did. -/
def checkTypesSpec : ChangeSpec := { name := "checkTypes", fn := fun _ => fun
  | [d] => { results := [.lit (.bool true)], args := [d] }
  | _ => none }
def checkTypesRow : OpenClaim := { program := "ytaadamobapnfbaa", sum := "217a7cc62eec37d83806b03b80b0c7d5eb7479ae3ff8018edf3527325a062a62", func := "rewind/rewindlaw06.CheckTypes", spec := "checkTypes", unfollowed := true, recurses := true, apart := false }
def CheckTypesSaid : Prop := checkTypesRow.holds Try.pinned (OpenSpec.ofChange checkTypesSpec)

/-- ITS FALSE NEIGHBOUR: 'it returns false'. Refute it at one input. -/
def checkTypesWrong : ChangeSpec := { name := "checkTypes", fn := fun _ => fun
  | [d] => { results := [.lit (.bool false)], args := [d] }
  | _ => none }
def CheckTypesWrongFalsely : Prop := checkTypesRow.holds Try.pinned (OpenSpec.ofChange checkTypesWrong)

/-- 'rewindlaw06.CheckPlaces': WHATEVER THE INPUT: true; the input reads as it did. -/
def checkPlacesSpec : ChangeSpec := { name := "checkPlaces", fn := fun _ => fun
  | [d] => { results := [.lit (.bool true)], args := [d] }
  | _ => none }
def checkPlacesRow : OpenClaim := { program := "ytaadamobapnfbaa", sum := "217a7cc62eec37d83806b03b80b0c7d5eb7479ae3ff8018edf3527325a062a62", func := "rewind/rewindlaw06.CheckPlaces", spec := "checkPlaces", unfollowed := true, recurses := true, apart := false }
def CheckPlacesSaid : Prop := checkPlacesRow.holds Try.pinned (OpenSpec.ofChange checkPlacesSpec)

/-- ITS FALSE NEIGHBOUR: 'it returns false'. Refute it at one input. -/
def checkPlacesWrong : ChangeSpec := { name := "checkPlaces", fn := fun _ => fun
  | [d] => { results := [.lit (.bool false)], args := [d] }
  | _ => none }
def CheckPlacesWrongFalsely : Prop := checkPlacesRow.holds Try.pinned (OpenSpec.ofChange checkPlacesWrong)

/-- 'rewindlaw07.FlowReaches': WHATEVER THE INPUT: true; the input reads as it did. -/
def flowReachesSpec : ChangeSpec := { name := "flowReaches", fn := fun _ => fun
  | [d1, d2, d3] => { results := [.lit (.bool true)], args := [d1, d2, d3] }
  | _ => none }
def flowReachesRow : OpenClaim := { program := "ytaadamobapnfbaa", sum := "217a7cc62eec37d83806b03b80b0c7d5eb7479ae3ff8018edf3527325a062a62", func := "rewind/rewindlaw07.FlowReaches", spec := "flowReaches", recurses := true, apart := false }
def FlowReachesSaid : Prop := flowReachesRow.holds Try.pinned (OpenSpec.ofChange flowReachesSpec)

/-- ITS FALSE NEIGHBOUR: 'it returns false'. Refute it at one input. -/
def flowReachesWrong : ChangeSpec := { name := "flowReaches", fn := fun _ => fun
  | [d1, d2, d3] => { results := [.lit (.bool false)], args := [d1, d2, d3] }
  | _ => none }
def FlowReachesWrongFalsely : Prop := flowReachesRow.holds Try.pinned (OpenSpec.ofChange flowReachesWrong)

/- THE SECOND FORM. 'bulk': how many values and letters a reading holds, each counted each time it is reached (what is shared counts as often as it is met; a slice's spare places count too). A statement '..UptoSaid' is the law's where the arguments, and the package variables that the reading takes, are together of bulk at most 1048576: NARROWER than '..Said'. Prove '..Said' where nothing that the law and all that it calls make is longer than what came in: it says more and counts as full. Else prove '..UptoSaid'. A law counts once. -/
mutual
def uptoBulk {H : Type} : DataW H → Nat
  | .lit (.string bytes) => bytes.length + 1
  | .lit _ => 1
  | .nil => 1
  | .ptr d => uptoBulk d + 1
  | .slice elems spare => uptoBulkAll elems + uptoBulkAll spare + 1
  | .agg parts => uptoBulkAll parts + 1
  | .iface _ d => uptoBulk d + 1
  | .map entries => uptoBulkEntries entries + 1
  | .held _ => 1
def uptoBulkAll {H : Type} : List (DataW H) → Nat
  | [] => 0
  | d :: r => uptoBulk d + uptoBulkAll r
def uptoBulkEntries {H : Type} : List (Lit × DataW H) → Nat
  | [] => 0
  | x :: r => uptoBulkEntry x + uptoBulkEntries r
def uptoBulkEntry {H : Type} : Lit × DataW H → Nat
  | (.string bytes, d) => bytes.length + uptoBulk d + 1
  | (_, d) => uptoBulk d + 1
 end
def uptoSmall : (H : Type) → List (DataW H) → Bool := fun _ ds => decide (uptoBulkAll ds ≤ 1048576)
def OpenSpec.upto (s : _root_.Go.ChangeSpec) : _root_.Go.OpenSpec := { _root_.Go.OpenSpec.ofChange s with cond := some uptoSmall }

/-- 'rewindlaw07.FlowGraphs', WHERE WHAT IT READS IS OF BULK AT MOST 1048576: true; the input reads as it did. -/
def flowGraphsUptoRow : OpenClaim := { program := "ytaadamobapnfbaa", sum := "217a7cc62eec37d83806b03b80b0c7d5eb7479ae3ff8018edf3527325a062a62", func := "rewind/rewindlaw07.FlowGraphs", spec := "flowGraphs", recurses := true, apart := false, narrowed := true }
def FlowGraphsUptoSaid : Prop := flowGraphsUptoRow.holds Try.pinned (OpenSpec.upto flowGraphsSpec)

/-- 'rewindlaw07.FlowStays', WHERE WHAT IT READS IS OF BULK AT MOST 1048576: true; the input reads as it did. -/
def flowStaysUptoRow : OpenClaim := { program := "ytaadamobapnfbaa", sum := "217a7cc62eec37d83806b03b80b0c7d5eb7479ae3ff8018edf3527325a062a62", func := "rewind/rewindlaw07.FlowStays", spec := "flowStays", recurses := true, apart := false, narrowed := true }
def FlowStaysUptoSaid : Prop := flowStaysUptoRow.holds Try.pinned (OpenSpec.upto flowStaysSpec)

/-- 'rewindlaw07.FlowBacks', WHERE WHAT IT READS IS OF BULK AT MOST 1048576: true; the input reads as it did. -/
def flowBacksUptoRow : OpenClaim := { program := "ytaadamobapnfbaa", sum := "217a7cc62eec37d83806b03b80b0c7d5eb7479ae3ff8018edf3527325a062a62", func := "rewind/rewindlaw07.FlowBacks", spec := "flowBacks", recurses := true, apart := false, narrowed := true }
def FlowBacksUptoSaid : Prop := flowBacksUptoRow.holds Try.pinned (OpenSpec.upto flowBacksSpec)

/-- 'rewindlaw07.FlowTransits', WHERE WHAT IT READS IS OF BULK AT MOST 1048576: true; the input reads as it did. -/
def flowTransitsUptoRow : OpenClaim := { program := "ytaadamobapnfbaa", sum := "217a7cc62eec37d83806b03b80b0c7d5eb7479ae3ff8018edf3527325a062a62", func := "rewind/rewindlaw07.FlowTransits", spec := "flowTransits", recurses := true, apart := false, narrowed := true }
def FlowTransitsUptoSaid : Prop := flowTransitsUptoRow.holds Try.pinned (OpenSpec.upto flowTransitsSpec)

/-- 'rewindlaw07.FlowTwos', WHERE WHAT IT READS IS OF BULK AT MOST 1048576: true; the input reads as it did. -/
def flowTwosUptoRow : OpenClaim := { program := "ytaadamobapnfbaa", sum := "217a7cc62eec37d83806b03b80b0c7d5eb7479ae3ff8018edf3527325a062a62", func := "rewind/rewindlaw07.FlowTwos", spec := "flowTwos", recurses := true, apart := false, narrowed := true }
def FlowTwosUptoSaid : Prop := flowTwosUptoRow.holds Try.pinned (OpenSpec.upto flowTwosSpec)

/-- 'rewindlaw06.CheckSlots', WHERE WHAT IT READS IS OF BULK AT MOST 1048576: true; the input reads as it did. -/
def checkSlotsUptoRow : OpenClaim := { program := "ytaadamobapnfbaa", sum := "217a7cc62eec37d83806b03b80b0c7d5eb7479ae3ff8018edf3527325a062a62", func := "rewind/rewindlaw06.CheckSlots", spec := "checkSlots", unfollowed := true, recurses := true, apart := false, narrowed := true }
def CheckSlotsUptoSaid : Prop := checkSlotsUptoRow.holds Try.pinned (OpenSpec.upto checkSlotsSpec)

/-- 'rewindlaw06.CheckMany', WHERE WHAT IT READS IS OF BULK AT MOST 1048576: true; the input reads as it did. -/
def checkManyUptoRow : OpenClaim := { program := "ytaadamobapnfbaa", sum := "217a7cc62eec37d83806b03b80b0c7d5eb7479ae3ff8018edf3527325a062a62", func := "rewind/rewindlaw06.CheckMany", spec := "checkMany", unfollowed := true, recurses := true, apart := false, narrowed := true }
def CheckManyUptoSaid : Prop := checkManyUptoRow.holds Try.pinned (OpenSpec.upto checkManySpec)

/-- 'rewindlaw06.CheckMore', WHERE WHAT IT READS IS OF BULK AT MOST 1048576: true; the input reads as it did. -/
def checkMoreUptoRow : OpenClaim := { program := "ytaadamobapnfbaa", sum := "217a7cc62eec37d83806b03b80b0c7d5eb7479ae3ff8018edf3527325a062a62", func := "rewind/rewindlaw06.CheckMore", spec := "checkMore", unfollowed := true, recurses := true, apart := false, narrowed := true }
def CheckMoreUptoSaid : Prop := checkMoreUptoRow.holds Try.pinned (OpenSpec.upto checkMoreSpec)

/-- 'rewindlaw06.CheckTypes', WHERE WHAT IT READS IS OF BULK AT MOST 1048576: true; the input reads as it did. -/
def checkTypesUptoRow : OpenClaim := { program := "ytaadamobapnfbaa", sum := "217a7cc62eec37d83806b03b80b0c7d5eb7479ae3ff8018edf3527325a062a62", func := "rewind/rewindlaw06.CheckTypes", spec := "checkTypes", unfollowed := true, recurses := true, apart := false, narrowed := true }
def CheckTypesUptoSaid : Prop := checkTypesUptoRow.holds Try.pinned (OpenSpec.upto checkTypesSpec)

/-- 'rewindlaw06.CheckPlaces', WHERE WHAT IT READS IS OF BULK AT MOST 1048576: true; the input reads as it did. -/
def checkPlacesUptoRow : OpenClaim := { program := "ytaadamobapnfbaa", sum := "217a7cc62eec37d83806b03b80b0c7d5eb7479ae3ff8018edf3527325a062a62", func := "rewind/rewindlaw06.CheckPlaces", spec := "checkPlaces", unfollowed := true, recurses := true, apart := false, narrowed := true }
def CheckPlacesUptoSaid : Prop := checkPlacesUptoRow.holds Try.pinned (OpenSpec.upto checkPlacesSpec)

/-- 'rewindlaw07.FlowReaches', WHERE WHAT IT READS IS OF BULK AT MOST 1048576: true; the input reads as it did. -/
def flowReachesUptoRow : OpenClaim := { program := "ytaadamobapnfbaa", sum := "217a7cc62eec37d83806b03b80b0c7d5eb7479ae3ff8018edf3527325a062a62", func := "rewind/rewindlaw07.FlowReaches", spec := "flowReaches", recurses := true, apart := false, narrowed := true }
def FlowReachesUptoSaid : Prop := flowReachesUptoRow.holds Try.pinned (OpenSpec.upto flowReachesSpec)

end Rows
end Go.Proofs.Ytaadamobapnfbaa
