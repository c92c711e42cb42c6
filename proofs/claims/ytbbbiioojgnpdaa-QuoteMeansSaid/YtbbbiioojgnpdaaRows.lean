/-
  No cell of these rows narrows 'for every input' (looked for: loops, veiled, ifaces, maps, wideKeys, modest, calm, conditions, laid).
  DERIVED. THE GIVEN ROWS OF THIS SEAT. 6 by the template 'for every input the law returns true; each argument reads behind the call as it read before'; 0 by the template 'total and deterministic' (their statements: YtbbbiioojgnpdaaTotals.lean).
  GIVEN WITH THE SEED: the statements are not yours to turn. If you find one false, say at which input.
  Laid BY PROGRAM, IN A SANDBOX (cutbox-rows.mjs): the forced cells as the released guide's own fill.sh prints them over the translation 78b8a87fe2f8b3dc… (all of the seat's roots in one cut). By AI agents, Wed Nov 11 2026. No macro, syntax, notation, axiom, sorry.
-/
import Derived.Test.YtbbbiioojgnpdaaChecked
import GoSem.Claim
import GoSem.ClaimJoined
import GoSem.ClaimMapViews
import Derived.JoinedTies
import Derived.KernelRfl
namespace Go.Proofs.Ytbbbiioojgnpdaa
/- THE CELL 'sum', in the pinned program and in every row, IS THE sha256 OF THE DUMP (.gsa) THAT YtbbbiioojgnpdaaProg.lean LOADS. Nothing in Lean hashes anything: it is a label: what it is worth is what the hold of that sum in a sandbox is worth. -/
noncomputable def Try.pinned : Pinned := { name := "ytbbbiioojgnpdaa", sum := "78b8a87fe2f8b3dc5c71d8f70b31a370eb955b1925a7f143ed8db454b3ec26bc", checked := Try.checked }
namespace Rows
def none {H : Type} : Left H := { results := [], args := [] }

/-- 'tallystonelaw17.QuoteSpot': WHATEVER THE INPUT: true; the input reads as it did. -/
def quoteSpotSpec : ChangeSpec := { name := "quoteSpot", fn := fun _ => fun
  | [d1, d2, d3] => { results := [.lit (.bool true)], args := [d1, d2, d3] }
  | _ => none }
def quoteSpotRow : OpenClaim := { program := "ytbbbiioojgnpdaa", sum := "78b8a87fe2f8b3dc5c71d8f70b31a370eb955b1925a7f143ed8db454b3ec26bc", func := "tallystone/tallystonelaw17.QuoteSpot", spec := "quoteSpot", unfollowed := true, recurses := true, plainKeys := false, apart := false }
def QuoteSpotSaid : Prop := quoteSpotRow.holds Try.pinned (OpenSpec.ofChange quoteSpotSpec)

/-- ITS FALSE NEIGHBOUR: 'it returns false'. Refute it at one input. -/
def quoteSpotWrong : ChangeSpec := { name := "quoteSpot", fn := fun _ => fun
  | [d1, d2, d3] => { results := [.lit (.bool false)], args := [d1, d2, d3] }
  | _ => none }
def QuoteSpotWrongFalsely : Prop := quoteSpotRow.holds Try.pinned (OpenSpec.ofChange quoteSpotWrong)

/-- 'tallystonelaw17.QuoteAverage': WHATEVER THE INPUT: true; the input reads as it did. -/
def quoteAverageSpec : ChangeSpec := { name := "quoteAverage", fn := fun _ => fun
  | [d1, d2, d3] => { results := [.lit (.bool true)], args := [d1, d2, d3] }
  | _ => none }
def quoteAverageRow : OpenClaim := { program := "ytbbbiioojgnpdaa", sum := "78b8a87fe2f8b3dc5c71d8f70b31a370eb955b1925a7f143ed8db454b3ec26bc", func := "tallystone/tallystonelaw17.QuoteAverage", spec := "quoteAverage", unfollowed := true, recurses := true, plainKeys := false, apart := false }
def QuoteAverageSaid : Prop := quoteAverageRow.holds Try.pinned (OpenSpec.ofChange quoteAverageSpec)

/-- ITS FALSE NEIGHBOUR: 'it returns false'. Refute it at one input. -/
def quoteAverageWrong : ChangeSpec := { name := "quoteAverage", fn := fun _ => fun
  | [d1, d2, d3] => { results := [.lit (.bool false)], args := [d1, d2, d3] }
  | _ => none }
def QuoteAverageWrongFalsely : Prop := quoteAverageRow.holds Try.pinned (OpenSpec.ofChange quoteAverageWrong)

/-- 'tallystonelaw17.QuoteStable': WHATEVER THE INPUT: true; the input reads as it did. -/
def quoteStableSpec : ChangeSpec := { name := "quoteStable", fn := fun _ => fun
  | [d1, d2, d3] => { results := [.lit (.bool true)], args := [d1, d2, d3] }
  | _ => none }
def quoteStableRow : OpenClaim := { program := "ytbbbiioojgnpdaa", sum := "78b8a87fe2f8b3dc5c71d8f70b31a370eb955b1925a7f143ed8db454b3ec26bc", func := "tallystone/tallystonelaw17.QuoteStable", spec := "quoteStable", unfollowed := true, recurses := true, plainKeys := false, apart := false }
def QuoteStableSaid : Prop := quoteStableRow.holds Try.pinned (OpenSpec.ofChange quoteStableSpec)

/-- ITS FALSE NEIGHBOUR: 'it returns false'. Refute it at one input. -/
def quoteStableWrong : ChangeSpec := { name := "quoteStable", fn := fun _ => fun
  | [d1, d2, d3] => { results := [.lit (.bool false)], args := [d1, d2, d3] }
  | _ => none }
def QuoteStableWrongFalsely : Prop := quoteStableRow.holds Try.pinned (OpenSpec.ofChange quoteStableWrong)

/-- 'tallystonelaw17.QuoteMeans': WHATEVER THE INPUT: true; the input reads as it did. -/
def quoteMeansSpec : ChangeSpec := { name := "quoteMeans", fn := fun _ => fun
  | [d1, d2, d3] => { results := [.lit (.bool true)], args := [d1, d2, d3] }
  | _ => none }
def quoteMeansRow : OpenClaim := { program := "ytbbbiioojgnpdaa", sum := "78b8a87fe2f8b3dc5c71d8f70b31a370eb955b1925a7f143ed8db454b3ec26bc", func := "tallystone/tallystonelaw17.QuoteMeans", spec := "quoteMeans", unfollowed := true, recurses := true, plainKeys := false, apart := false }
def QuoteMeansSaid : Prop := quoteMeansRow.holds Try.pinned (OpenSpec.ofChange quoteMeansSpec)

/-- ITS FALSE NEIGHBOUR: 'it returns false'. Refute it at one input. -/
def quoteMeansWrong : ChangeSpec := { name := "quoteMeans", fn := fun _ => fun
  | [d1, d2, d3] => { results := [.lit (.bool false)], args := [d1, d2, d3] }
  | _ => none }
def QuoteMeansWrongFalsely : Prop := quoteMeansRow.holds Try.pinned (OpenSpec.ofChange quoteMeansWrong)

/-- 'tallystonelaw17.QuoteOrder': WHATEVER THE INPUT: true; the input reads as it did. -/
def quoteOrderSpec : ChangeSpec := { name := "quoteOrder", fn := fun _ => fun
  | [d1, d2, d3] => { results := [.lit (.bool true)], args := [d1, d2, d3] }
  | _ => none }
def quoteOrderRow : OpenClaim := { program := "ytbbbiioojgnpdaa", sum := "78b8a87fe2f8b3dc5c71d8f70b31a370eb955b1925a7f143ed8db454b3ec26bc", func := "tallystone/tallystonelaw17.QuoteOrder", spec := "quoteOrder", unfollowed := true, recurses := true, plainKeys := false, apart := false }
def QuoteOrderSaid : Prop := quoteOrderRow.holds Try.pinned (OpenSpec.ofChange quoteOrderSpec)

/-- ITS FALSE NEIGHBOUR: 'it returns false'. Refute it at one input. -/
def quoteOrderWrong : ChangeSpec := { name := "quoteOrder", fn := fun _ => fun
  | [d1, d2, d3] => { results := [.lit (.bool false)], args := [d1, d2, d3] }
  | _ => none }
def QuoteOrderWrongFalsely : Prop := quoteOrderRow.holds Try.pinned (OpenSpec.ofChange quoteOrderWrong)

/-- 'tallystonelaw17.QuoteLasts': WHATEVER THE INPUT: true; the input reads as it did. -/
def quoteLastsSpec : ChangeSpec := { name := "quoteLasts", fn := fun _ => fun
  | [d1, d2, d3] => { results := [.lit (.bool true)], args := [d1, d2, d3] }
  | _ => none }
def quoteLastsRow : OpenClaim := { program := "ytbbbiioojgnpdaa", sum := "78b8a87fe2f8b3dc5c71d8f70b31a370eb955b1925a7f143ed8db454b3ec26bc", func := "tallystone/tallystonelaw17.QuoteLasts", spec := "quoteLasts", unfollowed := true, recurses := true, plainKeys := false, apart := false }
def QuoteLastsSaid : Prop := quoteLastsRow.holds Try.pinned (OpenSpec.ofChange quoteLastsSpec)

/-- ITS FALSE NEIGHBOUR: 'it returns false'. Refute it at one input. -/
def quoteLastsWrong : ChangeSpec := { name := "quoteLasts", fn := fun _ => fun
  | [d1, d2, d3] => { results := [.lit (.bool false)], args := [d1, d2, d3] }
  | _ => none }
def QuoteLastsWrongFalsely : Prop := quoteLastsRow.holds Try.pinned (OpenSpec.ofChange quoteLastsWrong)

/- THE SECOND FORM. 'bulk': how many values and letters a reading holds, each counted each time it is reached (what is shared counts as often as it is met; a slice's spare places count too). A statement '..UptoSaid' is the law's where the arguments, and the package variables that the reading takes, are together of bulk at most 1048576: NARROWER than '..Said'. Prove '..Said' where nothing that the law and all that it calls make is longer than what came in: it says more and counts as full. Else prove '..UptoSaid'. A law counts once. -/
mutual
def uptoBulk {H : Type} : DataW H → Nat
  | .lit (.string bytes) => bytes.length + 1
  | .lit _ => 1
  | .nil => 1
  | .ptr d => uptoBulk d + 1
  | .slice elems spare => uptoBulkAll elems + uptoBulkAll spare + 1
  | .agg parts => uptoBulkAll parts + 1
  | .iface _ d => uptoBulk d + 1
  | .map entries => uptoBulkEntries entries + 1
  | .held _ => 1
def uptoBulkAll {H : Type} : List (DataW H) → Nat
  | [] => 0
  | d :: r => uptoBulk d + uptoBulkAll r
def uptoBulkEntries {H : Type} : List (Lit × DataW H) → Nat
  | [] => 0
  | x :: r => uptoBulkEntry x + uptoBulkEntries r
def uptoBulkEntry {H : Type} : Lit × DataW H → Nat
  | (.string bytes, d) => bytes.length + uptoBulk d + 1
  | (_, d) => uptoBulk d + 1
 end
def uptoSmall : (H : Type) → List (DataW H) → Bool := fun _ ds => decide (uptoBulkAll ds ≤ 1048576)
def OpenSpec.upto (s : _root_.Go.ChangeSpec) : _root_.Go.OpenSpec := { _root_.Go.OpenSpec.ofChange s with cond := some uptoSmall }

/-- 'tallystonelaw17.QuoteSpot', WHERE WHAT IT READS IS OF BULK AT MOST 1048576: true; the input reads as it did. -/
def quoteSpotUptoRow : OpenClaim := { program := "ytbbbiioojgnpdaa", sum := "78b8a87fe2f8b3dc5c71d8f70b31a370eb955b1925a7f143ed8db454b3ec26bc", func := "tallystone/tallystonelaw17.QuoteSpot", spec := "quoteSpot", unfollowed := true, recurses := true, plainKeys := false, apart := false, narrowed := true }
def QuoteSpotUptoSaid : Prop := quoteSpotUptoRow.holds Try.pinned (OpenSpec.upto quoteSpotSpec)

/-- 'tallystonelaw17.QuoteAverage', WHERE WHAT IT READS IS OF BULK AT MOST 1048576: true; the input reads as it did. -/
def quoteAverageUptoRow : OpenClaim := { program := "ytbbbiioojgnpdaa", sum := "78b8a87fe2f8b3dc5c71d8f70b31a370eb955b1925a7f143ed8db454b3ec26bc", func := "tallystone/tallystonelaw17.QuoteAverage", spec := "quoteAverage", unfollowed := true, recurses := true, plainKeys := false, apart := false, narrowed := true }
def QuoteAverageUptoSaid : Prop := quoteAverageUptoRow.holds Try.pinned (OpenSpec.upto quoteAverageSpec)

/-- 'tallystonelaw17.QuoteStable', WHERE WHAT IT READS IS OF BULK AT MOST 1048576: true; the input reads as it did. -/
def quoteStableUptoRow : OpenClaim := { program := "ytbbbiioojgnpdaa", sum := "78b8a87fe2f8b3dc5c71d8f70b31a370eb955b1925a7f143ed8db454b3ec26bc", func := "tallystone/tallystonelaw17.QuoteStable", spec := "quoteStable", unfollowed := true, recurses := true, plainKeys := false, apart := false, narrowed := true }
def QuoteStableUptoSaid : Prop := quoteStableUptoRow.holds Try.pinned (OpenSpec.upto quoteStableSpec)

/-- 'tallystonelaw17.QuoteMeans', WHERE WHAT IT READS IS OF BULK AT MOST 1048576: true; the input reads as it did. -/
def quoteMeansUptoRow : OpenClaim := { program := "ytbbbiioojgnpdaa", sum := "78b8a87fe2f8b3dc5c71d8f70b31a370eb955b1925a7f143ed8db454b3ec26bc", func := "tallystone/tallystonelaw17.QuoteMeans", spec := "quoteMeans", unfollowed := true, recurses := true, plainKeys := false, apart := false, narrowed := true }
def QuoteMeansUptoSaid : Prop := quoteMeansUptoRow.holds Try.pinned (OpenSpec.upto quoteMeansSpec)

/-- 'tallystonelaw17.QuoteOrder', WHERE WHAT IT READS IS OF BULK AT MOST 1048576: true; the input reads as it did. -/
def quoteOrderUptoRow : OpenClaim := { program := "ytbbbiioojgnpdaa", sum := "78b8a87fe2f8b3dc5c71d8f70b31a370eb955b1925a7f143ed8db454b3ec26bc", func := "tallystone/tallystonelaw17.QuoteOrder", spec := "quoteOrder", unfollowed := true, recurses := true, plainKeys := false, apart := false, narrowed := true }
def QuoteOrderUptoSaid : Prop := quoteOrderUptoRow.holds Try.pinned (OpenSpec.upto quoteOrderSpec)

/-- 'tallystonelaw17.QuoteLasts', WHERE WHAT IT READS IS OF BULK AT MOST 1048576: true; the input reads as it did. -/
def quoteLastsUptoRow : OpenClaim := { program := "ytbbbiioojgnpdaa", sum := "78b8a87fe2f8b3dc5c71d8f70b31a370eb955b1925a7f143ed8db454b3ec26bc", func := "tallystone/tallystonelaw17.QuoteLasts", spec := "quoteLasts", unfollowed := true, recurses := true, plainKeys := false, apart := false, narrowed := true }
def QuoteLastsUptoSaid : Prop := quoteLastsUptoRow.holds Try.pinned (OpenSpec.upto quoteLastsSpec)

end Rows
end Go.Proofs.Ytbbbiioojgnpdaa
