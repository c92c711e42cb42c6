/-
  No cell of these rows narrows 'for every input' (looked for: loops, veiled, ifaces, maps, wideKeys, modest, calm, conditions, laid).
  DERIVED. THE GIVEN ROWS OF THIS SEAT. 10 by the template 'for every input the law returns true; each argument reads behind the call as it read before'; 0 by the template 'total and deterministic' (their statements: YtcblobokjhhboaaGreatTotals.lean).
  GIVEN WITH THE SEED: the statements are not yours to turn. If you find one false, say at which input.
  Laid BY PROGRAM, IN A SANDBOX (cutbox-rows.mjs): the forced cells as the released guide's own fill.sh prints them over the translation e3bd343d825ad20e… (all of the seat's roots in one cut). By AI agents, Wed Nov 11 2026. No macro, syntax, notation, axiom, sorry.
-/
import Derived.Test.YtcblobokjhhboaaGreatChecked
import GoSem.Claim
import GoSem.ClaimJoined
import GoSem.ClaimMapViews
import Derived.JoinedTies
import Derived.KernelRfl
namespace Go.Proofs.YtcblobokjhhboaaGreat
/- THE CELL 'sum', in the pinned program and in every row, IS THE sha256 OF THE DUMP (.gsa) THAT YtcblobokjhhboaaGreatProg.lean LOADS. Nothing in Lean hashes anything: it is a label: what it is worth is what the hold of that sum in a sandbox is worth. -/
noncomputable def Tryz.pinned : Pinned := { name := "ytcblobokjhhboaagreat", sum := "e3bd343d825ad20e23349ff1ac129e9dc98228c81153500120225cda9358e44b", checked := Tryz.checked }
namespace Rows
def none {H : Type} : Left H := { results := [], args := [] }

/-- 'tallystonelaw41.AssociateFigures': WHATEVER THE INPUT: true; the input reads as it did. -/
def associateFiguresSpec : ChangeSpec := { name := "associateFigures", fn := fun _ => fun
  | [d1, d2, d3] => { results := [.lit (.bool true)], args := [d1, d2, d3] }
  | _ => none }
def associateFiguresRow : OpenClaim := { program := "ytcblobokjhhboaagreat", sum := "e3bd343d825ad20e23349ff1ac129e9dc98228c81153500120225cda9358e44b", func := "tallystone/tallystonelaw41.AssociateFigures", spec := "associateFigures", unfollowed := true, recurses := true, plainKeys := false, apart := false }
def AssociateFiguresSaid : Prop := associateFiguresRow.holds Tryz.pinned (OpenSpec.ofChange associateFiguresSpec)

/-- ITS FALSE NEIGHBOUR: 'it returns false'. Refute it at one input. -/
def associateFiguresWrong : ChangeSpec := { name := "associateFigures", fn := fun _ => fun
  | [d1, d2, d3] => { results := [.lit (.bool false)], args := [d1, d2, d3] }
  | _ => none }
def AssociateFiguresWrongFalsely : Prop := associateFiguresRow.holds Tryz.pinned (OpenSpec.ofChange associateFiguresWrong)

/-- 'tallystonelaw41.AssociatePosting': WHATEVER THE INPUT: true; the input reads as it did. -/
def associatePostingSpec : ChangeSpec := { name := "associatePosting", fn := fun _ => fun
  | [d1, d2, d3] => { results := [.lit (.bool true)], args := [d1, d2, d3] }
  | _ => none }
def associatePostingRow : OpenClaim := { program := "ytcblobokjhhboaagreat", sum := "e3bd343d825ad20e23349ff1ac129e9dc98228c81153500120225cda9358e44b", func := "tallystone/tallystonelaw41.AssociatePosting", spec := "associatePosting", unfollowed := true, recurses := true, plainKeys := false, apart := false }
def AssociatePostingSaid : Prop := associatePostingRow.holds Tryz.pinned (OpenSpec.ofChange associatePostingSpec)

/-- ITS FALSE NEIGHBOUR: 'it returns false'. Refute it at one input. -/
def associatePostingWrong : ChangeSpec := { name := "associatePosting", fn := fun _ => fun
  | [d1, d2, d3] => { results := [.lit (.bool false)], args := [d1, d2, d3] }
  | _ => none }
def AssociatePostingWrongFalsely : Prop := associatePostingRow.holds Tryz.pinned (OpenSpec.ofChange associatePostingWrong)

/-- 'tallystonelaw41.AssociateLine': WHATEVER THE INPUT: true; the input reads as it did. -/
def associateLineSpec : ChangeSpec := { name := "associateLine", fn := fun _ => fun
  | [d1, d2, d3] => { results := [.lit (.bool true)], args := [d1, d2, d3] }
  | _ => none }
def associateLineRow : OpenClaim := { program := "ytcblobokjhhboaagreat", sum := "e3bd343d825ad20e23349ff1ac129e9dc98228c81153500120225cda9358e44b", func := "tallystone/tallystonelaw41.AssociateLine", spec := "associateLine", unfollowed := true, recurses := true, plainKeys := false, apart := false }
def AssociateLineSaid : Prop := associateLineRow.holds Tryz.pinned (OpenSpec.ofChange associateLineSpec)

/-- ITS FALSE NEIGHBOUR: 'it returns false'. Refute it at one input. -/
def associateLineWrong : ChangeSpec := { name := "associateLine", fn := fun _ => fun
  | [d1, d2, d3] => { results := [.lit (.bool false)], args := [d1, d2, d3] }
  | _ => none }
def AssociateLineWrongFalsely : Prop := associateLineRow.holds Tryz.pinned (OpenSpec.ofChange associateLineWrong)

/-- 'tallystonelaw39.MinorityFigures': WHATEVER THE INPUT: true; the input reads as it did. -/
def minorityFiguresSpec : ChangeSpec := { name := "minorityFigures", fn := fun _ => fun
  | [d1, d2, d3] => { results := [.lit (.bool true)], args := [d1, d2, d3] }
  | _ => none }
def minorityFiguresRow : OpenClaim := { program := "ytcblobokjhhboaagreat", sum := "e3bd343d825ad20e23349ff1ac129e9dc98228c81153500120225cda9358e44b", func := "tallystone/tallystonelaw39.MinorityFigures", spec := "minorityFigures", unfollowed := true, recurses := true, plainKeys := false, apart := false }
def MinorityFiguresSaid : Prop := minorityFiguresRow.holds Tryz.pinned (OpenSpec.ofChange minorityFiguresSpec)

/-- ITS FALSE NEIGHBOUR: 'it returns false'. Refute it at one input. -/
def minorityFiguresWrong : ChangeSpec := { name := "minorityFigures", fn := fun _ => fun
  | [d1, d2, d3] => { results := [.lit (.bool false)], args := [d1, d2, d3] }
  | _ => none }
def MinorityFiguresWrongFalsely : Prop := minorityFiguresRow.holds Tryz.pinned (OpenSpec.ofChange minorityFiguresWrong)

/-- 'tallystonelaw39.MinorityPosting': WHATEVER THE INPUT: true; the input reads as it did. -/
def minorityPostingSpec : ChangeSpec := { name := "minorityPosting", fn := fun _ => fun
  | [d1, d2, d3] => { results := [.lit (.bool true)], args := [d1, d2, d3] }
  | _ => none }
def minorityPostingRow : OpenClaim := { program := "ytcblobokjhhboaagreat", sum := "e3bd343d825ad20e23349ff1ac129e9dc98228c81153500120225cda9358e44b", func := "tallystone/tallystonelaw39.MinorityPosting", spec := "minorityPosting", unfollowed := true, recurses := true, plainKeys := false, apart := false }
def MinorityPostingSaid : Prop := minorityPostingRow.holds Tryz.pinned (OpenSpec.ofChange minorityPostingSpec)

/-- ITS FALSE NEIGHBOUR: 'it returns false'. Refute it at one input. -/
def minorityPostingWrong : ChangeSpec := { name := "minorityPosting", fn := fun _ => fun
  | [d1, d2, d3] => { results := [.lit (.bool false)], args := [d1, d2, d3] }
  | _ => none }
def MinorityPostingWrongFalsely : Prop := minorityPostingRow.holds Tryz.pinned (OpenSpec.ofChange minorityPostingWrong)

/-- 'tallystonelaw39.MinorityParts': WHATEVER THE INPUT: true; the input reads as it did. -/
def minorityPartsSpec : ChangeSpec := { name := "minorityParts", fn := fun _ => fun
  | [d1, d2, d3] => { results := [.lit (.bool true)], args := [d1, d2, d3] }
  | _ => none }
def minorityPartsRow : OpenClaim := { program := "ytcblobokjhhboaagreat", sum := "e3bd343d825ad20e23349ff1ac129e9dc98228c81153500120225cda9358e44b", func := "tallystone/tallystonelaw39.MinorityParts", spec := "minorityParts", unfollowed := true, recurses := true, plainKeys := false, apart := false }
def MinorityPartsSaid : Prop := minorityPartsRow.holds Tryz.pinned (OpenSpec.ofChange minorityPartsSpec)

/-- ITS FALSE NEIGHBOUR: 'it returns false'. Refute it at one input. -/
def minorityPartsWrong : ChangeSpec := { name := "minorityParts", fn := fun _ => fun
  | [d1, d2, d3] => { results := [.lit (.bool false)], args := [d1, d2, d3] }
  | _ => none }
def MinorityPartsWrongFalsely : Prop := minorityPartsRow.holds Tryz.pinned (OpenSpec.ofChange minorityPartsWrong)

/-- 'tallystonelaw39.MinorityNet': WHATEVER THE INPUT: true; the input reads as it did. -/
def minorityNetSpec : ChangeSpec := { name := "minorityNet", fn := fun _ => fun
  | [d1, d2] => { results := [.lit (.bool true)], args := [d1, d2] }
  | _ => none }
def minorityNetRow : OpenClaim := { program := "ytcblobokjhhboaagreat", sum := "e3bd343d825ad20e23349ff1ac129e9dc98228c81153500120225cda9358e44b", func := "tallystone/tallystonelaw39.MinorityNet", spec := "minorityNet", unfollowed := true, recurses := true, plainKeys := false, apart := false }
def MinorityNetSaid : Prop := minorityNetRow.holds Tryz.pinned (OpenSpec.ofChange minorityNetSpec)

/-- ITS FALSE NEIGHBOUR: 'it returns false'. Refute it at one input. -/
def minorityNetWrong : ChangeSpec := { name := "minorityNet", fn := fun _ => fun
  | [d1, d2] => { results := [.lit (.bool false)], args := [d1, d2] }
  | _ => none }
def MinorityNetWrongFalsely : Prop := minorityNetRow.holds Tryz.pinned (OpenSpec.ofChange minorityNetWrong)

/-- 'tallystonelaw41.AssociateShadow': WHATEVER THE INPUT: true; the input reads as it did. -/
def associateShadowSpec : ChangeSpec := { name := "associateShadow", fn := fun _ => fun
  | [d1, d2] => { results := [.lit (.bool true)], args := [d1, d2] }
  | _ => none }
def associateShadowRow : OpenClaim := { program := "ytcblobokjhhboaagreat", sum := "e3bd343d825ad20e23349ff1ac129e9dc98228c81153500120225cda9358e44b", func := "tallystone/tallystonelaw41.AssociateShadow", spec := "associateShadow", unfollowed := true, recurses := true, plainKeys := false, apart := false }
def AssociateShadowSaid : Prop := associateShadowRow.holds Tryz.pinned (OpenSpec.ofChange associateShadowSpec)

/-- ITS FALSE NEIGHBOUR: 'it returns false'. Refute it at one input. -/
def associateShadowWrong : ChangeSpec := { name := "associateShadow", fn := fun _ => fun
  | [d1, d2] => { results := [.lit (.bool false)], args := [d1, d2] }
  | _ => none }
def AssociateShadowWrongFalsely : Prop := associateShadowRow.holds Tryz.pinned (OpenSpec.ofChange associateShadowWrong)

/-- 'tallystonelaw39.MinorityOthers': WHATEVER THE INPUT: true; the input reads as it did. -/
def minorityOthersSpec : ChangeSpec := { name := "minorityOthers", fn := fun _ => fun
  | [d1, d2, d3] => { results := [.lit (.bool true)], args := [d1, d2, d3] }
  | _ => none }
def minorityOthersRow : OpenClaim := { program := "ytcblobokjhhboaagreat", sum := "e3bd343d825ad20e23349ff1ac129e9dc98228c81153500120225cda9358e44b", func := "tallystone/tallystonelaw39.MinorityOthers", spec := "minorityOthers", unfollowed := true, recurses := true, plainKeys := false, apart := false }
def MinorityOthersSaid : Prop := minorityOthersRow.holds Tryz.pinned (OpenSpec.ofChange minorityOthersSpec)

/-- ITS FALSE NEIGHBOUR: 'it returns false'. Refute it at one input. -/
def minorityOthersWrong : ChangeSpec := { name := "minorityOthers", fn := fun _ => fun
  | [d1, d2, d3] => { results := [.lit (.bool false)], args := [d1, d2, d3] }
  | _ => none }
def MinorityOthersWrongFalsely : Prop := minorityOthersRow.holds Tryz.pinned (OpenSpec.ofChange minorityOthersWrong)

/-- 'tallystonelaw41.AssociateRest': WHATEVER THE INPUT: true; the input reads as it did. -/
def associateRestSpec : ChangeSpec := { name := "associateRest", fn := fun _ => fun
  | [d1, d2] => { results := [.lit (.bool true)], args := [d1, d2] }
  | _ => none }
def associateRestRow : OpenClaim := { program := "ytcblobokjhhboaagreat", sum := "e3bd343d825ad20e23349ff1ac129e9dc98228c81153500120225cda9358e44b", func := "tallystone/tallystonelaw41.AssociateRest", spec := "associateRest", unfollowed := true, recurses := true, plainKeys := false, apart := false }
def AssociateRestSaid : Prop := associateRestRow.holds Tryz.pinned (OpenSpec.ofChange associateRestSpec)

/-- ITS FALSE NEIGHBOUR: 'it returns false'. Refute it at one input. -/
def associateRestWrong : ChangeSpec := { name := "associateRest", fn := fun _ => fun
  | [d1, d2] => { results := [.lit (.bool false)], args := [d1, d2] }
  | _ => none }
def AssociateRestWrongFalsely : Prop := associateRestRow.holds Tryz.pinned (OpenSpec.ofChange associateRestWrong)

/- THE SECOND FORM. 'bulk': how many values and letters a reading holds, each counted each time it is reached (what is shared counts as often as it is met; a slice's spare places count too). A statement '..UptoSaid' is the law's where the arguments, and the package variables that the reading takes, are together of bulk at most 1048576: NARROWER than '..Said'. Prove '..Said' where nothing that the law and all that it calls make is longer than what came in: it says more and counts as full. Else prove '..UptoSaid'. A law counts once. -/
mutual
def uptoBulk {H : Type} : DataW H → Nat
  | .lit (.string bytes) => bytes.length + 1
  | .lit _ => 1
  | .nil => 1
  | .ptr d => uptoBulk d + 1
  | .slice elems spare => uptoBulkAll elems + uptoBulkAll spare + 1
  | .agg parts => uptoBulkAll parts + 1
  | .iface _ d => uptoBulk d + 1
  | .map entries => uptoBulkEntries entries + 1
  | .held _ => 1
def uptoBulkAll {H : Type} : List (DataW H) → Nat
  | [] => 0
  | d :: r => uptoBulk d + uptoBulkAll r
def uptoBulkEntries {H : Type} : List (Lit × DataW H) → Nat
  | [] => 0
  | x :: r => uptoBulkEntry x + uptoBulkEntries r
def uptoBulkEntry {H : Type} : Lit × DataW H → Nat
  | (.string bytes, d) => bytes.length + uptoBulk d + 1
  | (_, d) => uptoBulk d + 1
 end
def uptoSmall : (H : Type) → List (DataW H) → Bool := fun _ ds => decide (uptoBulkAll ds ≤ 1048576)
def OpenSpec.upto (s : _root_.Go.ChangeSpec) : _root_.Go.OpenSpec := { _root_.Go.OpenSpec.ofChange s with cond := some uptoSmall }

/-- 'tallystonelaw41.AssociateFigures', WHERE WHAT IT READS IS OF BULK AT MOST 1048576: true; the input reads as it did. -/
def associateFiguresUptoRow : OpenClaim := { program := "ytcblobokjhhboaagreat", sum := "e3bd343d825ad20e23349ff1ac129e9dc98228c81153500120225cda9358e44b", func := "tallystone/tallystonelaw41.AssociateFigures", spec := "associateFigures", unfollowed := true, recurses := true, plainKeys := false, apart := false, narrowed := true }
def AssociateFiguresUptoSaid : Prop := associateFiguresUptoRow.holds Tryz.pinned (OpenSpec.upto associateFiguresSpec)

/-- 'tallystonelaw41.AssociatePosting', WHERE WHAT IT READS IS OF BULK AT MOST 1048576: true; the input reads as it did. -/
def associatePostingUptoRow : OpenClaim := { program := "ytcblobokjhhboaagreat", sum := "e3bd343d825ad20e23349ff1ac129e9dc98228c81153500120225cda9358e44b", func := "tallystone/tallystonelaw41.AssociatePosting", spec := "associatePosting", unfollowed := true, recurses := true, plainKeys := false, apart := false, narrowed := true }
def AssociatePostingUptoSaid : Prop := associatePostingUptoRow.holds Tryz.pinned (OpenSpec.upto associatePostingSpec)

/-- 'tallystonelaw41.AssociateLine', WHERE WHAT IT READS IS OF BULK AT MOST 1048576: true; the input reads as it did. -/
def associateLineUptoRow : OpenClaim := { program := "ytcblobokjhhboaagreat", sum := "e3bd343d825ad20e23349ff1ac129e9dc98228c81153500120225cda9358e44b", func := "tallystone/tallystonelaw41.AssociateLine", spec := "associateLine", unfollowed := true, recurses := true, plainKeys := false, apart := false, narrowed := true }
def AssociateLineUptoSaid : Prop := associateLineUptoRow.holds Tryz.pinned (OpenSpec.upto associateLineSpec)

/-- 'tallystonelaw39.MinorityFigures', WHERE WHAT IT READS IS OF BULK AT MOST 1048576: true; the input reads as it did. -/
def minorityFiguresUptoRow : OpenClaim := { program := "ytcblobokjhhboaagreat", sum := "e3bd343d825ad20e23349ff1ac129e9dc98228c81153500120225cda9358e44b", func := "tallystone/tallystonelaw39.MinorityFigures", spec := "minorityFigures", unfollowed := true, recurses := true, plainKeys := false, apart := false, narrowed := true }
def MinorityFiguresUptoSaid : Prop := minorityFiguresUptoRow.holds Tryz.pinned (OpenSpec.upto minorityFiguresSpec)

/-- 'tallystonelaw39.MinorityPosting', WHERE WHAT IT READS IS OF BULK AT MOST 1048576: true; the input reads as it did. -/
def minorityPostingUptoRow : OpenClaim := { program := "ytcblobokjhhboaagreat", sum := "e3bd343d825ad20e23349ff1ac129e9dc98228c81153500120225cda9358e44b", func := "tallystone/tallystonelaw39.MinorityPosting", spec := "minorityPosting", unfollowed := true, recurses := true, plainKeys := false, apart := false, narrowed := true }
def MinorityPostingUptoSaid : Prop := minorityPostingUptoRow.holds Tryz.pinned (OpenSpec.upto minorityPostingSpec)

/-- 'tallystonelaw39.MinorityParts', WHERE WHAT IT READS IS OF BULK AT MOST 1048576: true; the input reads as it did. -/
def minorityPartsUptoRow : OpenClaim := { program := "ytcblobokjhhboaagreat", sum := "e3bd343d825ad20e23349ff1ac129e9dc98228c81153500120225cda9358e44b", func := "tallystone/tallystonelaw39.MinorityParts", spec := "minorityParts", unfollowed := true, recurses := true, plainKeys := false, apart := false, narrowed := true }
def MinorityPartsUptoSaid : Prop := minorityPartsUptoRow.holds Tryz.pinned (OpenSpec.upto minorityPartsSpec)

/-- 'tallystonelaw39.MinorityNet', WHERE WHAT IT READS IS OF BULK AT MOST 1048576: true; the input reads as it did. -/
def minorityNetUptoRow : OpenClaim := { program := "ytcblobokjhhboaagreat", sum := "e3bd343d825ad20e23349ff1ac129e9dc98228c81153500120225cda9358e44b", func := "tallystone/tallystonelaw39.MinorityNet", spec := "minorityNet", unfollowed := true, recurses := true, plainKeys := false, apart := false, narrowed := true }
def MinorityNetUptoSaid : Prop := minorityNetUptoRow.holds Tryz.pinned (OpenSpec.upto minorityNetSpec)

/-- 'tallystonelaw41.AssociateShadow', WHERE WHAT IT READS IS OF BULK AT MOST 1048576: true; the input reads as it did. -/
def associateShadowUptoRow : OpenClaim := { program := "ytcblobokjhhboaagreat", sum := "e3bd343d825ad20e23349ff1ac129e9dc98228c81153500120225cda9358e44b", func := "tallystone/tallystonelaw41.AssociateShadow", spec := "associateShadow", unfollowed := true, recurses := true, plainKeys := false, apart := false, narrowed := true }
def AssociateShadowUptoSaid : Prop := associateShadowUptoRow.holds Tryz.pinned (OpenSpec.upto associateShadowSpec)

/-- 'tallystonelaw39.MinorityOthers', WHERE WHAT IT READS IS OF BULK AT MOST 1048576: true; the input reads as it did. -/
def minorityOthersUptoRow : OpenClaim := { program := "ytcblobokjhhboaagreat", sum := "e3bd343d825ad20e23349ff1ac129e9dc98228c81153500120225cda9358e44b", func := "tallystone/tallystonelaw39.MinorityOthers", spec := "minorityOthers", unfollowed := true, recurses := true, plainKeys := false, apart := false, narrowed := true }
def MinorityOthersUptoSaid : Prop := minorityOthersUptoRow.holds Tryz.pinned (OpenSpec.upto minorityOthersSpec)

/-- 'tallystonelaw41.AssociateRest', WHERE WHAT IT READS IS OF BULK AT MOST 1048576: true; the input reads as it did. -/
def associateRestUptoRow : OpenClaim := { program := "ytcblobokjhhboaagreat", sum := "e3bd343d825ad20e23349ff1ac129e9dc98228c81153500120225cda9358e44b", func := "tallystone/tallystonelaw41.AssociateRest", spec := "associateRest", unfollowed := true, recurses := true, plainKeys := false, apart := false, narrowed := true }
def AssociateRestUptoSaid : Prop := associateRestUptoRow.holds Tryz.pinned (OpenSpec.upto associateRestSpec)

end Rows
end Go.Proofs.YtcblobokjhhboaaGreat
