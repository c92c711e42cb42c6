/-
  No cell of these rows narrows 'for every input' (looked for: loops, veiled, ifaces, maps, wideKeys, modest, calm, conditions, laid).
  DERIVED. THE GIVEN ROWS OF THIS SEAT. 10 by the template 'for every input the law returns true; each argument reads behind the call as it read before'; 0 by the template 'total and deterministic' (their statements: YtccapfbblnnfjaaGreatTotals.lean).
  GIVEN WITH THE SEED: the statements are not yours to turn. If you find one false, say at which input.
  Laid BY PROGRAM, IN A SANDBOX (cutbox-rows.mjs): the forced cells as the released guide's own fill.sh prints them over the translation 6920a815f1b182ef… (all of the seat's roots in one cut). By AI agents, Wed Nov 11 2026. No macro, syntax, notation, axiom, sorry.
-/
import Derived.Test.YtccapfbblnnfjaaGreatChecked
import GoSem.Claim
import GoSem.ClaimJoined
import GoSem.ClaimMapViews
import Derived.JoinedTies
import Derived.KernelRfl
namespace Go.Proofs.YtccapfbblnnfjaaGreat
/- THE CELL 'sum', in the pinned program and in every row, IS THE sha256 OF THE DUMP (.gsa) THAT YtccapfbblnnfjaaGreatProg.lean LOADS. Nothing in Lean hashes anything: it is a label: what it is worth is what the hold of that sum in a sandbox is worth. -/
noncomputable def Tryz.pinned : Pinned := { name := "ytccapfbblnnfjaagreat", sum := "6920a815f1b182ef5bce528d599851b78351a66119ca4092cd12808826fe1dc6", checked := Tryz.checked }
namespace Rows
def none {H : Type} : Left H := { results := [], args := [] }

/-- 'tallystonelaw38.CapitalFigures': WHATEVER THE INPUT: true; the input reads as it did. -/
def capitalFiguresSpec : ChangeSpec := { name := "capitalFigures", fn := fun _ => fun
  | [d1, d2, d3] => { results := [.lit (.bool true)], args := [d1, d2, d3] }
  | _ => none }
def capitalFiguresRow : OpenClaim := { program := "ytccapfbblnnfjaagreat", sum := "6920a815f1b182ef5bce528d599851b78351a66119ca4092cd12808826fe1dc6", func := "tallystone/tallystonelaw38.CapitalFigures", spec := "capitalFigures", unfollowed := true, recurses := true, plainKeys := false, apart := false }
def CapitalFiguresSaid : Prop := capitalFiguresRow.holds Tryz.pinned (OpenSpec.ofChange capitalFiguresSpec)

/-- ITS FALSE NEIGHBOUR: 'it returns false'. Refute it at one input. -/
def capitalFiguresWrong : ChangeSpec := { name := "capitalFigures", fn := fun _ => fun
  | [d1, d2, d3] => { results := [.lit (.bool false)], args := [d1, d2, d3] }
  | _ => none }
def CapitalFiguresWrongFalsely : Prop := capitalFiguresRow.holds Tryz.pinned (OpenSpec.ofChange capitalFiguresWrong)

/-- 'tallystonelaw38.CapitalPosting': WHATEVER THE INPUT: true; the input reads as it did. -/
def capitalPostingSpec : ChangeSpec := { name := "capitalPosting", fn := fun _ => fun
  | [d1, d2, d3] => { results := [.lit (.bool true)], args := [d1, d2, d3] }
  | _ => none }
def capitalPostingRow : OpenClaim := { program := "ytccapfbblnnfjaagreat", sum := "6920a815f1b182ef5bce528d599851b78351a66119ca4092cd12808826fe1dc6", func := "tallystone/tallystonelaw38.CapitalPosting", spec := "capitalPosting", unfollowed := true, recurses := true, plainKeys := false, apart := false }
def CapitalPostingSaid : Prop := capitalPostingRow.holds Tryz.pinned (OpenSpec.ofChange capitalPostingSpec)

/-- ITS FALSE NEIGHBOUR: 'it returns false'. Refute it at one input. -/
def capitalPostingWrong : ChangeSpec := { name := "capitalPosting", fn := fun _ => fun
  | [d1, d2, d3] => { results := [.lit (.bool false)], args := [d1, d2, d3] }
  | _ => none }
def CapitalPostingWrongFalsely : Prop := capitalPostingRow.holds Tryz.pinned (OpenSpec.ofChange capitalPostingWrong)

/-- 'tallystonelaw38.CapitalWhole': WHATEVER THE INPUT: true; the input reads as it did. -/
def capitalWholeSpec : ChangeSpec := { name := "capitalWhole", fn := fun _ => fun
  | [d1, d2] => { results := [.lit (.bool true)], args := [d1, d2] }
  | _ => none }
def capitalWholeRow : OpenClaim := { program := "ytccapfbblnnfjaagreat", sum := "6920a815f1b182ef5bce528d599851b78351a66119ca4092cd12808826fe1dc6", func := "tallystone/tallystonelaw38.CapitalWhole", spec := "capitalWhole", unfollowed := true, recurses := true, plainKeys := false, apart := false }
def CapitalWholeSaid : Prop := capitalWholeRow.holds Tryz.pinned (OpenSpec.ofChange capitalWholeSpec)

/-- ITS FALSE NEIGHBOUR: 'it returns false'. Refute it at one input. -/
def capitalWholeWrong : ChangeSpec := { name := "capitalWhole", fn := fun _ => fun
  | [d1, d2] => { results := [.lit (.bool false)], args := [d1, d2] }
  | _ => none }
def CapitalWholeWrongFalsely : Prop := capitalWholeRow.holds Tryz.pinned (OpenSpec.ofChange capitalWholeWrong)

/-- 'tallystonelaw40.StepFigures': WHATEVER THE INPUT: true; the input reads as it did. -/
def stepFiguresSpec : ChangeSpec := { name := "stepFigures", fn := fun _ => fun
  | [d1, d2, d3] => { results := [.lit (.bool true)], args := [d1, d2, d3] }
  | _ => none }
def stepFiguresRow : OpenClaim := { program := "ytccapfbblnnfjaagreat", sum := "6920a815f1b182ef5bce528d599851b78351a66119ca4092cd12808826fe1dc6", func := "tallystone/tallystonelaw40.StepFigures", spec := "stepFigures", unfollowed := true, recurses := true, plainKeys := false, apart := false }
def StepFiguresSaid : Prop := stepFiguresRow.holds Tryz.pinned (OpenSpec.ofChange stepFiguresSpec)

/-- ITS FALSE NEIGHBOUR: 'it returns false'. Refute it at one input. -/
def stepFiguresWrong : ChangeSpec := { name := "stepFigures", fn := fun _ => fun
  | [d1, d2, d3] => { results := [.lit (.bool false)], args := [d1, d2, d3] }
  | _ => none }
def StepFiguresWrongFalsely : Prop := stepFiguresRow.holds Tryz.pinned (OpenSpec.ofChange stepFiguresWrong)

/-- 'tallystonelaw40.StepPosting': WHATEVER THE INPUT: true; the input reads as it did. -/
def stepPostingSpec : ChangeSpec := { name := "stepPosting", fn := fun _ => fun
  | [d1, d2, d3] => { results := [.lit (.bool true)], args := [d1, d2, d3] }
  | _ => none }
def stepPostingRow : OpenClaim := { program := "ytccapfbblnnfjaagreat", sum := "6920a815f1b182ef5bce528d599851b78351a66119ca4092cd12808826fe1dc6", func := "tallystone/tallystonelaw40.StepPosting", spec := "stepPosting", unfollowed := true, recurses := true, plainKeys := false, apart := false }
def StepPostingSaid : Prop := stepPostingRow.holds Tryz.pinned (OpenSpec.ofChange stepPostingSpec)

/-- ITS FALSE NEIGHBOUR: 'it returns false'. Refute it at one input. -/
def stepPostingWrong : ChangeSpec := { name := "stepPosting", fn := fun _ => fun
  | [d1, d2, d3] => { results := [.lit (.bool false)], args := [d1, d2, d3] }
  | _ => none }
def StepPostingWrongFalsely : Prop := stepPostingRow.holds Tryz.pinned (OpenSpec.ofChange stepPostingWrong)

/-- 'tallystonelaw40.StepNone': WHATEVER THE INPUT: true; the input reads as it did. -/
def stepNoneSpec : ChangeSpec := { name := "stepNone", fn := fun _ => fun
  | [d1, d2, d3] => { results := [.lit (.bool true)], args := [d1, d2, d3] }
  | _ => none }
def stepNoneRow : OpenClaim := { program := "ytccapfbblnnfjaagreat", sum := "6920a815f1b182ef5bce528d599851b78351a66119ca4092cd12808826fe1dc6", func := "tallystone/tallystonelaw40.StepNone", spec := "stepNone", unfollowed := true, recurses := true, plainKeys := false, apart := false }
def StepNoneSaid : Prop := stepNoneRow.holds Tryz.pinned (OpenSpec.ofChange stepNoneSpec)

/-- ITS FALSE NEIGHBOUR: 'it returns false'. Refute it at one input. -/
def stepNoneWrong : ChangeSpec := { name := "stepNone", fn := fun _ => fun
  | [d1, d2, d3] => { results := [.lit (.bool false)], args := [d1, d2, d3] }
  | _ => none }
def StepNoneWrongFalsely : Prop := stepNoneRow.holds Tryz.pinned (OpenSpec.ofChange stepNoneWrong)

/-- 'tallystonelaw38.CapitalBalances': WHATEVER THE INPUT: true; the input reads as it did. -/
def capitalBalancesSpec : ChangeSpec := { name := "capitalBalances", fn := fun _ => fun
  | [d1, d2] => { results := [.lit (.bool true)], args := [d1, d2] }
  | _ => none }
def capitalBalancesRow : OpenClaim := { program := "ytccapfbblnnfjaagreat", sum := "6920a815f1b182ef5bce528d599851b78351a66119ca4092cd12808826fe1dc6", func := "tallystone/tallystonelaw38.CapitalBalances", spec := "capitalBalances", unfollowed := true, recurses := true, plainKeys := false, apart := false }
def CapitalBalancesSaid : Prop := capitalBalancesRow.holds Tryz.pinned (OpenSpec.ofChange capitalBalancesSpec)

/-- ITS FALSE NEIGHBOUR: 'it returns false'. Refute it at one input. -/
def capitalBalancesWrong : ChangeSpec := { name := "capitalBalances", fn := fun _ => fun
  | [d1, d2] => { results := [.lit (.bool false)], args := [d1, d2] }
  | _ => none }
def CapitalBalancesWrongFalsely : Prop := capitalBalancesRow.holds Tryz.pinned (OpenSpec.ofChange capitalBalancesWrong)

/-- 'tallystonelaw38.CapitalOrder': WHATEVER THE INPUT: true; the input reads as it did. -/
def capitalOrderSpec : ChangeSpec := { name := "capitalOrder", fn := fun _ => fun
  | [d1, d2] => { results := [.lit (.bool true)], args := [d1, d2] }
  | _ => none }
def capitalOrderRow : OpenClaim := { program := "ytccapfbblnnfjaagreat", sum := "6920a815f1b182ef5bce528d599851b78351a66119ca4092cd12808826fe1dc6", func := "tallystone/tallystonelaw38.CapitalOrder", spec := "capitalOrder", unfollowed := true, recurses := true, plainKeys := false, apart := false }
def CapitalOrderSaid : Prop := capitalOrderRow.holds Tryz.pinned (OpenSpec.ofChange capitalOrderSpec)

/-- ITS FALSE NEIGHBOUR: 'it returns false'. Refute it at one input. -/
def capitalOrderWrong : ChangeSpec := { name := "capitalOrder", fn := fun _ => fun
  | [d1, d2] => { results := [.lit (.bool false)], args := [d1, d2] }
  | _ => none }
def CapitalOrderWrongFalsely : Prop := capitalOrderRow.holds Tryz.pinned (OpenSpec.ofChange capitalOrderWrong)

/-- 'tallystonelaw40.StepInvestments': WHATEVER THE INPUT: true; the input reads as it did. -/
def stepInvestmentsSpec : ChangeSpec := { name := "stepInvestments", fn := fun _ => fun
  | [d1, d2] => { results := [.lit (.bool true)], args := [d1, d2] }
  | _ => none }
def stepInvestmentsRow : OpenClaim := { program := "ytccapfbblnnfjaagreat", sum := "6920a815f1b182ef5bce528d599851b78351a66119ca4092cd12808826fe1dc6", func := "tallystone/tallystonelaw40.StepInvestments", spec := "stepInvestments", unfollowed := true, recurses := true, plainKeys := false, apart := false }
def StepInvestmentsSaid : Prop := stepInvestmentsRow.holds Tryz.pinned (OpenSpec.ofChange stepInvestmentsSpec)

/-- ITS FALSE NEIGHBOUR: 'it returns false'. Refute it at one input. -/
def stepInvestmentsWrong : ChangeSpec := { name := "stepInvestments", fn := fun _ => fun
  | [d1, d2] => { results := [.lit (.bool false)], args := [d1, d2] }
  | _ => none }
def StepInvestmentsWrongFalsely : Prop := stepInvestmentsRow.holds Tryz.pinned (OpenSpec.ofChange stepInvestmentsWrong)

/-- 'tallystonelaw40.StepMinority': WHATEVER THE INPUT: true; the input reads as it did. -/
def stepMinoritySpec : ChangeSpec := { name := "stepMinority", fn := fun _ => fun
  | [d1, d2] => { results := [.lit (.bool true)], args := [d1, d2] }
  | _ => none }
def stepMinorityRow : OpenClaim := { program := "ytccapfbblnnfjaagreat", sum := "6920a815f1b182ef5bce528d599851b78351a66119ca4092cd12808826fe1dc6", func := "tallystone/tallystonelaw40.StepMinority", spec := "stepMinority", unfollowed := true, recurses := true, plainKeys := false, apart := false }
def StepMinoritySaid : Prop := stepMinorityRow.holds Tryz.pinned (OpenSpec.ofChange stepMinoritySpec)

/-- ITS FALSE NEIGHBOUR: 'it returns false'. Refute it at one input. -/
def stepMinorityWrong : ChangeSpec := { name := "stepMinority", fn := fun _ => fun
  | [d1, d2] => { results := [.lit (.bool false)], args := [d1, d2] }
  | _ => none }
def StepMinorityWrongFalsely : Prop := stepMinorityRow.holds Tryz.pinned (OpenSpec.ofChange stepMinorityWrong)

/- THE SECOND FORM. 'bulk': how many values and letters a reading holds, each counted each time it is reached (what is shared counts as often as it is met; a slice's spare places count too). A statement '..UptoSaid' is the law's where the arguments, and the package variables that the reading takes, are together of bulk at most 1048576: NARROWER than '..Said'. Prove '..Said' where nothing that the law and all that it calls make is longer than what came in: it says more and counts as full. Else prove '..UptoSaid'. A law counts once. -/
mutual
def uptoBulk {H : Type} : DataW H → Nat
  | .lit (.string bytes) => bytes.length + 1
  | .lit _ => 1
  | .nil => 1
  | .ptr d => uptoBulk d + 1
  | .slice elems spare => uptoBulkAll elems + uptoBulkAll spare + 1
  | .agg parts => uptoBulkAll parts + 1
  | .iface _ d => uptoBulk d + 1
  | .map entries => uptoBulkEntries entries + 1
  | .held _ => 1
def uptoBulkAll {H : Type} : List (DataW H) → Nat
  | [] => 0
  | d :: r => uptoBulk d + uptoBulkAll r
def uptoBulkEntries {H : Type} : List (Lit × DataW H) → Nat
  | [] => 0
  | x :: r => uptoBulkEntry x + uptoBulkEntries r
def uptoBulkEntry {H : Type} : Lit × DataW H → Nat
  | (.string bytes, d) => bytes.length + uptoBulk d + 1
  | (_, d) => uptoBulk d + 1
 end
def uptoSmall : (H : Type) → List (DataW H) → Bool := fun _ ds => decide (uptoBulkAll ds ≤ 1048576)
def OpenSpec.upto (s : _root_.Go.ChangeSpec) : _root_.Go.OpenSpec := { _root_.Go.OpenSpec.ofChange s with cond := some uptoSmall }

/-- 'tallystonelaw38.CapitalFigures', WHERE WHAT IT READS IS OF BULK AT MOST 1048576: true; the input reads as it did. -/
def capitalFiguresUptoRow : OpenClaim := { program := "ytccapfbblnnfjaagreat", sum := "6920a815f1b182ef5bce528d599851b78351a66119ca4092cd12808826fe1dc6", func := "tallystone/tallystonelaw38.CapitalFigures", spec := "capitalFigures", unfollowed := true, recurses := true, plainKeys := false, apart := false, narrowed := true }
def CapitalFiguresUptoSaid : Prop := capitalFiguresUptoRow.holds Tryz.pinned (OpenSpec.upto capitalFiguresSpec)

/-- 'tallystonelaw38.CapitalPosting', WHERE WHAT IT READS IS OF BULK AT MOST 1048576: true; the input reads as it did. -/
def capitalPostingUptoRow : OpenClaim := { program := "ytccapfbblnnfjaagreat", sum := "6920a815f1b182ef5bce528d599851b78351a66119ca4092cd12808826fe1dc6", func := "tallystone/tallystonelaw38.CapitalPosting", spec := "capitalPosting", unfollowed := true, recurses := true, plainKeys := false, apart := false, narrowed := true }
def CapitalPostingUptoSaid : Prop := capitalPostingUptoRow.holds Tryz.pinned (OpenSpec.upto capitalPostingSpec)

/-- 'tallystonelaw38.CapitalWhole', WHERE WHAT IT READS IS OF BULK AT MOST 1048576: true; the input reads as it did. -/
def capitalWholeUptoRow : OpenClaim := { program := "ytccapfbblnnfjaagreat", sum := "6920a815f1b182ef5bce528d599851b78351a66119ca4092cd12808826fe1dc6", func := "tallystone/tallystonelaw38.CapitalWhole", spec := "capitalWhole", unfollowed := true, recurses := true, plainKeys := false, apart := false, narrowed := true }
def CapitalWholeUptoSaid : Prop := capitalWholeUptoRow.holds Tryz.pinned (OpenSpec.upto capitalWholeSpec)

/-- 'tallystonelaw40.StepFigures', WHERE WHAT IT READS IS OF BULK AT MOST 1048576: true; the input reads as it did. -/
def stepFiguresUptoRow : OpenClaim := { program := "ytccapfbblnnfjaagreat", sum := "6920a815f1b182ef5bce528d599851b78351a66119ca4092cd12808826fe1dc6", func := "tallystone/tallystonelaw40.StepFigures", spec := "stepFigures", unfollowed := true, recurses := true, plainKeys := false, apart := false, narrowed := true }
def StepFiguresUptoSaid : Prop := stepFiguresUptoRow.holds Tryz.pinned (OpenSpec.upto stepFiguresSpec)

/-- 'tallystonelaw40.StepPosting', WHERE WHAT IT READS IS OF BULK AT MOST 1048576: true; the input reads as it did. -/
def stepPostingUptoRow : OpenClaim := { program := "ytccapfbblnnfjaagreat", sum := "6920a815f1b182ef5bce528d599851b78351a66119ca4092cd12808826fe1dc6", func := "tallystone/tallystonelaw40.StepPosting", spec := "stepPosting", unfollowed := true, recurses := true, plainKeys := false, apart := false, narrowed := true }
def StepPostingUptoSaid : Prop := stepPostingUptoRow.holds Tryz.pinned (OpenSpec.upto stepPostingSpec)

/-- 'tallystonelaw40.StepNone', WHERE WHAT IT READS IS OF BULK AT MOST 1048576: true; the input reads as it did. -/
def stepNoneUptoRow : OpenClaim := { program := "ytccapfbblnnfjaagreat", sum := "6920a815f1b182ef5bce528d599851b78351a66119ca4092cd12808826fe1dc6", func := "tallystone/tallystonelaw40.StepNone", spec := "stepNone", unfollowed := true, recurses := true, plainKeys := false, apart := false, narrowed := true }
def StepNoneUptoSaid : Prop := stepNoneUptoRow.holds Tryz.pinned (OpenSpec.upto stepNoneSpec)

/-- 'tallystonelaw38.CapitalBalances', WHERE WHAT IT READS IS OF BULK AT MOST 1048576: true; the input reads as it did. -/
def capitalBalancesUptoRow : OpenClaim := { program := "ytccapfbblnnfjaagreat", sum := "6920a815f1b182ef5bce528d599851b78351a66119ca4092cd12808826fe1dc6", func := "tallystone/tallystonelaw38.CapitalBalances", spec := "capitalBalances", unfollowed := true, recurses := true, plainKeys := false, apart := false, narrowed := true }
def CapitalBalancesUptoSaid : Prop := capitalBalancesUptoRow.holds Tryz.pinned (OpenSpec.upto capitalBalancesSpec)

/-- 'tallystonelaw38.CapitalOrder', WHERE WHAT IT READS IS OF BULK AT MOST 1048576: true; the input reads as it did. -/
def capitalOrderUptoRow : OpenClaim := { program := "ytccapfbblnnfjaagreat", sum := "6920a815f1b182ef5bce528d599851b78351a66119ca4092cd12808826fe1dc6", func := "tallystone/tallystonelaw38.CapitalOrder", spec := "capitalOrder", unfollowed := true, recurses := true, plainKeys := false, apart := false, narrowed := true }
def CapitalOrderUptoSaid : Prop := capitalOrderUptoRow.holds Tryz.pinned (OpenSpec.upto capitalOrderSpec)

/-- 'tallystonelaw40.StepInvestments', WHERE WHAT IT READS IS OF BULK AT MOST 1048576: true; the input reads as it did. -/
def stepInvestmentsUptoRow : OpenClaim := { program := "ytccapfbblnnfjaagreat", sum := "6920a815f1b182ef5bce528d599851b78351a66119ca4092cd12808826fe1dc6", func := "tallystone/tallystonelaw40.StepInvestments", spec := "stepInvestments", unfollowed := true, recurses := true, plainKeys := false, apart := false, narrowed := true }
def StepInvestmentsUptoSaid : Prop := stepInvestmentsUptoRow.holds Tryz.pinned (OpenSpec.upto stepInvestmentsSpec)

/-- 'tallystonelaw40.StepMinority', WHERE WHAT IT READS IS OF BULK AT MOST 1048576: true; the input reads as it did. -/
def stepMinorityUptoRow : OpenClaim := { program := "ytccapfbblnnfjaagreat", sum := "6920a815f1b182ef5bce528d599851b78351a66119ca4092cd12808826fe1dc6", func := "tallystone/tallystonelaw40.StepMinority", spec := "stepMinority", unfollowed := true, recurses := true, plainKeys := false, apart := false, narrowed := true }
def StepMinorityUptoSaid : Prop := stepMinorityUptoRow.holds Tryz.pinned (OpenSpec.upto stepMinoritySpec)

end Rows
end Go.Proofs.YtccapfbblnnfjaaGreat
