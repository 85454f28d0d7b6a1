/-
  No cell of these rows narrows 'for every input' (looked for: loops, veiled, ifaces, maps, wideKeys, modest, calm, conditions, laid).
  DERIVED. THE GIVEN ROWS OF THIS SEAT. 3 by the template 'for every input the law returns true; each argument reads behind the call as it read before'; 0 by the template 'total and deterministic' (their statements: YtgdpjpmjcpieiaaTotals.lean).
  GIVEN WITH THE SEED: the statements are not yours to turn. If you find one false, say at which input.
  Laid BY PROGRAM, IN A SANDBOX (cutbox-rows.mjs): the forced cells as the released guide's own fill.sh prints them over the translation 1f83a7b991ed2663… (all of the seat's roots in one cut). By AI agents, Wed Nov 11 2026. No macro, syntax, notation, axiom, sorry.
-/
import Derived.Test.YtgdpjpmjcpieiaaChecked
import GoSem.Claim
import GoSem.ClaimJoined
import GoSem.ClaimMapViews
import Derived.JoinedTies
import Derived.KernelRfl
namespace Go.Proofs.Ytgdpjpmjcpieiaa
/- THE CELL 'sum', in the pinned program and in every row, IS THE sha256 OF THE DUMP (.gsa) THAT YtgdpjpmjcpieiaaProg.lean LOADS. Nothing in Lean hashes anything: it is a label: what it is worth is what the hold of that sum in a sandbox is worth. -/
noncomputable def Try.pinned : Pinned := { name := "ytgdpjpmjcpieiaa", sum := "1f83a7b991ed266375b45eb95c03230e58b55a99371d9af159099d757fcaca7d", checked := Try.checked }
namespace Rows
def none {H : Type} : Left H := { results := [], args := [] }

/-- 'thalweglaw19.RulesDo': WHATEVER THE INPUT: true; the input reads as it did. -/
def rulesDoSpec : ChangeSpec := { name := "rulesDo", fn := fun _ => fun
  | [d1, d2, d3, d4, d5] => { results := [.lit (.bool true)], args := [d1, d2, d3, d4, d5] }
  | _ => none }
def rulesDoRow : OpenClaim := { program := "ytgdpjpmjcpieiaa", sum := "1f83a7b991ed266375b45eb95c03230e58b55a99371d9af159099d757fcaca7d", func := "thalweg/thalweglaw19.RulesDo", spec := "rulesDo", unfollowed := true, recurses := true, apart := false }
def RulesDoSaid : Prop := rulesDoRow.holds Try.pinned (OpenSpec.ofChange rulesDoSpec)

/-- ITS FALSE NEIGHBOUR: 'it returns false'. Refute it at one input. -/
def rulesDoWrong : ChangeSpec := { name := "rulesDo", fn := fun _ => fun
  | [d1, d2, d3, d4, d5] => { results := [.lit (.bool false)], args := [d1, d2, d3, d4, d5] }
  | _ => none }
def RulesDoWrongFalsely : Prop := rulesDoRow.holds Try.pinned (OpenSpec.ofChange rulesDoWrong)

/-- 'thalweglaw19.RulesRise': WHATEVER THE INPUT: true; the input reads as it did. -/
def rulesRiseSpec : ChangeSpec := { name := "rulesRise", fn := fun _ => fun
  | [d1, d2, d3, d4, d5] => { results := [.lit (.bool true)], args := [d1, d2, d3, d4, d5] }
  | _ => none }
def rulesRiseRow : OpenClaim := { program := "ytgdpjpmjcpieiaa", sum := "1f83a7b991ed266375b45eb95c03230e58b55a99371d9af159099d757fcaca7d", func := "thalweg/thalweglaw19.RulesRise", spec := "rulesRise", unfollowed := true, recurses := true, apart := false }
def RulesRiseSaid : Prop := rulesRiseRow.holds Try.pinned (OpenSpec.ofChange rulesRiseSpec)

/-- ITS FALSE NEIGHBOUR: 'it returns false'. Refute it at one input. -/
def rulesRiseWrong : ChangeSpec := { name := "rulesRise", fn := fun _ => fun
  | [d1, d2, d3, d4, d5] => { results := [.lit (.bool false)], args := [d1, d2, d3, d4, d5] }
  | _ => none }
def RulesRiseWrongFalsely : Prop := rulesRiseRow.holds Try.pinned (OpenSpec.ofChange rulesRiseWrong)

/-- 'thalweglaw19.RulesDown': WHATEVER THE INPUT: true; the input reads as it did. -/
def rulesDownSpec : ChangeSpec := { name := "rulesDown", fn := fun _ => fun
  | [d1, d2, d3, d4] => { results := [.lit (.bool true)], args := [d1, d2, d3, d4] }
  | _ => none }
def rulesDownRow : OpenClaim := { program := "ytgdpjpmjcpieiaa", sum := "1f83a7b991ed266375b45eb95c03230e58b55a99371d9af159099d757fcaca7d", func := "thalweg/thalweglaw19.RulesDown", spec := "rulesDown", unfollowed := true, recurses := true, apart := false }
def RulesDownSaid : Prop := rulesDownRow.holds Try.pinned (OpenSpec.ofChange rulesDownSpec)

/-- ITS FALSE NEIGHBOUR: 'it returns false'. Refute it at one input. -/
def rulesDownWrong : ChangeSpec := { name := "rulesDown", fn := fun _ => fun
  | [d1, d2, d3, d4] => { results := [.lit (.bool false)], args := [d1, d2, d3, d4] }
  | _ => none }
def RulesDownWrongFalsely : Prop := rulesDownRow.holds Try.pinned (OpenSpec.ofChange rulesDownWrong)

/- THE SECOND FORM. 'bulk': how many values and letters a reading holds, each counted each time it is reached (what is shared counts as often as it is met; a slice's spare places count too). A statement '..UptoSaid' is the law's where the arguments, and the package variables that the reading takes, are together of bulk at most 1048576: NARROWER than '..Said'. Prove '..Said' where nothing that the law and all that it calls make is longer than what came in: it says more and counts as full. Else prove '..UptoSaid'. A law counts once. -/
mutual
def uptoBulk {H : Type} : DataW H → Nat
  | .lit (.string bytes) => bytes.length + 1
  | .lit _ => 1
  | .nil => 1
  | .ptr d => uptoBulk d + 1
  | .slice elems spare => uptoBulkAll elems + uptoBulkAll spare + 1
  | .agg parts => uptoBulkAll parts + 1
  | .iface _ d => uptoBulk d + 1
  | .map entries => uptoBulkEntries entries + 1
  | .held _ => 1
def uptoBulkAll {H : Type} : List (DataW H) → Nat
  | [] => 0
  | d :: r => uptoBulk d + uptoBulkAll r
def uptoBulkEntries {H : Type} : List (Lit × DataW H) → Nat
  | [] => 0
  | x :: r => uptoBulkEntry x + uptoBulkEntries r
def uptoBulkEntry {H : Type} : Lit × DataW H → Nat
  | (.string bytes, d) => bytes.length + uptoBulk d + 1
  | (_, d) => uptoBulk d + 1
 end
def uptoSmall : (H : Type) → List (DataW H) → Bool := fun _ ds => decide (uptoBulkAll ds ≤ 1048576)
def OpenSpec.upto (s : _root_.Go.ChangeSpec) : _root_.Go.OpenSpec := { _root_.Go.OpenSpec.ofChange s with cond := some uptoSmall }

/-- 'thalweglaw19.RulesDo', WHERE WHAT IT READS IS OF BULK AT MOST 1048576: true; the input reads as it did. -/
def rulesDoUptoRow : OpenClaim := { program := "ytgdpjpmjcpieiaa", sum := "1f83a7b991ed266375b45eb95c03230e58b55a99371d9af159099d757fcaca7d", func := "thalweg/thalweglaw19.RulesDo", spec := "rulesDo", unfollowed := true, recurses := true, apart := false, narrowed := true }
def RulesDoUptoSaid : Prop := rulesDoUptoRow.holds Try.pinned (OpenSpec.upto rulesDoSpec)

/-- 'thalweglaw19.RulesRise', WHERE WHAT IT READS IS OF BULK AT MOST 1048576: true; the input reads as it did. -/
def rulesRiseUptoRow : OpenClaim := { program := "ytgdpjpmjcpieiaa", sum := "1f83a7b991ed266375b45eb95c03230e58b55a99371d9af159099d757fcaca7d", func := "thalweg/thalweglaw19.RulesRise", spec := "rulesRise", unfollowed := true, recurses := true, apart := false, narrowed := true }
def RulesRiseUptoSaid : Prop := rulesRiseUptoRow.holds Try.pinned (OpenSpec.upto rulesRiseSpec)

/-- 'thalweglaw19.RulesDown', WHERE WHAT IT READS IS OF BULK AT MOST 1048576: true; the input reads as it did. -/
def rulesDownUptoRow : OpenClaim := { program := "ytgdpjpmjcpieiaa", sum := "1f83a7b991ed266375b45eb95c03230e58b55a99371d9af159099d757fcaca7d", func := "thalweg/thalweglaw19.RulesDown", spec := "rulesDown", unfollowed := true, recurses := true, apart := false, narrowed := true }
def RulesDownUptoSaid : Prop := rulesDownUptoRow.holds Try.pinned (OpenSpec.upto rulesDownSpec)

end Rows
end Go.Proofs.Ytgdpjpmjcpieiaa
