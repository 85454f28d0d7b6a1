/-
  No cell of these rows narrows 'for every input' (looked for: loops, veiled, ifaces, maps, wideKeys, modest, calm, conditions, laid).
  DERIVED. THE GIVEN ROWS OF THIS SEAT. 7 by the template 'for every input the law returns true; each argument reads behind the call as it read before'; 0 by the template 'total and deterministic' (their statements: YtgdpjpmjcpieiaaGreatTotals.lean).
  GIVEN WITH THE SEED: the statements are not yours to turn. If you find one false, say at which input.
  Laid BY PROGRAM, IN A SANDBOX (cutbox-rows.mjs): the forced cells as the released guide's own fill.sh prints them over the translation 85d97d84d3bd9bc7… (all of the seat's roots in one cut). By AI agents, Wed Nov 11 2026. No macro, syntax, notation, axiom, sorry.
-/
import Derived.Test.YtgdpjpmjcpieiaaGreatChecked
import GoSem.Claim
import GoSem.ClaimJoined
import GoSem.ClaimMapViews
import Derived.JoinedTies
import Derived.KernelRfl
namespace Go.Proofs.YtgdpjpmjcpieiaaGreat
/- THE CELL 'sum', in the pinned program and in every row, IS THE sha256 OF THE DUMP (.gsa) THAT YtgdpjpmjcpieiaaGreatProg.lean LOADS. Nothing in Lean hashes anything: it is a label: what it is worth is what the hold of that sum in a sandbox is worth. -/
noncomputable def Tryz.pinned : Pinned := { name := "ytgdpjpmjcpieiaagreat", sum := "85d97d84d3bd9bc7e46e8fd7eabcf84ceb68c947cba06b9c5e563cf69c0765aa", checked := Tryz.checked }
namespace Rows
def none {H : Type} : Left H := { results := [], args := [] }

/-- 'thalweglaw20.CoreDoes': WHATEVER THE INPUT: true; the input reads as it did. -/
def coreDoesSpec : ChangeSpec := { name := "coreDoes", fn := fun _ => fun
  | [d1, d2, d3, d4] => { results := [.lit (.bool true)], args := [d1, d2, d3, d4] }
  | _ => none }
def coreDoesRow : OpenClaim := { program := "ytgdpjpmjcpieiaagreat", sum := "85d97d84d3bd9bc7e46e8fd7eabcf84ceb68c947cba06b9c5e563cf69c0765aa", func := "thalweg/thalweglaw20.CoreDoes", spec := "coreDoes", inPlace := ["slices.overlaps[thalweg/api.View]"], unfollowed := true, recurses := true, apart := false }
def CoreDoesSaid : Prop := coreDoesRow.holds Tryz.pinned (OpenSpec.ofChange coreDoesSpec)

/-- ITS FALSE NEIGHBOUR: 'it returns false'. Refute it at one input. -/
def coreDoesWrong : ChangeSpec := { name := "coreDoes", fn := fun _ => fun
  | [d1, d2, d3, d4] => { results := [.lit (.bool false)], args := [d1, d2, d3, d4] }
  | _ => none }
def CoreDoesWrongFalsely : Prop := coreDoesRow.holds Tryz.pinned (OpenSpec.ofChange coreDoesWrong)

/-- 'thalweglaw20.CoreRuns': WHATEVER THE INPUT: true; the input reads as it did. -/
def coreRunsSpec : ChangeSpec := { name := "coreRuns", fn := fun _ => fun
  | [d1, d2, d3] => { results := [.lit (.bool true)], args := [d1, d2, d3] }
  | _ => none }
def coreRunsRow : OpenClaim := { program := "ytgdpjpmjcpieiaagreat", sum := "85d97d84d3bd9bc7e46e8fd7eabcf84ceb68c947cba06b9c5e563cf69c0765aa", func := "thalweg/thalweglaw20.CoreRuns", spec := "coreRuns", inPlace := ["slices.overlaps[thalweg/api.View]"], unfollowed := true, recurses := true, apart := false }
def CoreRunsSaid : Prop := coreRunsRow.holds Tryz.pinned (OpenSpec.ofChange coreRunsSpec)

/-- ITS FALSE NEIGHBOUR: 'it returns false'. Refute it at one input. -/
def coreRunsWrong : ChangeSpec := { name := "coreRuns", fn := fun _ => fun
  | [d1, d2, d3] => { results := [.lit (.bool false)], args := [d1, d2, d3] }
  | _ => none }
def CoreRunsWrongFalsely : Prop := coreRunsRow.holds Tryz.pinned (OpenSpec.ofChange coreRunsWrong)

/-- 'thalweglaw20.CoreRight': WHATEVER THE INPUT: true; the input reads as it did. -/
def coreRightSpec : ChangeSpec := { name := "coreRight", fn := fun _ => fun
  | [d1, d2] => { results := [.lit (.bool true)], args := [d1, d2] }
  | _ => none }
def coreRightRow : OpenClaim := { program := "ytgdpjpmjcpieiaagreat", sum := "85d97d84d3bd9bc7e46e8fd7eabcf84ceb68c947cba06b9c5e563cf69c0765aa", func := "thalweg/thalweglaw20.CoreRight", spec := "coreRight", inPlace := ["slices.overlaps[thalweg/api.View]"], unfollowed := true, recurses := true, apart := false }
def CoreRightSaid : Prop := coreRightRow.holds Tryz.pinned (OpenSpec.ofChange coreRightSpec)

/-- ITS FALSE NEIGHBOUR: 'it returns false'. Refute it at one input. -/
def coreRightWrong : ChangeSpec := { name := "coreRight", fn := fun _ => fun
  | [d1, d2] => { results := [.lit (.bool false)], args := [d1, d2] }
  | _ => none }
def CoreRightWrongFalsely : Prop := coreRightRow.holds Tryz.pinned (OpenSpec.ofChange coreRightWrong)

/-- 'thalweglaw20.CoreDown': WHATEVER THE INPUT: true; the input reads as it did. -/
def coreDownSpec : ChangeSpec := { name := "coreDown", fn := fun _ => fun
  | [d1, d2] => { results := [.lit (.bool true)], args := [d1, d2] }
  | _ => none }
def coreDownRow : OpenClaim := { program := "ytgdpjpmjcpieiaagreat", sum := "85d97d84d3bd9bc7e46e8fd7eabcf84ceb68c947cba06b9c5e563cf69c0765aa", func := "thalweg/thalweglaw20.CoreDown", spec := "coreDown", inPlace := ["slices.overlaps[thalweg/api.View]"], unfollowed := true, recurses := true, apart := false }
def CoreDownSaid : Prop := coreDownRow.holds Tryz.pinned (OpenSpec.ofChange coreDownSpec)

/-- ITS FALSE NEIGHBOUR: 'it returns false'. Refute it at one input. -/
def coreDownWrong : ChangeSpec := { name := "coreDown", fn := fun _ => fun
  | [d1, d2] => { results := [.lit (.bool false)], args := [d1, d2] }
  | _ => none }
def CoreDownWrongFalsely : Prop := coreDownRow.holds Tryz.pinned (OpenSpec.ofChange coreDownWrong)

/-- 'thalweglaw20.CoreWants': WHATEVER THE INPUT: true; the input reads as it did. -/
def coreWantsSpec : ChangeSpec := { name := "coreWants", fn := fun _ => fun
  | [d1, d2] => { results := [.lit (.bool true)], args := [d1, d2] }
  | _ => none }
def coreWantsRow : OpenClaim := { program := "ytgdpjpmjcpieiaagreat", sum := "85d97d84d3bd9bc7e46e8fd7eabcf84ceb68c947cba06b9c5e563cf69c0765aa", func := "thalweg/thalweglaw20.CoreWants", spec := "coreWants", inPlace := ["slices.overlaps[thalweg/api.View]"], unfollowed := true, recurses := true, apart := false }
def CoreWantsSaid : Prop := coreWantsRow.holds Tryz.pinned (OpenSpec.ofChange coreWantsSpec)

/-- ITS FALSE NEIGHBOUR: 'it returns false'. Refute it at one input. -/
def coreWantsWrong : ChangeSpec := { name := "coreWants", fn := fun _ => fun
  | [d1, d2] => { results := [.lit (.bool false)], args := [d1, d2] }
  | _ => none }
def CoreWantsWrongFalsely : Prop := coreWantsRow.holds Tryz.pinned (OpenSpec.ofChange coreWantsWrong)

/-- 'thalweglaw20.CoreTells': WHATEVER THE INPUT: true; the input reads as it did. -/
def coreTellsSpec : ChangeSpec := { name := "coreTells", fn := fun _ => fun
  | [d1, d2] => { results := [.lit (.bool true)], args := [d1, d2] }
  | _ => none }
def coreTellsRow : OpenClaim := { program := "ytgdpjpmjcpieiaagreat", sum := "85d97d84d3bd9bc7e46e8fd7eabcf84ceb68c947cba06b9c5e563cf69c0765aa", func := "thalweg/thalweglaw20.CoreTells", spec := "coreTells", inPlace := ["slices.overlaps[thalweg/api.View]"], unfollowed := true, recurses := true, apart := false }
def CoreTellsSaid : Prop := coreTellsRow.holds Tryz.pinned (OpenSpec.ofChange coreTellsSpec)

/-- ITS FALSE NEIGHBOUR: 'it returns false'. Refute it at one input. -/
def coreTellsWrong : ChangeSpec := { name := "coreTells", fn := fun _ => fun
  | [d1, d2] => { results := [.lit (.bool false)], args := [d1, d2] }
  | _ => none }
def CoreTellsWrongFalsely : Prop := coreTellsRow.holds Tryz.pinned (OpenSpec.ofChange coreTellsWrong)

/-- 'thalweglaw20.CoreHome': WHATEVER THE INPUT: true; the input reads as it did. -/
def coreHomeSpec : ChangeSpec := { name := "coreHome", fn := fun _ => fun
  | [d1, d2] => { results := [.lit (.bool true)], args := [d1, d2] }
  | _ => none }
def coreHomeRow : OpenClaim := { program := "ytgdpjpmjcpieiaagreat", sum := "85d97d84d3bd9bc7e46e8fd7eabcf84ceb68c947cba06b9c5e563cf69c0765aa", func := "thalweg/thalweglaw20.CoreHome", spec := "coreHome", inPlace := ["slices.overlaps[thalweg/api.View]"], unfollowed := true, recurses := true, apart := false }
def CoreHomeSaid : Prop := coreHomeRow.holds Tryz.pinned (OpenSpec.ofChange coreHomeSpec)

/-- ITS FALSE NEIGHBOUR: 'it returns false'. Refute it at one input. -/
def coreHomeWrong : ChangeSpec := { name := "coreHome", fn := fun _ => fun
  | [d1, d2] => { results := [.lit (.bool false)], args := [d1, d2] }
  | _ => none }
def CoreHomeWrongFalsely : Prop := coreHomeRow.holds Tryz.pinned (OpenSpec.ofChange coreHomeWrong)

/- THE SECOND FORM. 'bulk': how many values and letters a reading holds, each counted each time it is reached (what is shared counts as often as it is met; a slice's spare places count too). A statement '..UptoSaid' is the law's where the arguments, and the package variables that the reading takes, are together of bulk at most 1048576: NARROWER than '..Said'. Prove '..Said' where nothing that the law and all that it calls make is longer than what came in: it says more and counts as full. Else prove '..UptoSaid'. A law counts once. -/
mutual
def uptoBulk {H : Type} : DataW H → Nat
  | .lit (.string bytes) => bytes.length + 1
  | .lit _ => 1
  | .nil => 1
  | .ptr d => uptoBulk d + 1
  | .slice elems spare => uptoBulkAll elems + uptoBulkAll spare + 1
  | .agg parts => uptoBulkAll parts + 1
  | .iface _ d => uptoBulk d + 1
  | .map entries => uptoBulkEntries entries + 1
  | .held _ => 1
def uptoBulkAll {H : Type} : List (DataW H) → Nat
  | [] => 0
  | d :: r => uptoBulk d + uptoBulkAll r
def uptoBulkEntries {H : Type} : List (Lit × DataW H) → Nat
  | [] => 0
  | x :: r => uptoBulkEntry x + uptoBulkEntries r
def uptoBulkEntry {H : Type} : Lit × DataW H → Nat
  | (.string bytes, d) => bytes.length + uptoBulk d + 1
  | (_, d) => uptoBulk d + 1
 end
def uptoSmall : (H : Type) → List (DataW H) → Bool := fun _ ds => decide (uptoBulkAll ds ≤ 1048576)
def OpenSpec.upto (s : _root_.Go.ChangeSpec) : _root_.Go.OpenSpec := { _root_.Go.OpenSpec.ofChange s with cond := some uptoSmall }

/-- 'thalweglaw20.CoreDoes', WHERE WHAT IT READS IS OF BULK AT MOST 1048576: true; the input reads as it did. -/
def coreDoesUptoRow : OpenClaim := { program := "ytgdpjpmjcpieiaagreat", sum := "85d97d84d3bd9bc7e46e8fd7eabcf84ceb68c947cba06b9c5e563cf69c0765aa", func := "thalweg/thalweglaw20.CoreDoes", spec := "coreDoes", inPlace := ["slices.overlaps[thalweg/api.View]"], unfollowed := true, recurses := true, apart := false, narrowed := true }
def CoreDoesUptoSaid : Prop := coreDoesUptoRow.holds Tryz.pinned (OpenSpec.upto coreDoesSpec)

/-- 'thalweglaw20.CoreRuns', WHERE WHAT IT READS IS OF BULK AT MOST 1048576: true; the input reads as it did. -/
def coreRunsUptoRow : OpenClaim := { program := "ytgdpjpmjcpieiaagreat", sum := "85d97d84d3bd9bc7e46e8fd7eabcf84ceb68c947cba06b9c5e563cf69c0765aa", func := "thalweg/thalweglaw20.CoreRuns", spec := "coreRuns", inPlace := ["slices.overlaps[thalweg/api.View]"], unfollowed := true, recurses := true, apart := false, narrowed := true }
def CoreRunsUptoSaid : Prop := coreRunsUptoRow.holds Tryz.pinned (OpenSpec.upto coreRunsSpec)

/-- 'thalweglaw20.CoreRight', WHERE WHAT IT READS IS OF BULK AT MOST 1048576: true; the input reads as it did. -/
def coreRightUptoRow : OpenClaim := { program := "ytgdpjpmjcpieiaagreat", sum := "85d97d84d3bd9bc7e46e8fd7eabcf84ceb68c947cba06b9c5e563cf69c0765aa", func := "thalweg/thalweglaw20.CoreRight", spec := "coreRight", inPlace := ["slices.overlaps[thalweg/api.View]"], unfollowed := true, recurses := true, apart := false, narrowed := true }
def CoreRightUptoSaid : Prop := coreRightUptoRow.holds Tryz.pinned (OpenSpec.upto coreRightSpec)

/-- 'thalweglaw20.CoreDown', WHERE WHAT IT READS IS OF BULK AT MOST 1048576: true; the input reads as it did. -/
def coreDownUptoRow : OpenClaim := { program := "ytgdpjpmjcpieiaagreat", sum := "85d97d84d3bd9bc7e46e8fd7eabcf84ceb68c947cba06b9c5e563cf69c0765aa", func := "thalweg/thalweglaw20.CoreDown", spec := "coreDown", inPlace := ["slices.overlaps[thalweg/api.View]"], unfollowed := true, recurses := true, apart := false, narrowed := true }
def CoreDownUptoSaid : Prop := coreDownUptoRow.holds Tryz.pinned (OpenSpec.upto coreDownSpec)

/-- 'thalweglaw20.CoreWants', WHERE WHAT IT READS IS OF BULK AT MOST 1048576: true; the input reads as it did. -/
def coreWantsUptoRow : OpenClaim := { program := "ytgdpjpmjcpieiaagreat", sum := "85d97d84d3bd9bc7e46e8fd7eabcf84ceb68c947cba06b9c5e563cf69c0765aa", func := "thalweg/thalweglaw20.CoreWants", spec := "coreWants", inPlace := ["slices.overlaps[thalweg/api.View]"], unfollowed := true, recurses := true, apart := false, narrowed := true }
def CoreWantsUptoSaid : Prop := coreWantsUptoRow.holds Tryz.pinned (OpenSpec.upto coreWantsSpec)

/-- 'thalweglaw20.CoreTells', WHERE WHAT IT READS IS OF BULK AT MOST 1048576: true; the input reads as it did. -/
def coreTellsUptoRow : OpenClaim := { program := "ytgdpjpmjcpieiaagreat", sum := "85d97d84d3bd9bc7e46e8fd7eabcf84ceb68c947cba06b9c5e563cf69c0765aa", func := "thalweg/thalweglaw20.CoreTells", spec := "coreTells", inPlace := ["slices.overlaps[thalweg/api.View]"], unfollowed := true, recurses := true, apart := false, narrowed := true }
def CoreTellsUptoSaid : Prop := coreTellsUptoRow.holds Tryz.pinned (OpenSpec.upto coreTellsSpec)

/-- 'thalweglaw20.CoreHome', WHERE WHAT IT READS IS OF BULK AT MOST 1048576: true; the input reads as it did. -/
def coreHomeUptoRow : OpenClaim := { program := "ytgdpjpmjcpieiaagreat", sum := "85d97d84d3bd9bc7e46e8fd7eabcf84ceb68c947cba06b9c5e563cf69c0765aa", func := "thalweg/thalweglaw20.CoreHome", spec := "coreHome", inPlace := ["slices.overlaps[thalweg/api.View]"], unfollowed := true, recurses := true, apart := false, narrowed := true }
def CoreHomeUptoSaid : Prop := coreHomeUptoRow.holds Tryz.pinned (OpenSpec.upto coreHomeSpec)

end Rows
end Go.Proofs.YtgdpjpmjcpieiaaGreat
