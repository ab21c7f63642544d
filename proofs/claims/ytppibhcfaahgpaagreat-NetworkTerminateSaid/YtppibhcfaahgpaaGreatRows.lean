/-
  No cell of these rows narrows 'for every input' (looked for: loops, veiled, ifaces, maps, wideKeys, modest, calm, conditions, laid).
  DERIVED. THE GIVEN ROWS OF THIS SEAT. 11 by the template 'for every input the law returns true; each argument reads behind the call as it read before'; 0 by the template 'total and deterministic' (their statements: YtppibhcfaahgpaaGreatTotals.lean).
  GIVEN WITH THE SEED: the statements are not yours to turn. If you find one false, say at which input.
  Laid BY PROGRAM, IN A SANDBOX (cutbox-rows.mjs): the forced cells as the released guide's own fill.sh prints them over the translation b77eef742440e8da… (all of the seat's roots in one cut). By AI agents, Wed Nov 11 2026. No macro, syntax, notation, axiom, sorry.
-/
import Derived.Test.YtppibhcfaahgpaaGreatChecked
import GoSem.Claim
import GoSem.ClaimJoined
import GoSem.ClaimMapViews
import Derived.JoinedTies
import Derived.KernelRfl
namespace Go.Proofs.YtppibhcfaahgpaaGreat
/- THE CELL 'sum', in the pinned program and in every row, IS THE sha256 OF THE DUMP (.gsa) THAT YtppibhcfaahgpaaGreatProg.lean LOADS. Nothing in Lean hashes anything: it is a label: what it is worth is what the hold of that sum in a sandbox is worth. -/
noncomputable def Tryz.pinned : Pinned := { name := "ytppibhcfaahgpaagreat", sum := "b77eef742440e8da0746a5b46d62ca656015d30055723960d328a7e573481fc0", checked := Tryz.checked }
namespace Rows
def none {H : Type} : Left H := { results := [], args := [] }

/-- 'waveportlaw05.NoiseFactors': WHATEVER THE INPUT: true; the input reads as it did. -/
def noiseFactorsSpec : ChangeSpec := { name := "noiseFactors", fn := fun _ => fun
  | [d1, d2, d3] => { results := [.lit (.bool true)], args := [d1, d2, d3] }
  | _ => none }
def noiseFactorsRow : OpenClaim := { program := "ytppibhcfaahgpaagreat", sum := "b77eef742440e8da0746a5b46d62ca656015d30055723960d328a7e573481fc0", func := "waveport/waveportlaw05.NoiseFactors", spec := "noiseFactors", unfollowed := true, recurses := true, named := ["math/bits.overflowError"], apart := false }
def NoiseFactorsSaid : Prop := noiseFactorsRow.holds Tryz.pinned (OpenSpec.ofChange noiseFactorsSpec)

/-- ITS FALSE NEIGHBOUR: 'it returns false'. Refute it at one input. -/
def noiseFactorsWrong : ChangeSpec := { name := "noiseFactors", fn := fun _ => fun
  | [d1, d2, d3] => { results := [.lit (.bool false)], args := [d1, d2, d3] }
  | _ => none }
def NoiseFactorsWrongFalsely : Prop := noiseFactorsRow.holds Tryz.pinned (OpenSpec.ofChange noiseFactorsWrong)

/-- 'waveportlaw05.NoiseOwn': WHATEVER THE INPUT: true; the input reads as it did. -/
def noiseOwnSpec : ChangeSpec := { name := "noiseOwn", fn := fun _ => fun
  | [d1, d2] => { results := [.lit (.bool true)], args := [d1, d2] }
  | _ => none }
def noiseOwnRow : OpenClaim := { program := "ytppibhcfaahgpaagreat", sum := "b77eef742440e8da0746a5b46d62ca656015d30055723960d328a7e573481fc0", func := "waveport/waveportlaw05.NoiseOwn", spec := "noiseOwn", unfollowed := true, recurses := true, named := ["math/bits.overflowError"], apart := false }
def NoiseOwnSaid : Prop := noiseOwnRow.holds Tryz.pinned (OpenSpec.ofChange noiseOwnSpec)

/-- ITS FALSE NEIGHBOUR: 'it returns false'. Refute it at one input. -/
def noiseOwnWrong : ChangeSpec := { name := "noiseOwn", fn := fun _ => fun
  | [d1, d2] => { results := [.lit (.bool false)], args := [d1, d2] }
  | _ => none }
def NoiseOwnWrongFalsely : Prop := noiseOwnRow.holds Tryz.pinned (OpenSpec.ofChange noiseOwnWrong)

/-- 'waveportlaw05.NoiseAttenuates': WHATEVER THE INPUT: true; the input reads as it did. -/
def noiseAttenuatesSpec : ChangeSpec := { name := "noiseAttenuates", fn := fun _ => fun
  | [d1, d2, d3, d4, d5] => { results := [.lit (.bool true)], args := [d1, d2, d3, d4, d5] }
  | _ => none }
def noiseAttenuatesRow : OpenClaim := { program := "ytppibhcfaahgpaagreat", sum := "b77eef742440e8da0746a5b46d62ca656015d30055723960d328a7e573481fc0", func := "waveport/waveportlaw05.NoiseAttenuates", spec := "noiseAttenuates", unfollowed := true, recurses := true, named := ["math/bits.overflowError"], apart := false }
def NoiseAttenuatesSaid : Prop := noiseAttenuatesRow.holds Tryz.pinned (OpenSpec.ofChange noiseAttenuatesSpec)

/-- ITS FALSE NEIGHBOUR: 'it returns false'. Refute it at one input. -/
def noiseAttenuatesWrong : ChangeSpec := { name := "noiseAttenuates", fn := fun _ => fun
  | [d1, d2, d3, d4, d5] => { results := [.lit (.bool false)], args := [d1, d2, d3, d4, d5] }
  | _ => none }
def NoiseAttenuatesWrongFalsely : Prop := noiseAttenuatesRow.holds Tryz.pinned (OpenSpec.ofChange noiseAttenuatesWrong)

/-- 'waveportlaw05.NoiseTables': WHATEVER THE INPUT: true; the input reads as it did. -/
def noiseTablesSpec : ChangeSpec := { name := "noiseTables", fn := fun _ => fun
  | [d1, d2, d3] => { results := [.lit (.bool true)], args := [d1, d2, d3] }
  | _ => none }
def noiseTablesRow : OpenClaim := { program := "ytppibhcfaahgpaagreat", sum := "b77eef742440e8da0746a5b46d62ca656015d30055723960d328a7e573481fc0", func := "waveport/waveportlaw05.NoiseTables", spec := "noiseTables", unfollowed := true, recurses := true, named := ["math/bits.overflowError"], apart := false }
def NoiseTablesSaid : Prop := noiseTablesRow.holds Tryz.pinned (OpenSpec.ofChange noiseTablesSpec)

/-- ITS FALSE NEIGHBOUR: 'it returns false'. Refute it at one input. -/
def noiseTablesWrong : ChangeSpec := { name := "noiseTables", fn := fun _ => fun
  | [d1, d2, d3] => { results := [.lit (.bool false)], args := [d1, d2, d3] }
  | _ => none }
def NoiseTablesWrongFalsely : Prop := noiseTablesRow.holds Tryz.pinned (OpenSpec.ofChange noiseTablesWrong)

/-- 'waveportlaw05.NoiseNets': WHATEVER THE INPUT: true; the input reads as it did. -/
def noiseNetsSpec : ChangeSpec := { name := "noiseNets", fn := fun _ => fun
  | [d1, d2, d3, d4] => { results := [.lit (.bool true)], args := [d1, d2, d3, d4] }
  | _ => none }
def noiseNetsRow : OpenClaim := { program := "ytppibhcfaahgpaagreat", sum := "b77eef742440e8da0746a5b46d62ca656015d30055723960d328a7e573481fc0", func := "waveport/waveportlaw05.NoiseNets", spec := "noiseNets", unfollowed := true, recurses := true, named := ["math/bits.overflowError"], apart := false }
def NoiseNetsSaid : Prop := noiseNetsRow.holds Tryz.pinned (OpenSpec.ofChange noiseNetsSpec)

/-- ITS FALSE NEIGHBOUR: 'it returns false'. Refute it at one input. -/
def noiseNetsWrong : ChangeSpec := { name := "noiseNets", fn := fun _ => fun
  | [d1, d2, d3, d4] => { results := [.lit (.bool false)], args := [d1, d2, d3, d4] }
  | _ => none }
def NoiseNetsWrongFalsely : Prop := noiseNetsRow.holds Tryz.pinned (OpenSpec.ofChange noiseNetsWrong)

/-- 'waveportlaw05.NoiseReceivers': WHATEVER THE INPUT: true; the input reads as it did. -/
def noiseReceiversSpec : ChangeSpec := { name := "noiseReceivers", fn := fun _ => fun
  | [d1, d2, d3, d4, d5] => { results := [.lit (.bool true)], args := [d1, d2, d3, d4, d5] }
  | _ => none }
def noiseReceiversRow : OpenClaim := { program := "ytppibhcfaahgpaagreat", sum := "b77eef742440e8da0746a5b46d62ca656015d30055723960d328a7e573481fc0", func := "waveport/waveportlaw05.NoiseReceivers", spec := "noiseReceivers", inPlace := ["math.Float32frombits", "math.Float64bits", "math.Float64frombits"], unfollowed := true, recurses := true, named := ["math/bits.overflowError"], apart := false }
def NoiseReceiversSaid : Prop := noiseReceiversRow.holds Tryz.pinned (OpenSpec.ofChange noiseReceiversSpec)

/-- ITS FALSE NEIGHBOUR: 'it returns false'. Refute it at one input. -/
def noiseReceiversWrong : ChangeSpec := { name := "noiseReceivers", fn := fun _ => fun
  | [d1, d2, d3, d4, d5] => { results := [.lit (.bool false)], args := [d1, d2, d3, d4, d5] }
  | _ => none }
def NoiseReceiversWrongFalsely : Prop := noiseReceiversRow.holds Tryz.pinned (OpenSpec.ofChange noiseReceiversWrong)

/-- 'waveportlaw05.NoiseLevels': WHATEVER THE INPUT: true; the input reads as it did. -/
def noiseLevelsSpec : ChangeSpec := { name := "noiseLevels", fn := fun _ => fun
  | [d1, d2] => { results := [.lit (.bool true)], args := [d1, d2] }
  | _ => none }
def noiseLevelsRow : OpenClaim := { program := "ytppibhcfaahgpaagreat", sum := "b77eef742440e8da0746a5b46d62ca656015d30055723960d328a7e573481fc0", func := "waveport/waveportlaw05.NoiseLevels", spec := "noiseLevels", inPlace := ["math.Float32frombits", "math.Float64bits", "math.Float64frombits"], unfollowed := true, recurses := true, named := ["math/bits.overflowError"], apart := false }
def NoiseLevelsSaid : Prop := noiseLevelsRow.holds Tryz.pinned (OpenSpec.ofChange noiseLevelsSpec)

/-- ITS FALSE NEIGHBOUR: 'it returns false'. Refute it at one input. -/
def noiseLevelsWrong : ChangeSpec := { name := "noiseLevels", fn := fun _ => fun
  | [d1, d2] => { results := [.lit (.bool false)], args := [d1, d2] }
  | _ => none }
def NoiseLevelsWrongFalsely : Prop := noiseLevelsRow.holds Tryz.pinned (OpenSpec.ofChange noiseLevelsWrong)

/-- 'waveportlaw05.NoiseCompresses': WHATEVER THE INPUT: true; the input reads as it did. -/
def noiseCompressesSpec : ChangeSpec := { name := "noiseCompresses", fn := fun _ => fun
  | [d1, d2, d3] => { results := [.lit (.bool true)], args := [d1, d2, d3] }
  | _ => none }
def noiseCompressesRow : OpenClaim := { program := "ytppibhcfaahgpaagreat", sum := "b77eef742440e8da0746a5b46d62ca656015d30055723960d328a7e573481fc0", func := "waveport/waveportlaw05.NoiseCompresses", spec := "noiseCompresses", inPlace := ["math.Float32frombits", "math.Float64bits", "math.Float64frombits"], unfollowed := true, recurses := true, named := ["math/bits.overflowError"], apart := false }
def NoiseCompressesSaid : Prop := noiseCompressesRow.holds Tryz.pinned (OpenSpec.ofChange noiseCompressesSpec)

/-- ITS FALSE NEIGHBOUR: 'it returns false'. Refute it at one input. -/
def noiseCompressesWrong : ChangeSpec := { name := "noiseCompresses", fn := fun _ => fun
  | [d1, d2, d3] => { results := [.lit (.bool false)], args := [d1, d2, d3] }
  | _ => none }
def NoiseCompressesWrongFalsely : Prop := noiseCompressesRow.holds Tryz.pinned (OpenSpec.ofChange noiseCompressesWrong)

/-- 'waveportlaw04.NetworkTerminate': WHATEVER THE INPUT: true; the input reads as it did. -/
def networkTerminateSpec : ChangeSpec := { name := "networkTerminate", fn := fun _ => fun
  | [d1, d2, d3] => { results := [.lit (.bool true)], args := [d1, d2, d3] }
  | _ => none }
def networkTerminateRow : OpenClaim := { program := "ytppibhcfaahgpaagreat", sum := "b77eef742440e8da0746a5b46d62ca656015d30055723960d328a7e573481fc0", func := "waveport/waveportlaw04.NetworkTerminate", spec := "networkTerminate", unfollowed := true, recurses := true, named := ["math/bits.overflowError"], apart := false }
def NetworkTerminateSaid : Prop := networkTerminateRow.holds Tryz.pinned (OpenSpec.ofChange networkTerminateSpec)

/-- ITS FALSE NEIGHBOUR: 'it returns false'. Refute it at one input. -/
def networkTerminateWrong : ChangeSpec := { name := "networkTerminate", fn := fun _ => fun
  | [d1, d2, d3] => { results := [.lit (.bool false)], args := [d1, d2, d3] }
  | _ => none }
def NetworkTerminateWrongFalsely : Prop := networkTerminateRow.holds Tryz.pinned (OpenSpec.ofChange networkTerminateWrong)

/-- 'waveportlaw04.NetworkDrive': WHATEVER THE INPUT: true; the input reads as it did. -/
def networkDriveSpec : ChangeSpec := { name := "networkDrive", fn := fun _ => fun
  | [d1, d2] => { results := [.lit (.bool true)], args := [d1, d2] }
  | _ => none }
def networkDriveRow : OpenClaim := { program := "ytppibhcfaahgpaagreat", sum := "b77eef742440e8da0746a5b46d62ca656015d30055723960d328a7e573481fc0", func := "waveport/waveportlaw04.NetworkDrive", spec := "networkDrive", unfollowed := true, recurses := true, named := ["math/bits.overflowError"], apart := false }
def NetworkDriveSaid : Prop := networkDriveRow.holds Tryz.pinned (OpenSpec.ofChange networkDriveSpec)

/-- ITS FALSE NEIGHBOUR: 'it returns false'. Refute it at one input. -/
def networkDriveWrong : ChangeSpec := { name := "networkDrive", fn := fun _ => fun
  | [d1, d2] => { results := [.lit (.bool false)], args := [d1, d2] }
  | _ => none }
def NetworkDriveWrongFalsely : Prop := networkDriveRow.holds Tryz.pinned (OpenSpec.ofChange networkDriveWrong)

/-- 'waveportlaw04.NetworkNew': WHATEVER THE INPUT: true; the input reads as it did. -/
def networkNewSpec : ChangeSpec := { name := "networkNew", fn := fun _ => fun
  | [d1, d2, d3, d4] => { results := [.lit (.bool true)], args := [d1, d2, d3, d4] }
  | _ => none }
def networkNewRow : OpenClaim := { program := "ytppibhcfaahgpaagreat", sum := "b77eef742440e8da0746a5b46d62ca656015d30055723960d328a7e573481fc0", func := "waveport/waveportlaw04.NetworkNew", spec := "networkNew", unfollowed := true, recurses := true, named := ["math/bits.overflowError"], apart := false }
def NetworkNewSaid : Prop := networkNewRow.holds Tryz.pinned (OpenSpec.ofChange networkNewSpec)

/-- ITS FALSE NEIGHBOUR: 'it returns false'. Refute it at one input. -/
def networkNewWrong : ChangeSpec := { name := "networkNew", fn := fun _ => fun
  | [d1, d2, d3, d4] => { results := [.lit (.bool false)], args := [d1, d2, d3, d4] }
  | _ => none }
def NetworkNewWrongFalsely : Prop := networkNewRow.holds Tryz.pinned (OpenSpec.ofChange networkNewWrong)

/- THE SECOND FORM. 'bulk': how many values and letters a reading holds, each counted each time it is reached (what is shared counts as often as it is met; a slice's spare places count too). A statement '..UptoSaid' is the law's where the arguments, and the package variables that the reading takes, are together of bulk at most 1048576: NARROWER than '..Said'. Prove '..Said' where nothing that the law and all that it calls make is longer than what came in: it says more and counts as full. Else prove '..UptoSaid'. A law counts once. -/
mutual
def uptoBulk {H : Type} : DataW H → Nat
  | .lit (.string bytes) => bytes.length + 1
  | .lit _ => 1
  | .nil => 1
  | .ptr d => uptoBulk d + 1
  | .slice elems spare => uptoBulkAll elems + uptoBulkAll spare + 1
  | .agg parts => uptoBulkAll parts + 1
  | .iface _ d => uptoBulk d + 1
  | .map entries => uptoBulkEntries entries + 1
  | .held _ => 1
def uptoBulkAll {H : Type} : List (DataW H) → Nat
  | [] => 0
  | d :: r => uptoBulk d + uptoBulkAll r
def uptoBulkEntries {H : Type} : List (Lit × DataW H) → Nat
  | [] => 0
  | x :: r => uptoBulkEntry x + uptoBulkEntries r
def uptoBulkEntry {H : Type} : Lit × DataW H → Nat
  | (.string bytes, d) => bytes.length + uptoBulk d + 1
  | (_, d) => uptoBulk d + 1
 end
def uptoSmall : (H : Type) → List (DataW H) → Bool := fun _ ds => decide (uptoBulkAll ds ≤ 1048576)
def OpenSpec.upto (s : _root_.Go.ChangeSpec) : _root_.Go.OpenSpec := { _root_.Go.OpenSpec.ofChange s with cond := some uptoSmall }

/-- 'waveportlaw05.NoiseFactors', WHERE WHAT IT READS IS OF BULK AT MOST 1048576: true; the input reads as it did. -/
def noiseFactorsUptoRow : OpenClaim := { program := "ytppibhcfaahgpaagreat", sum := "b77eef742440e8da0746a5b46d62ca656015d30055723960d328a7e573481fc0", func := "waveport/waveportlaw05.NoiseFactors", spec := "noiseFactors", unfollowed := true, recurses := true, named := ["math/bits.overflowError"], apart := false, narrowed := true }
def NoiseFactorsUptoSaid : Prop := noiseFactorsUptoRow.holds Tryz.pinned (OpenSpec.upto noiseFactorsSpec)

/-- 'waveportlaw05.NoiseOwn', WHERE WHAT IT READS IS OF BULK AT MOST 1048576: true; the input reads as it did. -/
def noiseOwnUptoRow : OpenClaim := { program := "ytppibhcfaahgpaagreat", sum := "b77eef742440e8da0746a5b46d62ca656015d30055723960d328a7e573481fc0", func := "waveport/waveportlaw05.NoiseOwn", spec := "noiseOwn", unfollowed := true, recurses := true, named := ["math/bits.overflowError"], apart := false, narrowed := true }
def NoiseOwnUptoSaid : Prop := noiseOwnUptoRow.holds Tryz.pinned (OpenSpec.upto noiseOwnSpec)

/-- 'waveportlaw05.NoiseAttenuates', WHERE WHAT IT READS IS OF BULK AT MOST 1048576: true; the input reads as it did. -/
def noiseAttenuatesUptoRow : OpenClaim := { program := "ytppibhcfaahgpaagreat", sum := "b77eef742440e8da0746a5b46d62ca656015d30055723960d328a7e573481fc0", func := "waveport/waveportlaw05.NoiseAttenuates", spec := "noiseAttenuates", unfollowed := true, recurses := true, named := ["math/bits.overflowError"], apart := false, narrowed := true }
def NoiseAttenuatesUptoSaid : Prop := noiseAttenuatesUptoRow.holds Tryz.pinned (OpenSpec.upto noiseAttenuatesSpec)

/-- 'waveportlaw05.NoiseTables', WHERE WHAT IT READS IS OF BULK AT MOST 1048576: true; the input reads as it did. -/
def noiseTablesUptoRow : OpenClaim := { program := "ytppibhcfaahgpaagreat", sum := "b77eef742440e8da0746a5b46d62ca656015d30055723960d328a7e573481fc0", func := "waveport/waveportlaw05.NoiseTables", spec := "noiseTables", unfollowed := true, recurses := true, named := ["math/bits.overflowError"], apart := false, narrowed := true }
def NoiseTablesUptoSaid : Prop := noiseTablesUptoRow.holds Tryz.pinned (OpenSpec.upto noiseTablesSpec)

/-- 'waveportlaw05.NoiseNets', WHERE WHAT IT READS IS OF BULK AT MOST 1048576: true; the input reads as it did. -/
def noiseNetsUptoRow : OpenClaim := { program := "ytppibhcfaahgpaagreat", sum := "b77eef742440e8da0746a5b46d62ca656015d30055723960d328a7e573481fc0", func := "waveport/waveportlaw05.NoiseNets", spec := "noiseNets", unfollowed := true, recurses := true, named := ["math/bits.overflowError"], apart := false, narrowed := true }
def NoiseNetsUptoSaid : Prop := noiseNetsUptoRow.holds Tryz.pinned (OpenSpec.upto noiseNetsSpec)

/-- 'waveportlaw05.NoiseReceivers', WHERE WHAT IT READS IS OF BULK AT MOST 1048576: true; the input reads as it did. -/
def noiseReceiversUptoRow : OpenClaim := { program := "ytppibhcfaahgpaagreat", sum := "b77eef742440e8da0746a5b46d62ca656015d30055723960d328a7e573481fc0", func := "waveport/waveportlaw05.NoiseReceivers", spec := "noiseReceivers", inPlace := ["math.Float32frombits", "math.Float64bits", "math.Float64frombits"], unfollowed := true, recurses := true, named := ["math/bits.overflowError"], apart := false, narrowed := true }
def NoiseReceiversUptoSaid : Prop := noiseReceiversUptoRow.holds Tryz.pinned (OpenSpec.upto noiseReceiversSpec)

/-- 'waveportlaw05.NoiseLevels', WHERE WHAT IT READS IS OF BULK AT MOST 1048576: true; the input reads as it did. -/
def noiseLevelsUptoRow : OpenClaim := { program := "ytppibhcfaahgpaagreat", sum := "b77eef742440e8da0746a5b46d62ca656015d30055723960d328a7e573481fc0", func := "waveport/waveportlaw05.NoiseLevels", spec := "noiseLevels", inPlace := ["math.Float32frombits", "math.Float64bits", "math.Float64frombits"], unfollowed := true, recurses := true, named := ["math/bits.overflowError"], apart := false, narrowed := true }
def NoiseLevelsUptoSaid : Prop := noiseLevelsUptoRow.holds Tryz.pinned (OpenSpec.upto noiseLevelsSpec)

/-- 'waveportlaw05.NoiseCompresses', WHERE WHAT IT READS IS OF BULK AT MOST 1048576: true; the input reads as it did. -/
def noiseCompressesUptoRow : OpenClaim := { program := "ytppibhcfaahgpaagreat", sum := "b77eef742440e8da0746a5b46d62ca656015d30055723960d328a7e573481fc0", func := "waveport/waveportlaw05.NoiseCompresses", spec := "noiseCompresses", inPlace := ["math.Float32frombits", "math.Float64bits", "math.Float64frombits"], unfollowed := true, recurses := true, named := ["math/bits.overflowError"], apart := false, narrowed := true }
def NoiseCompressesUptoSaid : Prop := noiseCompressesUptoRow.holds Tryz.pinned (OpenSpec.upto noiseCompressesSpec)

/-- 'waveportlaw04.NetworkTerminate', WHERE WHAT IT READS IS OF BULK AT MOST 1048576: true; the input reads as it did. -/
def networkTerminateUptoRow : OpenClaim := { program := "ytppibhcfaahgpaagreat", sum := "b77eef742440e8da0746a5b46d62ca656015d30055723960d328a7e573481fc0", func := "waveport/waveportlaw04.NetworkTerminate", spec := "networkTerminate", unfollowed := true, recurses := true, named := ["math/bits.overflowError"], apart := false, narrowed := true }
def NetworkTerminateUptoSaid : Prop := networkTerminateUptoRow.holds Tryz.pinned (OpenSpec.upto networkTerminateSpec)

/-- 'waveportlaw04.NetworkDrive', WHERE WHAT IT READS IS OF BULK AT MOST 1048576: true; the input reads as it did. -/
def networkDriveUptoRow : OpenClaim := { program := "ytppibhcfaahgpaagreat", sum := "b77eef742440e8da0746a5b46d62ca656015d30055723960d328a7e573481fc0", func := "waveport/waveportlaw04.NetworkDrive", spec := "networkDrive", unfollowed := true, recurses := true, named := ["math/bits.overflowError"], apart := false, narrowed := true }
def NetworkDriveUptoSaid : Prop := networkDriveUptoRow.holds Tryz.pinned (OpenSpec.upto networkDriveSpec)

/-- 'waveportlaw04.NetworkNew', WHERE WHAT IT READS IS OF BULK AT MOST 1048576: true; the input reads as it did. -/
def networkNewUptoRow : OpenClaim := { program := "ytppibhcfaahgpaagreat", sum := "b77eef742440e8da0746a5b46d62ca656015d30055723960d328a7e573481fc0", func := "waveport/waveportlaw04.NetworkNew", spec := "networkNew", unfollowed := true, recurses := true, named := ["math/bits.overflowError"], apart := false, narrowed := true }
def NetworkNewUptoSaid : Prop := networkNewUptoRow.holds Tryz.pinned (OpenSpec.upto networkNewSpec)

end Rows
end Go.Proofs.YtppibhcfaahgpaaGreat
