/-
  No cell of these rows narrows 'for every input' (looked for: loops, veiled, ifaces, maps, wideKeys, modest, calm, conditions, laid).
  DERIVED. THE GIVEN ROWS OF THIS SEAT. 12 by the template 'for every input the law returns true; each argument reads behind the call as it read before'; 0 by the template 'total and deterministic' (their statements: YtbnpmobaglfcbaaGreatTotals.lean).
  GIVEN WITH THE SEED: the statements are not yours to turn. If you find one false, say at which input.
  Laid BY PROGRAM, IN A SANDBOX (cutbox-rows.mjs): the forced cells as the released guide's own fill.sh prints them over the translation 5c5068bb52d92aaf… (all of the seat's roots in one cut). By AI agents, Wed Nov 11 2026. No macro, syntax, notation, axiom, sorry.
-/
import Derived.Test.YtbnpmobaglfcbaaGreatChecked
import GoSem.Claim
import GoSem.ClaimJoined
import GoSem.ClaimMapViews
import Derived.JoinedTies
import Derived.KernelRfl
namespace Go.Proofs.YtbnpmobaglfcbaaGreat
/- THE CELL 'sum', in the pinned program and in every row, IS THE sha256 OF THE DUMP (.gsa) THAT YtbnpmobaglfcbaaGreatProg.lean LOADS. Nothing in Lean hashes anything: it is a label: what it is worth is what the hold of that sum in a sandbox is worth. -/
noncomputable def Tryz.pinned : Pinned := { name := "ytbnpmobaglfcbaagreat", sum := "5c5068bb52d92aaf8f87bbce95ff8ffaee83e3ee5609553dfe7bf9c9fa76afea", checked := Tryz.checked }
namespace Rows
def none {H : Type} : Left H := { results := [], args := [] }

/-- 'waveportlaw04.NetworkEqual': WHATEVER THE INPUT: true; the input reads as it did. -/
def networkEqualSpec : ChangeSpec := { name := "networkEqual", fn := fun _ => fun
  | [d1, d2, d3, d4, d5] => { results := [.lit (.bool true)], args := [d1, d2, d3, d4, d5] }
  | _ => none }
def networkEqualRow : OpenClaim := { program := "ytbnpmobaglfcbaagreat", sum := "5c5068bb52d92aaf8f87bbce95ff8ffaee83e3ee5609553dfe7bf9c9fa76afea", func := "waveport/waveportlaw04.NetworkEqual", spec := "networkEqual", unfollowed := true, recurses := true, named := ["math/bits.overflowError"], apart := false }
def NetworkEqualSaid : Prop := networkEqualRow.holds Tryz.pinned (OpenSpec.ofChange networkEqualSpec)

/-- ITS FALSE NEIGHBOUR: 'it returns false'. Refute it at one input. -/
def networkEqualWrong : ChangeSpec := { name := "networkEqual", fn := fun _ => fun
  | [d1, d2, d3, d4, d5] => { results := [.lit (.bool false)], args := [d1, d2, d3, d4, d5] }
  | _ => none }
def NetworkEqualWrongFalsely : Prop := networkEqualRow.holds Tryz.pinned (OpenSpec.ofChange networkEqualWrong)

/-- 'waveportlaw04.NetworkNormals': WHATEVER THE INPUT: true; the input reads as it did. -/
def networkNormalsSpec : ChangeSpec := { name := "networkNormals", fn := fun _ => fun
  | [d1, d2] => { results := [.lit (.bool true)], args := [d1, d2] }
  | _ => none }
def networkNormalsRow : OpenClaim := { program := "ytbnpmobaglfcbaagreat", sum := "5c5068bb52d92aaf8f87bbce95ff8ffaee83e3ee5609553dfe7bf9c9fa76afea", func := "waveport/waveportlaw04.NetworkNormals", spec := "networkNormals", unfollowed := true, recurses := true, named := ["math/bits.overflowError"], apart := false }
def NetworkNormalsSaid : Prop := networkNormalsRow.holds Tryz.pinned (OpenSpec.ofChange networkNormalsSpec)

/-- ITS FALSE NEIGHBOUR: 'it returns false'. Refute it at one input. -/
def networkNormalsWrong : ChangeSpec := { name := "networkNormals", fn := fun _ => fun
  | [d1, d2] => { results := [.lit (.bool false)], args := [d1, d2] }
  | _ => none }
def NetworkNormalsWrongFalsely : Prop := networkNormalsRow.holds Tryz.pinned (OpenSpec.ofChange networkNormalsWrong)

/-- 'waveportlaw05.NoiseTerminates': WHATEVER THE INPUT: true; the input reads as it did. -/
def noiseTerminatesSpec : ChangeSpec := { name := "noiseTerminates", fn := fun _ => fun
  | [d1, d2, d3, d4] => { results := [.lit (.bool true)], args := [d1, d2, d3, d4] }
  | _ => none }
def noiseTerminatesRow : OpenClaim := { program := "ytbnpmobaglfcbaagreat", sum := "5c5068bb52d92aaf8f87bbce95ff8ffaee83e3ee5609553dfe7bf9c9fa76afea", func := "waveport/waveportlaw05.NoiseTerminates", spec := "noiseTerminates", unfollowed := true, recurses := true, named := ["math/bits.overflowError"], apart := false }
def NoiseTerminatesSaid : Prop := noiseTerminatesRow.holds Tryz.pinned (OpenSpec.ofChange noiseTerminatesSpec)

/-- ITS FALSE NEIGHBOUR: 'it returns false'. Refute it at one input. -/
def noiseTerminatesWrong : ChangeSpec := { name := "noiseTerminates", fn := fun _ => fun
  | [d1, d2, d3, d4] => { results := [.lit (.bool false)], args := [d1, d2, d3, d4] }
  | _ => none }
def NoiseTerminatesWrongFalsely : Prop := noiseTerminatesRow.holds Tryz.pinned (OpenSpec.ofChange noiseTerminatesWrong)

/-- 'waveportlaw04.NetworkMatrices': WHATEVER THE INPUT: true; the input reads as it did. -/
def networkMatricesSpec : ChangeSpec := { name := "networkMatrices", fn := fun _ => fun
  | [d1, d2, d3] => { results := [.lit (.bool true)], args := [d1, d2, d3] }
  | _ => none }
def networkMatricesRow : OpenClaim := { program := "ytbnpmobaglfcbaagreat", sum := "5c5068bb52d92aaf8f87bbce95ff8ffaee83e3ee5609553dfe7bf9c9fa76afea", func := "waveport/waveportlaw04.NetworkMatrices", spec := "networkMatrices", unfollowed := true, recurses := true, named := ["math/bits.overflowError"], apart := false }
def NetworkMatricesSaid : Prop := networkMatricesRow.holds Tryz.pinned (OpenSpec.ofChange networkMatricesSpec)

/-- ITS FALSE NEIGHBOUR: 'it returns false'. Refute it at one input. -/
def networkMatricesWrong : ChangeSpec := { name := "networkMatrices", fn := fun _ => fun
  | [d1, d2, d3] => { results := [.lit (.bool false)], args := [d1, d2, d3] }
  | _ => none }
def NetworkMatricesWrongFalsely : Prop := networkMatricesRow.holds Tryz.pinned (OpenSpec.ofChange networkMatricesWrong)

/-- 'waveportlaw04.NetworkPorts': WHATEVER THE INPUT: true; the input reads as it did. -/
def networkPortsSpec : ChangeSpec := { name := "networkPorts", fn := fun _ => fun
  | [d1, d2, d3] => { results := [.lit (.bool true)], args := [d1, d2, d3] }
  | _ => none }
def networkPortsRow : OpenClaim := { program := "ytbnpmobaglfcbaagreat", sum := "5c5068bb52d92aaf8f87bbce95ff8ffaee83e3ee5609553dfe7bf9c9fa76afea", func := "waveport/waveportlaw04.NetworkPorts", spec := "networkPorts", unfollowed := true, recurses := true, named := ["math/bits.overflowError"], apart := false }
def NetworkPortsSaid : Prop := networkPortsRow.holds Tryz.pinned (OpenSpec.ofChange networkPortsSpec)

/-- ITS FALSE NEIGHBOUR: 'it returns false'. Refute it at one input. -/
def networkPortsWrong : ChangeSpec := { name := "networkPorts", fn := fun _ => fun
  | [d1, d2, d3] => { results := [.lit (.bool false)], args := [d1, d2, d3] }
  | _ => none }
def NetworkPortsWrongFalsely : Prop := networkPortsRow.holds Tryz.pinned (OpenSpec.ofChange networkPortsWrong)

/-- 'waveportlaw05.NoiseStacks': WHATEVER THE INPUT: true; the input reads as it did. -/
def noiseStacksSpec : ChangeSpec := { name := "noiseStacks", fn := fun _ => fun
  | [d1, d2, d3] => { results := [.lit (.bool true)], args := [d1, d2, d3] }
  | _ => none }
def noiseStacksRow : OpenClaim := { program := "ytbnpmobaglfcbaagreat", sum := "5c5068bb52d92aaf8f87bbce95ff8ffaee83e3ee5609553dfe7bf9c9fa76afea", func := "waveport/waveportlaw05.NoiseStacks", spec := "noiseStacks", unfollowed := true, recurses := true, named := ["math/bits.overflowError"], apart := false }
def NoiseStacksSaid : Prop := noiseStacksRow.holds Tryz.pinned (OpenSpec.ofChange noiseStacksSpec)

/-- ITS FALSE NEIGHBOUR: 'it returns false'. Refute it at one input. -/
def noiseStacksWrong : ChangeSpec := { name := "noiseStacks", fn := fun _ => fun
  | [d1, d2, d3] => { results := [.lit (.bool false)], args := [d1, d2, d3] }
  | _ => none }
def NoiseStacksWrongFalsely : Prop := noiseStacksRow.holds Tryz.pinned (OpenSpec.ofChange noiseStacksWrong)

/-- 'waveportlaw04.NetworkModes': WHATEVER THE INPUT: true; the input reads as it did. -/
def networkModesSpec : ChangeSpec := { name := "networkModes", fn := fun _ => fun
  | [d1, d2] => { results := [.lit (.bool true)], args := [d1, d2] }
  | _ => none }
def networkModesRow : OpenClaim := { program := "ytbnpmobaglfcbaagreat", sum := "5c5068bb52d92aaf8f87bbce95ff8ffaee83e3ee5609553dfe7bf9c9fa76afea", func := "waveport/waveportlaw04.NetworkModes", spec := "networkModes", unfollowed := true, recurses := true, named := ["math/bits.overflowError"], apart := false }
def NetworkModesSaid : Prop := networkModesRow.holds Tryz.pinned (OpenSpec.ofChange networkModesSpec)

/-- ITS FALSE NEIGHBOUR: 'it returns false'. Refute it at one input. -/
def networkModesWrong : ChangeSpec := { name := "networkModes", fn := fun _ => fun
  | [d1, d2] => { results := [.lit (.bool false)], args := [d1, d2] }
  | _ => none }
def NetworkModesWrongFalsely : Prop := networkModesRow.holds Tryz.pinned (OpenSpec.ofChange networkModesWrong)

/-- 'waveportlaw04.NetworkWaves': WHATEVER THE INPUT: true; the input reads as it did. -/
def networkWavesSpec : ChangeSpec := { name := "networkWaves", fn := fun _ => fun
  | [d1, d2, d3, d4] => { results := [.lit (.bool true)], args := [d1, d2, d3, d4] }
  | _ => none }
def networkWavesRow : OpenClaim := { program := "ytbnpmobaglfcbaagreat", sum := "5c5068bb52d92aaf8f87bbce95ff8ffaee83e3ee5609553dfe7bf9c9fa76afea", func := "waveport/waveportlaw04.NetworkWaves", spec := "networkWaves", unfollowed := true, recurses := true, named := ["math/bits.overflowError"], apart := false }
def NetworkWavesSaid : Prop := networkWavesRow.holds Tryz.pinned (OpenSpec.ofChange networkWavesSpec)

/-- ITS FALSE NEIGHBOUR: 'it returns false'. Refute it at one input. -/
def networkWavesWrong : ChangeSpec := { name := "networkWaves", fn := fun _ => fun
  | [d1, d2, d3, d4] => { results := [.lit (.bool false)], args := [d1, d2, d3, d4] }
  | _ => none }
def NetworkWavesWrongFalsely : Prop := networkWavesRow.holds Tryz.pinned (OpenSpec.ofChange networkWavesWrong)

/-- 'waveportlaw04.NetworkTwoEmbeds': WHATEVER THE INPUT: true; the input reads as it did. -/
def networkTwoEmbedsSpec : ChangeSpec := { name := "networkTwoEmbeds", fn := fun _ => fun
  | [d1, d2, d3, d4] => { results := [.lit (.bool true)], args := [d1, d2, d3, d4] }
  | _ => none }
def networkTwoEmbedsRow : OpenClaim := { program := "ytbnpmobaglfcbaagreat", sum := "5c5068bb52d92aaf8f87bbce95ff8ffaee83e3ee5609553dfe7bf9c9fa76afea", func := "waveport/waveportlaw04.NetworkTwoEmbeds", spec := "networkTwoEmbeds", unfollowed := true, recurses := true, named := ["math/bits.overflowError"], apart := false }
def NetworkTwoEmbedsSaid : Prop := networkTwoEmbedsRow.holds Tryz.pinned (OpenSpec.ofChange networkTwoEmbedsSpec)

/-- ITS FALSE NEIGHBOUR: 'it returns false'. Refute it at one input. -/
def networkTwoEmbedsWrong : ChangeSpec := { name := "networkTwoEmbeds", fn := fun _ => fun
  | [d1, d2, d3, d4] => { results := [.lit (.bool false)], args := [d1, d2, d3, d4] }
  | _ => none }
def NetworkTwoEmbedsWrongFalsely : Prop := networkTwoEmbedsRow.holds Tryz.pinned (OpenSpec.ofChange networkTwoEmbedsWrong)

/-- 'waveportlaw04.NetworkStacks': WHATEVER THE INPUT: true; the input reads as it did. -/
def networkStacksSpec : ChangeSpec := { name := "networkStacks", fn := fun _ => fun
  | [d1, d2, d3, d4] => { results := [.lit (.bool true)], args := [d1, d2, d3, d4] }
  | _ => none }
def networkStacksRow : OpenClaim := { program := "ytbnpmobaglfcbaagreat", sum := "5c5068bb52d92aaf8f87bbce95ff8ffaee83e3ee5609553dfe7bf9c9fa76afea", func := "waveport/waveportlaw04.NetworkStacks", spec := "networkStacks", unfollowed := true, recurses := true, named := ["math/bits.overflowError"], apart := false }
def NetworkStacksSaid : Prop := networkStacksRow.holds Tryz.pinned (OpenSpec.ofChange networkStacksSpec)

/-- ITS FALSE NEIGHBOUR: 'it returns false'. Refute it at one input. -/
def networkStacksWrong : ChangeSpec := { name := "networkStacks", fn := fun _ => fun
  | [d1, d2, d3, d4] => { results := [.lit (.bool false)], args := [d1, d2, d3, d4] }
  | _ => none }
def NetworkStacksWrongFalsely : Prop := networkStacksRow.holds Tryz.pinned (OpenSpec.ofChange networkStacksWrong)

/-- 'waveportlaw04.NetworkEmbed': WHATEVER THE INPUT: true; the input reads as it did. -/
def networkEmbedSpec : ChangeSpec := { name := "networkEmbed", fn := fun _ => fun
  | [d1, d2, d3] => { results := [.lit (.bool true)], args := [d1, d2, d3] }
  | _ => none }
def networkEmbedRow : OpenClaim := { program := "ytbnpmobaglfcbaagreat", sum := "5c5068bb52d92aaf8f87bbce95ff8ffaee83e3ee5609553dfe7bf9c9fa76afea", func := "waveport/waveportlaw04.NetworkEmbed", spec := "networkEmbed", unfollowed := true, recurses := true, named := ["math/bits.overflowError"], apart := false }
def NetworkEmbedSaid : Prop := networkEmbedRow.holds Tryz.pinned (OpenSpec.ofChange networkEmbedSpec)

/-- ITS FALSE NEIGHBOUR: 'it returns false'. Refute it at one input. -/
def networkEmbedWrong : ChangeSpec := { name := "networkEmbed", fn := fun _ => fun
  | [d1, d2, d3] => { results := [.lit (.bool false)], args := [d1, d2, d3] }
  | _ => none }
def NetworkEmbedWrongFalsely : Prop := networkEmbedRow.holds Tryz.pinned (OpenSpec.ofChange networkEmbedWrong)

/-- 'waveportlaw04.NetworkJoin': WHATEVER THE INPUT: true; the input reads as it did. -/
def networkJoinSpec : ChangeSpec := { name := "networkJoin", fn := fun _ => fun
  | [d1, d2, d3] => { results := [.lit (.bool true)], args := [d1, d2, d3] }
  | _ => none }
def networkJoinRow : OpenClaim := { program := "ytbnpmobaglfcbaagreat", sum := "5c5068bb52d92aaf8f87bbce95ff8ffaee83e3ee5609553dfe7bf9c9fa76afea", func := "waveport/waveportlaw04.NetworkJoin", spec := "networkJoin", unfollowed := true, recurses := true, named := ["math/bits.overflowError"], apart := false }
def NetworkJoinSaid : Prop := networkJoinRow.holds Tryz.pinned (OpenSpec.ofChange networkJoinSpec)

/-- ITS FALSE NEIGHBOUR: 'it returns false'. Refute it at one input. -/
def networkJoinWrong : ChangeSpec := { name := "networkJoin", fn := fun _ => fun
  | [d1, d2, d3] => { results := [.lit (.bool false)], args := [d1, d2, d3] }
  | _ => none }
def NetworkJoinWrongFalsely : Prop := networkJoinRow.holds Tryz.pinned (OpenSpec.ofChange networkJoinWrong)

/- THE SECOND FORM. 'bulk': how many values and letters a reading holds, each counted each time it is reached (what is shared counts as often as it is met; a slice's spare places count too). A statement '..UptoSaid' is the law's where the arguments, and the package variables that the reading takes, are together of bulk at most 1048576: NARROWER than '..Said'. Prove '..Said' where nothing that the law and all that it calls make is longer than what came in: it says more and counts as full. Else prove '..UptoSaid'. A law counts once. -/
mutual
def uptoBulk {H : Type} : DataW H → Nat
  | .lit (.string bytes) => bytes.length + 1
  | .lit _ => 1
  | .nil => 1
  | .ptr d => uptoBulk d + 1
  | .slice elems spare => uptoBulkAll elems + uptoBulkAll spare + 1
  | .agg parts => uptoBulkAll parts + 1
  | .iface _ d => uptoBulk d + 1
  | .map entries => uptoBulkEntries entries + 1
  | .held _ => 1
def uptoBulkAll {H : Type} : List (DataW H) → Nat
  | [] => 0
  | d :: r => uptoBulk d + uptoBulkAll r
def uptoBulkEntries {H : Type} : List (Lit × DataW H) → Nat
  | [] => 0
  | x :: r => uptoBulkEntry x + uptoBulkEntries r
def uptoBulkEntry {H : Type} : Lit × DataW H → Nat
  | (.string bytes, d) => bytes.length + uptoBulk d + 1
  | (_, d) => uptoBulk d + 1
 end
def uptoSmall : (H : Type) → List (DataW H) → Bool := fun _ ds => decide (uptoBulkAll ds ≤ 1048576)
def OpenSpec.upto (s : _root_.Go.ChangeSpec) : _root_.Go.OpenSpec := { _root_.Go.OpenSpec.ofChange s with cond := some uptoSmall }

/-- 'waveportlaw04.NetworkEqual', WHERE WHAT IT READS IS OF BULK AT MOST 1048576: true; the input reads as it did. -/
def networkEqualUptoRow : OpenClaim := { program := "ytbnpmobaglfcbaagreat", sum := "5c5068bb52d92aaf8f87bbce95ff8ffaee83e3ee5609553dfe7bf9c9fa76afea", func := "waveport/waveportlaw04.NetworkEqual", spec := "networkEqual", unfollowed := true, recurses := true, named := ["math/bits.overflowError"], apart := false, narrowed := true }
def NetworkEqualUptoSaid : Prop := networkEqualUptoRow.holds Tryz.pinned (OpenSpec.upto networkEqualSpec)

/-- 'waveportlaw04.NetworkNormals', WHERE WHAT IT READS IS OF BULK AT MOST 1048576: true; the input reads as it did. -/
def networkNormalsUptoRow : OpenClaim := { program := "ytbnpmobaglfcbaagreat", sum := "5c5068bb52d92aaf8f87bbce95ff8ffaee83e3ee5609553dfe7bf9c9fa76afea", func := "waveport/waveportlaw04.NetworkNormals", spec := "networkNormals", unfollowed := true, recurses := true, named := ["math/bits.overflowError"], apart := false, narrowed := true }
def NetworkNormalsUptoSaid : Prop := networkNormalsUptoRow.holds Tryz.pinned (OpenSpec.upto networkNormalsSpec)

/-- 'waveportlaw05.NoiseTerminates', WHERE WHAT IT READS IS OF BULK AT MOST 1048576: true; the input reads as it did. -/
def noiseTerminatesUptoRow : OpenClaim := { program := "ytbnpmobaglfcbaagreat", sum := "5c5068bb52d92aaf8f87bbce95ff8ffaee83e3ee5609553dfe7bf9c9fa76afea", func := "waveport/waveportlaw05.NoiseTerminates", spec := "noiseTerminates", unfollowed := true, recurses := true, named := ["math/bits.overflowError"], apart := false, narrowed := true }
def NoiseTerminatesUptoSaid : Prop := noiseTerminatesUptoRow.holds Tryz.pinned (OpenSpec.upto noiseTerminatesSpec)

/-- 'waveportlaw04.NetworkMatrices', WHERE WHAT IT READS IS OF BULK AT MOST 1048576: true; the input reads as it did. -/
def networkMatricesUptoRow : OpenClaim := { program := "ytbnpmobaglfcbaagreat", sum := "5c5068bb52d92aaf8f87bbce95ff8ffaee83e3ee5609553dfe7bf9c9fa76afea", func := "waveport/waveportlaw04.NetworkMatrices", spec := "networkMatrices", unfollowed := true, recurses := true, named := ["math/bits.overflowError"], apart := false, narrowed := true }
def NetworkMatricesUptoSaid : Prop := networkMatricesUptoRow.holds Tryz.pinned (OpenSpec.upto networkMatricesSpec)

/-- 'waveportlaw04.NetworkPorts', WHERE WHAT IT READS IS OF BULK AT MOST 1048576: true; the input reads as it did. -/
def networkPortsUptoRow : OpenClaim := { program := "ytbnpmobaglfcbaagreat", sum := "5c5068bb52d92aaf8f87bbce95ff8ffaee83e3ee5609553dfe7bf9c9fa76afea", func := "waveport/waveportlaw04.NetworkPorts", spec := "networkPorts", unfollowed := true, recurses := true, named := ["math/bits.overflowError"], apart := false, narrowed := true }
def NetworkPortsUptoSaid : Prop := networkPortsUptoRow.holds Tryz.pinned (OpenSpec.upto networkPortsSpec)

/-- 'waveportlaw05.NoiseStacks', WHERE WHAT IT READS IS OF BULK AT MOST 1048576: true; the input reads as it did. -/
def noiseStacksUptoRow : OpenClaim := { program := "ytbnpmobaglfcbaagreat", sum := "5c5068bb52d92aaf8f87bbce95ff8ffaee83e3ee5609553dfe7bf9c9fa76afea", func := "waveport/waveportlaw05.NoiseStacks", spec := "noiseStacks", unfollowed := true, recurses := true, named := ["math/bits.overflowError"], apart := false, narrowed := true }
def NoiseStacksUptoSaid : Prop := noiseStacksUptoRow.holds Tryz.pinned (OpenSpec.upto noiseStacksSpec)

/-- 'waveportlaw04.NetworkModes', WHERE WHAT IT READS IS OF BULK AT MOST 1048576: true; the input reads as it did. -/
def networkModesUptoRow : OpenClaim := { program := "ytbnpmobaglfcbaagreat", sum := "5c5068bb52d92aaf8f87bbce95ff8ffaee83e3ee5609553dfe7bf9c9fa76afea", func := "waveport/waveportlaw04.NetworkModes", spec := "networkModes", unfollowed := true, recurses := true, named := ["math/bits.overflowError"], apart := false, narrowed := true }
def NetworkModesUptoSaid : Prop := networkModesUptoRow.holds Tryz.pinned (OpenSpec.upto networkModesSpec)

/-- 'waveportlaw04.NetworkWaves', WHERE WHAT IT READS IS OF BULK AT MOST 1048576: true; the input reads as it did. -/
def networkWavesUptoRow : OpenClaim := { program := "ytbnpmobaglfcbaagreat", sum := "5c5068bb52d92aaf8f87bbce95ff8ffaee83e3ee5609553dfe7bf9c9fa76afea", func := "waveport/waveportlaw04.NetworkWaves", spec := "networkWaves", unfollowed := true, recurses := true, named := ["math/bits.overflowError"], apart := false, narrowed := true }
def NetworkWavesUptoSaid : Prop := networkWavesUptoRow.holds Tryz.pinned (OpenSpec.upto networkWavesSpec)

/-- 'waveportlaw04.NetworkTwoEmbeds', WHERE WHAT IT READS IS OF BULK AT MOST 1048576: true; the input reads as it did. -/
def networkTwoEmbedsUptoRow : OpenClaim := { program := "ytbnpmobaglfcbaagreat", sum := "5c5068bb52d92aaf8f87bbce95ff8ffaee83e3ee5609553dfe7bf9c9fa76afea", func := "waveport/waveportlaw04.NetworkTwoEmbeds", spec := "networkTwoEmbeds", unfollowed := true, recurses := true, named := ["math/bits.overflowError"], apart := false, narrowed := true }
def NetworkTwoEmbedsUptoSaid : Prop := networkTwoEmbedsUptoRow.holds Tryz.pinned (OpenSpec.upto networkTwoEmbedsSpec)

/-- 'waveportlaw04.NetworkStacks', WHERE WHAT IT READS IS OF BULK AT MOST 1048576: true; the input reads as it did. -/
def networkStacksUptoRow : OpenClaim := { program := "ytbnpmobaglfcbaagreat", sum := "5c5068bb52d92aaf8f87bbce95ff8ffaee83e3ee5609553dfe7bf9c9fa76afea", func := "waveport/waveportlaw04.NetworkStacks", spec := "networkStacks", unfollowed := true, recurses := true, named := ["math/bits.overflowError"], apart := false, narrowed := true }
def NetworkStacksUptoSaid : Prop := networkStacksUptoRow.holds Tryz.pinned (OpenSpec.upto networkStacksSpec)

/-- 'waveportlaw04.NetworkEmbed', WHERE WHAT IT READS IS OF BULK AT MOST 1048576: true; the input reads as it did. -/
def networkEmbedUptoRow : OpenClaim := { program := "ytbnpmobaglfcbaagreat", sum := "5c5068bb52d92aaf8f87bbce95ff8ffaee83e3ee5609553dfe7bf9c9fa76afea", func := "waveport/waveportlaw04.NetworkEmbed", spec := "networkEmbed", unfollowed := true, recurses := true, named := ["math/bits.overflowError"], apart := false, narrowed := true }
def NetworkEmbedUptoSaid : Prop := networkEmbedUptoRow.holds Tryz.pinned (OpenSpec.upto networkEmbedSpec)

/-- 'waveportlaw04.NetworkJoin', WHERE WHAT IT READS IS OF BULK AT MOST 1048576: true; the input reads as it did. -/
def networkJoinUptoRow : OpenClaim := { program := "ytbnpmobaglfcbaagreat", sum := "5c5068bb52d92aaf8f87bbce95ff8ffaee83e3ee5609553dfe7bf9c9fa76afea", func := "waveport/waveportlaw04.NetworkJoin", spec := "networkJoin", unfollowed := true, recurses := true, named := ["math/bits.overflowError"], apart := false, narrowed := true }
def NetworkJoinUptoSaid : Prop := networkJoinUptoRow.holds Tryz.pinned (OpenSpec.upto networkJoinSpec)

end Rows
end Go.Proofs.YtbnpmobaglfcbaaGreat
