/-
  No cell of these rows narrows 'for every input' (looked for: loops, veiled, ifaces, maps, wideKeys, modest, calm, conditions, laid).
  DERIVED. THE GIVEN ROWS OF THIS SEAT. 12 by the template 'for every input the law returns true; each argument reads behind the call as it read before'; 0 by the template 'total and deterministic' (their statements: YteimkhgiekndjaaGreatTotals.lean).
  GIVEN WITH THE SEED: the statements are not yours to turn. If you find one false, say at which input.
  Laid BY PROGRAM, IN A SANDBOX (cutbox-rows.mjs): the forced cells as the released guide's own fill.sh prints them over the translation 3d57a88ed24c9239… (all of the seat's roots in one cut). By AI agents, Wed Nov 11 2026. No macro, syntax, notation, axiom, sorry.
-/
import Derived.Test.YteimkhgiekndjaaGreatChecked
import GoSem.Claim
import GoSem.ClaimJoined
import GoSem.ClaimMapViews
import Derived.JoinedTies
import Derived.KernelRfl
namespace Go.Proofs.YteimkhgiekndjaaGreat
/- THE CELL 'sum', in the pinned program and in every row, IS THE sha256 OF THE DUMP (.gsa) THAT YteimkhgiekndjaaGreatProg.lean LOADS. Nothing in Lean hashes anything: it is a label: what it is worth is what the hold of that sum in a sandbox is worth. -/
noncomputable def Tryz.pinned : Pinned := { name := "yteimkhgiekndjaagreat", sum := "3d57a88ed24c923974c22c7cbea193098372355f7e4dcdd3a0ef3f520367a242", checked := Tryz.checked }
namespace Rows
def none {H : Type} : Left H := { results := [], args := [] }

/-- 'waveportlaw04.NetworkMatrices': WHATEVER THE INPUT: true; the input reads as it did. -/
def networkMatricesSpec : ChangeSpec := { name := "networkMatrices", fn := fun _ => fun
  | [d1, d2, d3] => { results := [.lit (.bool true)], args := [d1, d2, d3] }
  | _ => none }
def networkMatricesRow : OpenClaim := { program := "yteimkhgiekndjaagreat", sum := "3d57a88ed24c923974c22c7cbea193098372355f7e4dcdd3a0ef3f520367a242", func := "waveport/waveportlaw04.NetworkMatrices", spec := "networkMatrices", unfollowed := true, recurses := true, named := ["math/bits.overflowError"], apart := false }
def NetworkMatricesSaid : Prop := networkMatricesRow.holds Tryz.pinned (OpenSpec.ofChange networkMatricesSpec)

/-- ITS FALSE NEIGHBOUR: 'it returns false'. Refute it at one input. -/
def networkMatricesWrong : ChangeSpec := { name := "networkMatrices", fn := fun _ => fun
  | [d1, d2, d3] => { results := [.lit (.bool false)], args := [d1, d2, d3] }
  | _ => none }
def NetworkMatricesWrongFalsely : Prop := networkMatricesRow.holds Tryz.pinned (OpenSpec.ofChange networkMatricesWrong)

/-- 'waveportlaw04.NetworkModes': WHATEVER THE INPUT: true; the input reads as it did. -/
def networkModesSpec : ChangeSpec := { name := "networkModes", fn := fun _ => fun
  | [d1, d2] => { results := [.lit (.bool true)], args := [d1, d2] }
  | _ => none }
def networkModesRow : OpenClaim := { program := "yteimkhgiekndjaagreat", sum := "3d57a88ed24c923974c22c7cbea193098372355f7e4dcdd3a0ef3f520367a242", func := "waveport/waveportlaw04.NetworkModes", spec := "networkModes", unfollowed := true, recurses := true, named := ["math/bits.overflowError"], apart := false }
def NetworkModesSaid : Prop := networkModesRow.holds Tryz.pinned (OpenSpec.ofChange networkModesSpec)

/-- ITS FALSE NEIGHBOUR: 'it returns false'. Refute it at one input. -/
def networkModesWrong : ChangeSpec := { name := "networkModes", fn := fun _ => fun
  | [d1, d2] => { results := [.lit (.bool false)], args := [d1, d2] }
  | _ => none }
def NetworkModesWrongFalsely : Prop := networkModesRow.holds Tryz.pinned (OpenSpec.ofChange networkModesWrong)

/-- 'waveportlaw04.NetworkStacks': WHATEVER THE INPUT: true; the input reads as it did. -/
def networkStacksSpec : ChangeSpec := { name := "networkStacks", fn := fun _ => fun
  | [d1, d2, d3, d4] => { results := [.lit (.bool true)], args := [d1, d2, d3, d4] }
  | _ => none }
def networkStacksRow : OpenClaim := { program := "yteimkhgiekndjaagreat", sum := "3d57a88ed24c923974c22c7cbea193098372355f7e4dcdd3a0ef3f520367a242", func := "waveport/waveportlaw04.NetworkStacks", spec := "networkStacks", unfollowed := true, recurses := true, named := ["math/bits.overflowError"], apart := false }
def NetworkStacksSaid : Prop := networkStacksRow.holds Tryz.pinned (OpenSpec.ofChange networkStacksSpec)

/-- ITS FALSE NEIGHBOUR: 'it returns false'. Refute it at one input. -/
def networkStacksWrong : ChangeSpec := { name := "networkStacks", fn := fun _ => fun
  | [d1, d2, d3, d4] => { results := [.lit (.bool false)], args := [d1, d2, d3, d4] }
  | _ => none }
def NetworkStacksWrongFalsely : Prop := networkStacksRow.holds Tryz.pinned (OpenSpec.ofChange networkStacksWrong)

/-- 'waveportlaw05.NoiseStacks': WHATEVER THE INPUT: true; the input reads as it did. -/
def noiseStacksSpec : ChangeSpec := { name := "noiseStacks", fn := fun _ => fun
  | [d1, d2, d3] => { results := [.lit (.bool true)], args := [d1, d2, d3] }
  | _ => none }
def noiseStacksRow : OpenClaim := { program := "yteimkhgiekndjaagreat", sum := "3d57a88ed24c923974c22c7cbea193098372355f7e4dcdd3a0ef3f520367a242", func := "waveport/waveportlaw05.NoiseStacks", spec := "noiseStacks", unfollowed := true, recurses := true, named := ["math/bits.overflowError"], apart := false }
def NoiseStacksSaid : Prop := noiseStacksRow.holds Tryz.pinned (OpenSpec.ofChange noiseStacksSpec)

/-- ITS FALSE NEIGHBOUR: 'it returns false'. Refute it at one input. -/
def noiseStacksWrong : ChangeSpec := { name := "noiseStacks", fn := fun _ => fun
  | [d1, d2, d3] => { results := [.lit (.bool false)], args := [d1, d2, d3] }
  | _ => none }
def NoiseStacksWrongFalsely : Prop := noiseStacksRow.holds Tryz.pinned (OpenSpec.ofChange noiseStacksWrong)

/-- 'waveportlaw05.NoiseTerminates': WHATEVER THE INPUT: true; the input reads as it did. -/
def noiseTerminatesSpec : ChangeSpec := { name := "noiseTerminates", fn := fun _ => fun
  | [d1, d2, d3, d4] => { results := [.lit (.bool true)], args := [d1, d2, d3, d4] }
  | _ => none }
def noiseTerminatesRow : OpenClaim := { program := "yteimkhgiekndjaagreat", sum := "3d57a88ed24c923974c22c7cbea193098372355f7e4dcdd3a0ef3f520367a242", func := "waveport/waveportlaw05.NoiseTerminates", spec := "noiseTerminates", unfollowed := true, recurses := true, named := ["math/bits.overflowError"], apart := false }
def NoiseTerminatesSaid : Prop := noiseTerminatesRow.holds Tryz.pinned (OpenSpec.ofChange noiseTerminatesSpec)

/-- ITS FALSE NEIGHBOUR: 'it returns false'. Refute it at one input. -/
def noiseTerminatesWrong : ChangeSpec := { name := "noiseTerminates", fn := fun _ => fun
  | [d1, d2, d3, d4] => { results := [.lit (.bool false)], args := [d1, d2, d3, d4] }
  | _ => none }
def NoiseTerminatesWrongFalsely : Prop := noiseTerminatesRow.holds Tryz.pinned (OpenSpec.ofChange noiseTerminatesWrong)

/-- 'waveportlaw04.NetworkEmbed': WHATEVER THE INPUT: true; the input reads as it did. -/
def networkEmbedSpec : ChangeSpec := { name := "networkEmbed", fn := fun _ => fun
  | [d1, d2, d3] => { results := [.lit (.bool true)], args := [d1, d2, d3] }
  | _ => none }
def networkEmbedRow : OpenClaim := { program := "yteimkhgiekndjaagreat", sum := "3d57a88ed24c923974c22c7cbea193098372355f7e4dcdd3a0ef3f520367a242", func := "waveport/waveportlaw04.NetworkEmbed", spec := "networkEmbed", unfollowed := true, recurses := true, named := ["math/bits.overflowError"], apart := false }
def NetworkEmbedSaid : Prop := networkEmbedRow.holds Tryz.pinned (OpenSpec.ofChange networkEmbedSpec)

/-- ITS FALSE NEIGHBOUR: 'it returns false'. Refute it at one input. -/
def networkEmbedWrong : ChangeSpec := { name := "networkEmbed", fn := fun _ => fun
  | [d1, d2, d3] => { results := [.lit (.bool false)], args := [d1, d2, d3] }
  | _ => none }
def NetworkEmbedWrongFalsely : Prop := networkEmbedRow.holds Tryz.pinned (OpenSpec.ofChange networkEmbedWrong)

/-- 'waveportlaw04.NetworkWaves': WHATEVER THE INPUT: true; the input reads as it did. -/
def networkWavesSpec : ChangeSpec := { name := "networkWaves", fn := fun _ => fun
  | [d1, d2, d3, d4] => { results := [.lit (.bool true)], args := [d1, d2, d3, d4] }
  | _ => none }
def networkWavesRow : OpenClaim := { program := "yteimkhgiekndjaagreat", sum := "3d57a88ed24c923974c22c7cbea193098372355f7e4dcdd3a0ef3f520367a242", func := "waveport/waveportlaw04.NetworkWaves", spec := "networkWaves", unfollowed := true, recurses := true, named := ["math/bits.overflowError"], apart := false }
def NetworkWavesSaid : Prop := networkWavesRow.holds Tryz.pinned (OpenSpec.ofChange networkWavesSpec)

/-- ITS FALSE NEIGHBOUR: 'it returns false'. Refute it at one input. -/
def networkWavesWrong : ChangeSpec := { name := "networkWaves", fn := fun _ => fun
  | [d1, d2, d3, d4] => { results := [.lit (.bool false)], args := [d1, d2, d3, d4] }
  | _ => none }
def NetworkWavesWrongFalsely : Prop := networkWavesRow.holds Tryz.pinned (OpenSpec.ofChange networkWavesWrong)

/-- 'waveportlaw04.NetworkTwoEmbeds': WHATEVER THE INPUT: true; the input reads as it did. -/
def networkTwoEmbedsSpec : ChangeSpec := { name := "networkTwoEmbeds", fn := fun _ => fun
  | [d1, d2, d3, d4] => { results := [.lit (.bool true)], args := [d1, d2, d3, d4] }
  | _ => none }
def networkTwoEmbedsRow : OpenClaim := { program := "yteimkhgiekndjaagreat", sum := "3d57a88ed24c923974c22c7cbea193098372355f7e4dcdd3a0ef3f520367a242", func := "waveport/waveportlaw04.NetworkTwoEmbeds", spec := "networkTwoEmbeds", unfollowed := true, recurses := true, named := ["math/bits.overflowError"], apart := false }
def NetworkTwoEmbedsSaid : Prop := networkTwoEmbedsRow.holds Tryz.pinned (OpenSpec.ofChange networkTwoEmbedsSpec)

/-- ITS FALSE NEIGHBOUR: 'it returns false'. Refute it at one input. -/
def networkTwoEmbedsWrong : ChangeSpec := { name := "networkTwoEmbeds", fn := fun _ => fun
  | [d1, d2, d3, d4] => { results := [.lit (.bool false)], args := [d1, d2, d3, d4] }
  | _ => none }
def NetworkTwoEmbedsWrongFalsely : Prop := networkTwoEmbedsRow.holds Tryz.pinned (OpenSpec.ofChange networkTwoEmbedsWrong)

/-- 'waveportlaw04.NetworkOrder': WHATEVER THE INPUT: true; the input reads as it did. -/
def networkOrderSpec : ChangeSpec := { name := "networkOrder", fn := fun _ => fun
  | [d1, d2, d3, d4] => { results := [.lit (.bool true)], args := [d1, d2, d3, d4] }
  | _ => none }
def networkOrderRow : OpenClaim := { program := "yteimkhgiekndjaagreat", sum := "3d57a88ed24c923974c22c7cbea193098372355f7e4dcdd3a0ef3f520367a242", func := "waveport/waveportlaw04.NetworkOrder", spec := "networkOrder", unfollowed := true, recurses := true, named := ["math/bits.overflowError"], apart := false }
def NetworkOrderSaid : Prop := networkOrderRow.holds Tryz.pinned (OpenSpec.ofChange networkOrderSpec)

/-- ITS FALSE NEIGHBOUR: 'it returns false'. Refute it at one input. -/
def networkOrderWrong : ChangeSpec := { name := "networkOrder", fn := fun _ => fun
  | [d1, d2, d3, d4] => { results := [.lit (.bool false)], args := [d1, d2, d3, d4] }
  | _ => none }
def NetworkOrderWrongFalsely : Prop := networkOrderRow.holds Tryz.pinned (OpenSpec.ofChange networkOrderWrong)

/-- 'waveportlaw05.NoiseJoins': WHATEVER THE INPUT: true; the input reads as it did. -/
def noiseJoinsSpec : ChangeSpec := { name := "noiseJoins", fn := fun _ => fun
  | [d1, d2] => { results := [.lit (.bool true)], args := [d1, d2] }
  | _ => none }
def noiseJoinsRow : OpenClaim := { program := "yteimkhgiekndjaagreat", sum := "3d57a88ed24c923974c22c7cbea193098372355f7e4dcdd3a0ef3f520367a242", func := "waveport/waveportlaw05.NoiseJoins", spec := "noiseJoins", unfollowed := true, recurses := true, named := ["math/bits.overflowError"], apart := false }
def NoiseJoinsSaid : Prop := noiseJoinsRow.holds Tryz.pinned (OpenSpec.ofChange noiseJoinsSpec)

/-- ITS FALSE NEIGHBOUR: 'it returns false'. Refute it at one input. -/
def noiseJoinsWrong : ChangeSpec := { name := "noiseJoins", fn := fun _ => fun
  | [d1, d2] => { results := [.lit (.bool false)], args := [d1, d2] }
  | _ => none }
def NoiseJoinsWrongFalsely : Prop := noiseJoinsRow.holds Tryz.pinned (OpenSpec.ofChange noiseJoinsWrong)

/-- 'waveportlaw04.NetworkBack': WHATEVER THE INPUT: true; the input reads as it did. -/
def networkBackSpec : ChangeSpec := { name := "networkBack", fn := fun _ => fun
  | [d1, d2, d3] => { results := [.lit (.bool true)], args := [d1, d2, d3] }
  | _ => none }
def networkBackRow : OpenClaim := { program := "yteimkhgiekndjaagreat", sum := "3d57a88ed24c923974c22c7cbea193098372355f7e4dcdd3a0ef3f520367a242", func := "waveport/waveportlaw04.NetworkBack", spec := "networkBack", unfollowed := true, recurses := true, named := ["math/bits.overflowError"], apart := false }
def NetworkBackSaid : Prop := networkBackRow.holds Tryz.pinned (OpenSpec.ofChange networkBackSpec)

/-- ITS FALSE NEIGHBOUR: 'it returns false'. Refute it at one input. -/
def networkBackWrong : ChangeSpec := { name := "networkBack", fn := fun _ => fun
  | [d1, d2, d3] => { results := [.lit (.bool false)], args := [d1, d2, d3] }
  | _ => none }
def NetworkBackWrongFalsely : Prop := networkBackRow.holds Tryz.pinned (OpenSpec.ofChange networkBackWrong)

/-- 'waveportlaw05.NoiseRenormalizes': WHATEVER THE INPUT: true; the input reads as it did. -/
def noiseRenormalizesSpec : ChangeSpec := { name := "noiseRenormalizes", fn := fun _ => fun
  | [d1, d2] => { results := [.lit (.bool true)], args := [d1, d2] }
  | _ => none }
def noiseRenormalizesRow : OpenClaim := { program := "yteimkhgiekndjaagreat", sum := "3d57a88ed24c923974c22c7cbea193098372355f7e4dcdd3a0ef3f520367a242", func := "waveport/waveportlaw05.NoiseRenormalizes", spec := "noiseRenormalizes", unfollowed := true, recurses := true, named := ["math/bits.overflowError"], apart := false }
def NoiseRenormalizesSaid : Prop := noiseRenormalizesRow.holds Tryz.pinned (OpenSpec.ofChange noiseRenormalizesSpec)

/-- ITS FALSE NEIGHBOUR: 'it returns false'. Refute it at one input. -/
def noiseRenormalizesWrong : ChangeSpec := { name := "noiseRenormalizes", fn := fun _ => fun
  | [d1, d2] => { results := [.lit (.bool false)], args := [d1, d2] }
  | _ => none }
def NoiseRenormalizesWrongFalsely : Prop := noiseRenormalizesRow.holds Tryz.pinned (OpenSpec.ofChange noiseRenormalizesWrong)

/- THE SECOND FORM. 'bulk': how many values and letters a reading holds, each counted each time it is reached (what is shared counts as often as it is met; a slice's spare places count too). A statement '..UptoSaid' is the law's where the arguments, and the package variables that the reading takes, are together of bulk at most 1048576: NARROWER than '..Said'. Prove '..Said' where nothing that the law and all that it calls make is longer than what came in: it says more and counts as full. Else prove '..UptoSaid'. A law counts once. -/
mutual
def uptoBulk {H : Type} : DataW H → Nat
  | .lit (.string bytes) => bytes.length + 1
  | .lit _ => 1
  | .nil => 1
  | .ptr d => uptoBulk d + 1
  | .slice elems spare => uptoBulkAll elems + uptoBulkAll spare + 1
  | .agg parts => uptoBulkAll parts + 1
  | .iface _ d => uptoBulk d + 1
  | .map entries => uptoBulkEntries entries + 1
  | .held _ => 1
def uptoBulkAll {H : Type} : List (DataW H) → Nat
  | [] => 0
  | d :: r => uptoBulk d + uptoBulkAll r
def uptoBulkEntries {H : Type} : List (Lit × DataW H) → Nat
  | [] => 0
  | x :: r => uptoBulkEntry x + uptoBulkEntries r
def uptoBulkEntry {H : Type} : Lit × DataW H → Nat
  | (.string bytes, d) => bytes.length + uptoBulk d + 1
  | (_, d) => uptoBulk d + 1
 end
def uptoSmall : (H : Type) → List (DataW H) → Bool := fun _ ds => decide (uptoBulkAll ds ≤ 1048576)
def OpenSpec.upto (s : _root_.Go.ChangeSpec) : _root_.Go.OpenSpec := { _root_.Go.OpenSpec.ofChange s with cond := some uptoSmall }

/-- 'waveportlaw04.NetworkMatrices', WHERE WHAT IT READS IS OF BULK AT MOST 1048576: true; the input reads as it did. -/
def networkMatricesUptoRow : OpenClaim := { program := "yteimkhgiekndjaagreat", sum := "3d57a88ed24c923974c22c7cbea193098372355f7e4dcdd3a0ef3f520367a242", func := "waveport/waveportlaw04.NetworkMatrices", spec := "networkMatrices", unfollowed := true, recurses := true, named := ["math/bits.overflowError"], apart := false, narrowed := true }
def NetworkMatricesUptoSaid : Prop := networkMatricesUptoRow.holds Tryz.pinned (OpenSpec.upto networkMatricesSpec)

/-- 'waveportlaw04.NetworkModes', WHERE WHAT IT READS IS OF BULK AT MOST 1048576: true; the input reads as it did. -/
def networkModesUptoRow : OpenClaim := { program := "yteimkhgiekndjaagreat", sum := "3d57a88ed24c923974c22c7cbea193098372355f7e4dcdd3a0ef3f520367a242", func := "waveport/waveportlaw04.NetworkModes", spec := "networkModes", unfollowed := true, recurses := true, named := ["math/bits.overflowError"], apart := false, narrowed := true }
def NetworkModesUptoSaid : Prop := networkModesUptoRow.holds Tryz.pinned (OpenSpec.upto networkModesSpec)

/-- 'waveportlaw04.NetworkStacks', WHERE WHAT IT READS IS OF BULK AT MOST 1048576: true; the input reads as it did. -/
def networkStacksUptoRow : OpenClaim := { program := "yteimkhgiekndjaagreat", sum := "3d57a88ed24c923974c22c7cbea193098372355f7e4dcdd3a0ef3f520367a242", func := "waveport/waveportlaw04.NetworkStacks", spec := "networkStacks", unfollowed := true, recurses := true, named := ["math/bits.overflowError"], apart := false, narrowed := true }
def NetworkStacksUptoSaid : Prop := networkStacksUptoRow.holds Tryz.pinned (OpenSpec.upto networkStacksSpec)

/-- 'waveportlaw05.NoiseStacks', WHERE WHAT IT READS IS OF BULK AT MOST 1048576: true; the input reads as it did. -/
def noiseStacksUptoRow : OpenClaim := { program := "yteimkhgiekndjaagreat", sum := "3d57a88ed24c923974c22c7cbea193098372355f7e4dcdd3a0ef3f520367a242", func := "waveport/waveportlaw05.NoiseStacks", spec := "noiseStacks", unfollowed := true, recurses := true, named := ["math/bits.overflowError"], apart := false, narrowed := true }
def NoiseStacksUptoSaid : Prop := noiseStacksUptoRow.holds Tryz.pinned (OpenSpec.upto noiseStacksSpec)

/-- 'waveportlaw05.NoiseTerminates', WHERE WHAT IT READS IS OF BULK AT MOST 1048576: true; the input reads as it did. -/
def noiseTerminatesUptoRow : OpenClaim := { program := "yteimkhgiekndjaagreat", sum := "3d57a88ed24c923974c22c7cbea193098372355f7e4dcdd3a0ef3f520367a242", func := "waveport/waveportlaw05.NoiseTerminates", spec := "noiseTerminates", unfollowed := true, recurses := true, named := ["math/bits.overflowError"], apart := false, narrowed := true }
def NoiseTerminatesUptoSaid : Prop := noiseTerminatesUptoRow.holds Tryz.pinned (OpenSpec.upto noiseTerminatesSpec)

/-- 'waveportlaw04.NetworkEmbed', WHERE WHAT IT READS IS OF BULK AT MOST 1048576: true; the input reads as it did. -/
def networkEmbedUptoRow : OpenClaim := { program := "yteimkhgiekndjaagreat", sum := "3d57a88ed24c923974c22c7cbea193098372355f7e4dcdd3a0ef3f520367a242", func := "waveport/waveportlaw04.NetworkEmbed", spec := "networkEmbed", unfollowed := true, recurses := true, named := ["math/bits.overflowError"], apart := false, narrowed := true }
def NetworkEmbedUptoSaid : Prop := networkEmbedUptoRow.holds Tryz.pinned (OpenSpec.upto networkEmbedSpec)

/-- 'waveportlaw04.NetworkWaves', WHERE WHAT IT READS IS OF BULK AT MOST 1048576: true; the input reads as it did. -/
def networkWavesUptoRow : OpenClaim := { program := "yteimkhgiekndjaagreat", sum := "3d57a88ed24c923974c22c7cbea193098372355f7e4dcdd3a0ef3f520367a242", func := "waveport/waveportlaw04.NetworkWaves", spec := "networkWaves", unfollowed := true, recurses := true, named := ["math/bits.overflowError"], apart := false, narrowed := true }
def NetworkWavesUptoSaid : Prop := networkWavesUptoRow.holds Tryz.pinned (OpenSpec.upto networkWavesSpec)

/-- 'waveportlaw04.NetworkTwoEmbeds', WHERE WHAT IT READS IS OF BULK AT MOST 1048576: true; the input reads as it did. -/
def networkTwoEmbedsUptoRow : OpenClaim := { program := "yteimkhgiekndjaagreat", sum := "3d57a88ed24c923974c22c7cbea193098372355f7e4dcdd3a0ef3f520367a242", func := "waveport/waveportlaw04.NetworkTwoEmbeds", spec := "networkTwoEmbeds", unfollowed := true, recurses := true, named := ["math/bits.overflowError"], apart := false, narrowed := true }
def NetworkTwoEmbedsUptoSaid : Prop := networkTwoEmbedsUptoRow.holds Tryz.pinned (OpenSpec.upto networkTwoEmbedsSpec)

/-- 'waveportlaw04.NetworkOrder', WHERE WHAT IT READS IS OF BULK AT MOST 1048576: true; the input reads as it did. -/
def networkOrderUptoRow : OpenClaim := { program := "yteimkhgiekndjaagreat", sum := "3d57a88ed24c923974c22c7cbea193098372355f7e4dcdd3a0ef3f520367a242", func := "waveport/waveportlaw04.NetworkOrder", spec := "networkOrder", unfollowed := true, recurses := true, named := ["math/bits.overflowError"], apart := false, narrowed := true }
def NetworkOrderUptoSaid : Prop := networkOrderUptoRow.holds Tryz.pinned (OpenSpec.upto networkOrderSpec)

/-- 'waveportlaw05.NoiseJoins', WHERE WHAT IT READS IS OF BULK AT MOST 1048576: true; the input reads as it did. -/
def noiseJoinsUptoRow : OpenClaim := { program := "yteimkhgiekndjaagreat", sum := "3d57a88ed24c923974c22c7cbea193098372355f7e4dcdd3a0ef3f520367a242", func := "waveport/waveportlaw05.NoiseJoins", spec := "noiseJoins", unfollowed := true, recurses := true, named := ["math/bits.overflowError"], apart := false, narrowed := true }
def NoiseJoinsUptoSaid : Prop := noiseJoinsUptoRow.holds Tryz.pinned (OpenSpec.upto noiseJoinsSpec)

/-- 'waveportlaw04.NetworkBack', WHERE WHAT IT READS IS OF BULK AT MOST 1048576: true; the input reads as it did. -/
def networkBackUptoRow : OpenClaim := { program := "yteimkhgiekndjaagreat", sum := "3d57a88ed24c923974c22c7cbea193098372355f7e4dcdd3a0ef3f520367a242", func := "waveport/waveportlaw04.NetworkBack", spec := "networkBack", unfollowed := true, recurses := true, named := ["math/bits.overflowError"], apart := false, narrowed := true }
def NetworkBackUptoSaid : Prop := networkBackUptoRow.holds Tryz.pinned (OpenSpec.upto networkBackSpec)

/-- 'waveportlaw05.NoiseRenormalizes', WHERE WHAT IT READS IS OF BULK AT MOST 1048576: true; the input reads as it did. -/
def noiseRenormalizesUptoRow : OpenClaim := { program := "yteimkhgiekndjaagreat", sum := "3d57a88ed24c923974c22c7cbea193098372355f7e4dcdd3a0ef3f520367a242", func := "waveport/waveportlaw05.NoiseRenormalizes", spec := "noiseRenormalizes", unfollowed := true, recurses := true, named := ["math/bits.overflowError"], apart := false, narrowed := true }
def NoiseRenormalizesUptoSaid : Prop := noiseRenormalizesUptoRow.holds Tryz.pinned (OpenSpec.upto noiseRenormalizesSpec)

end Rows
end Go.Proofs.YteimkhgiekndjaaGreat
