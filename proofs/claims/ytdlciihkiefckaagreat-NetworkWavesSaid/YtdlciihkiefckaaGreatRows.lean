/-
  No cell of these rows narrows 'for every input' (looked for: loops, veiled, ifaces, maps, wideKeys, modest, calm, conditions, laid).
  DERIVED. THE GIVEN ROWS OF THIS SEAT. 12 by the template 'for every input the law returns true; each argument reads behind the call as it read before'; 0 by the template 'total and deterministic' (their statements: YtdlciihkiefckaaGreatTotals.lean).
  GIVEN WITH THE SEED: the statements are not yours to turn. If you find one false, say at which input.
  Laid BY PROGRAM, IN A SANDBOX (cutbox-rows.mjs): the forced cells as the released guide's own fill.sh prints them over the translation 2479f668a20d7f33… (all of the seat's roots in one cut). By AI agents, Wed Nov 11 2026. No macro, syntax, notation, axiom, sorry.
-/
import Derived.Test.YtdlciihkiefckaaGreatChecked
import GoSem.Claim
import GoSem.ClaimJoined
import GoSem.ClaimMapViews
import Derived.JoinedTies
import Derived.KernelRfl
namespace Go.Proofs.YtdlciihkiefckaaGreat
/- THE CELL 'sum', in the pinned program and in every row, IS THE sha256 OF THE DUMP (.gsa) THAT YtdlciihkiefckaaGreatProg.lean LOADS. Nothing in Lean hashes anything: it is a label: what it is worth is what the hold of that sum in a sandbox is worth. -/
noncomputable def Tryz.pinned : Pinned := { name := "ytdlciihkiefckaagreat", sum := "2479f668a20d7f33a23f20cc6dcc2882c9b2374a1ead71f3aaf89102b840dddc", checked := Tryz.checked }
namespace Rows
def none {H : Type} : Left H := { results := [], args := [] }

/-- 'waveportlaw04.NetworkPower': WHATEVER THE INPUT: true; the input reads as it did. -/
def networkPowerSpec : ChangeSpec := { name := "networkPower", fn := fun _ => fun
  | [d] => { results := [.lit (.bool true)], args := [d] }
  | _ => none }
def networkPowerRow : OpenClaim := { program := "ytdlciihkiefckaagreat", sum := "2479f668a20d7f33a23f20cc6dcc2882c9b2374a1ead71f3aaf89102b840dddc", func := "waveport/waveportlaw04.NetworkPower", spec := "networkPower", unfollowed := true, recurses := true, named := ["math/bits.overflowError"], apart := false }
def NetworkPowerSaid : Prop := networkPowerRow.holds Tryz.pinned (OpenSpec.ofChange networkPowerSpec)

/-- ITS FALSE NEIGHBOUR: 'it returns false'. Refute it at one input. -/
def networkPowerWrong : ChangeSpec := { name := "networkPower", fn := fun _ => fun
  | [d] => { results := [.lit (.bool false)], args := [d] }
  | _ => none }
def NetworkPowerWrongFalsely : Prop := networkPowerRow.holds Tryz.pinned (OpenSpec.ofChange networkPowerWrong)

/-- 'waveportlaw04.NetworkLossless': WHATEVER THE INPUT: true; the input reads as it did. -/
def networkLosslessSpec : ChangeSpec := { name := "networkLossless", fn := fun _ => fun
  | [d1, d2, d3, d4] => { results := [.lit (.bool true)], args := [d1, d2, d3, d4] }
  | _ => none }
def networkLosslessRow : OpenClaim := { program := "ytdlciihkiefckaagreat", sum := "2479f668a20d7f33a23f20cc6dcc2882c9b2374a1ead71f3aaf89102b840dddc", func := "waveport/waveportlaw04.NetworkLossless", spec := "networkLossless", unfollowed := true, recurses := true, named := ["math/bits.overflowError"], apart := false }
def NetworkLosslessSaid : Prop := networkLosslessRow.holds Tryz.pinned (OpenSpec.ofChange networkLosslessSpec)

/-- ITS FALSE NEIGHBOUR: 'it returns false'. Refute it at one input. -/
def networkLosslessWrong : ChangeSpec := { name := "networkLossless", fn := fun _ => fun
  | [d1, d2, d3, d4] => { results := [.lit (.bool false)], args := [d1, d2, d3, d4] }
  | _ => none }
def NetworkLosslessWrongFalsely : Prop := networkLosslessRow.holds Tryz.pinned (OpenSpec.ofChange networkLosslessWrong)

/-- 'waveportlaw04.NetworkPassive': WHATEVER THE INPUT: true; the input reads as it did. -/
def networkPassiveSpec : ChangeSpec := { name := "networkPassive", fn := fun _ => fun
  | [d1, d2, d3, d4, d5] => { results := [.lit (.bool true)], args := [d1, d2, d3, d4, d5] }
  | _ => none }
def networkPassiveRow : OpenClaim := { program := "ytdlciihkiefckaagreat", sum := "2479f668a20d7f33a23f20cc6dcc2882c9b2374a1ead71f3aaf89102b840dddc", func := "waveport/waveportlaw04.NetworkPassive", spec := "networkPassive", unfollowed := true, recurses := true, named := ["math/bits.overflowError"], apart := false }
def NetworkPassiveSaid : Prop := networkPassiveRow.holds Tryz.pinned (OpenSpec.ofChange networkPassiveSpec)

/-- ITS FALSE NEIGHBOUR: 'it returns false'. Refute it at one input. -/
def networkPassiveWrong : ChangeSpec := { name := "networkPassive", fn := fun _ => fun
  | [d1, d2, d3, d4, d5] => { results := [.lit (.bool false)], args := [d1, d2, d3, d4, d5] }
  | _ => none }
def NetworkPassiveWrongFalsely : Prop := networkPassiveRow.holds Tryz.pinned (OpenSpec.ofChange networkPassiveWrong)

/-- 'waveportlaw05.NoiseStaysPossible': WHATEVER THE INPUT: true; the input reads as it did. -/
def noiseStaysPossibleSpec : ChangeSpec := { name := "noiseStaysPossible", fn := fun _ => fun
  | [d1, d2, d3, d4, d5, d6] => { results := [.lit (.bool true)], args := [d1, d2, d3, d4, d5, d6] }
  | _ => none }
def noiseStaysPossibleRow : OpenClaim := { program := "ytdlciihkiefckaagreat", sum := "2479f668a20d7f33a23f20cc6dcc2882c9b2374a1ead71f3aaf89102b840dddc", func := "waveport/waveportlaw05.NoiseStaysPossible", spec := "noiseStaysPossible", unfollowed := true, recurses := true, named := ["math/bits.overflowError"], apart := false }
def NoiseStaysPossibleSaid : Prop := noiseStaysPossibleRow.holds Tryz.pinned (OpenSpec.ofChange noiseStaysPossibleSpec)

/-- ITS FALSE NEIGHBOUR: 'it returns false'. Refute it at one input. -/
def noiseStaysPossibleWrong : ChangeSpec := { name := "noiseStaysPossible", fn := fun _ => fun
  | [d1, d2, d3, d4, d5, d6] => { results := [.lit (.bool false)], args := [d1, d2, d3, d4, d5, d6] }
  | _ => none }
def NoiseStaysPossibleWrongFalsely : Prop := noiseStaysPossibleRow.holds Tryz.pinned (OpenSpec.ofChange noiseStaysPossibleWrong)

/-- 'waveporttop.TopOwnEmbed': WHATEVER THE INPUT: true; the input reads as it did. -/
def topOwnEmbedSpec : ChangeSpec := { name := "topOwnEmbed", fn := fun _ => fun
  | [d1, d2, d3] => { results := [.lit (.bool true)], args := [d1, d2, d3] }
  | _ => none }
def topOwnEmbedRow : OpenClaim := { program := "ytdlciihkiefckaagreat", sum := "2479f668a20d7f33a23f20cc6dcc2882c9b2374a1ead71f3aaf89102b840dddc", func := "waveport/waveporttop.TopOwnEmbed", spec := "topOwnEmbed", unfollowed := true, recurses := true, named := ["math/bits.overflowError"], apart := false }
def TopOwnEmbedSaid : Prop := topOwnEmbedRow.holds Tryz.pinned (OpenSpec.ofChange topOwnEmbedSpec)

/-- ITS FALSE NEIGHBOUR: 'it returns false'. Refute it at one input. -/
def topOwnEmbedWrong : ChangeSpec := { name := "topOwnEmbed", fn := fun _ => fun
  | [d1, d2, d3] => { results := [.lit (.bool false)], args := [d1, d2, d3] }
  | _ => none }
def TopOwnEmbedWrongFalsely : Prop := topOwnEmbedRow.holds Tryz.pinned (OpenSpec.ofChange topOwnEmbedWrong)

/-- 'waveportlaw04.NetworkWaves': WHATEVER THE INPUT: true; the input reads as it did. -/
def networkWavesSpec : ChangeSpec := { name := "networkWaves", fn := fun _ => fun
  | [d1, d2, d3, d4] => { results := [.lit (.bool true)], args := [d1, d2, d3, d4] }
  | _ => none }
def networkWavesRow : OpenClaim := { program := "ytdlciihkiefckaagreat", sum := "2479f668a20d7f33a23f20cc6dcc2882c9b2374a1ead71f3aaf89102b840dddc", func := "waveport/waveportlaw04.NetworkWaves", spec := "networkWaves", unfollowed := true, recurses := true, named := ["math/bits.overflowError"], apart := false }
def NetworkWavesSaid : Prop := networkWavesRow.holds Tryz.pinned (OpenSpec.ofChange networkWavesSpec)

/-- ITS FALSE NEIGHBOUR: 'it returns false'. Refute it at one input. -/
def networkWavesWrong : ChangeSpec := { name := "networkWaves", fn := fun _ => fun
  | [d1, d2, d3, d4] => { results := [.lit (.bool false)], args := [d1, d2, d3, d4] }
  | _ => none }
def NetworkWavesWrongFalsely : Prop := networkWavesRow.holds Tryz.pinned (OpenSpec.ofChange networkWavesWrong)

/-- 'waveportlaw05.NoisePossible': WHATEVER THE INPUT: true; the input reads as it did. -/
def noisePossibleSpec : ChangeSpec := { name := "noisePossible", fn := fun _ => fun
  | [d] => { results := [.lit (.bool true)], args := [d] }
  | _ => none }
def noisePossibleRow : OpenClaim := { program := "ytdlciihkiefckaagreat", sum := "2479f668a20d7f33a23f20cc6dcc2882c9b2374a1ead71f3aaf89102b840dddc", func := "waveport/waveportlaw05.NoisePossible", spec := "noisePossible", unfollowed := true, recurses := true, named := ["math/bits.overflowError"], apart := false }
def NoisePossibleSaid : Prop := noisePossibleRow.holds Tryz.pinned (OpenSpec.ofChange noisePossibleSpec)

/-- ITS FALSE NEIGHBOUR: 'it returns false'. Refute it at one input. -/
def noisePossibleWrong : ChangeSpec := { name := "noisePossible", fn := fun _ => fun
  | [d] => { results := [.lit (.bool false)], args := [d] }
  | _ => none }
def NoisePossibleWrongFalsely : Prop := noisePossibleRow.holds Tryz.pinned (OpenSpec.ofChange noisePossibleWrong)

/-- 'waveportlaw05.NoiseThermalLoads': WHATEVER THE INPUT: true; the input reads as it did. -/
def noiseThermalLoadsSpec : ChangeSpec := { name := "noiseThermalLoads", fn := fun _ => fun
  | [d1, d2, d3, d4, d5, d6] => { results := [.lit (.bool true)], args := [d1, d2, d3, d4, d5, d6] }
  | _ => none }
def noiseThermalLoadsRow : OpenClaim := { program := "ytdlciihkiefckaagreat", sum := "2479f668a20d7f33a23f20cc6dcc2882c9b2374a1ead71f3aaf89102b840dddc", func := "waveport/waveportlaw05.NoiseThermalLoads", spec := "noiseThermalLoads", unfollowed := true, recurses := true, named := ["math/bits.overflowError"], apart := false }
def NoiseThermalLoadsSaid : Prop := noiseThermalLoadsRow.holds Tryz.pinned (OpenSpec.ofChange noiseThermalLoadsSpec)

/-- ITS FALSE NEIGHBOUR: 'it returns false'. Refute it at one input. -/
def noiseThermalLoadsWrong : ChangeSpec := { name := "noiseThermalLoads", fn := fun _ => fun
  | [d1, d2, d3, d4, d5, d6] => { results := [.lit (.bool false)], args := [d1, d2, d3, d4, d5, d6] }
  | _ => none }
def NoiseThermalLoadsWrongFalsely : Prop := noiseThermalLoadsRow.holds Tryz.pinned (OpenSpec.ofChange noiseThermalLoadsWrong)

/-- 'waveportlaw04.NetworkEmbeds': WHATEVER THE INPUT: true; the input reads as it did. -/
def networkEmbedsSpec : ChangeSpec := { name := "networkEmbeds", fn := fun _ => fun
  | [d1, d2, d3] => { results := [.lit (.bool true)], args := [d1, d2, d3] }
  | _ => none }
def networkEmbedsRow : OpenClaim := { program := "ytdlciihkiefckaagreat", sum := "2479f668a20d7f33a23f20cc6dcc2882c9b2374a1ead71f3aaf89102b840dddc", func := "waveport/waveportlaw04.NetworkEmbeds", spec := "networkEmbeds", unfollowed := true, recurses := true, named := ["math/bits.overflowError"], apart := false }
def NetworkEmbedsSaid : Prop := networkEmbedsRow.holds Tryz.pinned (OpenSpec.ofChange networkEmbedsSpec)

/-- ITS FALSE NEIGHBOUR: 'it returns false'. Refute it at one input. -/
def networkEmbedsWrong : ChangeSpec := { name := "networkEmbeds", fn := fun _ => fun
  | [d1, d2, d3] => { results := [.lit (.bool false)], args := [d1, d2, d3] }
  | _ => none }
def NetworkEmbedsWrongFalsely : Prop := networkEmbedsRow.holds Tryz.pinned (OpenSpec.ofChange networkEmbedsWrong)

/-- 'waveportlaw05.NoiseThermal': WHATEVER THE INPUT: true; the input reads as it did. -/
def noiseThermalSpec : ChangeSpec := { name := "noiseThermal", fn := fun _ => fun
  | [d1, d2, d3, d4] => { results := [.lit (.bool true)], args := [d1, d2, d3, d4] }
  | _ => none }
def noiseThermalRow : OpenClaim := { program := "ytdlciihkiefckaagreat", sum := "2479f668a20d7f33a23f20cc6dcc2882c9b2374a1ead71f3aaf89102b840dddc", func := "waveport/waveportlaw05.NoiseThermal", spec := "noiseThermal", unfollowed := true, recurses := true, named := ["math/bits.overflowError"], apart := false }
def NoiseThermalSaid : Prop := noiseThermalRow.holds Tryz.pinned (OpenSpec.ofChange noiseThermalSpec)

/-- ITS FALSE NEIGHBOUR: 'it returns false'. Refute it at one input. -/
def noiseThermalWrong : ChangeSpec := { name := "noiseThermal", fn := fun _ => fun
  | [d1, d2, d3, d4] => { results := [.lit (.bool false)], args := [d1, d2, d3, d4] }
  | _ => none }
def NoiseThermalWrongFalsely : Prop := noiseThermalRow.holds Tryz.pinned (OpenSpec.ofChange noiseThermalWrong)

/-- 'waveportlaw05.NoiseStacks': WHATEVER THE INPUT: true; the input reads as it did. -/
def noiseStacksSpec : ChangeSpec := { name := "noiseStacks", fn := fun _ => fun
  | [d1, d2, d3] => { results := [.lit (.bool true)], args := [d1, d2, d3] }
  | _ => none }
def noiseStacksRow : OpenClaim := { program := "ytdlciihkiefckaagreat", sum := "2479f668a20d7f33a23f20cc6dcc2882c9b2374a1ead71f3aaf89102b840dddc", func := "waveport/waveportlaw05.NoiseStacks", spec := "noiseStacks", unfollowed := true, recurses := true, named := ["math/bits.overflowError"], apart := false }
def NoiseStacksSaid : Prop := noiseStacksRow.holds Tryz.pinned (OpenSpec.ofChange noiseStacksSpec)

/-- ITS FALSE NEIGHBOUR: 'it returns false'. Refute it at one input. -/
def noiseStacksWrong : ChangeSpec := { name := "noiseStacks", fn := fun _ => fun
  | [d1, d2, d3] => { results := [.lit (.bool false)], args := [d1, d2, d3] }
  | _ => none }
def NoiseStacksWrongFalsely : Prop := noiseStacksRow.holds Tryz.pinned (OpenSpec.ofChange noiseStacksWrong)

/-- 'waveportlaw05.NoiseRenormalizes': WHATEVER THE INPUT: true; the input reads as it did. -/
def noiseRenormalizesSpec : ChangeSpec := { name := "noiseRenormalizes", fn := fun _ => fun
  | [d1, d2] => { results := [.lit (.bool true)], args := [d1, d2] }
  | _ => none }
def noiseRenormalizesRow : OpenClaim := { program := "ytdlciihkiefckaagreat", sum := "2479f668a20d7f33a23f20cc6dcc2882c9b2374a1ead71f3aaf89102b840dddc", func := "waveport/waveportlaw05.NoiseRenormalizes", spec := "noiseRenormalizes", unfollowed := true, recurses := true, named := ["math/bits.overflowError"], apart := false }
def NoiseRenormalizesSaid : Prop := noiseRenormalizesRow.holds Tryz.pinned (OpenSpec.ofChange noiseRenormalizesSpec)

/-- ITS FALSE NEIGHBOUR: 'it returns false'. Refute it at one input. -/
def noiseRenormalizesWrong : ChangeSpec := { name := "noiseRenormalizes", fn := fun _ => fun
  | [d1, d2] => { results := [.lit (.bool false)], args := [d1, d2] }
  | _ => none }
def NoiseRenormalizesWrongFalsely : Prop := noiseRenormalizesRow.holds Tryz.pinned (OpenSpec.ofChange noiseRenormalizesWrong)

/- THE SECOND FORM. 'bulk': how many values and letters a reading holds, each counted each time it is reached (what is shared counts as often as it is met; a slice's spare places count too). A statement '..UptoSaid' is the law's where the arguments, and the package variables that the reading takes, are together of bulk at most 1048576: NARROWER than '..Said'. Prove '..Said' where nothing that the law and all that it calls make is longer than what came in: it says more and counts as full. Else prove '..UptoSaid'. A law counts once. -/
mutual
def uptoBulk {H : Type} : DataW H → Nat
  | .lit (.string bytes) => bytes.length + 1
  | .lit _ => 1
  | .nil => 1
  | .ptr d => uptoBulk d + 1
  | .slice elems spare => uptoBulkAll elems + uptoBulkAll spare + 1
  | .agg parts => uptoBulkAll parts + 1
  | .iface _ d => uptoBulk d + 1
  | .map entries => uptoBulkEntries entries + 1
  | .held _ => 1
def uptoBulkAll {H : Type} : List (DataW H) → Nat
  | [] => 0
  | d :: r => uptoBulk d + uptoBulkAll r
def uptoBulkEntries {H : Type} : List (Lit × DataW H) → Nat
  | [] => 0
  | x :: r => uptoBulkEntry x + uptoBulkEntries r
def uptoBulkEntry {H : Type} : Lit × DataW H → Nat
  | (.string bytes, d) => bytes.length + uptoBulk d + 1
  | (_, d) => uptoBulk d + 1
 end
def uptoSmall : (H : Type) → List (DataW H) → Bool := fun _ ds => decide (uptoBulkAll ds ≤ 1048576)
def OpenSpec.upto (s : _root_.Go.ChangeSpec) : _root_.Go.OpenSpec := { _root_.Go.OpenSpec.ofChange s with cond := some uptoSmall }

/-- 'waveportlaw04.NetworkPower', WHERE WHAT IT READS IS OF BULK AT MOST 1048576: true; the input reads as it did. -/
def networkPowerUptoRow : OpenClaim := { program := "ytdlciihkiefckaagreat", sum := "2479f668a20d7f33a23f20cc6dcc2882c9b2374a1ead71f3aaf89102b840dddc", func := "waveport/waveportlaw04.NetworkPower", spec := "networkPower", unfollowed := true, recurses := true, named := ["math/bits.overflowError"], apart := false, narrowed := true }
def NetworkPowerUptoSaid : Prop := networkPowerUptoRow.holds Tryz.pinned (OpenSpec.upto networkPowerSpec)

/-- 'waveportlaw04.NetworkLossless', WHERE WHAT IT READS IS OF BULK AT MOST 1048576: true; the input reads as it did. -/
def networkLosslessUptoRow : OpenClaim := { program := "ytdlciihkiefckaagreat", sum := "2479f668a20d7f33a23f20cc6dcc2882c9b2374a1ead71f3aaf89102b840dddc", func := "waveport/waveportlaw04.NetworkLossless", spec := "networkLossless", unfollowed := true, recurses := true, named := ["math/bits.overflowError"], apart := false, narrowed := true }
def NetworkLosslessUptoSaid : Prop := networkLosslessUptoRow.holds Tryz.pinned (OpenSpec.upto networkLosslessSpec)

/-- 'waveportlaw04.NetworkPassive', WHERE WHAT IT READS IS OF BULK AT MOST 1048576: true; the input reads as it did. -/
def networkPassiveUptoRow : OpenClaim := { program := "ytdlciihkiefckaagreat", sum := "2479f668a20d7f33a23f20cc6dcc2882c9b2374a1ead71f3aaf89102b840dddc", func := "waveport/waveportlaw04.NetworkPassive", spec := "networkPassive", unfollowed := true, recurses := true, named := ["math/bits.overflowError"], apart := false, narrowed := true }
def NetworkPassiveUptoSaid : Prop := networkPassiveUptoRow.holds Tryz.pinned (OpenSpec.upto networkPassiveSpec)

/-- 'waveportlaw05.NoiseStaysPossible', WHERE WHAT IT READS IS OF BULK AT MOST 1048576: true; the input reads as it did. -/
def noiseStaysPossibleUptoRow : OpenClaim := { program := "ytdlciihkiefckaagreat", sum := "2479f668a20d7f33a23f20cc6dcc2882c9b2374a1ead71f3aaf89102b840dddc", func := "waveport/waveportlaw05.NoiseStaysPossible", spec := "noiseStaysPossible", unfollowed := true, recurses := true, named := ["math/bits.overflowError"], apart := false, narrowed := true }
def NoiseStaysPossibleUptoSaid : Prop := noiseStaysPossibleUptoRow.holds Tryz.pinned (OpenSpec.upto noiseStaysPossibleSpec)

/-- 'waveporttop.TopOwnEmbed', WHERE WHAT IT READS IS OF BULK AT MOST 1048576: true; the input reads as it did. -/
def topOwnEmbedUptoRow : OpenClaim := { program := "ytdlciihkiefckaagreat", sum := "2479f668a20d7f33a23f20cc6dcc2882c9b2374a1ead71f3aaf89102b840dddc", func := "waveport/waveporttop.TopOwnEmbed", spec := "topOwnEmbed", unfollowed := true, recurses := true, named := ["math/bits.overflowError"], apart := false, narrowed := true }
def TopOwnEmbedUptoSaid : Prop := topOwnEmbedUptoRow.holds Tryz.pinned (OpenSpec.upto topOwnEmbedSpec)

/-- 'waveportlaw04.NetworkWaves', WHERE WHAT IT READS IS OF BULK AT MOST 1048576: true; the input reads as it did. -/
def networkWavesUptoRow : OpenClaim := { program := "ytdlciihkiefckaagreat", sum := "2479f668a20d7f33a23f20cc6dcc2882c9b2374a1ead71f3aaf89102b840dddc", func := "waveport/waveportlaw04.NetworkWaves", spec := "networkWaves", unfollowed := true, recurses := true, named := ["math/bits.overflowError"], apart := false, narrowed := true }
def NetworkWavesUptoSaid : Prop := networkWavesUptoRow.holds Tryz.pinned (OpenSpec.upto networkWavesSpec)

/-- 'waveportlaw05.NoisePossible', WHERE WHAT IT READS IS OF BULK AT MOST 1048576: true; the input reads as it did. -/
def noisePossibleUptoRow : OpenClaim := { program := "ytdlciihkiefckaagreat", sum := "2479f668a20d7f33a23f20cc6dcc2882c9b2374a1ead71f3aaf89102b840dddc", func := "waveport/waveportlaw05.NoisePossible", spec := "noisePossible", unfollowed := true, recurses := true, named := ["math/bits.overflowError"], apart := false, narrowed := true }
def NoisePossibleUptoSaid : Prop := noisePossibleUptoRow.holds Tryz.pinned (OpenSpec.upto noisePossibleSpec)

/-- 'waveportlaw05.NoiseThermalLoads', WHERE WHAT IT READS IS OF BULK AT MOST 1048576: true; the input reads as it did. -/
def noiseThermalLoadsUptoRow : OpenClaim := { program := "ytdlciihkiefckaagreat", sum := "2479f668a20d7f33a23f20cc6dcc2882c9b2374a1ead71f3aaf89102b840dddc", func := "waveport/waveportlaw05.NoiseThermalLoads", spec := "noiseThermalLoads", unfollowed := true, recurses := true, named := ["math/bits.overflowError"], apart := false, narrowed := true }
def NoiseThermalLoadsUptoSaid : Prop := noiseThermalLoadsUptoRow.holds Tryz.pinned (OpenSpec.upto noiseThermalLoadsSpec)

/-- 'waveportlaw04.NetworkEmbeds', WHERE WHAT IT READS IS OF BULK AT MOST 1048576: true; the input reads as it did. -/
def networkEmbedsUptoRow : OpenClaim := { program := "ytdlciihkiefckaagreat", sum := "2479f668a20d7f33a23f20cc6dcc2882c9b2374a1ead71f3aaf89102b840dddc", func := "waveport/waveportlaw04.NetworkEmbeds", spec := "networkEmbeds", unfollowed := true, recurses := true, named := ["math/bits.overflowError"], apart := false, narrowed := true }
def NetworkEmbedsUptoSaid : Prop := networkEmbedsUptoRow.holds Tryz.pinned (OpenSpec.upto networkEmbedsSpec)

/-- 'waveportlaw05.NoiseThermal', WHERE WHAT IT READS IS OF BULK AT MOST 1048576: true; the input reads as it did. -/
def noiseThermalUptoRow : OpenClaim := { program := "ytdlciihkiefckaagreat", sum := "2479f668a20d7f33a23f20cc6dcc2882c9b2374a1ead71f3aaf89102b840dddc", func := "waveport/waveportlaw05.NoiseThermal", spec := "noiseThermal", unfollowed := true, recurses := true, named := ["math/bits.overflowError"], apart := false, narrowed := true }
def NoiseThermalUptoSaid : Prop := noiseThermalUptoRow.holds Tryz.pinned (OpenSpec.upto noiseThermalSpec)

/-- 'waveportlaw05.NoiseStacks', WHERE WHAT IT READS IS OF BULK AT MOST 1048576: true; the input reads as it did. -/
def noiseStacksUptoRow : OpenClaim := { program := "ytdlciihkiefckaagreat", sum := "2479f668a20d7f33a23f20cc6dcc2882c9b2374a1ead71f3aaf89102b840dddc", func := "waveport/waveportlaw05.NoiseStacks", spec := "noiseStacks", unfollowed := true, recurses := true, named := ["math/bits.overflowError"], apart := false, narrowed := true }
def NoiseStacksUptoSaid : Prop := noiseStacksUptoRow.holds Tryz.pinned (OpenSpec.upto noiseStacksSpec)

/-- 'waveportlaw05.NoiseRenormalizes', WHERE WHAT IT READS IS OF BULK AT MOST 1048576: true; the input reads as it did. -/
def noiseRenormalizesUptoRow : OpenClaim := { program := "ytdlciihkiefckaagreat", sum := "2479f668a20d7f33a23f20cc6dcc2882c9b2374a1ead71f3aaf89102b840dddc", func := "waveport/waveportlaw05.NoiseRenormalizes", spec := "noiseRenormalizes", unfollowed := true, recurses := true, named := ["math/bits.overflowError"], apart := false, narrowed := true }
def NoiseRenormalizesUptoSaid : Prop := noiseRenormalizesUptoRow.holds Tryz.pinned (OpenSpec.upto noiseRenormalizesSpec)

end Rows
end Go.Proofs.YtdlciihkiefckaaGreat
