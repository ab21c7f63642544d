/-
  No cell of these rows narrows 'for every input' (looked for: loops, veiled, ifaces, maps, wideKeys, modest, calm, conditions, laid).
  DERIVED. THE GIVEN ROWS OF THIS SEAT. 12 by the template 'for every input the law returns true; each argument reads behind the call as it read before'; 0 by the template 'total and deterministic' (their statements: YteohomnhncjcnaaGreatTotals.lean).
  GIVEN WITH THE SEED: the statements are not yours to turn. If you find one false, say at which input.
  Laid BY PROGRAM, IN A SANDBOX (cutbox-rows.mjs): the forced cells as the released guide's own fill.sh prints them over the translation f75df2809f5d70a9… (all of the seat's roots in one cut). By AI agents, Wed Nov 11 2026. No macro, syntax, notation, axiom, sorry.
-/
import Derived.Test.YteohomnhncjcnaaGreatChecked
import GoSem.Claim
import GoSem.ClaimJoined
import GoSem.ClaimMapViews
import Derived.JoinedTies
import Derived.KernelRfl
namespace Go.Proofs.YteohomnhncjcnaaGreat
/- THE CELL 'sum', in the pinned program and in every row, IS THE sha256 OF THE DUMP (.gsa) THAT YteohomnhncjcnaaGreatProg.lean LOADS. Nothing in Lean hashes anything: it is a label: what it is worth is what the hold of that sum in a sandbox is worth. -/
noncomputable def Tryz.pinned : Pinned := { name := "yteohomnhncjcnaagreat", sum := "f75df2809f5d70a9d9f5bdd758cdafa69467d1e8f3f88708ed934de4e555b7dd", checked := Tryz.checked }
namespace Rows
def none {H : Type} : Left H := { results := [], args := [] }

/-- 'waveportlaw05.NoiseJoins': WHATEVER THE INPUT: true; the input reads as it did. -/
def noiseJoinsSpec : ChangeSpec := { name := "noiseJoins", fn := fun _ => fun
  | [d1, d2] => { results := [.lit (.bool true)], args := [d1, d2] }
  | _ => none }
def noiseJoinsRow : OpenClaim := { program := "yteohomnhncjcnaagreat", sum := "f75df2809f5d70a9d9f5bdd758cdafa69467d1e8f3f88708ed934de4e555b7dd", func := "waveport/waveportlaw05.NoiseJoins", spec := "noiseJoins", unfollowed := true, recurses := true, named := ["math/bits.overflowError"], apart := false }
def NoiseJoinsSaid : Prop := noiseJoinsRow.holds Tryz.pinned (OpenSpec.ofChange noiseJoinsSpec)

/-- ITS FALSE NEIGHBOUR: 'it returns false'. Refute it at one input. -/
def noiseJoinsWrong : ChangeSpec := { name := "noiseJoins", fn := fun _ => fun
  | [d1, d2] => { results := [.lit (.bool false)], args := [d1, d2] }
  | _ => none }
def NoiseJoinsWrongFalsely : Prop := noiseJoinsRow.holds Tryz.pinned (OpenSpec.ofChange noiseJoinsWrong)

/-- 'waveportlaw04.NetworkEmbeds': WHATEVER THE INPUT: true; the input reads as it did. -/
def networkEmbedsSpec : ChangeSpec := { name := "networkEmbeds", fn := fun _ => fun
  | [d1, d2, d3] => { results := [.lit (.bool true)], args := [d1, d2, d3] }
  | _ => none }
def networkEmbedsRow : OpenClaim := { program := "yteohomnhncjcnaagreat", sum := "f75df2809f5d70a9d9f5bdd758cdafa69467d1e8f3f88708ed934de4e555b7dd", func := "waveport/waveportlaw04.NetworkEmbeds", spec := "networkEmbeds", unfollowed := true, recurses := true, named := ["math/bits.overflowError"], apart := false }
def NetworkEmbedsSaid : Prop := networkEmbedsRow.holds Tryz.pinned (OpenSpec.ofChange networkEmbedsSpec)

/-- ITS FALSE NEIGHBOUR: 'it returns false'. Refute it at one input. -/
def networkEmbedsWrong : ChangeSpec := { name := "networkEmbeds", fn := fun _ => fun
  | [d1, d2, d3] => { results := [.lit (.bool false)], args := [d1, d2, d3] }
  | _ => none }
def NetworkEmbedsWrongFalsely : Prop := networkEmbedsRow.holds Tryz.pinned (OpenSpec.ofChange networkEmbedsWrong)

/-- 'waveportlaw05.NoiseStacks': WHATEVER THE INPUT: true; the input reads as it did. -/
def noiseStacksSpec : ChangeSpec := { name := "noiseStacks", fn := fun _ => fun
  | [d1, d2, d3] => { results := [.lit (.bool true)], args := [d1, d2, d3] }
  | _ => none }
def noiseStacksRow : OpenClaim := { program := "yteohomnhncjcnaagreat", sum := "f75df2809f5d70a9d9f5bdd758cdafa69467d1e8f3f88708ed934de4e555b7dd", func := "waveport/waveportlaw05.NoiseStacks", spec := "noiseStacks", unfollowed := true, recurses := true, named := ["math/bits.overflowError"], apart := false }
def NoiseStacksSaid : Prop := noiseStacksRow.holds Tryz.pinned (OpenSpec.ofChange noiseStacksSpec)

/-- ITS FALSE NEIGHBOUR: 'it returns false'. Refute it at one input. -/
def noiseStacksWrong : ChangeSpec := { name := "noiseStacks", fn := fun _ => fun
  | [d1, d2, d3] => { results := [.lit (.bool false)], args := [d1, d2, d3] }
  | _ => none }
def NoiseStacksWrongFalsely : Prop := noiseStacksRow.holds Tryz.pinned (OpenSpec.ofChange noiseStacksWrong)

/-- 'waveportlaw04.NetworkWaves': WHATEVER THE INPUT: true; the input reads as it did. -/
def networkWavesSpec : ChangeSpec := { name := "networkWaves", fn := fun _ => fun
  | [d1, d2, d3, d4] => { results := [.lit (.bool true)], args := [d1, d2, d3, d4] }
  | _ => none }
def networkWavesRow : OpenClaim := { program := "yteohomnhncjcnaagreat", sum := "f75df2809f5d70a9d9f5bdd758cdafa69467d1e8f3f88708ed934de4e555b7dd", func := "waveport/waveportlaw04.NetworkWaves", spec := "networkWaves", unfollowed := true, recurses := true, named := ["math/bits.overflowError"], apart := false }
def NetworkWavesSaid : Prop := networkWavesRow.holds Tryz.pinned (OpenSpec.ofChange networkWavesSpec)

/-- ITS FALSE NEIGHBOUR: 'it returns false'. Refute it at one input. -/
def networkWavesWrong : ChangeSpec := { name := "networkWaves", fn := fun _ => fun
  | [d1, d2, d3, d4] => { results := [.lit (.bool false)], args := [d1, d2, d3, d4] }
  | _ => none }
def NetworkWavesWrongFalsely : Prop := networkWavesRow.holds Tryz.pinned (OpenSpec.ofChange networkWavesWrong)

/-- 'waveportlaw05.NoiseRenormalizes': WHATEVER THE INPUT: true; the input reads as it did. -/
def noiseRenormalizesSpec : ChangeSpec := { name := "noiseRenormalizes", fn := fun _ => fun
  | [d1, d2] => { results := [.lit (.bool true)], args := [d1, d2] }
  | _ => none }
def noiseRenormalizesRow : OpenClaim := { program := "yteohomnhncjcnaagreat", sum := "f75df2809f5d70a9d9f5bdd758cdafa69467d1e8f3f88708ed934de4e555b7dd", func := "waveport/waveportlaw05.NoiseRenormalizes", spec := "noiseRenormalizes", unfollowed := true, recurses := true, named := ["math/bits.overflowError"], apart := false }
def NoiseRenormalizesSaid : Prop := noiseRenormalizesRow.holds Tryz.pinned (OpenSpec.ofChange noiseRenormalizesSpec)

/-- ITS FALSE NEIGHBOUR: 'it returns false'. Refute it at one input. -/
def noiseRenormalizesWrong : ChangeSpec := { name := "noiseRenormalizes", fn := fun _ => fun
  | [d1, d2] => { results := [.lit (.bool false)], args := [d1, d2] }
  | _ => none }
def NoiseRenormalizesWrongFalsely : Prop := noiseRenormalizesRow.holds Tryz.pinned (OpenSpec.ofChange noiseRenormalizesWrong)

/-- 'waveportlaw05.NoiseAdds': WHATEVER THE INPUT: true; the input reads as it did. -/
def noiseAddsSpec : ChangeSpec := { name := "noiseAdds", fn := fun _ => fun
  | [d1, d2, d3] => { results := [.lit (.bool true)], args := [d1, d2, d3] }
  | _ => none }
def noiseAddsRow : OpenClaim := { program := "yteohomnhncjcnaagreat", sum := "f75df2809f5d70a9d9f5bdd758cdafa69467d1e8f3f88708ed934de4e555b7dd", func := "waveport/waveportlaw05.NoiseAdds", spec := "noiseAdds", unfollowed := true, recurses := true, named := ["math/bits.overflowError"], apart := false }
def NoiseAddsSaid : Prop := noiseAddsRow.holds Tryz.pinned (OpenSpec.ofChange noiseAddsSpec)

/-- ITS FALSE NEIGHBOUR: 'it returns false'. Refute it at one input. -/
def noiseAddsWrong : ChangeSpec := { name := "noiseAdds", fn := fun _ => fun
  | [d1, d2, d3] => { results := [.lit (.bool false)], args := [d1, d2, d3] }
  | _ => none }
def NoiseAddsWrongFalsely : Prop := noiseAddsRow.holds Tryz.pinned (OpenSpec.ofChange noiseAddsWrong)

/-- 'waveportlaw05.NoiseOneByOne': WHATEVER THE INPUT: true; the input reads as it did. -/
def noiseOneByOneSpec : ChangeSpec := { name := "noiseOneByOne", fn := fun _ => fun
  | [d] => { results := [.lit (.bool true)], args := [d] }
  | _ => none }
def noiseOneByOneRow : OpenClaim := { program := "yteohomnhncjcnaagreat", sum := "f75df2809f5d70a9d9f5bdd758cdafa69467d1e8f3f88708ed934de4e555b7dd", func := "waveport/waveportlaw05.NoiseOneByOne", spec := "noiseOneByOne", unfollowed := true, recurses := true, named := ["math/bits.overflowError"], apart := false }
def NoiseOneByOneSaid : Prop := noiseOneByOneRow.holds Tryz.pinned (OpenSpec.ofChange noiseOneByOneSpec)

/-- ITS FALSE NEIGHBOUR: 'it returns false'. Refute it at one input. -/
def noiseOneByOneWrong : ChangeSpec := { name := "noiseOneByOne", fn := fun _ => fun
  | [d] => { results := [.lit (.bool false)], args := [d] }
  | _ => none }
def NoiseOneByOneWrongFalsely : Prop := noiseOneByOneRow.holds Tryz.pinned (OpenSpec.ofChange noiseOneByOneWrong)

/-- 'waveportlaw05.NoiseThermal': WHATEVER THE INPUT: true; the input reads as it did. -/
def noiseThermalSpec : ChangeSpec := { name := "noiseThermal", fn := fun _ => fun
  | [d1, d2, d3, d4] => { results := [.lit (.bool true)], args := [d1, d2, d3, d4] }
  | _ => none }
def noiseThermalRow : OpenClaim := { program := "yteohomnhncjcnaagreat", sum := "f75df2809f5d70a9d9f5bdd758cdafa69467d1e8f3f88708ed934de4e555b7dd", func := "waveport/waveportlaw05.NoiseThermal", spec := "noiseThermal", unfollowed := true, recurses := true, named := ["math/bits.overflowError"], apart := false }
def NoiseThermalSaid : Prop := noiseThermalRow.holds Tryz.pinned (OpenSpec.ofChange noiseThermalSpec)

/-- ITS FALSE NEIGHBOUR: 'it returns false'. Refute it at one input. -/
def noiseThermalWrong : ChangeSpec := { name := "noiseThermal", fn := fun _ => fun
  | [d1, d2, d3, d4] => { results := [.lit (.bool false)], args := [d1, d2, d3, d4] }
  | _ => none }
def NoiseThermalWrongFalsely : Prop := noiseThermalRow.holds Tryz.pinned (OpenSpec.ofChange noiseThermalWrong)

/-- 'waveportlaw05.NoiseThermalLoads': WHATEVER THE INPUT: true; the input reads as it did. -/
def noiseThermalLoadsSpec : ChangeSpec := { name := "noiseThermalLoads", fn := fun _ => fun
  | [d1, d2, d3, d4, d5, d6] => { results := [.lit (.bool true)], args := [d1, d2, d3, d4, d5, d6] }
  | _ => none }
def noiseThermalLoadsRow : OpenClaim := { program := "yteohomnhncjcnaagreat", sum := "f75df2809f5d70a9d9f5bdd758cdafa69467d1e8f3f88708ed934de4e555b7dd", func := "waveport/waveportlaw05.NoiseThermalLoads", spec := "noiseThermalLoads", unfollowed := true, recurses := true, named := ["math/bits.overflowError"], apart := false }
def NoiseThermalLoadsSaid : Prop := noiseThermalLoadsRow.holds Tryz.pinned (OpenSpec.ofChange noiseThermalLoadsSpec)

/-- ITS FALSE NEIGHBOUR: 'it returns false'. Refute it at one input. -/
def noiseThermalLoadsWrong : ChangeSpec := { name := "noiseThermalLoads", fn := fun _ => fun
  | [d1, d2, d3, d4, d5, d6] => { results := [.lit (.bool false)], args := [d1, d2, d3, d4, d5, d6] }
  | _ => none }
def NoiseThermalLoadsWrongFalsely : Prop := noiseThermalLoadsRow.holds Tryz.pinned (OpenSpec.ofChange noiseThermalLoadsWrong)

/-- 'waveportlaw04.NetworkPower': WHATEVER THE INPUT: true; the input reads as it did. -/
def networkPowerSpec : ChangeSpec := { name := "networkPower", fn := fun _ => fun
  | [d] => { results := [.lit (.bool true)], args := [d] }
  | _ => none }
def networkPowerRow : OpenClaim := { program := "yteohomnhncjcnaagreat", sum := "f75df2809f5d70a9d9f5bdd758cdafa69467d1e8f3f88708ed934de4e555b7dd", func := "waveport/waveportlaw04.NetworkPower", spec := "networkPower", unfollowed := true, recurses := true, named := ["math/bits.overflowError"], apart := false }
def NetworkPowerSaid : Prop := networkPowerRow.holds Tryz.pinned (OpenSpec.ofChange networkPowerSpec)

/-- ITS FALSE NEIGHBOUR: 'it returns false'. Refute it at one input. -/
def networkPowerWrong : ChangeSpec := { name := "networkPower", fn := fun _ => fun
  | [d] => { results := [.lit (.bool false)], args := [d] }
  | _ => none }
def NetworkPowerWrongFalsely : Prop := networkPowerRow.holds Tryz.pinned (OpenSpec.ofChange networkPowerWrong)

/-- 'waveportlaw05.NoisePossible': WHATEVER THE INPUT: true; the input reads as it did. -/
def noisePossibleSpec : ChangeSpec := { name := "noisePossible", fn := fun _ => fun
  | [d] => { results := [.lit (.bool true)], args := [d] }
  | _ => none }
def noisePossibleRow : OpenClaim := { program := "yteohomnhncjcnaagreat", sum := "f75df2809f5d70a9d9f5bdd758cdafa69467d1e8f3f88708ed934de4e555b7dd", func := "waveport/waveportlaw05.NoisePossible", spec := "noisePossible", unfollowed := true, recurses := true, named := ["math/bits.overflowError"], apart := false }
def NoisePossibleSaid : Prop := noisePossibleRow.holds Tryz.pinned (OpenSpec.ofChange noisePossibleSpec)

/-- ITS FALSE NEIGHBOUR: 'it returns false'. Refute it at one input. -/
def noisePossibleWrong : ChangeSpec := { name := "noisePossible", fn := fun _ => fun
  | [d] => { results := [.lit (.bool false)], args := [d] }
  | _ => none }
def NoisePossibleWrongFalsely : Prop := noisePossibleRow.holds Tryz.pinned (OpenSpec.ofChange noisePossibleWrong)

/-- 'waveportlaw04.NetworkLossless': WHATEVER THE INPUT: true; the input reads as it did. -/
def networkLosslessSpec : ChangeSpec := { name := "networkLossless", fn := fun _ => fun
  | [d1, d2, d3, d4] => { results := [.lit (.bool true)], args := [d1, d2, d3, d4] }
  | _ => none }
def networkLosslessRow : OpenClaim := { program := "yteohomnhncjcnaagreat", sum := "f75df2809f5d70a9d9f5bdd758cdafa69467d1e8f3f88708ed934de4e555b7dd", func := "waveport/waveportlaw04.NetworkLossless", spec := "networkLossless", unfollowed := true, recurses := true, named := ["math/bits.overflowError"], apart := false }
def NetworkLosslessSaid : Prop := networkLosslessRow.holds Tryz.pinned (OpenSpec.ofChange networkLosslessSpec)

/-- ITS FALSE NEIGHBOUR: 'it returns false'. Refute it at one input. -/
def networkLosslessWrong : ChangeSpec := { name := "networkLossless", fn := fun _ => fun
  | [d1, d2, d3, d4] => { results := [.lit (.bool false)], args := [d1, d2, d3, d4] }
  | _ => none }
def NetworkLosslessWrongFalsely : Prop := networkLosslessRow.holds Tryz.pinned (OpenSpec.ofChange networkLosslessWrong)

/- THE SECOND FORM. 'bulk': how many values and letters a reading holds, each counted each time it is reached (what is shared counts as often as it is met; a slice's spare places count too). A statement '..UptoSaid' is the law's where the arguments, and the package variables that the reading takes, are together of bulk at most 1048576: NARROWER than '..Said'. Prove '..Said' where nothing that the law and all that it calls make is longer than what came in: it says more and counts as full. Else prove '..UptoSaid'. A law counts once. -/
mutual
def uptoBulk {H : Type} : DataW H → Nat
  | .lit (.string bytes) => bytes.length + 1
  | .lit _ => 1
  | .nil => 1
  | .ptr d => uptoBulk d + 1
  | .slice elems spare => uptoBulkAll elems + uptoBulkAll spare + 1
  | .agg parts => uptoBulkAll parts + 1
  | .iface _ d => uptoBulk d + 1
  | .map entries => uptoBulkEntries entries + 1
  | .held _ => 1
def uptoBulkAll {H : Type} : List (DataW H) → Nat
  | [] => 0
  | d :: r => uptoBulk d + uptoBulkAll r
def uptoBulkEntries {H : Type} : List (Lit × DataW H) → Nat
  | [] => 0
  | x :: r => uptoBulkEntry x + uptoBulkEntries r
def uptoBulkEntry {H : Type} : Lit × DataW H → Nat
  | (.string bytes, d) => bytes.length + uptoBulk d + 1
  | (_, d) => uptoBulk d + 1
 end
def uptoSmall : (H : Type) → List (DataW H) → Bool := fun _ ds => decide (uptoBulkAll ds ≤ 1048576)
def OpenSpec.upto (s : _root_.Go.ChangeSpec) : _root_.Go.OpenSpec := { _root_.Go.OpenSpec.ofChange s with cond := some uptoSmall }

/-- 'waveportlaw05.NoiseJoins', WHERE WHAT IT READS IS OF BULK AT MOST 1048576: true; the input reads as it did. -/
def noiseJoinsUptoRow : OpenClaim := { program := "yteohomnhncjcnaagreat", sum := "f75df2809f5d70a9d9f5bdd758cdafa69467d1e8f3f88708ed934de4e555b7dd", func := "waveport/waveportlaw05.NoiseJoins", spec := "noiseJoins", unfollowed := true, recurses := true, named := ["math/bits.overflowError"], apart := false, narrowed := true }
def NoiseJoinsUptoSaid : Prop := noiseJoinsUptoRow.holds Tryz.pinned (OpenSpec.upto noiseJoinsSpec)

/-- 'waveportlaw04.NetworkEmbeds', WHERE WHAT IT READS IS OF BULK AT MOST 1048576: true; the input reads as it did. -/
def networkEmbedsUptoRow : OpenClaim := { program := "yteohomnhncjcnaagreat", sum := "f75df2809f5d70a9d9f5bdd758cdafa69467d1e8f3f88708ed934de4e555b7dd", func := "waveport/waveportlaw04.NetworkEmbeds", spec := "networkEmbeds", unfollowed := true, recurses := true, named := ["math/bits.overflowError"], apart := false, narrowed := true }
def NetworkEmbedsUptoSaid : Prop := networkEmbedsUptoRow.holds Tryz.pinned (OpenSpec.upto networkEmbedsSpec)

/-- 'waveportlaw05.NoiseStacks', WHERE WHAT IT READS IS OF BULK AT MOST 1048576: true; the input reads as it did. -/
def noiseStacksUptoRow : OpenClaim := { program := "yteohomnhncjcnaagreat", sum := "f75df2809f5d70a9d9f5bdd758cdafa69467d1e8f3f88708ed934de4e555b7dd", func := "waveport/waveportlaw05.NoiseStacks", spec := "noiseStacks", unfollowed := true, recurses := true, named := ["math/bits.overflowError"], apart := false, narrowed := true }
def NoiseStacksUptoSaid : Prop := noiseStacksUptoRow.holds Tryz.pinned (OpenSpec.upto noiseStacksSpec)

/-- 'waveportlaw04.NetworkWaves', WHERE WHAT IT READS IS OF BULK AT MOST 1048576: true; the input reads as it did. -/
def networkWavesUptoRow : OpenClaim := { program := "yteohomnhncjcnaagreat", sum := "f75df2809f5d70a9d9f5bdd758cdafa69467d1e8f3f88708ed934de4e555b7dd", func := "waveport/waveportlaw04.NetworkWaves", spec := "networkWaves", unfollowed := true, recurses := true, named := ["math/bits.overflowError"], apart := false, narrowed := true }
def NetworkWavesUptoSaid : Prop := networkWavesUptoRow.holds Tryz.pinned (OpenSpec.upto networkWavesSpec)

/-- 'waveportlaw05.NoiseRenormalizes', WHERE WHAT IT READS IS OF BULK AT MOST 1048576: true; the input reads as it did. -/
def noiseRenormalizesUptoRow : OpenClaim := { program := "yteohomnhncjcnaagreat", sum := "f75df2809f5d70a9d9f5bdd758cdafa69467d1e8f3f88708ed934de4e555b7dd", func := "waveport/waveportlaw05.NoiseRenormalizes", spec := "noiseRenormalizes", unfollowed := true, recurses := true, named := ["math/bits.overflowError"], apart := false, narrowed := true }
def NoiseRenormalizesUptoSaid : Prop := noiseRenormalizesUptoRow.holds Tryz.pinned (OpenSpec.upto noiseRenormalizesSpec)

/-- 'waveportlaw05.NoiseAdds', WHERE WHAT IT READS IS OF BULK AT MOST 1048576: true; the input reads as it did. -/
def noiseAddsUptoRow : OpenClaim := { program := "yteohomnhncjcnaagreat", sum := "f75df2809f5d70a9d9f5bdd758cdafa69467d1e8f3f88708ed934de4e555b7dd", func := "waveport/waveportlaw05.NoiseAdds", spec := "noiseAdds", unfollowed := true, recurses := true, named := ["math/bits.overflowError"], apart := false, narrowed := true }
def NoiseAddsUptoSaid : Prop := noiseAddsUptoRow.holds Tryz.pinned (OpenSpec.upto noiseAddsSpec)

/-- 'waveportlaw05.NoiseOneByOne', WHERE WHAT IT READS IS OF BULK AT MOST 1048576: true; the input reads as it did. -/
def noiseOneByOneUptoRow : OpenClaim := { program := "yteohomnhncjcnaagreat", sum := "f75df2809f5d70a9d9f5bdd758cdafa69467d1e8f3f88708ed934de4e555b7dd", func := "waveport/waveportlaw05.NoiseOneByOne", spec := "noiseOneByOne", unfollowed := true, recurses := true, named := ["math/bits.overflowError"], apart := false, narrowed := true }
def NoiseOneByOneUptoSaid : Prop := noiseOneByOneUptoRow.holds Tryz.pinned (OpenSpec.upto noiseOneByOneSpec)

/-- 'waveportlaw05.NoiseThermal', WHERE WHAT IT READS IS OF BULK AT MOST 1048576: true; the input reads as it did. -/
def noiseThermalUptoRow : OpenClaim := { program := "yteohomnhncjcnaagreat", sum := "f75df2809f5d70a9d9f5bdd758cdafa69467d1e8f3f88708ed934de4e555b7dd", func := "waveport/waveportlaw05.NoiseThermal", spec := "noiseThermal", unfollowed := true, recurses := true, named := ["math/bits.overflowError"], apart := false, narrowed := true }
def NoiseThermalUptoSaid : Prop := noiseThermalUptoRow.holds Tryz.pinned (OpenSpec.upto noiseThermalSpec)

/-- 'waveportlaw05.NoiseThermalLoads', WHERE WHAT IT READS IS OF BULK AT MOST 1048576: true; the input reads as it did. -/
def noiseThermalLoadsUptoRow : OpenClaim := { program := "yteohomnhncjcnaagreat", sum := "f75df2809f5d70a9d9f5bdd758cdafa69467d1e8f3f88708ed934de4e555b7dd", func := "waveport/waveportlaw05.NoiseThermalLoads", spec := "noiseThermalLoads", unfollowed := true, recurses := true, named := ["math/bits.overflowError"], apart := false, narrowed := true }
def NoiseThermalLoadsUptoSaid : Prop := noiseThermalLoadsUptoRow.holds Tryz.pinned (OpenSpec.upto noiseThermalLoadsSpec)

/-- 'waveportlaw04.NetworkPower', WHERE WHAT IT READS IS OF BULK AT MOST 1048576: true; the input reads as it did. -/
def networkPowerUptoRow : OpenClaim := { program := "yteohomnhncjcnaagreat", sum := "f75df2809f5d70a9d9f5bdd758cdafa69467d1e8f3f88708ed934de4e555b7dd", func := "waveport/waveportlaw04.NetworkPower", spec := "networkPower", unfollowed := true, recurses := true, named := ["math/bits.overflowError"], apart := false, narrowed := true }
def NetworkPowerUptoSaid : Prop := networkPowerUptoRow.holds Tryz.pinned (OpenSpec.upto networkPowerSpec)

/-- 'waveportlaw05.NoisePossible', WHERE WHAT IT READS IS OF BULK AT MOST 1048576: true; the input reads as it did. -/
def noisePossibleUptoRow : OpenClaim := { program := "yteohomnhncjcnaagreat", sum := "f75df2809f5d70a9d9f5bdd758cdafa69467d1e8f3f88708ed934de4e555b7dd", func := "waveport/waveportlaw05.NoisePossible", spec := "noisePossible", unfollowed := true, recurses := true, named := ["math/bits.overflowError"], apart := false, narrowed := true }
def NoisePossibleUptoSaid : Prop := noisePossibleUptoRow.holds Tryz.pinned (OpenSpec.upto noisePossibleSpec)

/-- 'waveportlaw04.NetworkLossless', WHERE WHAT IT READS IS OF BULK AT MOST 1048576: true; the input reads as it did. -/
def networkLosslessUptoRow : OpenClaim := { program := "yteohomnhncjcnaagreat", sum := "f75df2809f5d70a9d9f5bdd758cdafa69467d1e8f3f88708ed934de4e555b7dd", func := "waveport/waveportlaw04.NetworkLossless", spec := "networkLossless", unfollowed := true, recurses := true, named := ["math/bits.overflowError"], apart := false, narrowed := true }
def NetworkLosslessUptoSaid : Prop := networkLosslessUptoRow.holds Tryz.pinned (OpenSpec.upto networkLosslessSpec)

end Rows
end Go.Proofs.YteohomnhncjcnaaGreat
