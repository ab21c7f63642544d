/-
  No cell of these rows narrows 'for every input' (looked for: loops, veiled, ifaces, maps, wideKeys, modest, calm, conditions, laid).
  DERIVED. THE GIVEN ROWS OF THIS SEAT. 9 by the template 'for every input the law returns true; each argument reads behind the call as it read before'; 0 by the template 'total and deterministic' (their statements: YthcmlodgnfekeaaGreatTotals.lean).
  GIVEN WITH THE SEED: the statements are not yours to turn. If you find one false, say at which input.
  Laid BY PROGRAM, IN A SANDBOX (cutbox-rows.mjs): the forced cells as the released guide's own fill.sh prints them over the translation 71c8e16ea143651e… (all of the seat's roots in one cut). By AI agents, Wed Nov 11 2026. No macro, syntax, notation, axiom, sorry.
-/
import Derived.Test.YthcmlodgnfekeaaGreatChecked
import GoSem.Claim
import GoSem.ClaimJoined
import GoSem.ClaimMapViews
import Derived.JoinedTies
import Derived.KernelRfl
namespace Go.Proofs.YthcmlodgnfekeaaGreat
/- THE CELL 'sum', in the pinned program and in every row, IS THE sha256 OF THE DUMP (.gsa) THAT YthcmlodgnfekeaaGreatProg.lean LOADS. Nothing in Lean hashes anything: it is a label: what it is worth is what the hold of that sum in a sandbox is worth. -/
noncomputable def Tryz.pinned : Pinned := { name := "ythcmlodgnfekeaagreat", sum := "71c8e16ea143651e1e8c600bc72d1a4283ac7b76e48436b66949ff7bb4eaceca", checked := Tryz.checked }
namespace Rows
def none {H : Type} : Left H := { results := [], args := [] }

/-- 'waveportlaw05.NoiseReceivers': WHATEVER THE INPUT: true; the input reads as it did. -/
def noiseReceiversSpec : ChangeSpec := { name := "noiseReceivers", fn := fun _ => fun
  | [d1, d2, d3, d4, d5] => { results := [.lit (.bool true)], args := [d1, d2, d3, d4, d5] }
  | _ => none }
def noiseReceiversRow : OpenClaim := { program := "ythcmlodgnfekeaagreat", sum := "71c8e16ea143651e1e8c600bc72d1a4283ac7b76e48436b66949ff7bb4eaceca", func := "waveport/waveportlaw05.NoiseReceivers", spec := "noiseReceivers", inPlace := ["math.Float32frombits", "math.Float64bits", "math.Float64frombits"], unfollowed := true, recurses := true, named := ["math/bits.overflowError"], plainKeys := false, apart := false }
def NoiseReceiversSaid : Prop := noiseReceiversRow.holds Tryz.pinned (OpenSpec.ofChange noiseReceiversSpec)

/-- ITS FALSE NEIGHBOUR: 'it returns false'. Refute it at one input. -/
def noiseReceiversWrong : ChangeSpec := { name := "noiseReceivers", fn := fun _ => fun
  | [d1, d2, d3, d4, d5] => { results := [.lit (.bool false)], args := [d1, d2, d3, d4, d5] }
  | _ => none }
def NoiseReceiversWrongFalsely : Prop := noiseReceiversRow.holds Tryz.pinned (OpenSpec.ofChange noiseReceiversWrong)

/-- 'waveportlaw05.NoiseLevels': WHATEVER THE INPUT: true; the input reads as it did. -/
def noiseLevelsSpec : ChangeSpec := { name := "noiseLevels", fn := fun _ => fun
  | [d1, d2] => { results := [.lit (.bool true)], args := [d1, d2] }
  | _ => none }
def noiseLevelsRow : OpenClaim := { program := "ythcmlodgnfekeaagreat", sum := "71c8e16ea143651e1e8c600bc72d1a4283ac7b76e48436b66949ff7bb4eaceca", func := "waveport/waveportlaw05.NoiseLevels", spec := "noiseLevels", inPlace := ["math.Float32frombits", "math.Float64bits", "math.Float64frombits"], unfollowed := true, recurses := true, named := ["math/bits.overflowError"], plainKeys := false, apart := false }
def NoiseLevelsSaid : Prop := noiseLevelsRow.holds Tryz.pinned (OpenSpec.ofChange noiseLevelsSpec)

/-- ITS FALSE NEIGHBOUR: 'it returns false'. Refute it at one input. -/
def noiseLevelsWrong : ChangeSpec := { name := "noiseLevels", fn := fun _ => fun
  | [d1, d2] => { results := [.lit (.bool false)], args := [d1, d2] }
  | _ => none }
def NoiseLevelsWrongFalsely : Prop := noiseLevelsRow.holds Tryz.pinned (OpenSpec.ofChange noiseLevelsWrong)

/-- 'waveportlaw05.NoiseCompresses': WHATEVER THE INPUT: true; the input reads as it did. -/
def noiseCompressesSpec : ChangeSpec := { name := "noiseCompresses", fn := fun _ => fun
  | [d1, d2, d3] => { results := [.lit (.bool true)], args := [d1, d2, d3] }
  | _ => none }
def noiseCompressesRow : OpenClaim := { program := "ythcmlodgnfekeaagreat", sum := "71c8e16ea143651e1e8c600bc72d1a4283ac7b76e48436b66949ff7bb4eaceca", func := "waveport/waveportlaw05.NoiseCompresses", spec := "noiseCompresses", inPlace := ["math.Float32frombits", "math.Float64bits", "math.Float64frombits"], unfollowed := true, recurses := true, named := ["math/bits.overflowError"], plainKeys := false, apart := false }
def NoiseCompressesSaid : Prop := noiseCompressesRow.holds Tryz.pinned (OpenSpec.ofChange noiseCompressesSpec)

/-- ITS FALSE NEIGHBOUR: 'it returns false'. Refute it at one input. -/
def noiseCompressesWrong : ChangeSpec := { name := "noiseCompresses", fn := fun _ => fun
  | [d1, d2, d3] => { results := [.lit (.bool false)], args := [d1, d2, d3] }
  | _ => none }
def NoiseCompressesWrongFalsely : Prop := noiseCompressesRow.holds Tryz.pinned (OpenSpec.ofChange noiseCompressesWrong)

/-- 'waveporttop.TopHotCold': WHATEVER THE INPUT: true; the input reads as it did. -/
def topHotColdSpec : ChangeSpec := { name := "topHotCold", fn := fun _ => fun
  | [d1, d2, d3] => { results := [.lit (.bool true)], args := [d1, d2, d3] }
  | _ => none }
def topHotColdRow : OpenClaim := { program := "ythcmlodgnfekeaagreat", sum := "71c8e16ea143651e1e8c600bc72d1a4283ac7b76e48436b66949ff7bb4eaceca", func := "waveport/waveporttop.TopHotCold", spec := "topHotCold", inPlace := ["math.Float64bits", "math.Float64frombits"], unfollowed := true, recurses := true, named := ["math/bits.overflowError"], plainKeys := false, apart := false }
def TopHotColdSaid : Prop := topHotColdRow.holds Tryz.pinned (OpenSpec.ofChange topHotColdSpec)

/-- ITS FALSE NEIGHBOUR: 'it returns false'. Refute it at one input. -/
def topHotColdWrong : ChangeSpec := { name := "topHotCold", fn := fun _ => fun
  | [d1, d2, d3] => { results := [.lit (.bool false)], args := [d1, d2, d3] }
  | _ => none }
def TopHotColdWrongFalsely : Prop := topHotColdRow.holds Tryz.pinned (OpenSpec.ofChange topHotColdWrong)

/-- 'waveportlaw04.NetworkSweeps': WHATEVER THE INPUT: true; the input reads as it did. -/
def networkSweepsSpec : ChangeSpec := { name := "networkSweeps", fn := fun _ => fun
  | [d1, d2, d3, d4, d5] => { results := [.lit (.bool true)], args := [d1, d2, d3, d4, d5] }
  | _ => none }
def networkSweepsRow : OpenClaim := { program := "ythcmlodgnfekeaagreat", sum := "71c8e16ea143651e1e8c600bc72d1a4283ac7b76e48436b66949ff7bb4eaceca", func := "waveport/waveportlaw04.NetworkSweeps", spec := "networkSweeps", unfollowed := true, recurses := true, named := ["math/bits.overflowError"], plainKeys := false, apart := false }
def NetworkSweepsSaid : Prop := networkSweepsRow.holds Tryz.pinned (OpenSpec.ofChange networkSweepsSpec)

/-- ITS FALSE NEIGHBOUR: 'it returns false'. Refute it at one input. -/
def networkSweepsWrong : ChangeSpec := { name := "networkSweeps", fn := fun _ => fun
  | [d1, d2, d3, d4, d5] => { results := [.lit (.bool false)], args := [d1, d2, d3, d4, d5] }
  | _ => none }
def NetworkSweepsWrongFalsely : Prop := networkSweepsRow.holds Tryz.pinned (OpenSpec.ofChange networkSweepsWrong)

/-- 'waveportlaw04.NetworkSweepBack': WHATEVER THE INPUT: true; the input reads as it did. -/
def networkSweepBackSpec : ChangeSpec := { name := "networkSweepBack", fn := fun _ => fun
  | [d1, d2, d3] => { results := [.lit (.bool true)], args := [d1, d2, d3] }
  | _ => none }
def networkSweepBackRow : OpenClaim := { program := "ythcmlodgnfekeaagreat", sum := "71c8e16ea143651e1e8c600bc72d1a4283ac7b76e48436b66949ff7bb4eaceca", func := "waveport/waveportlaw04.NetworkSweepBack", spec := "networkSweepBack", unfollowed := true, recurses := true, named := ["math/bits.overflowError"], plainKeys := false, apart := false }
def NetworkSweepBackSaid : Prop := networkSweepBackRow.holds Tryz.pinned (OpenSpec.ofChange networkSweepBackSpec)

/-- ITS FALSE NEIGHBOUR: 'it returns false'. Refute it at one input. -/
def networkSweepBackWrong : ChangeSpec := { name := "networkSweepBack", fn := fun _ => fun
  | [d1, d2, d3] => { results := [.lit (.bool false)], args := [d1, d2, d3] }
  | _ => none }
def NetworkSweepBackWrongFalsely : Prop := networkSweepBackRow.holds Tryz.pinned (OpenSpec.ofChange networkSweepBackWrong)

/-- 'waveporttop.TopAnalyzer': WHATEVER THE INPUT: true; the input reads as it did. -/
def topAnalyzerSpec : ChangeSpec := { name := "topAnalyzer", fn := fun _ => fun
  | [d1, d2, d3] => { results := [.lit (.bool true)], args := [d1, d2, d3] }
  | _ => none }
def topAnalyzerRow : OpenClaim := { program := "ythcmlodgnfekeaagreat", sum := "71c8e16ea143651e1e8c600bc72d1a4283ac7b76e48436b66949ff7bb4eaceca", func := "waveport/waveporttop.TopAnalyzer", spec := "topAnalyzer", unfollowed := true, recurses := true, named := ["math/bits.overflowError"], plainKeys := false, apart := false }
def TopAnalyzerSaid : Prop := topAnalyzerRow.holds Tryz.pinned (OpenSpec.ofChange topAnalyzerSpec)

/-- ITS FALSE NEIGHBOUR: 'it returns false'. Refute it at one input. -/
def topAnalyzerWrong : ChangeSpec := { name := "topAnalyzer", fn := fun _ => fun
  | [d1, d2, d3] => { results := [.lit (.bool false)], args := [d1, d2, d3] }
  | _ => none }
def TopAnalyzerWrongFalsely : Prop := topAnalyzerRow.holds Tryz.pinned (OpenSpec.ofChange topAnalyzerWrong)

/-- 'waveportlaw05.NoiseProducts': WHATEVER THE INPUT: true; the input reads as it did. -/
def noiseProductsSpec : ChangeSpec := { name := "noiseProducts", fn := fun _ => fun
  | [d1, d2, d3, d4, d5] => { results := [.lit (.bool true)], args := [d1, d2, d3, d4, d5] }
  | _ => none }
def noiseProductsRow : OpenClaim := { program := "ythcmlodgnfekeaagreat", sum := "71c8e16ea143651e1e8c600bc72d1a4283ac7b76e48436b66949ff7bb4eaceca", func := "waveport/waveportlaw05.NoiseProducts", spec := "noiseProducts", unfollowed := true, recurses := true, named := ["math/bits.overflowError"], plainKeys := false, apart := false }
def NoiseProductsSaid : Prop := noiseProductsRow.holds Tryz.pinned (OpenSpec.ofChange noiseProductsSpec)

/-- ITS FALSE NEIGHBOUR: 'it returns false'. Refute it at one input. -/
def noiseProductsWrong : ChangeSpec := { name := "noiseProducts", fn := fun _ => fun
  | [d1, d2, d3, d4, d5] => { results := [.lit (.bool false)], args := [d1, d2, d3, d4, d5] }
  | _ => none }
def NoiseProductsWrongFalsely : Prop := noiseProductsRow.holds Tryz.pinned (OpenSpec.ofChange noiseProductsWrong)

/-- 'waveportlaw05.NoiseMirrors': WHATEVER THE INPUT: true; the input reads as it did. -/
def noiseMirrorsSpec : ChangeSpec := { name := "noiseMirrors", fn := fun _ => fun
  | [d1, d2, d3, d4] => { results := [.lit (.bool true)], args := [d1, d2, d3, d4] }
  | _ => none }
def noiseMirrorsRow : OpenClaim := { program := "ythcmlodgnfekeaagreat", sum := "71c8e16ea143651e1e8c600bc72d1a4283ac7b76e48436b66949ff7bb4eaceca", func := "waveport/waveportlaw05.NoiseMirrors", spec := "noiseMirrors", unfollowed := true, recurses := true, named := ["math/bits.overflowError"], plainKeys := false, apart := false }
def NoiseMirrorsSaid : Prop := noiseMirrorsRow.holds Tryz.pinned (OpenSpec.ofChange noiseMirrorsSpec)

/-- ITS FALSE NEIGHBOUR: 'it returns false'. Refute it at one input. -/
def noiseMirrorsWrong : ChangeSpec := { name := "noiseMirrors", fn := fun _ => fun
  | [d1, d2, d3, d4] => { results := [.lit (.bool false)], args := [d1, d2, d3, d4] }
  | _ => none }
def NoiseMirrorsWrongFalsely : Prop := noiseMirrorsRow.holds Tryz.pinned (OpenSpec.ofChange noiseMirrorsWrong)

/- THE SECOND FORM. 'bulk': how many values and letters a reading holds, each counted each time it is reached (what is shared counts as often as it is met; a slice's spare places count too). A statement '..UptoSaid' is the law's where the arguments, and the package variables that the reading takes, are together of bulk at most 1048576: NARROWER than '..Said'. Prove '..Said' where nothing that the law and all that it calls make is longer than what came in: it says more and counts as full. Else prove '..UptoSaid'. A law counts once. -/
mutual
def uptoBulk {H : Type} : DataW H → Nat
  | .lit (.string bytes) => bytes.length + 1
  | .lit _ => 1
  | .nil => 1
  | .ptr d => uptoBulk d + 1
  | .slice elems spare => uptoBulkAll elems + uptoBulkAll spare + 1
  | .agg parts => uptoBulkAll parts + 1
  | .iface _ d => uptoBulk d + 1
  | .map entries => uptoBulkEntries entries + 1
  | .held _ => 1
def uptoBulkAll {H : Type} : List (DataW H) → Nat
  | [] => 0
  | d :: r => uptoBulk d + uptoBulkAll r
def uptoBulkEntries {H : Type} : List (Lit × DataW H) → Nat
  | [] => 0
  | x :: r => uptoBulkEntry x + uptoBulkEntries r
def uptoBulkEntry {H : Type} : Lit × DataW H → Nat
  | (.string bytes, d) => bytes.length + uptoBulk d + 1
  | (_, d) => uptoBulk d + 1
 end
def uptoSmall : (H : Type) → List (DataW H) → Bool := fun _ ds => decide (uptoBulkAll ds ≤ 1048576)
def OpenSpec.upto (s : _root_.Go.ChangeSpec) : _root_.Go.OpenSpec := { _root_.Go.OpenSpec.ofChange s with cond := some uptoSmall }

/-- 'waveportlaw05.NoiseReceivers', WHERE WHAT IT READS IS OF BULK AT MOST 1048576: true; the input reads as it did. -/
def noiseReceiversUptoRow : OpenClaim := { program := "ythcmlodgnfekeaagreat", sum := "71c8e16ea143651e1e8c600bc72d1a4283ac7b76e48436b66949ff7bb4eaceca", func := "waveport/waveportlaw05.NoiseReceivers", spec := "noiseReceivers", inPlace := ["math.Float32frombits", "math.Float64bits", "math.Float64frombits"], unfollowed := true, recurses := true, named := ["math/bits.overflowError"], plainKeys := false, apart := false, narrowed := true }
def NoiseReceiversUptoSaid : Prop := noiseReceiversUptoRow.holds Tryz.pinned (OpenSpec.upto noiseReceiversSpec)

/-- 'waveportlaw05.NoiseLevels', WHERE WHAT IT READS IS OF BULK AT MOST 1048576: true; the input reads as it did. -/
def noiseLevelsUptoRow : OpenClaim := { program := "ythcmlodgnfekeaagreat", sum := "71c8e16ea143651e1e8c600bc72d1a4283ac7b76e48436b66949ff7bb4eaceca", func := "waveport/waveportlaw05.NoiseLevels", spec := "noiseLevels", inPlace := ["math.Float32frombits", "math.Float64bits", "math.Float64frombits"], unfollowed := true, recurses := true, named := ["math/bits.overflowError"], plainKeys := false, apart := false, narrowed := true }
def NoiseLevelsUptoSaid : Prop := noiseLevelsUptoRow.holds Tryz.pinned (OpenSpec.upto noiseLevelsSpec)

/-- 'waveportlaw05.NoiseCompresses', WHERE WHAT IT READS IS OF BULK AT MOST 1048576: true; the input reads as it did. -/
def noiseCompressesUptoRow : OpenClaim := { program := "ythcmlodgnfekeaagreat", sum := "71c8e16ea143651e1e8c600bc72d1a4283ac7b76e48436b66949ff7bb4eaceca", func := "waveport/waveportlaw05.NoiseCompresses", spec := "noiseCompresses", inPlace := ["math.Float32frombits", "math.Float64bits", "math.Float64frombits"], unfollowed := true, recurses := true, named := ["math/bits.overflowError"], plainKeys := false, apart := false, narrowed := true }
def NoiseCompressesUptoSaid : Prop := noiseCompressesUptoRow.holds Tryz.pinned (OpenSpec.upto noiseCompressesSpec)

/-- 'waveporttop.TopHotCold', WHERE WHAT IT READS IS OF BULK AT MOST 1048576: true; the input reads as it did. -/
def topHotColdUptoRow : OpenClaim := { program := "ythcmlodgnfekeaagreat", sum := "71c8e16ea143651e1e8c600bc72d1a4283ac7b76e48436b66949ff7bb4eaceca", func := "waveport/waveporttop.TopHotCold", spec := "topHotCold", inPlace := ["math.Float64bits", "math.Float64frombits"], unfollowed := true, recurses := true, named := ["math/bits.overflowError"], plainKeys := false, apart := false, narrowed := true }
def TopHotColdUptoSaid : Prop := topHotColdUptoRow.holds Tryz.pinned (OpenSpec.upto topHotColdSpec)

/-- 'waveportlaw04.NetworkSweeps', WHERE WHAT IT READS IS OF BULK AT MOST 1048576: true; the input reads as it did. -/
def networkSweepsUptoRow : OpenClaim := { program := "ythcmlodgnfekeaagreat", sum := "71c8e16ea143651e1e8c600bc72d1a4283ac7b76e48436b66949ff7bb4eaceca", func := "waveport/waveportlaw04.NetworkSweeps", spec := "networkSweeps", unfollowed := true, recurses := true, named := ["math/bits.overflowError"], plainKeys := false, apart := false, narrowed := true }
def NetworkSweepsUptoSaid : Prop := networkSweepsUptoRow.holds Tryz.pinned (OpenSpec.upto networkSweepsSpec)

/-- 'waveportlaw04.NetworkSweepBack', WHERE WHAT IT READS IS OF BULK AT MOST 1048576: true; the input reads as it did. -/
def networkSweepBackUptoRow : OpenClaim := { program := "ythcmlodgnfekeaagreat", sum := "71c8e16ea143651e1e8c600bc72d1a4283ac7b76e48436b66949ff7bb4eaceca", func := "waveport/waveportlaw04.NetworkSweepBack", spec := "networkSweepBack", unfollowed := true, recurses := true, named := ["math/bits.overflowError"], plainKeys := false, apart := false, narrowed := true }
def NetworkSweepBackUptoSaid : Prop := networkSweepBackUptoRow.holds Tryz.pinned (OpenSpec.upto networkSweepBackSpec)

/-- 'waveporttop.TopAnalyzer', WHERE WHAT IT READS IS OF BULK AT MOST 1048576: true; the input reads as it did. -/
def topAnalyzerUptoRow : OpenClaim := { program := "ythcmlodgnfekeaagreat", sum := "71c8e16ea143651e1e8c600bc72d1a4283ac7b76e48436b66949ff7bb4eaceca", func := "waveport/waveporttop.TopAnalyzer", spec := "topAnalyzer", unfollowed := true, recurses := true, named := ["math/bits.overflowError"], plainKeys := false, apart := false, narrowed := true }
def TopAnalyzerUptoSaid : Prop := topAnalyzerUptoRow.holds Tryz.pinned (OpenSpec.upto topAnalyzerSpec)

/-- 'waveportlaw05.NoiseProducts', WHERE WHAT IT READS IS OF BULK AT MOST 1048576: true; the input reads as it did. -/
def noiseProductsUptoRow : OpenClaim := { program := "ythcmlodgnfekeaagreat", sum := "71c8e16ea143651e1e8c600bc72d1a4283ac7b76e48436b66949ff7bb4eaceca", func := "waveport/waveportlaw05.NoiseProducts", spec := "noiseProducts", unfollowed := true, recurses := true, named := ["math/bits.overflowError"], plainKeys := false, apart := false, narrowed := true }
def NoiseProductsUptoSaid : Prop := noiseProductsUptoRow.holds Tryz.pinned (OpenSpec.upto noiseProductsSpec)

/-- 'waveportlaw05.NoiseMirrors', WHERE WHAT IT READS IS OF BULK AT MOST 1048576: true; the input reads as it did. -/
def noiseMirrorsUptoRow : OpenClaim := { program := "ythcmlodgnfekeaagreat", sum := "71c8e16ea143651e1e8c600bc72d1a4283ac7b76e48436b66949ff7bb4eaceca", func := "waveport/waveportlaw05.NoiseMirrors", spec := "noiseMirrors", unfollowed := true, recurses := true, named := ["math/bits.overflowError"], plainKeys := false, apart := false, narrowed := true }
def NoiseMirrorsUptoSaid : Prop := noiseMirrorsUptoRow.holds Tryz.pinned (OpenSpec.upto noiseMirrorsSpec)

end Rows
end Go.Proofs.YthcmlodgnfekeaaGreat
