/-
  No cell of these rows narrows 'for every input' (looked for: loops, veiled, ifaces, maps, wideKeys, modest, calm, conditions, laid).
  DERIVED. THE GIVEN ROWS OF THIS SEAT. 6 by the template 'for every input the law returns true; each argument reads behind the call as it read before'; 0 by the template 'total and deterministic' (their statements: YtanklkbggjchfaaTotals.lean).
  GIVEN WITH THE SEED: the statements are not yours to turn. If you find one false, say at which input.
  Laid BY PROGRAM, IN A SANDBOX (cutbox-rows.mjs): the forced cells as the released guide's own fill.sh prints them over the translation caa855dda9b7b666… (all of the seat's roots in one cut). By AI agents, Wed Nov 11 2026. No macro, syntax, notation, axiom, sorry.
-/
import Derived.Test.YtanklkbggjchfaaChecked
import GoSem.Claim
import GoSem.ClaimJoined
import GoSem.ClaimMapViews
import Derived.JoinedTies
import Derived.KernelRfl
namespace Go.Proofs.Ytanklkbggjchfaa
/- THE CELL 'sum', in the pinned program and in every row, IS THE sha256 OF THE DUMP (.gsa) THAT YtanklkbggjchfaaProg.lean LOADS. Nothing in Lean hashes anything: it is a label: what it is worth is what the hold of that sum in a sandbox is worth. -/
noncomputable def Try.pinned : Pinned := { name := "ytanklkbggjchfaa", sum := "caa855dda9b7b6665454e1673e2984560e13df194f518505602a4a0c574ad9c6", checked := Try.checked }
namespace Rows
def none {H : Type} : Left H := { results := [], args := [] }

/-- 'paybooklaw04.RateRights': WHATEVER THE INPUT: true; the input reads as it did. -/
def rateRightsSpec : ChangeSpec := { name := "rateRights", fn := fun _ => fun
  | [d1, d2] => { results := [.lit (.bool true)], args := [d1, d2] }
  | _ => none }
def rateRightsRow : OpenClaim := { program := "ytanklkbggjchfaa", sum := "caa855dda9b7b6665454e1673e2984560e13df194f518505602a4a0c574ad9c6", func := "paybook/paybooklaw04.RateRights", spec := "rateRights", inPlace := ["math.Float64frombits", "math.Float64bits"], apart := false }
def RateRightsSaid : Prop := rateRightsRow.holds Try.pinned (OpenSpec.ofChange rateRightsSpec)

/-- ITS FALSE NEIGHBOUR: 'it returns false'. Refute it at one input. -/
def rateRightsWrong : ChangeSpec := { name := "rateRights", fn := fun _ => fun
  | [d1, d2] => { results := [.lit (.bool false)], args := [d1, d2] }
  | _ => none }
def RateRightsWrongFalsely : Prop := rateRightsRow.holds Try.pinned (OpenSpec.ofChange rateRightsWrong)

/-- 'paybooklaw04.RateWholes': WHATEVER THE INPUT: true; the input reads as it did. -/
def rateWholesSpec : ChangeSpec := { name := "rateWholes", fn := fun _ => fun
  | [d1, d2, d3] => { results := [.lit (.bool true)], args := [d1, d2, d3] }
  | _ => none }
def rateWholesRow : OpenClaim := { program := "ytanklkbggjchfaa", sum := "caa855dda9b7b6665454e1673e2984560e13df194f518505602a4a0c574ad9c6", func := "paybook/paybooklaw04.RateWholes", spec := "rateWholes", inPlace := ["math.Float64bits", "math.Float64frombits"], apart := false }
def RateWholesSaid : Prop := rateWholesRow.holds Try.pinned (OpenSpec.ofChange rateWholesSpec)

/-- ITS FALSE NEIGHBOUR: 'it returns false'. Refute it at one input. -/
def rateWholesWrong : ChangeSpec := { name := "rateWholes", fn := fun _ => fun
  | [d1, d2, d3] => { results := [.lit (.bool false)], args := [d1, d2, d3] }
  | _ => none }
def RateWholesWrongFalsely : Prop := rateWholesRow.holds Try.pinned (OpenSpec.ofChange rateWholesWrong)

/-- 'paybooklaw04.RateGrows': WHATEVER THE INPUT: true; the input reads as it did. -/
def rateGrowsSpec : ChangeSpec := { name := "rateGrows", fn := fun _ => fun
  | [d1, d2, d3, d4] => { results := [.lit (.bool true)], args := [d1, d2, d3, d4] }
  | _ => none }
def rateGrowsRow : OpenClaim := { program := "ytanklkbggjchfaa", sum := "caa855dda9b7b6665454e1673e2984560e13df194f518505602a4a0c574ad9c6", func := "paybook/paybooklaw04.RateGrows", spec := "rateGrows", inPlace := ["math.Float64frombits", "math.Float64bits"], apart := false }
def RateGrowsSaid : Prop := rateGrowsRow.holds Try.pinned (OpenSpec.ofChange rateGrowsSpec)

/-- ITS FALSE NEIGHBOUR: 'it returns false'. Refute it at one input. -/
def rateGrowsWrong : ChangeSpec := { name := "rateGrows", fn := fun _ => fun
  | [d1, d2, d3, d4] => { results := [.lit (.bool false)], args := [d1, d2, d3, d4] }
  | _ => none }
def RateGrowsWrongFalsely : Prop := rateGrowsRow.holds Try.pinned (OpenSpec.ofChange rateGrowsWrong)

/-- 'paybooklaw04.RateOnes': WHATEVER THE INPUT: true; the input reads as it did. -/
def rateOnesSpec : ChangeSpec := { name := "rateOnes", fn := fun _ => fun
  | [d] => { results := [.lit (.bool true)], args := [d] }
  | _ => none }
def rateOnesRow : OpenClaim := { program := "ytanklkbggjchfaa", sum := "caa855dda9b7b6665454e1673e2984560e13df194f518505602a4a0c574ad9c6", func := "paybook/paybooklaw04.RateOnes", spec := "rateOnes", inPlace := ["math.Float64bits", "math.Float64frombits"], apart := false }
def RateOnesSaid : Prop := rateOnesRow.holds Try.pinned (OpenSpec.ofChange rateOnesSpec)

/-- ITS FALSE NEIGHBOUR: 'it returns false'. Refute it at one input. -/
def rateOnesWrong : ChangeSpec := { name := "rateOnes", fn := fun _ => fun
  | [d] => { results := [.lit (.bool false)], args := [d] }
  | _ => none }
def RateOnesWrongFalsely : Prop := rateOnesRow.holds Try.pinned (OpenSpec.ofChange rateOnesWrong)

/-- 'paybooklaw04.RatePlain': WHATEVER THE INPUT: true; the input reads as it did. -/
def ratePlainSpec : ChangeSpec := { name := "ratePlain", fn := fun _ => fun
  | [d] => { results := [.lit (.bool true)], args := [d] }
  | _ => none }
def ratePlainRow : OpenClaim := { program := "ytanklkbggjchfaa", sum := "caa855dda9b7b6665454e1673e2984560e13df194f518505602a4a0c574ad9c6", func := "paybook/paybooklaw04.RatePlain", spec := "ratePlain", inPlace := ["math.Float64frombits", "math.Float64bits"], apart := false }
def RatePlainSaid : Prop := ratePlainRow.holds Try.pinned (OpenSpec.ofChange ratePlainSpec)

/-- ITS FALSE NEIGHBOUR: 'it returns false'. Refute it at one input. -/
def ratePlainWrong : ChangeSpec := { name := "ratePlain", fn := fun _ => fun
  | [d] => { results := [.lit (.bool false)], args := [d] }
  | _ => none }
def RatePlainWrongFalsely : Prop := ratePlainRow.holds Try.pinned (OpenSpec.ofChange ratePlainWrong)

/-- 'paybooklaw04.RateFloors': WHATEVER THE INPUT: true; the input reads as it did. -/
def rateFloorsSpec : ChangeSpec := { name := "rateFloors", fn := fun _ => fun
  | [d1, d2, d3] => { results := [.lit (.bool true)], args := [d1, d2, d3] }
  | _ => none }
def rateFloorsRow : OpenClaim := { program := "ytanklkbggjchfaa", sum := "caa855dda9b7b6665454e1673e2984560e13df194f518505602a4a0c574ad9c6", func := "paybook/paybooklaw04.RateFloors", spec := "rateFloors", inPlace := ["math.Float64bits", "math.Float64frombits"], apart := false }
def RateFloorsSaid : Prop := rateFloorsRow.holds Try.pinned (OpenSpec.ofChange rateFloorsSpec)

/-- ITS FALSE NEIGHBOUR: 'it returns false'. Refute it at one input. -/
def rateFloorsWrong : ChangeSpec := { name := "rateFloors", fn := fun _ => fun
  | [d1, d2, d3] => { results := [.lit (.bool false)], args := [d1, d2, d3] }
  | _ => none }
def RateFloorsWrongFalsely : Prop := rateFloorsRow.holds Try.pinned (OpenSpec.ofChange rateFloorsWrong)

/- THE SECOND FORM. 'bulk': how many values and letters a reading holds, each counted each time it is reached (what is shared counts as often as it is met; a slice's spare places count too). A statement '..UptoSaid' is the law's where the arguments, and the package variables that the reading takes, are together of bulk at most 1048576: NARROWER than '..Said'. Prove '..Said' where nothing that the law and all that it calls make is longer than what came in: it says more and counts as full. Else prove '..UptoSaid'. A law counts once. -/
mutual
def uptoBulk {H : Type} : DataW H → Nat
  | .lit (.string bytes) => bytes.length + 1
  | .lit _ => 1
  | .nil => 1
  | .ptr d => uptoBulk d + 1
  | .slice elems spare => uptoBulkAll elems + uptoBulkAll spare + 1
  | .agg parts => uptoBulkAll parts + 1
  | .iface _ d => uptoBulk d + 1
  | .map entries => uptoBulkEntries entries + 1
  | .held _ => 1
def uptoBulkAll {H : Type} : List (DataW H) → Nat
  | [] => 0
  | d :: r => uptoBulk d + uptoBulkAll r
def uptoBulkEntries {H : Type} : List (Lit × DataW H) → Nat
  | [] => 0
  | x :: r => uptoBulkEntry x + uptoBulkEntries r
def uptoBulkEntry {H : Type} : Lit × DataW H → Nat
  | (.string bytes, d) => bytes.length + uptoBulk d + 1
  | (_, d) => uptoBulk d + 1
 end
def uptoSmall : (H : Type) → List (DataW H) → Bool := fun _ ds => decide (uptoBulkAll ds ≤ 1048576)
def OpenSpec.upto (s : _root_.Go.ChangeSpec) : _root_.Go.OpenSpec := { _root_.Go.OpenSpec.ofChange s with cond := some uptoSmall }

/-- 'paybooklaw04.RateRights', WHERE WHAT IT READS IS OF BULK AT MOST 1048576: true; the input reads as it did. -/
def rateRightsUptoRow : OpenClaim := { program := "ytanklkbggjchfaa", sum := "caa855dda9b7b6665454e1673e2984560e13df194f518505602a4a0c574ad9c6", func := "paybook/paybooklaw04.RateRights", spec := "rateRights", inPlace := ["math.Float64frombits", "math.Float64bits"], apart := false, narrowed := true }
def RateRightsUptoSaid : Prop := rateRightsUptoRow.holds Try.pinned (OpenSpec.upto rateRightsSpec)

/-- 'paybooklaw04.RateWholes', WHERE WHAT IT READS IS OF BULK AT MOST 1048576: true; the input reads as it did. -/
def rateWholesUptoRow : OpenClaim := { program := "ytanklkbggjchfaa", sum := "caa855dda9b7b6665454e1673e2984560e13df194f518505602a4a0c574ad9c6", func := "paybook/paybooklaw04.RateWholes", spec := "rateWholes", inPlace := ["math.Float64bits", "math.Float64frombits"], apart := false, narrowed := true }
def RateWholesUptoSaid : Prop := rateWholesUptoRow.holds Try.pinned (OpenSpec.upto rateWholesSpec)

/-- 'paybooklaw04.RateGrows', WHERE WHAT IT READS IS OF BULK AT MOST 1048576: true; the input reads as it did. -/
def rateGrowsUptoRow : OpenClaim := { program := "ytanklkbggjchfaa", sum := "caa855dda9b7b6665454e1673e2984560e13df194f518505602a4a0c574ad9c6", func := "paybook/paybooklaw04.RateGrows", spec := "rateGrows", inPlace := ["math.Float64frombits", "math.Float64bits"], apart := false, narrowed := true }
def RateGrowsUptoSaid : Prop := rateGrowsUptoRow.holds Try.pinned (OpenSpec.upto rateGrowsSpec)

/-- 'paybooklaw04.RateOnes', WHERE WHAT IT READS IS OF BULK AT MOST 1048576: true; the input reads as it did. -/
def rateOnesUptoRow : OpenClaim := { program := "ytanklkbggjchfaa", sum := "caa855dda9b7b6665454e1673e2984560e13df194f518505602a4a0c574ad9c6", func := "paybook/paybooklaw04.RateOnes", spec := "rateOnes", inPlace := ["math.Float64bits", "math.Float64frombits"], apart := false, narrowed := true }
def RateOnesUptoSaid : Prop := rateOnesUptoRow.holds Try.pinned (OpenSpec.upto rateOnesSpec)

/-- 'paybooklaw04.RatePlain', WHERE WHAT IT READS IS OF BULK AT MOST 1048576: true; the input reads as it did. -/
def ratePlainUptoRow : OpenClaim := { program := "ytanklkbggjchfaa", sum := "caa855dda9b7b6665454e1673e2984560e13df194f518505602a4a0c574ad9c6", func := "paybook/paybooklaw04.RatePlain", spec := "ratePlain", inPlace := ["math.Float64frombits", "math.Float64bits"], apart := false, narrowed := true }
def RatePlainUptoSaid : Prop := ratePlainUptoRow.holds Try.pinned (OpenSpec.upto ratePlainSpec)

/-- 'paybooklaw04.RateFloors', WHERE WHAT IT READS IS OF BULK AT MOST 1048576: true; the input reads as it did. -/
def rateFloorsUptoRow : OpenClaim := { program := "ytanklkbggjchfaa", sum := "caa855dda9b7b6665454e1673e2984560e13df194f518505602a4a0c574ad9c6", func := "paybook/paybooklaw04.RateFloors", spec := "rateFloors", inPlace := ["math.Float64bits", "math.Float64frombits"], apart := false, narrowed := true }
def RateFloorsUptoSaid : Prop := rateFloorsUptoRow.holds Try.pinned (OpenSpec.upto rateFloorsSpec)

end Rows
end Go.Proofs.Ytanklkbggjchfaa
