/-
  No cell of these rows narrows 'for every input' (looked for: loops, veiled, ifaces, maps, wideKeys, modest, calm, conditions, laid).
  DERIVED. THE GIVEN ROWS OF THIS SEAT. 5 by the template 'for every input the law returns true; each argument reads behind the call as it read before'; 0 by the template 'total and deterministic' (their statements: YtcobkideokljfaaTotals.lean).
  GIVEN WITH THE SEED: the statements are not yours to turn. If you find one false, say at which input.
  Laid BY PROGRAM, IN A SANDBOX (cutbox-rows.mjs): the forced cells as the released guide's own fill.sh prints them over the translation 08b35c44bd676973… (all of the seat's roots in one cut). By AI agents, Wed Nov 11 2026. No macro, syntax, notation, axiom, sorry.
-/
import Derived.Test.YtcobkideokljfaaChecked
import GoSem.Claim
import GoSem.ClaimJoined
import GoSem.ClaimMapViews
import Derived.JoinedTies
import Derived.KernelRfl
namespace Go.Proofs.Ytcobkideokljfaa
/- THE CELL 'sum', in the pinned program and in every row, IS THE sha256 OF THE DUMP (.gsa) THAT YtcobkideokljfaaProg.lean LOADS. Nothing in Lean hashes anything: it is a label: what it is worth is what the hold of that sum in a sandbox is worth. -/
noncomputable def Try.pinned : Pinned := { name := "ytcobkideokljfaa", sum := "08b35c44bd676973ae389b7f5e60b614f31c9771f027e296b78446d794a015b8", checked := Try.checked }
namespace Rows
def none {H : Type} : Left H := { results := [], args := [] }

/-- 'paybooklaw07.PlateSafe': WHATEVER THE INPUT: true; the input reads as it did. -/
def plateSafeSpec : ChangeSpec := { name := "plateSafe", fn := fun _ => fun
  | [d1, d2, d3] => { results := [.lit (.bool true)], args := [d1, d2, d3] }
  | _ => none }
def plateSafeRow : OpenClaim := { program := "ytcobkideokljfaa", sum := "08b35c44bd676973ae389b7f5e60b614f31c9771f027e296b78446d794a015b8", func := "paybook/paybooklaw07.PlateSafe", spec := "plateSafe", apart := false }
def PlateSafeSaid : Prop := plateSafeRow.holds Try.pinned (OpenSpec.ofChange plateSafeSpec)

/-- ITS FALSE NEIGHBOUR: 'it returns false'. Refute it at one input. -/
def plateSafeWrong : ChangeSpec := { name := "plateSafe", fn := fun _ => fun
  | [d1, d2, d3] => { results := [.lit (.bool false)], args := [d1, d2, d3] }
  | _ => none }
def PlateSafeWrongFalsely : Prop := plateSafeRow.holds Try.pinned (OpenSpec.ofChange plateSafeWrong)

/-- 'paybooklaw07.PlateTorn': WHATEVER THE INPUT: true; the input reads as it did. -/
def plateTornSpec : ChangeSpec := { name := "plateTorn", fn := fun _ => fun
  | [d1, d2, d3, d4] => { results := [.lit (.bool true)], args := [d1, d2, d3, d4] }
  | _ => none }
def plateTornRow : OpenClaim := { program := "ytcobkideokljfaa", sum := "08b35c44bd676973ae389b7f5e60b614f31c9771f027e296b78446d794a015b8", func := "paybook/paybooklaw07.PlateTorn", spec := "plateTorn", apart := false }
def PlateTornSaid : Prop := plateTornRow.holds Try.pinned (OpenSpec.ofChange plateTornSpec)

/-- ITS FALSE NEIGHBOUR: 'it returns false'. Refute it at one input. -/
def plateTornWrong : ChangeSpec := { name := "plateTorn", fn := fun _ => fun
  | [d1, d2, d3, d4] => { results := [.lit (.bool false)], args := [d1, d2, d3, d4] }
  | _ => none }
def PlateTornWrongFalsely : Prop := plateTornRow.holds Try.pinned (OpenSpec.ofChange plateTornWrong)

/-- 'paybooklaw07.PlateSame': WHATEVER THE INPUT: true; the input reads as it did. -/
def plateSameSpec : ChangeSpec := { name := "plateSame", fn := fun _ => fun
  | [d1, d2, d3, d4, d5] => { results := [.lit (.bool true)], args := [d1, d2, d3, d4, d5] }
  | _ => none }
def plateSameRow : OpenClaim := { program := "ytcobkideokljfaa", sum := "08b35c44bd676973ae389b7f5e60b614f31c9771f027e296b78446d794a015b8", func := "paybook/paybooklaw07.PlateSame", spec := "plateSame", apart := false }
def PlateSameSaid : Prop := plateSameRow.holds Try.pinned (OpenSpec.ofChange plateSameSpec)

/-- ITS FALSE NEIGHBOUR: 'it returns false'. Refute it at one input. -/
def plateSameWrong : ChangeSpec := { name := "plateSame", fn := fun _ => fun
  | [d1, d2, d3, d4, d5] => { results := [.lit (.bool false)], args := [d1, d2, d3, d4, d5] }
  | _ => none }
def PlateSameWrongFalsely : Prop := plateSameRow.holds Try.pinned (OpenSpec.ofChange plateSameWrong)

/-- 'paybooklaw07.PlatePlays': WHATEVER THE INPUT: true; the input reads as it did. -/
def platePlaysSpec : ChangeSpec := { name := "platePlays", fn := fun _ => fun
  | [d1, d2] => { results := [.lit (.bool true)], args := [d1, d2] }
  | _ => none }
def platePlaysRow : OpenClaim := { program := "ytcobkideokljfaa", sum := "08b35c44bd676973ae389b7f5e60b614f31c9771f027e296b78446d794a015b8", func := "paybook/paybooklaw07.PlatePlays", spec := "platePlays", apart := false }
def PlatePlaysSaid : Prop := platePlaysRow.holds Try.pinned (OpenSpec.ofChange platePlaysSpec)

/-- ITS FALSE NEIGHBOUR: 'it returns false'. Refute it at one input. -/
def platePlaysWrong : ChangeSpec := { name := "platePlays", fn := fun _ => fun
  | [d1, d2] => { results := [.lit (.bool false)], args := [d1, d2] }
  | _ => none }
def PlatePlaysWrongFalsely : Prop := platePlaysRow.holds Try.pinned (OpenSpec.ofChange platePlaysWrong)

/-- 'paybooklaw07.PlateNil': WHATEVER THE INPUT: true; the input reads as it did. -/
def plateNilSpec : ChangeSpec := { name := "plateNil", fn := fun _ => fun
  | [d1, d2, d3] => { results := [.lit (.bool true)], args := [d1, d2, d3] }
  | _ => none }
def plateNilRow : OpenClaim := { program := "ytcobkideokljfaa", sum := "08b35c44bd676973ae389b7f5e60b614f31c9771f027e296b78446d794a015b8", func := "paybook/paybooklaw07.PlateNil", spec := "plateNil", apart := false }
def PlateNilSaid : Prop := plateNilRow.holds Try.pinned (OpenSpec.ofChange plateNilSpec)

/-- ITS FALSE NEIGHBOUR: 'it returns false'. Refute it at one input. -/
def plateNilWrong : ChangeSpec := { name := "plateNil", fn := fun _ => fun
  | [d1, d2, d3] => { results := [.lit (.bool false)], args := [d1, d2, d3] }
  | _ => none }
def PlateNilWrongFalsely : Prop := plateNilRow.holds Try.pinned (OpenSpec.ofChange plateNilWrong)

/- THE SECOND FORM. 'bulk': how many values and letters a reading holds, each counted each time it is reached (what is shared counts as often as it is met; a slice's spare places count too). A statement '..UptoSaid' is the law's where the arguments, and the package variables that the reading takes, are together of bulk at most 1048576: NARROWER than '..Said'. Prove '..Said' where nothing that the law and all that it calls make is longer than what came in: it says more and counts as full. Else prove '..UptoSaid'. A law counts once. -/
mutual
def uptoBulk {H : Type} : DataW H → Nat
  | .lit (.string bytes) => bytes.length + 1
  | .lit _ => 1
  | .nil => 1
  | .ptr d => uptoBulk d + 1
  | .slice elems spare => uptoBulkAll elems + uptoBulkAll spare + 1
  | .agg parts => uptoBulkAll parts + 1
  | .iface _ d => uptoBulk d + 1
  | .map entries => uptoBulkEntries entries + 1
  | .held _ => 1
def uptoBulkAll {H : Type} : List (DataW H) → Nat
  | [] => 0
  | d :: r => uptoBulk d + uptoBulkAll r
def uptoBulkEntries {H : Type} : List (Lit × DataW H) → Nat
  | [] => 0
  | x :: r => uptoBulkEntry x + uptoBulkEntries r
def uptoBulkEntry {H : Type} : Lit × DataW H → Nat
  | (.string bytes, d) => bytes.length + uptoBulk d + 1
  | (_, d) => uptoBulk d + 1
 end
def uptoSmall : (H : Type) → List (DataW H) → Bool := fun _ ds => decide (uptoBulkAll ds ≤ 1048576)
def OpenSpec.upto (s : _root_.Go.ChangeSpec) : _root_.Go.OpenSpec := { _root_.Go.OpenSpec.ofChange s with cond := some uptoSmall }

/-- 'paybooklaw07.PlateSafe', WHERE WHAT IT READS IS OF BULK AT MOST 1048576: true; the input reads as it did. -/
def plateSafeUptoRow : OpenClaim := { program := "ytcobkideokljfaa", sum := "08b35c44bd676973ae389b7f5e60b614f31c9771f027e296b78446d794a015b8", func := "paybook/paybooklaw07.PlateSafe", spec := "plateSafe", apart := false, narrowed := true }
def PlateSafeUptoSaid : Prop := plateSafeUptoRow.holds Try.pinned (OpenSpec.upto plateSafeSpec)

/-- 'paybooklaw07.PlateTorn', WHERE WHAT IT READS IS OF BULK AT MOST 1048576: true; the input reads as it did. -/
def plateTornUptoRow : OpenClaim := { program := "ytcobkideokljfaa", sum := "08b35c44bd676973ae389b7f5e60b614f31c9771f027e296b78446d794a015b8", func := "paybook/paybooklaw07.PlateTorn", spec := "plateTorn", apart := false, narrowed := true }
def PlateTornUptoSaid : Prop := plateTornUptoRow.holds Try.pinned (OpenSpec.upto plateTornSpec)

/-- 'paybooklaw07.PlateSame', WHERE WHAT IT READS IS OF BULK AT MOST 1048576: true; the input reads as it did. -/
def plateSameUptoRow : OpenClaim := { program := "ytcobkideokljfaa", sum := "08b35c44bd676973ae389b7f5e60b614f31c9771f027e296b78446d794a015b8", func := "paybook/paybooklaw07.PlateSame", spec := "plateSame", apart := false, narrowed := true }
def PlateSameUptoSaid : Prop := plateSameUptoRow.holds Try.pinned (OpenSpec.upto plateSameSpec)

/-- 'paybooklaw07.PlatePlays', WHERE WHAT IT READS IS OF BULK AT MOST 1048576: true; the input reads as it did. -/
def platePlaysUptoRow : OpenClaim := { program := "ytcobkideokljfaa", sum := "08b35c44bd676973ae389b7f5e60b614f31c9771f027e296b78446d794a015b8", func := "paybook/paybooklaw07.PlatePlays", spec := "platePlays", apart := false, narrowed := true }
def PlatePlaysUptoSaid : Prop := platePlaysUptoRow.holds Try.pinned (OpenSpec.upto platePlaysSpec)

/-- 'paybooklaw07.PlateNil', WHERE WHAT IT READS IS OF BULK AT MOST 1048576: true; the input reads as it did. -/
def plateNilUptoRow : OpenClaim := { program := "ytcobkideokljfaa", sum := "08b35c44bd676973ae389b7f5e60b614f31c9771f027e296b78446d794a015b8", func := "paybook/paybooklaw07.PlateNil", spec := "plateNil", apart := false, narrowed := true }
def PlateNilUptoSaid : Prop := plateNilUptoRow.holds Try.pinned (OpenSpec.upto plateNilSpec)

end Rows
end Go.Proofs.Ytcobkideokljfaa
