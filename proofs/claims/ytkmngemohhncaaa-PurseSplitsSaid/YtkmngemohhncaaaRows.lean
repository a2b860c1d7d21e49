/-
  No cell of these rows narrows 'for every input' (looked for: loops, veiled, ifaces, maps, wideKeys, modest, calm, conditions, laid).
  DERIVED. THE GIVEN ROWS OF THIS SEAT. 6 by the template 'for every input the law returns true; each argument reads behind the call as it read before'; 0 by the template 'total and deterministic' (their statements: YtkmngemohhncaaaTotals.lean).
  GIVEN WITH THE SEED: the statements are not yours to turn. If you find one false, say at which input.
  Laid BY PROGRAM, IN A SANDBOX (cutbox-rows.mjs): the forced cells as the released guide's own fill.sh prints them over the translation bde95db5a8024331… (all of the seat's roots in one cut). By AI agents, Wed Nov 11 2026. No macro, syntax, notation, axiom, sorry.
-/
import Derived.Test.YtkmngemohhncaaaChecked
import GoSem.Claim
import GoSem.ClaimJoined
import GoSem.ClaimMapViews
import Derived.JoinedTies
import Derived.KernelRfl
namespace Go.Proofs.Ytkmngemohhncaaa
/- THE CELL 'sum', in the pinned program and in every row, IS THE sha256 OF THE DUMP (.gsa) THAT YtkmngemohhncaaaProg.lean LOADS. Nothing in Lean hashes anything: it is a label: what it is worth is what the hold of that sum in a sandbox is worth. -/
noncomputable def Try.pinned : Pinned := { name := "ytkmngemohhncaaa", sum := "bde95db5a802433106572af744c5233173a3c94223bf9cdda8107b5538b40f71", checked := Try.checked }
namespace Rows
def none {H : Type} : Left H := { results := [], args := [] }

/-- 'paybooklaw03.PurseParts': WHATEVER THE INPUT: true; the input reads as it did. -/
def pursePartsSpec : ChangeSpec := { name := "purseParts", fn := fun _ => fun
  | [d1, d2, d3] => { results := [.lit (.bool true)], args := [d1, d2, d3] }
  | _ => none }
def pursePartsRow : OpenClaim := { program := "ytkmngemohhncaaa", sum := "bde95db5a802433106572af744c5233173a3c94223bf9cdda8107b5538b40f71", func := "paybook/paybooklaw03.PurseParts", spec := "purseParts", named := ["math/bits.divideError", "math/bits.overflowError"], apart := false }
def PursePartsSaid : Prop := pursePartsRow.holds Try.pinned (OpenSpec.ofChange pursePartsSpec)

/-- ITS FALSE NEIGHBOUR: 'it returns false'. Refute it at one input. -/
def pursePartsWrong : ChangeSpec := { name := "purseParts", fn := fun _ => fun
  | [d1, d2, d3] => { results := [.lit (.bool false)], args := [d1, d2, d3] }
  | _ => none }
def PursePartsWrongFalsely : Prop := pursePartsRow.holds Try.pinned (OpenSpec.ofChange pursePartsWrong)

/-- 'paybooklaw03.PurseShares': WHATEVER THE INPUT: true; the input reads as it did. -/
def purseSharesSpec : ChangeSpec := { name := "purseShares", fn := fun _ => fun
  | [d1, d2, d3] => { results := [.lit (.bool true)], args := [d1, d2, d3] }
  | _ => none }
def purseSharesRow : OpenClaim := { program := "ytkmngemohhncaaa", sum := "bde95db5a802433106572af744c5233173a3c94223bf9cdda8107b5538b40f71", func := "paybook/paybooklaw03.PurseShares", spec := "purseShares", named := ["math/bits.divideError", "math/bits.overflowError"], apart := false }
def PurseSharesSaid : Prop := purseSharesRow.holds Try.pinned (OpenSpec.ofChange purseSharesSpec)

/-- ITS FALSE NEIGHBOUR: 'it returns false'. Refute it at one input. -/
def purseSharesWrong : ChangeSpec := { name := "purseShares", fn := fun _ => fun
  | [d1, d2, d3] => { results := [.lit (.bool false)], args := [d1, d2, d3] }
  | _ => none }
def PurseSharesWrongFalsely : Prop := purseSharesRow.holds Try.pinned (OpenSpec.ofChange purseSharesWrong)

/-- 'paybooklaw03.PurseGrows': WHATEVER THE INPUT: true; the input reads as it did. -/
def purseGrowsSpec : ChangeSpec := { name := "purseGrows", fn := fun _ => fun
  | [d1, d2, d3, d4] => { results := [.lit (.bool true)], args := [d1, d2, d3, d4] }
  | _ => none }
def purseGrowsRow : OpenClaim := { program := "ytkmngemohhncaaa", sum := "bde95db5a802433106572af744c5233173a3c94223bf9cdda8107b5538b40f71", func := "paybook/paybooklaw03.PurseGrows", spec := "purseGrows", named := ["math/bits.divideError", "math/bits.overflowError"], apart := false }
def PurseGrowsSaid : Prop := purseGrowsRow.holds Try.pinned (OpenSpec.ofChange purseGrowsSpec)

/-- ITS FALSE NEIGHBOUR: 'it returns false'. Refute it at one input. -/
def purseGrowsWrong : ChangeSpec := { name := "purseGrows", fn := fun _ => fun
  | [d1, d2, d3, d4] => { results := [.lit (.bool false)], args := [d1, d2, d3, d4] }
  | _ => none }
def PurseGrowsWrongFalsely : Prop := purseGrowsRow.holds Try.pinned (OpenSpec.ofChange purseGrowsWrong)

/-- 'paybooklaw03.PurseAdds': WHATEVER THE INPUT: true; the input reads as it did. -/
def purseAddsSpec : ChangeSpec := { name := "purseAdds", fn := fun _ => fun
  | [d1, d2] => { results := [.lit (.bool true)], args := [d1, d2] }
  | _ => none }
def purseAddsRow : OpenClaim := { program := "ytkmngemohhncaaa", sum := "bde95db5a802433106572af744c5233173a3c94223bf9cdda8107b5538b40f71", func := "paybook/paybooklaw03.PurseAdds", spec := "purseAdds", named := ["math/bits.divideError", "math/bits.overflowError"], apart := false }
def PurseAddsSaid : Prop := purseAddsRow.holds Try.pinned (OpenSpec.ofChange purseAddsSpec)

/-- ITS FALSE NEIGHBOUR: 'it returns false'. Refute it at one input. -/
def purseAddsWrong : ChangeSpec := { name := "purseAdds", fn := fun _ => fun
  | [d1, d2] => { results := [.lit (.bool false)], args := [d1, d2] }
  | _ => none }
def PurseAddsWrongFalsely : Prop := purseAddsRow.holds Try.pinned (OpenSpec.ofChange purseAddsWrong)

/-- 'paybooklaw03.PurseBack': WHATEVER THE INPUT: true; the input reads as it did. -/
def purseBackSpec : ChangeSpec := { name := "purseBack", fn := fun _ => fun
  | [d1, d2, d3, d4] => { results := [.lit (.bool true)], args := [d1, d2, d3, d4] }
  | _ => none }
def purseBackRow : OpenClaim := { program := "ytkmngemohhncaaa", sum := "bde95db5a802433106572af744c5233173a3c94223bf9cdda8107b5538b40f71", func := "paybook/paybooklaw03.PurseBack", spec := "purseBack", named := ["math/bits.divideError", "math/bits.overflowError"], apart := false }
def PurseBackSaid : Prop := purseBackRow.holds Try.pinned (OpenSpec.ofChange purseBackSpec)

/-- ITS FALSE NEIGHBOUR: 'it returns false'. Refute it at one input. -/
def purseBackWrong : ChangeSpec := { name := "purseBack", fn := fun _ => fun
  | [d1, d2, d3, d4] => { results := [.lit (.bool false)], args := [d1, d2, d3, d4] }
  | _ => none }
def PurseBackWrongFalsely : Prop := purseBackRow.holds Try.pinned (OpenSpec.ofChange purseBackWrong)

/-- 'paybooklaw03.PurseSplits': WHATEVER THE INPUT: true; the input reads as it did. -/
def purseSplitsSpec : ChangeSpec := { name := "purseSplits", fn := fun _ => fun
  | [d1, d2] => { results := [.lit (.bool true)], args := [d1, d2] }
  | _ => none }
def purseSplitsRow : OpenClaim := { program := "ytkmngemohhncaaa", sum := "bde95db5a802433106572af744c5233173a3c94223bf9cdda8107b5538b40f71", func := "paybook/paybooklaw03.PurseSplits", spec := "purseSplits", named := ["math/bits.divideError", "math/bits.overflowError"], apart := false }
def PurseSplitsSaid : Prop := purseSplitsRow.holds Try.pinned (OpenSpec.ofChange purseSplitsSpec)

/-- ITS FALSE NEIGHBOUR: 'it returns false'. Refute it at one input. -/
def purseSplitsWrong : ChangeSpec := { name := "purseSplits", fn := fun _ => fun
  | [d1, d2] => { results := [.lit (.bool false)], args := [d1, d2] }
  | _ => none }
def PurseSplitsWrongFalsely : Prop := purseSplitsRow.holds Try.pinned (OpenSpec.ofChange purseSplitsWrong)

/- THE SECOND FORM. 'bulk': how many values and letters a reading holds, each counted each time it is reached (what is shared counts as often as it is met; a slice's spare places count too). A statement '..UptoSaid' is the law's where the arguments, and the package variables that the reading takes, are together of bulk at most 1048576: NARROWER than '..Said'. Prove '..Said' where nothing that the law and all that it calls make is longer than what came in: it says more and counts as full. Else prove '..UptoSaid'. A law counts once. -/
mutual
def uptoBulk {H : Type} : DataW H → Nat
  | .lit (.string bytes) => bytes.length + 1
  | .lit _ => 1
  | .nil => 1
  | .ptr d => uptoBulk d + 1
  | .slice elems spare => uptoBulkAll elems + uptoBulkAll spare + 1
  | .agg parts => uptoBulkAll parts + 1
  | .iface _ d => uptoBulk d + 1
  | .map entries => uptoBulkEntries entries + 1
  | .held _ => 1
def uptoBulkAll {H : Type} : List (DataW H) → Nat
  | [] => 0
  | d :: r => uptoBulk d + uptoBulkAll r
def uptoBulkEntries {H : Type} : List (Lit × DataW H) → Nat
  | [] => 0
  | x :: r => uptoBulkEntry x + uptoBulkEntries r
def uptoBulkEntry {H : Type} : Lit × DataW H → Nat
  | (.string bytes, d) => bytes.length + uptoBulk d + 1
  | (_, d) => uptoBulk d + 1
 end
def uptoSmall : (H : Type) → List (DataW H) → Bool := fun _ ds => decide (uptoBulkAll ds ≤ 1048576)
def OpenSpec.upto (s : _root_.Go.ChangeSpec) : _root_.Go.OpenSpec := { _root_.Go.OpenSpec.ofChange s with cond := some uptoSmall }

/-- 'paybooklaw03.PurseParts', WHERE WHAT IT READS IS OF BULK AT MOST 1048576: true; the input reads as it did. -/
def pursePartsUptoRow : OpenClaim := { program := "ytkmngemohhncaaa", sum := "bde95db5a802433106572af744c5233173a3c94223bf9cdda8107b5538b40f71", func := "paybook/paybooklaw03.PurseParts", spec := "purseParts", named := ["math/bits.divideError", "math/bits.overflowError"], apart := false, narrowed := true }
def PursePartsUptoSaid : Prop := pursePartsUptoRow.holds Try.pinned (OpenSpec.upto pursePartsSpec)

/-- 'paybooklaw03.PurseShares', WHERE WHAT IT READS IS OF BULK AT MOST 1048576: true; the input reads as it did. -/
def purseSharesUptoRow : OpenClaim := { program := "ytkmngemohhncaaa", sum := "bde95db5a802433106572af744c5233173a3c94223bf9cdda8107b5538b40f71", func := "paybook/paybooklaw03.PurseShares", spec := "purseShares", named := ["math/bits.divideError", "math/bits.overflowError"], apart := false, narrowed := true }
def PurseSharesUptoSaid : Prop := purseSharesUptoRow.holds Try.pinned (OpenSpec.upto purseSharesSpec)

/-- 'paybooklaw03.PurseGrows', WHERE WHAT IT READS IS OF BULK AT MOST 1048576: true; the input reads as it did. -/
def purseGrowsUptoRow : OpenClaim := { program := "ytkmngemohhncaaa", sum := "bde95db5a802433106572af744c5233173a3c94223bf9cdda8107b5538b40f71", func := "paybook/paybooklaw03.PurseGrows", spec := "purseGrows", named := ["math/bits.divideError", "math/bits.overflowError"], apart := false, narrowed := true }
def PurseGrowsUptoSaid : Prop := purseGrowsUptoRow.holds Try.pinned (OpenSpec.upto purseGrowsSpec)

/-- 'paybooklaw03.PurseAdds', WHERE WHAT IT READS IS OF BULK AT MOST 1048576: true; the input reads as it did. -/
def purseAddsUptoRow : OpenClaim := { program := "ytkmngemohhncaaa", sum := "bde95db5a802433106572af744c5233173a3c94223bf9cdda8107b5538b40f71", func := "paybook/paybooklaw03.PurseAdds", spec := "purseAdds", named := ["math/bits.divideError", "math/bits.overflowError"], apart := false, narrowed := true }
def PurseAddsUptoSaid : Prop := purseAddsUptoRow.holds Try.pinned (OpenSpec.upto purseAddsSpec)

/-- 'paybooklaw03.PurseBack', WHERE WHAT IT READS IS OF BULK AT MOST 1048576: true; the input reads as it did. -/
def purseBackUptoRow : OpenClaim := { program := "ytkmngemohhncaaa", sum := "bde95db5a802433106572af744c5233173a3c94223bf9cdda8107b5538b40f71", func := "paybook/paybooklaw03.PurseBack", spec := "purseBack", named := ["math/bits.divideError", "math/bits.overflowError"], apart := false, narrowed := true }
def PurseBackUptoSaid : Prop := purseBackUptoRow.holds Try.pinned (OpenSpec.upto purseBackSpec)

/-- 'paybooklaw03.PurseSplits', WHERE WHAT IT READS IS OF BULK AT MOST 1048576: true; the input reads as it did. -/
def purseSplitsUptoRow : OpenClaim := { program := "ytkmngemohhncaaa", sum := "bde95db5a802433106572af744c5233173a3c94223bf9cdda8107b5538b40f71", func := "paybook/paybooklaw03.PurseSplits", spec := "purseSplits", named := ["math/bits.divideError", "math/bits.overflowError"], apart := false, narrowed := true }
def PurseSplitsUptoSaid : Prop := purseSplitsUptoRow.holds Try.pinned (OpenSpec.upto purseSplitsSpec)

end Rows
end Go.Proofs.Ytkmngemohhncaaa
