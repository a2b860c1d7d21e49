/-
  No cell of these rows narrows 'for every input' (looked for: loops, veiled, ifaces, maps, wideKeys, modest, calm, conditions, laid).
  DERIVED. THE GIVEN ROWS OF THIS SEAT. 3 by the template 'for every input the law returns true; each argument reads behind the call as it read before'; 0 by the template 'total and deterministic' (their statements: YtmenfodphooacaaTotals.lean).
  GIVEN WITH THE SEED: the statements are not yours to turn. If you find one false, say at which input.
  Laid BY PROGRAM, IN A SANDBOX (cutbox-rows.mjs): the forced cells as the released guide's own fill.sh prints them over the translation c11cde055cc1ff8d… (all of the seat's roots in one cut). By AI agents, Wed Nov 11 2026. No macro, syntax, notation, axiom, sorry.
-/
import Derived.Test.YtmenfodphooacaaChecked
import GoSem.Claim
import GoSem.ClaimJoined
import GoSem.ClaimMapViews
import Derived.JoinedTies
import Derived.KernelRfl
namespace Go.Proofs.Ytmenfodphooacaa
/- THE CELL 'sum', in the pinned program and in every row, IS THE sha256 OF THE DUMP (.gsa) THAT YtmenfodphooacaaProg.lean LOADS. Nothing in Lean hashes anything: it is a label: what it is worth is what the hold of that sum in a sandbox is worth. -/
noncomputable def Try.pinned : Pinned := { name := "ytmenfodphooacaa", sum := "c11cde055cc1ff8d3236e4a9475353e0485b9b02bcd74bc34552e224f667e22e", checked := Try.checked }
namespace Rows
def none {H : Type} : Left H := { results := [], args := [] }

/-- 'paybooklaw17.CartPlays': WHATEVER THE INPUT: true; the input reads as it did. -/
def cartPlaysSpec : ChangeSpec := { name := "cartPlays", fn := fun _ => fun
  | [d1, d2, d3] => { results := [.lit (.bool true)], args := [d1, d2, d3] }
  | _ => none }
def cartPlaysRow : OpenClaim := { program := "ytmenfodphooacaa", sum := "c11cde055cc1ff8d3236e4a9475353e0485b9b02bcd74bc34552e224f667e22e", func := "paybook/paybooklaw17.CartPlays", spec := "cartPlays", plainKeys := false, apart := false }
def CartPlaysSaid : Prop := cartPlaysRow.holds Try.pinned (OpenSpec.ofChange cartPlaysSpec)

/-- ITS FALSE NEIGHBOUR: 'it returns false'. Refute it at one input. -/
def cartPlaysWrong : ChangeSpec := { name := "cartPlays", fn := fun _ => fun
  | [d1, d2, d3] => { results := [.lit (.bool false)], args := [d1, d2, d3] }
  | _ => none }
def CartPlaysWrongFalsely : Prop := cartPlaysRow.holds Try.pinned (OpenSpec.ofChange cartPlaysWrong)

/-- 'paybooklaw17.CartNil': WHATEVER THE INPUT: true; the input reads as it did. -/
def cartNilSpec : ChangeSpec := { name := "cartNil", fn := fun _ => fun
  | [d1, d2] => { results := [.lit (.bool true)], args := [d1, d2] }
  | _ => none }
def cartNilRow : OpenClaim := { program := "ytmenfodphooacaa", sum := "c11cde055cc1ff8d3236e4a9475353e0485b9b02bcd74bc34552e224f667e22e", func := "paybook/paybooklaw17.CartNil", spec := "cartNil", plainKeys := false, apart := false }
def CartNilSaid : Prop := cartNilRow.holds Try.pinned (OpenSpec.ofChange cartNilSpec)

/-- ITS FALSE NEIGHBOUR: 'it returns false'. Refute it at one input. -/
def cartNilWrong : ChangeSpec := { name := "cartNil", fn := fun _ => fun
  | [d1, d2] => { results := [.lit (.bool false)], args := [d1, d2] }
  | _ => none }
def CartNilWrongFalsely : Prop := cartNilRow.holds Try.pinned (OpenSpec.ofChange cartNilWrong)

/-- 'paybooklaw17.CartFirst': WHATEVER THE INPUT: true; the input reads as it did. -/
def cartFirstSpec : ChangeSpec := { name := "cartFirst", fn := fun _ => fun
  | [d1, d2] => { results := [.lit (.bool true)], args := [d1, d2] }
  | _ => none }
def cartFirstRow : OpenClaim := { program := "ytmenfodphooacaa", sum := "c11cde055cc1ff8d3236e4a9475353e0485b9b02bcd74bc34552e224f667e22e", func := "paybook/paybooklaw17.CartFirst", spec := "cartFirst", plainKeys := false, apart := false }
def CartFirstSaid : Prop := cartFirstRow.holds Try.pinned (OpenSpec.ofChange cartFirstSpec)

/-- ITS FALSE NEIGHBOUR: 'it returns false'. Refute it at one input. -/
def cartFirstWrong : ChangeSpec := { name := "cartFirst", fn := fun _ => fun
  | [d1, d2] => { results := [.lit (.bool false)], args := [d1, d2] }
  | _ => none }
def CartFirstWrongFalsely : Prop := cartFirstRow.holds Try.pinned (OpenSpec.ofChange cartFirstWrong)

/- THE SECOND FORM. 'bulk': how many values and letters a reading holds, each counted each time it is reached (what is shared counts as often as it is met; a slice's spare places count too). A statement '..UptoSaid' is the law's where the arguments, and the package variables that the reading takes, are together of bulk at most 1048576: NARROWER than '..Said'. Prove '..Said' where nothing that the law and all that it calls make is longer than what came in: it says more and counts as full. Else prove '..UptoSaid'. A law counts once. -/
mutual
def uptoBulk {H : Type} : DataW H → Nat
  | .lit (.string bytes) => bytes.length + 1
  | .lit _ => 1
  | .nil => 1
  | .ptr d => uptoBulk d + 1
  | .slice elems spare => uptoBulkAll elems + uptoBulkAll spare + 1
  | .agg parts => uptoBulkAll parts + 1
  | .iface _ d => uptoBulk d + 1
  | .map entries => uptoBulkEntries entries + 1
  | .held _ => 1
def uptoBulkAll {H : Type} : List (DataW H) → Nat
  | [] => 0
  | d :: r => uptoBulk d + uptoBulkAll r
def uptoBulkEntries {H : Type} : List (Lit × DataW H) → Nat
  | [] => 0
  | x :: r => uptoBulkEntry x + uptoBulkEntries r
def uptoBulkEntry {H : Type} : Lit × DataW H → Nat
  | (.string bytes, d) => bytes.length + uptoBulk d + 1
  | (_, d) => uptoBulk d + 1
 end
def uptoSmall : (H : Type) → List (DataW H) → Bool := fun _ ds => decide (uptoBulkAll ds ≤ 1048576)
def OpenSpec.upto (s : _root_.Go.ChangeSpec) : _root_.Go.OpenSpec := { _root_.Go.OpenSpec.ofChange s with cond := some uptoSmall }

/-- 'paybooklaw17.CartPlays', WHERE WHAT IT READS IS OF BULK AT MOST 1048576: true; the input reads as it did. -/
def cartPlaysUptoRow : OpenClaim := { program := "ytmenfodphooacaa", sum := "c11cde055cc1ff8d3236e4a9475353e0485b9b02bcd74bc34552e224f667e22e", func := "paybook/paybooklaw17.CartPlays", spec := "cartPlays", plainKeys := false, apart := false, narrowed := true }
def CartPlaysUptoSaid : Prop := cartPlaysUptoRow.holds Try.pinned (OpenSpec.upto cartPlaysSpec)

/-- 'paybooklaw17.CartNil', WHERE WHAT IT READS IS OF BULK AT MOST 1048576: true; the input reads as it did. -/
def cartNilUptoRow : OpenClaim := { program := "ytmenfodphooacaa", sum := "c11cde055cc1ff8d3236e4a9475353e0485b9b02bcd74bc34552e224f667e22e", func := "paybook/paybooklaw17.CartNil", spec := "cartNil", plainKeys := false, apart := false, narrowed := true }
def CartNilUptoSaid : Prop := cartNilUptoRow.holds Try.pinned (OpenSpec.upto cartNilSpec)

/-- 'paybooklaw17.CartFirst', WHERE WHAT IT READS IS OF BULK AT MOST 1048576: true; the input reads as it did. -/
def cartFirstUptoRow : OpenClaim := { program := "ytmenfodphooacaa", sum := "c11cde055cc1ff8d3236e4a9475353e0485b9b02bcd74bc34552e224f667e22e", func := "paybook/paybooklaw17.CartFirst", spec := "cartFirst", plainKeys := false, apart := false, narrowed := true }
def CartFirstUptoSaid : Prop := cartFirstUptoRow.holds Try.pinned (OpenSpec.upto cartFirstSpec)

end Rows
end Go.Proofs.Ytmenfodphooacaa
