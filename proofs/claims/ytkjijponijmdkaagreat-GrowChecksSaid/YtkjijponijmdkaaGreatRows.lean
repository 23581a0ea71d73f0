/-
  No cell of these rows narrows 'for every input' (looked for: loops, veiled, ifaces, maps, wideKeys, modest, calm, conditions, laid).
  DERIVED. THE GIVEN ROWS OF THIS SEAT. 7 by the template 'for every input the law returns true; each argument reads behind the call as it read before'; 0 by the template 'total and deterministic' (their statements: YtkjijponijmdkaaGreatTotals.lean).
  GIVEN WITH THE SEED: the statements are not yours to turn. If you find one false, say at which input.
  Laid BY PROGRAM, IN A SANDBOX (cutbox-rows.mjs): the forced cells as the released guide's own fill.sh prints them over the translation 2a1d3d8e6e3ca2f3… (all of the seat's roots in one cut). By AI agents, Wed Nov 11 2026. No macro, syntax, notation, axiom, sorry.
-/
import Derived.Test.YtkjijponijmdkaaGreatChecked
import GoSem.Claim
import GoSem.ClaimJoined
import GoSem.ClaimMapViews
import Derived.JoinedTies
import Derived.KernelRfl
namespace Go.Proofs.YtkjijponijmdkaaGreat
/- THE CELL 'sum', in the pinned program and in every row, IS THE sha256 OF THE DUMP (.gsa) THAT YtkjijponijmdkaaGreatProg.lean LOADS. Nothing in Lean hashes anything: it is a label: what it is worth is what the hold of that sum in a sandbox is worth. -/
noncomputable def Tryz.pinned : Pinned := { name := "ytkjijponijmdkaagreat", sum := "2a1d3d8e6e3ca2f390c796d482a1423829b64fdec383afc0a1a0546b3059cc49", checked := Tryz.checked }
namespace Rows
def none {H : Type} : Left H := { results := [], args := [] }

/-- 'hornbeamlaw19.GrowChecks': WHATEVER THE INPUT: true; the input reads as it did. -/
def growChecksSpec : ChangeSpec := { name := "growChecks", fn := fun _ => fun
  | [d] => { results := [.lit (.bool true)], args := [d] }
  | _ => none }
def growChecksRow : OpenClaim := { program := "ytkjijponijmdkaagreat", sum := "2a1d3d8e6e3ca2f390c796d482a1423829b64fdec383afc0a1a0546b3059cc49", func := "hornbeam/hornbeamlaw19.GrowChecks", spec := "growChecks", inPlace := ["math/bits.Add64"], unfollowed := true, recurses := true, apart := false }
def GrowChecksSaid : Prop := growChecksRow.holds Tryz.pinned (OpenSpec.ofChange growChecksSpec)

/-- ITS FALSE NEIGHBOUR: 'it returns false'. Refute it at one input. -/
def growChecksWrong : ChangeSpec := { name := "growChecks", fn := fun _ => fun
  | [d] => { results := [.lit (.bool false)], args := [d] }
  | _ => none }
def GrowChecksWrongFalsely : Prop := growChecksRow.holds Tryz.pinned (OpenSpec.ofChange growChecksWrong)

/-- 'hornbeamlaw19.GrowPlays': WHATEVER THE INPUT: true; the input reads as it did. -/
def growPlaysSpec : ChangeSpec := { name := "growPlays", fn := fun _ => fun
  | [d1, d2, d3] => { results := [.lit (.bool true)], args := [d1, d2, d3] }
  | _ => none }
def growPlaysRow : OpenClaim := { program := "ytkjijponijmdkaagreat", sum := "2a1d3d8e6e3ca2f390c796d482a1423829b64fdec383afc0a1a0546b3059cc49", func := "hornbeam/hornbeamlaw19.GrowPlays", spec := "growPlays", inPlace := ["math/bits.Add64"], unfollowed := true, recurses := true, apart := false }
def GrowPlaysSaid : Prop := growPlaysRow.holds Tryz.pinned (OpenSpec.ofChange growPlaysSpec)

/-- ITS FALSE NEIGHBOUR: 'it returns false'. Refute it at one input. -/
def growPlaysWrong : ChangeSpec := { name := "growPlays", fn := fun _ => fun
  | [d1, d2, d3] => { results := [.lit (.bool false)], args := [d1, d2, d3] }
  | _ => none }
def GrowPlaysWrongFalsely : Prop := growPlaysRow.holds Tryz.pinned (OpenSpec.ofChange growPlaysWrong)

/-- 'hornbeamlaw19.GrowRight': WHATEVER THE INPUT: true; the input reads as it did. -/
def growRightSpec : ChangeSpec := { name := "growRight", fn := fun _ => fun
  | [d1, d2, d3] => { results := [.lit (.bool true)], args := [d1, d2, d3] }
  | _ => none }
def growRightRow : OpenClaim := { program := "ytkjijponijmdkaagreat", sum := "2a1d3d8e6e3ca2f390c796d482a1423829b64fdec383afc0a1a0546b3059cc49", func := "hornbeam/hornbeamlaw19.GrowRight", spec := "growRight", inPlace := ["math/bits.Add64"], unfollowed := true, recurses := true, apart := false }
def GrowRightSaid : Prop := growRightRow.holds Tryz.pinned (OpenSpec.ofChange growRightSpec)

/-- ITS FALSE NEIGHBOUR: 'it returns false'. Refute it at one input. -/
def growRightWrong : ChangeSpec := { name := "growRight", fn := fun _ => fun
  | [d1, d2, d3] => { results := [.lit (.bool false)], args := [d1, d2, d3] }
  | _ => none }
def GrowRightWrongFalsely : Prop := growRightRow.holds Tryz.pinned (OpenSpec.ofChange growRightWrong)

/-- 'hornbeamlaw19.GrowDrawn': WHATEVER THE INPUT: true; the input reads as it did. -/
def growDrawnSpec : ChangeSpec := { name := "growDrawn", fn := fun _ => fun
  | [d1, d2, d3] => { results := [.lit (.bool true)], args := [d1, d2, d3] }
  | _ => none }
def growDrawnRow : OpenClaim := { program := "ytkjijponijmdkaagreat", sum := "2a1d3d8e6e3ca2f390c796d482a1423829b64fdec383afc0a1a0546b3059cc49", func := "hornbeam/hornbeamlaw19.GrowDrawn", spec := "growDrawn", inPlace := ["math/bits.Add64"], unfollowed := true, recurses := true, apart := false }
def GrowDrawnSaid : Prop := growDrawnRow.holds Tryz.pinned (OpenSpec.ofChange growDrawnSpec)

/-- ITS FALSE NEIGHBOUR: 'it returns false'. Refute it at one input. -/
def growDrawnWrong : ChangeSpec := { name := "growDrawn", fn := fun _ => fun
  | [d1, d2, d3] => { results := [.lit (.bool false)], args := [d1, d2, d3] }
  | _ => none }
def GrowDrawnWrongFalsely : Prop := growDrawnRow.holds Tryz.pinned (OpenSpec.ofChange growDrawnWrong)

/-- 'hornbeamlaw19.GrowOften': WHATEVER THE INPUT: true; the input reads as it did. -/
def growOftenSpec : ChangeSpec := { name := "growOften", fn := fun _ => fun
  | [d1, d2, d3] => { results := [.lit (.bool true)], args := [d1, d2, d3] }
  | _ => none }
def growOftenRow : OpenClaim := { program := "ytkjijponijmdkaagreat", sum := "2a1d3d8e6e3ca2f390c796d482a1423829b64fdec383afc0a1a0546b3059cc49", func := "hornbeam/hornbeamlaw19.GrowOften", spec := "growOften", inPlace := ["math/bits.Add64"], unfollowed := true, recurses := true, apart := false }
def GrowOftenSaid : Prop := growOftenRow.holds Tryz.pinned (OpenSpec.ofChange growOftenSpec)

/-- ITS FALSE NEIGHBOUR: 'it returns false'. Refute it at one input. -/
def growOftenWrong : ChangeSpec := { name := "growOften", fn := fun _ => fun
  | [d1, d2, d3] => { results := [.lit (.bool false)], args := [d1, d2, d3] }
  | _ => none }
def GrowOftenWrongFalsely : Prop := growOftenRow.holds Tryz.pinned (OpenSpec.ofChange growOftenWrong)

/-- 'hornbeamlaw19.GrowFlat': WHATEVER THE INPUT: true; the input reads as it did. -/
def growFlatSpec : ChangeSpec := { name := "growFlat", fn := fun _ => fun
  | [d1, d2, d3] => { results := [.lit (.bool true)], args := [d1, d2, d3] }
  | _ => none }
def growFlatRow : OpenClaim := { program := "ytkjijponijmdkaagreat", sum := "2a1d3d8e6e3ca2f390c796d482a1423829b64fdec383afc0a1a0546b3059cc49", func := "hornbeam/hornbeamlaw19.GrowFlat", spec := "growFlat", inPlace := ["math/bits.Add64"], unfollowed := true, recurses := true, apart := false }
def GrowFlatSaid : Prop := growFlatRow.holds Tryz.pinned (OpenSpec.ofChange growFlatSpec)

/-- ITS FALSE NEIGHBOUR: 'it returns false'. Refute it at one input. -/
def growFlatWrong : ChangeSpec := { name := "growFlat", fn := fun _ => fun
  | [d1, d2, d3] => { results := [.lit (.bool false)], args := [d1, d2, d3] }
  | _ => none }
def GrowFlatWrongFalsely : Prop := growFlatRow.holds Tryz.pinned (OpenSpec.ofChange growFlatWrong)

/-- 'hornbeamlaw19.GrowRows': WHATEVER THE INPUT: true; the input reads as it did. -/
def growRowsSpec : ChangeSpec := { name := "growRows", fn := fun _ => fun
  | [d1, d2, d3] => { results := [.lit (.bool true)], args := [d1, d2, d3] }
  | _ => none }
def growRowsRow : OpenClaim := { program := "ytkjijponijmdkaagreat", sum := "2a1d3d8e6e3ca2f390c796d482a1423829b64fdec383afc0a1a0546b3059cc49", func := "hornbeam/hornbeamlaw19.GrowRows", spec := "growRows", inPlace := ["math/bits.Add64"], unfollowed := true, recurses := true, apart := false }
def GrowRowsSaid : Prop := growRowsRow.holds Tryz.pinned (OpenSpec.ofChange growRowsSpec)

/-- ITS FALSE NEIGHBOUR: 'it returns false'. Refute it at one input. -/
def growRowsWrong : ChangeSpec := { name := "growRows", fn := fun _ => fun
  | [d1, d2, d3] => { results := [.lit (.bool false)], args := [d1, d2, d3] }
  | _ => none }
def GrowRowsWrongFalsely : Prop := growRowsRow.holds Tryz.pinned (OpenSpec.ofChange growRowsWrong)

/- THE SECOND FORM. 'bulk': how many values and letters a reading holds, each counted each time it is reached (what is shared counts as often as it is met; a slice's spare places count too). A statement '..UptoSaid' is the law's where the arguments, and the package variables that the reading takes, are together of bulk at most 1048576: NARROWER than '..Said'. Prove '..Said' where nothing that the law and all that it calls make is longer than what came in: it says more and counts as full. Else prove '..UptoSaid'. A law counts once. -/
mutual
def uptoBulk {H : Type} : DataW H → Nat
  | .lit (.string bytes) => bytes.length + 1
  | .lit _ => 1
  | .nil => 1
  | .ptr d => uptoBulk d + 1
  | .slice elems spare => uptoBulkAll elems + uptoBulkAll spare + 1
  | .agg parts => uptoBulkAll parts + 1
  | .iface _ d => uptoBulk d + 1
  | .map entries => uptoBulkEntries entries + 1
  | .held _ => 1
def uptoBulkAll {H : Type} : List (DataW H) → Nat
  | [] => 0
  | d :: r => uptoBulk d + uptoBulkAll r
def uptoBulkEntries {H : Type} : List (Lit × DataW H) → Nat
  | [] => 0
  | x :: r => uptoBulkEntry x + uptoBulkEntries r
def uptoBulkEntry {H : Type} : Lit × DataW H → Nat
  | (.string bytes, d) => bytes.length + uptoBulk d + 1
  | (_, d) => uptoBulk d + 1
 end
def uptoSmall : (H : Type) → List (DataW H) → Bool := fun _ ds => decide (uptoBulkAll ds ≤ 1048576)
def OpenSpec.upto (s : _root_.Go.ChangeSpec) : _root_.Go.OpenSpec := { _root_.Go.OpenSpec.ofChange s with cond := some uptoSmall }

/-- 'hornbeamlaw19.GrowChecks', WHERE WHAT IT READS IS OF BULK AT MOST 1048576: true; the input reads as it did. -/
def growChecksUptoRow : OpenClaim := { program := "ytkjijponijmdkaagreat", sum := "2a1d3d8e6e3ca2f390c796d482a1423829b64fdec383afc0a1a0546b3059cc49", func := "hornbeam/hornbeamlaw19.GrowChecks", spec := "growChecks", inPlace := ["math/bits.Add64"], unfollowed := true, recurses := true, apart := false, narrowed := true }
def GrowChecksUptoSaid : Prop := growChecksUptoRow.holds Tryz.pinned (OpenSpec.upto growChecksSpec)

/-- 'hornbeamlaw19.GrowPlays', WHERE WHAT IT READS IS OF BULK AT MOST 1048576: true; the input reads as it did. -/
def growPlaysUptoRow : OpenClaim := { program := "ytkjijponijmdkaagreat", sum := "2a1d3d8e6e3ca2f390c796d482a1423829b64fdec383afc0a1a0546b3059cc49", func := "hornbeam/hornbeamlaw19.GrowPlays", spec := "growPlays", inPlace := ["math/bits.Add64"], unfollowed := true, recurses := true, apart := false, narrowed := true }
def GrowPlaysUptoSaid : Prop := growPlaysUptoRow.holds Tryz.pinned (OpenSpec.upto growPlaysSpec)

/-- 'hornbeamlaw19.GrowRight', WHERE WHAT IT READS IS OF BULK AT MOST 1048576: true; the input reads as it did. -/
def growRightUptoRow : OpenClaim := { program := "ytkjijponijmdkaagreat", sum := "2a1d3d8e6e3ca2f390c796d482a1423829b64fdec383afc0a1a0546b3059cc49", func := "hornbeam/hornbeamlaw19.GrowRight", spec := "growRight", inPlace := ["math/bits.Add64"], unfollowed := true, recurses := true, apart := false, narrowed := true }
def GrowRightUptoSaid : Prop := growRightUptoRow.holds Tryz.pinned (OpenSpec.upto growRightSpec)

/-- 'hornbeamlaw19.GrowDrawn', WHERE WHAT IT READS IS OF BULK AT MOST 1048576: true; the input reads as it did. -/
def growDrawnUptoRow : OpenClaim := { program := "ytkjijponijmdkaagreat", sum := "2a1d3d8e6e3ca2f390c796d482a1423829b64fdec383afc0a1a0546b3059cc49", func := "hornbeam/hornbeamlaw19.GrowDrawn", spec := "growDrawn", inPlace := ["math/bits.Add64"], unfollowed := true, recurses := true, apart := false, narrowed := true }
def GrowDrawnUptoSaid : Prop := growDrawnUptoRow.holds Tryz.pinned (OpenSpec.upto growDrawnSpec)

/-- 'hornbeamlaw19.GrowOften', WHERE WHAT IT READS IS OF BULK AT MOST 1048576: true; the input reads as it did. -/
def growOftenUptoRow : OpenClaim := { program := "ytkjijponijmdkaagreat", sum := "2a1d3d8e6e3ca2f390c796d482a1423829b64fdec383afc0a1a0546b3059cc49", func := "hornbeam/hornbeamlaw19.GrowOften", spec := "growOften", inPlace := ["math/bits.Add64"], unfollowed := true, recurses := true, apart := false, narrowed := true }
def GrowOftenUptoSaid : Prop := growOftenUptoRow.holds Tryz.pinned (OpenSpec.upto growOftenSpec)

/-- 'hornbeamlaw19.GrowFlat', WHERE WHAT IT READS IS OF BULK AT MOST 1048576: true; the input reads as it did. -/
def growFlatUptoRow : OpenClaim := { program := "ytkjijponijmdkaagreat", sum := "2a1d3d8e6e3ca2f390c796d482a1423829b64fdec383afc0a1a0546b3059cc49", func := "hornbeam/hornbeamlaw19.GrowFlat", spec := "growFlat", inPlace := ["math/bits.Add64"], unfollowed := true, recurses := true, apart := false, narrowed := true }
def GrowFlatUptoSaid : Prop := growFlatUptoRow.holds Tryz.pinned (OpenSpec.upto growFlatSpec)

/-- 'hornbeamlaw19.GrowRows', WHERE WHAT IT READS IS OF BULK AT MOST 1048576: true; the input reads as it did. -/
def growRowsUptoRow : OpenClaim := { program := "ytkjijponijmdkaagreat", sum := "2a1d3d8e6e3ca2f390c796d482a1423829b64fdec383afc0a1a0546b3059cc49", func := "hornbeam/hornbeamlaw19.GrowRows", spec := "growRows", inPlace := ["math/bits.Add64"], unfollowed := true, recurses := true, apart := false, narrowed := true }
def GrowRowsUptoSaid : Prop := growRowsUptoRow.holds Tryz.pinned (OpenSpec.upto growRowsSpec)

end Rows
end Go.Proofs.YtkjijponijmdkaaGreat
