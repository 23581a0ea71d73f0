/-
  Contracts: grow.classes, grow.means; the run of a grower.
-/
import Derived.Test.YtkjijponijmdkaaGreatT3
namespace Go.Proofs.YtkjijponijmdkaaGreat
open Go.RowKit Go.Proofs.YtkjijponijmdkaaGreatW.PrintWords

theorem mk_classes (s : Smp) (p : SmpAt) (w : World) :
    Calls Tryz.prog 46 #[.agg (smpA s p)] w fun e w' => e = .returned (.func (.func 66) #[] #[.pointer (some ⟨w.heap.size, 0, none⟩)]) ∧ w.alloc (.cells (smpA s p) 30) = w' := by
  unfold smpA
  go_enter Tryz.func46, Tryz.ntmps46
  go_wp2_with fail
  go_ret
  exact ⟨rfl, rfl⟩
theorem mk_means (s : Smp) (p : SmpAt) (w : World) :
    Calls Tryz.prog 47 #[.agg (smpA s p)] w fun e w' => e = .returned (.func (.func 69) #[] #[.pointer (some ⟨w.heap.size, 0, none⟩)]) ∧ w.alloc (.cells (smpA s p) 30) = w' := by
  unfold smpA
  go_enter Tryz.func47, Tryz.ntmps47
  go_wp2_with fail
  go_ret
  exact ⟨rfl, rfl⟩

/-- What becomes of a piece: the error, its node, the rows of its kids. -/
structure StepR where
  err : Int
  node : NodeS
  kids : Option (List Int × List Int)
def kidsN (k : Option (List Int × List Int)) : List NodeS := match k with | none => [] | some _ => [zN, zN]
/-- The pieces that are to be grown: each one's node, depth and rows. -/
def kidsW (k : Option (List Int × List Int)) (n depth : Nat) : List (Nat × Nat × List Int) := match k with | none => [] | some (l, r) => [(n, depth + 1, l), (n + 1, depth + 1, r)]
def runF (step : Nat → Nat → List Int → Nat → StepR) : Nat → List NodeS → List (Nat × Nat × List Int) → Int × List NodeS
  | 0, _, _ => (0, [])
  | _ + 1, nodes, [] => (0, nodes)
  | f + 1, nodes, (n, d, rows) :: r =>
    let q := step n d rows nodes.length
    if q.err ≠ 0 then (q.err, []) else runF step f (nodes.set n q.node ++ kidsN q.kids) (r ++ kidsW q.kids nodes.length d)
def piecesOf (l : List PieceS) : List (Nat × Nat × List Int) := l.map fun q => (q.node, q.depth, q.rows)
end Go.Proofs.YtkjijponijmdkaaGreat
