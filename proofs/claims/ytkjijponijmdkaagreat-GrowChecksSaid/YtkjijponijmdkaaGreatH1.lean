/-
  Contract: law13.Great.
-/
import Derived.Test.YtkjijponijmdkaaGreatK6
namespace Go.Proofs.YtkjijponijmdkaaGreat
open Go.RowKit Go.Proofs.YtkjijponijmdkaaGreatW.PrintWords

def great13 (s : Smp) : Bool := decide (600 < s.cells.length) || (decide (200 < s.targets.length) || decide (200 < s.weights.length))
theorem great13_calls (s : Smp) (p : SmpAt) (w : World) (hc : s.cells.length ≤ 9223372036854775807) (ht : s.targets.length ≤ 9223372036854775807) (hw : s.weights.length ≤ 9223372036854775807) :
    Calls Tryz.prog 10 #[.agg (smpA s p)] w fun e w' => e = .returned (.bool (great13 s)) ∧ Below w.heap.size w w' := by
  obtain ⟨Ac, cc, At, ct, Aw, cw⟩ := p
  unfold smpA
  dsimp only
  unfold great13
  by_cases h1 : 600 < s.cells.length
  · have b1 : (600 : Int) < s.cells.length := by omega
    have b2 : decide ((s.cells.length : Int) > 600) = true := decide_eq_true b1
    go_enter Tryz.func10, Tryz.ntmps10
    go_wp2_with fail
    go_ret
    exact ⟨by simp [h1], below_alloc (Below.refl _ _) _⟩
  · have b1 : ¬ (600 : Int) < s.cells.length := by omega
    by_cases h2 : 200 < s.targets.length
    · have b2 : (200 : Int) < s.targets.length := by omega
      go_enter Tryz.func10, Tryz.ntmps10
      go_wp2_with fail
      go_ret
      exact ⟨by simp, below_alloc (Below.refl _ _) _⟩
    · have b2 : ¬ (200 : Int) < s.targets.length := by omega
      by_cases h3 : 200 < s.weights.length
      · have b3 : (200 : Int) < s.weights.length := by omega
        go_enter Tryz.func10, Tryz.ntmps10
        go_wp2_with fail
        go_ret
        exact ⟨by simp, below_alloc (Below.refl _ _) _⟩
      · have b3 : ¬ (200 : Int) < s.weights.length := by omega
        go_enter Tryz.func10, Tryz.ntmps10
        go_wp2_with fail
        go_ret
        exact ⟨by simp, below_alloc (Below.refl _ _) _⟩
end Go.Proofs.YtkjijponijmdkaaGreat
