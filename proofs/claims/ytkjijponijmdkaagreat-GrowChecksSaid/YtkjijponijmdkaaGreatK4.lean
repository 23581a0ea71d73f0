/-
  Contracts: grow.target, grow.row.
-/
import Derived.Test.YtkjijponijmdkaaGreatK3
namespace Go.Proofs.YtkjijponijmdkaaGreat
open Go.RowKit Go.Proofs.YtkjijponijmdkaaGreatW.PrintWords

/-- What is wrong with a target. -/
def tgt (kind classes t : Int) : Int := if kind = 0 ∧ (t < 0 ∨ classes ≤ t) then 5 else if kind = 1 ∧ (t < -1048576 ∨ 1048576 < t) then 4 else 0

theorem target_calls (s : Smp) (t : Int) (w : World) :
    Calls Tryz.prog 43 #[.agg (cfgA s), .int .i64 t] w fun e w' => e = .returned (.int .i64 (tgt s.kind s.classes t)) ∧ Below w.heap.size w w' := by
  unfold cfgA
  by_cases h0 : s.kind = 0
  · have b0 : (s.kind == 0) = true := by simpa using h0
    have b1 : (s.kind == 1) = false := by simp [h0]
    by_cases h1 : t < 0
    · have HR := Aside0.mk (show tgt s.kind s.classes t = 5 from if_pos ⟨h0, .inl h1⟩)
      clear h0
      go_enter Tryz.func43, Tryz.ntmps43
      go_wp2_with fail
      go_ret
      exact ⟨ret_i64 HR.out.symm, below_alloc (Below.refl _ _) _⟩
    · by_cases h2 : s.classes ≤ t
      · have HR := Aside0.mk (show tgt s.kind s.classes t = 5 from if_pos ⟨h0, .inr h2⟩)
        clear h0
        go_enter Tryz.func43, Tryz.ntmps43
        go_wp2_with fail
        go_ret
        exact ⟨ret_i64 HR.out.symm, below_alloc (Below.refl _ _) _⟩
      · have HR := Aside0.mk (show tgt s.kind s.classes t = 0 by unfold tgt; rw [if_neg (by omega), if_neg (by omega)])
        clear h0
        go_enter Tryz.func43, Tryz.ntmps43
        go_wp2_with fail
        go_ret
        exact ⟨ret_i64 HR.out.symm, below_alloc (Below.refl _ _) _⟩
  · have b0 : (s.kind == 0) = false := by simpa using h0
    by_cases h1 : s.kind = 1
    · have b1 : (s.kind == 1) = true := by simpa using h1
      by_cases h2 : t < -1048576
      · have HR := Aside0.mk (show tgt s.kind s.classes t = 4 by unfold tgt; rw [if_neg (by omega), if_pos (by omega)])
        clear h0 h1
        go_enter Tryz.func43, Tryz.ntmps43
        go_wp2_with fail
        go_ret
        exact ⟨ret_i64 HR.out.symm, below_alloc (Below.refl _ _) _⟩
      · by_cases h3 : 1048576 < t
        · have HR := Aside0.mk (show tgt s.kind s.classes t = 4 by unfold tgt; rw [if_neg (by omega), if_pos (by omega)])
          clear h0 h1
          go_enter Tryz.func43, Tryz.ntmps43
          go_wp2_with fail
          go_ret
          exact ⟨ret_i64 HR.out.symm, below_alloc (Below.refl _ _) _⟩
        · have HR := Aside0.mk (show tgt s.kind s.classes t = 0 by unfold tgt; rw [if_neg (by omega), if_neg (by omega)])
          clear h0 h1
          go_enter Tryz.func43, Tryz.ntmps43
          go_wp2_with fail
          go_ret
          exact ⟨ret_i64 HR.out.symm, below_alloc (Below.refl _ _) _⟩
    · have b1 : (s.kind == 1) = false := by simpa using h1
      have HR := Aside0.mk (show tgt s.kind s.classes t = 0 by unfold tgt; rw [if_neg (by omega), if_neg (by omega)])
      clear h0 h1
      go_enter Tryz.func43, Tryz.ntmps43
      go_wp2_with fail
      go_ret
      exact ⟨ret_i64 HR.out.symm, below_alloc (Below.refl _ _) _⟩
theorem target_is (s : Smp) (t x : Int) (h : tgt s.kind s.classes t = x) (w : World) :
    Calls Tryz.prog 43 #[.agg (cfgA s), .int .i64 t] w fun e w' => e = .returned (.int .i64 x) ∧ Below w.heap.size w w' := by
  rw [← h]
  exact target_calls s t w

def inI (n : Int) : Prop := -9223372036854775808 ≤ n ∧ n ≤ 9223372036854775807
/-- A sample's numbers are of their kinds. -/
structure SmpWf (s : Smp) : Prop where
  kind : inI s.kind
  classes : inI s.classes
  bins : inI s.bins
  trees : inI s.trees
  depth : inI s.depth
  leaf : inI s.leaf
  pick : inI s.pick
  rows : inI s.rows
  cols : inI s.cols
  cells : ∀ j, 0 ≤ rd s.cells j ∧ rd s.cells j ≤ 65535
  targets : ∀ j, inI (rd s.targets j)
  weights : ∀ j, inI (rd s.weights j)
/-- A sample's slices lie in the world. -/
structure SmpRd (w : World) (s : Smp) (p : SmpAt) : Prop where
  wf : SmpWf s
  hc : (Kd.int .u16).C w p.Ac s.cells.length s.cells
  ht : (Kd.int .i64).C w p.At s.targets.length s.targets
  hw : (Kd.int .i64).C w p.Aw s.weights.length s.weights
  lc : s.cells.length ≤ p.cc
  lt : s.targets.length ≤ p.ct
  lw : s.weights.length ≤ p.cw
theorem SmpRd.below {w w1 : World} {s : Smp} {p : SmpAt} (h : SmpRd w s p) (hb : Below w.heap.size w w1) : SmpRd w1 s p :=
  ⟨h.wf, Kd.C_below h.hc hb, Kd.C_below h.ht hb, Kd.C_below h.hw hb, h.lc, h.lt, h.lw⟩

/-- Has a row a cell beyond the bins, from column j on, n columns? -/
def badFrom (s : Smp) (i : Nat) : Nat → Nat → Bool
  | _, 0 => false
  | j, n + 1 => if s.bins < rd s.cells ((j : Int) * s.rows + i) then true else badFrom s i (j + 1) n
/-- What is wrong with a row. -/
def rowErr (s : Smp) (i : Nat) : Int :=
  if rd s.weights i < 0 then 1 else if tgt s.kind s.classes (rd s.targets i) ≠ 0 then tgt s.kind s.classes (rd s.targets i) else if badFrom s i 0 s.cols.toNat = true then 5 else 0

theorem at_place {rows cols i j : Int} (hj : 0 ≤ j) (hjc : j < cols) (hi : 0 ≤ i) (hir : i < rows) : 0 ≤ j * rows + i ∧ j * rows + i < rows * cols ∧ 0 ≤ j * rows ∧ j * rows ≤ rows * cols := by
  have h1 : 0 ≤ j * rows := Int.mul_nonneg hj (by omega)
  have h2 : (j + 1) * rows ≤ cols * rows := Int.mul_le_mul_of_nonneg_right (by omega) (by omega)
  rw [Int.add_mul, Int.one_mul, Int.mul_comm cols rows] at h2
  omega
end Go.Proofs.YtkjijponijmdkaaGreat
