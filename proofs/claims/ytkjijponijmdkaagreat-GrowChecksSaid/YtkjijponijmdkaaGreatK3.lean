/-
  Contracts: bins.count, bins.Right, shard.Right.
-/
import Derived.Test.YtkjijponijmdkaaGreatK2
namespace Go.Proofs.YtkjijponijmdkaaGreat
open Go.RowKit Go.Proofs.YtkjijponijmdkaaGreatW.PrintWords

def cnt (n : Int) : Bool := decide (0 ≤ n ∧ n ≤ 16777216)
theorem cnt_yes {n : Int} (h : cnt n = true) : 0 ≤ n ∧ n ≤ 16777216 := of_decide_eq_true h
theorem cnt_no {n : Int} (h : ¬ cnt n = true) : n < 0 ∨ 16777216 < n := by
  have := of_decide_eq_false (Bool.eq_false_iff.2 h)
  omega
def matRight (rows cols : Int) (n : Nat) : Bool := cnt rows && (cnt cols && decide ((n : Int) = rows * cols))
abbrev cfgOk (s : Smp) : Int := cfgCheck s.kind s.classes s.bins s.trees s.depth s.leaf s.pick
def smpRight (s : Smp) : Bool := decide (cfgOk s = 0) && (matRight s.rows s.cols s.cells.length && (decide ((s.targets.length : Int) = s.rows) && decide ((s.weights.length : Int) = s.rows)))
abbrev matA (rows cols : Int) (A : Option Addr) (n c : Nat) : Array Value := #[.int .i64 rows, .int .i64 cols, .slice A n c]
/-- Where a sample's slices lie. -/
structure SmpAt where
  Ac : Option Addr
  cc : Nat
  At : Option Addr
  ct : Nat
  Aw : Option Addr
  cw : Nat
abbrev smpA (s : Smp) (p : SmpAt) : Array Value := #[.int .i64 s.kind, .int .i64 s.classes, .int .i64 s.bins, .int .i64 s.trees, .int .i64 s.depth, .int .i64 s.leaf, .int .i64 s.pick,
  .int .i64 s.rows, .int .i64 s.cols, .slice p.Ac s.cells.length p.cc, .slice p.At s.targets.length p.ct, .slice p.Aw s.weights.length p.cw]

theorem ret_bool {a b : Bool} (h : a = b) : Ending.returned (.bool a) = .returned (.bool b) := by rw [h]
theorem ret_i64 {a b : Int} (h : a = b) : Ending.returned (.int .i64 a) = .returned (.int .i64 b) := by rw [h]
theorem count_calls (n : Int) (w : World) : Calls Tryz.prog 64 #[.int .i64 n] w fun e w' => e = .returned (.bool (cnt n)) ∧ w = w' := by
  by_cases h1 : 0 ≤ n
  · by_cases h2 : n ≤ 16777216
    · have HR := Aside0.mk (show cnt n = true from decide_eq_true ⟨h1, h2⟩)
      go_enter Tryz.func64, Tryz.ntmps64
      go_wp2_with fail
      go_ret
      exact ⟨ret_bool HR.out.symm, rfl⟩
    · have HR := Aside0.mk (show cnt n = false from decide_eq_false (by omega))
      go_enter Tryz.func64, Tryz.ntmps64
      go_wp2_with fail
      go_ret
      exact ⟨ret_bool HR.out.symm, rfl⟩
  · have HR := Aside0.mk (show cnt n = false from decide_eq_false (by omega))
    go_enter Tryz.func64, Tryz.ntmps64
    go_wp2_with fail
    go_ret
    exact ⟨ret_bool HR.out.symm, rfl⟩
theorem count_is (b : Bool) (n : Int) (h : cnt n = b) (w : World) : Calls Tryz.prog 64 #[.int .i64 n] w fun e w' => e = .returned (.bool b) ∧ w = w' := by
  rw [← h]
  exact count_calls n w

theorem mul_cells {a b : Int} (ha : cnt a = true) (hb : cnt b = true) : 0 ≤ a * b ∧ a * b ≤ 281474976710656 := by
  have h1 := cnt_yes ha
  have h2 := cnt_yes hb
  exact ⟨Int.mul_nonneg h1.1 h2.1, Int.le_trans (Int.mul_le_mul h1.2 h2.2 h2.1 (by omega)) (by omega)⟩

theorem matRight_calls (rows cols : Int) (A : Option Addr) (n c : Nat) (w : World) :
    Calls Tryz.prog 42 #[.agg (matA rows cols A n c)] w fun e w' => e = .returned (.bool (matRight rows cols n)) ∧ Below w.heap.size w w' := by
  unfold matA
  by_cases h1 : cnt rows = true
  · have C1 := Aside0.mk (fun W => count_is true rows h1 W)
    by_cases h2 : cnt cols = true
    · have C2 := Aside0.mk (fun W => count_is true cols h2 W)
      obtain ⟨m1, m2⟩ := mul_cells h1 h2
      by_cases h3 : (n : Int) = rows * cols
      · have HR := Aside0.mk (show matRight rows cols n = true by simp [matRight, h1, h2, h3])
        have b3 : ((n : Int) == rows * cols) = true := by simpa using h3
        clear h1 h2 h3
        go_enter Tryz.func42, Tryz.ntmps42
        go_wp2_with (first | (go_at_call 64; (with_reducible refine (C1.out _).mono ?_); rintro e w' ⟨rfl, rfl⟩) | (go_at_call 64; (with_reducible refine (C2.out _).mono ?_); rintro e w' ⟨rfl, rfl⟩))
        go_ret
        exact ⟨ret_bool HR.out.symm, below_alloc (Below.refl _ _) _⟩
      · have HR := Aside0.mk (show matRight rows cols n = false by simp [matRight, h1, h2, h3])
        have b3 : ((n : Int) == rows * cols) = false := by simpa using h3
        clear h1 h2 h3
        go_enter Tryz.func42, Tryz.ntmps42
        go_wp2_with (first | (go_at_call 64; (with_reducible refine (C1.out _).mono ?_); rintro e w' ⟨rfl, rfl⟩) | (go_at_call 64; (with_reducible refine (C2.out _).mono ?_); rintro e w' ⟨rfl, rfl⟩))
        go_ret
        exact ⟨ret_bool HR.out.symm, below_alloc (Below.refl _ _) _⟩
    · have C2 := Aside0.mk (fun W => count_is false cols (by simpa using h2) W)
      have HR := Aside0.mk (show matRight rows cols n = false by simp [matRight, h2])
      clear h1 h2
      go_enter Tryz.func42, Tryz.ntmps42
      go_wp2_with (first | (go_at_call 64; (with_reducible refine (C1.out _).mono ?_); rintro e w' ⟨rfl, rfl⟩) | (go_at_call 64; (with_reducible refine (C2.out _).mono ?_); rintro e w' ⟨rfl, rfl⟩))
      go_ret
      exact ⟨ret_bool HR.out.symm, below_alloc (Below.refl _ _) _⟩
  · have C1 := Aside0.mk (fun W => count_is false rows (by simpa using h1) W)
    have HR := Aside0.mk (show matRight rows cols n = false by simp [matRight, h1])
    clear h1
    go_enter Tryz.func42, Tryz.ntmps42
    go_wp2_with ((go_at_call 64; refine (C1.out _).mono ?_; rintro e w' ⟨rfl, rfl⟩))
    go_ret
    exact ⟨ret_bool HR.out.symm, below_alloc (Below.refl _ _) _⟩

theorem check_is (s : Smp) (x : Int) (h : cfgOk s = x) (w : World) : Calls Tryz.prog 41 #[.agg (cfgA s)] w fun e w' => e = .returned (.int .i64 x) ∧ Below w.heap.size w w' := by
  rw [← h]
  exact check_calls s w
theorem matRight_is (b : Bool) (rows cols : Int) (A : Option Addr) (n c : Nat) (h : matRight rows cols n = b) (w : World) :
    Calls Tryz.prog 42 #[.agg (matA rows cols A n c)] w fun e w' => e = .returned (.bool b) ∧ Below w.heap.size w w' := by
  rw [← h]
  exact matRight_calls rows cols A n c w
theorem smp_cells {w w1 : World} {cs : Array Value} {t : Nat} (hb : Below (w.alloc (.cells cs t)).heap.size (w.alloc (.cells cs t)) w1) : w1.heap[w.heap.size]? = some (.cells cs t (0, 0)) := blk_below (blk_new _ _) hb
theorem smpRight_calls (s : Smp) (p : SmpAt) (w : World) :
    Calls Tryz.prog 22 #[.agg (smpA s p)] w fun e w' => e = .returned (.bool (smpRight s)) ∧ Below w.heap.size w w' := by
  obtain ⟨x, hx0⟩ : ∃ x, cfgOk s = x := ⟨_, rfl⟩
  obtain ⟨y, hy0⟩ : ∃ y, matRight s.rows s.cols s.cells.length = y := ⟨_, rfl⟩
  have C1 := Aside0.mk (fun W => check_is s x hx0 W)
  have C2 := Aside0.mk (fun W => matRight_is y s.rows s.cols p.Ac s.cells.length p.cc hy0 W)
  have hR : smpRight s = (decide (x = 0) && (y && (decide ((s.targets.length : Int) = s.rows) && decide ((s.weights.length : Int) = s.rows)))) := by unfold smpRight; rw [hx0, hy0]
  clear hx0 hy0
  have HB := Aside0.mk (Below.refl w.heap.size w)
  unfold smpA
  by_cases h1 : x = 0
  · subst h1
    cases y with
    | false =>
      have HR := Aside0.mk (show smpRight s = false by rw [hR]; rfl)
      clear hR HB
      go_enter Tryz.func22, Tryz.ntmps22
      go_wp2_with (first | (go_at_call 41; (with_reducible refine (C1.out _).mono ?_); rintro e w1 ⟨rfl, hb1⟩; have hX1 := Aside0.mk (smp_cells hb1); have hB1 := Aside0.mk (below_step (below_alloc (Below.refl _ _) _) hb1); have hx1 := fun j => blk_cell hX1.out j; clear hb1) | (go_at_call 42; (with_reducible refine (C2.out _).mono ?_); rintro e w2 ⟨rfl, hb2⟩; have hX2 := Aside0.mk (blk_below hX1.out hb2); have hB2 := Aside0.mk (below_step hB1.out hb2); have hx2 := fun j => blk_cell hX2.out j; clear hb2))
      go_ret
      exact ⟨ret_bool HR.out.symm, hB2.out⟩
    | true =>
      by_cases h2 : (s.targets.length : Int) = s.rows
      · have b2 : ((s.targets.length : Int) == s.rows) = true := by simpa using h2
        by_cases h3 : (s.weights.length : Int) = s.rows
        · have b3 : ((s.weights.length : Int) == s.rows) = true := by simpa using h3
          have HR := Aside0.mk (show smpRight s = true by rw [hR]; simp [h2, h3])
          clear hR HB h2 h3
          go_enter Tryz.func22, Tryz.ntmps22
          go_wp2_with (first | (go_at_call 41; (with_reducible refine (C1.out _).mono ?_); rintro e w1 ⟨rfl, hb1⟩; have hX1 := Aside0.mk (smp_cells hb1); have hB1 := Aside0.mk (below_step (below_alloc (Below.refl _ _) _) hb1); have hx1 := fun j => blk_cell hX1.out j; clear hb1) | (go_at_call 42; (with_reducible refine (C2.out _).mono ?_); rintro e w2 ⟨rfl, hb2⟩; have hX2 := Aside0.mk (blk_below hX1.out hb2); have hB2 := Aside0.mk (below_step hB1.out hb2); have hx2 := fun j => blk_cell hX2.out j; clear hb2))
          go_ret
          exact ⟨ret_bool HR.out.symm, hB2.out⟩
        · have b3 : ((s.weights.length : Int) == s.rows) = false := by simpa using h3
          have HR := Aside0.mk (show smpRight s = false by rw [hR]; simp [h3])
          clear hR HB h2 h3
          go_enter Tryz.func22, Tryz.ntmps22
          go_wp2_with (first | (go_at_call 41; (with_reducible refine (C1.out _).mono ?_); rintro e w1 ⟨rfl, hb1⟩; have hX1 := Aside0.mk (smp_cells hb1); have hB1 := Aside0.mk (below_step (below_alloc (Below.refl _ _) _) hb1); have hx1 := fun j => blk_cell hX1.out j; clear hb1) | (go_at_call 42; (with_reducible refine (C2.out _).mono ?_); rintro e w2 ⟨rfl, hb2⟩; have hX2 := Aside0.mk (blk_below hX1.out hb2); have hB2 := Aside0.mk (below_step hB1.out hb2); have hx2 := fun j => blk_cell hX2.out j; clear hb2))
          go_ret
          exact ⟨ret_bool HR.out.symm, hB2.out⟩
      · have b2 : ((s.targets.length : Int) == s.rows) = false := by simpa using h2
        have HR := Aside0.mk (show smpRight s = false by rw [hR]; simp [h2])
        clear hR HB h2
        go_enter Tryz.func22, Tryz.ntmps22
        go_wp2_with (first | (go_at_call 41; (with_reducible refine (C1.out _).mono ?_); rintro e w1 ⟨rfl, hb1⟩; have hX1 := Aside0.mk (smp_cells hb1); have hB1 := Aside0.mk (below_step (below_alloc (Below.refl _ _) _) hb1); have hx1 := fun j => blk_cell hX1.out j; clear hb1) | (go_at_call 42; (with_reducible refine (C2.out _).mono ?_); rintro e w2 ⟨rfl, hb2⟩; have hX2 := Aside0.mk (blk_below hX1.out hb2); have hB2 := Aside0.mk (below_step hB1.out hb2); have hx2 := fun j => blk_cell hX2.out j; clear hb2))
        go_ret
        exact ⟨ret_bool HR.out.symm, hB2.out⟩
  · have b1 : (x == 0) = false := by simpa using h1
    have HR := Aside0.mk (show smpRight s = false by rw [hR]; simp [h1])
    clear hR HB h1
    go_enter Tryz.func22, Tryz.ntmps22
    go_wp2_with (first | (go_at_call 41; (with_reducible refine (C1.out _).mono ?_); rintro e w1 ⟨rfl, hb1⟩; have hX1 := Aside0.mk (smp_cells hb1); have hB1 := Aside0.mk (below_step (below_alloc (Below.refl _ _) _) hb1); have hx1 := fun j => blk_cell hX1.out j; clear hb1))
    go_ret
    exact ⟨ret_bool HR.out.symm, hB1.out⟩
end Go.Proofs.YtkjijponijmdkaaGreat
