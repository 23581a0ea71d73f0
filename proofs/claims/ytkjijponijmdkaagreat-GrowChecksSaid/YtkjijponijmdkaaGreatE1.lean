/-
  The plain law: what ref19.Check's printed form answers is growCheck.
-/
import Derived.Test.YtkjijponijmdkaaGreatK6
import Derived.Test.YtkjijponijmdkaaGreatPGrowChecksx13
namespace Go.Proofs.YtkjijponijmdkaaGreat
open Go.RowKit Go.Proofs.YtkjijponijmdkaaGreatW.PrintWords
open PGrowChecks

theorem w64 (n : Int) (h : -9223372036854775808 ≤ n ∧ n ≤ 9223372036854775807) : wrap64 n = n := by unfold wrap64; omega
theorem cfg_if {n lo hi r : Int} {X : Option Int} (h : X = some r) : (if n < lo then some 3 else if n > hi then some 4 else X) = some (cfgTest n lo hi false r) := by
  subst h
  unfold cfgTest
  by_cases h1 : n < lo
  · rw [if_pos h1, if_pos h1]
  · rw [if_neg h1, if_neg h1, if_neg (show ¬ (false = true) by decide)]
    by_cases h2 : hi < n
    · rw [if_pos h2, if_pos h2]
    · rw [if_neg h2, if_neg h2]
theorem e_ref08 (k : Nat) (a b c d e f g : Int) : hornbeamref08_Check.f (k + 2) a b c d e f g = some (cfgCheck a b c d e f g) := by
  unfold hornbeamref08_Check.f cfgCheck
  simp only [hornbeamref08_Check.j0, hornbeamref08_Check.j1]
  obtain ⟨r, hr⟩ : ∃ r, cfgTest c 2 256 false (cfgTest d 1 4096 false (cfgTest e 0 32 false (cfgTest f 1 1048576 false (cfgTest g 1 1024 false 0)))) = r := ⟨_, rfl⟩
  have hX : (if c < 2 then some 3 else if c > 256 then some 4 else if d < 1 then some 3 else if d > 4096 then some 4 else if e < 0 then some 3 else if e > 32 then some 4 else if f < 1 then some 3 else if f > 1048576 then some 4 else if g < 1 then some 3 else if g > 1024 then some 4 else some 0) = some r := by
    rw [← hr]
    exact cfg_if (cfg_if (cfg_if (cfg_if (cfg_if rfl))))
  rw [hr, hX]
  clear hr hX
  by_cases h0 : a = 0
  · subst h0
    rw [cfgTest_ok (n := 0) (by decide) (by decide) (by decide), if_pos rfl, if_neg (show ¬ (false = true) by decide), if_pos rfl]
    by_cases h1 : b < 2
    · rw [if_pos h1, if_pos trivial, cfgTest_low (show b < (if (0 : Int) = 1 then 0 else 2) from h1)]
    · rw [if_neg h1, if_neg (show ¬ ((0 : Int) = 1) by decide), if_neg (show ¬ (false = true) by decide)]
      by_cases h2 : 256 < b
      · rw [if_pos h2, cfgTest_high (show ¬ b < (if (0 : Int) = 1 then 0 else 2) from h1) (by simp) h2]
      · rw [if_neg h2, cfgTest_ok (show ¬ b < (if (0 : Int) = 1 then 0 else 2) from h1) (by simp) h2]
  · rw [if_neg h0]
    by_cases h1 : a = 1
    · subst h1
      rw [cfgTest_ok (n := 1) (by decide) (by decide) (by decide), if_neg (show ¬ (((1 : Int) != 1) = true) by decide), if_neg (show ¬ ((1 : Int) = 0) by decide), if_pos rfl, if_pos rfl]
      by_cases h2 : b = 0
      · subst h2
        rw [if_neg (show ¬ (((0 : Int) != 0) = true) by decide), if_neg (show ¬ ((0 : Int) > 256) by decide), cfgTest_ok (by decide) (by decide) (by decide)]
      · rw [if_pos (by simp [h2])]
        by_cases h3 : b < 0
        · rw [cfgTest_low h3]
        · rw [cfgTest_form h3 (by simp [h2])]
    · rw [if_pos (by simp [h1])]
      by_cases h3 : a < 0
      · rw [cfgTest_low h3]
      · rw [cfgTest_form h3 (by simp; omega)]
theorem e_few (n : Int) : hornbeamref11_Few.f n = some (cnt n) := by
  unfold hornbeamref11_Few.f cnt
  by_cases h : 0 ≤ n
  · simp [h]
  · simp [h]
theorem e_right11 (rows cols : Int) (l : List Int) : hornbeamref11_Right.f rows cols l = some (matRight rows cols l.length) := by
  unfold hornbeamref11_Right.f matRight
  rw [e_few, e_few]
  simp only [Option.bind_some]
  by_cases h1 : cnt rows = true
  · rw [if_pos h1]
    by_cases h2 : cnt cols = true
    · rw [if_pos h2, h1, h2, w64 _ (by have := mul_cells h1 h2; omega)]
      rfl
    · rw [if_neg h2, Bool.eq_false_iff.mpr h2, h1]
      rfl
  · rw [if_neg h1, Bool.eq_false_iff.mpr h1]
    rfl
theorem e_right13 (k : Nat) (s : Smp) : hornbeamref13_Right.f (k + 2) s.kind s.classes s.bins s.trees s.depth s.leaf s.pick s.rows s.cols s.cells s.targets s.weights = some (smpRight s) := by
  unfold hornbeamref13_Right.f smpRight
  rw [e_ref08, e_right11]
  simp only [Option.bind_some]
  by_cases h0 : cfgOk s = 0
  · rw [if_pos h0, decide_eq_true h0]
    by_cases h1 : matRight s.rows s.cols s.cells.length = true
    · rw [if_pos h1, h1]
      by_cases h2 : (s.targets.length : Int) = s.rows
      · rw [if_pos h2, decide_eq_true h2]
        rfl
      · rw [if_neg h2, decide_eq_false h2]
        rfl
    · rw [if_neg h1, Bool.eq_false_iff.mpr h1]
      rfl
  · rw [if_neg h0, decide_eq_false h0]
    rfl
theorem e_target (k : Nat) (a b c d e f g t : Int) (h : a = 0 → b ≤ 256) : hornbeamref09_Target.f (k + 1) a b c d e f g t = some (tgt a b t) := by
  unfold hornbeamref09_Target.f tgt
  simp only [hornbeamref09_Target.j0]
  by_cases h0 : a = 0
  · have h1 := h h0
    subst h0
    rw [if_pos rfl]
    by_cases h2 : t < 0
    · rw [if_pos h2, if_pos trivial, if_pos ⟨rfl, .inl h2⟩]
    · rw [if_neg h2]
      by_cases h3 : t > 255
      · rw [if_pos h3, if_pos trivial, if_pos ⟨rfl, .inr (by omega)⟩]
      · rw [if_neg h3]
        by_cases h4 : t ≥ b
        · rw [if_pos (decide_eq_true h4), if_pos ⟨rfl, .inr h4⟩]
        · rw [if_neg (by simpa using h4), if_neg (show ¬ ((0 : Int) = 1) by decide), if_neg (by omega), if_neg (by omega)]
  · rw [if_neg h0, if_neg (show ¬ (false = true) by decide), if_neg (show ¬ (a = 0 ∧ _) from fun h => h0 h.1)]
    by_cases h1 : a = 1
    · rw [if_pos h1]
      by_cases h2 : t < -1048576
      · rw [if_pos h2, if_pos ⟨h1, .inl h2⟩]
      · rw [if_neg h2]
        by_cases h3 : t > 1048576
        · rw [if_pos h3, if_pos ⟨h1, .inr h3⟩]
        · rw [if_neg h3, if_neg (by omega)]
    · rw [if_neg h1, if_neg (fun h => h1 h.1)]
theorem e_cell (s : Smp) (h : matRight s.rows s.cols s.cells.length = true) (hw : SmpWf s) (i j : Int) (h0 : 0 ≤ i) (h1 : i < s.rows) (h2 : 0 ≤ j) (h3 : j < s.cols) :
    hornbeamref11_Cell.f s.rows s.cols s.cells i j = some (rd s.cells (j * s.rows + i)) := by
  unfold hornbeamref11_Cell.f
  rw [e_right11, h]
  simp only [Option.bind_some]
  have hp := at_place h2 h3 h0 h1
  unfold matRight at h
  simp only [Bool.and_eq_true, decide_eq_true_eq] at h
  have hm := mul_cells h.1 h.2.1
  have hc := hw.cells (j * s.rows + i)
  rw [if_pos trivial, if_neg (by omega), if_neg (by omega), if_neg (by omega), if_neg (by omega), w64 (j * s.rows) (by omega), w64 (j * s.rows + i) (by omega), if_pos (by omega), if_pos (by omega), w64 _ (by omega)]
theorem chk_many (s : Smp) : ∀ n i t t', chkFrom s i n t true = chkFrom s i n t' true
  | 0, _, _, _ => rfl
  | n + 1, i, t, t' => by
    simp only [chkFrom]
    by_cases h : rowErr s i ≠ 0
    · rw [if_pos h, if_pos h]
    · rw [if_neg h, if_neg h, if_pos (.inl trivial), if_pos (.inl trivial)]
      exact chk_many s n _ _ _
abbrev eL0 (s : Smp) (k : Nat) (left : Int) (many : Bool) (i : Int) := hornbeamref19_Check.l0 k left many i s.kind s.classes s.bins s.trees s.depth s.leaf s.pick s.rows s.cols s.cells s.targets s.weights
abbrev eL1 (s : Smp) (k : Nat) (left : Int) (many : Bool) (i j : Int) := hornbeamref19_Check.l1 k left many i j s.kind s.classes s.bins s.trees s.depth s.leaf s.pick s.rows s.cols s.cells s.targets s.weights
theorem e_l1 (s : Smp) (hm : matRight s.rows s.cols s.cells.length = true) (hw : SmpWf s) (hc : s.cols ≤ 1024) (left : Int) (many : Bool) (i : Nat) (hi : (i : Int) < s.rows) (r : Int) (hr : ∃ K, ∀ k, K ≤ k → eL1 s k left many i s.cols = some r) :
    ∀ (n j : Nat), (j : Int) + n = s.cols → ∃ K, ∀ k, K ≤ k → eL1 s k left many i j = some (if badFrom s i j n = true then 5 else r)
  | 0, j, hj => by
    obtain ⟨K, hK⟩ := hr
    refine ⟨K, fun k hk => ?_⟩
    have : (j : Int) = s.cols := by omega
    rw [this, hK k hk, badFrom, if_neg (by decide)]
  | n + 1, j, hj => by
    obtain ⟨K, hK⟩ := e_l1 s hm hw hc left many i hi r hr n (j + 1) (by omega)
    refine ⟨K + 1, fun k hk => ?_⟩
    obtain ⟨k, rfl⟩ : ∃ k', k = k' + 1 := ⟨k - 1, by omega⟩
    have hK := hK k (by omega)
    show hornbeamref19_Check.l1 (k + 1) left many i j s.kind s.classes s.bins s.trees s.depth s.leaf s.pick s.rows s.cols s.cells s.targets s.weights = _
    rw [hornbeamref19_Check.l1, if_pos (by omega), e_cell s hm hw i j (by omega) hi (by omega) (by omega), Option.bind_some, badFrom]
    by_cases h : s.bins < rd s.cells ((j : Int) * s.rows + i)
    · rw [if_pos h, if_pos h, if_pos rfl]
    · rw [if_neg h, if_neg h, w64 ((j : Int) + 1) (by omega)]
      exact hK
theorem e_l0 (s : Smp) (hok : SmpOk s) (hm : matRight s.rows s.cols s.cells.length = true) (hw : SmpWf s) (hc : s.cols ≤ 1024) (hcl : s.kind = 0 → s.classes ≤ 256) :
    ∀ (n i : Nat) (left : Int) (many : Bool), (i : Int) + n = s.rows → 0 ≤ left → left ≤ 1048576 → ∃ K, ∀ k, K ≤ k → eL0 s k left many i = some (chkFrom s i n (1048576 - left) many)
  | 0, i, left, many, hi, hl, hl1 => by
    refine ⟨1, fun k hk => ?_⟩
    obtain ⟨k, rfl⟩ : ∃ k', k = k' + 1 := ⟨k - 1, by omega⟩
    show hornbeamref19_Check.l0 (k + 1) left many i s.kind s.classes s.bins s.trees s.depth s.leaf s.pick s.rows s.cols s.cells s.targets s.weights = _
    rw [hornbeamref19_Check.l0, if_neg (by omega), chkFrom]
    cases many with
    | true => rfl
    | false =>
      rw [if_neg (show ¬ (false = true) by decide), if_neg (show ¬ (false = true) by decide)]
      by_cases h : left = 1048576
      · rw [if_pos h, if_pos (by omega)]
      · rw [if_neg h, if_neg (by omega)]
  | n + 1, i, left, many, hi, hl, hl1 => by
    have hwi := hw.weights i
    unfold inI at hwi
    have hwl := hok.weights
    have htl := hok.targets
    have hr1 := hok.r1
    obtain ⟨r, hr⟩ : ∃ r, (if many = true ∨ 1048576 - (1048576 - left) < rd s.weights i then chkFrom s (i + 1) n (1048576 - left) true else chkFrom s (i + 1) n (1048576 - left + rd s.weights i) false) = r := ⟨_, rfl⟩
    by_cases h1 : rd s.weights i < 0
    · refine ⟨1, fun k hk => ?_⟩
      obtain ⟨k, rfl⟩ : ∃ k', k = k' + 1 := ⟨k - 1, by omega⟩
      show hornbeamref19_Check.l0 (k + 1) left many i s.kind s.classes s.bins s.trees s.depth s.leaf s.pick s.rows s.cols s.cells s.targets s.weights = _
      have he : rowErr s i = 1 := if_pos h1
      rw [hornbeamref19_Check.l0, if_pos (by omega), if_pos (by omega), if_pos (by omega), if_pos h1, chkFrom, he, if_pos (by decide)]
    · have hcont : ∃ K, ∀ k, K ≤ k → eL1 s k left many i s.cols = some r := by
        by_cases h2 : left < rd s.weights i
        · obtain ⟨K, hK⟩ := e_l0 s hok hm hw hc hcl n (i + 1) left true (by omega) hl hl1
          refine ⟨K + 1, fun k hk => ?_⟩
          obtain ⟨k, rfl⟩ : ∃ k', k = k' + 1 := ⟨k - 1, by omega⟩
          show hornbeamref19_Check.l1 (k + 1) left many i s.cols s.kind s.classes s.bins s.trees s.depth s.leaf s.pick s.rows s.cols s.cells s.targets s.weights = _
          rw [hornbeamref19_Check.l1, if_neg (by omega), if_pos (by omega), if_pos (by omega), if_pos h2, w64 ((i : Int) + 1) (by omega), ← hr, if_pos (.inr (by omega))]
          exact hK k (by omega)
        · obtain ⟨K, hK⟩ := e_l0 s hok hm hw hc hcl n (i + 1) (left - rd s.weights i) many (by omega) (by omega) (by omega)
          refine ⟨K + 1, fun k hk => ?_⟩
          obtain ⟨k, rfl⟩ : ∃ k', k = k' + 1 := ⟨k - 1, by omega⟩
          show hornbeamref19_Check.l1 (k + 1) left many i s.cols s.kind s.classes s.bins s.trees s.depth s.leaf s.pick s.rows s.cols s.cells s.targets s.weights = _
          rw [hornbeamref19_Check.l1, if_neg (by omega), if_pos (by omega), if_pos (by omega), if_neg h2, w64 ((i : Int) + 1) (by omega), w64 (left - rd s.weights i) (by omega), ← hr]
          refine (hK k (by omega)).trans ?_
          cases many with
          | true => rw [if_pos (.inl rfl), chk_many s n (i + 1) (1048576 - left) (1048576 - (left - rd s.weights i))]
          | false => rw [if_neg (by simp; omega), show 1048576 - (left - rd s.weights i) = 1048576 - left + rd s.weights i by omega]
      obtain ⟨K, hK⟩ := e_l1 s hm hw hc left many i (by omega) r hcont s.cols.toNat 0 (by have := hok.c0; omega)
      refine ⟨K + 2, fun k hk => ?_⟩
      obtain ⟨k, rfl⟩ : ∃ k', k = k' + 2 := ⟨k - 2, by omega⟩
      show hornbeamref19_Check.l0 (k + 1 + 1) left many i s.kind s.classes s.bins s.trees s.depth s.leaf s.pick s.rows s.cols s.cells s.targets s.weights = _
      rw [hornbeamref19_Check.l0, if_pos (by omega), if_pos (by omega), if_pos (by omega), if_neg h1, if_pos (by omega), e_target k _ _ _ _ _ _ _ _ hcl, Option.bind_some, chkFrom, hr]
      unfold rowErr
      rw [if_neg h1]
      by_cases h2 : tgt s.kind s.classes (rd s.targets i) = 0
      · have h3 : ¬ (tgt s.kind s.classes (rd s.targets i) ≠ 0) := by simp [h2]
        rw [if_pos h2, if_neg h3]
        refine (hK (k + 1) (by omega)).trans ?_
        cases badFrom s i 0 s.cols.toNat <;> rfl
      · rw [if_neg h2, if_pos h2, if_pos h2]
theorem cfg_classes {s : Smp} (h : cfgOk s = 0) : s.kind = 0 → s.classes ≤ 256 := by
  intro hk
  rw [cfgOk, hk] at h
  unfold cfgCheck at h
  rw [cfgTest_ok (by decide) (by decide) (by decide)] at h
  by_cases h1 : s.classes ≤ 256
  · exact h1
  · rw [cfgTest_high (show ¬ s.classes < (if (0 : Int) = 1 then 0 else 2) by rw [if_neg (by decide)]; omega) (by simp) (by omega)] at h
    cases h
theorem e_check (s : Smp) (hw : SmpWf s) : ∃ k, hornbeamref19_Check.f k s.kind s.classes s.bins s.trees s.depth s.leaf s.pick s.rows s.cols s.cells s.targets s.weights = some (growCheck s) := by
  by_cases h0 : smpRight s = true
  · have hok := smpOk_of h0
    have hm : matRight s.rows s.cols s.cells.length = true := by
      unfold smpRight at h0
      simp only [Bool.and_eq_true] at h0
      exact h0.2.1
    have hr0 := hok.r0
    have hc0 := hok.c0
    by_cases h1 : s.rows < 1
    · refine ⟨2, ?_⟩
      unfold hornbeamref19_Check.f growCheck
      rw [e_right13, Option.bind_some, h0, if_pos rfl, if_pos h1, hornbeamref19_Check.j0, if_pos rfl, if_neg (by omega)]
    · by_cases h2 : s.cols < 1
      · refine ⟨2, ?_⟩
        unfold hornbeamref19_Check.f growCheck
        rw [e_right13, Option.bind_some, h0, if_pos rfl, if_neg h1, if_pos h2, hornbeamref19_Check.j0, if_pos rfl, if_neg (by omega)]
      · by_cases h3 : s.cols > 1024
        · refine ⟨2, ?_⟩
          unfold hornbeamref19_Check.f growCheck
          rw [e_right13, Option.bind_some, h0, if_pos rfl, if_neg h1, if_neg h2, hornbeamref19_Check.j0, if_pos (decide_eq_true h3), if_neg (by omega)]
        · obtain ⟨K, hK⟩ := e_l0 s hok hm hw (by omega) (cfg_classes hok.cfg) s.weights.length 0 1048576 false (by have := hok.weights; omega) (by decide) (by decide)
          refine ⟨K + 2, ?_⟩
          unfold hornbeamref19_Check.f growCheck
          rw [e_right13, Option.bind_some, h0, if_pos rfl, if_neg h1, if_neg h2, hornbeamref19_Check.j0, if_neg (by simpa using h3), if_pos ⟨rfl, by omega, by omega, by omega⟩]
          exact hK (K + 1) (by omega)
  · refine ⟨2, ?_⟩
    unfold hornbeamref19_Check.f growCheck
    rw [e_right13, Option.bind_some, if_neg h0, hornbeamref19_Check.j0, if_pos rfl, if_neg (fun h => h0 h.1)]
theorem refCheck_calls (s : Smp) (p : SmpAt) (w : World) (HS : SmpRd w s p) :
    Calls Tryz.prog 13 #[.agg (smpA s p)] w fun e w' => e = .returned (.int .i64 (growCheck s)) ∧ Below w.heap.size w w' := by
  obtain ⟨k, hk⟩ := e_check s HS.wf
  exact hornbeamref19_Check.calls k _ _ _ _ _ _ _ _ _ p.Ac p.cc s.cells p.At p.ct s.targets p.Aw p.cw s.weights _ w HS.hc HS.lc HS.ht HS.lt HS.hw HS.lw hk
end Go.Proofs.YtkjijponijmdkaaGreat
