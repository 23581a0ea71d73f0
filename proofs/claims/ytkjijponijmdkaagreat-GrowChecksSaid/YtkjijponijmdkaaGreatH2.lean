/-
  Contract: law19.GrowChecks, by what ref19.Check answers.
-/
import Derived.Test.YtkjijponijmdkaaGreatH1
import Derived.Test.YtkjijponijmdkaaGreatF2
namespace Go.Proofs.YtkjijponijmdkaaGreat
open Go.RowKit Go.Proofs.YtkjijponijmdkaaGreatW.PrintWords

theorem great_is (s : Smp) (p : SmpAt) (b : Bool) (h : great13 s = b) (w : World) (hc : s.cells.length ≤ 9223372036854775807) (ht : s.targets.length ≤ 9223372036854775807) (hw : s.weights.length ≤ 9223372036854775807) :
    Calls Tryz.prog 10 #[.agg (smpA s p)] w fun e w' => e = .returned (.bool b) ∧ Below w.heap.size w w' := by
  rw [← h]
  exact great13_calls s p w hc ht hw

set_option maxHeartbeats 2000000 in
set_option maxRecDepth 100000 in
theorem growChecks_calls (s : Smp) (p : SmpAt) (w : World) (HS : SmpRd w s p)
    (href : ∀ W, great13 s = false → SmpRd W s p → Calls Tryz.prog 13 #[.agg (smpA s p)] W fun e w' => e = .returned (.int .i64 (growCheck s)) ∧ Below W.heap.size W w') :
    Calls Tryz.prog 3 #[.agg (smpA s p)] w fun e w' => e = .returned (.bool true) ∧ Below w.heap.size w w' := by
  obtain ⟨y, hy⟩ : ∃ y, great13 s = y := ⟨_, rfl⟩
  obtain ⟨x, hx⟩ : ∃ x, growCheck s = x := ⟨_, rfl⟩
  have C0 := Aside0.mk (fun W => great_is s p y hy W HS.hc.2.1 HS.ht.2.1 HS.hw.2.1)
  have C1 := Aside0.mk (fun W h => growCheck_is s p x hx W h)
  have CF := Aside0.mk fixed_calls
  have HS := Aside0.mk HS
  rw [hx] at href
  rw [hy] at href
  have CR := Aside0.mk href
  clear hx hy href
  obtain ⟨Ac, cc, At, ct, Aw, cw⟩ := p
  unfold smpA at C0 C1 CR ⊢
  dsimp only at C0 C1 CR ⊢
  cases y with
  | true =>
    go_enter Tryz.func3, Tryz.ntmps3
    go_wp2_with (first | (go_at_call 10; (with_reducible refine (C0.out _).mono ?_); rintro e w1 ⟨rfl, hb1⟩; have hX1 := Aside0.mk (smp_cells hb1); have hx1 := fun j => blk_cell hX1.out j; have hB1 := Aside0.mk (below_step (below_alloc (Below.refl _ _) _) hb1); clear hb1) | (go_at_call 11; (with_reducible refine (CF.out _).mono ?_); rintro e w2 ⟨rfl, hb2⟩; have hB2 := Aside0.mk (below_step hB1.out hb2); clear hb2))
    go_ret
    exact ⟨rfl, hB2.out⟩
  | false =>
    go_enter Tryz.func3, Tryz.ntmps3
    go_wp2_with (go_at_call 10; (with_reducible refine (C0.out _).mono ?_); rintro e w1 ⟨rfl, hb1⟩; have hX1 := Aside0.mk (smp_cells hb1); have hx1 := fun j => blk_cell hX1.out j; have hB1 := Aside0.mk (below_step (below_alloc (Below.refl _ _) _) hb1); clear hb1)
    go_region_held3 (fun w2 => w2.cell? ⟨w.heap.size, 0, none⟩ = some (.int .i64 s.kind) ∧ w2.cell? ⟨w.heap.size, 1, none⟩ = some (.int .i64 s.classes) ∧ w2.cell? ⟨w.heap.size, 2, none⟩ = some (.int .i64 s.bins) ∧ w2.cell? ⟨w.heap.size, 3, none⟩ = some (.int .i64 s.trees) ∧ w2.cell? ⟨w.heap.size, 4, none⟩ = some (.int .i64 s.depth) ∧ w2.cell? ⟨w.heap.size, 5, none⟩ = some (.int .i64 s.leaf) ∧ w2.cell? ⟨w.heap.size, 6, none⟩ = some (.int .i64 s.pick) ∧ w2.cell? ⟨w.heap.size, 7, none⟩ = some (.int .i64 s.rows) ∧ w2.cell? ⟨w.heap.size, 8, none⟩ = some (.int .i64 s.cols) ∧ w2.cell? ⟨w.heap.size, 9, none⟩ = some (.slice Ac s.cells.length cc) ∧ w2.cell? ⟨w.heap.size, 10, none⟩ = some (.slice At s.targets.length ct) ∧ w2.cell? ⟨w.heap.size, 11, none⟩ = some (.slice Aw s.weights.length cw)) (go_keep) (first | (go_at_call 11; refine (CF.out _).mono ?_; rintro e w2 ⟨rfl, hb2⟩; have hX2 := Aside0.mk (blk_below (blk_drew hX1.out) hb2); have hx2 := fun j => blk_cell hX2.out j; have hB2 := Aside0.mk (below_step (below_drew hB1.out) hb2); clear hb2) | (go_at_call 12; (refine (C1.out _ (HS.out.below hB2.out)).mono ?_); rintro e w3 ⟨rfl, hb3⟩; have hX3 := Aside0.mk (blk_below hX2.out hb3); have hx3 := fun j => blk_cell hX3.out j; have hB3 := Aside0.mk (below_step hB2.out hb3); clear hb3) | (go_at_call 13; (refine (CR.out _ (by simp) (HS.out.below hB3.out)).mono ?_); rintro e w4 ⟨rfl, hb4⟩; have hX4 := Aside0.mk (blk_below hX3.out hb4); have hx4 := fun j => blk_cell hX4.out j; have hB4 := Aside0.mk (below_step hB3.out hb4); clear hb4))
    go_wp2_with fail
    go_ret
    exact ⟨rfl, hB4.out⟩
end Go.Proofs.YtkjijponijmdkaaGreat
