/-
  Contract: grow.row.
-/
import Derived.Test.YtkjijponijmdkaaGreatK4
import Derived.StillTailTactics
namespace Go.Proofs.YtkjijponijmdkaaGreat
open Go.RowKit Go.Proofs.YtkjijponijmdkaaGreatW.PrintWords

set_option maxHeartbeats 1000000 in
set_option maxRecDepth 100000 in
theorem row_calls (s : Smp) (p : SmpAt) (i : Nat) (w : World) (HS : SmpRd w s p) (hi : (i : Int) < s.rows) (hw : (s.weights.length : Int) = s.rows) (ht : (s.targets.length : Int) = s.rows)
    (hc : (s.cells.length : Int) = s.rows * s.cols) (h0 : 0 ≤ s.cols) (hm : s.rows * s.cols ≤ 281474976710656) (hcm : s.cols ≤ 16777216) :
    Calls Tryz.prog 23 #[.agg (smpA s p), .int .i64 i] w fun e w' => e = .returned (.int .i64 (rowErr s i)) ∧ Below w.heap.size w w' := by
  obtain ⟨ad, ea, hcw⟩ := Kd.at_int HS.hw i (by omega) (by omega)
  obtain ⟨ae, ee, hct⟩ := Kd.at_int HS.ht i (by omega) (by omega)
  have HS := Aside0.mk HS
  obtain ⟨Ac, cc, At, ct, Aw, cw⟩ := p
  dsimp only at ea ee
  subst ea ee
  unfold smpA
  dsimp only
  have lw : (i : Int) < s.weights.length := by omega
  have lt : (i : Int) < s.targets.length := by omega
  have hcw : w.cell? (ad.add i) = some (.int .i64 (rd s.weights i)) := hcw
  have hct : w.cell? (ae.add i) = some (.int .i64 (rd s.targets i)) := hct
  have hcw' : ∀ o, (w.alloc o).cell? (ad.add i) = some (.int .i64 (rd s.weights i)) := fun o => pw_cell_below (below_alloc (Below.refl _ _) _) hcw
  have hct' : ∀ o, (w.alloc o).cell? (ae.add i) = some (.int .i64 (rd s.targets i)) := fun o => pw_cell_below (below_alloc (Below.refl _ _) _) hct
  by_cases h1 : rd s.weights i < 0
  · have HR := Aside0.mk (show rowErr s i = 1 from if_pos h1)
    go_enter Tryz.func23, Tryz.ntmps23
    go_wp2_with fail
    go_ret
    exact ⟨ret_i64 HR.out.symm, below_alloc (Below.refl _ _) _⟩
  · obtain ⟨x, hx⟩ : ∃ x, tgt s.kind s.classes (rd s.targets i) = x := ⟨_, rfl⟩
    have C1 := Aside0.mk (fun W => target_is s (rd s.targets i) x hx W)
    go_enter Tryz.func23, Tryz.ntmps23
    go_wp2_with fail
    go_region_held3 (fun w2 => w2.cell? ⟨w.heap.size, 0, none⟩ = some (.int .i64 s.kind) ∧ w2.cell? ⟨w.heap.size, 1, none⟩ = some (.int .i64 s.classes) ∧ w2.cell? ⟨w.heap.size, 2, none⟩ = some (.int .i64 s.bins) ∧ w2.cell? ⟨w.heap.size, 3, none⟩ = some (.int .i64 s.trees) ∧ w2.cell? ⟨w.heap.size, 4, none⟩ = some (.int .i64 s.depth) ∧ w2.cell? ⟨w.heap.size, 5, none⟩ = some (.int .i64 s.leaf) ∧ w2.cell? ⟨w.heap.size, 6, none⟩ = some (.int .i64 s.pick) ∧ w2.cell? ⟨w.heap.size, 10, none⟩ = some (.slice (some ae) s.targets.length ct) ∧ w2.cell? (ae.add i) = some (.int .i64 (rd s.targets i))) (go_keep) (first | (go_at_call 43; (with_reducible refine (C1.out _).mono ?_); rintro e w2 ⟨rfl, hb⟩; have hX2 := Aside0.mk (blk_below (blk_drew (blk_new w _)) hb); have hx2 := fun j => blk_cell hX2.out j; have hy2 := pw_cell_below (below_step (below_drew (below_alloc (Below.refl _ _) _)) hb) hct; have hB2 := Aside0.mk (below_step (below_drew (below_alloc (Below.refl _ _) _)) hb); clear hb))
    by_cases hx0 : x = 0
    · subst hx0
      have HR := Aside0.mk (show rowErr s i = if badFrom s i 0 s.cols.toNat = true then 5 else 0 by unfold rowErr; rw [if_neg (by omega), hx, if_neg (by simp)])
      clear hx C1 hcw' hct'
      go_wp2_with fail
      clear hx2 hy2
      have HX := hX2
      have HB := hB2
      clear hX2 hB2
      go_loopw [4, 6, 27] (fun r _ v wr => ∃ j : Nat, (j : Int) ≤ s.cols ∧ v = .int .i64 j ∧ Below w.heap.size w wr ∧ wr.heap[w.heap.size]? = some (.cells #[.int .i64 s.kind, .int .i64 s.classes, .int .i64 s.bins, .int .i64 s.trees, .int .i64 s.depth, .int .i64 s.leaf, .int .i64 s.pick, .int .i64 s.rows, .int .i64 s.cols, .slice Ac s.cells.length cc, .slice (some ae) s.targets.length ct, .slice (some ad) s.weights.length cw] 30 (0, 0)) ∧ Aside0 (badFrom s i j (s.cols.toNat - j) = badFrom s i 0 s.cols.toNat))
        (fun _ _ v _ => s.cols.toNat - (intOf v).toNat)
      case atStart => exact ⟨0, h0, rfl, HB.out, HX.out, ⟨rfl⟩⟩
      case round =>
        obtain ⟨j, hj, rfl, hB, hX, hC⟩ := hrel
        by_cases hlt : (j : Int) < s.cols
        · obtain ⟨q1, q2, q3, q4⟩ := at_place (rows := s.rows) (cols := s.cols) (j := j) (i := i) (by omega) hlt (by omega) hi
          obtain ⟨af, ef, hcc⟩ := Kd.at_int HS.out.hc ((j : Int) * s.rows + i) q1 (by omega)
          dsimp only at ef
          subst ef
          have hcc := (hB.cell (World.block_lt_of_cell? w _ hcc)).trans hcc
          have hcr := HS.out.wf.cells ((j : Int) * s.rows + i)
          have hx := fun j => blk_cell hX j
          have HX := Aside0.mk hX
          have HB := Aside0.mk hB
          have w1 : IntKind.i64.wrap ((j : Int) * s.rows) = (j : Int) * s.rows := IntWalk.i64_in _ (by omega)
          have w2 : IntKind.i64.wrap ((j : Int) * s.rows + i) = (j : Int) * s.rows + i := IntWalk.i64_in _ (by omega)
          have lc : (j : Int) * s.rows + i < s.cells.length := by omega
          obtain ⟨m, hm1⟩ : ∃ m, s.cols.toNat - j = m + 1 := ⟨s.cols.toNat - j - 1, by omega⟩
          by_cases hbad : s.bins < rd s.cells ((j : Int) * s.rows + i)
          · have HE := Aside0.mk (show rowErr s i = 5 by rw [HR.out, ← hC.out, hm1]; simp [badFrom, hbad])
            clear hX hB HR hC hm1
            go_wp2_with fail
            go_quiet (fail)
            go_wp2_with fail
            go_ret
            exact ⟨ret_i64 HE.out.symm, pw_below_drewN HB.out _⟩
          · have HE := Aside0.mk (show badFrom s i (j + 1) (s.cols.toNat - (j + 1)) = badFrom s i 0 s.cols.toNat by rw [← hC.out, hm1, show s.cols.toNat - (j + 1) = m by omega]; simp [badFrom, hbad])
            clear hX hB hC hm1
            go_wp2_with fail
            go_quiet (fail)
            go_wp2_with fail
            go_roundw
            case rel => exact ⟨j + 1, by omega, by go_num, pw_below_drewN HB.out _, blk_drewN HX.out _, HE⟩
            case measure => simp [intOf]; omega
        · have HX := Aside0.mk hX
          have HB := Aside0.mk hB
          have HE := Aside0.mk (show rowErr s i = 0 by rw [HR.out, ← hC.out, show s.cols.toNat - j = 0 by omega]; rfl)
          clear hX hB hC HR
          go_wp2_with fail
          go_ret
          exact ⟨ret_i64 HE.out.symm, HB.out⟩
    · have b0 : (x != 0) = true := by simpa using hx0
      have HR := Aside0.mk (show rowErr s i = x by unfold rowErr; rw [if_neg (by omega), hx, if_pos hx0])
      clear hx hx0
      go_wp2_with fail
      go_ret
      exact ⟨ret_i64 HR.out.symm, hB2.out⟩
end Go.Proofs.YtkjijponijmdkaaGreat
