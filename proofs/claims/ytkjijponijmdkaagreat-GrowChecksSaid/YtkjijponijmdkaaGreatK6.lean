/-
  Contract: grow.Check.
-/
import Derived.Test.YtkjijponijmdkaaGreatK5
namespace Go.Proofs.YtkjijponijmdkaaGreat
open Go.RowKit Go.Proofs.YtkjijponijmdkaaGreatW.PrintWords

/-- What is wrong with a sample's rows from row i on, n rows; the weight till there; whether that was too much. -/
def chkFrom (s : Smp) : Nat → Nat → Int → Bool → Int
  | _, 0, total, many => if many = true then 4 else if total = 0 then 1 else 0
  | i, n + 1, total, many => if rowErr s i ≠ 0 then rowErr s i else
      if many = true ∨ 1048576 - total < rd s.weights i then chkFrom s (i + 1) n total true else chkFrom s (i + 1) n (total + rd s.weights i) false
def growCheck (s : Smp) : Int := if smpRight s = true ∧ s.rows ≠ 0 ∧ s.cols ≠ 0 ∧ s.cols ≤ 1024 then chkFrom s 0 s.weights.length 0 false else 8

structure SmpOk (s : Smp) : Prop where
  cfg : cfgOk s = 0
  r0 : 0 ≤ s.rows
  r1 : s.rows ≤ 16777216
  c0 : 0 ≤ s.cols
  c1 : s.cols ≤ 16777216
  cells : (s.cells.length : Int) = s.rows * s.cols
  targets : (s.targets.length : Int) = s.rows
  weights : (s.weights.length : Int) = s.rows
theorem smpOk_of {s : Smp} (h : smpRight s = true) : SmpOk s := by
  unfold smpRight matRight at h
  simp only [Bool.and_eq_true, decide_eq_true_eq] at h
  obtain ⟨h1, ⟨h2, h3, h4⟩, h5, h6⟩ := h
  have a := cnt_yes h2
  have b := cnt_yes h3
  exact ⟨h1, a.1, a.2, b.1, b.2, h4, h5, h6⟩
theorem SmpOk.prod {s : Smp} (h : SmpOk s) : s.rows * s.cols ≤ 281474976710656 :=
  (mul_cells (a := s.rows) (b := s.cols) (decide_eq_true ⟨h.r0, h.r1⟩) (decide_eq_true ⟨h.c0, h.c1⟩)).2
theorem row_is (s : Smp) (p : SmpAt) (i : Nat) (w : World) (HS : SmpRd w s p) (hok : SmpOk s) (hi : (i : Int) < s.rows) (x : Int) (hx : rowErr s i = x) :
    Calls Tryz.prog 23 #[.agg (smpA s p), .int .i64 i] w fun e w' => e = .returned (.int .i64 x) ∧ Below w.heap.size w w' := by
  rw [← hx]
  exact row_calls s p i w HS hi hok.weights hok.targets hok.cells hok.c0 hok.prod hok.c1
theorem smpRight_is (s : Smp) (p : SmpAt) (b : Bool) (h : smpRight s = b) (w : World) :
    Calls Tryz.prog 22 #[.agg (smpA s p)] w fun e w' => e = .returned (.bool b) ∧ Below w.heap.size w w' := by
  rw [← h]
  exact smpRight_calls s p w
theorem rowErr_w {s : Smp} {i : Nat} (h : rowErr s i = 0) : 0 ≤ rd s.weights i := by
  unfold rowErr at h
  by_cases h1 : rd s.weights i < 0
  · rw [if_pos h1] at h
    omega
  · omega

set_option maxHeartbeats 1000000 in
set_option maxRecDepth 100000 in
theorem growCheck_calls (s : Smp) (p : SmpAt) (w : World) (HS : SmpRd w s p) :
    Calls Tryz.prog 12 #[.agg (smpA s p)] w fun e w' => e = .returned (.int .i64 (growCheck s)) ∧ Below w.heap.size w w' := by
  have HS := Aside0.mk HS
  obtain ⟨y, hy⟩ : ∃ y, smpRight s = y := ⟨_, rfl⟩
  have C1 := Aside0.mk (fun W => smpRight_is s p y hy W)
  obtain ⟨Ac, cc, At, ct, Aw, cw⟩ := p
  unfold smpA at C1 ⊢
  dsimp only at C1 ⊢
  cases y with
  | false =>
    have HR := Aside0.mk (show growCheck s = 8 by unfold growCheck; rw [if_neg (by simp [hy])])
    clear hy
    go_enter Tryz.func12, Tryz.ntmps12
    go_wp2_with (go_at_call 22; (with_reducible refine (C1.out _).mono ?_); rintro e w1 ⟨rfl, hb1⟩)
    go_ret
    exact ⟨ret_i64 HR.out.symm, below_step (below_alloc (Below.refl _ _) _) hb1⟩
  | true =>
    have hok := smpOk_of hy
    have b1 := hok.r1
    have b2 := hok.c1
    have b0 := hok.r0
    have b3 := hok.c0
    have hok := Aside0.mk hok
    by_cases h1 : s.rows = 0
    · have c1 : (s.rows == 0) = true := by simpa using h1
      have HR := Aside0.mk (show growCheck s = 8 by unfold growCheck; rw [if_neg (by simp [h1])])
      clear hy h1
      go_enter Tryz.func12, Tryz.ntmps12
      go_wp2_with (go_at_call 22; (with_reducible refine (C1.out _).mono ?_); rintro e w1 ⟨rfl, hb1⟩; have hX1 := Aside0.mk (smp_cells hb1); have hB1 := Aside0.mk (below_step (below_alloc (Below.refl _ _) _) hb1); have hx1 := fun j => blk_cell hX1.out j; clear hb1)
      go_ret
      exact ⟨ret_i64 HR.out.symm, hB1.out⟩
    · have c1 : (s.rows == 0) = false := by simpa using h1
      by_cases h2 : s.cols = 0
      · have c2 : (s.cols == 0) = true := by simpa using h2
        have HR := Aside0.mk (show growCheck s = 8 by unfold growCheck; rw [if_neg (by simp [h2])])
        clear hy h1 h2
        go_enter Tryz.func12, Tryz.ntmps12
        go_wp2_with (go_at_call 22; (with_reducible refine (C1.out _).mono ?_); rintro e w1 ⟨rfl, hb1⟩; have hX1 := Aside0.mk (smp_cells hb1); have hB1 := Aside0.mk (below_step (below_alloc (Below.refl _ _) _) hb1); have hx1 := fun j => blk_cell hX1.out j; clear hb1)
        go_ret
        exact ⟨ret_i64 HR.out.symm, hB1.out⟩
      · have c2 : (s.cols == 0) = false := by simpa using h2
        by_cases h3 : 1024 < s.cols
        · have HR := Aside0.mk (show growCheck s = 8 by unfold growCheck; rw [if_neg (by intro h; omega)])
          clear hy h1 h2
          go_enter Tryz.func12, Tryz.ntmps12
          go_wp2_with (go_at_call 22; (with_reducible refine (C1.out _).mono ?_); rintro e w1 ⟨rfl, hb1⟩; have hX1 := Aside0.mk (smp_cells hb1); have hB1 := Aside0.mk (below_step (below_alloc (Below.refl _ _) _) hb1); have hx1 := fun j => blk_cell hX1.out j; clear hb1)
          go_ret
          exact ⟨ret_i64 HR.out.symm, hB1.out⟩
        · have HR := Aside0.mk (show growCheck s = chkFrom s 0 s.weights.length 0 false by unfold growCheck; rw [if_pos ⟨hy, h1, h2, by omega⟩])
          clear hy
          go_enter Tryz.func12, Tryz.ntmps12
          go_wp2_with (go_at_call 22; (with_reducible refine (C1.out _).mono ?_); rintro e w1 ⟨rfl, hb1⟩; have hX1 := Aside0.mk (smp_cells hb1); have hB1 := Aside0.mk (below_step (below_alloc (Below.refl _ _) _) hb1); have hx1 := fun j => blk_cell hX1.out j; clear hb1)
          clear hx1
          go_loopw [2, 3, 4, 5, 6, 7, 32] (fun _ T b _ _ _ v wr => ∃ (i : Nat) (t : Int) (m : Bool), i ≤ s.weights.length ∧ T = .int .i64 t ∧ b = .bool m ∧ v = .int .i64 i ∧ 0 ≤ t ∧ t ≤ 1048576 ∧ Below w.heap.size w wr ∧ wr.heap[w.heap.size]? = some (.cells #[.int .i64 s.kind, .int .i64 s.classes, .int .i64 s.bins, .int .i64 s.trees, .int .i64 s.depth, .int .i64 s.leaf, .int .i64 s.pick, .int .i64 s.rows, .int .i64 s.cols, .slice Ac s.cells.length cc, .slice At s.targets.length ct, .slice Aw s.weights.length cw] 30 (0, 0)) ∧ Aside0 (chkFrom s i (s.weights.length - i) t m = growCheck s))
            (fun _ _ _ _ _ _ v _ => s.weights.length - (intOf v).toNat)
          case atStart => exact ⟨0, 0, false, by omega, rfl, rfl, rfl, by omega, by omega, hB1.out, hX1.out, ⟨HR.out.symm⟩⟩
          case round =>
            obtain ⟨i, t, m, hi, rfl, rfl, rfl, t0, t1, hB, hX, hC⟩ := hrel
            have lw : (s.weights.length : Int) ≤ 16777216 := by have := hok.out.weights; omega
            by_cases hlt : i < s.weights.length
            · have hir : (i : Int) < s.rows := by have := hok.out.weights; omega
              obtain ⟨ad, ea, hcw⟩ := Kd.at_int HS.out.hw i (by omega) (by omega)
              dsimp only at ea
              subst ea
              have hcw : wr.cell? (ad.add i) = some (.int .i64 (rd s.weights i)) := (hB.cell (World.block_lt_of_cell? w _ hcw)).trans hcw
              obtain ⟨x, hx⟩ : ∃ x, rowErr s i = x := ⟨_, rfl⟩
              have C2 := Aside0.mk (row_is s ⟨Ac, cc, At, ct, some ad, cw⟩ i wr (HS.out.below hB) hok.out hir x hx)
              have hx1 := fun j => blk_cell hX j
              have HX := Aside0.mk hX
              have HB := Aside0.mk hB
              obtain ⟨n, hn⟩ : ∃ n, s.weights.length - i = n + 1 := ⟨s.weights.length - i - 1, by omega⟩
              have hn1 : s.weights.length - (i + 1) = n := by omega
              by_cases h0 : x = 0
              · subst h0
                have wp := rowErr_w hx
                cases m with
                | true =>
                  have HE := Aside0.mk (show chkFrom s (i + 1) (s.weights.length - (i + 1)) t true = growCheck s by rw [hn1, ← hC.out, hn]; simp [chkFrom, hx])
                  clear hX hB hC hx hn hn1
                  go_wp2_with (go_at_call 23; (with_reducible refine C2.out.mono ?_); rintro e w2 ⟨rfl, hb2⟩; have hX2 := Aside0.mk (blk_below HX.out hb2); have hB2 := Aside0.mk (below_step HB.out hb2); clear hb2)
                  go_roundw
                  case rel => exact ⟨i + 1, t, true, by omega, rfl, rfl, by go_num, by omega, by omega, hB2.out, hX2.out, HE⟩
                  case measure => simp [intOf]; omega
                | false =>
                  by_cases hgt : 1048576 - t < rd s.weights i
                  · have HE := Aside0.mk (show chkFrom s (i + 1) (s.weights.length - (i + 1)) t true = growCheck s by rw [hn1, ← hC.out, hn]; simp [chkFrom, hx, hgt])
                    have d1 : decide (1048576 - t < rd s.weights i) = true := decide_eq_true hgt
                    clear hX hB hC hx hn hn1
                    go_wp2_with (go_at_call 23; (with_reducible refine C2.out.mono ?_); rintro e w2 ⟨rfl, hb2⟩; have hX2 := Aside0.mk (blk_below HX.out hb2); have hB2 := Aside0.mk (below_step HB.out hb2); clear hb2)
                    go_roundw
                    case rel => exact ⟨i + 1, t, true, by omega, rfl, rfl, by go_num, by omega, by omega, hB2.out, hX2.out, HE⟩
                    case measure => simp [intOf]; omega
                  · have HE := Aside0.mk (show chkFrom s (i + 1) (s.weights.length - (i + 1)) (t + rd s.weights i) false = growCheck s by rw [hn1, ← hC.out, hn]; simp [chkFrom, hx, hgt])
                    have d1 : decide (1048576 - t < rd s.weights i) = false := decide_eq_false hgt
                    clear hX hB hC hx hn hn1
                    go_wp2_with (go_at_call 23; (with_reducible refine C2.out.mono ?_); rintro e w2 ⟨rfl, hb2⟩; have hX2 := Aside0.mk (blk_below HX.out hb2); have hB2 := Aside0.mk (below_step HB.out hb2); clear hb2)
                    go_roundw
                    case rel => exact ⟨i + 1, t + rd s.weights i, false, by omega, rfl, rfl, by go_num, by omega, by omega, hB2.out, hX2.out, HE⟩
                    case measure => simp [intOf]; omega
              · have b0 : (x != 0) = true := by simpa using h0
                have HE := Aside0.mk (show growCheck s = x by rw [← hC.out, hn]; simp [chkFrom, hx, h0])
                clear hX hB hC hx hn hn1 h0
                go_wp2_with (go_at_call 23; (with_reducible refine C2.out.mono ?_); rintro e w2 ⟨rfl, hb2⟩; have hX2 := Aside0.mk (blk_below HX.out hb2); have hB2 := Aside0.mk (below_step HB.out hb2); clear hb2)
                go_ret
                exact ⟨ret_i64 HE.out.symm, hB2.out⟩
            · have hn : s.weights.length - i = 0 := by omega
              have hx1 := fun j => blk_cell hX j
              have HB := Aside0.mk hB
              cases m with
              | true =>
                have HE := Aside0.mk (show growCheck s = 4 by rw [← hC.out, hn]; rfl)
                clear hX hB hC hn
                go_wp2_with fail
                go_ret
                exact ⟨ret_i64 HE.out.symm, HB.out⟩
              | false =>
                by_cases h0 : t = 0
                · have b0 : (t == 0) = true := by simpa using h0
                  have HE := Aside0.mk (show growCheck s = 1 by rw [← hC.out, hn]; simp [chkFrom, h0])
                  clear hX hB hC hn h0
                  go_wp2_with fail
                  go_ret
                  exact ⟨ret_i64 HE.out.symm, HB.out⟩
                · have b0 : (t == 0) = false := by simpa using h0
                  have HE := Aside0.mk (show growCheck s = 0 by rw [← hC.out, hn]; simp [chkFrom, h0])
                  clear hX hB hC hn h0
                  go_wp2_with fail
                  go_ret
                  exact ⟨ret_i64 HE.out.symm, HB.out⟩
end Go.Proofs.YtkjijponijmdkaaGreat
