/-
  Contract: config.Check.
-/
import Derived.Test.YtkjijponijmdkaaGreatK1
namespace Go.Proofs.YtkjijponijmdkaaGreat
open Go.RowKit Go.Proofs.YtkjijponijmdkaaGreatW.PrintWords

def lowC (s : Smp) : Int := if s.kind = 1 then 0 else 2
def cfgRest (s : Smp) : Nat → Int
  | 0 => cfgCheck s.kind s.classes s.bins s.trees s.depth s.leaf s.pick
  | 1 => cfgTest s.classes (lowC s) 256 (decide (s.kind = 1 ∧ s.classes ≠ 0)) (cfgTest s.bins 2 256 false (cfgTest s.trees 1 4096 false (cfgTest s.depth 0 32 false (cfgTest s.leaf 1 1048576 false (cfgTest s.pick 1 1024 false 0)))))
  | 2 => cfgTest s.bins 2 256 false (cfgTest s.trees 1 4096 false (cfgTest s.depth 0 32 false (cfgTest s.leaf 1 1048576 false (cfgTest s.pick 1 1024 false 0))))
  | 3 => cfgTest s.trees 1 4096 false (cfgTest s.depth 0 32 false (cfgTest s.leaf 1 1048576 false (cfgTest s.pick 1 1024 false 0)))
  | 4 => cfgTest s.depth 0 32 false (cfgTest s.leaf 1 1048576 false (cfgTest s.pick 1 1024 false 0))
  | 5 => cfgTest s.leaf 1 1048576 false (cfgTest s.pick 1 1024 false 0)
  | 6 => cfgTest s.pick 1 1024 false 0
  | _ => 0

theorem cfgTest_low {n low high : Int} {f : Bool} {r : Int} (h : n < low) : cfgTest n low high f r = 3 := by unfold cfgTest; rw [if_pos h]
theorem cfgTest_form {n low high : Int} {f : Bool} {r : Int} (h : ¬ n < low) (hf : f = true) : cfgTest n low high f r = 3 := by unfold cfgTest; rw [if_neg h, if_pos hf]
theorem cfgTest_high {n low high : Int} {f : Bool} {r : Int} (h : ¬ n < low) (hf : f = false) (hh : high < n) : cfgTest n low high f r = 4 := by unfold cfgTest; rw [if_neg h, if_neg (by simp [hf]), if_pos hh]
theorem cfgTest_ok {n low high : Int} {f : Bool} {r : Int} (h : ¬ n < low) (hf : f = false) (hh : ¬ high < n) : cfgTest n low high f r = r := by unfold cfgTest; rw [if_neg h, if_neg (by simp [hf]), if_neg hh]
theorem index_f0 (s : Smp) (lo : Int) (w : World) : (Instr.index 123 (.agg (fieldsA s lo)) (.int .i64 0)).run Tryz.prog w = .ok (.agg #[.int .i64 s.kind, .int .i64 0, .int .i64 1, .int .i64 1]) w := by kernel_rfl
theorem index_f1 (s : Smp) (lo : Int) (w : World) : (Instr.index 123 (.agg (fieldsA s lo)) (.int .i64 1)).run Tryz.prog w = .ok (.agg #[.int .i64 s.classes, .int .i64 lo, .int .i64 256, .int .i64 2]) w := by kernel_rfl
theorem index_f2 (s : Smp) (lo : Int) (w : World) : (Instr.index 123 (.agg (fieldsA s lo)) (.int .i64 2)).run Tryz.prog w = .ok (.agg #[.int .i64 s.bins, .int .i64 2, .int .i64 256, .int .i64 2]) w := by kernel_rfl
theorem index_f3 (s : Smp) (lo : Int) (w : World) : (Instr.index 123 (.agg (fieldsA s lo)) (.int .i64 3)).run Tryz.prog w = .ok (.agg #[.int .i64 s.trees, .int .i64 1, .int .i64 4096, .int .i64 2]) w := by kernel_rfl
theorem index_f4 (s : Smp) (lo : Int) (w : World) : (Instr.index 123 (.agg (fieldsA s lo)) (.int .i64 4)).run Tryz.prog w = .ok (.agg #[.int .i64 s.depth, .int .i64 0, .int .i64 32, .int .i64 1]) w := by kernel_rfl
theorem index_f5 (s : Smp) (lo : Int) (w : World) : (Instr.index 123 (.agg (fieldsA s lo)) (.int .i64 5)).run Tryz.prog w = .ok (.agg #[.int .i64 s.leaf, .int .i64 1, .int .i64 1048576, .int .i64 4]) w := by kernel_rfl
theorem index_f6 (s : Smp) (lo : Int) (w : World) : (Instr.index 123 (.agg (fieldsA s lo)) (.int .i64 6)).run Tryz.prog w = .ok (.agg #[.int .i64 s.pick, .int .i64 1, .int .i64 1024, .int .i64 2]) w := by kernel_rfl
set_option maxHeartbeats 1000000 in
theorem check_calls (s : Smp) (w : World) :
    Calls Tryz.prog 41 #[.agg (cfgA s)] w fun e w' => e = .returned (.int .i64 (cfgCheck s.kind s.classes s.bins s.trees s.depth s.leaf s.pick)) ∧ Below w.heap.size w w' := by
  have hF : ∀ W, Calls Tryz.prog 63 #[.agg (cfgA s)] W fun e w' => e = .returned (.agg (fieldsA s (lowC s))) ∧ Below W.heap.size W w' := by
    intro W
    unfold lowC
    split
    · exact fields_means s ‹_› W
    · exact fields_classes s ‹_› W
  have HF := Lib.hid hF
  clear hF
  unfold cfgA at HF ⊢
  go_enter Tryz.func41, Tryz.ntmps41
  go_wp2_with (go_at_call 63; refine (HF.out _).mono ?_; rintro e w' ⟨rfl, hb⟩)
  have hbx : w'.heap[w.heap.size]? = some (.cells #[.int .i64 s.kind, .int .i64 s.classes, .int .i64 s.bins, .int .i64 s.trees, .int .i64 s.depth, .int .i64 s.leaf, .int .i64 s.pick] 23 (0, 0)) := blk_below (blk_new _ _) hb
  have HX := Aside0.mk hbx
  have hB : Below w.heap.size w w' := below_step (below_alloc (Below.refl _ _) _) hb
  have HB := Aside0.mk hB
  clear hb hbx hB
  go_loopw [2, 7] (fun r i wr => ∃ k : Nat, k ≤ 7 ∧ i = .int .i64 k ∧ r = .int .i64 0 ∧ Below w.heap.size w wr ∧ wr.heap[w.heap.size]? = some (.cells #[.int .i64 s.kind, .int .i64 s.classes, .int .i64 s.bins, .int .i64 s.trees, .int .i64 s.depth, .int .i64 s.leaf, .int .i64 s.pick] 23 (0, 0)) ∧ Aside0 (cfgRest s k = cfgRest s 0))
    (fun _ i _ => 7 - (intOf i).toNat)
  case atStart => exact ⟨0, by omega, rfl, rfl, HB.out, HX.out, ⟨rfl⟩⟩
  case round =>
    obtain ⟨k, hk, rfl, rfl, hB, hX, hC⟩ := hrel
    have HB := Aside0.mk hB
    have HX := Aside0.mk hX
    have hck := blk_cell hX 0
    have hcf : ∀ o, (wr.alloc o).cell? ⟨w.heap.size, 0, none⟩ = some (.int .i64 s.kind) := fun o => blk_cell (blk_alloc hX o) 0
    clear hB hX hck
    rcases (by omega : k = 0 ∨ k = 1 ∨ k = 2 ∨ k = 3 ∨ k = 4 ∨ k = 5 ∨ k = 6 ∨ k = 7) with rfl | rfl | rfl | rfl | rfl | rfl | rfl | rfl
    · have hi := index_f0 s (lowC s)
      unfold fieldsA at hi
      by_cases b1 : s.kind < 0
      · have HR := Aside0.mk (show cfgRest s 0 = _ from hC.out.symm.trans (cfgTest_low b1))
        clear hC
        go_wp2_with fail
        go_ret
        exact ⟨congrArg (fun x => Ending.returned (.int .i64 x)) HR.out.symm, below_alloc HB.out _⟩
      · by_cases b2 : 1 < s.kind
        · have HR := Aside0.mk (show cfgRest s 0 = _ from hC.out.symm.trans (cfgTest_form b1 (decide_eq_true b2)))
          clear hC
          go_wp2_with fail
          go_ret
          exact ⟨congrArg (fun x => Ending.returned (.int .i64 x)) HR.out.symm, below_alloc HB.out _⟩
        · have HR := Aside0.mk (show cfgRest s 1 = cfgRest s 0 from Eq.trans (cfgTest_ok b1 (decide_eq_false b2) b2).symm hC.out)
          clear hC
          go_wp2_with fail
          go_roundw
          case rel => exact ⟨1, by omega, by go_num, rfl, below_alloc HB.out _, blk_alloc HX.out _, HR⟩
          case measure => simp [intOf]
    · have hi := index_f1 s (lowC s)
      unfold fieldsA at hi
      by_cases b1 : s.classes < lowC s
      · have HR := Aside0.mk (show cfgRest s 0 = _ from hC.out.symm.trans (cfgTest_low b1))
        clear hC
        go_wp2_with fail
        go_ret
        exact ⟨congrArg (fun x => Ending.returned (.int .i64 x)) HR.out.symm, below_alloc HB.out _⟩
      · by_cases b2 : s.kind = 1
        · have c2 : (s.kind == 1) = true := by simpa using b2
          by_cases b3 : s.classes = 0
          · have c3 : (s.classes != 0) = false := by simpa using b3
            have f3 : decide (s.kind = 1 ∧ s.classes ≠ 0) = false := decide_eq_false (fun h => h.2 b3)
            have b4 : ¬ 256 < s.classes := by omega
            have HR := Aside0.mk (show cfgRest s 2 = cfgRest s 0 from Eq.trans (cfgTest_ok b1 f3 b4).symm hC.out)
            clear hC f3 b2 b3
            go_wp2_with fail
            go_roundw
            case rel => exact ⟨2, by omega, by go_num, rfl, below_alloc HB.out _, blk_alloc HX.out _, HR⟩
            case measure => simp [intOf]
          · have c3 : (s.classes != 0) = true := by simpa using b3
            have f3 : decide (s.kind = 1 ∧ s.classes ≠ 0) = true := decide_eq_true ⟨b2, b3⟩
            have HR := Aside0.mk (show cfgRest s 0 = _ from hC.out.symm.trans (cfgTest_form b1 f3))
            clear hC f3 b2 b3
            go_wp2_with fail
            go_ret
            exact ⟨congrArg (fun x => Ending.returned (.int .i64 x)) HR.out.symm, below_alloc HB.out _⟩
        · have c2 : (s.kind == 1) = false := by simpa using b2
          have f3 : decide (s.kind = 1 ∧ s.classes ≠ 0) = false := decide_eq_false (fun h => b2 h.1)
          by_cases b4 : 256 < s.classes
          · have HR := Aside0.mk (show cfgRest s 0 = _ from hC.out.symm.trans (cfgTest_high b1 f3 b4))
            clear hC f3 b2
            go_wp2_with fail
            go_ret
            exact ⟨congrArg (fun x => Ending.returned (.int .i64 x)) HR.out.symm, below_alloc HB.out _⟩
          · have HR := Aside0.mk (show cfgRest s 2 = cfgRest s 0 from Eq.trans (cfgTest_ok b1 f3 b4).symm hC.out)
            clear hC f3 b2
            go_wp2_with fail
            go_roundw
            case rel => exact ⟨2, by omega, by go_num, rfl, below_alloc HB.out _, blk_alloc HX.out _, HR⟩
            case measure => simp [intOf]
    · have hi := index_f2 s (lowC s)
      unfold fieldsA at hi
      by_cases b1 : s.bins < 2
      · have HR := Aside0.mk (show cfgRest s 0 = _ from hC.out.symm.trans (cfgTest_low b1))
        clear hC
        go_wp2_with fail
        go_ret
        exact ⟨congrArg (fun x => Ending.returned (.int .i64 x)) HR.out.symm, below_alloc HB.out _⟩
      · by_cases b2 : 256 < s.bins
        · have HR := Aside0.mk (show cfgRest s 0 = _ from hC.out.symm.trans (cfgTest_high b1 rfl b2))
          clear hC
          go_wp2_with fail
          go_ret
          exact ⟨congrArg (fun x => Ending.returned (.int .i64 x)) HR.out.symm, below_alloc HB.out _⟩
        · have HR := Aside0.mk (show cfgRest s 3 = cfgRest s 0 from Eq.trans (cfgTest_ok b1 rfl b2).symm hC.out)
          clear hC
          go_wp2_with fail
          go_roundw
          case rel => exact ⟨3, by omega, by go_num, rfl, below_alloc HB.out _, blk_alloc HX.out _, HR⟩
          case measure => simp [intOf]
    · have hi := index_f3 s (lowC s)
      unfold fieldsA at hi
      by_cases b1 : s.trees < 1
      · have HR := Aside0.mk (show cfgRest s 0 = _ from hC.out.symm.trans (cfgTest_low b1))
        clear hC
        go_wp2_with fail
        go_ret
        exact ⟨congrArg (fun x => Ending.returned (.int .i64 x)) HR.out.symm, below_alloc HB.out _⟩
      · by_cases b2 : 4096 < s.trees
        · have HR := Aside0.mk (show cfgRest s 0 = _ from hC.out.symm.trans (cfgTest_high b1 rfl b2))
          clear hC
          go_wp2_with fail
          go_ret
          exact ⟨congrArg (fun x => Ending.returned (.int .i64 x)) HR.out.symm, below_alloc HB.out _⟩
        · have HR := Aside0.mk (show cfgRest s 4 = cfgRest s 0 from Eq.trans (cfgTest_ok b1 rfl b2).symm hC.out)
          clear hC
          go_wp2_with fail
          go_roundw
          case rel => exact ⟨4, by omega, by go_num, rfl, below_alloc HB.out _, blk_alloc HX.out _, HR⟩
          case measure => simp [intOf]
    · have hi := index_f4 s (lowC s)
      unfold fieldsA at hi
      by_cases b1 : s.depth < 0
      · have HR := Aside0.mk (show cfgRest s 0 = _ from hC.out.symm.trans (cfgTest_low b1))
        clear hC
        go_wp2_with fail
        go_ret
        exact ⟨congrArg (fun x => Ending.returned (.int .i64 x)) HR.out.symm, below_alloc HB.out _⟩
      · by_cases b2 : 32 < s.depth
        · have HR := Aside0.mk (show cfgRest s 0 = _ from hC.out.symm.trans (cfgTest_high b1 rfl b2))
          clear hC
          go_wp2_with fail
          go_ret
          exact ⟨congrArg (fun x => Ending.returned (.int .i64 x)) HR.out.symm, below_alloc HB.out _⟩
        · have HR := Aside0.mk (show cfgRest s 5 = cfgRest s 0 from Eq.trans (cfgTest_ok b1 rfl b2).symm hC.out)
          clear hC
          go_wp2_with fail
          go_roundw
          case rel => exact ⟨5, by omega, by go_num, rfl, below_alloc HB.out _, blk_alloc HX.out _, HR⟩
          case measure => simp [intOf]
    · have hi := index_f5 s (lowC s)
      unfold fieldsA at hi
      by_cases b1 : s.leaf < 1
      · have HR := Aside0.mk (show cfgRest s 0 = _ from hC.out.symm.trans (cfgTest_low b1))
        clear hC
        go_wp2_with fail
        go_ret
        exact ⟨congrArg (fun x => Ending.returned (.int .i64 x)) HR.out.symm, below_alloc HB.out _⟩
      · by_cases b2 : 1048576 < s.leaf
        · have HR := Aside0.mk (show cfgRest s 0 = _ from hC.out.symm.trans (cfgTest_high b1 rfl b2))
          clear hC
          go_wp2_with fail
          go_ret
          exact ⟨congrArg (fun x => Ending.returned (.int .i64 x)) HR.out.symm, below_alloc HB.out _⟩
        · have HR := Aside0.mk (show cfgRest s 6 = cfgRest s 0 from Eq.trans (cfgTest_ok b1 rfl b2).symm hC.out)
          clear hC
          go_wp2_with fail
          go_roundw
          case rel => exact ⟨6, by omega, by go_num, rfl, below_alloc HB.out _, blk_alloc HX.out _, HR⟩
          case measure => simp [intOf]
    · have hi := index_f6 s (lowC s)
      unfold fieldsA at hi
      by_cases b1 : s.pick < 1
      · have HR := Aside0.mk (show cfgRest s 0 = _ from hC.out.symm.trans (cfgTest_low b1))
        clear hC
        go_wp2_with fail
        go_ret
        exact ⟨congrArg (fun x => Ending.returned (.int .i64 x)) HR.out.symm, below_alloc HB.out _⟩
      · by_cases b2 : 1024 < s.pick
        · have HR := Aside0.mk (show cfgRest s 0 = _ from hC.out.symm.trans (cfgTest_high b1 rfl b2))
          clear hC
          go_wp2_with fail
          go_ret
          exact ⟨congrArg (fun x => Ending.returned (.int .i64 x)) HR.out.symm, below_alloc HB.out _⟩
        · have HR := Aside0.mk (show cfgRest s 7 = cfgRest s 0 from Eq.trans (cfgTest_ok b1 rfl b2).symm hC.out)
          clear hC
          go_wp2_with fail
          go_roundw
          case rel => exact ⟨7, by omega, by go_num, rfl, below_alloc HB.out _, blk_alloc HX.out _, HR⟩
          case measure => simp [intOf]
    · have HR := hC
      clear hC
      go_wp2_with fail
      go_ret
      exact ⟨congrArg (fun x => Ending.returned (.int .i64 x)) HR.out, HB.out⟩
end Go.Proofs.YtkjijponijmdkaaGreat
