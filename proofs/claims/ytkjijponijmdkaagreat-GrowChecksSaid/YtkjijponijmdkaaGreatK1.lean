/-
  Contracts: config.fields and config.Check.
-/
import Derived.Test.YtkjijponijmdkaaGreatK0
namespace Go.Proofs.YtkjijponijmdkaaGreat
open Go.RowKit Go.Proofs.YtkjijponijmdkaaGreatW.PrintWords

abbrev fieldsA (s : Smp) (lo : Int) : Array Value := #[.int .i64 s.kind, .int .i64 0, .int .i64 1, .int .i64 1,
  .int .i64 s.classes, .int .i64 lo, .int .i64 256, .int .i64 2, .int .i64 s.bins, .int .i64 2, .int .i64 256, .int .i64 2,
  .int .i64 s.trees, .int .i64 1, .int .i64 4096, .int .i64 2, .int .i64 s.depth, .int .i64 0, .int .i64 32, .int .i64 1,
  .int .i64 s.leaf, .int .i64 1, .int .i64 1048576, .int .i64 4, .int .i64 s.pick, .int .i64 1, .int .i64 1024, .int .i64 2]

theorem build_field (x0 x1 x2 x3 : Int) (w : World) : (Instr.build 122 #[(0, .int .i64 x0), (1, .int .i64 x1), (2, .int .i64 x2), (3, .int .i64 x3)]).run Tryz.prog w = .ok (.agg #[.int .i64 x0, .int .i64 x1, .int .i64 x2, .int .i64 x3]) w :=
  run_build _ _ _ _ (by kernel_rfl)
theorem build_fields (x0 x1 x2 x3 x4 x5 x6 x7 x8 x9 x10 x11 x12 x13 x14 x15 x16 x17 x18 x19 x20 x21 x22 x23 x24 x25 x26 x27 : Value) (w : World) :
  (Instr.build 123 #[(0, .agg #[x0, x1, x2, x3]), (1, .agg #[x4, x5, x6, x7]), (2, .agg #[x8, x9, x10, x11]), (3, .agg #[x12, x13, x14, x15]), (4, .agg #[x16, x17, x18, x19]), (5, .agg #[x20, x21, x22, x23]), (6, .agg #[x24, x25, x26, x27])]).run Tryz.prog w
   = .ok (.agg #[x0, x1, x2, x3, x4, x5, x6, x7, x8, x9, x10, x11, x12, x13, x14, x15, x16, x17, x18, x19, x20, x21, x22, x23, x24, x25, x26, x27]) w :=
  run_build _ _ _ _ (by kernel_rfl)
theorem fieldsA_one (s : Smp) (lo : Int) : (fieldsA s lo).all (·.oneCell') = true := by simp [fieldsA, Value.oneCell']

theorem below_setRow' {B : Nat} {w W : World} {g : Nat} (h : Below B w W) (hg : B ≤ g) (cs : Array Value) : Below B w (W.setRow g cs) :=
  ⟨h.os, h.tape, h.output, by have := h.size; simpa using this, fun i hi => (setRow_other W g i cs (by omega)).trans (h.block i hi)⟩

set_option maxHeartbeats 400000 in
theorem fields_means (s : Smp) (h : s.kind = 1) (w : World) :
    Calls Tryz.prog 63 #[.agg (cfgA s)] w fun e w' => e = .returned (.agg (fieldsA s 0)) ∧ Below w.heap.size w w' := by
  have h1 := build_field
  have h2 := build_fields
  have H1 := fieldsA_one s 0
  have hu := Tryz.underlying123
  unfold cfgA
  unfold fieldsA at H1 ⊢
  have c1 : (s.kind == 1) = true := by simpa using h
  clear h
  go_enter Tryz.func63, Tryz.ntmps63
  go_wp2_with (refine wpList_store_row rfl 123 (.tmp 2) (.tmp 30) rfl (w.heap.size + 1) (fieldsA s 0) rfl rfl 123 (Array.replicate 28 (.int .i64 0)) ?_ (by kernel_rfl) rfl H1 ?_)
  · exact blk_alloc (heap_alloc2_new _ _ _) _
  · refine bodyPost_ret (v := .agg (fieldsA s 0)) (results_cell_row rfl _ _ (w.heap.size + 1) 123 (fieldsA s 0) (0, 0) _ rfl (setRow_heap _ _ (Array.replicate 28 (.int .i64 0)) _ _ _ ?_) hu rfl (by kernel_rfl)) rfl ⟨rfl, ?_⟩
    · exact blk_alloc (heap_alloc2_new _ _ _) _
    · exact below_setRow' (((((Below.refl _ _).alloc (Nat.le_refl _) _).alloc (by simp) _).alloc (by simp; omega) _)) (by omega) _
set_option maxHeartbeats 400000 in
theorem fields_classes (s : Smp) (h : s.kind ≠ 1) (w : World) :
    Calls Tryz.prog 63 #[.agg (cfgA s)] w fun e w' => e = .returned (.agg (fieldsA s 2)) ∧ Below w.heap.size w w' := by
  have h1 := build_field
  have h2 := build_fields
  have H1 := fieldsA_one s 2
  have hu := Tryz.underlying123
  unfold cfgA
  unfold fieldsA at H1 ⊢
  have c1 : (s.kind == 1) = false := by simpa using h
  clear h
  go_enter Tryz.func63, Tryz.ntmps63
  go_wp2_with (refine wpList_store_row rfl 123 (.tmp 2) (.tmp 30) rfl (w.heap.size + 1) (fieldsA s 2) rfl rfl 123 (Array.replicate 28 (.int .i64 0)) ?_ (by kernel_rfl) rfl H1 ?_)
  · exact blk_alloc (heap_alloc2_new _ _ _) _
  · refine bodyPost_ret (v := .agg (fieldsA s 2)) (results_cell_row rfl _ _ (w.heap.size + 1) 123 (fieldsA s 2) (0, 0) _ rfl (setRow_heap _ _ (Array.replicate 28 (.int .i64 0)) _ _ _ ?_) hu rfl (by kernel_rfl)) rfl ⟨rfl, ?_⟩
    · exact blk_alloc (heap_alloc2_new _ _ _) _
    · exact below_setRow' (((((Below.refl _ _).alloc (Nat.le_refl _) _).alloc (by simp) _).alloc (by simp; omega) _)) (by omega) _
end Go.Proofs.YtkjijponijmdkaaGreat
