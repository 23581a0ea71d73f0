/-
  Contract: law19.fixed.
-/
import Derived.Test.YtkjijponijmdkaaGreatF1
namespace Go.Proofs.YtkjijponijmdkaaGreat
open Go.RowKit Go.Proofs.YtkjijponijmdkaaGreatW.PrintWords

theorem C_blk {w : World} {b t : Nat} {k : IntKind} {xs : List Int} {cells : Array Value} (h : w.heap[b]? = some (.cells cells t (0, 0))) (hc : cells = (xs.map (Value.int k)).toArray) (hl : xs.length ≤ 9223372036854775807) :
    (Kd.int k).C w (some ⟨b, 0, none⟩) xs.length xs := by
  subst hc
  refine ⟨rfl, hl, fun _ => ⟨_, rfl, fun j p hp => ⟨[.int k p], rfl, rfl, fun i u hu => ?_⟩⟩⟩
  match i, hu with
  | 0, hu =>
    injection hu with hu
    subst hu
    have := blk_cell h j
    rw [show (⟨b, 0, none⟩ : Addr).add (j * (Kd.int k).sz + 0) = ⟨b, j, none⟩ by simp [Addr.add, Kd.int, Kd.scalar]; intro h; exact h.symm, this]
    simp [hp]
def fixT : List NodeS := [⟨-1, 0, 0, 1, 0, 0⟩]
theorem fix_run : runF fixStep (2 * (drawn fixS.weights).length) [zN] [(0, 0, drawn fixS.weights)] = (0, fixT) := by decide
theorem fix_drawn : drawn fixS.weights = [0, 1] := by decide
theorem fix_grow (p : SmpAt) (w : World) (HS : SmpRd w fixS p) :
    Calls Tryz.prog 15 #[.agg (smpA fixS p), .int .u64 5, .int .u64 0] w fun e w' => (∃ A c, e = .returned (.tuple #[.slice A 1 c, .int .i64 0]) ∧ kN.C w' A 1 fixT) ∧ Below w.heap.size w w' := by
  refine (grow_classes fixS p 5 0 w fixStep (fun d rows => d = 0 ∧ rows = [0, 1]) HS fixCheck rfl (fix_step _ _ _ _ _ _) ⟨rfl, fix_drawn⟩ (by rw [fix_drawn]; decide) (by decide) (fun n d rows m l r _ _ h => by cases h)).mono ?_
  rintro e w' ⟨v, rfl, hv, hb⟩
  rw [fix_run] at hv ⊢
  obtain ⟨A, c, e1, _, hC⟩ := Kd.R_reads hv
  exact ⟨⟨A, c, by rw [e1]; rfl, hC⟩, hb⟩

set_option maxHeartbeats 2000000 in
set_option maxRecDepth 100000 in
theorem fixed_calls (w : World) : Calls Tryz.prog 11 #[] w fun e w' => e = .returned (.bool true) ∧ Below w.heap.size w w' := by
  have h0 : (((w.alloc (.cells #[.int .u16 1, .int .u16 2] 52)).alloc (.cells #[.int .i64 1, .int .i64 1] 2)).alloc (.cells #[.int .i64 1, .int .i64 1] 3)).heap[w.heap.size]? = some (.cells #[.int .u16 1, .int .u16 2] 52 (0, 0)) := blk_alloc (blk_alloc (blk_new _ _) _) _
  have h1 : (((w.alloc (.cells #[.int .u16 1, .int .u16 2] 52)).alloc (.cells #[.int .i64 1, .int .i64 1] 2)).alloc (.cells #[.int .i64 1, .int .i64 1] 3)).heap[w.heap.size + 1]? = some (.cells #[.int .i64 1, .int .i64 1] 2 (0, 0)) := blk_alloc (heap_alloc2_new _ _ _) _
  have h2 : (((w.alloc (.cells #[.int .u16 1, .int .u16 2] 52)).alloc (.cells #[.int .i64 1, .int .i64 1] 2)).alloc (.cells #[.int .i64 1, .int .i64 1] 3)).heap[w.heap.size + 1 + 1]? = some (.cells #[.int .i64 1, .int .i64 1] 3 (0, 0)) := by
    have := blk_new ((w.alloc (.cells #[.int .u16 1, .int .u16 2] 52)).alloc (.cells #[.int .i64 1, .int .i64 1] 2)) (.cells #[.int .i64 1, .int .i64 1] 3)
    rw [World.size_alloc, World.size_alloc] at this
    exact this
  have HS : SmpRd (((w.alloc (.cells #[.int .u16 1, .int .u16 2] 52)).alloc (.cells #[.int .i64 1, .int .i64 1] 2)).alloc (.cells #[.int .i64 1, .int .i64 1] 3)) fixS ⟨some ⟨w.heap.size, 0, none⟩, 2, some ⟨w.heap.size + 1, 0, none⟩, 2, some ⟨w.heap.size + 1 + 1, 0, none⟩, 2⟩ :=
    ⟨fixWf, C_blk h0 rfl (by decide), C_blk h1 rfl (by decide), C_blk h2 rfl (by decide), Nat.le_refl 2, Nat.le_refl 2, Nat.le_refl 2⟩
  have CG := Aside0.mk (fix_grow _ _ HS)
  clear h0 h1 h2 HS
  go_enter Tryz.func11, Tryz.ntmps11
  go_wp2_with (go_at_call 15; refine CG.out.mono ?_; rintro e w1 ⟨⟨A, c, rfl, hC⟩, hb⟩; obtain ⟨ad, cs, had, hcl, hK, hcells⟩ := Kd.C_get hC zN 0 (by decide) (by decide); have hcs := kN_open hK; subst hcs; subst had; have hn0 : w1.cell? ad = some (.int .i64 (-1)) := hcells 0 _ rfl; have hn1 : w1.cell? ⟨ad.block, ad.off + 1, none⟩ = some (.int .i64 0) := hcells 1 _ rfl; have hn2 : w1.cell? ⟨ad.block, ad.off + 2, none⟩ = some (.int .i64 0) := hcells 2 _ rfl; have hn3 : w1.cell? ⟨ad.block, ad.off + 3, none⟩ = some (.int .i64 1) := hcells 3 _ rfl; have hn4 : w1.cell? ⟨ad.block, ad.off + 4, none⟩ = some (.int .i64 0) := hcells 4 _ rfl; have hn5 : w1.cell? ⟨ad.block, ad.off + 5, none⟩ = some (.int .i64 0) := hcells 5 _ rfl; have hb := Aside0.mk hb; clear hC hK hcells hcl)
  go_ret
  exact ⟨rfl, below_step (below_alloc (below_alloc (below_alloc (Below.refl _ _) _) _) _) hb.out⟩
end Go.Proofs.YtkjijponijmdkaaGreat
