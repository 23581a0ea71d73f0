/-
  Contracts: grow.Grow (classes), law19.fixed.
-/
import Derived.Test.YtkjijponijmdkaaGreatT5
namespace Go.Proofs.YtkjijponijmdkaaGreat
open Go.RowKit Go.Proofs.YtkjijponijmdkaaGreatW.PrintWords

abbrev growHv (b : Nat) : Value := .func (.func 28) #[] #[.pointer (some ⟨b, 0, none⟩)]
set_option maxHeartbeats 2000000 in
set_option maxRecDepth 100000 in
theorem grow_classes (s : Smp) (p : SmpAt) (seed tree : Int) (w : World) (step : Nat → Nat → List Int → Nat → StepR) (Inv : Nat → List Int → Prop) (HS : SmpRd w s p) (he : growCheck s = 0) (hk : s.kind = 0)
    (hstep : StepCalls (w.heap.size + 1) s p seed tree 66 (growHv w.heap.size) (fun W => W.heap[w.heap.size]? = some (.cells (smpA s p) 30 (0, 0))) step Inv)
    (h0 : Inv 0 (drawn s.weights)) (hl : 0 < (drawn s.weights).length) (hlw : s.weights.length ≤ 16777216)
    (hinv : ∀ n d rows m l r, Inv d rows → (step n d rows m).err = 0 → (step n d rows m).kids = some (l, r) → Inv (d + 1) l ∧ Inv (d + 1) r ∧ 0 < l.length ∧ 0 < r.length ∧ l.length + r.length = rows.length) :
    Calls Tryz.prog 15 #[.agg (smpA s p), .int .u64 seed, .int .u64 tree] w fun e w' => ∃ v, e = .returned (.tuple #[v, .int .i64 (runF step (2 * (drawn s.weights).length) [zN] [(0, 0, drawn s.weights)]).1]) ∧
      (kN.R 49 w' w.heap.size (fun _ => True) v (runF step (2 * (drawn s.weights).length) [zN] [(0, 0, drawn s.weights)]).2) ∧ Below w.heap.size w w' := by
  have CG := growBy_classes s p seed tree (.func 28) #[] #[.pointer (some ⟨w.heap.size, 0, none⟩)] (w.alloc (.cells (smpA s p) 30)) (fun W => W.heap[w.heap.size]? = some (.cells (smpA s p) 30 (0, 0))) step Inv
    (HS.below (below_alloc (Below.refl _ _) _)) he hk (fun W hb => smp_cells hb) (by rw [World.size_alloc]; exact hstep) h0 hl hlw hinv
  have CG := Aside0.mk CG
  clear hstep hinv he hk
  obtain ⟨Ac, cc, At, ct, Aw, cw⟩ := p
  unfold smpA at CG ⊢
  dsimp only at CG ⊢
  go_enter Tryz.func15, Tryz.ntmps15
  go_wp2_with (go_at_call 27; (with_reducible refine CG.out.mono ?_); rintro e w1 ⟨v, rfl, hv, hb⟩; obtain ⟨Av, cv, ev⟩ := Kd.R_slice hv; subst ev; have hv := Aside0.mk hv; have hb := Aside0.mk hb)
  go_ret2
  exact ⟨_, rfl, Kd.R_lower hv.out (by simp), below_step (below_alloc (Below.refl _ _) _) hb.out⟩

def fixS : Smp := ⟨0, 2, 2, 1, 0, 1, 1, 2, 1, [1, 2], [1, 1], [1, 1]⟩
def fixStep : Nat → Nat → List Int → Nat → StepR := fun _ _ rows _ => ⟨0, ⟨-1, 0, 0, gMajor (countsF fixS rows), 0, 0⟩, none⟩
theorem fixWf : SmpWf fixS := by
  have h : ∀ j, rd [(1 : Int), 2] j = 1 ∨ rd [(1 : Int), 2] j = 2 ∨ rd [(1 : Int), 2] j = 0 := by
    intro j
    unfold rd
    match j.toNat with
    | 0 => simp
    | 1 => simp
    | n + 2 => simp
  have h2 : ∀ j, rd [(1 : Int), 1] j = 1 ∨ rd [(1 : Int), 1] j = 0 := by
    intro j
    unfold rd
    match j.toNat with
    | 0 => simp
    | 1 => simp
    | n + 2 => simp
  have hd : ∀ n, inI n ↔ (-9223372036854775808 ≤ n ∧ n ≤ 9223372036854775807) := fun n => Iff.rfl
  refine ⟨(hd _).2 (by decide), (hd _).2 (by decide), (hd _).2 (by decide), (hd _).2 (by decide), (hd _).2 (by decide), (hd _).2 (by decide), (hd _).2 (by decide), (hd _).2 (by decide), (hd _).2 (by decide), fun j => ?_, fun j => ?_, fun j => ?_⟩
  · show 0 ≤ rd [1, 2] j ∧ rd [1, 2] j ≤ 65535
    have := h j
    omega
  · show inI (rd [1, 1] j)
    have := h2 j
    unfold inI
    omega
  · show inI (rd [1, 1] j)
    have := h2 j
    unfold inI
    omega
theorem fixCheck : growCheck fixS = 0 := by decide
theorem fix_step (B : Nat) (p : SmpAt) (seed tree : Int) (hv : Value) (Hv : World → Prop) : StepCalls B fixS p seed tree 66 hv Hv fixStep (fun d rows => d = 0 ∧ rows = [0, 1]) := by
  intro G b vn vw nodes work node depth A c rows w hI hX HS hH hR hB hn hn2 hw2 hinv
  obtain ⟨rfl, rfl⟩ := hinv
  have hok : SmpOk fixS := smpOk_of (by decide)
  refine (leaf_classes B G b _ vn vw nodes work node 0 A c [0, 1] ⟨wsum fixS [0, 1], gPure (countsF fixS [0, 1]), gMajor (countsF fixS [0, 1]), 0, 0⟩ w hI rfl hB hn (by omega) (fun W hb => ?_) ⟨show (1 : Int) ≤ 1 by decide, show (1 : Int) ≤ 1048576 by decide⟩ (.inl rfl)).mono ?_
  · exact classes1_calls fixS p b [0, 1] A c W (HS.below hb) hok ⟨by decide, by decide, fun i h0 h1 => (by
      have : i = 0 ∨ i = 1 := by
        change i < 2 at h1
        omega
      rcases this with rfl | rfl <;> decide), by decide⟩ (by
      intro i h0 h1
      have : i = 0 ∨ i = 1 := by
        change i < 2 at h1
        omega
      rcases this with rfl | rfl <;> decide) (by decide) (blk_below hX hb) (Kd.R_reads' (Kd.R_below hR hb)).2.2
  · rintro e w' ⟨rfl, vn', vw', hG, hF⟩
    refine ⟨rfl, hF.below, fun _ => ⟨vn', vw', [], ?_, rfl, hF⟩⟩
    rw [List.append_nil]
    show IsG w' B G _ vn' vw' (nodes.set node _ ++ []) work
    rw [List.append_nil]
    exact hG
end Go.Proofs.YtkjijponijmdkaaGreat
