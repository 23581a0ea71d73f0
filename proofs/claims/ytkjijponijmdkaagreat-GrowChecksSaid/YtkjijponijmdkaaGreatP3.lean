/-
  Contracts: part.Drawn, part.Part.
-/
import Derived.Test.YtkjijponijmdkaaGreatP2
import Derived.Test.YtkjijponijmdkaaGreatK3
namespace Go.Proofs.YtkjijponijmdkaaGreat
open Go.RowKit Go.Proofs.YtkjijponijmdkaaGreatW.PrintWords

/-- The rows that are drawn. -/
def drawn (l : List Int) : List Int := (upTo l.length).filter fun x => decide (0 < rd l x)
theorem mem_upTo {n : Nat} {x : Int} (h : x ∈ upTo n) : 0 ≤ x ∧ x < n := by
  obtain ⟨j, hj, rfl⟩ := List.mem_map.1 h
  have := List.mem_range.1 hj
  omega

theorem drawn1_calls (l : List Int) (x : Int) (b : Nat) (A : Option Addr) (c : Nat) (W : World) (h0 : 0 ≤ x) (h1 : x < l.length) (hb : W.heap[b]? = some (.cells #[.slice A l.length c] 28 (0, 0)))
    (hr : (Kd.int .i64).C W A l.length l) : Calls Tryz.prog 73 #[.int .i64 x, .pointer (some ⟨b, 0, none⟩)] W fun e W' => e = .returned (.bool (decide (0 < rd l x))) ∧ ∃ n, W.drewN n = W' := by
  obtain ⟨ad, ea, hc⟩ := Kd.at_int hr x h0 h1
  subst ea
  have hx := blk_cell hb 0
  clear hb hr
  go_enter Tryz.func73, Tryz.ntmps73
  go_wp2_with fail
  go_ret
  exact ⟨rfl, 0, rfl⟩

theorem apart_drawn_rows (l : List Int) (A A1 : Option Addr) (c c1 b : Nat) (w : World) (hr : (Kd.int .i64).C w A l.length l) (hl : l.length ≤ 16777216) (hb : w.heap[b]? = some (.cells #[.slice A l.length c] 28 (0, 0)))
    (hr1 : (Kd.int .i64).C w A1 l.length (upTo l.length)) :
    Calls Tryz.prog 71 #[.slice A1 l.length c1, .func (.func 73) #[] #[.pointer (some ⟨b, 0, none⟩)]] w fun e w' => ∃ va vb, e = .returned (.tuple #[va, vb]) ∧ (Kd.int .i64).R 3 w' w.heap.size (fun _ => True) va (drawn l) ∧ Below w.heap.size w w' := by
  have h := apart_drawn (fun x => decide (0 < rd l x)) (upTo l.length) (.pointer (some ⟨b, 0, none⟩)) A1 c1 w (by rw [upTo_length]; exact hr1) (by rw [upTo_length]; exact hl)
    (fun x hx W hW => drawn1_calls l x b A c W (mem_upTo hx).1 (mem_upTo hx).2 (blk_below hb hW) (Kd.C_below hr hW))
  rw [upTo_length] at h
  exact h.mono fun e w' ⟨va, vb, he, h1, _, h2⟩ => ⟨va, vb, he, h1, h2⟩

set_option maxHeartbeats 400000 in
theorem drawn_calls (l : List Int) (A : Option Addr) (c : Nat) (w : World) (hr : (Kd.int .i64).C w A l.length l) (hl : l.length ≤ 16777216) :
    Calls Tryz.prog 49 #[.slice A l.length c] w fun e w' => ∃ v, e = .returned v ∧ (Kd.int .i64).R 3 w' w.heap.size (fun _ => True) v (drawn l) ∧ Below w.heap.size w w' := by
  have HS := Aside0.mk hr
  clear hr
  have C1 := Aside0.mk (fun W => numbers_calls A l.length c W hl)
  go_enter Tryz.func49, Tryz.ntmps49
  go_wp2_with (first | (go_at_call 72; (with_reducible refine (C1.out _).mono ?_); rintro e w1 ⟨v1, rfl, ⟨A1, c1, rfl, hc1, hr1⟩, hb1⟩; rw [upTo_length] at *; have hX1 := Aside0.mk (smp_cells hb1); have hB1 := Aside0.mk (below_step (below_alloc (Below.refl _ _) _) hb1); have hR1 := Aside0.mk hr1; clear hb1 hr1))
  have CA := Aside0.mk (apart_drawn_rows l A A1 c c1 w.heap.size w1 (Kd.C_below HS.out hB1.out) hl hX1.out hR1.out)
  refine CA.out.mono ?_
  rintro e w2 ⟨va, vb, rfl, ha, hb⟩
  have HA := Aside0.mk (Kd.R_lower ha hB1.out.size)
  have HB := Aside0.mk (below_step hB1.out hb)
  clear ha hb
  go_wp2_with fail
  go_ret
  exact ⟨_, rfl, HA.out, HB.out⟩
end Go.Proofs.YtkjijponijmdkaaGreat
