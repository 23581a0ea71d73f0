/-
  Contracts: part.numbers, part.Drawn and the functions that it uses.
-/
import Derived.Test.YtkjijponijmdkaaGreatG1
namespace Go.Proofs.YtkjijponijmdkaaGreat
open Go.RowKit Go.Proofs.YtkjijponijmdkaaGreatW.PrintWords

theorem info_int : (Tryz.prog.info? 3).map (fun i => (i.zero, i.size, i.bytes)) = some (some (.int .i64 0), 1, 8) := by kernel_rfl

/-- The numbers up to i, then noughts. -/
def numsTo (n i : Nat) : List Int := (List.range n).map fun (j : Nat) => if j < i then (j : Int) else 0
def upTo (n : Nat) : List Int := (List.range n).map fun (j : Nat) => (j : Int)
theorem numsTo_length (n i : Nat) : (numsTo n i).length = n := by simp [numsTo]
theorem upTo_length (n : Nat) : (upTo n).length = n := by simp [upTo]
theorem numsTo_zero (n : Nat) : numsTo n 0 = List.replicate n 0 := by
  apply List.ext_getElem
  · simp [numsTo]
  · intro j h1 h2
    simp [numsTo]
theorem numsTo_all (n : Nat) : numsTo n n = upTo n := by
  unfold numsTo upTo
  apply List.map_congr_left
  intro j hj
  rw [if_pos (List.mem_range.1 hj)]
theorem numsTo_set (n i : Nat) : (numsTo n i).set i (i : Int) = numsTo n (i + 1) := by
  apply List.ext_getElem
  · simp [numsTo]
  · intro j h1 h2
    rw [List.getElem_set]
    by_cases h : i = j
    · subst h
      simp [numsTo]
    · rw [if_neg h]
      simp only [numsTo, List.getElem_map, List.getElem_range]
      by_cases h3 : j < i
      · rw [if_pos h3, if_pos (by omega)]
      · rw [if_neg h3, if_neg (by omega)]

/-- A slice value that reads as these numbers. -/
def Rows (w : World) (v : Value) (l : List Int) : Prop := ∃ A c, v = .slice A l.length c ∧ l.length ≤ c ∧ (Kd.int .i64).C w A l.length l
theorem Rows.below {w w1 : World} {v : Value} {l : List Int} (h : Rows w v l) (hb : Below w.heap.size w w1) : Rows w1 v l := by
  obtain ⟨A, c, e, hc, hr⟩ := h
  exact ⟨A, c, e, hc, Kd.C_below hr hb⟩
theorem rows_of_R {w : World} {e base : Nat} {ok : Nat → Prop} {v : Value} {l : List Int} (h : (Kd.int .i64).R e w base ok v l) : Rows w v l := Kd.R_reads h

theorem put_n {k : IntKind} {e base g n cap : Nat} {ok : Nat → Prop} {W : World} {xs : List Int} (h : (Kd.int k).R e W base ok (.slice (some ⟨g, 0, none⟩) n cap) xs) (hl : xs.length = n) (i : Nat) (x : Int) :
    (Kd.int k).R e (W.setCell ⟨g, i, none⟩ (.int k x)) base ok (.slice (some ⟨g, 0, none⟩) n cap) (xs.set i x) ∧ W.grownBy (W.setCell ⟨g, i, none⟩ (.int k x)) (some g) := by
  subst hl
  exact Kd.R_put h (i : Int) x
theorem cell_n {k : IntKind} {e base g n cap : Nat} {ok : Nat → Prop} {W : World} {xs : List Int} (h : (Kd.int k).R e W base ok (.slice (some ⟨g, 0, none⟩) n cap) xs) (i : Nat) (hi : i < n) :
    W.cell? ⟨g, i, none⟩ = some (.int k (rd xs i)) ∧ W.frozen? ⟨g, i, none⟩ = false := Kd.R_celln 0 h (i : Int) (by omega) (by omega)
theorem form_n {k : IntKind} {e base n cap : Nat} {ok : Nat → Prop} {W : World} {A : Option Addr} {xs : List Int} (h : (Kd.int k).R e W base ok (.slice A n cap) xs) (hp : 0 < xs.length) : ∃ g, A = some ⟨g, 0, none⟩ ∧ base ≤ g ∧ g < W.heap.size := by
  obtain ⟨g, c, e, h1, h2, _⟩ := Kd.R_form h hp
  injection e with e
  exact ⟨g, e, h1, h2⟩

set_option maxHeartbeats 400000 in
set_option maxRecDepth 100000 in
theorem numbers_calls (A : Option Addr) (n c : Nat) (w : World) (hn : n ≤ 16777216) :
    Calls Tryz.prog 72 #[.slice A n c] w fun e w' => ∃ v, e = .returned v ∧ Rows w' v (upTo n) ∧ Below w.heap.size w w' := by
  go_enter Tryz.func72, Tryz.ntmps72
  go_wp2_with (at_make; refine Kd.R_make (Kd.int .i64) (w0 := w) w.heap.size 3 rfl rfl 28 (.tmp 6) (.tmp 6) rfl (n : Int) rfl rfl Tryz.underlying28 (.int .i64 0) 8 info_int rfl (by decide) (by decide) 0 (ok := fun _ => True) (okp := fun _ => True) rfl (fun _ _ => trivial) trivial (by omega) (by simp; omega) (Below.refl _ _) (Nat.le_refl _) ?_; intro v1 w1 hR hB hg hat; rw [show List.replicate ((n : Int).toNat) (0 : Int) = numsTo n 0 from (numsTo_zero n).symm] at hR; obtain ⟨A1, c1, e1⟩ := Kd.R_slice hR; rw [numsTo_length] at e1; subst e1; have HR := Aside0.mk hR; have HB := Aside0.mk hB; clear hR hB hg hat)
  go_loopw [4, 10] (fun _ v wr => ∃ i : Nat, i ≤ n ∧ v = .int .i64 i ∧ Below w.heap.size w wr ∧ (Kd.int .i64).R 3 wr w.heap.size (fun _ => True) (.slice A1 n c1) (numsTo n i))
    (fun _ v _ => n - (intOf v).toNat)
  case atStart => exact ⟨0, by omega, rfl, HB.out, HR.out⟩
  case round =>
    obtain ⟨i, hi, rfl, hB, hR⟩ := hrel
    by_cases hlt : i < n
    · obtain ⟨g, ea, hg, hgl⟩ := form_n hR (by rw [numsTo_length]; omega)
      subst ea
      obtain ⟨hc, hf⟩ := cell_n hR i hlt
      have hP := (put_n hR (numsTo_length n i) i (i : Int)).1
      rw [numsTo_set] at hP
      have HP := Aside0.mk hP
      have HB2 := Aside0.mk (below_set (g := g) (j := i) (v := .int .i64 (i : Int)) hB hg)
      clear hP hR hB HB HR
      go_wp2_with fail
      go_roundw
      case rel => exact ⟨i + 1, by omega, by go_num, HB2.out, HP.out⟩
      case measure => simp [intOf]; omega
    · obtain rfl : i = n := by omega
      rw [numsTo_all] at hR
      have HE := Aside0.mk (rows_of_R hR)
      have HB2 := Aside0.mk hB
      clear hR hB HB HR
      go_wp2_with fail
      go_ret
      exact ⟨_, rfl, HE.out, HB2.out⟩
end Go.Proofs.YtkjijponijmdkaaGreat
