/-
  Contracts: gini.May, gini.sum by each of its functions, gini.Pure, gini.Major.
-/
import Derived.Test.YtkjijponijmdkaaGreatK4
namespace Go.Proofs.YtkjijponijmdkaaGreat
open Go.RowKit Go.Proofs.YtkjijponijmdkaaGreatW.PrintWords

theorem drop_rd {l : List Int} {i : Nat} (h : i < l.length) : l.drop i = rd l i :: l.drop (i + 1) := by
  rw [List.drop_eq_getElem_cons h]
  congr 1
  simp [rd, List.getD_eq_getElem?_getD, List.getElem?_eq_getElem h]
theorem take_rd {l : List Int} {i : Nat} (h : i < l.length) : l.take (i + 1) = l.take i ++ [rd l i] := by
  rw [List.take_succ_eq_append_getElem h]
  congr 1
  simp [rd, List.getD_eq_getElem?_getD, List.getElem?_eq_getElem h]
theorem rd_mem {l : List Int} {i : Nat} (h : i < l.length) : rd l i ∈ l := by
  have : rd l i = l[i] := by simp [rd, List.getD_eq_getElem?_getD, List.getElem?_eq_getElem h]
  rw [this]
  exact List.getElem_mem h

/-- May these be counts, behind a sum? -/
def mayFrom : List Int → Int → Bool
  | [], t => decide (t ≤ 1048576)
  | n :: r, t => if n < 0 ∨ 1048576 < n then false else mayFrom r (t + n)
def gMay (l : List Int) : Bool := decide (2 ≤ l.length ∧ l.length ≤ 256) && mayFrom l 0
structure GMay (l : List Int) : Prop where
  lo : 2 ≤ l.length
  hi : l.length ≤ 256
  all : ∀ n ∈ l, 0 ≤ n ∧ n ≤ 1048576
  sum : l.sum ≤ 1048576
theorem mayFrom_iff (l : List Int) : ∀ t, mayFrom l t = true ↔ (∀ n ∈ l, 0 ≤ n ∧ n ≤ 1048576) ∧ t + l.sum ≤ 1048576 := by
  induction l with
  | nil => intro t; simp [mayFrom]
  | cons n r ih =>
    intro t
    unfold mayFrom
    by_cases h : n < 0 ∨ 1048576 < n
    · rw [if_pos h]
      simp only [Bool.false_eq_true, false_iff, List.mem_cons, forall_eq_or_imp]
      rintro ⟨⟨h1, _⟩, _⟩
      omega
    · rw [if_neg h, ih]
      simp only [List.mem_cons, forall_eq_or_imp, List.sum_cons]
      constructor
      · rintro ⟨h1, h2⟩
        exact ⟨⟨by omega, h1⟩, by omega⟩
      · rintro ⟨⟨_, h1⟩, h2⟩
        exact ⟨h1, by omega⟩
theorem gMay_iff (l : List Int) : gMay l = true ↔ GMay l := by
  unfold gMay
  rw [Bool.and_eq_true, decide_eq_true_eq, mayFrom_iff]
  constructor
  · rintro ⟨⟨h1, h2⟩, h3, h4⟩
    exact ⟨h1, h2, h3, by omega⟩
  · rintro ⟨h1, h2, h3, h4⟩
    exact ⟨⟨h1, h2⟩, h3, by omega⟩
theorem GMay.at_ {l : List Int} (h : GMay l) (i : Nat) : 0 ≤ rd l i ∧ rd l i ≤ 1048576 := by
  by_cases hi : i < l.length
  · exact h.all _ (rd_mem hi)
  · have : Go.Proofs.YtkjijponijmdkaaGreatW.PrintWords.rd l i = 0 := by simp [Go.Proofs.YtkjijponijmdkaaGreatW.PrintWords.rd, List.getD_eq_getElem?_getD, List.getElem?_eq_none (by omega : l.length ≤ i)]
    omega

set_option maxHeartbeats 1000000 in
theorem may_calls (l : List Int) (A : Option Addr) (c : Nat) (w : World) (hr : (Kd.int .i64).C w A l.length l) :
    Calls Tryz.prog 92 #[.slice A l.length c] w fun e w' => e = .returned (.bool (gMay l)) ∧ w = w' := by
  have HS := Aside0.mk hr
  clear hr
  by_cases h1 : l.length < 2
  · have HR := Aside0.mk (show gMay l = false by unfold gMay; rw [decide_eq_false (by omega)]; rfl)
    have d1 : decide ((l.length : Int) < 2) = true := decide_eq_true (by omega)
    go_enter Tryz.func92, Tryz.ntmps92
    go_wp2_with fail
    go_ret
    exact ⟨ret_bool HR.out.symm, rfl⟩
  · have d1 : decide ((l.length : Int) < 2) = false := decide_eq_false (by omega)
    by_cases h2 : 256 < l.length
    · have HR := Aside0.mk (show gMay l = false by unfold gMay; rw [decide_eq_false (by omega)]; rfl)
      have d2 : decide ((256 : Int) < l.length) = true := decide_eq_true (by omega)
      go_enter Tryz.func92, Tryz.ntmps92
      go_wp2_with fail
      go_ret
      exact ⟨ret_bool HR.out.symm, rfl⟩
    · have d2 : decide ((256 : Int) < l.length) = false := decide_eq_false (by omega)
      have HR := Aside0.mk (show gMay l = mayFrom l 0 by unfold gMay; rw [decide_eq_true (by omega)]; rfl)
      go_enter Tryz.func92, Tryz.ntmps92
      go_wp2_with fail
      go_loop [2, 3, 5, 16] (fun _ T _ v => ∃ (i : Nat) (t : Int), i ≤ l.length ∧ T = .int .i64 t ∧ v = .int .i64 i ∧ 0 ≤ t ∧ t ≤ (i : Int) * 1048576 ∧ Aside0 (mayFrom (l.drop i) t = gMay l))
        (fun _ _ _ v => l.length - (intOf v).toNat)
      case atStart => exact ⟨0, 0, by omega, rfl, rfl, by omega, by omega, ⟨HR.out.symm⟩⟩
      case round =>
        obtain ⟨i, t, hi, rfl, rfl, t0, t1, hC⟩ := hrel
        by_cases hlt : i < l.length
        · obtain ⟨ad, ea, hcw⟩ := Kd.at_int HS.out i (by omega) (by omega)
          subst ea
          have hcw : w.cell? (ad.add i) = some (.int .i64 (rd l i)) := hcw
          have hd := drop_rd hlt
          by_cases b1 : rd l i < 0
          · have HE := Aside0.mk (show gMay l = false by rw [← hC.out, hd]; simp [mayFrom, b1])
            clear hC hd HR
            go_wp2_with fail
            go_ret
            exact ⟨ret_bool HE.out.symm, rfl⟩
          · by_cases b2 : 1048576 < rd l i
            · have HE := Aside0.mk (show gMay l = false by rw [← hC.out, hd]; simp [mayFrom, b2])
              clear hC hd HR
              go_wp2_with fail
              go_ret
              exact ⟨ret_bool HE.out.symm, rfl⟩
            · have HE := Aside0.mk (show mayFrom (l.drop (i + 1)) (t + rd l i) = gMay l by rw [← hC.out, hd]; simp [mayFrom, b1, b2])
              clear hC hd HR
              go_wp2_with fail
              go_round
              case rel => exact ⟨i + 1, t + rd l i, by omega, by go_num, by go_num, by omega, by omega, HE⟩
              case measure => simp [intOf]; omega
        · have hd : l.drop i = [] := List.drop_eq_nil_of_le (by omega)
          have HE := Aside0.mk (show gMay l = decide (t ≤ 1048576) by rw [← hC.out, hd]; rfl)
          clear hC hd HR
          go_wp2_with fail
          go_ret
          exact ⟨ret_bool HE.out.symm, rfl⟩
end Go.Proofs.YtkjijponijmdkaaGreat
