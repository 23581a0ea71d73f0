/-
  Contracts: gini.sum by each of its functions, gini.Pure, gini.Major.
-/
import Derived.Test.YtkjijponijmdkaaGreatG1
namespace Go.Proofs.YtkjijponijmdkaaGreat
open Go.RowKit Go.Proofs.YtkjijponijmdkaaGreatW.PrintWords

theorem sum_take {l : List Int} {i : Nat} (g : Int → Int) (h : i < l.length) : ((l.take (i + 1)).map g).sum = ((l.take i).map g).sum + g (rd l i) := by
  rw [take_rd h]
  simp
theorem min_one (n : Int) (h0 : 0 ≤ n) : 0 ≤ min n 1 ∧ min n 1 ≤ 1 := by omega
theorem sq_bd {n : Int} (h0 : 0 ≤ n) (h1 : n ≤ 1048576) : 0 ≤ n * n ∧ n * n ≤ 1099511627776 :=
  ⟨Int.mul_nonneg h0 h0, Int.le_trans (Int.mul_le_mul h1 h1 h0 (by omega)) (by omega)⟩

theorem ret_u64 {a b : Int} (h : a = b) : Ending.returned (.int .u64 a) = .returned (.int .u64 b) := by rw [h]
theorem fn_one (n : Int) (h0 : 0 ≤ n) (h1 : n ≤ 1048576) (w : World) : Calls Tryz.prog 94 #[.int .u64 n] w fun e w' => e = .returned (.int .u64 (min n 1)) ∧ w = w' := by
  by_cases h : 1 < n
  · have HE := Aside0.mk (show min n 1 = 1 by omega)
    go_enter Tryz.func94, Tryz.ntmps94
    go_wp2_with fail
    go_ret
    exact ⟨ret_u64 HE.out.symm, rfl⟩
  · have HE := Aside0.mk (show min n 1 = n by omega)
    go_enter Tryz.func94, Tryz.ntmps94
    go_wp2_with fail
    go_ret
    exact ⟨ret_u64 HE.out.symm, rfl⟩
set_option maxHeartbeats 400000 in
theorem sum_one (l : List Int) (A : Option Addr) (c : Nat) (w : World) (hr : (Kd.int .i64).C w A l.length l) (hM : GMay l) :
    Calls Tryz.prog 93 #[.slice A l.length c, .func (.func 94) #[] #[]] w fun e w' => e = .returned (.int .u64 ((l.map fun n => min n 1).sum)) ∧ w = w' := by
  have HS := Aside0.mk hr
  have hl := hM.hi
  have HM := Aside0.mk hM
  clear hr hM
  go_enter Tryz.func93, Tryz.ntmps93
  go_wp2_with fail
  go_loop [5, 7, 10] (fun T _ v => ∃ (i : Nat) (t : Int), i ≤ l.length ∧ T = .int .u64 t ∧ v = .int .i64 i ∧ 0 ≤ t ∧ t ≤ (i : Int) * 1 ∧ Aside0 (((l.take i).map fun n => min n 1).sum = t))
    (fun _ _ v => l.length - (intOf v).toNat)
  case atStart => exact ⟨0, 0, by omega, rfl, rfl, by omega, by omega, ⟨rfl⟩⟩
  case round =>
    obtain ⟨i, t, hi, rfl, rfl, t0, t1, hC⟩ := hrel
    by_cases hlt : i < l.length
    · obtain ⟨ad, ea, hcw⟩ := Kd.at_int HS.out i (by omega) (by omega)
      subst ea
      have hcw : w.cell? (ad.add i) = some (.int .i64 (rd l i)) := hcw
      obtain ⟨y, hy⟩ : ∃ y, rd l i = y := ⟨_, rfl⟩
      obtain ⟨b0, b1⟩ := HM.out.at_ i
      rw [hy] at hcw b0 b1
      have HE := Aside0.mk (show ((l.take (i + 1)).map fun n => min n 1).sum = t + (min y 1) by rw [sum_take _ hlt, hC.out, hy])
      obtain ⟨m1, m2⟩ := (min_one y b0 : 0 ≤ min y 1 ∧ min y 1 ≤ 1)
      have CF := Aside0.mk (fun W => fn_one y b0 b1 W)
      clear hC hy
      go_wp2_with (go_at_call 94; (with_reducible refine (CF.out _).mono ?_); rintro e w2 ⟨rfl, rfl⟩)
      go_round
      case rel => exact ⟨i + 1, t + (min y 1), by omega, by go_num, by go_num, by omega, by omega, HE⟩
      case measure => simp [intOf]; omega
    · have HE := Aside0.mk (show (l.map fun n => min n 1).sum = t by rw [← hC.out, List.take_of_length_le (by omega)])
      clear hC
      go_wp2_with fail
      go_ret
      exact ⟨ret_u64 HE.out.symm, rfl⟩
theorem fn_tot (n : Int) (h0 : 0 ≤ n) (h1 : n ≤ 1048576) (w : World) : Calls Tryz.prog 203 #[.int .u64 n] w fun e w' => e = .returned (.int .u64 (n)) ∧ w = w' := by
  obtain ⟨m1, m2⟩ := (⟨h0, h1⟩ : 0 ≤ n ∧ n ≤ 1048576)
  go_enter Tryz.func203, Tryz.ntmps203
  go_wp2_with fail
  go_ret
  exact ⟨rfl, rfl⟩
set_option maxHeartbeats 400000 in
theorem sum_tot (l : List Int) (A : Option Addr) (c : Nat) (w : World) (hr : (Kd.int .i64).C w A l.length l) (hM : GMay l) :
    Calls Tryz.prog 93 #[.slice A l.length c, .func (.func 203) #[] #[]] w fun e w' => e = .returned (.int .u64 l.sum) ∧ w = w' := by
  have HS := Aside0.mk hr
  have hl := hM.hi
  have HM := Aside0.mk hM
  clear hr hM
  go_enter Tryz.func93, Tryz.ntmps93
  go_wp2_with fail
  go_loop [5, 7, 10] (fun T _ v => ∃ (i : Nat) (t : Int), i ≤ l.length ∧ T = .int .u64 t ∧ v = .int .i64 i ∧ 0 ≤ t ∧ t ≤ (i : Int) * 1048576 ∧ Aside0 (((l.take i).map fun n => n).sum = t))
    (fun _ _ v => l.length - (intOf v).toNat)
  case atStart => exact ⟨0, 0, by omega, rfl, rfl, by omega, by omega, ⟨rfl⟩⟩
  case round =>
    obtain ⟨i, t, hi, rfl, rfl, t0, t1, hC⟩ := hrel
    by_cases hlt : i < l.length
    · obtain ⟨ad, ea, hcw⟩ := Kd.at_int HS.out i (by omega) (by omega)
      subst ea
      have hcw : w.cell? (ad.add i) = some (.int .i64 (rd l i)) := hcw
      obtain ⟨y, hy⟩ : ∃ y, rd l i = y := ⟨_, rfl⟩
      obtain ⟨b0, b1⟩ := HM.out.at_ i
      rw [hy] at hcw b0 b1
      have HE := Aside0.mk (show ((l.take (i + 1)).map fun n => n).sum = t + (y) by rw [sum_take _ hlt, hC.out, hy])
      obtain ⟨m1, m2⟩ := (⟨b0, b1⟩ : 0 ≤ y ∧ y ≤ 1048576)
      have CF := Aside0.mk (fun W => fn_tot y b0 b1 W)
      clear hC hy
      go_wp2_with (go_at_call 203; (with_reducible refine (CF.out _).mono ?_); rintro e w2 ⟨rfl, rfl⟩)
      go_round
      case rel => exact ⟨i + 1, t + (y), by omega, by go_num, by go_num, by omega, by omega, HE⟩
      case measure => simp [intOf]; omega
    · have HE := Aside0.mk (show l.sum = t by rw [← hC.out, List.take_of_length_le (by omega)]; simp)
      clear hC
      go_wp2_with fail
      go_ret
      exact ⟨ret_u64 HE.out.symm, rfl⟩
theorem fn_sq (n : Int) (h0 : 0 ≤ n) (h1 : n ≤ 1048576) (w : World) : Calls Tryz.prog 204 #[.int .u64 n] w fun e w' => e = .returned (.int .u64 (n * n)) ∧ w = w' := by
  obtain ⟨m1, m2⟩ := (sq_bd h0 h1 : 0 ≤ n * n ∧ n * n ≤ 1099511627776)
  go_enter Tryz.func204, Tryz.ntmps204
  go_wp2_with fail
  go_ret
  exact ⟨rfl, rfl⟩
set_option maxHeartbeats 400000 in
theorem sum_sq (l : List Int) (A : Option Addr) (c : Nat) (w : World) (hr : (Kd.int .i64).C w A l.length l) (hM : GMay l) :
    Calls Tryz.prog 93 #[.slice A l.length c, .func (.func 204) #[] #[]] w fun e w' => e = .returned (.int .u64 ((l.map fun n => n * n).sum)) ∧ w = w' := by
  have HS := Aside0.mk hr
  have hl := hM.hi
  have HM := Aside0.mk hM
  clear hr hM
  go_enter Tryz.func93, Tryz.ntmps93
  go_wp2_with fail
  go_loop [5, 7, 10] (fun T _ v => ∃ (i : Nat) (t : Int), i ≤ l.length ∧ T = .int .u64 t ∧ v = .int .i64 i ∧ 0 ≤ t ∧ t ≤ (i : Int) * 1099511627776 ∧ Aside0 (((l.take i).map fun n => n * n).sum = t))
    (fun _ _ v => l.length - (intOf v).toNat)
  case atStart => exact ⟨0, 0, by omega, rfl, rfl, by omega, by omega, ⟨rfl⟩⟩
  case round =>
    obtain ⟨i, t, hi, rfl, rfl, t0, t1, hC⟩ := hrel
    by_cases hlt : i < l.length
    · obtain ⟨ad, ea, hcw⟩ := Kd.at_int HS.out i (by omega) (by omega)
      subst ea
      have hcw : w.cell? (ad.add i) = some (.int .i64 (rd l i)) := hcw
      obtain ⟨y, hy⟩ : ∃ y, rd l i = y := ⟨_, rfl⟩
      obtain ⟨b0, b1⟩ := HM.out.at_ i
      rw [hy] at hcw b0 b1
      have HE := Aside0.mk (show ((l.take (i + 1)).map fun n => n * n).sum = t + (y * y) by rw [sum_take _ hlt, hC.out, hy])
      obtain ⟨m1, m2⟩ := (sq_bd b0 b1 : 0 ≤ y * y ∧ y * y ≤ 1099511627776)
      have CF := Aside0.mk (fun W => fn_sq y b0 b1 W)
      clear hC hy
      go_wp2_with (go_at_call 204; (with_reducible refine (CF.out _).mono ?_); rintro e w2 ⟨rfl, rfl⟩)
      go_round
      case rel => exact ⟨i + 1, t + (y * y), by omega, by go_num, by go_num, by omega, by omega, HE⟩
      case measure => simp [intOf]; omega
    · have HE := Aside0.mk (show (l.map fun n => n * n).sum = t by rw [← hC.out, List.take_of_length_le (by omega)])
      clear hC
      go_wp2_with fail
      go_ret
      exact ⟨ret_u64 HE.out.symm, rfl⟩

/-- Is there one class at most? -/
def gPure (l : List Int) : Bool := gMay l && decide ((l.map fun n => min n 1).sum ≤ 1)
theorem may_is (l : List Int) (b : Bool) (h : gMay l = b) (A : Option Addr) (c : Nat) (w : World) (hr : (Kd.int .i64).C w A l.length l) :
    Calls Tryz.prog 92 #[.slice A l.length c] w fun e w' => e = .returned (.bool b) ∧ w = w' := by
  rw [← h]
  exact may_calls l A c w hr
theorem gPure_calls (l : List Int) (A : Option Addr) (c : Nat) (w : World) (hr : (Kd.int .i64).C w A l.length l) :
    Calls Tryz.prog 67 #[.slice A l.length c] w fun e w' => e = .returned (.bool (gPure l)) ∧ w = w' := by
  by_cases h : gMay l = true
  · have C1 := Aside0.mk (may_is l true h A c w hr)
    have C2 := sum_one l A c w hr ((gMay_iff l).1 h)
    obtain ⟨x, hx⟩ : ∃ x, (l.map fun n => min n 1).sum = x := ⟨_, rfl⟩
    rw [hx] at C2
    have C2 := Aside0.mk C2
    by_cases h1 : x ≤ 1
    · have HE := Aside0.mk (show gPure l = true by unfold gPure; rw [h, hx]; simpa using h1)
      clear hr h hx
      go_enter Tryz.func67, Tryz.ntmps67
      go_wp2_with (first | (go_at_call 92; (with_reducible refine C1.out.mono ?_); rintro e w2 ⟨rfl, rfl⟩) | (go_at_call 93; (with_reducible refine C2.out.mono ?_); rintro e w2 ⟨rfl, rfl⟩))
      go_ret
      exact ⟨ret_bool HE.out.symm, rfl⟩
    · have HE := Aside0.mk (show gPure l = false by unfold gPure; rw [h, hx]; simpa using h1)
      have d1 : decide (x ≤ 1) = false := decide_eq_false h1
      clear hr h hx
      go_enter Tryz.func67, Tryz.ntmps67
      go_wp2_with (first | (go_at_call 92; (with_reducible refine C1.out.mono ?_); rintro e w2 ⟨rfl, rfl⟩) | (go_at_call 93; (with_reducible refine C2.out.mono ?_); rintro e w2 ⟨rfl, rfl⟩))
      go_ret
      exact ⟨ret_bool HE.out.symm, rfl⟩
  · have C1 := Aside0.mk (may_is l false (by simpa using h) A c w hr)
    have HE := Aside0.mk (show gPure l = false by unfold gPure; simp [h])
    clear hr h
    go_enter Tryz.func67, Tryz.ntmps67
    go_wp2_with (go_at_call 92; (with_reducible refine C1.out.mono ?_); rintro e w2 ⟨rfl, rfl⟩)
    go_ret
    exact ⟨ret_bool HE.out.symm, rfl⟩

/-- The first class of which there are the most. -/
def majFrom (l : List Int) : Nat → Nat → Nat → Nat
  | _, 0, b => b
  | i, n + 1, b => if rd l b < rd l i then majFrom l (i + 1) n i else majFrom l (i + 1) n b
def gMajor (l : List Int) : Nat := if gMay l = true then majFrom l 0 l.length 0 else 0
set_option maxHeartbeats 400000 in
theorem gMajor_calls (l : List Int) (A : Option Addr) (c : Nat) (w : World) (hr : (Kd.int .i64).C w A l.length l) :
    Calls Tryz.prog 68 #[.slice A l.length c] w fun e w' => e = .returned (.int .i64 (gMajor l)) ∧ w = w' := by
  by_cases h : gMay l = true
  · have C1 := Aside0.mk (may_is l true h A c w hr)
    have hM := (gMay_iff l).1 h
    have hl := hM.hi
    have HR := Aside0.mk (show gMajor l = majFrom l 0 l.length 0 from if_pos h)
    have HS := Aside0.mk hr
    clear hr hM h
    go_enter Tryz.func68, Tryz.ntmps68
    go_wp2_with (go_at_call 92; (with_reducible refine C1.out.mono ?_); rintro e w2 ⟨rfl, rfl⟩)
    go_loop [3, 4, 5, 11] (fun B _ _ v => ∃ (i b : Nat), i ≤ l.length ∧ B = .int .i64 b ∧ v = .int .i64 i ∧ b ≤ i ∧ Aside0 (majFrom l i (l.length - i) b = gMajor l))
      (fun _ _ _ v => l.length - (intOf v).toNat)
    case atStart => exact ⟨0, 0, by omega, rfl, rfl, by omega, ⟨HR.out.symm⟩⟩
    case round =>
      obtain ⟨i, b, hi, rfl, rfl, hb, hC⟩ := hrel
      by_cases hlt : i < l.length
      · obtain ⟨ad, ea, hcw⟩ := Kd.at_int HS.out i (by omega) (by omega)
        obtain ⟨ae, ee, hcb⟩ := Kd.at_int HS.out b (by omega) (by omega)
        rw [ea] at ee
        injection ee with ee
        subst ee
        subst ea
        have hcw : w.cell? (ad.add i) = some (.int .i64 (rd l i)) := hcw
        have hcb : w.cell? (ad.add b) = some (.int .i64 (rd l b)) := hcb
        have hbl : (b : Int) < l.length := by omega
        obtain ⟨n, hn⟩ : ∃ n, l.length - i = n + 1 := ⟨l.length - i - 1, by omega⟩
        have hn1 : l.length - (i + 1) = n := by omega
        by_cases h1 : rd l b < rd l i
        · have HE := Aside0.mk (show majFrom l (i + 1) (l.length - (i + 1)) i = gMajor l by rw [hn1, ← hC.out, hn]; simp [majFrom, h1])
          clear hC HR hn hn1
          go_wp2_with fail
          go_round
          case rel => exact ⟨i + 1, i, by omega, rfl, by go_num, by omega, HE⟩
          case measure => simp [intOf]; omega
        · have HE := Aside0.mk (show majFrom l (i + 1) (l.length - (i + 1)) b = gMajor l by rw [hn1, ← hC.out, hn]; simp [majFrom, h1])
          clear hC HR hn hn1
          go_wp2_with fail
          go_round
          case rel => exact ⟨i + 1, b, by omega, rfl, by go_num, by omega, HE⟩
          case measure => simp [intOf]; omega
      · have HE := Aside0.mk (show gMajor l = b by rw [← hC.out, show l.length - i = 0 by omega]; rfl)
        clear hC HR
        go_wp2_with fail
        go_ret
        exact ⟨by rw [HE.out]; rfl, rfl⟩
  · have C1 := Aside0.mk (may_is l false (by simpa using h) A c w hr)
    have HE := Aside0.mk (show gMajor l = 0 from if_neg h)
    clear hr h
    go_enter Tryz.func68, Tryz.ntmps68
    go_wp2_with (go_at_call 92; (with_reducible refine C1.out.mono ?_); rintro e w2 ⟨rfl, rfl⟩)
    go_ret
    exact ⟨by rw [HE.out]; rfl, rfl⟩
end Go.Proofs.YtkjijponijmdkaaGreat
