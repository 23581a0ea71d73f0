/-
  Contracts: part.apart by each of its functions.
-/
import Derived.Test.YtkjijponijmdkaaGreatP1
namespace Go.Proofs.YtkjijponijmdkaaGreat
open Go.RowKit Go.Proofs.YtkjijponijmdkaaGreatW.PrintWords

theorem take_filter {l : List Int} {i : Nat} (p : Int → Bool) (h : i < l.length) : (l.take (i + 1)).filter p = (l.take i).filter p ++ if p (rd l i) = true then [rd l i] else [] := by
  rw [take_rd h, List.filter_append]
  congr 1
  simp [List.filter_cons]
theorem pw_cell_belowB {w W : World} {a : Addr} {v : Value} (hB : Below w.heap.size w W) (hc : w.cell? a = some v) : W.cell? a = some v := (hB.cell (World.block_lt_of_cell? w _ hc)).trans hc
theorem filter_le (p : Int → Bool) (l : List Int) (i : Nat) : ((l.take i).filter p).length ≤ i :=
  Nat.le_trans (List.length_filter_le _ _) (List.length_take_le _ _)

set_option maxHeartbeats 1000000 in
set_option maxRecDepth 100000 in
theorem apart_drawn (p : Int → Bool) (xs : List Int) (c0 : Value) (A : Option Addr) (c : Nat) (w : World) (hr : (Kd.int .i64).C w A xs.length xs) (hl : xs.length ≤ 16777216)
    (HF : ∀ x ∈ xs, ∀ W, Below w.heap.size w W → Calls Tryz.prog 73 #[.int .i64 x, c0] W fun e W' => e = .returned (.bool (p x)) ∧ ∃ n, W.drewN n = W') :
    Calls Tryz.prog 71 #[.slice A xs.length c, .func (.func 73) #[] #[c0]] w fun e w' => ∃ va vb, e = .returned (.tuple #[va, vb]) ∧ (Kd.int .i64).R 3 w' w.heap.size (fun _ => True) va (xs.filter p) ∧ (Kd.int .i64).R 3 w' w.heap.size (fun _ => True) vb (xs.filter fun x => !p x) ∧ Below w.heap.size w w' := by
  have HS := Aside0.mk hr
  have HFF := Aside0.mk HF
  clear hr HF
  go_enter Tryz.func71, Tryz.ntmps71
  go_wp2_with fail
  go_loopw [6, 7, 9, 12] (fun V6 V7 _ v wr => ∃ (i : Nat) (va vb : Value), va = V6 ∧ vb = V7 ∧ i ≤ xs.length ∧ v = .int .i64 i ∧ Below w.heap.size w wr ∧ (Kd.int .i64).R 3 wr w.heap.size (fun k_ => some k_ ≠ vb.ownBlock) va ((xs.take i).filter p) ∧ (Kd.int .i64).R 3 wr w.heap.size (fun k_ => some k_ ≠ va.ownBlock) vb ((xs.take i).filter fun x => !p x))
    (fun _ _ _ v _ => xs.length - (intOf v).toNat)
  case atStart => exact ⟨0, _, _, rfl, rfl, by omega, rfl, Below.refl _ _, Kd.R_nil _ _ _ _ _, Kd.R_nil _ _ _ _ _⟩
  case round =>
    obtain ⟨i, va, vb, rfl, rfl, hi, rfl, hB, ha, hb⟩ := hrel
    by_cases hlt : i < xs.length
    · obtain ⟨ad, ea, hcw⟩ := Kd.at_int HS.out i (by omega) (by omega)
      subst ea
      have hcw : wr.cell? (ad.add i) = some (.int .i64 (rd xs i)) := pw_cell_belowB hB hcw
      obtain ⟨y, hy⟩ : ∃ y, rd xs i = y := ⟨_, rfl⟩
      have CF := HFF.out (rd xs i) (rd_mem hlt) wr hB
      have ta := take_filter p hlt
      have tb := take_filter (fun x => !p x) hlt
      have la := filter_le p xs i
      have lb := filter_le (fun x => !p x) xs i
      rw [hy] at hcw CF ta tb
      have HB := Aside0.mk hB
      have HOa := Aside0.mk ha
      have HOb := Aside0.mk hb
      cases hp : p y with
      | true =>
        rw [hp] at CF
        simp only [hp, if_true, Bool.not_true, Bool.false_eq_true, if_false, List.append_nil] at ta tb
        have CF := Aside0.mk CF
        have Ta := Aside0.mk ta
        have Tb := Aside0.mk tb
        clear hB ha hb ta tb hy hp
        go_wp2_with (first | (go_at_call 73; (with_reducible refine CF.out.mono ?_); rintro e w2 ⟨rfl, nq, rfl⟩) | (at_builtin; refine Kd.R_append (Kd.int .i64) (w0 := w) w.heap.size rfl (.tmp 19) (.tmp 21) 28 3 (.int .i64 0) 8 rfl Tryz.underlying28 info_int rfl (by decide) (by omega) va ((xs.take i).filter p) y [.int .i64 y] (fun k_ => some k_ ≠ (vb : Value).ownBlock) (fun _ => False) rfl rfl rfl (fun _ hk => hk.elim) (Kd.fresh' (Kd.R_lt (Kd.R_drewN HOb.out _))) (Kd.R_drewN HOa.out _) (pw_below_drewN HB.out _) (HB.out.size) (by omega) ?_; intro v1 w1 ho hb hg hat; have n0_ := Aside0.mk (Kd.R_after (ok := fun _ => True) (Kd.R_mono (Kd.R_drewN HOb.out _) (fun _ hk => ⟨trivial, hk⟩)) hg hat); have n1_ := Aside0.mk hb; have n2_ := Aside0.mk ho; clear ho hb hg hat))
        go_roundw
        case rel => exact ⟨i + 1, _, _, rfl, rfl, by omega, by go_num, n1_.out, by rw [Ta.out]; exact n2_.out, by rw [Tb.out]; exact Kd.R_mono n0_.out (fun _ hk => hk.2)⟩
        case measure => simp [intOf]; omega
      | false =>
        rw [hp] at CF
        simp only [hp, if_true, Bool.not_false, Bool.false_eq_true, if_false, List.append_nil] at ta tb
        have CF := Aside0.mk CF
        have Ta := Aside0.mk ta
        have Tb := Aside0.mk tb
        clear hB ha hb ta tb hy hp
        go_wp2_with (first | (go_at_call 73; (with_reducible refine CF.out.mono ?_); rintro e w2 ⟨rfl, nq, rfl⟩) | (at_builtin; refine Kd.R_append (Kd.int .i64) (w0 := w) w.heap.size rfl (.tmp 23) (.tmp 25) 28 3 (.int .i64 0) 8 rfl Tryz.underlying28 info_int rfl (by decide) (by omega) vb ((xs.take i).filter (fun x => !p x)) y [.int .i64 y] (fun k_ => some k_ ≠ (va : Value).ownBlock) (fun _ => False) rfl rfl rfl (fun _ hk => hk.elim) (Kd.fresh' (Kd.R_lt (Kd.R_drewN HOa.out _))) (Kd.R_drewN HOb.out _) (pw_below_drewN HB.out _) (HB.out.size) (by omega) ?_; intro v1 w1 ho hb hg hat; have n0_ := Aside0.mk (Kd.R_after (ok := fun _ => True) (Kd.R_mono (Kd.R_drewN HOa.out _) (fun _ hk => ⟨trivial, hk⟩)) hg hat); have n1_ := Aside0.mk hb; have n2_ := Aside0.mk ho; clear ho hb hg hat))
        go_roundw
        case rel => exact ⟨i + 1, _, _, rfl, rfl, by omega, by go_num, n1_.out, by rw [Ta.out]; exact Kd.R_mono n0_.out (fun _ hk => hk.2), by rw [Tb.out]; exact n2_.out⟩
        case measure => simp [intOf]; omega
    · obtain rfl : i = xs.length := by omega
      rw [List.take_length] at ha hb
      have HA := Aside0.mk (Kd.R_mono (ok' := fun _ => True) ha (fun _ _ => trivial))
      have HBr := Aside0.mk (Kd.R_mono (ok' := fun _ => True) hb (fun _ _ => trivial))
      have HB := Aside0.mk hB
      clear ha hb hB
      go_wp2_with fail
      go_ret2
      exact ⟨_, _, rfl, HA.out, HBr.out, HB.out⟩

set_option maxHeartbeats 1000000 in
set_option maxRecDepth 100000 in
theorem apart_part (p : Int → Bool) (xs : List Int) (c0 : Value) (c1 : Value) (A : Option Addr) (c : Nat) (w : World) (hr : (Kd.int .i64).C w A xs.length xs) (hl : xs.length ≤ 16777216)
    (HF : ∀ x ∈ xs, ∀ W, Below w.heap.size w W → Calls Tryz.prog 104 #[.int .i64 x, c0, c1] W fun e W' => e = .returned (.bool (p x)) ∧ ∃ n, W.drewN n = W') :
    Calls Tryz.prog 71 #[.slice A xs.length c, .func (.func 104) #[] #[c0, c1]] w fun e w' => ∃ va vb, e = .returned (.tuple #[va, vb]) ∧ (Kd.int .i64).R 3 w' w.heap.size (fun _ => True) va (xs.filter p) ∧ (Kd.int .i64).R 3 w' w.heap.size (fun _ => True) vb (xs.filter fun x => !p x) ∧ Below w.heap.size w w' := by
  have HS := Aside0.mk hr
  have HFF := Aside0.mk HF
  clear hr HF
  go_enter Tryz.func71, Tryz.ntmps71
  go_wp2_with fail
  go_loopw [6, 7, 9, 12] (fun V6 V7 _ v wr => ∃ (i : Nat) (va vb : Value), va = V6 ∧ vb = V7 ∧ i ≤ xs.length ∧ v = .int .i64 i ∧ Below w.heap.size w wr ∧ (Kd.int .i64).R 3 wr w.heap.size (fun k_ => some k_ ≠ vb.ownBlock) va ((xs.take i).filter p) ∧ (Kd.int .i64).R 3 wr w.heap.size (fun k_ => some k_ ≠ va.ownBlock) vb ((xs.take i).filter fun x => !p x))
    (fun _ _ _ v _ => xs.length - (intOf v).toNat)
  case atStart => exact ⟨0, _, _, rfl, rfl, by omega, rfl, Below.refl _ _, Kd.R_nil _ _ _ _ _, Kd.R_nil _ _ _ _ _⟩
  case round =>
    obtain ⟨i, va, vb, rfl, rfl, hi, rfl, hB, ha, hb⟩ := hrel
    by_cases hlt : i < xs.length
    · obtain ⟨ad, ea, hcw⟩ := Kd.at_int HS.out i (by omega) (by omega)
      subst ea
      have hcw : wr.cell? (ad.add i) = some (.int .i64 (rd xs i)) := pw_cell_belowB hB hcw
      obtain ⟨y, hy⟩ : ∃ y, rd xs i = y := ⟨_, rfl⟩
      have CF := HFF.out (rd xs i) (rd_mem hlt) wr hB
      have ta := take_filter p hlt
      have tb := take_filter (fun x => !p x) hlt
      have la := filter_le p xs i
      have lb := filter_le (fun x => !p x) xs i
      rw [hy] at hcw CF ta tb
      have HB := Aside0.mk hB
      have HOa := Aside0.mk ha
      have HOb := Aside0.mk hb
      cases hp : p y with
      | true =>
        rw [hp] at CF
        simp only [hp, if_true, Bool.not_true, Bool.false_eq_true, if_false, List.append_nil] at ta tb
        have CF := Aside0.mk CF
        have Ta := Aside0.mk ta
        have Tb := Aside0.mk tb
        clear hB ha hb ta tb hy hp
        go_wp2_with (first | (go_at_call 104; (with_reducible refine CF.out.mono ?_); rintro e w2 ⟨rfl, nq, rfl⟩) | (at_builtin; refine Kd.R_append (Kd.int .i64) (w0 := w) w.heap.size rfl (.tmp 19) (.tmp 21) 28 3 (.int .i64 0) 8 rfl Tryz.underlying28 info_int rfl (by decide) (by omega) va ((xs.take i).filter p) y [.int .i64 y] (fun k_ => some k_ ≠ (vb : Value).ownBlock) (fun _ => False) rfl rfl rfl (fun _ hk => hk.elim) (Kd.fresh' (Kd.R_lt (Kd.R_drewN HOb.out _))) (Kd.R_drewN HOa.out _) (pw_below_drewN HB.out _) (HB.out.size) (by omega) ?_; intro v1 w1 ho hb hg hat; have n0_ := Aside0.mk (Kd.R_after (ok := fun _ => True) (Kd.R_mono (Kd.R_drewN HOb.out _) (fun _ hk => ⟨trivial, hk⟩)) hg hat); have n1_ := Aside0.mk hb; have n2_ := Aside0.mk ho; clear ho hb hg hat))
        go_roundw
        case rel => exact ⟨i + 1, _, _, rfl, rfl, by omega, by go_num, n1_.out, by rw [Ta.out]; exact n2_.out, by rw [Tb.out]; exact Kd.R_mono n0_.out (fun _ hk => hk.2)⟩
        case measure => simp [intOf]; omega
      | false =>
        rw [hp] at CF
        simp only [hp, if_true, Bool.not_false, Bool.false_eq_true, if_false, List.append_nil] at ta tb
        have CF := Aside0.mk CF
        have Ta := Aside0.mk ta
        have Tb := Aside0.mk tb
        clear hB ha hb ta tb hy hp
        go_wp2_with (first | (go_at_call 104; (with_reducible refine CF.out.mono ?_); rintro e w2 ⟨rfl, nq, rfl⟩) | (at_builtin; refine Kd.R_append (Kd.int .i64) (w0 := w) w.heap.size rfl (.tmp 23) (.tmp 25) 28 3 (.int .i64 0) 8 rfl Tryz.underlying28 info_int rfl (by decide) (by omega) vb ((xs.take i).filter (fun x => !p x)) y [.int .i64 y] (fun k_ => some k_ ≠ (va : Value).ownBlock) (fun _ => False) rfl rfl rfl (fun _ hk => hk.elim) (Kd.fresh' (Kd.R_lt (Kd.R_drewN HOa.out _))) (Kd.R_drewN HOb.out _) (pw_below_drewN HB.out _) (HB.out.size) (by omega) ?_; intro v1 w1 ho hb hg hat; have n0_ := Aside0.mk (Kd.R_after (ok := fun _ => True) (Kd.R_mono (Kd.R_drewN HOa.out _) (fun _ hk => ⟨trivial, hk⟩)) hg hat); have n1_ := Aside0.mk hb; have n2_ := Aside0.mk ho; clear ho hb hg hat))
        go_roundw
        case rel => exact ⟨i + 1, _, _, rfl, rfl, by omega, by go_num, n1_.out, by rw [Ta.out]; exact Kd.R_mono n0_.out (fun _ hk => hk.2), by rw [Tb.out]; exact n2_.out⟩
        case measure => simp [intOf]; omega
    · obtain rfl : i = xs.length := by omega
      rw [List.take_length] at ha hb
      have HA := Aside0.mk (Kd.R_mono (ok' := fun _ => True) ha (fun _ _ => trivial))
      have HBr := Aside0.mk (Kd.R_mono (ok' := fun _ => True) hb (fun _ _ => trivial))
      have HB := Aside0.mk hB
      clear ha hb hB
      go_wp2_with fail
      go_ret2
      exact ⟨_, _, rfl, HA.out, HBr.out, HB.out⟩
end Go.Proofs.YtkjijponijmdkaaGreat
