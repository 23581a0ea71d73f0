-- PRINTED BY print.sh 35421559b90ae4d0a3588c463048766b98c2df88dd9212a6774a882060cdf62d: not written by this session
import Derived.Test.YtkjijponijmdkaaGreatPGrowChecksx0
import Derived.Test.YtkjijponijmdkaaGreatPGrowChecksx11
namespace Go.Proofs.YtkjijponijmdkaaGreat.PGrowChecks
open Go.RowKit Go.Proofs.YtkjijponijmdkaaGreatW.PrintWords Go.Proofs.YtkjijponijmdkaaGreatW.PrintLast Go.Proofs.YtkjijponijmdkaaGreatW.PrintMore
attribute [local go_sem] max2_int min2_int max_two min_two max_three min_three max_four min_four   -- for this text's walks alone
set_option linter.unusedVariables false
set_option linter.unusedSimpArgs false

/-! ### hornbeamref13_Right: function 24 -/
def hornbeamref13_Right.f (k : Nat) (a0_0 : Int) (a0_1 : Int) (a0_2 : Int) (a0_3 : Int) (a0_4 : Int) (a0_5 : Int) (a0_6 : Int) (a0_7 : Int) (a0_8 : Int) (l0_9 : List Int) (l0_10 : List Int) (l0_11 : List Int) : Option (Bool) := (hornbeamref08_Check.f k a0_0 a0_1 a0_2 a0_3 a0_4 a0_5 a0_6).bind fun t305 => (if t305 = 0 then ((hornbeamref11_Right.f a0_7 a0_8 l0_9).bind fun t306 => (if t306 = true then (if (l0_10.length : Int) = a0_7 then (some ((l0_11.length : Int) == a0_7)) else (some false)) else (some false))) else (some false))
theorem hornbeamref13_Right.mono : ∀ a0 a1 a2 a3 a4 a5 a6 a7 a8 a9 a10 a11 k, LeO (hornbeamref13_Right.f k a0 a1 a2 a3 a4 a5 a6 a7 a8 a9 a10 a11) (hornbeamref13_Right.f (k + 1) a0 a1 a2 a3 a4 a5 a6 a7 a8 a9 a10 a11) := by
  intro a0 a1 a2 a3 a4 a5 a6 a7 a8 a9 a10 a11 k
  unfold hornbeamref13_Right.f
  repeat' first
      | (with_reducible exact hornbeamref08_Check.mono _ _ _ _ _ _ _ _)
      | (with_reducible exact LeO.refl _)
      | (with_reducible exact LeO.none _)
      | (with_reducible refine LeO.ite ?_ ?_)
      | (with_reducible refine LeO.bind ?_ (fun _ => ?_))
      | exact hornbeamref08_Check.mono _ _ _ _ _ _ _ _
      | exact LeO.none _
      | refine LeO.ite ?_ ?_
      | refine LeO.bind ?_ (fun _ => ?_)
set_option maxHeartbeats 8000000 in
set_option maxRecDepth 100000 in
theorem hornbeamref13_Right.calls (k : Nat) (a0_0 : Int) (a0_1 : Int) (a0_2 : Int) (a0_3 : Int) (a0_4 : Int) (a0_5 : Int) (a0_6 : Int) (a0_7 : Int) (a0_8 : Int) (A0_9 : Option Addr) (c0_9 : Nat) (l0_9 : List Int) (A0_10 : Option Addr) (c0_10 : Nat) (l0_10 : List Int) (A0_11 : Option Addr) (c0_11 : Nat) (l0_11 : List Int) (r : Bool) (w : World) (hr0_9 : Kd.C (Kd.int .u16) w A0_9 l0_9.length l0_9) (hc0_9 : l0_9.length ≤ c0_9) (hr0_10 : Kd.C (Kd.int .i64) w A0_10 l0_10.length l0_10) (hc0_10 : l0_10.length ≤ c0_10) (hr0_11 : Kd.C (Kd.int .i64) w A0_11 l0_11.length l0_11) (hc0_11 : l0_11.length ≤ c0_11) (h : hornbeamref13_Right.f k a0_0 a0_1 a0_2 a0_3 a0_4 a0_5 a0_6 a0_7 a0_8 l0_9 l0_10 l0_11 = some r) :
    Calls Tryz.prog 24 #[.agg #[.int .i64 a0_0, .int .i64 a0_1, .int .i64 a0_2, .int .i64 a0_3, .int .i64 a0_4, .int .i64 a0_5, .int .i64 a0_6, .int .i64 a0_7, .int .i64 a0_8, .slice A0_9 l0_9.length c0_9, .slice A0_10 l0_10.length c0_10, .slice A0_11 l0_11.length c0_11]] w fun e w' => e = .returned (.bool r) ∧ Below w.heap.size w w' := by
  have hu30 := Tryz.underlying30
  have hu23 := Tryz.underlying23
  have hu26 := Tryz.underlying26
  have HR0_9 := Aside0.mk hr0_9
  have HC0_9 := Aside0.mk hc0_9
  clear hr0_9 hc0_9
  have HR0_10 := Aside0.mk hr0_10
  have HC0_10 := Aside0.mk hc0_10
  clear hr0_10 hc0_10
  have HR0_11 := Aside0.mk hr0_11
  have HC0_11 := Aside0.mk hc0_11
  clear hr0_11 hc0_11
  have HB := Aside0.mk (Below.refl w.heap.size w)
  have H : ((hornbeamref08_Check.f k a0_0 a0_1 a0_2 a0_3 a0_4 a0_5 a0_6).bind fun t305 => (if t305 = 0 then ((hornbeamref11_Right.f a0_7 a0_8 l0_9).bind fun t306 => (if t306 = true then (if (l0_10.length : Int) = a0_7 then (some ((l0_11.length : Int) == a0_7)) else (some false)) else (some false))) else (some false))) = some r := h
  clear h
  replace H := Option.bind_eq_some_iff.mp H
  obtain ⟨t305, A20, H⟩ := H
  replace H : (if t305 = 0 then ((hornbeamref11_Right.f a0_7 a0_8 l0_9).bind fun t306 => (if t306 = true then (if (l0_10.length : Int) = a0_7 then (some ((l0_11.length : Int) == a0_7)) else (some false)) else (some false))) else (some false)) = some r := H
  have A2 := Aside0.mk A20
  clear A20
  by_cases c3 : t305 = 0
  · rw [if_pos c3] at H
    have c3b0 : (t305 == 0) = true := beq_iff_eq.mpr c3
    have c3b1 : (t305 != 0) = false := bne_eq_false_iff_eq.mpr c3
    clear c3
    replace H := Option.bind_eq_some_iff.mp H
    obtain ⟨t306, A40, H⟩ := H
    replace H : (if t306 = true then (if (l0_10.length : Int) = a0_7 then (some ((l0_11.length : Int) == a0_7)) else (some false)) else (some false)) = some r := H
    have A4 := Aside0.mk A40
    clear A40
    by_cases c5 : t306 = true
    · subst c5
      have H1 : (if (l0_10.length : Int) = a0_7 then (some ((l0_11.length : Int) == a0_7)) else (some false)) = some r := by rw [if_pos rfl] at H; exact H
      clear H
      have H := H1
      clear H1
      by_cases c6 : (l0_10.length : Int) = a0_7
      · rw [if_pos c6] at H
        have c6b0 : ((l0_10.length : Int) == a0_7) = true := beq_iff_eq.mpr c6
        have c6b1 : ((l0_10.length : Int) != a0_7) = false := bne_eq_false_iff_eq.mpr c6
        clear c6
        obtain rfl := Option.some.inj H
        go_enter Tryz.func24, Tryz.ntmps24
        go_wp2_with (first | ((with_reducible refine gate_dst (N := 1) rfl ?_); (try (refine gate_guard (by rfl) ?_; dsimp only)); refine box_event ?hg (N := 1) ?hd (cs := #[.int .i64 a0_0, .int .i64 a0_1, .int .i64 a0_2, .int .i64 a0_3, .int .i64 a0_4, .int .i64 a0_5, .int .i64 a0_6, .int .i64 a0_7, .int .i64 a0_8, .slice A0_9 l0_9.length c0_9, .slice A0_10 l0_10.length c0_10, .slice A0_11 l0_11.length c0_11]) (t := 30) ?hr ?_; (case hd => rfl); (case hg => rfl); (case hr => first | (go_simp; done) | (go_simp; rfl)); intro gb304 hg w7 hbox hb; have n0_ := Aside0.mk (below_step (by repeat (first | (with_reducible first | exact HB.out | apply below_alloc | apply pw_below_drewN | apply below_drew1) | exact HB.out)) hb); have n1_ := Aside0.mk (hbox); have n2_ := Aside0.mk ((by rw [hg]; exact (below_size (by repeat (first | (with_reducible first | exact HB.out | apply below_alloc | apply pw_below_drewN | apply below_drew1) | exact HB.out))) : w.heap.size ≤ gb304)); have n3_ := Aside0.mk ((by rw [hg]; exact (below_size (by repeat (first | (with_reducible first | exact HB.out | apply below_alloc | apply pw_below_drewN | apply below_drew1) | exact HB.out))) : w.heap.size ≤ gb304)); clear HB; have HB := n0_; have BK304 := n1_; have GW304 := n2_; have GE304 := n3_; clear n0_ n1_ n2_ n3_; clear hb hbox hg; have hcz8_0 : w7.cell? ⟨gb304, 0, none⟩ = some (.int .i64 a0_0) := (blk_cell BK304.out 0).trans rfl; have hcz8_1 : w7.cell? ⟨gb304, 1, none⟩ = some (.int .i64 a0_1) := (blk_cell BK304.out 1).trans rfl; have hcz8_2 : w7.cell? ⟨gb304, 2, none⟩ = some (.int .i64 a0_2) := (blk_cell BK304.out 2).trans rfl; have hcz8_3 : w7.cell? ⟨gb304, 3, none⟩ = some (.int .i64 a0_3) := (blk_cell BK304.out 3).trans rfl; have hcz8_4 : w7.cell? ⟨gb304, 4, none⟩ = some (.int .i64 a0_4) := (blk_cell BK304.out 4).trans rfl; have hcz8_5 : w7.cell? ⟨gb304, 5, none⟩ = some (.int .i64 a0_5) := (blk_cell BK304.out 5).trans rfl; have hcz8_6 : w7.cell? ⟨gb304, 6, none⟩ = some (.int .i64 a0_6) := (blk_cell BK304.out 6).trans rfl; have hcz8_7 : w7.cell? ⟨gb304, 7, none⟩ = some (.int .i64 a0_7) := (blk_cell BK304.out 7).trans rfl; have hcz8_8 : w7.cell? ⟨gb304, 8, none⟩ = some (.int .i64 a0_8) := (blk_cell BK304.out 8).trans rfl; have hcz8_9 : w7.cell? ⟨gb304, 9, none⟩ = some (.slice A0_9 l0_9.length c0_9) := (blk_cell BK304.out 9).trans rfl; have hcz8_10 : w7.cell? ⟨gb304, 10, none⟩ = some (.slice A0_10 l0_10.length c0_10) := (blk_cell BK304.out 10).trans rfl; have hcz8_11 : w7.cell? ⟨gb304, 11, none⟩ = some (.slice A0_11 l0_11.length c0_11) := (blk_cell BK304.out 11).trans rfl; have hfz8_0 := blk_frozen BK304.out 0; have hfz8_1 := blk_frozen BK304.out 1; have hfz8_2 := blk_frozen BK304.out 2; have hfz8_3 := blk_frozen BK304.out 3; have hfz8_4 := blk_frozen BK304.out 4; have hfz8_5 := blk_frozen BK304.out 5; have hfz8_6 := blk_frozen BK304.out 6; have hfz8_7 := blk_frozen BK304.out 7; have hfz8_8 := blk_frozen BK304.out 8; have hfz8_9 := blk_frozen BK304.out 9; have hfz8_10 := blk_frozen BK304.out 10; have hfz8_11 := blk_frozen BK304.out 11) | ((with_reducible refine gate_callee (f := 44) rfl ?_); refine goesL_ (some 5) rfl rfl Tryz.func44 (by kernel_rfl) rfl #[.agg #[.int .i64 a0_0, .int .i64 a0_1, .int .i64 a0_2, .int .i64 a0_3, .int .i64 a0_4, .int .i64 a0_5, .int .i64 a0_6]] rfl (by (try simp only [List.map_toArray, List.map_cons, List.map_nil]); first | done | rfl | (simp only [List.length_drop, List.length_take]; rfl)) ?_; (with_reducible refine (hornbeamref08_Check.calls k a0_0 a0_1 a0_2 a0_3 a0_4 a0_5 a0_6 t305 _ A2.out).mono ?_); rintro e w9 ⟨rfl, hb⟩; refine ⟨_, rfl, ?_⟩; have n0_ := Aside0.mk (blk_below (g := gb304) (o := .cells #[.int .i64 a0_0, .int .i64 a0_1, .int .i64 a0_2, .int .i64 a0_3, .int .i64 a0_4, .int .i64 a0_5, .int .i64 a0_6, .int .i64 a0_7, .int .i64 a0_8, .slice A0_9 l0_9.length c0_9, .slice A0_10 l0_10.length c0_10, .slice A0_11 l0_11.length c0_11] 30 (0, 0)) (by (with_reducible repeat (first | refine blk_drewN ?_ _ | refine blk_drew ?_ | refine blk_alloc ?_ _)); exact BK304.out) hb); have n1_ := Aside0.mk (below_step (by repeat (first | (with_reducible first | exact HB.out | apply below_alloc | apply pw_below_drewN | apply below_drew1 | refine below_set ?_ GE304.out) | exact HB.out)) hb); clear BK304; clear HB; have BK304 := n0_; have HB := n1_; clear n0_ n1_; (try clear hb); (try clear hb2); (try clear hk); (try clear hi); have hcz10_0 : w9.cell? ⟨gb304, 0, none⟩ = some (.int .i64 a0_0) := (blk_cell BK304.out 0).trans rfl; have hcz10_1 : w9.cell? ⟨gb304, 1, none⟩ = some (.int .i64 a0_1) := (blk_cell BK304.out 1).trans rfl; have hcz10_2 : w9.cell? ⟨gb304, 2, none⟩ = some (.int .i64 a0_2) := (blk_cell BK304.out 2).trans rfl; have hcz10_3 : w9.cell? ⟨gb304, 3, none⟩ = some (.int .i64 a0_3) := (blk_cell BK304.out 3).trans rfl; have hcz10_4 : w9.cell? ⟨gb304, 4, none⟩ = some (.int .i64 a0_4) := (blk_cell BK304.out 4).trans rfl; have hcz10_5 : w9.cell? ⟨gb304, 5, none⟩ = some (.int .i64 a0_5) := (blk_cell BK304.out 5).trans rfl; have hcz10_6 : w9.cell? ⟨gb304, 6, none⟩ = some (.int .i64 a0_6) := (blk_cell BK304.out 6).trans rfl; have hcz10_7 : w9.cell? ⟨gb304, 7, none⟩ = some (.int .i64 a0_7) := (blk_cell BK304.out 7).trans rfl; have hcz10_8 : w9.cell? ⟨gb304, 8, none⟩ = some (.int .i64 a0_8) := (blk_cell BK304.out 8).trans rfl; have hcz10_9 : w9.cell? ⟨gb304, 9, none⟩ = some (.slice A0_9 l0_9.length c0_9) := (blk_cell BK304.out 9).trans rfl; have hcz10_10 : w9.cell? ⟨gb304, 10, none⟩ = some (.slice A0_10 l0_10.length c0_10) := (blk_cell BK304.out 10).trans rfl; have hcz10_11 : w9.cell? ⟨gb304, 11, none⟩ = some (.slice A0_11 l0_11.length c0_11) := (blk_cell BK304.out 11).trans rfl; have hfz10_0 := blk_frozen BK304.out 0; have hfz10_1 := blk_frozen BK304.out 1; have hfz10_2 := blk_frozen BK304.out 2; have hfz10_3 := blk_frozen BK304.out 3; have hfz10_4 := blk_frozen BK304.out 4; have hfz10_5 := blk_frozen BK304.out 5; have hfz10_6 := blk_frozen BK304.out 6; have hfz10_7 := blk_frozen BK304.out 7; have hfz10_8 := blk_frozen BK304.out 8; have hfz10_9 := blk_frozen BK304.out 9; have hfz10_10 := blk_frozen BK304.out 10; have hfz10_11 := blk_frozen BK304.out 11) | (go_at_call 45; (with_reducible refine (hornbeamref11_Right.calls a0_7 a0_8 _ _ l0_9 true _ ?side1 ?side2 A4.out).mono ?_); (case side1 => repeat (first | exact (Kd.C_below HR0_9.out HB.out) | (with_reducible refine Kd.C_alloc ?_ _) | (with_reducible refine Kd.C_drewN ?_ _) | (with_reducible refine Kd.C_drew ?_))); (case side2 => exact HC0_9.out); rintro e w11 ⟨rfl, hb⟩; have n0_ := Aside0.mk (blk_below (g := gb304) (o := .cells #[.int .i64 a0_0, .int .i64 a0_1, .int .i64 a0_2, .int .i64 a0_3, .int .i64 a0_4, .int .i64 a0_5, .int .i64 a0_6, .int .i64 a0_7, .int .i64 a0_8, .slice A0_9 l0_9.length c0_9, .slice A0_10 l0_10.length c0_10, .slice A0_11 l0_11.length c0_11] 30 (0, 0)) (by (with_reducible repeat (first | refine blk_drewN ?_ _ | refine blk_drew ?_ | refine blk_alloc ?_ _)); exact BK304.out) hb); have n1_ := Aside0.mk (below_step (by repeat (first | (with_reducible first | exact HB.out | apply below_alloc | apply pw_below_drewN | apply below_drew1 | refine below_set ?_ GE304.out) | exact HB.out)) hb); clear BK304; clear HB; have BK304 := n0_; have HB := n1_; clear n0_ n1_; (try clear hb); (try clear hb2); (try clear hk); (try clear hi); have hcz12_0 : w11.cell? ⟨gb304, 0, none⟩ = some (.int .i64 a0_0) := (blk_cell BK304.out 0).trans rfl; have hcz12_1 : w11.cell? ⟨gb304, 1, none⟩ = some (.int .i64 a0_1) := (blk_cell BK304.out 1).trans rfl; have hcz12_2 : w11.cell? ⟨gb304, 2, none⟩ = some (.int .i64 a0_2) := (blk_cell BK304.out 2).trans rfl; have hcz12_3 : w11.cell? ⟨gb304, 3, none⟩ = some (.int .i64 a0_3) := (blk_cell BK304.out 3).trans rfl; have hcz12_4 : w11.cell? ⟨gb304, 4, none⟩ = some (.int .i64 a0_4) := (blk_cell BK304.out 4).trans rfl; have hcz12_5 : w11.cell? ⟨gb304, 5, none⟩ = some (.int .i64 a0_5) := (blk_cell BK304.out 5).trans rfl; have hcz12_6 : w11.cell? ⟨gb304, 6, none⟩ = some (.int .i64 a0_6) := (blk_cell BK304.out 6).trans rfl; have hcz12_7 : w11.cell? ⟨gb304, 7, none⟩ = some (.int .i64 a0_7) := (blk_cell BK304.out 7).trans rfl; have hcz12_8 : w11.cell? ⟨gb304, 8, none⟩ = some (.int .i64 a0_8) := (blk_cell BK304.out 8).trans rfl; have hcz12_9 : w11.cell? ⟨gb304, 9, none⟩ = some (.slice A0_9 l0_9.length c0_9) := (blk_cell BK304.out 9).trans rfl; have hcz12_10 : w11.cell? ⟨gb304, 10, none⟩ = some (.slice A0_10 l0_10.length c0_10) := (blk_cell BK304.out 10).trans rfl; have hcz12_11 : w11.cell? ⟨gb304, 11, none⟩ = some (.slice A0_11 l0_11.length c0_11) := (blk_cell BK304.out 11).trans rfl; have hfz12_0 := blk_frozen BK304.out 0; have hfz12_1 := blk_frozen BK304.out 1; have hfz12_2 := blk_frozen BK304.out 2; have hfz12_3 := blk_frozen BK304.out 3; have hfz12_4 := blk_frozen BK304.out 4; have hfz12_5 := blk_frozen BK304.out 5; have hfz12_6 := blk_frozen BK304.out 6; have hfz12_7 := blk_frozen BK304.out 7; have hfz12_8 := blk_frozen BK304.out 8; have hfz12_9 := blk_frozen BK304.out 9; have hfz12_10 := blk_frozen BK304.out 10; have hfz12_11 := blk_frozen BK304.out 11))
        go_ret
        exact ⟨by first | rfl | (simp [errW_none, errW_some] <;> rfl) | (simp [*, errW_none, errW_some] <;> rfl), by repeat (first | (with_reducible first | exact HB.out | apply below_alloc | apply pw_below_drewN | apply below_drew1 | refine below_set ?_ GE304.out) | exact HB.out)⟩
      · rw [if_neg c6] at H
        have c6b0 : ((l0_10.length : Int) == a0_7) = false := beq_eq_false_iff_ne.mpr c6
        have c6b1 : ((l0_10.length : Int) != a0_7) = true := bne_iff_ne.mpr c6
        obtain rfl := Option.some.inj H
        go_enter Tryz.func24, Tryz.ntmps24
        go_wp2_with (first | ((with_reducible refine gate_dst (N := 1) rfl ?_); (try (refine gate_guard (by rfl) ?_; dsimp only)); refine box_event ?hg (N := 1) ?hd (cs := #[.int .i64 a0_0, .int .i64 a0_1, .int .i64 a0_2, .int .i64 a0_3, .int .i64 a0_4, .int .i64 a0_5, .int .i64 a0_6, .int .i64 a0_7, .int .i64 a0_8, .slice A0_9 l0_9.length c0_9, .slice A0_10 l0_10.length c0_10, .slice A0_11 l0_11.length c0_11]) (t := 30) ?hr ?_; (case hd => rfl); (case hg => rfl); (case hr => first | (go_simp; done) | (go_simp; rfl)); intro gb304 hg w13 hbox hb; have n0_ := Aside0.mk (below_step (by repeat (first | (with_reducible first | exact HB.out | apply below_alloc | apply pw_below_drewN | apply below_drew1) | exact HB.out)) hb); have n1_ := Aside0.mk (hbox); have n2_ := Aside0.mk ((by rw [hg]; exact (below_size (by repeat (first | (with_reducible first | exact HB.out | apply below_alloc | apply pw_below_drewN | apply below_drew1) | exact HB.out))) : w.heap.size ≤ gb304)); have n3_ := Aside0.mk ((by rw [hg]; exact (below_size (by repeat (first | (with_reducible first | exact HB.out | apply below_alloc | apply pw_below_drewN | apply below_drew1) | exact HB.out))) : w.heap.size ≤ gb304)); clear HB; have HB := n0_; have BK304 := n1_; have GW304 := n2_; have GE304 := n3_; clear n0_ n1_ n2_ n3_; clear hb hbox hg; have hcz14_0 : w13.cell? ⟨gb304, 0, none⟩ = some (.int .i64 a0_0) := (blk_cell BK304.out 0).trans rfl; have hcz14_1 : w13.cell? ⟨gb304, 1, none⟩ = some (.int .i64 a0_1) := (blk_cell BK304.out 1).trans rfl; have hcz14_2 : w13.cell? ⟨gb304, 2, none⟩ = some (.int .i64 a0_2) := (blk_cell BK304.out 2).trans rfl; have hcz14_3 : w13.cell? ⟨gb304, 3, none⟩ = some (.int .i64 a0_3) := (blk_cell BK304.out 3).trans rfl; have hcz14_4 : w13.cell? ⟨gb304, 4, none⟩ = some (.int .i64 a0_4) := (blk_cell BK304.out 4).trans rfl; have hcz14_5 : w13.cell? ⟨gb304, 5, none⟩ = some (.int .i64 a0_5) := (blk_cell BK304.out 5).trans rfl; have hcz14_6 : w13.cell? ⟨gb304, 6, none⟩ = some (.int .i64 a0_6) := (blk_cell BK304.out 6).trans rfl; have hcz14_7 : w13.cell? ⟨gb304, 7, none⟩ = some (.int .i64 a0_7) := (blk_cell BK304.out 7).trans rfl; have hcz14_8 : w13.cell? ⟨gb304, 8, none⟩ = some (.int .i64 a0_8) := (blk_cell BK304.out 8).trans rfl; have hcz14_9 : w13.cell? ⟨gb304, 9, none⟩ = some (.slice A0_9 l0_9.length c0_9) := (blk_cell BK304.out 9).trans rfl; have hcz14_10 : w13.cell? ⟨gb304, 10, none⟩ = some (.slice A0_10 l0_10.length c0_10) := (blk_cell BK304.out 10).trans rfl; have hcz14_11 : w13.cell? ⟨gb304, 11, none⟩ = some (.slice A0_11 l0_11.length c0_11) := (blk_cell BK304.out 11).trans rfl; have hfz14_0 := blk_frozen BK304.out 0; have hfz14_1 := blk_frozen BK304.out 1; have hfz14_2 := blk_frozen BK304.out 2; have hfz14_3 := blk_frozen BK304.out 3; have hfz14_4 := blk_frozen BK304.out 4; have hfz14_5 := blk_frozen BK304.out 5; have hfz14_6 := blk_frozen BK304.out 6; have hfz14_7 := blk_frozen BK304.out 7; have hfz14_8 := blk_frozen BK304.out 8; have hfz14_9 := blk_frozen BK304.out 9; have hfz14_10 := blk_frozen BK304.out 10; have hfz14_11 := blk_frozen BK304.out 11) | ((with_reducible refine gate_callee (f := 44) rfl ?_); refine goesL_ (some 5) rfl rfl Tryz.func44 (by kernel_rfl) rfl #[.agg #[.int .i64 a0_0, .int .i64 a0_1, .int .i64 a0_2, .int .i64 a0_3, .int .i64 a0_4, .int .i64 a0_5, .int .i64 a0_6]] rfl (by (try simp only [List.map_toArray, List.map_cons, List.map_nil]); first | done | rfl | (simp only [List.length_drop, List.length_take]; rfl)) ?_; (with_reducible refine (hornbeamref08_Check.calls k a0_0 a0_1 a0_2 a0_3 a0_4 a0_5 a0_6 t305 _ A2.out).mono ?_); rintro e w15 ⟨rfl, hb⟩; refine ⟨_, rfl, ?_⟩; have n0_ := Aside0.mk (blk_below (g := gb304) (o := .cells #[.int .i64 a0_0, .int .i64 a0_1, .int .i64 a0_2, .int .i64 a0_3, .int .i64 a0_4, .int .i64 a0_5, .int .i64 a0_6, .int .i64 a0_7, .int .i64 a0_8, .slice A0_9 l0_9.length c0_9, .slice A0_10 l0_10.length c0_10, .slice A0_11 l0_11.length c0_11] 30 (0, 0)) (by (with_reducible repeat (first | refine blk_drewN ?_ _ | refine blk_drew ?_ | refine blk_alloc ?_ _)); exact BK304.out) hb); have n1_ := Aside0.mk (below_step (by repeat (first | (with_reducible first | exact HB.out | apply below_alloc | apply pw_below_drewN | apply below_drew1 | refine below_set ?_ GE304.out) | exact HB.out)) hb); clear BK304; clear HB; have BK304 := n0_; have HB := n1_; clear n0_ n1_; (try clear hb); (try clear hb2); (try clear hk); (try clear hi); have hcz16_0 : w15.cell? ⟨gb304, 0, none⟩ = some (.int .i64 a0_0) := (blk_cell BK304.out 0).trans rfl; have hcz16_1 : w15.cell? ⟨gb304, 1, none⟩ = some (.int .i64 a0_1) := (blk_cell BK304.out 1).trans rfl; have hcz16_2 : w15.cell? ⟨gb304, 2, none⟩ = some (.int .i64 a0_2) := (blk_cell BK304.out 2).trans rfl; have hcz16_3 : w15.cell? ⟨gb304, 3, none⟩ = some (.int .i64 a0_3) := (blk_cell BK304.out 3).trans rfl; have hcz16_4 : w15.cell? ⟨gb304, 4, none⟩ = some (.int .i64 a0_4) := (blk_cell BK304.out 4).trans rfl; have hcz16_5 : w15.cell? ⟨gb304, 5, none⟩ = some (.int .i64 a0_5) := (blk_cell BK304.out 5).trans rfl; have hcz16_6 : w15.cell? ⟨gb304, 6, none⟩ = some (.int .i64 a0_6) := (blk_cell BK304.out 6).trans rfl; have hcz16_7 : w15.cell? ⟨gb304, 7, none⟩ = some (.int .i64 a0_7) := (blk_cell BK304.out 7).trans rfl; have hcz16_8 : w15.cell? ⟨gb304, 8, none⟩ = some (.int .i64 a0_8) := (blk_cell BK304.out 8).trans rfl; have hcz16_9 : w15.cell? ⟨gb304, 9, none⟩ = some (.slice A0_9 l0_9.length c0_9) := (blk_cell BK304.out 9).trans rfl; have hcz16_10 : w15.cell? ⟨gb304, 10, none⟩ = some (.slice A0_10 l0_10.length c0_10) := (blk_cell BK304.out 10).trans rfl; have hcz16_11 : w15.cell? ⟨gb304, 11, none⟩ = some (.slice A0_11 l0_11.length c0_11) := (blk_cell BK304.out 11).trans rfl; have hfz16_0 := blk_frozen BK304.out 0; have hfz16_1 := blk_frozen BK304.out 1; have hfz16_2 := blk_frozen BK304.out 2; have hfz16_3 := blk_frozen BK304.out 3; have hfz16_4 := blk_frozen BK304.out 4; have hfz16_5 := blk_frozen BK304.out 5; have hfz16_6 := blk_frozen BK304.out 6; have hfz16_7 := blk_frozen BK304.out 7; have hfz16_8 := blk_frozen BK304.out 8; have hfz16_9 := blk_frozen BK304.out 9; have hfz16_10 := blk_frozen BK304.out 10; have hfz16_11 := blk_frozen BK304.out 11) | (go_at_call 45; (with_reducible refine (hornbeamref11_Right.calls a0_7 a0_8 _ _ l0_9 true _ ?side1 ?side2 A4.out).mono ?_); (case side1 => repeat (first | exact (Kd.C_below HR0_9.out HB.out) | (with_reducible refine Kd.C_alloc ?_ _) | (with_reducible refine Kd.C_drewN ?_ _) | (with_reducible refine Kd.C_drew ?_))); (case side2 => exact HC0_9.out); rintro e w17 ⟨rfl, hb⟩; have n0_ := Aside0.mk (blk_below (g := gb304) (o := .cells #[.int .i64 a0_0, .int .i64 a0_1, .int .i64 a0_2, .int .i64 a0_3, .int .i64 a0_4, .int .i64 a0_5, .int .i64 a0_6, .int .i64 a0_7, .int .i64 a0_8, .slice A0_9 l0_9.length c0_9, .slice A0_10 l0_10.length c0_10, .slice A0_11 l0_11.length c0_11] 30 (0, 0)) (by (with_reducible repeat (first | refine blk_drewN ?_ _ | refine blk_drew ?_ | refine blk_alloc ?_ _)); exact BK304.out) hb); have n1_ := Aside0.mk (below_step (by repeat (first | (with_reducible first | exact HB.out | apply below_alloc | apply pw_below_drewN | apply below_drew1 | refine below_set ?_ GE304.out) | exact HB.out)) hb); clear BK304; clear HB; have BK304 := n0_; have HB := n1_; clear n0_ n1_; (try clear hb); (try clear hb2); (try clear hk); (try clear hi); have hcz18_0 : w17.cell? ⟨gb304, 0, none⟩ = some (.int .i64 a0_0) := (blk_cell BK304.out 0).trans rfl; have hcz18_1 : w17.cell? ⟨gb304, 1, none⟩ = some (.int .i64 a0_1) := (blk_cell BK304.out 1).trans rfl; have hcz18_2 : w17.cell? ⟨gb304, 2, none⟩ = some (.int .i64 a0_2) := (blk_cell BK304.out 2).trans rfl; have hcz18_3 : w17.cell? ⟨gb304, 3, none⟩ = some (.int .i64 a0_3) := (blk_cell BK304.out 3).trans rfl; have hcz18_4 : w17.cell? ⟨gb304, 4, none⟩ = some (.int .i64 a0_4) := (blk_cell BK304.out 4).trans rfl; have hcz18_5 : w17.cell? ⟨gb304, 5, none⟩ = some (.int .i64 a0_5) := (blk_cell BK304.out 5).trans rfl; have hcz18_6 : w17.cell? ⟨gb304, 6, none⟩ = some (.int .i64 a0_6) := (blk_cell BK304.out 6).trans rfl; have hcz18_7 : w17.cell? ⟨gb304, 7, none⟩ = some (.int .i64 a0_7) := (blk_cell BK304.out 7).trans rfl; have hcz18_8 : w17.cell? ⟨gb304, 8, none⟩ = some (.int .i64 a0_8) := (blk_cell BK304.out 8).trans rfl; have hcz18_9 : w17.cell? ⟨gb304, 9, none⟩ = some (.slice A0_9 l0_9.length c0_9) := (blk_cell BK304.out 9).trans rfl; have hcz18_10 : w17.cell? ⟨gb304, 10, none⟩ = some (.slice A0_10 l0_10.length c0_10) := (blk_cell BK304.out 10).trans rfl; have hcz18_11 : w17.cell? ⟨gb304, 11, none⟩ = some (.slice A0_11 l0_11.length c0_11) := (blk_cell BK304.out 11).trans rfl; have hfz18_0 := blk_frozen BK304.out 0; have hfz18_1 := blk_frozen BK304.out 1; have hfz18_2 := blk_frozen BK304.out 2; have hfz18_3 := blk_frozen BK304.out 3; have hfz18_4 := blk_frozen BK304.out 4; have hfz18_5 := blk_frozen BK304.out 5; have hfz18_6 := blk_frozen BK304.out 6; have hfz18_7 := blk_frozen BK304.out 7; have hfz18_8 := blk_frozen BK304.out 8; have hfz18_9 := blk_frozen BK304.out 9; have hfz18_10 := blk_frozen BK304.out 10; have hfz18_11 := blk_frozen BK304.out 11))
        go_ret
        exact ⟨by first | rfl | (simp [errW_none, errW_some] <;> rfl) | (simp [*, errW_none, errW_some] <;> rfl), by repeat (first | (with_reducible first | exact HB.out | apply below_alloc | apply pw_below_drewN | apply below_drew1 | refine below_set ?_ GE304.out) | exact HB.out)⟩
    · replace c5 := Bool.eq_false_iff.mpr c5
      subst c5
      have H1 : (some false) = some r := by rw [if_neg (show ¬ (false = true) by decide)] at H; exact H
      clear H
      have H := H1
      clear H1
      obtain rfl := Option.some.inj H
      go_enter Tryz.func24, Tryz.ntmps24
      go_wp2_with (first | ((with_reducible refine gate_dst (N := 1) rfl ?_); (try (refine gate_guard (by rfl) ?_; dsimp only)); refine box_event ?hg (N := 1) ?hd (cs := #[.int .i64 a0_0, .int .i64 a0_1, .int .i64 a0_2, .int .i64 a0_3, .int .i64 a0_4, .int .i64 a0_5, .int .i64 a0_6, .int .i64 a0_7, .int .i64 a0_8, .slice A0_9 l0_9.length c0_9, .slice A0_10 l0_10.length c0_10, .slice A0_11 l0_11.length c0_11]) (t := 30) ?hr ?_; (case hd => rfl); (case hg => rfl); (case hr => first | (go_simp; done) | (go_simp; rfl)); intro gb304 hg w19 hbox hb; have n0_ := Aside0.mk (below_step (by repeat (first | (with_reducible first | exact HB.out | apply below_alloc | apply pw_below_drewN | apply below_drew1) | exact HB.out)) hb); have n1_ := Aside0.mk (hbox); have n2_ := Aside0.mk ((by rw [hg]; exact (below_size (by repeat (first | (with_reducible first | exact HB.out | apply below_alloc | apply pw_below_drewN | apply below_drew1) | exact HB.out))) : w.heap.size ≤ gb304)); have n3_ := Aside0.mk ((by rw [hg]; exact (below_size (by repeat (first | (with_reducible first | exact HB.out | apply below_alloc | apply pw_below_drewN | apply below_drew1) | exact HB.out))) : w.heap.size ≤ gb304)); clear HB; have HB := n0_; have BK304 := n1_; have GW304 := n2_; have GE304 := n3_; clear n0_ n1_ n2_ n3_; clear hb hbox hg; have hcz20_0 : w19.cell? ⟨gb304, 0, none⟩ = some (.int .i64 a0_0) := (blk_cell BK304.out 0).trans rfl; have hcz20_1 : w19.cell? ⟨gb304, 1, none⟩ = some (.int .i64 a0_1) := (blk_cell BK304.out 1).trans rfl; have hcz20_2 : w19.cell? ⟨gb304, 2, none⟩ = some (.int .i64 a0_2) := (blk_cell BK304.out 2).trans rfl; have hcz20_3 : w19.cell? ⟨gb304, 3, none⟩ = some (.int .i64 a0_3) := (blk_cell BK304.out 3).trans rfl; have hcz20_4 : w19.cell? ⟨gb304, 4, none⟩ = some (.int .i64 a0_4) := (blk_cell BK304.out 4).trans rfl; have hcz20_5 : w19.cell? ⟨gb304, 5, none⟩ = some (.int .i64 a0_5) := (blk_cell BK304.out 5).trans rfl; have hcz20_6 : w19.cell? ⟨gb304, 6, none⟩ = some (.int .i64 a0_6) := (blk_cell BK304.out 6).trans rfl; have hcz20_7 : w19.cell? ⟨gb304, 7, none⟩ = some (.int .i64 a0_7) := (blk_cell BK304.out 7).trans rfl; have hcz20_8 : w19.cell? ⟨gb304, 8, none⟩ = some (.int .i64 a0_8) := (blk_cell BK304.out 8).trans rfl; have hcz20_9 : w19.cell? ⟨gb304, 9, none⟩ = some (.slice A0_9 l0_9.length c0_9) := (blk_cell BK304.out 9).trans rfl; have hcz20_10 : w19.cell? ⟨gb304, 10, none⟩ = some (.slice A0_10 l0_10.length c0_10) := (blk_cell BK304.out 10).trans rfl; have hcz20_11 : w19.cell? ⟨gb304, 11, none⟩ = some (.slice A0_11 l0_11.length c0_11) := (blk_cell BK304.out 11).trans rfl; have hfz20_0 := blk_frozen BK304.out 0; have hfz20_1 := blk_frozen BK304.out 1; have hfz20_2 := blk_frozen BK304.out 2; have hfz20_3 := blk_frozen BK304.out 3; have hfz20_4 := blk_frozen BK304.out 4; have hfz20_5 := blk_frozen BK304.out 5; have hfz20_6 := blk_frozen BK304.out 6; have hfz20_7 := blk_frozen BK304.out 7; have hfz20_8 := blk_frozen BK304.out 8; have hfz20_9 := blk_frozen BK304.out 9; have hfz20_10 := blk_frozen BK304.out 10; have hfz20_11 := blk_frozen BK304.out 11) | ((with_reducible refine gate_callee (f := 44) rfl ?_); refine goesL_ (some 5) rfl rfl Tryz.func44 (by kernel_rfl) rfl #[.agg #[.int .i64 a0_0, .int .i64 a0_1, .int .i64 a0_2, .int .i64 a0_3, .int .i64 a0_4, .int .i64 a0_5, .int .i64 a0_6]] rfl (by (try simp only [List.map_toArray, List.map_cons, List.map_nil]); first | done | rfl | (simp only [List.length_drop, List.length_take]; rfl)) ?_; (with_reducible refine (hornbeamref08_Check.calls k a0_0 a0_1 a0_2 a0_3 a0_4 a0_5 a0_6 t305 _ A2.out).mono ?_); rintro e w21 ⟨rfl, hb⟩; refine ⟨_, rfl, ?_⟩; have n0_ := Aside0.mk (blk_below (g := gb304) (o := .cells #[.int .i64 a0_0, .int .i64 a0_1, .int .i64 a0_2, .int .i64 a0_3, .int .i64 a0_4, .int .i64 a0_5, .int .i64 a0_6, .int .i64 a0_7, .int .i64 a0_8, .slice A0_9 l0_9.length c0_9, .slice A0_10 l0_10.length c0_10, .slice A0_11 l0_11.length c0_11] 30 (0, 0)) (by (with_reducible repeat (first | refine blk_drewN ?_ _ | refine blk_drew ?_ | refine blk_alloc ?_ _)); exact BK304.out) hb); have n1_ := Aside0.mk (below_step (by repeat (first | (with_reducible first | exact HB.out | apply below_alloc | apply pw_below_drewN | apply below_drew1 | refine below_set ?_ GE304.out) | exact HB.out)) hb); clear BK304; clear HB; have BK304 := n0_; have HB := n1_; clear n0_ n1_; (try clear hb); (try clear hb2); (try clear hk); (try clear hi); have hcz22_0 : w21.cell? ⟨gb304, 0, none⟩ = some (.int .i64 a0_0) := (blk_cell BK304.out 0).trans rfl; have hcz22_1 : w21.cell? ⟨gb304, 1, none⟩ = some (.int .i64 a0_1) := (blk_cell BK304.out 1).trans rfl; have hcz22_2 : w21.cell? ⟨gb304, 2, none⟩ = some (.int .i64 a0_2) := (blk_cell BK304.out 2).trans rfl; have hcz22_3 : w21.cell? ⟨gb304, 3, none⟩ = some (.int .i64 a0_3) := (blk_cell BK304.out 3).trans rfl; have hcz22_4 : w21.cell? ⟨gb304, 4, none⟩ = some (.int .i64 a0_4) := (blk_cell BK304.out 4).trans rfl; have hcz22_5 : w21.cell? ⟨gb304, 5, none⟩ = some (.int .i64 a0_5) := (blk_cell BK304.out 5).trans rfl; have hcz22_6 : w21.cell? ⟨gb304, 6, none⟩ = some (.int .i64 a0_6) := (blk_cell BK304.out 6).trans rfl; have hcz22_7 : w21.cell? ⟨gb304, 7, none⟩ = some (.int .i64 a0_7) := (blk_cell BK304.out 7).trans rfl; have hcz22_8 : w21.cell? ⟨gb304, 8, none⟩ = some (.int .i64 a0_8) := (blk_cell BK304.out 8).trans rfl; have hcz22_9 : w21.cell? ⟨gb304, 9, none⟩ = some (.slice A0_9 l0_9.length c0_9) := (blk_cell BK304.out 9).trans rfl; have hcz22_10 : w21.cell? ⟨gb304, 10, none⟩ = some (.slice A0_10 l0_10.length c0_10) := (blk_cell BK304.out 10).trans rfl; have hcz22_11 : w21.cell? ⟨gb304, 11, none⟩ = some (.slice A0_11 l0_11.length c0_11) := (blk_cell BK304.out 11).trans rfl; have hfz22_0 := blk_frozen BK304.out 0; have hfz22_1 := blk_frozen BK304.out 1; have hfz22_2 := blk_frozen BK304.out 2; have hfz22_3 := blk_frozen BK304.out 3; have hfz22_4 := blk_frozen BK304.out 4; have hfz22_5 := blk_frozen BK304.out 5; have hfz22_6 := blk_frozen BK304.out 6; have hfz22_7 := blk_frozen BK304.out 7; have hfz22_8 := blk_frozen BK304.out 8; have hfz22_9 := blk_frozen BK304.out 9; have hfz22_10 := blk_frozen BK304.out 10; have hfz22_11 := blk_frozen BK304.out 11) | (go_at_call 45; (with_reducible refine (hornbeamref11_Right.calls a0_7 a0_8 _ _ l0_9 false _ ?side1 ?side2 A4.out).mono ?_); (case side1 => repeat (first | exact (Kd.C_below HR0_9.out HB.out) | (with_reducible refine Kd.C_alloc ?_ _) | (with_reducible refine Kd.C_drewN ?_ _) | (with_reducible refine Kd.C_drew ?_))); (case side2 => exact HC0_9.out); rintro e w23 ⟨rfl, hb⟩; have n0_ := Aside0.mk (blk_below (g := gb304) (o := .cells #[.int .i64 a0_0, .int .i64 a0_1, .int .i64 a0_2, .int .i64 a0_3, .int .i64 a0_4, .int .i64 a0_5, .int .i64 a0_6, .int .i64 a0_7, .int .i64 a0_8, .slice A0_9 l0_9.length c0_9, .slice A0_10 l0_10.length c0_10, .slice A0_11 l0_11.length c0_11] 30 (0, 0)) (by (with_reducible repeat (first | refine blk_drewN ?_ _ | refine blk_drew ?_ | refine blk_alloc ?_ _)); exact BK304.out) hb); have n1_ := Aside0.mk (below_step (by repeat (first | (with_reducible first | exact HB.out | apply below_alloc | apply pw_below_drewN | apply below_drew1 | refine below_set ?_ GE304.out) | exact HB.out)) hb); clear BK304; clear HB; have BK304 := n0_; have HB := n1_; clear n0_ n1_; (try clear hb); (try clear hb2); (try clear hk); (try clear hi)))
      go_ret
      exact ⟨by first | rfl | (simp [errW_none, errW_some] <;> rfl) | (simp [*, errW_none, errW_some] <;> rfl), by repeat (first | (with_reducible first | exact HB.out | apply below_alloc | apply pw_below_drewN | apply below_drew1 | refine below_set ?_ GE304.out) | exact HB.out)⟩
  · rw [if_neg c3] at H
    have c3b0 : (t305 == 0) = false := beq_eq_false_iff_ne.mpr c3
    have c3b1 : (t305 != 0) = true := bne_iff_ne.mpr c3
    obtain rfl := Option.some.inj H
    go_enter Tryz.func24, Tryz.ntmps24
    go_wp2_with (first | ((with_reducible refine gate_dst (N := 1) rfl ?_); (try (refine gate_guard (by rfl) ?_; dsimp only)); refine box_event ?hg (N := 1) ?hd (cs := #[.int .i64 a0_0, .int .i64 a0_1, .int .i64 a0_2, .int .i64 a0_3, .int .i64 a0_4, .int .i64 a0_5, .int .i64 a0_6, .int .i64 a0_7, .int .i64 a0_8, .slice A0_9 l0_9.length c0_9, .slice A0_10 l0_10.length c0_10, .slice A0_11 l0_11.length c0_11]) (t := 30) ?hr ?_; (case hd => rfl); (case hg => rfl); (case hr => first | (go_simp; done) | (go_simp; rfl)); intro gb304 hg w24 hbox hb; have n0_ := Aside0.mk (below_step (by repeat (first | (with_reducible first | exact HB.out | apply below_alloc | apply pw_below_drewN | apply below_drew1) | exact HB.out)) hb); have n1_ := Aside0.mk (hbox); have n2_ := Aside0.mk ((by rw [hg]; exact (below_size (by repeat (first | (with_reducible first | exact HB.out | apply below_alloc | apply pw_below_drewN | apply below_drew1) | exact HB.out))) : w.heap.size ≤ gb304)); have n3_ := Aside0.mk ((by rw [hg]; exact (below_size (by repeat (first | (with_reducible first | exact HB.out | apply below_alloc | apply pw_below_drewN | apply below_drew1) | exact HB.out))) : w.heap.size ≤ gb304)); clear HB; have HB := n0_; have BK304 := n1_; have GW304 := n2_; have GE304 := n3_; clear n0_ n1_ n2_ n3_; clear hb hbox hg; have hcz25_0 : w24.cell? ⟨gb304, 0, none⟩ = some (.int .i64 a0_0) := (blk_cell BK304.out 0).trans rfl; have hcz25_1 : w24.cell? ⟨gb304, 1, none⟩ = some (.int .i64 a0_1) := (blk_cell BK304.out 1).trans rfl; have hcz25_2 : w24.cell? ⟨gb304, 2, none⟩ = some (.int .i64 a0_2) := (blk_cell BK304.out 2).trans rfl; have hcz25_3 : w24.cell? ⟨gb304, 3, none⟩ = some (.int .i64 a0_3) := (blk_cell BK304.out 3).trans rfl; have hcz25_4 : w24.cell? ⟨gb304, 4, none⟩ = some (.int .i64 a0_4) := (blk_cell BK304.out 4).trans rfl; have hcz25_5 : w24.cell? ⟨gb304, 5, none⟩ = some (.int .i64 a0_5) := (blk_cell BK304.out 5).trans rfl; have hcz25_6 : w24.cell? ⟨gb304, 6, none⟩ = some (.int .i64 a0_6) := (blk_cell BK304.out 6).trans rfl; have hcz25_7 : w24.cell? ⟨gb304, 7, none⟩ = some (.int .i64 a0_7) := (blk_cell BK304.out 7).trans rfl; have hcz25_8 : w24.cell? ⟨gb304, 8, none⟩ = some (.int .i64 a0_8) := (blk_cell BK304.out 8).trans rfl; have hcz25_9 : w24.cell? ⟨gb304, 9, none⟩ = some (.slice A0_9 l0_9.length c0_9) := (blk_cell BK304.out 9).trans rfl; have hcz25_10 : w24.cell? ⟨gb304, 10, none⟩ = some (.slice A0_10 l0_10.length c0_10) := (blk_cell BK304.out 10).trans rfl; have hcz25_11 : w24.cell? ⟨gb304, 11, none⟩ = some (.slice A0_11 l0_11.length c0_11) := (blk_cell BK304.out 11).trans rfl; have hfz25_0 := blk_frozen BK304.out 0; have hfz25_1 := blk_frozen BK304.out 1; have hfz25_2 := blk_frozen BK304.out 2; have hfz25_3 := blk_frozen BK304.out 3; have hfz25_4 := blk_frozen BK304.out 4; have hfz25_5 := blk_frozen BK304.out 5; have hfz25_6 := blk_frozen BK304.out 6; have hfz25_7 := blk_frozen BK304.out 7; have hfz25_8 := blk_frozen BK304.out 8; have hfz25_9 := blk_frozen BK304.out 9; have hfz25_10 := blk_frozen BK304.out 10; have hfz25_11 := blk_frozen BK304.out 11) | ((with_reducible refine gate_callee (f := 44) rfl ?_); refine goesL_ (some 5) rfl rfl Tryz.func44 (by kernel_rfl) rfl #[.agg #[.int .i64 a0_0, .int .i64 a0_1, .int .i64 a0_2, .int .i64 a0_3, .int .i64 a0_4, .int .i64 a0_5, .int .i64 a0_6]] rfl (by (try simp only [List.map_toArray, List.map_cons, List.map_nil]); first | done | rfl | (simp only [List.length_drop, List.length_take]; rfl)) ?_; (with_reducible refine (hornbeamref08_Check.calls k a0_0 a0_1 a0_2 a0_3 a0_4 a0_5 a0_6 t305 _ A2.out).mono ?_); rintro e w26 ⟨rfl, hb⟩; refine ⟨_, rfl, ?_⟩; have n0_ := Aside0.mk (blk_below (g := gb304) (o := .cells #[.int .i64 a0_0, .int .i64 a0_1, .int .i64 a0_2, .int .i64 a0_3, .int .i64 a0_4, .int .i64 a0_5, .int .i64 a0_6, .int .i64 a0_7, .int .i64 a0_8, .slice A0_9 l0_9.length c0_9, .slice A0_10 l0_10.length c0_10, .slice A0_11 l0_11.length c0_11] 30 (0, 0)) (by (with_reducible repeat (first | refine blk_drewN ?_ _ | refine blk_drew ?_ | refine blk_alloc ?_ _)); exact BK304.out) hb); have n1_ := Aside0.mk (below_step (by repeat (first | (with_reducible first | exact HB.out | apply below_alloc | apply pw_below_drewN | apply below_drew1 | refine below_set ?_ GE304.out) | exact HB.out)) hb); clear BK304; clear HB; have BK304 := n0_; have HB := n1_; clear n0_ n1_; (try clear hb); (try clear hb2); (try clear hk); (try clear hi)))
    go_ret
    exact ⟨by first | rfl | (simp [errW_none, errW_some] <;> rfl) | (simp [*, errW_none, errW_some] <;> rfl), by repeat (first | (with_reducible first | exact HB.out | apply below_alloc | apply pw_below_drewN | apply below_drew1 | refine below_set ?_ GE304.out) | exact HB.out)⟩

/-! ### hornbeamref09_Target: function 25 -/
def hornbeamref09_Target.j0 : Nat → Int → Bool → Int → Int → Int → Int → Int → Int → Int → Option (Int)
  | 0, _, _, _, _, _, _, _, _, _ => none
  | k + 1, x1, x21, x308000, x308001, x308002, x308003, x308004, x308005, x308006 => if x21 = true then (some 5) else (if x308000 = 1 then (if x1 < (-1048576) then (some 4) else (if x1 > 1048576 then (some 4) else (some 0))) else (some 0))
def hornbeamref09_Target.f (k : Nat) (a0_0 : Int) (a0_1 : Int) (a0_2 : Int) (a0_3 : Int) (a0_4 : Int) (a0_5 : Int) (a0_6 : Int) (a1 : Int) : Option (Int) := if a0_0 = 0 then (if a1 < 0 then (hornbeamref09_Target.j0 k a1 true a0_0 a0_1 a0_2 a0_3 a0_4 a0_5 a0_6) else (if a1 > 255 then (hornbeamref09_Target.j0 k a1 true a0_0 a0_1 a0_2 a0_3 a0_4 a0_5 a0_6) else (hornbeamref09_Target.j0 k a1 (decide (a1 ≥ a0_1)) a0_0 a0_1 a0_2 a0_3 a0_4 a0_5 a0_6))) else (hornbeamref09_Target.j0 k a1 false a0_0 a0_1 a0_2 a0_3 a0_4 a0_5 a0_6)
theorem hornbeamref09_Target.mono_l : ∀ k, (∀ y0 y1 y2 y3 y4 y5 y6 y7 y8, LeO (hornbeamref09_Target.j0 k y0 y1 y2 y3 y4 y5 y6 y7 y8) (hornbeamref09_Target.j0 (k + 1) y0 y1 y2 y3 y4 y5 y6 y7 y8))
  | 0 => fun _ _ _ _ _ _ _ _ _ r h => by simp [hornbeamref09_Target.j0] at h
  | k + 1 => by
    have ih0 := hornbeamref09_Target.mono_l k
    · intro y0 y1 y2 y3 y4 y5 y6 y7 y8
      unfold hornbeamref09_Target.j0
      repeat' first
      | (with_reducible exact ih0 _ _ _ _ _ _ _ _ _)
      | (with_reducible exact LeO.refl _)
      | (with_reducible exact LeO.none _)
      | (with_reducible refine LeO.ite ?_ ?_)
      | (with_reducible refine LeO.bind ?_ (fun _ => ?_))
      | exact ih0 _ _ _ _ _ _ _ _ _
      | exact LeO.none _
      | refine LeO.ite ?_ ?_
      | refine LeO.bind ?_ (fun _ => ?_)
theorem hornbeamref09_Target.mono : ∀ a0 a1 a2 a3 a4 a5 a6 a7 k, LeO (hornbeamref09_Target.f k a0 a1 a2 a3 a4 a5 a6 a7) (hornbeamref09_Target.f (k + 1) a0 a1 a2 a3 a4 a5 a6 a7) := by
  intro a0 a1 a2 a3 a4 a5 a6 a7 k
  have ih0 := hornbeamref09_Target.mono_l k
  unfold hornbeamref09_Target.f
  repeat' first
      | (with_reducible exact ih0 _ _ _ _ _ _ _ _ _)
      | (with_reducible exact LeO.refl _)
      | (with_reducible exact LeO.none _)
      | (with_reducible refine LeO.ite ?_ ?_)
      | (with_reducible refine LeO.bind ?_ (fun _ => ?_))
      | exact ih0 _ _ _ _ _ _ _ _ _
      | exact LeO.none _
      | refine LeO.ite ?_ ?_
      | refine LeO.bind ?_ (fun _ => ?_)
set_option maxHeartbeats 8000000 in
set_option maxRecDepth 100000 in
theorem hornbeamref09_Target.calls (k : Nat) (a0_0 : Int) (a0_1 : Int) (a0_2 : Int) (a0_3 : Int) (a0_4 : Int) (a0_5 : Int) (a0_6 : Int) (a1 : Int) (r : Int) (w : World) (h : hornbeamref09_Target.f k a0_0 a0_1 a0_2 a0_3 a0_4 a0_5 a0_6 a1 = some r) :
    Calls Tryz.prog 25 #[.agg #[.int .i64 a0_0, .int .i64 a0_1, .int .i64 a0_2, .int .i64 a0_3, .int .i64 a0_4, .int .i64 a0_5, .int .i64 a0_6], .int .i64 a1] w fun e w' => e = .returned (.int .i64 r) ∧ Below w.heap.size w w' := by
  have hu23 := Tryz.underlying23
  have HB := Aside0.mk (Below.refl w.heap.size w)
  have H : (if a0_0 = 0 then (if a1 < 0 then (hornbeamref09_Target.j0 k a1 true a0_0 a0_1 a0_2 a0_3 a0_4 a0_5 a0_6) else (if a1 > 255 then (hornbeamref09_Target.j0 k a1 true a0_0 a0_1 a0_2 a0_3 a0_4 a0_5 a0_6) else (hornbeamref09_Target.j0 k a1 (decide (a1 ≥ a0_1)) a0_0 a0_1 a0_2 a0_3 a0_4 a0_5 a0_6))) else (hornbeamref09_Target.j0 k a1 false a0_0 a0_1 a0_2 a0_3 a0_4 a0_5 a0_6)) = some r := h
  clear h
  have HC3 := Aside0.mk H
  clear H
  go_enter Tryz.func25, Tryz.ntmps25
  go_upto_region 1 with (first | ((with_reducible refine gate_dst (N := 2) rfl ?_); refine box_event ?hg (N := 2) ?hd (cs := #[.int .i64 a0_0, .int .i64 a0_1, .int .i64 a0_2, .int .i64 a0_3, .int .i64 a0_4, .int .i64 a0_5, .int .i64 a0_6]) (t := 23) ?hr ?_; (case hd => rfl); (case hg => rfl); (case hr => first | (go_simp; done) | (go_simp; rfl)); intro gb307 hg w4 hbox hb; have n0_ := Aside0.mk (below_step (by repeat (first | (with_reducible first | exact HB.out | apply below_alloc | apply pw_below_drewN | apply below_drew1) | exact HB.out)) hb); have n1_ := Aside0.mk (hbox); have n2_ := Aside0.mk ((by rw [hg]; exact (below_size (by repeat (first | (with_reducible first | exact HB.out | apply below_alloc | apply pw_below_drewN | apply below_drew1) | exact HB.out))) : w.heap.size ≤ gb307)); have n3_ := Aside0.mk ((by rw [hg]; exact (below_size (by repeat (first | (with_reducible first | exact HB.out | apply below_alloc | apply pw_below_drewN | apply below_drew1) | exact HB.out))) : w.heap.size ≤ gb307)); clear HB; have HB := n0_; have BK307 := n1_; have GW307 := n2_; have GE307 := n3_; clear n0_ n1_ n2_ n3_; clear hb hbox hg))
  (try simp only [Act.put, List.setIfInBounds_toArray, List.set_cons_zero, List.set_cons_succ])
  go_cut [21] (fun v21 wc => ∃ (kq : Nat) (x21_2 : Bool), v21 = .bool x21_2 ∧ Aside0 (hornbeamref09_Target.j0 kq a1 x21_2 a0_0 a0_1 a0_2 a0_3 a0_4 a0_5 a0_6 = some r) ∧ Aside0 (kq ≤ k) ∧ Aside0 (wc.heap[gb307]? = some (.cells #[.int .i64 a0_0, .int .i64 a0_1, .int .i64 a0_2, .int .i64 a0_3, .int .i64 a0_4, .int .i64 a0_5, .int .i64 a0_6] 23 (0, 0))) ∧ Aside0 (Below w.heap.size w wc))
  case first =>
    have H := HC3.out
    clear HC3
    by_cases c5 : a0_0 = 0
    · rw [if_pos c5] at H
      have c5b0 : (a0_0 == 0) = true := beq_iff_eq.mpr c5
      have c5b1 : (a0_0 != 0) = false := bne_eq_false_iff_eq.mpr c5
      clear c5
      (first | rw [c5b0] | (simp only [i64_w, i32_w]; rw [c5b0]) | skip)
      by_cases c6 : a1 < 0
      · rw [if_pos c6] at H
        have c6b0 : decide (a1 < 0) = true := decide_eq_true c6
        clear c6
        have H' := Aside0.mk H
        clear H
        have hcz7_0 : w4.cell? ⟨gb307, 0, none⟩ = some (.int .i64 a0_0) := (blk_cell BK307.out 0).trans rfl
        have hcz7_1 : w4.cell? ⟨gb307, 1, none⟩ = some (.int .i64 a0_1) := (blk_cell BK307.out 1).trans rfl
        have hcz7_2 : w4.cell? ⟨gb307, 2, none⟩ = some (.int .i64 a0_2) := (blk_cell BK307.out 2).trans rfl
        have hcz7_3 : w4.cell? ⟨gb307, 3, none⟩ = some (.int .i64 a0_3) := (blk_cell BK307.out 3).trans rfl
        have hcz7_4 : w4.cell? ⟨gb307, 4, none⟩ = some (.int .i64 a0_4) := (blk_cell BK307.out 4).trans rfl
        have hcz7_5 : w4.cell? ⟨gb307, 5, none⟩ = some (.int .i64 a0_5) := (blk_cell BK307.out 5).trans rfl
        have hcz7_6 : w4.cell? ⟨gb307, 6, none⟩ = some (.int .i64 a0_6) := (blk_cell BK307.out 6).trans rfl
        have hfz7_0 := blk_frozen BK307.out 0
        have hfz7_1 := blk_frozen BK307.out 1
        have hfz7_2 := blk_frozen BK307.out 2
        have hfz7_3 := blk_frozen BK307.out 3
        have hfz7_4 := blk_frozen BK307.out 4
        have hfz7_5 := blk_frozen BK307.out 5
        have hfz7_6 := blk_frozen BK307.out 6
        go_wp2
        go_meet
        case rel => exact ⟨_, (true), (by first | rfl | (simp; done) | (simp [*]; done)), H', ⟨by first | omega | exact Nat.le_refl _⟩, ⟨by (with_reducible repeat (first | refine blk_drewN ?_ _ | refine blk_drew ?_ | refine blk_alloc ?_ _)); exact BK307.out⟩, ⟨by repeat (first | (with_reducible first | exact HB.out | apply below_alloc | apply pw_below_drewN | apply below_drew1 | refine below_set ?_ GE307.out) | exact HB.out)⟩⟩
      · rw [if_neg c6] at H
        have c6b0 : decide (a1 < 0) = false := decide_eq_false c6
        clear c6
        by_cases c8 : a1 > 255
        · rw [if_pos c8] at H
          have c8b0 : decide (255 < a1) = true := decide_eq_true c8
          clear c8
          have H' := Aside0.mk H
          clear H
          have hcz9_0 : w4.cell? ⟨gb307, 0, none⟩ = some (.int .i64 a0_0) := (blk_cell BK307.out 0).trans rfl
          have hcz9_1 : w4.cell? ⟨gb307, 1, none⟩ = some (.int .i64 a0_1) := (blk_cell BK307.out 1).trans rfl
          have hcz9_2 : w4.cell? ⟨gb307, 2, none⟩ = some (.int .i64 a0_2) := (blk_cell BK307.out 2).trans rfl
          have hcz9_3 : w4.cell? ⟨gb307, 3, none⟩ = some (.int .i64 a0_3) := (blk_cell BK307.out 3).trans rfl
          have hcz9_4 : w4.cell? ⟨gb307, 4, none⟩ = some (.int .i64 a0_4) := (blk_cell BK307.out 4).trans rfl
          have hcz9_5 : w4.cell? ⟨gb307, 5, none⟩ = some (.int .i64 a0_5) := (blk_cell BK307.out 5).trans rfl
          have hcz9_6 : w4.cell? ⟨gb307, 6, none⟩ = some (.int .i64 a0_6) := (blk_cell BK307.out 6).trans rfl
          have hfz9_0 := blk_frozen BK307.out 0
          have hfz9_1 := blk_frozen BK307.out 1
          have hfz9_2 := blk_frozen BK307.out 2
          have hfz9_3 := blk_frozen BK307.out 3
          have hfz9_4 := blk_frozen BK307.out 4
          have hfz9_5 := blk_frozen BK307.out 5
          have hfz9_6 := blk_frozen BK307.out 6
          go_wp2
          go_meet
          case rel => exact ⟨_, (true), (by first | rfl | (simp; done) | (simp [*]; done)), H', ⟨by first | omega | exact Nat.le_refl _⟩, ⟨by (with_reducible repeat (first | refine blk_drewN ?_ _ | refine blk_drew ?_ | refine blk_alloc ?_ _)); exact BK307.out⟩, ⟨by repeat (first | (with_reducible first | exact HB.out | apply below_alloc | apply pw_below_drewN | apply below_drew1 | refine below_set ?_ GE307.out) | exact HB.out)⟩⟩
        · rw [if_neg c8] at H
          have c8b0 : decide (255 < a1) = false := decide_eq_false c8
          clear c8
          have H' := Aside0.mk H
          clear H
          have hcz10_0 : w4.cell? ⟨gb307, 0, none⟩ = some (.int .i64 a0_0) := (blk_cell BK307.out 0).trans rfl
          have hcz10_1 : w4.cell? ⟨gb307, 1, none⟩ = some (.int .i64 a0_1) := (blk_cell BK307.out 1).trans rfl
          have hcz10_2 : w4.cell? ⟨gb307, 2, none⟩ = some (.int .i64 a0_2) := (blk_cell BK307.out 2).trans rfl
          have hcz10_3 : w4.cell? ⟨gb307, 3, none⟩ = some (.int .i64 a0_3) := (blk_cell BK307.out 3).trans rfl
          have hcz10_4 : w4.cell? ⟨gb307, 4, none⟩ = some (.int .i64 a0_4) := (blk_cell BK307.out 4).trans rfl
          have hcz10_5 : w4.cell? ⟨gb307, 5, none⟩ = some (.int .i64 a0_5) := (blk_cell BK307.out 5).trans rfl
          have hcz10_6 : w4.cell? ⟨gb307, 6, none⟩ = some (.int .i64 a0_6) := (blk_cell BK307.out 6).trans rfl
          have hfz10_0 := blk_frozen BK307.out 0
          have hfz10_1 := blk_frozen BK307.out 1
          have hfz10_2 := blk_frozen BK307.out 2
          have hfz10_3 := blk_frozen BK307.out 3
          have hfz10_4 := blk_frozen BK307.out 4
          have hfz10_5 := blk_frozen BK307.out 5
          have hfz10_6 := blk_frozen BK307.out 6
          go_wp2
          go_meet
          case rel => exact ⟨_, (decide (a1 ≥ a0_1)), (by first | rfl | (simp; done) | (simp [*]; done)), H', ⟨by first | omega | exact Nat.le_refl _⟩, ⟨by (with_reducible repeat (first | refine blk_drewN ?_ _ | refine blk_drew ?_ | refine blk_alloc ?_ _)); exact BK307.out⟩, ⟨by repeat (first | (with_reducible first | exact HB.out | apply below_alloc | apply pw_below_drewN | apply below_drew1 | refine below_set ?_ GE307.out) | exact HB.out)⟩⟩
    · rw [if_neg c5] at H
      have c5b0 : (a0_0 == 0) = false := beq_eq_false_iff_ne.mpr c5
      have c5b1 : (a0_0 != 0) = true := bne_iff_ne.mpr c5
      (first | rw [c5b0] | (simp only [i64_w, i32_w]; rw [c5b0]) | skip)
      have H' := Aside0.mk H
      clear H
      have hcz11_0 : w4.cell? ⟨gb307, 0, none⟩ = some (.int .i64 a0_0) := (blk_cell BK307.out 0).trans rfl
      have hcz11_1 : w4.cell? ⟨gb307, 1, none⟩ = some (.int .i64 a0_1) := (blk_cell BK307.out 1).trans rfl
      have hcz11_2 : w4.cell? ⟨gb307, 2, none⟩ = some (.int .i64 a0_2) := (blk_cell BK307.out 2).trans rfl
      have hcz11_3 : w4.cell? ⟨gb307, 3, none⟩ = some (.int .i64 a0_3) := (blk_cell BK307.out 3).trans rfl
      have hcz11_4 : w4.cell? ⟨gb307, 4, none⟩ = some (.int .i64 a0_4) := (blk_cell BK307.out 4).trans rfl
      have hcz11_5 : w4.cell? ⟨gb307, 5, none⟩ = some (.int .i64 a0_5) := (blk_cell BK307.out 5).trans rfl
      have hcz11_6 : w4.cell? ⟨gb307, 6, none⟩ = some (.int .i64 a0_6) := (blk_cell BK307.out 6).trans rfl
      have hfz11_0 := blk_frozen BK307.out 0
      have hfz11_1 := blk_frozen BK307.out 1
      have hfz11_2 := blk_frozen BK307.out 2
      have hfz11_3 := blk_frozen BK307.out 3
      have hfz11_4 := blk_frozen BK307.out 4
      have hfz11_5 := blk_frozen BK307.out 5
      have hfz11_6 := blk_frozen BK307.out 6
      go_wp2
      go_meet
      case rel => exact ⟨_, (false), (by first | rfl | (simp; done) | (simp [*]; done)), H', ⟨by first | omega | exact Nat.le_refl _⟩, ⟨by (with_reducible repeat (first | refine blk_drewN ?_ _ | refine blk_drew ?_ | refine blk_alloc ?_ _)); exact BK307.out⟩, ⟨by repeat (first | (with_reducible first | exact HB.out | apply below_alloc | apply pw_below_drewN | apply below_drew1 | refine below_set ?_ GE307.out) | exact HB.out)⟩⟩
  case rest =>
    clear HC3
    try clear c2
    try clear p2
    try clear c5
    try clear c5b0
    try clear c5b1
    try clear c6
    try clear c6b0
    try clear c8
    try clear c8b0
    try clear hcz10_0
    try clear hcz10_1
    try clear hcz10_2
    try clear hcz10_3
    try clear hcz10_4
    try clear hcz10_5
    try clear hcz10_6
    try clear hcz11_0
    try clear hcz11_1
    try clear hcz11_2
    try clear hcz11_3
    try clear hcz11_4
    try clear hcz11_5
    try clear hcz11_6
    try clear hcz7_0
    try clear hcz7_1
    try clear hcz7_2
    try clear hcz7_3
    try clear hcz7_4
    try clear hcz7_5
    try clear hcz7_6
    try clear hcz9_0
    try clear hcz9_1
    try clear hcz9_2
    try clear hcz9_3
    try clear hcz9_4
    try clear hcz9_5
    try clear hcz9_6
    try clear hfz10_0
    try clear hfz10_1
    try clear hfz10_2
    try clear hfz10_3
    try clear hfz10_4
    try clear hfz10_5
    try clear hfz10_6
    try clear hfz11_0
    try clear hfz11_1
    try clear hfz11_2
    try clear hfz11_3
    try clear hfz11_4
    try clear hfz11_5
    try clear hfz11_6
    try clear hfz7_0
    try clear hfz7_1
    try clear hfz7_2
    try clear hfz7_3
    try clear hfz7_4
    try clear hfz7_5
    try clear hfz7_6
    try clear hfz9_0
    try clear hfz9_1
    try clear hfz9_2
    try clear hfz9_3
    try clear hfz9_4
    try clear hfz9_5
    try clear hfz9_6
    obtain ⟨kq, x21_2, rfl, HA, HJ2, BK307, HB⟩ := hcut
    cases kq with
    | zero => exact absurd HA.out (by simp [hornbeamref09_Target.j0])
    | succ kj2 =>
      have H := HA.out
      clear HA
      simp only [hornbeamref09_Target.j0] at H
      by_cases c12 : x21_2 = true
      · subst c12
        have H1 : (some 5) = some r := by rw [if_pos rfl] at H; exact H
        clear H
        have H := H1
        clear H1
        obtain rfl := Option.some.inj H
        go_wp2
        go_ret
        exact ⟨by first | rfl | (simp [errW_none, errW_some] <;> rfl) | (simp [*, errW_none, errW_some] <;> rfl), by repeat (first | (with_reducible first | exact HB.out | apply below_alloc | apply pw_below_drewN | apply below_drew1 | refine below_set ?_ GE307.out) | exact HB.out)⟩
      · replace c12 := Bool.eq_false_iff.mpr c12
        subst c12
        have H1 : (if a0_0 = 1 then (if a1 < (-1048576) then (some 4) else (if a1 > 1048576 then (some 4) else (some 0))) else (some 0)) = some r := by rw [if_neg (show ¬ (false = true) by decide)] at H; exact H
        clear H
        have H := H1
        clear H1
        by_cases c13 : a0_0 = 1
        · rw [if_pos c13] at H
          have c13b0 : (a0_0 == 1) = true := beq_iff_eq.mpr c13
          have c13b1 : (a0_0 != 1) = false := bne_eq_false_iff_eq.mpr c13
          clear c13
          by_cases c14 : a1 < (-1048576)
          · rw [if_pos c14] at H
            have c14b0 : decide (a1 < (-1048576)) = true := decide_eq_true c14
            clear c14
            obtain rfl := Option.some.inj H
            have hcz15_0 : wc.cell? ⟨gb307, 0, none⟩ = some (.int .i64 a0_0) := (blk_cell BK307.out 0).trans rfl
            have hcz15_1 : wc.cell? ⟨gb307, 1, none⟩ = some (.int .i64 a0_1) := (blk_cell BK307.out 1).trans rfl
            have hcz15_2 : wc.cell? ⟨gb307, 2, none⟩ = some (.int .i64 a0_2) := (blk_cell BK307.out 2).trans rfl
            have hcz15_3 : wc.cell? ⟨gb307, 3, none⟩ = some (.int .i64 a0_3) := (blk_cell BK307.out 3).trans rfl
            have hcz15_4 : wc.cell? ⟨gb307, 4, none⟩ = some (.int .i64 a0_4) := (blk_cell BK307.out 4).trans rfl
            have hcz15_5 : wc.cell? ⟨gb307, 5, none⟩ = some (.int .i64 a0_5) := (blk_cell BK307.out 5).trans rfl
            have hcz15_6 : wc.cell? ⟨gb307, 6, none⟩ = some (.int .i64 a0_6) := (blk_cell BK307.out 6).trans rfl
            have hfz15_0 := blk_frozen BK307.out 0
            have hfz15_1 := blk_frozen BK307.out 1
            have hfz15_2 := blk_frozen BK307.out 2
            have hfz15_3 := blk_frozen BK307.out 3
            have hfz15_4 := blk_frozen BK307.out 4
            have hfz15_5 := blk_frozen BK307.out 5
            have hfz15_6 := blk_frozen BK307.out 6
            go_wp2
            go_ret
            exact ⟨by first | rfl | (simp [errW_none, errW_some] <;> rfl) | (simp [*, errW_none, errW_some] <;> rfl), by repeat (first | (with_reducible first | exact HB.out | apply below_alloc | apply pw_below_drewN | apply below_drew1 | refine below_set ?_ GE307.out) | exact HB.out)⟩
          · rw [if_neg c14] at H
            have c14b0 : decide (a1 < (-1048576)) = false := decide_eq_false c14
            clear c14
            by_cases c16 : a1 > 1048576
            · rw [if_pos c16] at H
              have c16b0 : decide (1048576 < a1) = true := decide_eq_true c16
              clear c16
              obtain rfl := Option.some.inj H
              have hcz17_0 : wc.cell? ⟨gb307, 0, none⟩ = some (.int .i64 a0_0) := (blk_cell BK307.out 0).trans rfl
              have hcz17_1 : wc.cell? ⟨gb307, 1, none⟩ = some (.int .i64 a0_1) := (blk_cell BK307.out 1).trans rfl
              have hcz17_2 : wc.cell? ⟨gb307, 2, none⟩ = some (.int .i64 a0_2) := (blk_cell BK307.out 2).trans rfl
              have hcz17_3 : wc.cell? ⟨gb307, 3, none⟩ = some (.int .i64 a0_3) := (blk_cell BK307.out 3).trans rfl
              have hcz17_4 : wc.cell? ⟨gb307, 4, none⟩ = some (.int .i64 a0_4) := (blk_cell BK307.out 4).trans rfl
              have hcz17_5 : wc.cell? ⟨gb307, 5, none⟩ = some (.int .i64 a0_5) := (blk_cell BK307.out 5).trans rfl
              have hcz17_6 : wc.cell? ⟨gb307, 6, none⟩ = some (.int .i64 a0_6) := (blk_cell BK307.out 6).trans rfl
              have hfz17_0 := blk_frozen BK307.out 0
              have hfz17_1 := blk_frozen BK307.out 1
              have hfz17_2 := blk_frozen BK307.out 2
              have hfz17_3 := blk_frozen BK307.out 3
              have hfz17_4 := blk_frozen BK307.out 4
              have hfz17_5 := blk_frozen BK307.out 5
              have hfz17_6 := blk_frozen BK307.out 6
              go_wp2
              go_ret
              exact ⟨by first | rfl | (simp [errW_none, errW_some] <;> rfl) | (simp [*, errW_none, errW_some] <;> rfl), by repeat (first | (with_reducible first | exact HB.out | apply below_alloc | apply pw_below_drewN | apply below_drew1 | refine below_set ?_ GE307.out) | exact HB.out)⟩
            · rw [if_neg c16] at H
              have c16b0 : decide (1048576 < a1) = false := decide_eq_false c16
              clear c16
              obtain rfl := Option.some.inj H
              have hcz18_0 : wc.cell? ⟨gb307, 0, none⟩ = some (.int .i64 a0_0) := (blk_cell BK307.out 0).trans rfl
              have hcz18_1 : wc.cell? ⟨gb307, 1, none⟩ = some (.int .i64 a0_1) := (blk_cell BK307.out 1).trans rfl
              have hcz18_2 : wc.cell? ⟨gb307, 2, none⟩ = some (.int .i64 a0_2) := (blk_cell BK307.out 2).trans rfl
              have hcz18_3 : wc.cell? ⟨gb307, 3, none⟩ = some (.int .i64 a0_3) := (blk_cell BK307.out 3).trans rfl
              have hcz18_4 : wc.cell? ⟨gb307, 4, none⟩ = some (.int .i64 a0_4) := (blk_cell BK307.out 4).trans rfl
              have hcz18_5 : wc.cell? ⟨gb307, 5, none⟩ = some (.int .i64 a0_5) := (blk_cell BK307.out 5).trans rfl
              have hcz18_6 : wc.cell? ⟨gb307, 6, none⟩ = some (.int .i64 a0_6) := (blk_cell BK307.out 6).trans rfl
              have hfz18_0 := blk_frozen BK307.out 0
              have hfz18_1 := blk_frozen BK307.out 1
              have hfz18_2 := blk_frozen BK307.out 2
              have hfz18_3 := blk_frozen BK307.out 3
              have hfz18_4 := blk_frozen BK307.out 4
              have hfz18_5 := blk_frozen BK307.out 5
              have hfz18_6 := blk_frozen BK307.out 6
              go_wp2
              go_ret
              exact ⟨by first | rfl | (simp [errW_none, errW_some] <;> rfl) | (simp [*, errW_none, errW_some] <;> rfl), by repeat (first | (with_reducible first | exact HB.out | apply below_alloc | apply pw_below_drewN | apply below_drew1 | refine below_set ?_ GE307.out) | exact HB.out)⟩
        · rw [if_neg c13] at H
          have c13b0 : (a0_0 == 1) = false := beq_eq_false_iff_ne.mpr c13
          have c13b1 : (a0_0 != 1) = true := bne_iff_ne.mpr c13
          obtain rfl := Option.some.inj H
          have hcz19_0 : wc.cell? ⟨gb307, 0, none⟩ = some (.int .i64 a0_0) := (blk_cell BK307.out 0).trans rfl
          have hcz19_1 : wc.cell? ⟨gb307, 1, none⟩ = some (.int .i64 a0_1) := (blk_cell BK307.out 1).trans rfl
          have hcz19_2 : wc.cell? ⟨gb307, 2, none⟩ = some (.int .i64 a0_2) := (blk_cell BK307.out 2).trans rfl
          have hcz19_3 : wc.cell? ⟨gb307, 3, none⟩ = some (.int .i64 a0_3) := (blk_cell BK307.out 3).trans rfl
          have hcz19_4 : wc.cell? ⟨gb307, 4, none⟩ = some (.int .i64 a0_4) := (blk_cell BK307.out 4).trans rfl
          have hcz19_5 : wc.cell? ⟨gb307, 5, none⟩ = some (.int .i64 a0_5) := (blk_cell BK307.out 5).trans rfl
          have hcz19_6 : wc.cell? ⟨gb307, 6, none⟩ = some (.int .i64 a0_6) := (blk_cell BK307.out 6).trans rfl
          have hfz19_0 := blk_frozen BK307.out 0
          have hfz19_1 := blk_frozen BK307.out 1
          have hfz19_2 := blk_frozen BK307.out 2
          have hfz19_3 := blk_frozen BK307.out 3
          have hfz19_4 := blk_frozen BK307.out 4
          have hfz19_5 := blk_frozen BK307.out 5
          have hfz19_6 := blk_frozen BK307.out 6
          go_wp2
          go_ret
          exact ⟨by first | rfl | (simp [errW_none, errW_some] <;> rfl) | (simp [*, errW_none, errW_some] <;> rfl), by repeat (first | (with_reducible first | exact HB.out | apply below_alloc | apply pw_below_drewN | apply below_drew1 | refine below_set ?_ GE307.out) | exact HB.out)⟩

/-! ### hornbeamref11_Cell: function 26 -/
def hornbeamref11_Cell.f (a0_0 : Int) (a0_1 : Int) (l0_2 : List Int) (a1 : Int) (a2 : Int) : Option (Int) := (hornbeamref11_Right.f a0_0 a0_1 l0_2).bind fun t309 => (if t309 = true then (if a1 < 0 then (some (-1)) else (if a1 ≥ a0_0 then (some (-1)) else (if a2 < 0 then (some (-1)) else (if a2 ≥ a0_1 then (some (-1)) else (if 0 ≤ (wrap64 ((wrap64 (a2 * a0_0)) + a1)) then (if (wrap64 ((wrap64 (a2 * a0_0)) + a1)) < (l0_2.length : Int) then (some (wrap64 (rd l0_2 (wrap64 ((wrap64 (a2 * a0_0)) + a1))))) else (none)) else (none)))))) else (some (-1)))
set_option maxHeartbeats 8000000 in
set_option maxRecDepth 100000 in
theorem hornbeamref11_Cell.calls (a0_0 : Int) (a0_1 : Int) (A0_2 : Option Addr) (c0_2 : Nat) (l0_2 : List Int) (a1 : Int) (a2 : Int) (r : Int) (w : World) (hr0_2 : Kd.C (Kd.int .u16) w A0_2 l0_2.length l0_2) (hc0_2 : l0_2.length ≤ c0_2) (h : hornbeamref11_Cell.f a0_0 a0_1 l0_2 a1 a2 = some r) :
    Calls Tryz.prog 26 #[.agg #[.int .i64 a0_0, .int .i64 a0_1, .slice A0_2 l0_2.length c0_2], .int .i64 a1, .int .i64 a2] w fun e w' => e = .returned (.int .i64 r) ∧ Below w.heap.size w w' := by
  have hu26 := Tryz.underlying26
  have HR0_2 := Aside0.mk hr0_2
  have HC0_2 := Aside0.mk hc0_2
  clear hr0_2 hc0_2
  have HB := Aside0.mk (Below.refl w.heap.size w)
  have H : ((hornbeamref11_Right.f a0_0 a0_1 l0_2).bind fun t309 => (if t309 = true then (if a1 < 0 then (some (-1)) else (if a1 ≥ a0_0 then (some (-1)) else (if a2 < 0 then (some (-1)) else (if a2 ≥ a0_1 then (some (-1)) else (if 0 ≤ (wrap64 ((wrap64 (a2 * a0_0)) + a1)) then (if (wrap64 ((wrap64 (a2 * a0_0)) + a1)) < (l0_2.length : Int) then (some (wrap64 (rd l0_2 (wrap64 ((wrap64 (a2 * a0_0)) + a1))))) else (none)) else (none)))))) else (some (-1)))) = some r := h
  clear h
  replace H := Option.bind_eq_some_iff.mp H
  obtain ⟨t309, A40, H⟩ := H
  replace H : (if t309 = true then (if a1 < 0 then (some (-1)) else (if a1 ≥ a0_0 then (some (-1)) else (if a2 < 0 then (some (-1)) else (if a2 ≥ a0_1 then (some (-1)) else (if 0 ≤ (wrap64 ((wrap64 (a2 * a0_0)) + a1)) then (if (wrap64 ((wrap64 (a2 * a0_0)) + a1)) < (l0_2.length : Int) then (some (wrap64 (rd l0_2 (wrap64 ((wrap64 (a2 * a0_0)) + a1))))) else (none)) else (none)))))) else (some (-1))) = some r := H
  have A4 := Aside0.mk A40
  clear A40
  by_cases c5 : t309 = true
  · subst c5
    have H1 : (if a1 < 0 then (some (-1)) else (if a1 ≥ a0_0 then (some (-1)) else (if a2 < 0 then (some (-1)) else (if a2 ≥ a0_1 then (some (-1)) else (if 0 ≤ (wrap64 ((wrap64 (a2 * a0_0)) + a1)) then (if (wrap64 ((wrap64 (a2 * a0_0)) + a1)) < (l0_2.length : Int) then (some (wrap64 (rd l0_2 (wrap64 ((wrap64 (a2 * a0_0)) + a1))))) else (none)) else (none)))))) = some r := by rw [if_pos rfl] at H; exact H
    clear H
    have H := H1
    clear H1
    by_cases c6 : a1 < 0
    · rw [if_pos c6] at H
      have c6b0 : decide (a1 < 0) = true := decide_eq_true c6
      clear c6
      obtain rfl := Option.some.inj H
      go_enter Tryz.func26, Tryz.ntmps26
      go_wp2_with (first | ((with_reducible refine gate_dst (N := 3) rfl ?_); refine box_event ?hg (N := 3) ?hd (cs := #[.int .i64 a0_0, .int .i64 a0_1, .slice A0_2 l0_2.length c0_2]) (t := 26) ?hr ?_; (case hd => rfl); (case hg => rfl); (case hr => first | (go_simp; done) | (go_simp; rfl)); intro gb308 hg w7 hbox hb; have n0_ := Aside0.mk (below_step (by repeat (first | (with_reducible first | exact HB.out | apply below_alloc | apply pw_below_drewN | apply below_drew1) | exact HB.out)) hb); have n1_ := Aside0.mk (hbox); have n2_ := Aside0.mk ((by rw [hg]; exact (below_size (by repeat (first | (with_reducible first | exact HB.out | apply below_alloc | apply pw_below_drewN | apply below_drew1) | exact HB.out))) : w.heap.size ≤ gb308)); have n3_ := Aside0.mk ((by rw [hg]; exact (below_size (by repeat (first | (with_reducible first | exact HB.out | apply below_alloc | apply pw_below_drewN | apply below_drew1) | exact HB.out))) : w.heap.size ≤ gb308)); clear HB; have HB := n0_; have BK308 := n1_; have GW308 := n2_; have GE308 := n3_; clear n0_ n1_ n2_ n3_; clear hb hbox hg; have hcz8_0 : w7.cell? ⟨gb308, 0, none⟩ = some (.int .i64 a0_0) := (blk_cell BK308.out 0).trans rfl; have hcz8_1 : w7.cell? ⟨gb308, 1, none⟩ = some (.int .i64 a0_1) := (blk_cell BK308.out 1).trans rfl; have hcz8_2 : w7.cell? ⟨gb308, 2, none⟩ = some (.slice A0_2 l0_2.length c0_2) := (blk_cell BK308.out 2).trans rfl; have hfz8_0 := blk_frozen BK308.out 0; have hfz8_1 := blk_frozen BK308.out 1; have hfz8_2 := blk_frozen BK308.out 2) | ((with_reducible refine gate_callee (f := 45) rfl ?_); refine goesL_ (some 8) rfl rfl Tryz.func45 (by kernel_rfl) rfl #[.agg #[.int .i64 a0_0, .int .i64 a0_1, .slice A0_2 l0_2.length c0_2]] rfl (by (try simp only [List.map_toArray, List.map_cons, List.map_nil]); first | done | rfl | (simp only [List.length_drop, List.length_take]; rfl)) ?_; (with_reducible refine (hornbeamref11_Right.calls a0_0 a0_1 _ _ l0_2 true _ ?side1 ?side2 A4.out).mono ?_); (case side1 => repeat (first | exact (Kd.C_below HR0_2.out HB.out) | (with_reducible refine Kd.C_alloc ?_ _) | (with_reducible refine Kd.C_drewN ?_ _) | (with_reducible refine Kd.C_drew ?_))); (case side2 => exact HC0_2.out); rintro e w9 ⟨rfl, hb⟩; refine ⟨_, rfl, ?_⟩; have n0_ := Aside0.mk (blk_below (g := gb308) (o := .cells #[.int .i64 a0_0, .int .i64 a0_1, .slice A0_2 l0_2.length c0_2] 26 (0, 0)) (by (with_reducible repeat (first | refine blk_drewN ?_ _ | refine blk_drew ?_ | refine blk_alloc ?_ _)); exact BK308.out) hb); have n1_ := Aside0.mk (below_step (by repeat (first | (with_reducible first | exact HB.out | apply below_alloc | apply pw_below_drewN | apply below_drew1 | refine below_set ?_ GE308.out) | exact HB.out)) hb); clear BK308; clear HB; have BK308 := n0_; have HB := n1_; clear n0_ n1_; (try clear hb); (try clear hb2); (try clear hk); (try clear hi)))
      go_ret
      exact ⟨by first | rfl | (simp [errW_none, errW_some] <;> rfl) | (simp [*, errW_none, errW_some] <;> rfl), by repeat (first | (with_reducible first | exact HB.out | apply below_alloc | apply pw_below_drewN | apply below_drew1 | refine below_set ?_ GE308.out) | exact HB.out)⟩
    · rw [if_neg c6] at H
      have c6b0 : decide (a1 < 0) = false := decide_eq_false c6
      clear c6
      by_cases c10 : a1 ≥ a0_0
      · rw [if_pos c10] at H
        have c10b0 : decide (a0_0 ≤ a1) = true := decide_eq_true c10
        clear c10
        obtain rfl := Option.some.inj H
        go_enter Tryz.func26, Tryz.ntmps26
        go_wp2_with (first | ((with_reducible refine gate_dst (N := 3) rfl ?_); refine box_event ?hg (N := 3) ?hd (cs := #[.int .i64 a0_0, .int .i64 a0_1, .slice A0_2 l0_2.length c0_2]) (t := 26) ?hr ?_; (case hd => rfl); (case hg => rfl); (case hr => first | (go_simp; done) | (go_simp; rfl)); intro gb308 hg w11 hbox hb; have n0_ := Aside0.mk (below_step (by repeat (first | (with_reducible first | exact HB.out | apply below_alloc | apply pw_below_drewN | apply below_drew1) | exact HB.out)) hb); have n1_ := Aside0.mk (hbox); have n2_ := Aside0.mk ((by rw [hg]; exact (below_size (by repeat (first | (with_reducible first | exact HB.out | apply below_alloc | apply pw_below_drewN | apply below_drew1) | exact HB.out))) : w.heap.size ≤ gb308)); have n3_ := Aside0.mk ((by rw [hg]; exact (below_size (by repeat (first | (with_reducible first | exact HB.out | apply below_alloc | apply pw_below_drewN | apply below_drew1) | exact HB.out))) : w.heap.size ≤ gb308)); clear HB; have HB := n0_; have BK308 := n1_; have GW308 := n2_; have GE308 := n3_; clear n0_ n1_ n2_ n3_; clear hb hbox hg; have hcz12_0 : w11.cell? ⟨gb308, 0, none⟩ = some (.int .i64 a0_0) := (blk_cell BK308.out 0).trans rfl; have hcz12_1 : w11.cell? ⟨gb308, 1, none⟩ = some (.int .i64 a0_1) := (blk_cell BK308.out 1).trans rfl; have hcz12_2 : w11.cell? ⟨gb308, 2, none⟩ = some (.slice A0_2 l0_2.length c0_2) := (blk_cell BK308.out 2).trans rfl; have hfz12_0 := blk_frozen BK308.out 0; have hfz12_1 := blk_frozen BK308.out 1; have hfz12_2 := blk_frozen BK308.out 2) | ((with_reducible refine gate_callee (f := 45) rfl ?_); refine goesL_ (some 8) rfl rfl Tryz.func45 (by kernel_rfl) rfl #[.agg #[.int .i64 a0_0, .int .i64 a0_1, .slice A0_2 l0_2.length c0_2]] rfl (by (try simp only [List.map_toArray, List.map_cons, List.map_nil]); first | done | rfl | (simp only [List.length_drop, List.length_take]; rfl)) ?_; (with_reducible refine (hornbeamref11_Right.calls a0_0 a0_1 _ _ l0_2 true _ ?side1 ?side2 A4.out).mono ?_); (case side1 => repeat (first | exact (Kd.C_below HR0_2.out HB.out) | (with_reducible refine Kd.C_alloc ?_ _) | (with_reducible refine Kd.C_drewN ?_ _) | (with_reducible refine Kd.C_drew ?_))); (case side2 => exact HC0_2.out); rintro e w13 ⟨rfl, hb⟩; refine ⟨_, rfl, ?_⟩; have n0_ := Aside0.mk (blk_below (g := gb308) (o := .cells #[.int .i64 a0_0, .int .i64 a0_1, .slice A0_2 l0_2.length c0_2] 26 (0, 0)) (by (with_reducible repeat (first | refine blk_drewN ?_ _ | refine blk_drew ?_ | refine blk_alloc ?_ _)); exact BK308.out) hb); have n1_ := Aside0.mk (below_step (by repeat (first | (with_reducible first | exact HB.out | apply below_alloc | apply pw_below_drewN | apply below_drew1 | refine below_set ?_ GE308.out) | exact HB.out)) hb); clear BK308; clear HB; have BK308 := n0_; have HB := n1_; clear n0_ n1_; (try clear hb); (try clear hb2); (try clear hk); (try clear hi); have hcz14_0 : w13.cell? ⟨gb308, 0, none⟩ = some (.int .i64 a0_0) := (blk_cell BK308.out 0).trans rfl; have hcz14_1 : w13.cell? ⟨gb308, 1, none⟩ = some (.int .i64 a0_1) := (blk_cell BK308.out 1).trans rfl; have hcz14_2 : w13.cell? ⟨gb308, 2, none⟩ = some (.slice A0_2 l0_2.length c0_2) := (blk_cell BK308.out 2).trans rfl; have hfz14_0 := blk_frozen BK308.out 0; have hfz14_1 := blk_frozen BK308.out 1; have hfz14_2 := blk_frozen BK308.out 2))
        go_ret
        exact ⟨by first | rfl | (simp [errW_none, errW_some] <;> rfl) | (simp [*, errW_none, errW_some] <;> rfl), by repeat (first | (with_reducible first | exact HB.out | apply below_alloc | apply pw_below_drewN | apply below_drew1 | refine below_set ?_ GE308.out) | exact HB.out)⟩
      · rw [if_neg c10] at H
        have c10b0 : decide (a0_0 ≤ a1) = false := decide_eq_false c10
        clear c10
        by_cases c15 : a2 < 0
        · rw [if_pos c15] at H
          have c15b0 : decide (a2 < 0) = true := decide_eq_true c15
          clear c15
          obtain rfl := Option.some.inj H
          go_enter Tryz.func26, Tryz.ntmps26
          go_wp2_with (first | ((with_reducible refine gate_dst (N := 3) rfl ?_); refine box_event ?hg (N := 3) ?hd (cs := #[.int .i64 a0_0, .int .i64 a0_1, .slice A0_2 l0_2.length c0_2]) (t := 26) ?hr ?_; (case hd => rfl); (case hg => rfl); (case hr => first | (go_simp; done) | (go_simp; rfl)); intro gb308 hg w16 hbox hb; have n0_ := Aside0.mk (below_step (by repeat (first | (with_reducible first | exact HB.out | apply below_alloc | apply pw_below_drewN | apply below_drew1) | exact HB.out)) hb); have n1_ := Aside0.mk (hbox); have n2_ := Aside0.mk ((by rw [hg]; exact (below_size (by repeat (first | (with_reducible first | exact HB.out | apply below_alloc | apply pw_below_drewN | apply below_drew1) | exact HB.out))) : w.heap.size ≤ gb308)); have n3_ := Aside0.mk ((by rw [hg]; exact (below_size (by repeat (first | (with_reducible first | exact HB.out | apply below_alloc | apply pw_below_drewN | apply below_drew1) | exact HB.out))) : w.heap.size ≤ gb308)); clear HB; have HB := n0_; have BK308 := n1_; have GW308 := n2_; have GE308 := n3_; clear n0_ n1_ n2_ n3_; clear hb hbox hg; have hcz17_0 : w16.cell? ⟨gb308, 0, none⟩ = some (.int .i64 a0_0) := (blk_cell BK308.out 0).trans rfl; have hcz17_1 : w16.cell? ⟨gb308, 1, none⟩ = some (.int .i64 a0_1) := (blk_cell BK308.out 1).trans rfl; have hcz17_2 : w16.cell? ⟨gb308, 2, none⟩ = some (.slice A0_2 l0_2.length c0_2) := (blk_cell BK308.out 2).trans rfl; have hfz17_0 := blk_frozen BK308.out 0; have hfz17_1 := blk_frozen BK308.out 1; have hfz17_2 := blk_frozen BK308.out 2) | ((with_reducible refine gate_callee (f := 45) rfl ?_); refine goesL_ (some 8) rfl rfl Tryz.func45 (by kernel_rfl) rfl #[.agg #[.int .i64 a0_0, .int .i64 a0_1, .slice A0_2 l0_2.length c0_2]] rfl (by (try simp only [List.map_toArray, List.map_cons, List.map_nil]); first | done | rfl | (simp only [List.length_drop, List.length_take]; rfl)) ?_; (with_reducible refine (hornbeamref11_Right.calls a0_0 a0_1 _ _ l0_2 true _ ?side1 ?side2 A4.out).mono ?_); (case side1 => repeat (first | exact (Kd.C_below HR0_2.out HB.out) | (with_reducible refine Kd.C_alloc ?_ _) | (with_reducible refine Kd.C_drewN ?_ _) | (with_reducible refine Kd.C_drew ?_))); (case side2 => exact HC0_2.out); rintro e w18 ⟨rfl, hb⟩; refine ⟨_, rfl, ?_⟩; have n0_ := Aside0.mk (blk_below (g := gb308) (o := .cells #[.int .i64 a0_0, .int .i64 a0_1, .slice A0_2 l0_2.length c0_2] 26 (0, 0)) (by (with_reducible repeat (first | refine blk_drewN ?_ _ | refine blk_drew ?_ | refine blk_alloc ?_ _)); exact BK308.out) hb); have n1_ := Aside0.mk (below_step (by repeat (first | (with_reducible first | exact HB.out | apply below_alloc | apply pw_below_drewN | apply below_drew1 | refine below_set ?_ GE308.out) | exact HB.out)) hb); clear BK308; clear HB; have BK308 := n0_; have HB := n1_; clear n0_ n1_; (try clear hb); (try clear hb2); (try clear hk); (try clear hi); have hcz19_0 : w18.cell? ⟨gb308, 0, none⟩ = some (.int .i64 a0_0) := (blk_cell BK308.out 0).trans rfl; have hcz19_1 : w18.cell? ⟨gb308, 1, none⟩ = some (.int .i64 a0_1) := (blk_cell BK308.out 1).trans rfl; have hcz19_2 : w18.cell? ⟨gb308, 2, none⟩ = some (.slice A0_2 l0_2.length c0_2) := (blk_cell BK308.out 2).trans rfl; have hfz19_0 := blk_frozen BK308.out 0; have hfz19_1 := blk_frozen BK308.out 1; have hfz19_2 := blk_frozen BK308.out 2))
          go_ret
          exact ⟨by first | rfl | (simp [errW_none, errW_some] <;> rfl) | (simp [*, errW_none, errW_some] <;> rfl), by repeat (first | (with_reducible first | exact HB.out | apply below_alloc | apply pw_below_drewN | apply below_drew1 | refine below_set ?_ GE308.out) | exact HB.out)⟩
        · rw [if_neg c15] at H
          have c15b0 : decide (a2 < 0) = false := decide_eq_false c15
          clear c15
          by_cases c20 : a2 ≥ a0_1
          · rw [if_pos c20] at H
            have c20b0 : decide (a0_1 ≤ a2) = true := decide_eq_true c20
            clear c20
            obtain rfl := Option.some.inj H
            go_enter Tryz.func26, Tryz.ntmps26
            go_wp2_with (first | ((with_reducible refine gate_dst (N := 3) rfl ?_); refine box_event ?hg (N := 3) ?hd (cs := #[.int .i64 a0_0, .int .i64 a0_1, .slice A0_2 l0_2.length c0_2]) (t := 26) ?hr ?_; (case hd => rfl); (case hg => rfl); (case hr => first | (go_simp; done) | (go_simp; rfl)); intro gb308 hg w21 hbox hb; have n0_ := Aside0.mk (below_step (by repeat (first | (with_reducible first | exact HB.out | apply below_alloc | apply pw_below_drewN | apply below_drew1) | exact HB.out)) hb); have n1_ := Aside0.mk (hbox); have n2_ := Aside0.mk ((by rw [hg]; exact (below_size (by repeat (first | (with_reducible first | exact HB.out | apply below_alloc | apply pw_below_drewN | apply below_drew1) | exact HB.out))) : w.heap.size ≤ gb308)); have n3_ := Aside0.mk ((by rw [hg]; exact (below_size (by repeat (first | (with_reducible first | exact HB.out | apply below_alloc | apply pw_below_drewN | apply below_drew1) | exact HB.out))) : w.heap.size ≤ gb308)); clear HB; have HB := n0_; have BK308 := n1_; have GW308 := n2_; have GE308 := n3_; clear n0_ n1_ n2_ n3_; clear hb hbox hg; have hcz22_0 : w21.cell? ⟨gb308, 0, none⟩ = some (.int .i64 a0_0) := (blk_cell BK308.out 0).trans rfl; have hcz22_1 : w21.cell? ⟨gb308, 1, none⟩ = some (.int .i64 a0_1) := (blk_cell BK308.out 1).trans rfl; have hcz22_2 : w21.cell? ⟨gb308, 2, none⟩ = some (.slice A0_2 l0_2.length c0_2) := (blk_cell BK308.out 2).trans rfl; have hfz22_0 := blk_frozen BK308.out 0; have hfz22_1 := blk_frozen BK308.out 1; have hfz22_2 := blk_frozen BK308.out 2) | ((with_reducible refine gate_callee (f := 45) rfl ?_); refine goesL_ (some 8) rfl rfl Tryz.func45 (by kernel_rfl) rfl #[.agg #[.int .i64 a0_0, .int .i64 a0_1, .slice A0_2 l0_2.length c0_2]] rfl (by (try simp only [List.map_toArray, List.map_cons, List.map_nil]); first | done | rfl | (simp only [List.length_drop, List.length_take]; rfl)) ?_; (with_reducible refine (hornbeamref11_Right.calls a0_0 a0_1 _ _ l0_2 true _ ?side1 ?side2 A4.out).mono ?_); (case side1 => repeat (first | exact (Kd.C_below HR0_2.out HB.out) | (with_reducible refine Kd.C_alloc ?_ _) | (with_reducible refine Kd.C_drewN ?_ _) | (with_reducible refine Kd.C_drew ?_))); (case side2 => exact HC0_2.out); rintro e w23 ⟨rfl, hb⟩; refine ⟨_, rfl, ?_⟩; have n0_ := Aside0.mk (blk_below (g := gb308) (o := .cells #[.int .i64 a0_0, .int .i64 a0_1, .slice A0_2 l0_2.length c0_2] 26 (0, 0)) (by (with_reducible repeat (first | refine blk_drewN ?_ _ | refine blk_drew ?_ | refine blk_alloc ?_ _)); exact BK308.out) hb); have n1_ := Aside0.mk (below_step (by repeat (first | (with_reducible first | exact HB.out | apply below_alloc | apply pw_below_drewN | apply below_drew1 | refine below_set ?_ GE308.out) | exact HB.out)) hb); clear BK308; clear HB; have BK308 := n0_; have HB := n1_; clear n0_ n1_; (try clear hb); (try clear hb2); (try clear hk); (try clear hi); have hcz24_0 : w23.cell? ⟨gb308, 0, none⟩ = some (.int .i64 a0_0) := (blk_cell BK308.out 0).trans rfl; have hcz24_1 : w23.cell? ⟨gb308, 1, none⟩ = some (.int .i64 a0_1) := (blk_cell BK308.out 1).trans rfl; have hcz24_2 : w23.cell? ⟨gb308, 2, none⟩ = some (.slice A0_2 l0_2.length c0_2) := (blk_cell BK308.out 2).trans rfl; have hfz24_0 := blk_frozen BK308.out 0; have hfz24_1 := blk_frozen BK308.out 1; have hfz24_2 := blk_frozen BK308.out 2))
            go_ret
            exact ⟨by first | rfl | (simp [errW_none, errW_some] <;> rfl) | (simp [*, errW_none, errW_some] <;> rfl), by repeat (first | (with_reducible first | exact HB.out | apply below_alloc | apply pw_below_drewN | apply below_drew1 | refine below_set ?_ GE308.out) | exact HB.out)⟩
          · rw [if_neg c20] at H
            have c20b0 : decide (a0_1 ≤ a2) = false := decide_eq_false c20
            clear c20
            obtain ⟨ji25, hji25⟩ : ∃ j_ : Int, (wrap64 ((wrap64 (a2 * a0_0)) + a1)) = j_ := ⟨_, rfl⟩
            replace H : (if 0 ≤ (ji25) then (if (ji25) < (l0_2.length : Int) then (some (wrap64 (rd l0_2 (ji25)))) else (none)) else (none)) = some r := by first | (rw [hji25] at H; exact H) | (simp only [hji25] at H ⊢; exact H)
            (try rw [hji25] at A4)
            have hji25w : (IntKind.i64.wrap ((wrap64 (a2 * a0_0)) + a1)) = ji25 := (i64_w _).trans hji25
            by_cases c26 : 0 ≤ (ji25)
            · rw [if_pos c26] at H
              have c26b0 : decide (0 ≤ (ji25)) = true := decide_eq_true c26
              clear c26
              by_cases c27 : (ji25) < (l0_2.length : Int)
              · rw [if_pos c27] at H
                have c27b0 : decide ((ji25) < (l0_2.length : Int)) = true := decide_eq_true c27
                clear c27
                obtain rfl := Option.some.inj H
                go_enter Tryz.func26, Tryz.ntmps26
                go_wp2_with (first | ((with_reducible refine gate_dst (N := 3) rfl ?_); refine box_event ?hg (N := 3) ?hd (cs := #[.int .i64 a0_0, .int .i64 a0_1, .slice A0_2 l0_2.length c0_2]) (t := 26) ?hr ?_; (case hd => rfl); (case hg => rfl); (case hr => first | (go_simp; done) | (go_simp; rfl)); intro gb308 hg w28 hbox hb; have n0_ := Aside0.mk (below_step (by repeat (first | (with_reducible first | exact HB.out | apply below_alloc | apply pw_below_drewN | apply below_drew1) | exact HB.out)) hb); have n1_ := Aside0.mk (hbox); have n2_ := Aside0.mk ((by rw [hg]; exact (below_size (by repeat (first | (with_reducible first | exact HB.out | apply below_alloc | apply pw_below_drewN | apply below_drew1) | exact HB.out))) : w.heap.size ≤ gb308)); have n3_ := Aside0.mk ((by rw [hg]; exact (below_size (by repeat (first | (with_reducible first | exact HB.out | apply below_alloc | apply pw_below_drewN | apply below_drew1) | exact HB.out))) : w.heap.size ≤ gb308)); clear HB; have HB := n0_; have BK308 := n1_; have GW308 := n2_; have GE308 := n3_; clear n0_ n1_ n2_ n3_; clear hb hbox hg; have hcz29_0 : w28.cell? ⟨gb308, 0, none⟩ = some (.int .i64 a0_0) := (blk_cell BK308.out 0).trans rfl; have hcz29_1 : w28.cell? ⟨gb308, 1, none⟩ = some (.int .i64 a0_1) := (blk_cell BK308.out 1).trans rfl; have hcz29_2 : w28.cell? ⟨gb308, 2, none⟩ = some (.slice A0_2 l0_2.length c0_2) := (blk_cell BK308.out 2).trans rfl; have hfz29_0 := blk_frozen BK308.out 0; have hfz29_1 := blk_frozen BK308.out 1; have hfz29_2 := blk_frozen BK308.out 2) | ((with_reducible refine gate_callee (f := 45) rfl ?_); refine goesL_ (some 8) rfl rfl Tryz.func45 (by kernel_rfl) rfl #[.agg #[.int .i64 a0_0, .int .i64 a0_1, .slice A0_2 l0_2.length c0_2]] rfl (by (try simp only [List.map_toArray, List.map_cons, List.map_nil]); first | done | rfl | (simp only [List.length_drop, List.length_take]; rfl)) ?_; (with_reducible refine (hornbeamref11_Right.calls a0_0 a0_1 _ _ l0_2 true _ ?side1 ?side2 A4.out).mono ?_); (case side1 => repeat (first | exact (Kd.C_below HR0_2.out HB.out) | (with_reducible refine Kd.C_alloc ?_ _) | (with_reducible refine Kd.C_drewN ?_ _) | (with_reducible refine Kd.C_drew ?_))); (case side2 => exact HC0_2.out); rintro e w30 ⟨rfl, hb⟩; refine ⟨_, rfl, ?_⟩; have n0_ := Aside0.mk (blk_below (g := gb308) (o := .cells #[.int .i64 a0_0, .int .i64 a0_1, .slice A0_2 l0_2.length c0_2] 26 (0, 0)) (by (with_reducible repeat (first | refine blk_drewN ?_ _ | refine blk_drew ?_ | refine blk_alloc ?_ _)); exact BK308.out) hb); have n1_ := Aside0.mk (below_step (by repeat (first | (with_reducible first | exact HB.out | apply below_alloc | apply pw_below_drewN | apply below_drew1 | refine below_set ?_ GE308.out) | exact HB.out)) hb); clear BK308; clear HB; have BK308 := n0_; have HB := n1_; clear n0_ n1_; (try clear hb); (try clear hb2); (try clear hk); (try clear hi); have hcz31_0 : w30.cell? ⟨gb308, 0, none⟩ = some (.int .i64 a0_0) := (blk_cell BK308.out 0).trans rfl; have hcz31_1 : w30.cell? ⟨gb308, 1, none⟩ = some (.int .i64 a0_1) := (blk_cell BK308.out 1).trans rfl; have hcz31_2 : w30.cell? ⟨gb308, 2, none⟩ = some (.slice A0_2 l0_2.length c0_2) := (blk_cell BK308.out 2).trans rfl; have hfz31_0 := blk_frozen BK308.out 0; have hfz31_1 := blk_frozen BK308.out 1; have hfz31_2 := blk_frozen BK308.out 2; have p310 : 0 ≤ ((ji25) : Int) := of_decide_eq_true (by first | (with_reducible assumption) | assumption); have q310 : (ji25) < (l0_2.length : Int) := of_decide_eq_true (by first | (with_reducible assumption) | assumption); obtain ⟨ad310, e310, hx310_0⟩ := Kd.at_int HR0_2.out (ji25) p310 q310; cases e310; replace hx310_0 := (HB.out.cell (World.block_lt_of_cell? w _ hx310_0)).trans hx310_0; replace p310 := eq_true p310; replace q310 := eq_true q310))
                go_ret
                exact ⟨by first | rfl | (simp [errW_none, errW_some] <;> rfl) | (simp only [← hji25]; first | rfl | (simp [errW_none, errW_some] <;> rfl)) | (simp [*, errW_none, errW_some] <;> rfl), by repeat (first | (with_reducible first | exact HB.out | apply below_alloc | apply pw_below_drewN | apply below_drew1 | refine below_set ?_ GE308.out) | exact HB.out)⟩
              · rw [if_neg c27] at H
                exact absurd H (by simp)
            · rw [if_neg c26] at H
              exact absurd H (by simp)
  · replace c5 := Bool.eq_false_iff.mpr c5
    subst c5
    have H1 : (some (-1)) = some r := by rw [if_neg (show ¬ (false = true) by decide)] at H; exact H
    clear H
    have H := H1
    clear H1
    obtain rfl := Option.some.inj H
    go_enter Tryz.func26, Tryz.ntmps26
    go_wp2_with (first | ((with_reducible refine gate_dst (N := 3) rfl ?_); refine box_event ?hg (N := 3) ?hd (cs := #[.int .i64 a0_0, .int .i64 a0_1, .slice A0_2 l0_2.length c0_2]) (t := 26) ?hr ?_; (case hd => rfl); (case hg => rfl); (case hr => first | (go_simp; done) | (go_simp; rfl)); intro gb308 hg w32 hbox hb; have n0_ := Aside0.mk (below_step (by repeat (first | (with_reducible first | exact HB.out | apply below_alloc | apply pw_below_drewN | apply below_drew1) | exact HB.out)) hb); have n1_ := Aside0.mk (hbox); have n2_ := Aside0.mk ((by rw [hg]; exact (below_size (by repeat (first | (with_reducible first | exact HB.out | apply below_alloc | apply pw_below_drewN | apply below_drew1) | exact HB.out))) : w.heap.size ≤ gb308)); have n3_ := Aside0.mk ((by rw [hg]; exact (below_size (by repeat (first | (with_reducible first | exact HB.out | apply below_alloc | apply pw_below_drewN | apply below_drew1) | exact HB.out))) : w.heap.size ≤ gb308)); clear HB; have HB := n0_; have BK308 := n1_; have GW308 := n2_; have GE308 := n3_; clear n0_ n1_ n2_ n3_; clear hb hbox hg; have hcz33_0 : w32.cell? ⟨gb308, 0, none⟩ = some (.int .i64 a0_0) := (blk_cell BK308.out 0).trans rfl; have hcz33_1 : w32.cell? ⟨gb308, 1, none⟩ = some (.int .i64 a0_1) := (blk_cell BK308.out 1).trans rfl; have hcz33_2 : w32.cell? ⟨gb308, 2, none⟩ = some (.slice A0_2 l0_2.length c0_2) := (blk_cell BK308.out 2).trans rfl; have hfz33_0 := blk_frozen BK308.out 0; have hfz33_1 := blk_frozen BK308.out 1; have hfz33_2 := blk_frozen BK308.out 2) | ((with_reducible refine gate_callee (f := 45) rfl ?_); refine goesL_ (some 8) rfl rfl Tryz.func45 (by kernel_rfl) rfl #[.agg #[.int .i64 a0_0, .int .i64 a0_1, .slice A0_2 l0_2.length c0_2]] rfl (by (try simp only [List.map_toArray, List.map_cons, List.map_nil]); first | done | rfl | (simp only [List.length_drop, List.length_take]; rfl)) ?_; (with_reducible refine (hornbeamref11_Right.calls a0_0 a0_1 _ _ l0_2 false _ ?side1 ?side2 A4.out).mono ?_); (case side1 => repeat (first | exact (Kd.C_below HR0_2.out HB.out) | (with_reducible refine Kd.C_alloc ?_ _) | (with_reducible refine Kd.C_drewN ?_ _) | (with_reducible refine Kd.C_drew ?_))); (case side2 => exact HC0_2.out); rintro e w34 ⟨rfl, hb⟩; refine ⟨_, rfl, ?_⟩; have n0_ := Aside0.mk (blk_below (g := gb308) (o := .cells #[.int .i64 a0_0, .int .i64 a0_1, .slice A0_2 l0_2.length c0_2] 26 (0, 0)) (by (with_reducible repeat (first | refine blk_drewN ?_ _ | refine blk_drew ?_ | refine blk_alloc ?_ _)); exact BK308.out) hb); have n1_ := Aside0.mk (below_step (by repeat (first | (with_reducible first | exact HB.out | apply below_alloc | apply pw_below_drewN | apply below_drew1 | refine below_set ?_ GE308.out) | exact HB.out)) hb); clear BK308; clear HB; have BK308 := n0_; have HB := n1_; clear n0_ n1_; (try clear hb); (try clear hb2); (try clear hk); (try clear hi)))
    go_ret
    exact ⟨by first | rfl | (simp [errW_none, errW_some] <;> rfl) | (simp [*, errW_none, errW_some] <;> rfl), by repeat (first | (with_reducible first | exact HB.out | apply below_alloc | apply pw_below_drewN | apply below_drew1 | refine below_set ?_ GE308.out) | exact HB.out)⟩

end Go.Proofs.YtkjijponijmdkaaGreat.PGrowChecks
